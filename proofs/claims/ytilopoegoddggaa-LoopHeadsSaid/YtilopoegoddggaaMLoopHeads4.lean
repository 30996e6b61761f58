/- Part 5 of the proof of the statement LoopHeads: the words of the walks, the walks through the functions that it reaches, and the plain laws of what they compute. -/
import Derived.Test.YtilopoegoddggaaMLoopHeads3
namespace Go.Proofs.Ytilopoegoddggaa.X
open Go.RowKit Go.Proofs.YtilopoegoddggaaW.PrintWords Go.Proofs.YtilopoegoddggaaW.PrintLast Go.Proofs.YtilopoegoddggaaW.PrintMore
attribute [local go_sem] max2_int min2_int max_two min_two max_three min_three max_four min_four
set_option linter.all false
noncomputable section
mutual
def davitref08_All.l0 : Nat → List Bool → List (List Bool) → Int → Int → Int → List (S50) → Option ((List (List Bool)))
 | 0, _, _, _, _, _, _ => none
 | k + 1, x3, x4, x5, x187000, x187001, x187002 => if x5 < (x187002.length : Int) then ((davitref07_Without.f k x187000 x187001 x187002 x5).bind fun t190 => (if 0 ≤ (x187002.length : Int) then (if ((x187002.length : Int) : Int).toNat ≤ 281474976710656 then (davitref08_All.l1 k x3 x4 x5 t190 (List.replicate ((x187002.length : Int) : Int).toNat false) 0 x187000 x187001 x187002) else (none)) else (none))) else (some x4)
def davitref08_All.l1 : Nat → List Bool → List (List Bool) → Int → List Bool → List Bool → Int → Int → Int → List (S50) → Option ((List (List Bool)))
 | 0, _, _, _, _, _, _, _, _, _ => none
 | k + 1, x3, x4, x5, x6, x7, x8, x187000, x187001, x187002 => if x8 < (x187002.length : Int) then (if 0 ≤ x8 then (if x8 < (x3.length : Int) then (if rdOf false x3 x8 = true then (if x5 = x8 then (if x8 < (x7.length : Int) then (davitref08_All.l1 k x3 x4 x5 x6 (x7.set (x8 : Int).toNat true) (wrap64 (x8 + 1)) x187000 x187001 x187002) else (none)) else (if x8 < (x6.length : Int) then (if x8 < (x7.length : Int) then (davitref08_All.l1 k x3 x4 x5 x6 (x7.set (x8 : Int).toNat (!(rdOf false x6 x8))) (wrap64 (x8 + 1)) x187000 x187001 x187002) else (none)) else (none))) else (if x8 < (x7.length : Int) then (davitref08_All.l1 k x3 x4 x5 x6 (x7.set (x8 : Int).toNat false) (wrap64 (x8 + 1)) x187000 x187001 x187002) else (none))) else (none)) else (none)) else (if x4.length < 5864062014805 then (davitref08_All.l0 k x3 (x4 ++ [x7]) (wrap64 (x5 + 1)) x187000 x187001 x187002) else (none))
end
def davitref08_All.f (k : Nat) (a0_0 : Int) (a0_1 : Int) (l0_2 : List (S50)) : Option ((List (List Bool))) := (davitref07_Reached.f k a0_0 a0_1 l0_2).bind fun t187 => (davitref08_All.l0 k t187 ([] : List (List Bool)) 0 a0_0 a0_1 l0_2)
theorem davitref08_All.mono_l : ∀ k, (∀ y0 y1 y2 y3 y4 y5, LeO (davitref08_All.l0 k y0 y1 y2 y3 y4 y5) (davitref08_All.l0 (k + 1) y0 y1 y2 y3 y4 y5)) ∧ (∀ y0 y1 y2 y3 y4 y5 y6 y7 y8, LeO (davitref08_All.l1 k y0 y1 y2 y3 y4 y5 y6 y7 y8) (davitref08_All.l1 (k + 1) y0 y1 y2 y3 y4 y5 y6 y7 y8))
 | 0 => ⟨fun _ _ _ _ _ _ r h => by simp [davitref08_All.l0] at h, fun _ _ _ _ _ _ _ _ _ r h => by simp [davitref08_All.l1] at h⟩
 | k + 1 => by
  obtain ⟨ih0, ih1⟩ := davitref08_All.mono_l k
  refine ⟨?_, ?_⟩
  ·intro y0 y1 y2 y3 y4 y5
   unfold davitref08_All.l0
   repeat' first
   | (with_reducible exact ih0 _ _ _ _ _ _)
   | (with_reducible exact ih1 _ _ _ _ _ _ _ _ _)
   | (with_reducible exact davitref07_Reached.mono _ _ _ _)
   | (with_reducible exact davitref07_Without.mono _ _ _ _ _)
   | (with_reducible exact LeO.refl _)
   | (with_reducible exact LeO.none _)
   | (with_reducible refine LeO.ite ?_ ?_)
   | (with_reducible refine LeO.bind ?_ (fun _ => ?_))
   | exact ih0 _ _ _ _ _ _
   | exact ih1 _ _ _ _ _ _ _ _ _
   | exact davitref07_Reached.mono _ _ _ _
   | exact davitref07_Without.mono _ _ _ _ _
   | exact LeO.none _
   | refine LeO.ite ?_ ?_
   | refine LeO.bind ?_ (fun _ => ?_)
  ·intro y0 y1 y2 y3 y4 y5 y6 y7 y8
   unfold davitref08_All.l1
   repeat' first
   | (with_reducible exact ih0 _ _ _ _ _ _)
   | (with_reducible exact ih1 _ _ _ _ _ _ _ _ _)
   | (with_reducible exact davitref07_Reached.mono _ _ _ _)
   | (with_reducible exact davitref07_Without.mono _ _ _ _ _)
   | (with_reducible exact LeO.refl _)
   | (with_reducible exact LeO.none _)
   | (with_reducible refine LeO.ite ?_ ?_)
   | (with_reducible refine LeO.bind ?_ (fun _ => ?_))
   | exact ih0 _ _ _ _ _ _
   | exact ih1 _ _ _ _ _ _ _ _ _
   | exact davitref07_Reached.mono _ _ _ _
   | exact davitref07_Without.mono _ _ _ _ _
   | exact LeO.none _
   | refine LeO.ite ?_ ?_
   | refine LeO.bind ?_ (fun _ => ?_)
theorem davitref08_All.mono : ∀ a0 a1 a2 k, LeO (davitref08_All.f k a0 a1 a2) (davitref08_All.f (k + 1) a0 a1 a2) := by
 intro a0 a1 a2 k
 obtain ⟨ih0, ih1⟩ := davitref08_All.mono_l k
 unfold davitref08_All.f
 repeat' first
   | (with_reducible exact ih0 _ _ _ _ _ _)
   | (with_reducible exact ih1 _ _ _ _ _ _ _ _ _)
   | (with_reducible exact davitref07_Reached.mono _ _ _ _)
   | (with_reducible exact davitref07_Without.mono _ _ _ _ _)
   | (with_reducible exact LeO.refl _)
   | (with_reducible exact LeO.none _)
   | (with_reducible refine LeO.ite ?_ ?_)
   | (with_reducible refine LeO.bind ?_ (fun _ => ?_))
   | exact ih0 _ _ _ _ _ _
   | exact ih1 _ _ _ _ _ _ _ _ _
   | exact davitref07_Reached.mono _ _ _ _
   | exact davitref07_Without.mono _ _ _ _ _
   | exact LeO.none _
   | refine LeO.ite ?_ ?_
   | refine LeO.bind ?_ (fun _ => ?_)
set_option maxHeartbeats 8000000 in
set_option maxRecDepth 100000 in
theorem davitref08_All.calls (k : Nat) (a0_0 : Int) (a0_1 : Int) (A0_2 : Option Addr) (c0_2 : Nat) (l0_2 : List (S50)) (r : List (List Bool)) (w : World) (hr0_2 : Kd.C k50 w A0_2 l0_2.length l0_2) (hc0_2 : l0_2.length ≤ c0_2) (h : davitref08_All.f k a0_0 a0_1 l0_2 = some r) :
  Calls Try.prog 28 #[.agg #[.int .i64 a0_0, .int .i64 a0_1, .slice A0_2 l0_2.length c0_2]] w fun e w' => ∃ v0_ : Value, e = .returned (v0_) ∧ Kd.S (Kd.slice 4 Kd.bool) 32 w' w.heap.size (fun _ => True) v0_ r ∧ Below w.heap.size w w' := by
 have hu24 := Try.underlying24
 have HR0_2 := Aside0.mk hr0_2
 have HC0_2 := Aside0.mk hc0_2
 clear hr0_2 hc0_2
 have HB := Aside0.mk (Below.refl w.heap.size w)
 have H : ((davitref07_Reached.f k a0_0 a0_1 l0_2).bind fun t187 => (davitref08_All.l0 k t187 ([] : List (List Bool)) 0 a0_0 a0_1 l0_2)) = some r := h
 clear h
 replace H := Option.bind_eq_some_iff.mp H
 obtain ⟨t187, A20, H⟩ := H
 replace H : (davitref08_All.l0 k t187 ([] : List (List Bool)) 0 a0_0 a0_1 l0_2) = some r := H
 have A2 := Aside0.mk A20
 clear A20
 have H' := Aside0.mk H
 clear H
 go_enter Try.func28, Try.ntmps28
 go_wp2_with (first | ((with_reducible refine gate_dst (N := 1) rfl ?_); refine box_event ?hg (N := 1) ?hd (cs := #[.int .i64 a0_0, .int .i64 a0_1, .slice A0_2 l0_2.length c0_2]) (t := 24) ?hr ?_; (case hd => rfl); (case hg => rfl); (case hr => first | (go_simp; done) | (go_simp; rfl)); intro gb186 hg w3 hbox hb; have n0_ := Aside0.mk (below_step (by repeat (first | (with_reducible first | exact HB.out | apply below_alloc | apply pw_below_drewN | apply below_drew1) | exact HB.out)) hb); have n1_ := Aside0.mk (hbox); have n2_ := Aside0.mk ((by rw [hg]; exact (below_size (by repeat (first | (with_reducible first | exact HB.out | apply below_alloc | apply pw_below_drewN | apply below_drew1) | exact HB.out))) : w.heap.size ≤ gb186)); have n3_ := Aside0.mk ((by rw [hg]; exact (below_size (by repeat (first | (with_reducible first | exact HB.out | apply below_alloc | apply pw_below_drewN | apply below_drew1) | exact HB.out))) : w.heap.size ≤ gb186)); clear HB; have HB := n0_; have BK186 := n1_; have GW186 := n2_; have GE186 := n3_; clear n0_ n1_ n2_ n3_; clear hb hbox hg; have hcz4_0 : w3.cell? ⟨gb186, 0, none⟩ = some (.int .i64 a0_0) := (blk_cell BK186.out 0).trans rfl; have hcz4_1 : w3.cell? ⟨gb186, 1, none⟩ = some (.int .i64 a0_1) := (blk_cell BK186.out 1).trans rfl; have hcz4_2 : w3.cell? ⟨gb186, 2, none⟩ = some (.slice A0_2 l0_2.length c0_2) := (blk_cell BK186.out 2).trans rfl; have hfz4_0 := blk_frozen BK186.out 0; have hfz4_1 := blk_frozen BK186.out 1; have hfz4_2 := blk_frozen BK186.out 2) | ((with_reducible refine gate_callee (f := 29) rfl ?_); refine goesL_ (some 10) rfl rfl Try.func29 (by kernel_rfl) rfl #[.agg #[.int .i64 a0_0, .int .i64 a0_1, .slice A0_2 l0_2.length c0_2]] rfl (by (try simp only [List.map_toArray, List.map_cons, List.map_nil]); first | done | rfl | (simp only [List.length_drop, List.length_take]; rfl)) ?_; (with_reducible refine (davitref07_Reached.calls k a0_0 a0_1 _ _ l0_2 t187 _ ?side1 ?side2 A2.out).mono ?_); (case side1 => repeat (first | exact (Kd.C_below HR0_2.out HB.out) | (with_reducible refine Kd.C_alloc ?_ _) | (with_reducible refine Kd.C_drewN ?_ _) | (with_reducible refine Kd.C_drew ?_))); (case side2 => exact HC0_2.out); rintro e w5 ⟨v188, rfl, ho0, hb⟩; refine ⟨_, rfl, ?_⟩; have n0_ := Aside0.mk (Kd.R_lower ho0 (below_size (by repeat (first | (with_reducible first | exact HB.out | apply below_alloc | apply pw_below_drewN | apply below_drew1 | refine below_set ?_ GE186.out) | exact HB.out)))); have n1_ := Aside0.mk (blk_below (g := gb186) (o := .cells #[.int .i64 a0_0, .int .i64 a0_1, .slice A0_2 l0_2.length c0_2] 24 (0, 0)) (by (with_reducible repeat (first | refine blk_drewN ?_ _ | refine blk_drew ?_ | refine blk_alloc ?_ _)); exact BK186.out) hb); have n2_ := Aside0.mk (below_step (by repeat (first | (with_reducible first | exact HB.out | apply below_alloc | apply pw_below_drewN | apply below_drew1 | refine below_set ?_ GE186.out) | exact HB.out)) hb); clear BK186; clear HB; have HO189 := n0_; have BK186 := n1_; have HB := n2_; clear n0_ n1_ n2_; (try clear hb); (try clear hb2); (try clear hk); (try clear hi); (try clear ho0)))
 go_loopg [4, 5] k (fun kq v4 v5 w' => ∃ (x3_1 : List Bool) (x4_1 : List (List Bool)) (x5_1 : Int), v5 = .int .i64 x5_1 ∧ Aside0 (davitref08_All.l0 kq x3_1 x4_1 x5_1 a0_0 a0_1 l0_2 = some r) ∧ Aside0 (kq ≤ k) ∧ Aside0 (Kd.R Kd.bool 4 w' w.heap.size (fun _ => True) v188 x3_1) ∧ Aside0 (Kd.S (Kd.slice 4 Kd.bool) 32 w' w.heap.size (fun k_ => some k_ ≠ (v188 : Value).ownBlock) v4 x4_1) ∧ Aside0 (w'.heap[gb186]? = some (.cells #[.int .i64 a0_0, .int .i64 a0_1, (.slice A0_2 l0_2.length c0_2)] 24 (0, 0))) ∧ Aside0 (Below w.heap.size w w'))
 case atStart => exact ⟨(t187), (([] : List (List Bool))), (0), (by first | rfl | (simp; done) | (simp [*]; done)), H', ⟨Nat.le_refl _⟩, ⟨by (with_reducible repeat (first | apply Kd.R_alloc | apply Kd.R_drewN | apply Kd.R_drew)); exact HO189.out⟩, ⟨by first | exact Kd.S_nil _ _ _ _ _ | exact Kd.N_nil _ _ _ _ _ | exact Kd.V_nil _ _ _ _ _ | exact Kd.Q_nil _ _ _ _ _ | exact Kd.R_nil _ _ _ _ _⟩, ⟨by (with_reducible repeat (first | refine blk_drewN ?_ _ | refine blk_drew ?_ | refine blk_alloc ?_ _)); exact BK186.out⟩, ⟨by repeat (first | (with_reducible first | exact HB.out | apply below_alloc | apply pw_below_drewN | apply below_drew1 | refine below_set ?_ GE186.out) | exact HB.out)⟩⟩
 case round =>
  clear H'
  try clear c2
  try clear p2
  try clear hcz4_0
  try clear hcz4_1
  try clear hcz4_2
  try clear hfz4_0
  try clear hfz4_1
  try clear hfz4_2
  obtain ⟨x3_1, x4_1, x5_1, rfl, HA, HK1, HO_3, HO_4, BK186, HB⟩ := hrel
  cases gk with
  | zero => exact absurd HA.out (by simp [davitref08_All.l0])
  | succ k1 =>
   have H := HA.out
   clear HA
   simp only [davitref08_All.l0] at H
   by_cases c6 : x5_1 < (l0_2.length : Int)
   ·rw [if_pos c6] at H
    have c6b0 : decide (x5_1 < (l0_2.length : Int)) = true := decide_eq_true c6
    clear c6
    replace H := Option.bind_eq_some_iff.mp H
    obtain ⟨t190, A70, H⟩ := H
    replace H : (if 0 ≤ (l0_2.length : Int) then (if ((l0_2.length : Int) : Int).toNat ≤ 281474976710656 then (davitref08_All.l1 k1 x3_1 x4_1 x5_1 t190 (List.replicate ((l0_2.length : Int) : Int).toNat false) 0 a0_0 a0_1 l0_2) else (none)) else (none)) = some r := H
    have A7 := Aside0.mk A70
    clear A70
    by_cases c8 : 0 ≤ (l0_2.length : Int)
    ·rw [if_pos c8] at H
     have c8b0 := eq_true c8
     have c8b1 : decide (0 ≤ (l0_2.length : Int)) = true := decide_eq_true c8
     clear c8
     by_cases c9 : ((l0_2.length : Int) : Int).toNat ≤ 281474976710656
     ·rw [if_pos c9] at H
      have c9b0 := eq_true c9
      have c9b1 : decide (((l0_2.length : Int) : Int).toNat ≤ 281474976710656) = true := decide_eq_true c9
      clear c9
      obtain ⟨y193, hy193⟩ : ∃ y_ : List Bool, y_ = (List.replicate ((l0_2.length : Int) : Int).toNat false) := ⟨_, rfl⟩
      replace H : (davitref08_All.l1 k1 x3_1 x4_1 x5_1 t190 y193 0 a0_0 a0_1 l0_2) = some r := by first | (rw [hy193]; with_reducible exact H) | (have H2_ := (Option.bind_some _ _).symm.trans H; rw [hy193]; with_reducible exact H2_) | (have H2_ := (Option.bind_some _ _).symm.trans H; with_reducible exact H2_) | with_reducible exact H | (rw [hy193]; exact H) | exact H
      have Ny193 := Aside0.mk hy193
      clear hy193
      have H' := Aside0.mk H
      clear H
      have hcz10_0 : wr.cell? ⟨gb186, 0, none⟩ = some (.int .i64 a0_0) := (blk_cell BK186.out 0).trans rfl
      have hcz10_1 : wr.cell? ⟨gb186, 1, none⟩ = some (.int .i64 a0_1) := (blk_cell BK186.out 1).trans rfl
      have hcz10_2 : wr.cell? ⟨gb186, 2, none⟩ = some (.slice A0_2 l0_2.length c0_2) := (blk_cell BK186.out 2).trans rfl
      have hfz10_0 := blk_frozen BK186.out 0
      have hfz10_1 := blk_frozen BK186.out 1
      have hfz10_2 := blk_frozen BK186.out 2
      go_wp2_with (first | ((with_reducible refine gate_callee (f := 30) rfl ?_); refine goesL_ (some 20) rfl rfl Try.func30 (by kernel_rfl) rfl #[.agg #[.int .i64 a0_0, .int .i64 a0_1, .slice A0_2 l0_2.length c0_2], .int .i64 x5_1] rfl (by (try simp only [List.map_toArray, List.map_cons, List.map_nil]); first | done | rfl | (simp only [List.length_drop, List.length_take]; rfl)) ?_; (with_reducible refine (davitref07_Without.calls k1 a0_0 a0_1 _ _ l0_2 x5_1 t190 _ ?side1 ?side2 A7.out).mono ?_); (case side1 => repeat (first | exact (Kd.C_below HR0_2.out HB.out) | (with_reducible refine Kd.C_alloc ?_ _) | (with_reducible refine Kd.C_drewN ?_ _) | (with_reducible refine Kd.C_drew ?_))); (case side2 => exact HC0_2.out); rintro e w11 ⟨v191, rfl, ho0, hb⟩; refine ⟨_, rfl, ?_⟩; have n0_ := Aside0.mk (Kd.R_elder' (by (with_reducible repeat (first | apply Kd.R_alloc | apply Kd.R_drewN | apply Kd.R_drew)); exact HO_3.out) (Kd.R_base ho0) hb); have n1_ := Aside0.mk (Kd.S_elder' (by (with_reducible repeat (first | apply Kd.S_alloc | apply Kd.S_drewN | apply Kd.S_drew)); exact HO_4.out) (Kd.R_base ho0) hb); have n2_ := Aside0.mk (Kd.R_lower (Kd.R_new' ho0 (Kd.R_lt (by (with_reducible repeat (first | apply Kd.R_alloc | apply Kd.R_drewN | apply Kd.R_drew)); exact HO_3.out))) (below_size (by repeat (first | (with_reducible first | exact HB.out | apply below_alloc | apply pw_below_drewN | apply below_drew1 | refine below_set ?_ GE186.out) | exact HB.out)))); have n3_ := Aside0.mk (blk_below (g := gb186) (o := .cells #[.int .i64 a0_0, .int .i64 a0_1, .slice A0_2 l0_2.length c0_2] 24 (0, 0)) (by (with_reducible repeat (first | refine blk_drewN ?_ _ | refine blk_drew ?_ | refine blk_alloc ?_ _)); exact BK186.out) hb); have n4_ := Aside0.mk (below_step (by repeat (first | (with_reducible first | exact HB.out | apply below_alloc | apply pw_below_drewN | apply below_drew1 | refine below_set ?_ GE186.out) | exact HB.out)) hb); clear HO_3; clear HO_4; clear BK186; clear HB; have HO_3 := n0_; have HO_4 := n1_; have HO192 := n2_; have BK186 := n3_; have HB := n4_; clear n0_ n1_ n2_ n3_ n4_; (try clear hb); (try clear hb2); (try clear hk); (try clear hi); (try clear ho0); have hcz12_0 : w11.cell? ⟨gb186, 0, none⟩ = some (.int .i64 a0_0) := (blk_cell BK186.out 0).trans rfl; have hcz12_1 : w11.cell? ⟨gb186, 1, none⟩ = some (.int .i64 a0_1) := (blk_cell BK186.out 1).trans rfl; have hcz12_2 : w11.cell? ⟨gb186, 2, none⟩ = some (.slice A0_2 l0_2.length c0_2) := (blk_cell BK186.out 2).trans rfl; have hfz12_0 := blk_frozen BK186.out 0; have hfz12_1 := blk_frozen BK186.out 1; have hfz12_2 := blk_frozen BK186.out 2) | ((with_reducible refine gate_dst (N := 24) rfl ?_); refine Kd.R_make Kd.bool _ 4 rfl (N := 24) rfl 32 _ _ rfl (l0_2.length : Int) rfl rfl Try.underlying32 (.bool false) 1 info4 rfl (by decide) (by omega) false (ok := fun _ => True) (okp := fun _ => True) rfl (fun _ hk => hk) trivial (of_decide_eq_true (by first | (with_reducible assumption) | assumption)) (Nat.le_trans (Nat.mul_le_mul_right _ (of_decide_eq_true (by first | (with_reducible assumption) | assumption) : (l0_2.length : Int).toNat ≤ 281474976710656)) (by omega)) (Below.refl _ _) (Nat.le_refl _) ?_; intro v194 w13 ho14 hb hg_ hnew_; clear hg_ hnew_; (first | rw [← Ny193.out] at ho14 | (simp only [Int.reduceToNat] at ho14; rw [← Ny193.out] at ho14)); have n0_ := Aside0.mk (Kd.R_elder' (by (with_reducible repeat (first | apply Kd.R_alloc | apply Kd.R_drewN | apply Kd.R_drew)); exact HO_3.out) (Kd.R_base ho14) hb); have n1_ := Aside0.mk (Kd.S_elder' (by (with_reducible repeat (first | apply Kd.S_alloc | apply Kd.S_drewN | apply Kd.S_drew)); exact HO_4.out) (Kd.R_base ho14) hb); have n2_ := Aside0.mk (Kd.R_elder' (by (with_reducible repeat (first | apply Kd.R_alloc | apply Kd.R_drewN | apply Kd.R_drew)); exact HO192.out) (Kd.R_base ho14) hb); have n3_ := Aside0.mk (Kd.R_lower (Kd.R_new' (Kd.R_new' ho14 (Kd.R_lt (by (with_reducible repeat (first | apply Kd.R_alloc | apply Kd.R_drewN | apply Kd.R_drew)); exact HO_3.out))) (Kd.R_lt (by (with_reducible repeat (first | apply Kd.R_alloc | apply Kd.R_drewN | apply Kd.R_drew)); exact HO192.out))) (below_size (by repeat (first | (with_reducible first | exact HB.out | apply below_alloc | apply pw_below_drewN | apply below_drew1 | refine below_set ?_ GE186.out) | exact HB.out)))); have n4_ := Aside0.mk (blk_below (g := gb186) (o := .cells #[.int .i64 a0_0, .int .i64 a0_1, .slice A0_2 l0_2.length c0_2] 24 (0, 0)) (by (with_reducible repeat (first | refine blk_drewN ?_ _ | refine blk_drew ?_ | refine blk_alloc ?_ _)); exact BK186.out) hb); have n5_ := Aside0.mk (below_step (by repeat (first | (with_reducible first | exact HB.out | apply below_alloc | apply pw_below_drewN | apply below_drew1 | refine below_set ?_ GE186.out) | exact HB.out)) hb); clear HO_3; clear HO_4; clear HO192; clear BK186; clear HB; have HO_3 := n0_; have HO_4 := n1_; have HO192 := n2_; have HO195 := n3_; have BK186 := n4_; have HB := n5_; clear n0_ n1_ n2_ n3_ n4_ n5_; clear hb ho14))
      go_loopg [8] k1 (fun kq v8 w' => ∃ (x7_2 : List Bool) (x8_2 : Int), v8 = .int .i64 x8_2 ∧ Aside0 (davitref08_All.l1 kq x3_1 x4_1 x5_1 t190 x7_2 x8_2 a0_0 a0_1 l0_2 = some r) ∧ Aside0 (kq ≤ k1) ∧ Aside0 (Kd.R Kd.bool 4 w' w.heap.size (fun k_ => some k_ ≠ (v191 : Value).ownBlock ∧ some k_ ≠ (v194 : Value).ownBlock) v188 x3_1) ∧ Aside0 (Kd.S (Kd.slice 4 Kd.bool) 32 w' w.heap.size (fun k_ => some k_ ≠ (v188 : Value).ownBlock ∧ some k_ ≠ (v191 : Value).ownBlock ∧ some k_ ≠ (v194 : Value).ownBlock) u4 x4_1) ∧ Aside0 (Kd.R Kd.bool 4 w' w.heap.size (fun k_ => some k_ ≠ (v188 : Value).ownBlock ∧ some k_ ≠ (v194 : Value).ownBlock) v191 t190) ∧ Aside0 (Kd.R Kd.bool 4 w' w.heap.size (fun k_ => some k_ ≠ (v188 : Value).ownBlock ∧ some k_ ≠ (v191 : Value).ownBlock) v194 x7_2) ∧ Aside0 (w'.heap[gb186]? = some (.cells #[.int .i64 a0_0, .int .i64 a0_1, (.slice A0_2 l0_2.length c0_2)] 24 (0, 0))) ∧ Aside0 (Below w.heap.size w w'))
      case atStart => exact ⟨(y193), (0), (by first | rfl | (simp; done) | (simp [*]; done)), H', ⟨Nat.le_refl _⟩, ⟨by (with_reducible repeat (first | apply Kd.R_alloc | apply Kd.R_drewN | apply Kd.R_drew)); exact Kd.R_mono HO_3.out (fun _ hk => ⟨hk.1.2, hk.2⟩)⟩, ⟨by (with_reducible repeat (first | apply Kd.S_alloc | apply Kd.S_drewN | apply Kd.S_drew)); exact Kd.S_mono HO_4.out (fun _ hk => ⟨hk.1.1, ⟨hk.1.2, hk.2⟩⟩)⟩, ⟨by (with_reducible repeat (first | apply Kd.R_alloc | apply Kd.R_drewN | apply Kd.R_drew)); exact Kd.R_mono HO192.out (fun _ hk => ⟨hk.1.2, hk.2⟩)⟩, ⟨by (with_reducible repeat (first | apply Kd.R_alloc | apply Kd.R_drewN | apply Kd.R_drew)); exact Kd.R_mono HO195.out (fun _ hk => ⟨hk.1.2, hk.2⟩)⟩, ⟨by (with_reducible repeat (first | refine blk_drewN ?_ _ | refine blk_drew ?_ | refine blk_alloc ?_ _)); exact BK186.out⟩, ⟨by repeat (first | (with_reducible first | exact HB.out | apply below_alloc | apply pw_below_drewN | apply below_drew1 | refine below_set ?_ GE186.out) | exact HB.out)⟩⟩
      case round =>
       clear H'
       try clear c2
       try clear p2
       try clear c3
       try clear c6
       try clear c6b0
       try clear c8
       try clear c8b0
       try clear c8b1
       try clear c9
       try clear c9b0
       try clear c9b1
       try clear hcz10_0
       try clear hcz10_1
       try clear hcz10_2
       try clear hcz12_0
       try clear hcz12_1
       try clear hcz12_2
       try clear hcz4_0
       try clear hcz4_1
       try clear hcz4_2
       try clear hfz10_0
       try clear hfz10_1
       try clear hfz10_2
       try clear hfz12_0
       try clear hfz12_1
       try clear hfz12_2
       try clear hfz4_0
       try clear hfz4_1
       try clear hfz4_2
       try clear p2
       obtain ⟨x7_2, x8_2, rfl, HA, HK2, HO_3, HO_4, HO_6, HO_7, BK186, HB⟩ := hrel
       cases gk with
       | zero => exact absurd HA.out (by simp [davitref08_All.l1])
       | succ k2 =>
        have H := HA.out
        clear HA
        simp only [davitref08_All.l1] at H
        by_cases c15 : x8_2 < (l0_2.length : Int)
        ·rw [if_pos c15] at H
         have c15b0 : decide (x8_2 < (l0_2.length : Int)) = true := decide_eq_true c15
         clear c15
         by_cases c16 : 0 ≤ x8_2
         ·rw [if_pos c16] at H
          have c16b0 : decide (0 ≤ x8_2) = true := decide_eq_true c16
          clear c16
          by_cases c17 : x8_2 < (x3_1.length : Int)
          ·rw [if_pos c17] at H
           have c17b0 : decide (x8_2 < (x3_1.length : Int)) = true := decide_eq_true c17
           clear c17
           obtain ⟨bq18, hbq18⟩ : ∃ b_ : Bool, b_ = (rdOf false x3_1 x8_2) := ⟨_, rfl⟩
           replace H : (if bq18 = true then (if x5_1 = x8_2 then (if x8_2 < (x7_2.length : Int) then (davitref08_All.l1 k2 x3_1 x4_1 x5_1 t190 (x7_2.set (x8_2 : Int).toNat true) (wrap64 (x8_2 + 1)) a0_0 a0_1 l0_2) else (none)) else (if x8_2 < (t190.length : Int) then (if x8_2 < (x7_2.length : Int) then (davitref08_All.l1 k2 x3_1 x4_1 x5_1 t190 (x7_2.set (x8_2 : Int).toNat (!(rdOf false t190 x8_2))) (wrap64 (x8_2 + 1)) a0_0 a0_1 l0_2) else (none)) else (none))) else (if x8_2 < (x7_2.length : Int) then (davitref08_All.l1 k2 x3_1 x4_1 x5_1 t190 (x7_2.set (x8_2 : Int).toNat false) (wrap64 (x8_2 + 1)) a0_0 a0_1 l0_2) else (none))) = some r := by rw [← hbq18] at H; exact H
           have Nbq18 := Aside0.mk hbq18
           clear hbq18
           by_cases c19 : bq18 = true
           ·subst c19
            have H1 : (if x5_1 = x8_2 then (if x8_2 < (x7_2.length : Int) then (davitref08_All.l1 k2 x3_1 x4_1 x5_1 t190 (x7_2.set (x8_2 : Int).toNat true) (wrap64 (x8_2 + 1)) a0_0 a0_1 l0_2) else (none)) else (if x8_2 < (t190.length : Int) then (if x8_2 < (x7_2.length : Int) then (davitref08_All.l1 k2 x3_1 x4_1 x5_1 t190 (x7_2.set (x8_2 : Int).toNat (!(rdOf false t190 x8_2))) (wrap64 (x8_2 + 1)) a0_0 a0_1 l0_2) else (none)) else (none))) = some r := by rw [if_pos rfl] at H; exact H
            clear H
            have H := H1
            clear H1
            by_cases c20 : x5_1 = x8_2
            ·rw [if_pos c20] at H
             have c20b0 : (x5_1 == x8_2) = true := beq_iff_eq.mpr c20
             have c20b1 : (x5_1 != x8_2) = false := bne_eq_false_iff_eq.mpr c20
             clear c20
             by_cases c21 : x8_2 < (x7_2.length : Int)
             ·rw [if_pos c21] at H
              have c21b0 : decide (x8_2 < (x7_2.length : Int)) = true := decide_eq_true c21
              clear c21
              obtain ⟨y197, hy197⟩ : ∃ y_ : List Bool, y_ = (x7_2.set (x8_2 : Int).toNat true) := ⟨_, rfl⟩
              replace H : (davitref08_All.l1 k2 x3_1 x4_1 x5_1 t190 y197 (wrap64 (x8_2 + 1)) a0_0 a0_1 l0_2) = some r := by first | (rw [hy197]; with_reducible exact H) | (have H2_ := (Option.bind_some _ _).symm.trans H; rw [hy197]; with_reducible exact H2_) | (have H2_ := (Option.bind_some _ _).symm.trans H; with_reducible exact H2_) | with_reducible exact H | (rw [hy197]; exact H) | exact H
              have Ny197 := Aside0.mk hy197
              clear hy197
              have H' := Aside0.mk H
              clear H
              have hcz23_0 : wr.cell? ⟨gb186, 0, none⟩ = some (.int .i64 a0_0) := (blk_cell BK186.out 0).trans rfl
              have hcz23_1 : wr.cell? ⟨gb186, 1, none⟩ = some (.int .i64 a0_1) := (blk_cell BK186.out 1).trans rfl
              have hcz23_2 : wr.cell? ⟨gb186, 2, none⟩ = some (.slice A0_2 l0_2.length c0_2) := (blk_cell BK186.out 2).trans rfl
              have hfz23_0 := blk_frozen BK186.out 0
              have hfz23_1 := blk_frozen BK186.out 1
              have hfz23_2 := blk_frozen BK186.out 2
              obtain ⟨Ao24, co24, eo24⟩ := Kd.R_slice HO_3.out
              subst eo24
              have p196 : 0 ≤ (x8_2 : Int) := of_decide_eq_true (by first | (with_reducible assumption) | assumption)
              have q196 : x8_2 < (x3_1.length : Int) := of_decide_eq_true (by first | (with_reducible assumption) | assumption)
              obtain ⟨ad196, e196, hx196_0⟩ := Kd.at_bool (Kd.R_reads' HO_3.out).2.2 x8_2 p196 q196
              (try rw [← Nbq18.out] at hx196_0)
              cases e196
              replace p196 := eq_true p196
              replace q196 := eq_true q196
              have p22 : 0 ≤ (x8_2 : Int) := of_decide_eq_true (by first | (with_reducible assumption) | assumption)
              have q22 : (x8_2 : Int) < ((x7_2.length : Int) : Int) := of_decide_eq_true (by first | (with_reducible assumption) | assumption)
              obtain ⟨go22, co22, eo22, gb22, gl22, cl22, HG22⟩ := Kd.R_form HO_7.out (by omega)
              (first | cases eo22 | (injection eo22 with ea_ en_ ec_; (first | subst ea_ | (injection ea_ with ea_; subst ea_)); subst ec_; clear en_))
              have GB22 := Aside0.mk gb22
              have GG22 := Aside0.mk HG22
              clear gb22 gl22 HG22
              obtain ⟨hx22_0, hf22_0⟩ := Kd.R_celln false HO_7.out (x8_2 : Int) p22 q22
              replace p22 := eq_true p22
              replace q22 := eq_true q22
              have HP25 := Kd.R_putg HO_7.out (x8_2 : Int) true
              go_wp2_with (first | ((with_reducible refine gate_store (t := 4) (p := 50) rfl ?_); refine store_event (t := 4) (p := 50) (v := ?vo_w26) (w1 := (wr.setCell ⟨go22, (x8_2 : Int).toNat, none⟩ (.bool true))) ?hg ?ho ?hn ?hr ?_; (case ho => rfl); (case hg => rfl); (case hn => rfl); (case hr => first | (go_simp; done) | (go_simp; rfl)); intro w26 hw; have hg : wr.grownBy w26 (some go22) := (by rw [hw]; exact HP25.2); have hp_ : Kd.R Kd.bool 4 w26 w.heap.size (fun k_ => some k_ ≠ (.slice (some ad196) x3_1.length co24 : Value).ownBlock ∧ some k_ ≠ (v191 : Value).ownBlock) (.slice (some ⟨go22, 0, none⟩) x7_2.length co22) y197 := (by rw [hw, Ny197.out]; exact HP25.1); clear HP25; have n0_ := Aside0.mk (Kd.R_after (v := (.slice (some ⟨go22, 0, none⟩) x7_2.length co22)) (v1 := (.slice (some ⟨go22, 0, none⟩) x7_2.length co22)) (ok := (fun k_ => some k_ ≠ (v191 : Value).ownBlock)) (by (with_reducible repeat (first | apply Kd.R_alloc | apply Kd.R_drewN | apply Kd.R_drew)); exact HO_3.out) hg (.inl rfl)); have n1_ := Aside0.mk (Kd.S_after (v := (.slice (some ⟨go22, 0, none⟩) x7_2.length co22)) (v1 := (.slice (some ⟨go22, 0, none⟩) x7_2.length co22)) (ok := (fun k_ => some k_ ≠ (.slice (some ad196) x3_1.length co24 : Value).ownBlock ∧ some k_ ≠ (v191 : Value).ownBlock)) (by (with_reducible repeat (first | apply Kd.S_alloc | apply Kd.S_drewN | apply Kd.S_drew)); exact Kd.S_mono HO_4.out (fun _ hk => ⟨⟨hk.1, hk.2.1⟩, hk.2.2⟩)) hg (.inl rfl)); have n2_ := Aside0.mk (Kd.R_after (v := (.slice (some ⟨go22, 0, none⟩) x7_2.length co22)) (v1 := (.slice (some ⟨go22, 0, none⟩) x7_2.length co22)) (ok := (fun k_ => some k_ ≠ (.slice (some ad196) x3_1.length co24 : Value).ownBlock)) (by (with_reducible repeat (first | apply Kd.R_alloc | apply Kd.R_drewN | apply Kd.R_drew)); exact HO_6.out) hg (.inl rfl)); have n3_ := Aside0.mk (hp_); have n4_ := Aside0.mk (blk_grown (g := gb186) (o := .cells #[.int .i64 a0_0, .int .i64 a0_1, .slice A0_2 l0_2.length c0_2] 24 (0, 0)) (by (with_reducible repeat (first | refine blk_drewN ?_ _ | refine blk_drew ?_ | refine blk_alloc ?_ _)); exact BK186.out) hg (Kd.R_ne HO_7.out BK186.out (by decide))); have n5_ := Aside0.mk ((by rw [hw]; exact below_set (HB.out) GB22.out : Below w.heap.size w w26)); clear HO_3; clear HO_4; clear HO_6; clear HO_7; clear BK186; clear HB; have HO_3 := n0_; have HO_4 := n1_; have HO_6 := n2_; have HO_7 := n3_; have BK186 := n4_; have HB := n5_; clear n0_ n1_ n2_ n3_ n4_ n5_; clear hg hw hp_))
              go_roundg k2
              case measure => have := HK1.out; have := HK2.out; omega
              case rel => exact ⟨(y197), (wrap64 (x8_2 + 1)), (by first | rfl | (simp; done) | (simp [*]; done)), H', ⟨by have := HK1.out; have := HK2.out; omega⟩, ⟨by (with_reducible repeat (first | apply Kd.R_alloc | apply Kd.R_drewN | apply Kd.R_drew)); exact HO_3.out⟩, ⟨by (with_reducible repeat (first | apply Kd.S_alloc | apply Kd.S_drewN | apply Kd.S_drew)); exact Kd.S_mono HO_4.out (fun _ hk => ⟨hk.1.1, ⟨hk.1.2, hk.2⟩⟩)⟩, ⟨by (with_reducible repeat (first | apply Kd.R_alloc | apply Kd.R_drewN | apply Kd.R_drew)); exact HO_6.out⟩, ⟨by (with_reducible repeat (first | apply Kd.R_alloc | apply Kd.R_drewN | apply Kd.R_drew)); exact HO_7.out⟩, ⟨by (with_reducible repeat (first | refine blk_drewN ?_ _ | refine blk_drew ?_ | refine blk_alloc ?_ _)); exact BK186.out⟩, ⟨by repeat (first | (with_reducible first | exact HB.out | apply below_alloc | apply pw_below_drewN | apply below_drew1 | refine below_set ?_ GE186.out) | exact HB.out)⟩⟩
             ·rw [if_neg c21] at H
              exact absurd H (by simp)
            ·rw [if_neg c20] at H
             have c20b0 : (x5_1 == x8_2) = false := beq_eq_false_iff_ne.mpr c20
             have c20b1 : (x5_1 != x8_2) = true := bne_iff_ne.mpr c20
             by_cases c27 : x8_2 < (t190.length : Int)
             ·rw [if_pos c27] at H
              have c27b0 : decide (x8_2 < (t190.length : Int)) = true := decide_eq_true c27
              clear c27
              by_cases c28 : x8_2 < (x7_2.length : Int)
              ·rw [if_pos c28] at H
               have c28b0 : decide (x8_2 < (x7_2.length : Int)) = true := decide_eq_true c28
               clear c28
               obtain ⟨y199, hy199⟩ : ∃ y_ : List Bool, y_ = (x7_2.set (x8_2 : Int).toNat (!(rdOf false t190 x8_2))) := ⟨_, rfl⟩
               replace H : (davitref08_All.l1 k2 x3_1 x4_1 x5_1 t190 y199 (wrap64 (x8_2 + 1)) a0_0 a0_1 l0_2) = some r := by first | (rw [hy199]; with_reducible exact H) | (have H2_ := (Option.bind_some _ _).symm.trans H; rw [hy199]; with_reducible exact H2_) | (have H2_ := (Option.bind_some _ _).symm.trans H; with_reducible exact H2_) | with_reducible exact H | (rw [hy199]; exact H) | exact H
               have Ny199 := Aside0.mk hy199
               clear hy199
               have H' := Aside0.mk H
               clear H
               have hcz30_0 : wr.cell? ⟨gb186, 0, none⟩ = some (.int .i64 a0_0) := (blk_cell BK186.out 0).trans rfl
               have hcz30_1 : wr.cell? ⟨gb186, 1, none⟩ = some (.int .i64 a0_1) := (blk_cell BK186.out 1).trans rfl
               have hcz30_2 : wr.cell? ⟨gb186, 2, none⟩ = some (.slice A0_2 l0_2.length c0_2) := (blk_cell BK186.out 2).trans rfl
               have hfz30_0 := blk_frozen BK186.out 0
               have hfz30_1 := blk_frozen BK186.out 1
               have hfz30_2 := blk_frozen BK186.out 2
               obtain ⟨Ao31, co31, eo31⟩ := Kd.R_slice HO_3.out
               subst eo31
               have p196 : 0 ≤ (x8_2 : Int) := of_decide_eq_true (by first | (with_reducible assumption) | assumption)
               have q196 : x8_2 < (x3_1.length : Int) := of_decide_eq_true (by first | (with_reducible assumption) | assumption)
               obtain ⟨ad196, e196, hx196_0⟩ := Kd.at_bool (Kd.R_reads' HO_3.out).2.2 x8_2 p196 q196
               (try rw [← Nbq18.out] at hx196_0)
               cases e196
               replace p196 := eq_true p196
               replace q196 := eq_true q196
               obtain ⟨Ao32, co32, eo32⟩ := Kd.R_slice HO_6.out
               subst eo32
               have p198 : 0 ≤ (x8_2 : Int) := of_decide_eq_true (by first | (with_reducible assumption) | assumption)
               have q198 : x8_2 < (t190.length : Int) := of_decide_eq_true (by first | (with_reducible assumption) | assumption)
               obtain ⟨ad198, e198, hx198_0⟩ := Kd.at_bool (Kd.R_reads' HO_6.out).2.2 x8_2 p198 q198
               (try rw [← Nbq18.out] at hx198_0)
               cases e198
               replace p198 := eq_true p198
               replace q198 := eq_true q198
               have p29 : 0 ≤ (x8_2 : Int) := of_decide_eq_true (by first | (with_reducible assumption) | assumption)
               have q29 : (x8_2 : Int) < ((x7_2.length : Int) : Int) := of_decide_eq_true (by first | (with_reducible assumption) | assumption)
               obtain ⟨go29, co29, eo29, gb29, gl29, cl29, HG29⟩ := Kd.R_form HO_7.out (by omega)
               (first | cases eo29 | (injection eo29 with ea_ en_ ec_; (first | subst ea_ | (injection ea_ with ea_; subst ea_)); subst ec_; clear en_))
               have GB29 := Aside0.mk gb29
               have GG29 := Aside0.mk HG29
               clear gb29 gl29 HG29
               obtain ⟨hx29_0, hf29_0⟩ := Kd.R_celln false HO_7.out (x8_2 : Int) p29 q29
               replace p29 := eq_true p29
               replace q29 := eq_true q29
               have HP33 := Kd.R_putg HO_7.out (x8_2 : Int) (!(rdOf false t190 x8_2))
               go_wp2_with (first | ((with_reducible refine gate_store (t := 4) (p := 50) rfl ?_); refine store_event (t := 4) (p := 50) (v := ?vo_w34) (w1 := (wr.setCell ⟨go29, (x8_2 : Int).toNat, none⟩ (.bool (!(rdOf false t190 x8_2))))) ?hg ?ho ?hn ?hr ?_; (case ho => rfl); (case hg => rfl); (case hn => rfl); (case hr => first | (go_simp; done) | (go_simp; rfl)); intro w34 hw; have hg : wr.grownBy w34 (some go29) := (by rw [hw]; exact HP33.2); have hp_ : Kd.R Kd.bool 4 w34 w.heap.size (fun k_ => some k_ ≠ (.slice (some ad196) x3_1.length co31 : Value).ownBlock ∧ some k_ ≠ (.slice (some ad198) t190.length co32 : Value).ownBlock) (.slice (some ⟨go29, 0, none⟩) x7_2.length co29) y199 := (by rw [hw, Ny199.out]; exact HP33.1); clear HP33; have n0_ := Aside0.mk (Kd.R_after (v := (.slice (some ⟨go29, 0, none⟩) x7_2.length co29)) (v1 := (.slice (some ⟨go29, 0, none⟩) x7_2.length co29)) (ok := (fun k_ => some k_ ≠ (.slice (some ad198) t190.length co32 : Value).ownBlock)) (by (with_reducible repeat (first | apply Kd.R_alloc | apply Kd.R_drewN | apply Kd.R_drew)); exact HO_3.out) hg (.inl rfl)); have n1_ := Aside0.mk (Kd.S_after (v := (.slice (some ⟨go29, 0, none⟩) x7_2.length co29)) (v1 := (.slice (some ⟨go29, 0, none⟩) x7_2.length co29)) (ok := (fun k_ => some k_ ≠ (.slice (some ad196) x3_1.length co31 : Value).ownBlock ∧ some k_ ≠ (.slice (some ad198) t190.length co32 : Value).ownBlock)) (by (with_reducible repeat (first | apply Kd.S_alloc | apply Kd.S_drewN | apply Kd.S_drew)); exact Kd.S_mono HO_4.out (fun _ hk => ⟨⟨hk.1, hk.2.1⟩, hk.2.2⟩)) hg (.inl rfl)); have n2_ := Aside0.mk (Kd.R_after (v := (.slice (some ⟨go29, 0, none⟩) x7_2.length co29)) (v1 := (.slice (some ⟨go29, 0, none⟩) x7_2.length co29)) (ok := (fun k_ => some k_ ≠ (.slice (some ad196) x3_1.length co31 : Value).ownBlock)) (by (with_reducible repeat (first | apply Kd.R_alloc | apply Kd.R_drewN | apply Kd.R_drew)); exact HO_6.out) hg (.inl rfl)); have n3_ := Aside0.mk (hp_); have n4_ := Aside0.mk (blk_grown (g := gb186) (o := .cells #[.int .i64 a0_0, .int .i64 a0_1, .slice A0_2 l0_2.length c0_2] 24 (0, 0)) (by (with_reducible repeat (first | refine blk_drewN ?_ _ | refine blk_drew ?_ | refine blk_alloc ?_ _)); exact BK186.out) hg (Kd.R_ne HO_7.out BK186.out (by decide))); have n5_ := Aside0.mk ((by rw [hw]; exact below_set (HB.out) GB29.out : Below w.heap.size w w34)); clear HO_3; clear HO_4; clear HO_6; clear HO_7; clear BK186; clear HB; have HO_3 := n0_; have HO_4 := n1_; have HO_6 := n2_; have HO_7 := n3_; have BK186 := n4_; have HB := n5_; clear n0_ n1_ n2_ n3_ n4_ n5_; clear hg hw hp_))
               go_roundg k2
               case measure => have := HK1.out; have := HK2.out; omega
               case rel => exact ⟨(y199), (wrap64 (x8_2 + 1)), (by first | rfl | (simp; done) | (simp [*]; done)), H', ⟨by have := HK1.out; have := HK2.out; omega⟩, ⟨by (with_reducible repeat (first | apply Kd.R_alloc | apply Kd.R_drewN | apply Kd.R_drew)); exact HO_3.out⟩, ⟨by (with_reducible repeat (first | apply Kd.S_alloc | apply Kd.S_drewN | apply Kd.S_drew)); exact Kd.S_mono HO_4.out (fun _ hk => ⟨hk.1.1, ⟨hk.1.2, hk.2⟩⟩)⟩, ⟨by (with_reducible repeat (first | apply Kd.R_alloc | apply Kd.R_drewN | apply Kd.R_drew)); exact HO_6.out⟩, ⟨by (with_reducible repeat (first | apply Kd.R_alloc | apply Kd.R_drewN | apply Kd.R_drew)); exact HO_7.out⟩, ⟨by (with_reducible repeat (first | refine blk_drewN ?_ _ | refine blk_drew ?_ | refine blk_alloc ?_ _)); exact BK186.out⟩, ⟨by repeat (first | (with_reducible first | exact HB.out | apply below_alloc | apply pw_below_drewN | apply below_drew1 | refine below_set ?_ GE186.out) | exact HB.out)⟩⟩
              ·rw [if_neg c28] at H
               exact absurd H (by simp)
             ·rw [if_neg c27] at H
              exact absurd H (by simp)
           ·replace c19 := Bool.eq_false_iff.mpr c19
            subst c19
            have H1 : (if x8_2 < (x7_2.length : Int) then (davitref08_All.l1 k2 x3_1 x4_1 x5_1 t190 (x7_2.set (x8_2 : Int).toNat false) (wrap64 (x8_2 + 1)) a0_0 a0_1 l0_2) else (none)) = some r := by rw [if_neg (show ¬ (false = true) by decide)] at H; exact H
            clear H
            have H := H1
            clear H1
            by_cases c35 : x8_2 < (x7_2.length : Int)
            ·rw [if_pos c35] at H
             have c35b0 : decide (x8_2 < (x7_2.length : Int)) = true := decide_eq_true c35
             clear c35
             obtain ⟨y200, hy200⟩ : ∃ y_ : List Bool, y_ = (x7_2.set (x8_2 : Int).toNat false) := ⟨_, rfl⟩
             replace H : (davitref08_All.l1 k2 x3_1 x4_1 x5_1 t190 y200 (wrap64 (x8_2 + 1)) a0_0 a0_1 l0_2) = some r := by first | (rw [hy200]; with_reducible exact H) | (have H2_ := (Option.bind_some _ _).symm.trans H; rw [hy200]; with_reducible exact H2_) | (have H2_ := (Option.bind_some _ _).symm.trans H; with_reducible exact H2_) | with_reducible exact H | (rw [hy200]; exact H) | exact H
             have Ny200 := Aside0.mk hy200
             clear hy200
             have H' := Aside0.mk H
             clear H
             have hcz37_0 : wr.cell? ⟨gb186, 0, none⟩ = some (.int .i64 a0_0) := (blk_cell BK186.out 0).trans rfl
             have hcz37_1 : wr.cell? ⟨gb186, 1, none⟩ = some (.int .i64 a0_1) := (blk_cell BK186.out 1).trans rfl
             have hcz37_2 : wr.cell? ⟨gb186, 2, none⟩ = some (.slice A0_2 l0_2.length c0_2) := (blk_cell BK186.out 2).trans rfl
             have hfz37_0 := blk_frozen BK186.out 0
             have hfz37_1 := blk_frozen BK186.out 1
             have hfz37_2 := blk_frozen BK186.out 2
             obtain ⟨Ao38, co38, eo38⟩ := Kd.R_slice HO_3.out
             subst eo38
             have p196 : 0 ≤ (x8_2 : Int) := of_decide_eq_true (by first | (with_reducible assumption) | assumption)
             have q196 : x8_2 < (x3_1.length : Int) := of_decide_eq_true (by first | (with_reducible assumption) | assumption)
             obtain ⟨ad196, e196, hx196_0⟩ := Kd.at_bool (Kd.R_reads' HO_3.out).2.2 x8_2 p196 q196
             (try rw [← Nbq18.out] at hx196_0)
             cases e196
             replace p196 := eq_true p196
             replace q196 := eq_true q196
             have p36 : 0 ≤ (x8_2 : Int) := of_decide_eq_true (by first | (with_reducible assumption) | assumption)
             have q36 : (x8_2 : Int) < ((x7_2.length : Int) : Int) := of_decide_eq_true (by first | (with_reducible assumption) | assumption)
             obtain ⟨go36, co36, eo36, gb36, gl36, cl36, HG36⟩ := Kd.R_form HO_7.out (by omega)
             (first | cases eo36 | (injection eo36 with ea_ en_ ec_; (first | subst ea_ | (injection ea_ with ea_; subst ea_)); subst ec_; clear en_))
             have GB36 := Aside0.mk gb36
             have GG36 := Aside0.mk HG36
             clear gb36 gl36 HG36
             obtain ⟨hx36_0, hf36_0⟩ := Kd.R_celln false HO_7.out (x8_2 : Int) p36 q36
             replace p36 := eq_true p36
             replace q36 := eq_true q36
             have HP39 := Kd.R_putg HO_7.out (x8_2 : Int) false
             go_wp2_with (first | ((with_reducible refine gate_store (t := 4) (p := 50) rfl ?_); refine store_event (t := 4) (p := 50) (v := ?vo_w40) (w1 := (wr.setCell ⟨go36, (x8_2 : Int).toNat, none⟩ (.bool false))) ?hg ?ho ?hn ?hr ?_; (case ho => rfl); (case hg => rfl); (case hn => rfl); (case hr => first | (go_simp; done) | (go_simp; rfl)); intro w40 hw; have hg : wr.grownBy w40 (some go36) := (by rw [hw]; exact HP39.2); have hp_ : Kd.R Kd.bool 4 w40 w.heap.size (fun k_ => some k_ ≠ (.slice (some ad196) x3_1.length co38 : Value).ownBlock ∧ some k_ ≠ (v191 : Value).ownBlock) (.slice (some ⟨go36, 0, none⟩) x7_2.length co36) y200 := (by rw [hw, Ny200.out]; exact HP39.1); clear HP39; have n0_ := Aside0.mk (Kd.R_after (v := (.slice (some ⟨go36, 0, none⟩) x7_2.length co36)) (v1 := (.slice (some ⟨go36, 0, none⟩) x7_2.length co36)) (ok := (fun k_ => some k_ ≠ (v191 : Value).ownBlock)) (by (with_reducible repeat (first | apply Kd.R_alloc | apply Kd.R_drewN | apply Kd.R_drew)); exact HO_3.out) hg (.inl rfl)); have n1_ := Aside0.mk (Kd.S_after (v := (.slice (some ⟨go36, 0, none⟩) x7_2.length co36)) (v1 := (.slice (some ⟨go36, 0, none⟩) x7_2.length co36)) (ok := (fun k_ => some k_ ≠ (.slice (some ad196) x3_1.length co38 : Value).ownBlock ∧ some k_ ≠ (v191 : Value).ownBlock)) (by (with_reducible repeat (first | apply Kd.S_alloc | apply Kd.S_drewN | apply Kd.S_drew)); exact Kd.S_mono HO_4.out (fun _ hk => ⟨⟨hk.1, hk.2.1⟩, hk.2.2⟩)) hg (.inl rfl)); have n2_ := Aside0.mk (Kd.R_after (v := (.slice (some ⟨go36, 0, none⟩) x7_2.length co36)) (v1 := (.slice (some ⟨go36, 0, none⟩) x7_2.length co36)) (ok := (fun k_ => some k_ ≠ (.slice (some ad196) x3_1.length co38 : Value).ownBlock)) (by (with_reducible repeat (first | apply Kd.R_alloc | apply Kd.R_drewN | apply Kd.R_drew)); exact HO_6.out) hg (.inl rfl)); have n3_ := Aside0.mk (hp_); have n4_ := Aside0.mk (blk_grown (g := gb186) (o := .cells #[.int .i64 a0_0, .int .i64 a0_1, .slice A0_2 l0_2.length c0_2] 24 (0, 0)) (by (with_reducible repeat (first | refine blk_drewN ?_ _ | refine blk_drew ?_ | refine blk_alloc ?_ _)); exact BK186.out) hg (Kd.R_ne HO_7.out BK186.out (by decide))); have n5_ := Aside0.mk ((by rw [hw]; exact below_set (HB.out) GB36.out : Below w.heap.size w w40)); clear HO_3; clear HO_4; clear HO_6; clear HO_7; clear BK186; clear HB; have HO_3 := n0_; have HO_4 := n1_; have HO_6 := n2_; have HO_7 := n3_; have BK186 := n4_; have HB := n5_; clear n0_ n1_ n2_ n3_ n4_ n5_; clear hg hw hp_))
             go_roundg k2
             case measure => have := HK1.out; have := HK2.out; omega
             case rel => exact ⟨(y200), (wrap64 (x8_2 + 1)), (by first | rfl | (simp; done) | (simp [*]; done)), H', ⟨by have := HK1.out; have := HK2.out; omega⟩, ⟨by (with_reducible repeat (first | apply Kd.R_alloc | apply Kd.R_drewN | apply Kd.R_drew)); exact HO_3.out⟩, ⟨by (with_reducible repeat (first | apply Kd.S_alloc | apply Kd.S_drewN | apply Kd.S_drew)); exact Kd.S_mono HO_4.out (fun _ hk => ⟨hk.1.1, ⟨hk.1.2, hk.2⟩⟩)⟩, ⟨by (with_reducible repeat (first | apply Kd.R_alloc | apply Kd.R_drewN | apply Kd.R_drew)); exact HO_6.out⟩, ⟨by (with_reducible repeat (first | apply Kd.R_alloc | apply Kd.R_drewN | apply Kd.R_drew)); exact HO_7.out⟩, ⟨by (with_reducible repeat (first | refine blk_drewN ?_ _ | refine blk_drew ?_ | refine blk_alloc ?_ _)); exact BK186.out⟩, ⟨by repeat (first | (with_reducible first | exact HB.out | apply below_alloc | apply pw_below_drewN | apply below_drew1 | refine below_set ?_ GE186.out) | exact HB.out)⟩⟩
            ·rw [if_neg c35] at H
             exact absurd H (by simp)
          ·rw [if_neg c17] at H
           exact absurd H (by simp)
         ·rw [if_neg c16] at H
          exact absurd H (by simp)
        ·rw [if_neg c15] at H
         have c15b0 : decide (x8_2 < (l0_2.length : Int)) = false := decide_eq_false c15
         clear c15
         by_cases c41 : x4_1.length < 5864062014805
         ·rw [if_pos c41] at H
          have LMc41 := Aside0.mk c41
          clear c41
          obtain ⟨y201, hy201⟩ : ∃ y_ : List (List Bool), y_ = (x4_1 ++ [x7_2]) := ⟨_, rfl⟩
          replace H : (davitref08_All.l0 k2 x3_1 y201 (wrap64 (x5_1 + 1)) a0_0 a0_1 l0_2) = some r := by first | (rw [hy201]; with_reducible exact H) | (have H2_ := (Option.bind_some _ _).symm.trans H; rw [hy201]; with_reducible exact H2_) | (have H2_ := (Option.bind_some _ _).symm.trans H; with_reducible exact H2_) | with_reducible exact H | (rw [hy201]; exact H) | exact H
          have Ny201 := Aside0.mk hy201
          clear hy201
          have H' := Aside0.mk H
          clear H
          have hcz42_0 : wr.cell? ⟨gb186, 0, none⟩ = some (.int .i64 a0_0) := (blk_cell BK186.out 0).trans rfl
          have hcz42_1 : wr.cell? ⟨gb186, 1, none⟩ = some (.int .i64 a0_1) := (blk_cell BK186.out 1).trans rfl
          have hcz42_2 : wr.cell? ⟨gb186, 2, none⟩ = some (.slice A0_2 l0_2.length c0_2) := (blk_cell BK186.out 2).trans rfl
          have hfz42_0 := blk_frozen BK186.out 0
          have hfz42_1 := blk_frozen BK186.out 1
          have hfz42_2 := blk_frozen BK186.out 2
          obtain ⟨Ao44, co44, eo44⟩ := Kd.R_slice HO_7.out
          subst eo44
          go_wp2_with (first | ((with_reducible refine gate_builtin (b := .append) (xs := #[.tmp 51, .tmp 53]) rfl ?_); at_builtin; refine Kd.S_append (Kd.slice 4 Kd.bool) (w0 := w) w.heap.size rfl (.tmp 51) (.tmp 53) 56 32 (.slice none 0 0) 24 rfl Try.underlying56 info32 rfl (by decide) (by omega) u4 x4_1 x7_2 [.slice Ao44 x7_2.length co44] (fun k_ => some k_ ≠ (v188 : Value).ownBlock ∧ some k_ ≠ (v191 : Value).ownBlock) (fun k_ => some k_ = (.slice Ao44 x7_2.length co44 : Value).ownBlock) rfl rfl ?aP (fun k_ hk_ => ((Kd.R_mono (ok' := fun k_ => ((fun k_ => some k_ ≠ (v188 : Value).ownBlock ∧ some k_ ≠ (v191 : Value).ownBlock)) k_ ∧ some k_ ≠ (u4 : Value).ownBlock) (Kd.R_apart' (HO_7.out) (Kd.S_typed HO_4.out) (by decide)) (fun k_ hk => ⟨⟨hk.1.1, hk.1.2⟩, hk.2⟩))).1 k_ hk_.symm) ?aF ?aO ?aB ?aS ?aL ?_; (case aP => exact Kd.M_row (Kd.R_mono (Kd.R_tight rfl (Kd.R_mono (ok' := fun k_ => ((fun k_ => some k_ ≠ (v188 : Value).ownBlock ∧ some k_ ≠ (v191 : Value).ownBlock)) k_ ∧ some k_ ≠ (u4 : Value).ownBlock) (Kd.R_apart' (HO_7.out) (Kd.S_typed HO_4.out) (by decide)) (fun k_ hk => ⟨⟨hk.1.1, hk.1.2⟩, hk.2⟩))) (fun _ h_ => h_))); (case aB => exact (by repeat (first | (with_reducible first | exact HB.out | apply below_alloc | apply pw_below_drewN | apply below_drew1 | refine below_set ?_ GE186.out) | exact HB.out))); (case aF => exact (fun k_ hk => ⟨Kd.fresh' (Kd.R_lt (by (with_reducible repeat (first | apply Kd.R_alloc | apply Kd.R_drewN | apply Kd.R_drew)); exact HO_3.out)) k_ hk, Kd.fresh' (Kd.R_lt (by (with_reducible repeat (first | apply Kd.R_alloc | apply Kd.R_drewN | apply Kd.R_drew)); exact HO_6.out)) k_ hk⟩)); (case aO => exact (by (with_reducible repeat (first | apply Kd.S_alloc | apply Kd.S_drewN | apply Kd.S_drew)); exact Kd.S_mono HO_4.out (fun k_ hk => ⟨⟨hk.1, hk.2.1⟩, fun e_ => hk.2.2 e_⟩))); (case aS => exact (below_size (by repeat (first | (with_reducible first | exact HB.out | apply below_alloc | apply pw_below_drewN | apply below_drew1 | refine below_set ?_ GE186.out) | exact HB.out)))); (case aL => have := LMc41.out; omega); intro v202 w43 ho hb hg hat; rw [← Ny201.out] at ho; have n0_ := Aside0.mk (Kd.R_over' (by (with_reducible repeat (first | apply Kd.R_alloc | apply Kd.R_drewN | apply Kd.R_drew)); exact HO_3.out) (Kd.S_typed (by (with_reducible repeat (first | apply Kd.S_alloc | apply Kd.S_drewN | apply Kd.S_drew)); exact HO_4.out)) (by decide) hg); have n1_ := Aside0.mk (Kd.R_over' (by (with_reducible repeat (first | apply Kd.R_alloc | apply Kd.R_drewN | apply Kd.R_drew)); exact HO_6.out) (Kd.S_typed (by (with_reducible repeat (first | apply Kd.S_alloc | apply Kd.S_drewN | apply Kd.S_drew)); exact HO_4.out)) (by decide) hg); have n2_ := Aside0.mk (blk_grown (g := gb186) (o := .cells #[.int .i64 a0_0, .int .i64 a0_1, .slice A0_2 l0_2.length c0_2] 24 (0, 0)) (by (with_reducible repeat (first | refine blk_drewN ?_ _ | refine blk_drew ?_ | refine blk_alloc ?_ _)); exact BK186.out) hg (Kd.S_ne HO_4.out BK186.out (by decide))); have n3_ := Aside0.mk (hb); have n4_ := Aside0.mk (ho); clear HO_3; clear HO_6; clear BK186; clear HB; clear HO_4; clear HO_7; have HO_3 := n0_; have HO_6 := n1_; have BK186 := n2_; have HB := n3_; have HO203 := n4_; clear n0_ n1_ n2_ n3_ n4_; clear ho hb hg hat))
          go_roundg k2
          case measure => have := HK1.out; have := HK2.out; omega
          case rel => exact ⟨(x3_1), (y201), (wrap64 (x5_1 + 1)), (by first | rfl | (simp; done) | (simp [*]; done)), H', ⟨by have := HK1.out; have := HK2.out; omega⟩, ⟨by (with_reducible repeat (first | apply Kd.R_alloc | apply Kd.R_drewN | apply Kd.R_drew)); exact Kd.R_mono HO_3.out (fun _ hk => trivial)⟩, ⟨by (with_reducible repeat (first | apply Kd.S_alloc | apply Kd.S_drewN | apply Kd.S_drew)); exact Kd.S_mono HO203.out (fun _ hk => hk.1)⟩, ⟨by (with_reducible repeat (first | refine blk_drewN ?_ _ | refine blk_drew ?_ | refine blk_alloc ?_ _)); exact BK186.out⟩, ⟨by repeat (first | (with_reducible first | exact HB.out | apply below_alloc | apply pw_below_drewN | apply below_drew1 | refine below_set ?_ GE186.out) | exact HB.out)⟩⟩
         ·rw [if_neg c41] at H
          exact absurd H (by simp)
     ·rw [if_neg c9] at H
      exact absurd H (by simp)
    ·rw [if_neg c8] at H
     exact absurd H (by simp)
   ·rw [if_neg c6] at H
    have c6b0 : decide (x5_1 < (l0_2.length : Int)) = false := decide_eq_false c6
    clear c6
    obtain rfl := Option.some.inj H
    have hcz45_0 : wr.cell? ⟨gb186, 0, none⟩ = some (.int .i64 a0_0) := (blk_cell BK186.out 0).trans rfl
    have hcz45_1 : wr.cell? ⟨gb186, 1, none⟩ = some (.int .i64 a0_1) := (blk_cell BK186.out 1).trans rfl
    have hcz45_2 : wr.cell? ⟨gb186, 2, none⟩ = some (.slice A0_2 l0_2.length c0_2) := (blk_cell BK186.out 2).trans rfl
    have hfz45_0 := blk_frozen BK186.out 0
    have hfz45_1 := blk_frozen BK186.out 1
    have hfz45_2 := blk_frozen BK186.out 2
    go_wp2
    go_ret
    exact ⟨_, by first | rfl | (simp [errW_none, errW_some] <;> rfl) | (simp [*, errW_none, errW_some] <;> rfl), by (with_reducible repeat (first | apply Kd.S_alloc | apply Kd.S_drewN | apply Kd.S_drew)); exact Kd.S_mono HO_4.out (fun _ hk => trivial), by repeat (first | (with_reducible first | exact HB.out | apply below_alloc | apply pw_below_drewN | apply below_drew1 | refine below_set ?_ GE186.out) | exact HB.out)⟩
end
end Go.Proofs.Ytilopoegoddggaa.X
namespace Go.Proofs.Ytilopoegoddggaa.X
open Go.RowKit Go.Proofs.YtilopoegoddggaaW.PrintWords Go.Proofs.YtilopoegoddggaaW.PrintLast Go.Proofs.YtilopoegoddggaaW.PrintMore
open Go.Proofs.Ytilopoegoddggaa.G
set_option linter.all false
theorem refnext_l0 (a0 a1 : Int) (bs : List S50) (l : List Int) (hl : l.length ≤ 3) : ∀ (d : Nat) (i : Int) (out : List Int), 0 ≤ i → i + d = l.length → out.length ≤ i.toNat →
  Evt (fun k => davitref07_Next.l0 k l out i a0 a1 bs) (out ++ (l.drop i.toNat).filter fun k => isB bs.length k)
 | 0, i, out, h0, h1, h2 => by
  refine Evt.succ ?_
  simp only [davitref07_Next.l0, if_neg (show ¬ i < (l.length : Int) by omega)]
  rw [List.drop_eq_nil_of_le (by omega), List.filter_nil, List.append_nil]
  exact Evt.pure _
 | d + 1, i, out, h0, h1, h2 => by
  have hlt : i < (l.length : Int) := by omega
  rw [rd_get h0 hlt]
  refine Evt.succ ?_
  simp only [davitref07_Next.l0, if_pos hlt, if_pos h0, wrap64_small (i + 1) (by omega) (by omega), if_pos (show out.length < 17592186044416 by omega)]
  by_cases e1 : rd l i ≥ 0
  ·by_cases e2 : rd l i < (bs.length : Int)
   ·simp only [if_pos e1, if_pos e2]
    have := refnext_l0 a0 a1 bs l hl d (i + 1) (out ++ [rd l i]) (by omega) (by omega) (by simp; omega)
    rw [List.filter_cons, if_pos ((isB_iff _ _).2 ⟨e1, e2⟩)]
    rw [List.append_assoc] at this
    exact this
   ·simp only [if_pos e1, if_neg e2]
    have := refnext_l0 a0 a1 bs l hl d (i + 1) out (by omega) (by omega) (by omega)
    rw [List.filter_cons, if_neg (fun h => e2 ((isB_iff _ _).1 h).2)]
    exact this
  ·simp only [if_neg e1]
   have := refnext_l0 a0 a1 bs l hl d (i + 1) out (by omega) (by omega) (by omega)
   rw [List.filter_cons, if_neg (fun h => e1 ((isB_iff _ _).1 h).1)]
   exact this
theorem refnext_ev (a0 a1 : Int) (bs : List S50) (n : Int) : Evt (fun k => davitref07_Next.f k a0 a1 bs n) (nextL bs n) := by
 have hoff : isB bs.length n = false → Evt (fun k => davitref07_Next.j0 k n true a0 a1 bs) (nextL bs n) := fun h => by
  refine Evt.succ ?_
  simp only [davitref07_Next.j0, if_pos, nextL, h, if_neg Bool.false_ne_true]
  exact Evt.pure _
 unfold davitref07_Next.f
 by_cases h1 : n < 0
 ·simp only [if_pos h1]
  exact hoff (by simp [isB]; omega)
 ·by_cases h2 : n ≥ (bs.length : Int)
  ·simp only [if_neg h1, decide_eq_true h2]
   exact hoff (by simp [isB]; omega)
  ·have hb : isB bs.length n = true := (isB_iff _ _).2 ⟨by omega, by omega⟩
   simp only [if_neg h1, decide_eq_false h2, nextL, hb, if_pos]
   have key : ∀ l : List Int, l = allL (rd_T50 bs n) → Evt (fun k => davitref07_Next.l0 k l [] 0 a0 a1 bs) ((allL (rd_T50 bs n)).filter fun k => isB bs.length k) := fun l e => by
    subst e
    have := refnext_l0 a0 a1 bs _ (allL_len (rd_T50 bs n)) _ 0 [] (by omega) (Int.zero_add _) (by simp)
    simpa using this
   refine Evt.succ ?_
   simp only [davitref07_Next.j0, if_neg Bool.false_ne_true, if_pos (show 0 ≤ n by omega), if_pos (show n < (bs.length : Int) by omega)]
   by_cases k2 : (rd_T50 bs n).f3.f0 = 2
   ·simp only [if_pos k2]
    refine Evt.succ ?_
    simp only [davitref07_Next.j1, if_pos, List.length_nil, if_pos (show 0 < 17592186044416 by omega)]
    refine Evt.succ ?_
    simp only [davitref07_Next.j2, k2, if_neg (show ¬ (2 : Int) = 3 by omega)]
    refine Evt.succ ?_
    simp only [davitref07_Next.j3, if_neg (show ¬ (2 : Int) = 4 by omega)]
    refine Evt.succ ?_
    simp only [davitref07_Next.j4]
    exact key _ (by simp [allL, goalsL, k2])
   ·by_cases k3 : (rd_T50 bs n).f3.f0 = 3
    ·simp only [if_neg k2, if_pos k3]
     refine Evt.succ ?_
     simp only [davitref07_Next.j1, if_pos, List.length_nil, if_pos (show 0 < 17592186044416 by omega)]
     refine Evt.succ ?_
     simp only [davitref07_Next.j2, k3, if_pos]
     simp only [List.nil_append, List.length_cons, List.length_nil, if_pos (show 0 + 1 < 17592186044416 by omega)]
     refine Evt.succ ?_
     simp only [davitref07_Next.j3, if_neg (show ¬ (3 : Int) = 4 by omega)]
     refine Evt.succ ?_
     simp only [davitref07_Next.j4]
     exact key _ (by simp [allL, goalsL, k3])
    ·simp only [if_neg k2, if_neg k3]
     by_cases k4 : (rd_T50 bs n).f3.f0 = 4
     ·simp only [k4]
      refine Evt.succ ?_
      simp only [davitref07_Next.j1, beq_self_eq_true, if_pos, List.length_nil, if_pos (show 0 < 17592186044416 by omega)]
      refine Evt.succ ?_
      simp only [davitref07_Next.j2, if_neg (show ¬ (4 : Int) = 3 by omega)]
      refine Evt.succ ?_
      simp only [davitref07_Next.j3, if_pos, List.nil_append, List.length_cons, List.length_nil, if_pos (show 0 + 1 < 17592186044416 by omega)]
      refine Evt.succ ?_
      simp only [davitref07_Next.j4]
      exact key _ (by simp [allL, goalsL, k4])
     ·refine Evt.succ ?_
      simp only [davitref07_Next.j1, show ((rd_T50 bs n).f3.f0 == 4) = false by simp [k4], if_neg Bool.false_ne_true]
      refine Evt.succ ?_
      simp only [davitref07_Next.j2, if_neg k3]
      refine Evt.succ ?_
      simp only [davitref07_Next.j3, if_neg k4]
      refine Evt.succ ?_
      simp only [davitref07_Next.j4]
      exact key _ (by simp [allL, goalsL, k2, k3, k4])
open Classical in
noncomputable def lst (P : Int → Prop) (N : Nat) : List Bool := (upTo N).map fun i => decide (P i)
theorem lst_len (P : Int → Prop) (N : Nat) : (lst P N).length = N := by simp [lst, upTo_len]
theorem upTo_get {N : Nat} {i : Nat} (h : i < N) : (upTo N)[i]? = some (i : Int) := by
 simp [upTo, List.getElem?_map, List.getElem?_range h]
open Classical in
theorem lst_rd (P : Int → Prop) {N : Nat} {i : Int} (h0 : 0 ≤ i) (h1 : i < N) : rdOf false (lst P N) i = decide (P i) := by
 unfold rdOf lst
 rw [List.getD_eq_getElem?_getD, List.getElem?_map, upTo_get (show i.toNat < N by omega)]
 simp only [Option.map_some, Option.getD_some]
 rw [show ((i.toNat : Nat) : Int) = i by omega]
open Classical in
theorem lst_eq {P : Int → Prop} {N : Nat} {s : List Bool} (hl : s.length = N) (h : ∀ i : Int, 0 ≤ i → i < N → (rdOf false s i = true ↔ P i)) : s = lst P N := by
 refine List.ext_getElem (by rw [hl, lst_len]) fun j h1 h2 => ?_
 have e1 : rdOf false s (j : Int) = s[j] := by unfold rdOf; simp [List.getD_eq_getElem?_getD, List.getElem?_eq_getElem h1]
 have e2 : rdOf false (lst P N) (j : Int) = (lst P N)[j] := by unfold rdOf; simp [List.getD_eq_getElem?_getD, List.getElem?_eq_getElem h2]
 have := h j (by omega) (by omega)
 rw [← e1, ← e2, lst_rd P (by omega) (by omega)]
 by_cases hp : P j
 ·rw [this.2 hp, decide_eq_true hp]
 ·rw [decide_eq_false hp]
  cases hb : rdOf false s (j : Int) with
  | false => rfl
  | true => exact absurd (this.1 hb) hp
section
variable {bs : List S50} {no : Int} (a0 a1 : Int)
structure Snd (bs : List S50) (P : Int → Prop) (s : List Bool) : Prop where
 len : s.length = bs.length
 snd : ∀ i : Int, 0 ≤ i → i < bs.length → rdOf false s i = true → P i
theorem Snd.set {P : Int → Prop} {s : List Bool} (h : Snd bs P s) {b : Int} (h0 : 0 ≤ b) (h1 : b < bs.length) (hp : P b) : Snd bs P (s.set b.toNat true) := by
 refine ⟨by rw [List.length_set]; exact h.len, fun i a c hi => ?_⟩
 rw [rdOf_set s b i true h0 (by have := h.len; omega) a] at hi
 by_cases e : i = b
 ·exact e ▸ hp
 ·rw [if_neg e] at hi; exact h.snd i a c hi
abbrev RW (bs : List S50) (no : Int) : Int → Prop := Rch bs.length (nextL bs) no
theorem without_l2 (hl : bs.length ≤ 1000) (R : List Bool) (c0 : Nat) (i : Int) (hi : 0 ≤ i) (hi1 : i < bs.length)
  (K : ∀ s more, Snd bs (RW bs no) s → rdOf false s 0 = true → (more = false → ∀ j : Int, 0 ≤ j → j < i + 1 → rdOf false s j = true → ∀ b ∈ nextL bs j, b ≠ no → rdOf false s b = true) → s.count false ≤ c0 → (more = true → s.count false < c0) → Evt (fun k => davitref07_Without.l1 k no s more (i + 1) a0 a1 bs) R) :
  ∀ (d : Nat) (p : Int) (s : List Bool) (more : Bool), 0 ≤ p → p + d = (nextL bs i).length → Snd bs (RW bs no) s → rdOf false s 0 = true →
   (more = false → ∀ j : Int, 0 ≤ j → j < i → rdOf false s j = true → ∀ b ∈ nextL bs j, b ≠ no → rdOf false s b = true) → (more = false → rdOf false s i = true → ∀ b ∈ (nextL bs i).take p.toNat, b ≠ no → rdOf false s b = true) → s.count false ≤ c0 → (more = true → s.count false < c0) →
   Evt (fun k => davitref07_Without.l2 k no s more i (nextL bs i) p a0 a1 bs) R
 | 0, p, s, more, h0, h1, hs, hz, hc, ht, hn, hm => by
  refine Evt.succ ?_
  simp only [davitref07_Without.l2, if_neg (show ¬ p < ((nextL bs i).length : Int) by omega), wrap64_small (i + 1) (by omega) (by omega)]
  refine K s more hs hz (fun e j j0 j1 hj b hb hbn => ?_) hn hm
  by_cases e' : j = i
  ·subst e'
   exact ht e hj b (by rw [List.take_of_length_le (by omega)]; exact hb) hbn
  ·exact hc e j j0 (by omega) hj b hb hbn
 | d + 1, p, s, more, h0, h1, hs, hz, hc, ht, hn, hm => by
  have hlt : p < ((nextL bs i).length : Int) := by omega
  have h3 := next_len bs i
  have hw := wrap64_small (p + 1) (by omega) (by omega)
  have hlen := hs.len
  have hmem := rd_mem h0 hlt
  have hv := (next_edges bs _ _ hmem).2
  have htk : (nextL bs i).take (p + 1).toNat = (nextL bs i).take p.toNat ++ [rd (nextL bs i) p] := by
   rw [show (p + 1).toNat = p.toNat + 1 by omega]
   exact take_one _ _ 0 (by omega)
  refine Evt.succ ?_
  cases hsi : rdOf false s i with
  | false =>
   simp only [davitref07_Without.l2, if_pos hlt, if_pos hi, if_pos (show i < (s.length : Int) by omega), hsi, if_neg Bool.false_ne_true, hw]
   exact without_l2 hl R c0 i hi hi1 K d (p + 1) s more (by omega) (by omega) hs hz hc (fun e h => by rw [hsi] at h; cases h) hn hm
  | true =>
   simp only [davitref07_Without.l2, if_pos hlt, if_pos hi, if_pos (show i < (s.length : Int) by omega), hsi, if_pos, if_pos h0, hw]
   by_cases e1 : rd (nextL bs i) p = no
   ·simp only [if_pos e1]
    exact without_l2 hl R c0 i hi hi1 K d (p + 1) s more (by omega) (by omega) hs hz hc (fun e h b hb hbn => by
     rw [htk] at hb
     rcases List.mem_append.1 hb with hb | hb
     ·exact ht e h b hb hbn
     ·exact absurd ((List.mem_singleton.1 hb).trans e1) hbn) hn hm
   ·simp only [if_neg e1, if_pos hv.1, if_pos (show rd (nextL bs i) p < (s.length : Int) by omega)]
    cases hsb : rdOf false s (rd (nextL bs i) p) with
    | true =>
     simp only [if_pos]
     exact without_l2 hl R c0 i hi hi1 K d (p + 1) s more (by omega) (by omega) hs hz hc (fun e h b hb hbn => by
      rw [htk] at hb
      rcases List.mem_append.1 hb with hb | hb
      ·exact ht e h b hb hbn
      ·rw [List.mem_singleton.1 hb]; exact hsb) hn hm
    | false =>
     simp only [if_neg Bool.false_ne_true]
     have hcn := count_unseen s _ hv.1 (by omega) hsb
     refine without_l2 hl R c0 i hi hi1 K d (p + 1) _ true (by omega) (by omega) (hs.set hv.1 hv.2 (.step (hs.snd i hi hi1 hsi) hmem e1)) ?_ (by simp) (by simp) (by omega) (fun _ => by omega)
     rw [rdOf_set s _ 0 true hv.1 (by omega) (by omega)]
     split
     ·rfl
     ·exact hz
theorem without_l1 (hl : bs.length ≤ 1000) (R : List Bool) (c0 : Nat)
  (K : ∀ s more, Snd bs (RW bs no) s → rdOf false s 0 = true → (more = false → ∀ j : Int, 0 ≤ j → j < bs.length → rdOf false s j = true → ∀ b ∈ nextL bs j, b ≠ no → rdOf false s b = true) → (more = true → s.count false < c0) → Evt (fun k => davitref07_Without.l0 k no s more a0 a1 bs) R) :
  ∀ (d : Nat) (i : Int) (s : List Bool) (more : Bool), 0 ≤ i → i + d = bs.length → Snd bs (RW bs no) s → rdOf false s 0 = true →
   (more = false → ∀ j : Int, 0 ≤ j → j < i → rdOf false s j = true → ∀ b ∈ nextL bs j, b ≠ no → rdOf false s b = true) → s.count false ≤ c0 → (more = true → s.count false < c0) →
   Evt (fun k => davitref07_Without.l1 k no s more i a0 a1 bs) R
 | 0, i, s, more, h0, h1, hs, hz, hc, hn, hm => by
  have hlen := hs.len
  refine Evt.succ ?_
  simp only [davitref07_Without.l1, if_neg (show ¬ i < (s.length : Int) by omega)]
  exact K s more hs hz (fun e j j0 j1 => hc e j j0 (by omega)) hm
 | d + 1, i, s, more, h0, h1, hs, hz, hc, hn, hm => by
  have hlen := hs.len
  refine Evt.succ ?_
  simp only [davitref07_Without.l1, if_pos (show i < (s.length : Int) by omega)]
  refine Evt.bind (refnext_ev a0 a1 bs i) ?_
  exact without_l2 a0 a1 hl R c0 i h0 (by omega) (fun s' more' q1 q2 q3 q4 q5 => without_l1 hl R c0 K d (i + 1) s' more' (by omega) (by omega) q1 q2 q3 q4 q5) _ 0 s more (by omega) (by rw [Int.zero_add]) hs hz hc (by simp) hn hm
theorem without_l0 (hl : bs.length ≤ 1000) : ∀ (c : Nat) (s : List Bool), Snd bs (RW bs no) s → rdOf false s 0 = true → s.count false ≤ c → Evt (fun k => davitref07_Without.l0 k no s true a0 a1 bs) (lst (RW bs no) bs.length) := by
 intro c
 induction c using Nat.strongRecOn with
 | ind c ih =>
  intro s hs hz hc
  refine Evt.succ ?_
  simp only [davitref07_Without.l0, if_pos]
  refine without_l1 a0 a1 hl _ c (fun s' more' q1 q2 q3 q4 => ?_) bs.length 0 s false (by omega) (by omega) hs hz (fun _ j j0 j1 => by omega) hc (by simp)
  cases more' with
  | true => exact ih _ (q4 rfl) s' q1 q2 (Nat.le_refl _)
  | false =>
   refine Evt.succ ?_
   simp only [davitref07_Without.l0, if_neg Bool.false_ne_true]
   rw [show s' = lst (RW bs no) bs.length from lst_eq q1.len fun i i0 i1 => ⟨q1.snd i i0 i1, fun h => ?_⟩]
   ·exact Evt.pure _
   ·induction h with
    | zero _ _ => exact q2
    | step ha hb hne ihh =>
     have hv := next_edges bs _ _ hb
     exact q3 rfl _ hv.1.1 hv.1.2 (ihh hv.1.1 hv.1.2) _ hb hne
theorem without_ev (hl : bs.length ≤ 1000) (no : Int) : Evt (fun k => davitref07_Without.f k a0 a1 bs no) (lst (RW bs no) bs.length) := by
 unfold davitref07_Without.f
 simp only [if_pos (show 0 ≤ (bs.length : Int) by omega), Int.toNat_natCast, if_pos (show bs.length ≤ 281474976710656 by omega), Option.bind_some, List.length_replicate]
 have hrep : ∀ i : Int, rdOf false (List.replicate bs.length false) i = false := by
  intro m
  unfold rdOf
  rw [List.getD_eq_getElem?_getD]
  by_cases h : m.toNat < bs.length
  ·rw [List.getElem?_replicate, if_pos h]; rfl
  ·rw [List.getElem?_replicate, if_neg h]; rfl
 have hoff : (∀ i, ¬ RW bs no i) → Evt (fun k => davitref07_Without.j0 k no (List.replicate bs.length false) true a0 a1 bs) (lst (RW bs no) bs.length) := fun h => by
  refine Evt.succ ?_
  simp only [davitref07_Without.j0, if_pos]
  rw [show List.replicate bs.length false = lst (RW bs no) bs.length from lst_eq (by simp) fun i i0 i1 => by rw [hrep i]; simp [h i]]
  exact Evt.pure _
 by_cases h0 : bs.length = 0
 ·simp only [if_pos (show (bs.length : Int) = 0 by omega)]
  exact hoff fun i h => by have := h.inV (next_edges bs); omega
 ·simp only [if_neg (show ¬ (bs.length : Int) = 0 by omega)]
  by_cases e : no = 0
  ·simp only [show (no == 0) = true by simp [e]]
   exact hoff fun i h => by subst e; exact no_rch0 h
  ·simp only [show (no == 0) = false by simp [e]]
   refine Evt.succ ?_
   simp only [davitref07_Without.j0, if_neg Bool.false_ne_true, List.length_replicate, if_pos (show 0 < (bs.length : Int) by omega)]
   refine without_l0 a0 a1 hl _ _ (Snd.set ⟨by simp, fun i _ _ h => by rw [hrep i] at h; cases h⟩ (by omega) (by omega) (.zero (by omega) (fun h => e h.symm))) ?_ (Nat.le_refl _)
   have := rdOf_set (List.replicate bs.length false) 0 0 true (by omega) (by simp; omega) (by omega)
   rw [this, if_pos rfl]
theorem refreached_ev (hl : bs.length ≤ 1000) : Evt (fun k => davitref07_Reached.f k a0 a1 bs) (lst (RR bs) bs.length) := by
 unfold davitref07_Reached.f
 exact Evt.bind (without_ev a0 a1 hl (-1)) (Evt.pure _)
end
end Go.Proofs.Ytilopoegoddggaa.X
namespace Go.Proofs.Ytilopoegoddggaa.X
open Go.RowKit Go.Proofs.YtilopoegoddggaaW.PrintWords Go.Proofs.YtilopoegoddggaaW.PrintLast Go.Proofs.YtilopoegoddggaaW.PrintMore
open Go.Proofs.Ytilopoegoddggaa.G
open scoped Classical
set_option linter.all false
noncomputable def allT (bs : List S50) : List (List Bool) := (upTo bs.length).map fun a => lst (DD bs a) bs.length
theorem allT_len (bs : List S50) : (allT bs).length = bs.length := by simp [allT, upTo_len]
theorem allT_rd (bs : List S50) {a : Int} (h0 : 0 ≤ a) (h1 : a < bs.length) : rd_L12 (allT bs) a = lst (DD bs a) bs.length := by
 unfold rd_L12 allT
 rw [List.getD_eq_getElem?_getD, List.getElem?_map, upTo_get (show a.toNat < bs.length by omega)]
 simp only [Option.map_some, Option.getD_some]
 rw [show ((a.toNat : Nat) : Int) = a by omega]
section
variable {bs : List S50} (a0 a1 : Int)
theorem rep_rd (n : Nat) (m : Int) : rdOf false (List.replicate n false) m = false := by
 unfold rdOf
 rw [List.getD_eq_getElem?_getD]
 by_cases h : m.toNat < n
 ·rw [List.getElem?_replicate, if_pos h]; rfl
 ·rw [List.getElem?_replicate, if_neg h]; rfl
theorem all_l1 (hl : bs.length ≤ 1000) (R : List (List Bool)) (out : List (List Bool)) (ho : out.length ≤ 1000) (a : Int) (ha : 0 ≤ a ∧ a < bs.length)
  (K : Evt (fun k => davitref08_All.l0 k (lst (RR bs) bs.length) (out ++ [lst (DD bs a) bs.length]) (a + 1) a0 a1 bs) R) :
  ∀ (d : Nat) (i : Int) (row : List Bool), 0 ≤ i → i + d = bs.length → row.length = bs.length → (∀ j : Int, 0 ≤ j → j < i → (rdOf false row j = true ↔ DD bs a j)) →
   Evt (fun k => davitref08_All.l1 k (lst (RR bs) bs.length) out a (lst (RW bs a) bs.length) row i a0 a1 bs) R
 | 0, i, row, h0, h1, hr, hj => by
  refine Evt.succ ?_
  simp only [davitref08_All.l1, if_neg (show ¬ i < (bs.length : Int) by omega), if_pos (show out.length < 5864062014805 by omega), wrap64_small (a + 1) (by omega) (by omega)]
  rw [show row = lst (DD bs a) bs.length from lst_eq hr fun j j0 j1 => hj j j0 (by omega)]
  exact K
 | d + 1, i, row, h0, h1, hr, hj => by
  have hi : i < (bs.length : Int) := by omega
  refine Evt.succ ?_
  have step : ∀ b : Bool, (b = true ↔ DD bs a i) → Evt (fun k => davitref08_All.l1 k (lst (RR bs) bs.length) out a (lst (RW bs a) bs.length) (row.set i.toNat b) (i + 1) a0 a1 bs) R := fun b hb => by
   refine all_l1 hl R out ho a ha K d (i + 1) _ (by omega) (by omega) (by rw [List.length_set]; exact hr) fun j j0 j1 => ?_
   rw [rdOf_set row i j b h0 (by omega) j0]
   by_cases e : j = i
   ·rw [if_pos e, e]; exact hb
   ·rw [if_neg e]; exact hj j j0 (by omega)
  simp only [davitref08_All.l1, if_pos hi, if_pos h0, lst_len, hr, lst_rd (RR bs) h0 hi, lst_rd (RW bs a) h0 hi, wrap64_small (i + 1) (by omega) (by omega)]
  by_cases hR : RR bs i
  ·simp only [decide_eq_true hR, if_pos]
   by_cases e : a = i
   ·simp only [if_pos e]
    exact step true ⟨fun _ => by rw [e]; exact Dom.refl (next_edges bs) hR, fun _ => rfl⟩
   ·simp only [if_neg e]
    refine step _ ?_
    by_cases hw : RW bs a i
    ·rw [decide_eq_true hw]
     exact ⟨fun h => (by simp at h), fun h => absurd hw (h.2.2.resolve_left e)⟩
    ·rw [decide_eq_false hw]
     exact ⟨fun _ => ⟨hR, by omega, .inr hw⟩, fun _ => rfl⟩
  ·simp only [decide_eq_false hR, if_neg Bool.false_ne_true]
   exact step false ⟨fun h => (by cases h), fun h => absurd h.1 hR⟩
theorem all_l0 (hl : bs.length ≤ 1000) : ∀ (d : Nat) (a : Int), 0 ≤ a → a + d = bs.length → Evt (fun k => davitref08_All.l0 k (lst (RR bs) bs.length) ((upTo a.toNat).map fun a => lst (DD bs a) bs.length) a a0 a1 bs) (allT bs)
 | 0, a, h0, h1 => by
  refine Evt.succ ?_
  simp only [davitref08_All.l0, if_neg (show ¬ a < (bs.length : Int) by omega)]
  rw [show a.toNat = bs.length by omega]
  exact Evt.pure _
 | d + 1, a, h0, h1 => by
  have ha : a < (bs.length : Int) := by omega
  refine Evt.succ ?_
  simp only [davitref08_All.l0, if_pos ha]
  refine Evt.bind (without_ev a0 a1 hl a) ?_
  simp only [if_pos (show 0 ≤ (bs.length : Int) by omega), Int.toNat_natCast, if_pos (show bs.length ≤ 281474976710656 by omega)]
  refine all_l1 a0 a1 hl _ _ (by simp [upTo_len]; omega) a ⟨h0, ha⟩ ?_ bs.length 0 _ (by omega) (by omega) (by simp) (fun j j0 j1 => by omega)
  have := all_l0 hl d (a + 1) (by omega) (by omega)
  rw [show (a + 1).toNat = a.toNat + 1 by omega, upTo_succ, List.map_append, List.map_cons, List.map_nil, show ((a.toNat : Nat) : Int) = a by omega] at this
  exact this
theorem refall_ev (hl : bs.length ≤ 1000) : Evt (fun k => davitref08_All.f k a0 a1 bs) (allT bs) := by
 unfold davitref08_All.f
 exact Evt.bind (refreached_ev a0 a1 hl) (all_l0 a0 a1 hl bs.length 0 (by omega) (by omega))
end
end Go.Proofs.Ytilopoegoddggaa.X
namespace Go.Proofs.Ytilopoegoddggaa.X
open Go.RowKit Go.Proofs.YtilopoegoddggaaW.PrintWords Go.Proofs.YtilopoegoddggaaW.PrintLast Go.Proofs.YtilopoegoddggaaW.PrintMore
open Go.Proofs.Ytilopoegoddggaa.G
open Classical
set_option linter.all false
theorem Evt.at {α : Type} {g : Nat → Option α} {r q : α} (h : Evt g r) (hm : ∀ k, LeO (g k) (g (k + 1))) {k : Nat} (hq : g k = some q) : r = q := by
 obtain ⟨K, hK⟩ := h
 have h1 := more_rounds hm k (K - k) q hq
 by_cases hk : K ≤ k
 ·rw [hK k hk] at hq; exact Option.some.inj hq
 ·rw [hK (k + (K - k)) (by omega)] at h1
  exact Option.some.inj h1
end Go.Proofs.Ytilopoegoddggaa.X
namespace Go.Proofs.Ytilopoegoddggaa.X
open Go.RowKit Go.Proofs.YtilopoegoddggaaW.PrintWords Go.Proofs.YtilopoegoddggaaW.PrintLast Go.Proofs.YtilopoegoddggaaW.PrintMore
open Go.Proofs.Ytilopoegoddggaa.G
open Classical
set_option linter.all false
inductive Cm (bs : List S50) (no tg : Int) : Int → Prop
 | here : tg ≠ no → Cm bs no tg tg
 | step {k l : Int} : Cm bs no tg l → l ∈ nextL bs k → k ≠ no → Cm bs no tg k
def Back (bs : List S50) (h n : Int) : Prop := DD bs h n ∧ h ∈ nextL bs n
def HasL (bs : List S50) (h : Int) : Prop := ∃ n, Back bs h n
def InL (bs : List S50) (h k : Int) : Prop := k = h ∨ (DD bs h k ∧ ∃ n, Back bs h n ∧ Cm bs h n k)
noncomputable def loopB (bs : List S50) (h : Int) : List Int := (upTo bs.length).filter fun k => decide (InL bs h k)
noncomputable def loopsL (bs : List S50) (m : Nat) : List S40 := ((upTo m).filter fun h => decide (HasL bs h)).map fun h => ⟨h, loopB bs h⟩
section
variable {bs : List S50}
theorem Cm.ne {no tg k : Int} (h : Cm bs no tg k) : k ≠ no := by
 cases h with
 | here h => exact h
 | step _ _ h => exact h
theorem Cm.dom {h n k : Int} (hc : Cm bs h n k) (hd : DD bs h n) (hk : RR bs k) : DD bs h k := by
 induction hc with
 | here _ => exact hd
 | step hc hs hne ih =>
  rename_i k l
  have hl : RR bs l := hk.next (next_edges bs) hs
  exact (ih hl).pred (next_edges bs) (fun e => hc.ne e.symm) hs hk
noncomputable def backsL (bs : List S50) (h : Int) : List Int := (predsL bs h).filter fun n => decide (DD bs h n)
theorem mem_backs {h n : Int} : n ∈ backsL bs h ↔ Back bs h n := by
 unfold backsL Back
 rw [List.mem_filter, mem_preds, decide_eq_true_eq]
 exact and_comm
variable (a0 a1 : Int)
theorem filterO_mono {f g : Int → Option Bool} (h : ∀ x, LeO (f x) (g x)) : ∀ l, LeO (filterO f l) (filterO g l)
 | [] => LeO.refl _
 | x :: l => by
  rw [filterO, filterO]
  exact LeO.bind (h x) fun b => LeO.map _ (filterO_mono h l)
theorem filterO_ev (hl : bs.length ≤ 1000) (h : Int) : ∀ l : List Int, Evt (fun k => filterO (fun x => dom_Is.f k a0 a1 bs h x) l) (l.filter fun n => decide (DD bs h n))
 | [] => Evt.pure _
 | x :: l => by
  simp only [filterO]
  refine Evt.bind (is_ev a0 a1 bs hl h x) ?_
  obtain ⟨K, hK⟩ := filterO_ev hl h l
  refine ⟨K, fun k hk => ?_⟩
  have := hK k hk
  simp only [this, Option.map_some, List.filter_cons]
theorem backs_ev (hl : bs.length ≤ 1000) (h : Int) : loop_backs.f a0 a1 bs h = some (backsL bs h) := by
 unfold loop_backs.f
 refine anyK_ev ?_ fun k => ?_
 ·unfold backsO
  exact Evt.bind (before_ev a0 a1 bs h (by omega)) (filterO_ev a0 a1 hl h _)
 ·unfold backsO
  exact LeO.bind (flow_Before.mono _ _ _ _ k) fun ps => filterO_mono (fun x => dom_Is.mono _ _ _ _ _ k) ps
def Out (bs : List S50) (S : List Int) : Nat := ((upTo bs.length).map fun x => if x ∈ S then 0 else 1).sum
theorem out_le (S : List Int) : Out bs S ≤ bs.length := by
 have := sum_le (fun x => if x ∈ S then 0 else 1) (fun _ => 1) (upTo bs.length) (fun x _ => by split <;> omega)
 unfold Out
 have e : ((upTo bs.length).map fun _ => 1).sum = bs.length := by
  rw [List.map_const', upTo_len]; simp
 omega
theorem out_add {S : List Int} {n : Int} (hv : 0 ≤ n ∧ n < bs.length) (hn : n ∉ S) : Out bs (n :: S) < Out bs S := by
 refine sum_lt _ _ (upTo bs.length) n (fun x _ => ?_) (mem_upTo.2 hv) ?_
 ·by_cases hx : x ∈ S
  ·rw [if_pos (List.mem_cons_of_mem _ hx), if_pos hx]; exact Nat.le_refl _
  ·rw [if_neg hx]; split <;> omega
 ·rw [if_pos (List.mem_cons_self ..), if_neg hn]; omega
theorem addO_mono {f g : Int → Option Bool} (h : ∀ x, LeO (f x) (g x)) : ∀ ps t, LeO (addO f ps t) (addO g ps t)
 | [], _ => LeO.refl _
 | x :: ps, t => by
  rw [addO, addO]
  exact LeO.bind (h x) fun b => LeO.ite (LeO.ite (addO_mono h ps _) (LeO.refl _)) (addO_mono h ps _)
theorem addO_ev (hl : bs.length ≤ 1000) (h : Int) : ∀ (ps t : List Int), t.length + ps.length ≤ 1000000 → Evt (fun k => addO (fun x => dom_Is.f k a0 a1 bs h x) ps t) (t ++ ps.filter fun n => decide (DD bs h n))
 | [], t, _ => by rw [List.filter_nil, List.append_nil]; exact Evt.pure _
 | x :: ps, t, ht => by
  simp only [addO]
  rw [List.length_cons] at ht
  refine Evt.bind (is_ev a0 a1 bs hl h x) ?_
  by_cases hd : DD bs h x
  ·simp only [decide_eq_true hd, if_pos, if_pos (show t.length < 1000000 by omega)]
   have := addO_ev hl h ps (t ++ [x]) (by simp; omega)
   rw [List.append_assoc] at this
   rw [List.filter_cons, if_pos (decide_eq_true hd)]
   exact this
  ·simp only [decide_eq_false hd, if_neg Bool.false_ne_true]
   rw [List.filter_cons, if_neg (by simp [hd])]
   exact addO_ev hl h ps t (by omega)
structure WL (bs : List S50) (h : Int) (S todo : List Int) : Prop where
 head : h ∈ S
 snd : ∀ x, x ∈ S ∨ x ∈ todo → InL bs h x
 inV : ∀ x ∈ todo, 0 ≤ x ∧ x < bs.length
 backs : ∀ n, Back bs h n → n ∈ S ∨ n ∈ todo
 cl : ∀ x ∈ S, x ≠ h → ∀ p, x ∈ nextL bs p → DD bs h p → p ∈ S ∨ p ∈ todo
theorem WL.done {h : Int} {S : List Int} (W : WL bs h S []) (x : Int) : x ∈ S ↔ InL bs h x := by
 refine ⟨fun hx => W.snd x (.inl hx), fun hx => ?_⟩
 rcases hx with rfl | ⟨hd, n, hb, hc⟩
 ·exact W.head
 ·induction hc with
  | here _ => exact (W.backs n hb).resolve_right (by simp)
  | step hc hs hne ih =>
   rename_i k l
   have hl : RR bs l := hd.1.next (next_edges bs) hs
   have := ih (hc.dom hb.1 hl)
   exact (W.cl l this hc.ne k hs hd).resolve_right (by simp)
theorem go_ok (hl : bs.length ≤ 100) (h : Int) : ∀ (m : Nat) (S todo : List Int), m ≤ 500000 → Out bs S * (bs.length + 1) + todo.length ≤ m → S.length + Out bs S ≤ bs.length + 1 → WL bs h S todo →
  ∃ S', (∃ K, ∀ k j, K ≤ k → K ≤ j → goO a0 a1 bs h k j S todo = some S') ∧ ∀ x, x ∈ S' ↔ InL bs h x := by
 intro m
 induction m with
 | zero =>
  intro S todo hmm hm hS W
  have : todo = [] := List.eq_nil_of_length_eq_zero (by omega)
  subst this
  refine ⟨S, ⟨1, fun k j _ hj => ?_⟩, W.done⟩
  obtain ⟨j', rfl⟩ : ∃ j', j = j' + 1 := ⟨j - 1, by omega⟩
  rw [goO]
 | succ m ih =>
  intro S todo hmm hm hS W
  cases todo with
  | nil =>
   refine ⟨S, ⟨1, fun k j _ hj => ?_⟩, W.done⟩
   obtain ⟨j', rfl⟩ : ∃ j', j = j' + 1 := ⟨j - 1, by omega⟩
   rw [goO]
  | cons n todo =>
   have hv := W.inV n (List.mem_cons_self ..)
   have hc : wfI n ∧ S.length < 1000000 := ⟨⟨by omega, by omega⟩, by omega⟩
   rw [List.length_cons] at hm
   by_cases hn : n ∈ S
   ·obtain ⟨S', ⟨K, hK⟩, h2⟩ := ih S todo (by omega) (by omega) hS ⟨W.head, fun x hx => W.snd x (hx.imp id (List.mem_cons_of_mem _)), fun x hx => W.inV x (List.mem_cons_of_mem _ hx),
     fun x hx => (W.backs x hx).elim .inl fun hx => (List.mem_cons.1 hx).elim (fun e => .inl (e ▸ hn)) .inr, fun x hx hne p hp hd => (W.cl x hx hne p hp hd).elim .inl fun hx => (List.mem_cons.1 hx).elim (fun e => .inl (e ▸ hn)) .inr⟩
    refine ⟨S', ⟨K + 1, fun k j hk hj => ?_⟩, h2⟩
    obtain ⟨j', rfl⟩ : ∃ j', j = j' + 1 := ⟨j - 1, by omega⟩
    rw [goO, if_pos hc, if_pos hn]
    exact hK k j' (by omega) (by omega)
   ·have hnh : n ≠ h := fun e => hn (e ▸ W.head)
    have hin := W.snd n (.inr (List.mem_cons_self ..))
    obtain ⟨hdn, n0, hb0, hc0⟩ := hin.resolve_left hnh
    have ho := out_add hv hn
    have hol := out_le (bs := bs) S
    have hpl := preds_len bs n
    have hmul : Out bs (n :: S) * (bs.length + 1) + (bs.length + 1) ≤ Out bs S * (bs.length + 1) := by
     have := Nat.mul_le_mul_right (bs.length + 1) (show Out bs (n :: S) + 1 ≤ Out bs S from ho)
     rw [Nat.add_mul, Nat.one_mul] at this
     exact this
    have hfl : ((predsL bs n).filter fun x => decide (DD bs h x)).length ≤ bs.length := Nat.le_trans (List.length_filter_le _ _) hpl
    have htl : todo.length ≤ 500000 := by omega
    have W2 : WL bs h (n :: S) (todo ++ (predsL bs n).filter fun x => decide (DD bs h x)) := by
     refine ⟨List.mem_cons_of_mem _ W.head, fun x hx => ?_, fun x hx => ?_, fun x hx => ?_, fun x hx hne p hp hd => ?_⟩
     ·rcases hx with hx | hx
      ·rcases List.mem_cons.1 hx with rfl | hx
       ·exact hin
       ·exact W.snd x (.inl hx)
      ·rcases List.mem_append.1 hx with hx | hx
       ·exact W.snd x (.inr (List.mem_cons_of_mem _ hx))
       ·obtain ⟨q1, q2⟩ := List.mem_filter.1 hx
        have hd : DD bs h x := of_decide_eq_true q2
        by_cases e : x = h
        ·exact .inl e
        ·exact .inr ⟨hd, n0, hb0, .step hc0 (mem_preds.1 q1) e⟩
     ·rcases List.mem_append.1 hx with hx | hx
      ·exact W.inV x (List.mem_cons_of_mem _ hx)
      ·exact (next_edges bs _ _ (mem_preds.1 (List.mem_filter.1 hx).1)).1
     ·rcases W.backs x hx with h | h
      ·exact .inl (List.mem_cons_of_mem _ h)
      ·rcases List.mem_cons.1 h with rfl | h
       ·exact .inl (List.mem_cons_self ..)
       ·exact .inr (List.mem_append_left _ h)
     ·rcases List.mem_cons.1 hx with rfl | hx
      ·exact .inr (List.mem_append_right _ (List.mem_filter.2 ⟨mem_preds.2 hp, decide_eq_true hd⟩))
      ·rcases W.cl x hx hne p hp hd with h | h
       ·exact .inl (List.mem_cons_of_mem _ h)
       ·rcases List.mem_cons.1 h with rfl | h
        ·exact .inl (List.mem_cons_self ..)
        ·exact .inr (List.mem_append_left _ h)
    obtain ⟨S', ⟨K, hK⟩, h2⟩ := ih (n :: S) (todo ++ (predsL bs n).filter fun x => decide (DD bs h x)) (by omega) (by rw [List.length_append]; omega) (by rw [List.length_cons]; omega) W2
    obtain ⟨K1, h1⟩ := before_ev a0 a1 bs n (by omega)
    obtain ⟨K2, h3⟩ := addO_ev a0 a1 (by omega : bs.length ≤ 1000) h (predsL bs n) todo (by omega)
    refine ⟨S', ⟨K + K1 + K2 + 1, fun k j hk hj => ?_⟩, h2⟩
    obtain ⟨j', rfl⟩ : ∃ j', j = j' + 1 := ⟨j - 1, by omega⟩
    have e1 : flow_Before.f k a0 a1 bs n = some (predsL bs n) := h1 k (by omega)
    have e2 : addO (fun x => dom_Is.f k a0 a1 bs h x) (predsL bs n) todo = _ := h3 k (by omega)
    rw [goO, if_pos hc, if_neg hn, e1, Option.bind_some, e2, Option.bind_some]
    exact hK k j' (by omega) (by omega)
theorem goO_mono (bs : List S50) (h : Int) (k : Nat) : ∀ j S t, LeO (goO a0 a1 bs h k j S t) (goO a0 a1 bs h (k + 1) (j + 1) S t)
 | 0, _, _ => LeO.none _
 | j + 1, S, [] => by rw [goO, goO]; exact LeO.refl _
 | j + 1, S, n :: r => by
  rw [goO, goO]
  exact LeO.ite (LeO.ite (goO_mono bs h k j S r) (LeO.bind (flow_Before.mono _ _ _ _ k) fun ps => LeO.bind (addO_mono (fun x => dom_Is.mono _ _ _ _ _ k) ps r) fun t => goO_mono bs h k j _ t)) (LeO.refl _)
theorem body_ev (hl : bs.length ≤ 100) (h : Int) (hv : 0 ≤ h ∧ h < bs.length) : loop_body.f a0 a1 bs h (backsL bs h) = some (loopB bs h) := by
 have hlen : (backsL bs h).length ≤ bs.length := Nat.le_trans (List.length_filter_le _ _) (preds_len bs h)
 have hout := out_le (bs := bs) [h]
 have ho1 : Out bs [h] < bs.length := by
  have h1 := out_add (bs := bs) (S := []) hv (by simp)
  have h2 := out_le (bs := bs) []
  omega
 have hm : Out bs [h] * (bs.length + 1) ≤ 100 * 101 := Nat.mul_le_mul (by omega) (by omega)
 have W2 : WL bs h [h] (backsL bs h) := by
  refine ⟨by simp, fun x hx => ?_, fun x hx => ?_, fun n hn => .inr (mem_backs.2 hn), fun x hx hne => absurd (List.mem_singleton.1 hx) hne⟩
  ·rcases hx with hx | hx
   ·exact .inl (List.mem_singleton.1 hx)
   ·have hb := mem_backs.1 hx
    by_cases e : x = h
    ·exact .inl e
    ·exact .inr ⟨hb.1, x, hb, .here e⟩
  ·exact (next_edges bs _ _ (mem_backs.1 hx).2).1
 obtain ⟨S', ⟨K, hK⟩, hS⟩ := go_ok a0 a1 hl h (Out bs [h] * (bs.length + 1) + (backsL bs h).length) [h] (backsL bs h) (by omega) (Nat.le_refl _) (by simp; omega) W2
 unfold loop_body.f
 refine anyK_ev ⟨K, fun k hk => ?_⟩ fun k => ?_
 ·unfold bodyO
  rw [if_pos ⟨⟨by omega, by omega⟩, by omega⟩, hK k k hk hk, Option.map_some]
  congr 1
  unfold pick loopB upTo
  exact List.filter_congr fun x _ => decide_eq_decide.2 (hS x)
 ·unfold bodyO
  exact LeO.ite (LeO.map _ (goO_mono a0 a1 bs h k k _ _)) (LeO.refl _)
theorem loopsL_succ (m : Nat) : loopsL bs (m + 1) = loopsL bs m ++ (if HasL bs m then [⟨(m : Int), loopB bs m⟩] else []) := by
 unfold loopsL
 rw [upTo_succ, List.filter_append, List.map_append]
 congr 1
 by_cases h : HasL bs m <;> simp [h]
theorem loopsL_len (m : Nat) : (loopsL bs m).length ≤ m := by
 unfold loopsL
 rw [List.length_map]
 exact Nat.le_trans (List.length_filter_le _ _) (by rw [upTo_len]; exact Nat.le_refl _)
theorem loopB_len (h : Int) : (loopB bs h).length ≤ bs.length := Nat.le_trans (List.length_filter_le _ _) (by rw [upTo_len]; exact Nat.le_refl _)
theorem all_l0' (hl : bs.length ≤ 100) : ∀ (d : Nat) (i : Int), 0 ≤ i → i + d = bs.length → Evt (fun k => loop_All.l0 k (loopsL bs i.toNat) bs.length i a0 a1 bs) (loopsL bs bs.length)
 | 0, i, h0, h1 => by
  refine Evt.succ ?_
  simp only [loop_All.l0, if_neg (show ¬ i < (bs.length : Int) by omega)]
  rw [show i.toNat = bs.length by omega]
  exact Evt.pure _
 | d + 1, i, h0, h1 => by
  have hi : i < (bs.length : Int) := by omega
  have hlen := loopsL_len (bs := bs) i.toNat
  have ih := all_l0' hl d (i + 1) (by omega) (by omega)
  rw [show (i + 1).toNat = i.toNat + 1 by omega, loopsL_succ, show ((i.toNat : Nat) : Int) = i by omega] at ih
  refine Evt.succ ?_
  simp only [loop_All.l0, if_pos hi, backs_ev a0 a1 (by omega : bs.length ≤ 1000) i, Option.bind_some, wrap64_small (i + 1) (by omega) (by omega), if_pos (show (loopsL bs i.toNat).length < 4398046511104 by omega)]
  by_cases hh : HasL bs i
  ·obtain ⟨n, hn⟩ := hh
   have hpos : ((backsL bs i).length : Int) > 0 := by
    have := List.length_pos_of_mem (mem_backs.2 hn)
    omega
   rw [if_pos (show HasL bs i from ⟨n, hn⟩)] at ih
   simp only [if_pos hpos, body_ev a0 a1 hl i ⟨h0, hi⟩, Option.bind_some]
   exact ih
  ·have hz : backsL bs i = [] := List.eq_nil_iff_forall_not_mem.2 fun n hn => hh ⟨n, mem_backs.1 hn⟩
   rw [if_neg hh, List.append_nil] at ih
   simp only [hz, List.length_nil, if_neg (show ¬ (((0 : Nat) : Int) > 0) by omega)]
   exact ih
theorem all_ev (hl : bs.length ≤ 100) : Evt (fun k => loop_All.f k a0 a1 bs) (loopsL bs bs.length) := by
 unfold loop_All.f
 exact all_l0' a0 a1 hl bs.length 0 (by omega) (by omega)
def deepL (n : Int) (L : List S40) : Nat := (L.filter fun l => decide (n ∈ l.f1)).length
theorem rd40 {L : List S40} {i : Int} (h0 : 0 ≤ i) (h1 : i < (L.length : Int)) : L.take (i + 1).toNat = L.take i.toNat ++ [rd_T40 L i] := by
 rw [show (i + 1).toNat = i.toNat + 1 by omega]
 exact take_one _ _ z40 (by omega)
theorem rd40_mem {L : List S40} {i : Int} (h0 : 0 ≤ i) (h1 : i < (L.length : Int)) : rd_T40 L i ∈ L := by
 have h : i.toNat < L.length := by omega
 unfold rd_T40
 rw [List.getD_eq_getElem?_getD, List.getElem?_eq_getElem h]
 exact List.getElem_mem h
theorem deepL_step (n : Int) {L : List S40} {i : Int} (h0 : 0 ≤ i) (h1 : i < (L.length : Int)) : deepL n (L.take (i + 1).toNat) = deepL n (L.take i.toNat) + if n ∈ (rd_T40 L i).f1 then 1 else 0 := by
 rw [rd40 h0 h1]
 unfold deepL
 rw [List.filter_append, List.length_append]
 congr 1
 by_cases h : n ∈ (rd_T40 L i).f1 <;> simp [h]
theorem deepL_len (n : Int) (L : List S40) : deepL n L ≤ L.length := List.length_filter_le _ _
theorem deep_l0 (n : Int) (L : List S40) (hL : L.length ≤ 1000) (hb : ∀ l ∈ L, l.f1.length ≤ 1000) : ∀ (d : Nat) (i : Int), 0 ≤ i → i + d = L.length → Evt (fun k => loop_Deep.l0 k n (deepL n (L.take i.toNat)) L L.length i) (deepL n L : Int)
 | 0, i, h0, h1 => by
  refine Evt.succ ?_
  simp only [loop_Deep.l0, if_neg (show ¬ i < (L.length : Int) by omega)]
  rw [List.take_of_length_le (by omega)]
  exact Evt.pure _
 | d + 1, i, h0, h1 => by
  have hi : i < (L.length : Int) := by omega
  have ih := deep_l0 n L hL hb d (i + 1) (by omega) (by omega)
  rw [deepL_step n h0 hi] at ih
  have hdl := deepL_len n (L.take i.toNat)
  rw [List.length_take] at hdl
  refine Evt.succ ?_
  simp only [loop_Deep.l0, if_pos hi, if_pos h0, wrap64_small (i + 1) (by omega) (by omega), wrap64_small ((deepL n (L.take i.toNat) : Int) + 1) (by omega) (by omega)]
  refine Evt.bind (contains_ev _ _ (by have := hb _ (rd40_mem h0 hi); omega)) ?_
  by_cases h : n ∈ (rd_T40 L i).f1
  ·simp only [decide_eq_true h, if_pos]
   rw [if_pos h] at ih
   exact ih
  ·simp only [decide_eq_false h, if_neg Bool.false_ne_true]
   rw [if_neg h] at ih
   exact ih
theorem loops_blocks (m : Nat) : ∀ l ∈ loopsL bs m, l.f1.length ≤ bs.length := by
 intro l hl
 unfold loopsL at hl
 obtain ⟨h, _, rfl⟩ := List.mem_map.1 hl
 exact loopB_len h
theorem deep_ev (hl : bs.length ≤ 100) (n : Int) : Evt (fun k => loop_Deep.f k a0 a1 bs n) (deepL n (loopsL bs bs.length) : Int) := by
 unfold loop_Deep.f
 refine Evt.bind (all_ev a0 a1 hl) ?_
 have := deep_l0 n (loopsL bs bs.length) (by have := loopsL_len (bs := bs) bs.length; omega) (fun l h => by have := loops_blocks (bs := bs) bs.length l h; omega) (loopsL bs bs.length).length 0 (by omega) (by omega)
 exact this
end
end Go.Proofs.Ytilopoegoddggaa.X
namespace Go.Proofs.Ytilopoegoddggaa.X
open Go.RowKit Go.Proofs.YtilopoegoddggaaW.PrintWords Go.Proofs.YtilopoegoddggaaW.PrintLast Go.Proofs.YtilopoegoddggaaW.PrintMore
attribute [local go_sem] max2_int min2_int max_two min_two max_three min_three max_four min_four
set_option linter.all false
noncomputable section
mutual
def davitref09_comes.l0 : Nat → Int → List Bool → Bool → Int → Int → List (S50) → Option (List Bool)
 | 0, _, _, _, _, _, _ => none
 | k + 1, x2, x7, x8, x368000, x368001, x368002 => if x8 = true then (davitref09_comes.l1 k x2 x7 false 0 x368000 x368001 x368002) else (some x7)
def davitref09_comes.l1 : Nat → Int → List Bool → Bool → Int → Int → Int → List (S50) → Option (List Bool)
 | 0, _, _, _, _, _, _, _ => none
 | k + 1, x2, x7, x8, x9, x368000, x368001, x368002 => if x9 < (x7.length : Int) then (if 0 ≤ x9 then (if rdOf false x7 x9 = true then (davitref09_comes.j2 k x2 x7 x8 x9 true x368000 x368001 x368002) else (davitref09_comes.j2 k x2 x7 x8 x9 (x9 == x2) x368000 x368001 x368002)) else (none)) else (davitref09_comes.l0 k x2 x7 x8 x368000 x368001 x368002)
def davitref09_comes.j2 : Nat → Int → List Bool → Bool → Int → Bool → Int → Int → List (S50) → Option (List Bool)
 | 0, _, _, _, _, _, _, _, _ => none
 | k + 1, x2, x7, x8, x9, x38, x368000, x368001, x368002 => if x38 = true then (davitref09_comes.l1 k x2 x7 x8 (wrap64 (x9 + 1)) x368000 x368001 x368002) else ((davitref07_Next.f k x368000 x368001 x368002 x9).bind fun t373 => (davitref09_comes.l2 k x2 x7 x8 x9 t373 0 x368000 x368001 x368002))
def davitref09_comes.l2 : Nat → Int → List Bool → Bool → Int → List Int → Int → Int → Int → List (S50) → Option (List Bool)
 | 0, _, _, _, _, _, _, _, _, _ => none
 | k + 1, x2, x7, x8, x9, x10, x11, x368000, x368001, x368002 => if x11 < (x10.length : Int) then (if 0 ≤ x11 then (if 0 ≤ (rd x10 x11) then (if (rd x10 x11) < (x7.length : Int) then (if rdOf false x7 (rd x10 x11) = true then (if 0 ≤ x9 then (if x9 < (x7.length : Int) then (davitref09_comes.l2 k x2 (x7.set (x9 : Int).toNat true) true x9 x10 (wrap64 (x11 + 1)) x368000 x368001 x368002) else (none)) else (none)) else (davitref09_comes.l2 k x2 x7 x8 x9 x10 (wrap64 (x11 + 1)) x368000 x368001 x368002)) else (none)) else (none)) else (none)) else (davitref09_comes.l1 k x2 x7 x8 (wrap64 (x9 + 1)) x368000 x368001 x368002)
end
def davitref09_comes.f (k : Nat) (a0_0 : Int) (a0_1 : Int) (l0_2 : List (S50)) (a1 : Int) (a2 : Int) : Option (List Bool) := if 0 ≤ (l0_2.length : Int) then (if ((l0_2.length : Int) : Int).toNat ≤ 281474976710656 then ((some (List.replicate ((l0_2.length : Int) : Int).toNat false : List Bool)).bind fun y368 => (if a1 = a2 then (some y368) else (if 0 ≤ a1 then (if a1 < (y368.length : Int) then (davitref09_comes.l0 k a2 (y368.set (a1 : Int).toNat true) true a0_0 a0_1 l0_2) else (none)) else (none)))) else (none)) else (none)
theorem davitref09_comes.mono_l : ∀ k, (∀ y0 y1 y2 y3 y4 y5, LeO (davitref09_comes.l0 k y0 y1 y2 y3 y4 y5) (davitref09_comes.l0 (k + 1) y0 y1 y2 y3 y4 y5)) ∧ (∀ y0 y1 y2 y3 y4 y5 y6, LeO (davitref09_comes.l1 k y0 y1 y2 y3 y4 y5 y6) (davitref09_comes.l1 (k + 1) y0 y1 y2 y3 y4 y5 y6)) ∧ (∀ y0 y1 y2 y3 y4 y5 y6 y7, LeO (davitref09_comes.j2 k y0 y1 y2 y3 y4 y5 y6 y7) (davitref09_comes.j2 (k + 1) y0 y1 y2 y3 y4 y5 y6 y7)) ∧ (∀ y0 y1 y2 y3 y4 y5 y6 y7 y8, LeO (davitref09_comes.l2 k y0 y1 y2 y3 y4 y5 y6 y7 y8) (davitref09_comes.l2 (k + 1) y0 y1 y2 y3 y4 y5 y6 y7 y8))
 | 0 => ⟨fun _ _ _ _ _ _ r h => by simp [davitref09_comes.l0] at h, fun _ _ _ _ _ _ _ r h => by simp [davitref09_comes.l1] at h, fun _ _ _ _ _ _ _ _ r h => by simp [davitref09_comes.j2] at h, fun _ _ _ _ _ _ _ _ _ r h => by simp [davitref09_comes.l2] at h⟩
 | k + 1 => by
  obtain ⟨ih0, ih1, ih2, ih3⟩ := davitref09_comes.mono_l k
  refine ⟨?_, ?_, ?_, ?_⟩
  ·intro y0 y1 y2 y3 y4 y5
   unfold davitref09_comes.l0
   repeat' first
   | (with_reducible exact ih0 _ _ _ _ _ _)
   | (with_reducible exact ih1 _ _ _ _ _ _ _)
   | (with_reducible exact ih2 _ _ _ _ _ _ _ _)
   | (with_reducible exact ih3 _ _ _ _ _ _ _ _ _)
   | (with_reducible exact davitref07_Next.mono _ _ _ _ _)
   | (with_reducible exact LeO.refl _)
   | (with_reducible exact LeO.none _)
   | (with_reducible refine LeO.ite ?_ ?_)
   | (with_reducible refine LeO.bind ?_ (fun _ => ?_))
   | exact ih0 _ _ _ _ _ _
   | exact ih1 _ _ _ _ _ _ _
   | exact ih2 _ _ _ _ _ _ _ _
   | exact ih3 _ _ _ _ _ _ _ _ _
   | exact davitref07_Next.mono _ _ _ _ _
   | exact LeO.none _
   | refine LeO.ite ?_ ?_
   | refine LeO.bind ?_ (fun _ => ?_)
  ·intro y0 y1 y2 y3 y4 y5 y6
   unfold davitref09_comes.l1
   repeat' first
   | (with_reducible exact ih0 _ _ _ _ _ _)
   | (with_reducible exact ih1 _ _ _ _ _ _ _)
   | (with_reducible exact ih2 _ _ _ _ _ _ _ _)
   | (with_reducible exact ih3 _ _ _ _ _ _ _ _ _)
   | (with_reducible exact davitref07_Next.mono _ _ _ _ _)
   | (with_reducible exact LeO.refl _)
   | (with_reducible exact LeO.none _)
   | (with_reducible refine LeO.ite ?_ ?_)
   | (with_reducible refine LeO.bind ?_ (fun _ => ?_))
   | exact ih0 _ _ _ _ _ _
   | exact ih1 _ _ _ _ _ _ _
   | exact ih2 _ _ _ _ _ _ _ _
   | exact ih3 _ _ _ _ _ _ _ _ _
   | exact davitref07_Next.mono _ _ _ _ _
   | exact LeO.none _
   | refine LeO.ite ?_ ?_
   | refine LeO.bind ?_ (fun _ => ?_)
  ·intro y0 y1 y2 y3 y4 y5 y6 y7
   unfold davitref09_comes.j2
   repeat' first
   | (with_reducible exact ih0 _ _ _ _ _ _)
   | (with_reducible exact ih1 _ _ _ _ _ _ _)
   | (with_reducible exact ih2 _ _ _ _ _ _ _ _)
   | (with_reducible exact ih3 _ _ _ _ _ _ _ _ _)
   | (with_reducible exact davitref07_Next.mono _ _ _ _ _)
   | (with_reducible exact LeO.refl _)
   | (with_reducible exact LeO.none _)
   | (with_reducible refine LeO.ite ?_ ?_)
   | (with_reducible refine LeO.bind ?_ (fun _ => ?_))
   | exact ih0 _ _ _ _ _ _
   | exact ih1 _ _ _ _ _ _ _
   | exact ih2 _ _ _ _ _ _ _ _
   | exact ih3 _ _ _ _ _ _ _ _ _
   | exact davitref07_Next.mono _ _ _ _ _
   | exact LeO.none _
   | refine LeO.ite ?_ ?_
   | refine LeO.bind ?_ (fun _ => ?_)
  ·intro y0 y1 y2 y3 y4 y5 y6 y7 y8
   unfold davitref09_comes.l2
   repeat' first
   | (with_reducible exact ih0 _ _ _ _ _ _)
   | (with_reducible exact ih1 _ _ _ _ _ _ _)
   | (with_reducible exact ih2 _ _ _ _ _ _ _ _)
   | (with_reducible exact ih3 _ _ _ _ _ _ _ _ _)
   | (with_reducible exact davitref07_Next.mono _ _ _ _ _)
   | (with_reducible exact LeO.refl _)
   | (with_reducible exact LeO.none _)
   | (with_reducible refine LeO.ite ?_ ?_)
   | (with_reducible refine LeO.bind ?_ (fun _ => ?_))
   | exact ih0 _ _ _ _ _ _
   | exact ih1 _ _ _ _ _ _ _
   | exact ih2 _ _ _ _ _ _ _ _
   | exact ih3 _ _ _ _ _ _ _ _ _
   | exact davitref07_Next.mono _ _ _ _ _
   | exact LeO.none _
   | refine LeO.ite ?_ ?_
   | refine LeO.bind ?_ (fun _ => ?_)
theorem davitref09_comes.mono : ∀ a0 a1 a2 a3 a4 k, LeO (davitref09_comes.f k a0 a1 a2 a3 a4) (davitref09_comes.f (k + 1) a0 a1 a2 a3 a4) := by
 intro a0 a1 a2 a3 a4 k
 obtain ⟨ih0, ih1, ih2, ih3⟩ := davitref09_comes.mono_l k
 unfold davitref09_comes.f
 repeat' first
   | (with_reducible exact ih0 _ _ _ _ _ _)
   | (with_reducible exact ih1 _ _ _ _ _ _ _)
   | (with_reducible exact ih2 _ _ _ _ _ _ _ _)
   | (with_reducible exact ih3 _ _ _ _ _ _ _ _ _)
   | (with_reducible exact davitref07_Next.mono _ _ _ _ _)
   | (with_reducible exact LeO.refl _)
   | (with_reducible exact LeO.none _)
   | (with_reducible refine LeO.ite ?_ ?_)
   | (with_reducible refine LeO.bind ?_ (fun _ => ?_))
   | exact ih0 _ _ _ _ _ _
   | exact ih1 _ _ _ _ _ _ _
   | exact ih2 _ _ _ _ _ _ _ _
   | exact ih3 _ _ _ _ _ _ _ _ _
   | exact davitref07_Next.mono _ _ _ _ _
   | exact LeO.none _
   | refine LeO.ite ?_ ?_
   | refine LeO.bind ?_ (fun _ => ?_)
set_option maxHeartbeats 8000000 in
set_option maxRecDepth 100000 in
theorem davitref09_comes.calls (k : Nat) (a0_0 : Int) (a0_1 : Int) (A0_2 : Option Addr) (c0_2 : Nat) (l0_2 : List (S50)) (a1 : Int) (a2 : Int) (r : List Bool) (w : World) (hr0_2 : Kd.C k50 w A0_2 l0_2.length l0_2) (hc0_2 : l0_2.length ≤ c0_2) (h : davitref09_comes.f k a0_0 a0_1 l0_2 a1 a2 = some r) :
  Calls Try.prog 42 #[.agg #[.int .i64 a0_0, .int .i64 a0_1, .slice A0_2 l0_2.length c0_2], .int .i64 a1, .int .i64 a2] w fun e w' => ∃ v0_ : Value, e = .returned (v0_) ∧ Kd.R Kd.bool 4 w' w.heap.size (fun _ => True) v0_ r ∧ Below w.heap.size w w' := by
 have hu24 := Try.underlying24
 have HR0_2 := Aside0.mk hr0_2
 have HC0_2 := Aside0.mk hc0_2
 clear hr0_2 hc0_2
 have HB := Aside0.mk (Below.refl w.heap.size w)
 have H : (if 0 ≤ (l0_2.length : Int) then (if ((l0_2.length : Int) : Int).toNat ≤ 281474976710656 then ((some (List.replicate ((l0_2.length : Int) : Int).toNat false : List Bool)).bind fun y368 => (if a1 = a2 then (some y368) else (if 0 ≤ a1 then (if a1 < (y368.length : Int) then (davitref09_comes.l0 k a2 (y368.set (a1 : Int).toNat true) true a0_0 a0_1 l0_2) else (none)) else (none)))) else (none)) else (none)) = some r := h
 clear h
 by_cases c4 : 0 ≤ (l0_2.length : Int)
 ·rw [if_pos c4] at H
  have c4b0 := eq_true c4
  have c4b1 : decide (0 ≤ (l0_2.length : Int)) = true := decide_eq_true c4
  clear c4
  by_cases c5 : ((l0_2.length : Int) : Int).toNat ≤ 281474976710656
  ·rw [if_pos c5] at H
   have c5b0 := eq_true c5
   have c5b1 : decide (((l0_2.length : Int) : Int).toNat ≤ 281474976710656) = true := decide_eq_true c5
   clear c5
   obtain ⟨y368, hy368⟩ : ∃ y_ : List Bool, y_ = (List.replicate ((l0_2.length : Int) : Int).toNat false) := ⟨_, rfl⟩
   replace H : (if a1 = a2 then (some y368) else (if 0 ≤ a1 then (if a1 < (y368.length : Int) then (davitref09_comes.l0 k a2 (y368.set (a1 : Int).toNat true) true a0_0 a0_1 l0_2) else (none)) else (none))) = some r := by first | (rw [hy368]; with_reducible exact H) | (have H2_ := (Option.bind_some _ _).symm.trans H; rw [hy368]; with_reducible exact H2_) | (have H2_ := (Option.bind_some _ _).symm.trans H; with_reducible exact H2_) | with_reducible exact H | (rw [hy368]; exact H) | exact H
   have Ny368 := Aside0.mk hy368
   clear hy368
   by_cases c6 : a1 = a2
   ·rw [if_pos c6] at H
    have c6b0 : (a1 == a2) = true := beq_iff_eq.mpr c6
    have c6b1 : (a1 != a2) = false := bne_eq_false_iff_eq.mpr c6
    clear c6
    obtain rfl := Option.some.inj H
    go_enter Try.func42, Try.ntmps42
    go_wp2_with (first | ((with_reducible refine gate_dst (N := 3) rfl ?_); refine box_event ?hg (N := 3) ?hd (cs := #[.int .i64 a0_0, .int .i64 a0_1, .slice A0_2 l0_2.length c0_2]) (t := 24) ?hr ?_; (case hd => rfl); (case hg => rfl); (case hr => first | (go_simp; done) | (go_simp; rfl)); intro gb367 hg w7 hbox hb; have n0_ := Aside0.mk (below_step (by repeat (first | (with_reducible first | exact HB.out | apply below_alloc | apply pw_below_drewN | apply below_drew1) | exact HB.out)) hb); have n1_ := Aside0.mk (hbox); have n2_ := Aside0.mk ((by rw [hg]; exact (below_size (by repeat (first | (with_reducible first | exact HB.out | apply below_alloc | apply pw_below_drewN | apply below_drew1) | exact HB.out))) : w.heap.size ≤ gb367)); have n3_ := Aside0.mk ((by rw [hg]; exact (below_size (by repeat (first | (with_reducible first | exact HB.out | apply below_alloc | apply pw_below_drewN | apply below_drew1) | exact HB.out))) : w.heap.size ≤ gb367)); clear HB; have HB := n0_; have BK367 := n1_; have GW367 := n2_; have GE367 := n3_; clear n0_ n1_ n2_ n3_; clear hb hbox hg; have hcz8_0 : w7.cell? ⟨gb367, 0, none⟩ = some (.int .i64 a0_0) := (blk_cell BK367.out 0).trans rfl; have hcz8_1 : w7.cell? ⟨gb367, 1, none⟩ = some (.int .i64 a0_1) := (blk_cell BK367.out 1).trans rfl; have hcz8_2 : w7.cell? ⟨gb367, 2, none⟩ = some (.slice A0_2 l0_2.length c0_2) := (blk_cell BK367.out 2).trans rfl; have hfz8_0 := blk_frozen BK367.out 0; have hfz8_1 := blk_frozen BK367.out 1; have hfz8_2 := blk_frozen BK367.out 2) | ((with_reducible refine gate_dst (N := 15) rfl ?_); refine Kd.R_make Kd.bool _ 4 rfl (N := 15) rfl 32 _ _ rfl (l0_2.length : Int) rfl rfl Try.underlying32 (.bool false) 1 info4 rfl (by decide) (by omega) false (ok := fun _ => True) (okp := fun _ => True) rfl (fun _ hk => hk) trivial (of_decide_eq_true (by first | (with_reducible assumption) | assumption)) (Nat.le_trans (Nat.mul_le_mul_right _ (of_decide_eq_true (by first | (with_reducible assumption) | assumption) : (l0_2.length : Int).toNat ≤ 281474976710656)) (by omega)) (Below.refl _ _) (Nat.le_refl _) ?_; intro v369 w9 ho10 hb hg_ hnew_; clear hg_ hnew_; (first | rw [← Ny368.out] at ho10 | (simp only [Int.reduceToNat] at ho10; rw [← Ny368.out] at ho10)); have n0_ := Aside0.mk (Kd.R_lower ho10 (below_size (by repeat (first | (with_reducible first | exact HB.out | apply below_alloc | apply pw_below_drewN | apply below_drew1 | refine below_set ?_ GE367.out) | exact HB.out)))); have n1_ := Aside0.mk (blk_below (g := gb367) (o := .cells #[.int .i64 a0_0, .int .i64 a0_1, .slice A0_2 l0_2.length c0_2] 24 (0, 0)) (by (with_reducible repeat (first | refine blk_drewN ?_ _ | refine blk_drew ?_ | refine blk_alloc ?_ _)); exact BK367.out) hb); have n2_ := Aside0.mk (below_step (by repeat (first | (with_reducible first | exact HB.out | apply below_alloc | apply pw_below_drewN | apply below_drew1 | refine below_set ?_ GE367.out) | exact HB.out)) hb); clear BK367; clear HB; have HO370 := n0_; have BK367 := n1_; have HB := n2_; clear n0_ n1_ n2_; clear hb ho10))
    go_ret
    exact ⟨_, by first | rfl | (simp [errW_none, errW_some] <;> rfl) | (simp [*, errW_none, errW_some] <;> rfl), by (with_reducible repeat (first | apply Kd.R_alloc | apply Kd.R_drewN | apply Kd.R_drew)); exact HO370.out, by repeat (first | (with_reducible first | exact HB.out | apply below_alloc | apply pw_below_drewN | apply below_drew1 | refine below_set ?_ GE367.out) | exact HB.out)⟩
   ·rw [if_neg c6] at H
    have c6b0 : (a1 == a2) = false := beq_eq_false_iff_ne.mpr c6
    have c6b1 : (a1 != a2) = true := bne_iff_ne.mpr c6
    by_cases c11 : 0 ≤ a1
    ·rw [if_pos c11] at H
     have c11b0 : decide (0 ≤ a1) = true := decide_eq_true c11
     clear c11
     by_cases c12 : a1 < (y368.length : Int)
     ·rw [if_pos c12] at H
      have c12b0 : decide (a1 < (y368.length : Int)) = true := decide_eq_true c12
      clear c12
      obtain ⟨y371, hy371⟩ : ∃ y_ : List Bool, y_ = (y368.set (a1 : Int).toNat true) := ⟨_, rfl⟩
      replace H : (davitref09_comes.l0 k a2 y371 true a0_0 a0_1 l0_2) = some r := by first | (rw [hy371]; with_reducible exact H) | (have H2_ := (Option.bind_some _ _).symm.trans H; rw [hy371]; with_reducible exact H2_) | (have H2_ := (Option.bind_some _ _).symm.trans H; with_reducible exact H2_) | with_reducible exact H | (rw [hy371]; exact H) | exact H
      have Ny371 := Aside0.mk hy371
      clear hy371
      have H' := Aside0.mk H
      clear H
      go_enter Try.func42, Try.ntmps42
      go_wp2_with (first | ((with_reducible refine gate_dst (N := 3) rfl ?_); refine box_event ?hg (N := 3) ?hd (cs := #[.int .i64 a0_0, .int .i64 a0_1, .slice A0_2 l0_2.length c0_2]) (t := 24) ?hr ?_; (case hd => rfl); (case hg => rfl); (case hr => first | (go_simp; done) | (go_simp; rfl)); intro gb367 hg w14 hbox hb; have n0_ := Aside0.mk (below_step (by repeat (first | (with_reducible first | exact HB.out | apply below_alloc | apply pw_below_drewN | apply below_drew1) | exact HB.out)) hb); have n1_ := Aside0.mk (hbox); have n2_ := Aside0.mk ((by rw [hg]; exact (below_size (by repeat (first | (with_reducible first | exact HB.out | apply below_alloc | apply pw_below_drewN | apply below_drew1) | exact HB.out))) : w.heap.size ≤ gb367)); have n3_ := Aside0.mk ((by rw [hg]; exact (below_size (by repeat (first | (with_reducible first | exact HB.out | apply below_alloc | apply pw_below_drewN | apply below_drew1) | exact HB.out))) : w.heap.size ≤ gb367)); clear HB; have HB := n0_; have BK367 := n1_; have GW367 := n2_; have GE367 := n3_; clear n0_ n1_ n2_ n3_; clear hb hbox hg; have hcz15_0 : w14.cell? ⟨gb367, 0, none⟩ = some (.int .i64 a0_0) := (blk_cell BK367.out 0).trans rfl; have hcz15_1 : w14.cell? ⟨gb367, 1, none⟩ = some (.int .i64 a0_1) := (blk_cell BK367.out 1).trans rfl; have hcz15_2 : w14.cell? ⟨gb367, 2, none⟩ = some (.slice A0_2 l0_2.length c0_2) := (blk_cell BK367.out 2).trans rfl; have hfz15_0 := blk_frozen BK367.out 0; have hfz15_1 := blk_frozen BK367.out 1; have hfz15_2 := blk_frozen BK367.out 2) | ((with_reducible refine gate_dst (N := 15) rfl ?_); refine Kd.R_make Kd.bool _ 4 rfl (N := 15) rfl 32 _ _ rfl (l0_2.length : Int) rfl rfl Try.underlying32 (.bool false) 1 info4 rfl (by decide) (by omega) false (ok := fun _ => True) (okp := fun _ => True) rfl (fun _ hk => hk) trivial (of_decide_eq_true (by first | (with_reducible assumption) | assumption)) (Nat.le_trans (Nat.mul_le_mul_right _ (of_decide_eq_true (by first | (with_reducible assumption) | assumption) : (l0_2.length : Int).toNat ≤ 281474976710656)) (by omega)) (Below.refl _ _) (Nat.le_refl _) ?_; intro v369 w16 ho17 hb hg_ hnew_; clear hg_ hnew_; (first | rw [← Ny368.out] at ho17 | (simp only [Int.reduceToNat] at ho17; rw [← Ny368.out] at ho17)); have n0_ := Aside0.mk (Kd.R_lower ho17 (below_size (by repeat (first | (with_reducible first | exact HB.out | apply below_alloc | apply pw_below_drewN | apply below_drew1 | refine below_set ?_ GE367.out) | exact HB.out)))); have n1_ := Aside0.mk (blk_below (g := gb367) (o := .cells #[.int .i64 a0_0, .int .i64 a0_1, .slice A0_2 l0_2.length c0_2] 24 (0, 0)) (by (with_reducible repeat (first | refine blk_drewN ?_ _ | refine blk_drew ?_ | refine blk_alloc ?_ _)); exact BK367.out) hb); have n2_ := Aside0.mk (below_step (by repeat (first | (with_reducible first | exact HB.out | apply below_alloc | apply pw_below_drewN | apply below_drew1 | refine below_set ?_ GE367.out) | exact HB.out)) hb); clear BK367; clear HB; have HO370 := n0_; have BK367 := n1_; have HB := n2_; clear n0_ n1_ n2_; clear hb ho17; have p13 : 0 ≤ (a1 : Int) := of_decide_eq_true (by first | (with_reducible assumption) | assumption); have q13 : (a1 : Int) < ((y368.length : Int) : Int) := of_decide_eq_true (by first | (with_reducible assumption) | assumption); obtain ⟨go13, co13, eo13, gb13, gl13, cl13, HG13⟩ := Kd.R_form HO370.out (by omega); (first | cases eo13 | (injection eo13 with ea_ en_ ec_; (first | subst ea_ | (injection ea_ with ea_; subst ea_)); subst ec_; clear en_)); have GB13 := Aside0.mk gb13; have GG13 := Aside0.mk HG13; clear gb13 gl13 HG13; obtain ⟨hx13_0, hf13_0⟩ := Kd.R_celln false HO370.out (a1 : Int) p13 q13; replace p13 := eq_true p13; replace q13 := eq_true q13; obtain ⟨hy18_, hz18_⟩ := Kd.R_celln false HO370.out (a1 : Int) (of_decide_eq_true (by first | (with_reducible assumption) | assumption)) (of_decide_eq_true (by first | (with_reducible assumption) | assumption)); have HP18 := Kd.R_putg HO370.out (a1 : Int) true) | ((with_reducible refine gate_store (t := 4) (p := 22) rfl ?_); refine store_event (t := 4) (p := 22) (v := ?vo_w19) (w1 := (w16.setCell ⟨go13, (a1 : Int).toNat, none⟩ (.bool true))) ?hg ?ho ?hn ?hr ?_; (case ho => rfl); (case hg => rfl); (case hn => rfl); (case hr => first | (go_simp; done) | (go_simp; rfl)); intro w19 hw; have hg : w16.grownBy w19 (some go13) := (by rw [hw]; exact HP18.2); have hp_ : Kd.R Kd.bool 4 w19 w.heap.size (fun _ => True) (.slice (some ⟨go13, 0, none⟩) y368.length co13) y371 := (by rw [hw, Ny371.out]; exact HP18.1); clear HP18; have n0_ := Aside0.mk (blk_grown (g := gb367) (o := .cells #[.int .i64 a0_0, .int .i64 a0_1, .slice A0_2 l0_2.length c0_2] 24 (0, 0)) (by (with_reducible repeat (first | refine blk_drewN ?_ _ | refine blk_drew ?_ | refine blk_alloc ?_ _)); exact BK367.out) hg (Kd.R_ne HO370.out BK367.out (by decide))); have n1_ := Aside0.mk (hp_); have n2_ := Aside0.mk ((by rw [hw]; exact below_set (HB.out) GB13.out : Below w.heap.size w w19)); clear BK367; clear HO370; clear HB; have BK367 := n0_; have HO370 := n1_; have HB := n2_; clear n0_ n1_ n2_; clear hg hw hp_))
      go_loopg [8] k (fun kq v8 w' => ∃ (x7_1 : List Bool) (x8_1 : Bool), v8 = .bool x8_1 ∧ Aside0 (davitref09_comes.l0 kq a2 x7_1 x8_1 a0_0 a0_1 l0_2 = some r) ∧ Aside0 (kq ≤ k) ∧ Aside0 (Kd.R Kd.bool 4 w' w.heap.size (fun _ => True) (.slice (some ⟨go13, 0, none⟩) y368.length co13) x7_1) ∧ Aside0 (w'.heap[gb367]? = some (.cells #[.int .i64 a0_0, .int .i64 a0_1, (.slice A0_2 l0_2.length c0_2)] 24 (0, 0))) ∧ Aside0 (Below w.heap.size w w'))
      case atStart => exact ⟨(y371), (true), (by first | rfl | (simp; done) | (simp [*]; done)), H', ⟨Nat.le_refl _⟩, ⟨by (with_reducible repeat (first | apply Kd.R_alloc | apply Kd.R_drewN | apply Kd.R_drew)); exact HO370.out⟩, ⟨by (with_reducible repeat (first | refine blk_drewN ?_ _ | refine blk_drew ?_ | refine blk_alloc ?_ _)); exact BK367.out⟩, ⟨by repeat (first | (with_reducible first | exact HB.out | apply below_alloc | apply pw_below_drewN | apply below_drew1 | refine below_set ?_ GE367.out) | exact HB.out)⟩⟩
      case round =>
       clear H'
       try clear c1
       try clear p1
       try clear q1
       try clear hx1
       try clear p2
       try clear c4
       try clear c4b0
       try clear c4b1
       try clear c5
       try clear c5b0
       try clear c5b1
       try clear c6
       try clear c6b0
       try clear c6b1
       try clear c11
       try clear c11b0
       try clear c12
       try clear c12b0
       try clear p13
       try clear q13
       try clear hx13
       try clear hf13
       try clear hcz15_0
       try clear hcz15_1
       try clear hcz15_2
       try clear hcz8_0
       try clear hcz8_1
       try clear hcz8_2
       try clear hfz15_0
       try clear hfz15_1
       try clear hfz15_2
       try clear hfz8_0
       try clear hfz8_1
       try clear hfz8_2
       try clear hx13_0
       try clear p13
       try clear q13
       obtain ⟨x7_1, x8_1, rfl, HA, HK1, HO_7, BK367, HB⟩ := hrel
       have hl7_1 := (Kd.R_reads' HO_7.out).1
       rw [hl7_1] at HO_7
       (try simp only [hl7_1])
       (try simp only [hl7_1] at BK367)
       cases gk with
       | zero => exact absurd HA.out (by simp [davitref09_comes.l0])
       | succ k1 =>
        have H := HA.out
        clear HA
        simp only [davitref09_comes.l0] at H
        by_cases c20 : x8_1 = true
        ·subst c20
         have H1 : (davitref09_comes.l1 k1 a2 x7_1 false 0 a0_0 a0_1 l0_2) = some r := by rw [if_pos rfl] at H; exact H
         clear H
         have H := H1
         clear H1
         have H' := Aside0.mk H
         clear H
         go_wp2
         go_loopg [8, 9] k1 (fun kq v8 v9 w' => ∃ (x7_2 : List Bool) (x8_2 : Bool) (x9_2 : Int), v8 = .bool x8_2 ∧ v9 = .int .i64 x9_2 ∧ Aside0 (davitref09_comes.l1 kq a2 x7_2 x8_2 x9_2 a0_0 a0_1 l0_2 = some r) ∧ Aside0 (kq ≤ k1) ∧ Aside0 (Kd.R Kd.bool 4 w' w.heap.size (fun _ => True) (.slice (some ⟨go13, 0, none⟩) x7_1.length co13) x7_2) ∧ Aside0 (w'.heap[gb367]? = some (.cells #[.int .i64 a0_0, .int .i64 a0_1, (.slice A0_2 l0_2.length c0_2)] 24 (0, 0))) ∧ Aside0 (Below w.heap.size w w'))
         case atStart => exact ⟨(x7_1), (false), (0), (by first | rfl | (simp; done) | (simp [*]; done)), (by first | rfl | (simp; done) | (simp [*]; done)), H', ⟨Nat.le_refl _⟩, ⟨by (try simp only [hl7_1]); (with_reducible repeat (first | apply Kd.R_alloc | apply Kd.R_drewN | apply Kd.R_drew)); exact HO_7.out⟩, ⟨by (try simp only [hl7_1]); (with_reducible repeat (first | refine blk_drewN ?_ _ | refine blk_drew ?_ | refine blk_alloc ?_ _)); exact BK367.out⟩, ⟨by repeat (first | (with_reducible first | exact HB.out | apply below_alloc | apply pw_below_drewN | apply below_drew1 | refine below_set ?_ GE367.out) | exact HB.out)⟩⟩
         case round =>
          clear H'
          try clear c1
          try clear p1
          try clear q1
          try clear hx1
          try clear c2
          try clear p2
          try clear c4
          try clear c4b0
          try clear c4b1
          try clear c5
          try clear c5b0
          try clear c5b1
          try clear c6
          try clear c6b0
          try clear c6b1
          try clear c11
          try clear c11b0
          try clear c12
          try clear c12b0
          try clear p13
          try clear q13
          try clear hx13
          try clear hf13
          try clear c20
          try clear hcz15_0
          try clear hcz15_1
          try clear hcz15_2
          try clear hcz8_0
          try clear hcz8_1
          try clear hcz8_2
          try clear hfz15_0
          try clear hfz15_1
          try clear hfz15_2
          try clear hfz8_0
          try clear hfz8_1
          try clear hfz8_2
          try clear hx13_0
          try clear p1
          try clear p13
          try clear p2
          try clear q1
          try clear q13
          obtain ⟨x7_2, x8_2, x9_2, rfl, rfl, HA, HK2, HO_7, BK367, HB⟩ := hrel
          have hl7_2 := (Kd.R_reads' HO_7.out).1
          rw [hl7_2] at HO_7
          (try simp only [hl7_2])
          (try simp only [hl7_2] at BK367)
          cases gk with
          | zero => exact absurd HA.out (by simp [davitref09_comes.l1])
          | succ k2 =>
           have H := HA.out
           clear HA
           simp only [davitref09_comes.l1] at H
           by_cases c21 : x9_2 < (x7_2.length : Int)
           ·rw [if_pos c21] at H
            have c21b0 : decide (x9_2 < (x7_2.length : Int)) = true := decide_eq_true c21
            clear c21
            have HC22 := Aside0.mk H
            clear H
            go_upto_region 11 with (fail)
            go_cut [38] (fun v38 wc => ∃ (kq : Nat) (x38_21 : Bool), v38 = .bool x38_21 ∧ Aside0 (davitref09_comes.j2 kq a2 x7_2 x8_2 x9_2 x38_21 a0_0 a0_1 l0_2 = some r) ∧ Aside0 (kq ≤ k2) ∧ Aside0 (Kd.R Kd.bool 4 wc w.heap.size (fun _ => True) (.slice (some ⟨go13, 0, none⟩) x7_2.length co13) x7_2) ∧ Aside0 (wc.heap[gb367]? = some (.cells #[.int .i64 a0_0, .int .i64 a0_1, (.slice A0_2 l0_2.length c0_2)] 24 (0, 0))) ∧ Aside0 (Below w.heap.size w wc))
            case first =>
             have H := HC22.out
             clear HC22
             by_cases c23 : 0 ≤ x9_2
             ·rw [if_pos c23] at H
              have c23b0 : decide (0 ≤ x9_2) = true := decide_eq_true c23
              clear c23
              (first | rw [c23b0] | (simp only [i64_w, i32_w]; rw [c23b0]) | skip)
              obtain ⟨bq24, hbq24⟩ : ∃ b_ : Bool, b_ = (rdOf false x7_2 x9_2) := ⟨_, rfl⟩
              replace H : (if bq24 = true then (davitref09_comes.j2 k2 a2 x7_2 x8_2 x9_2 true a0_0 a0_1 l0_2) else (davitref09_comes.j2 k2 a2 x7_2 x8_2 x9_2 (x9_2 == a2) a0_0 a0_1 l0_2)) = some r := by rw [← hbq24] at H; exact H
              have Nbq24 := Aside0.mk hbq24
              clear hbq24
              by_cases c25 : bq24 = true
              ·subst c25
               have H1 : (davitref09_comes.j2 k2 a2 x7_2 x8_2 x9_2 true a0_0 a0_1 l0_2) = some r := by rw [if_pos rfl] at H; exact H
               clear H
               have H := H1
               clear H1
               have H' := Aside0.mk H
               clear H
               have p372 : 0 ≤ (x9_2 : Int) := of_decide_eq_true (by first | (with_reducible assumption) | assumption)
               have q372 : x9_2 < (x7_2.length : Int) := of_decide_eq_true (by first | (with_reducible assumption) | assumption)
               obtain ⟨ad372, e372, hx372_0⟩ := Kd.at_bool (Kd.R_reads' HO_7.out).2.2 x9_2 p372 q372
               (try rw [← Nbq24.out] at hx372_0)
               obtain rfl : (⟨go13, 0, none⟩ : Addr) = ad372 := (by injection e372)
               (first | simp only [add_plain] at hx372_0 | simp only [add_at] at hx372_0 | simp only [Addr.add, Nat.zero_add] at hx372_0 | skip)
               replace p372 := eq_true p372
               replace q372 := eq_true q372
               go_wp2
               go_meet
               case rel => exact ⟨_, (true), (by first | rfl | (simp; done) | (simp [*]; done)), H', ⟨by have := HK1.out; have := HK2.out; first | omega | exact Nat.le_refl _⟩, ⟨by (try simp only [hl7_1]); (try simp only [hl7_2]); (with_reducible repeat (first | apply Kd.R_alloc | apply Kd.R_drewN | apply Kd.R_drew)); exact HO_7.out⟩, ⟨by (try simp only [hl7_1]); (try simp only [hl7_2]); (with_reducible repeat (first | refine blk_drewN ?_ _ | refine blk_drew ?_ | refine blk_alloc ?_ _)); exact BK367.out⟩, ⟨by repeat (first | (with_reducible first | exact HB.out | apply below_alloc | apply pw_below_drewN | apply below_drew1 | refine below_set ?_ GE367.out) | exact HB.out)⟩⟩
              ·replace c25 := Bool.eq_false_iff.mpr c25
               subst c25
               have H1 : (davitref09_comes.j2 k2 a2 x7_2 x8_2 x9_2 (x9_2 == a2) a0_0 a0_1 l0_2) = some r := by rw [if_neg (show ¬ (false = true) by decide)] at H; exact H
               clear H
               have H := H1
               clear H1
               have H' := Aside0.mk H
               clear H
               have p372 : 0 ≤ (x9_2 : Int) := of_decide_eq_true (by first | (with_reducible assumption) | assumption)
               have q372 : x9_2 < (x7_2.length : Int) := of_decide_eq_true (by first | (with_reducible assumption) | assumption)
               obtain ⟨ad372, e372, hx372_0⟩ := Kd.at_bool (Kd.R_reads' HO_7.out).2.2 x9_2 p372 q372
               (try rw [← Nbq24.out] at hx372_0)
               obtain rfl : (⟨go13, 0, none⟩ : Addr) = ad372 := (by injection e372)
               (first | simp only [add_plain] at hx372_0 | simp only [add_at] at hx372_0 | simp only [Addr.add, Nat.zero_add] at hx372_0 | skip)
               replace p372 := eq_true p372
               replace q372 := eq_true q372
               go_wp2
               go_meet
               case rel => exact ⟨_, ((x9_2 == a2)), (by first | rfl | (simp; done) | (simp [*]; done)), H', ⟨by have := HK1.out; have := HK2.out; first | omega | exact Nat.le_refl _⟩, ⟨by (try simp only [hl7_1]); (try simp only [hl7_2]); (with_reducible repeat (first | apply Kd.R_alloc | apply Kd.R_drewN | apply Kd.R_drew)); exact HO_7.out⟩, ⟨by (try simp only [hl7_1]); (try simp only [hl7_2]); (with_reducible repeat (first | refine blk_drewN ?_ _ | refine blk_drew ?_ | refine blk_alloc ?_ _)); exact BK367.out⟩, ⟨by repeat (first | (with_reducible first | exact HB.out | apply below_alloc | apply pw_below_drewN | apply below_drew1 | refine below_set ?_ GE367.out) | exact HB.out)⟩⟩
             ·rw [if_neg c23] at H
              exact absurd H (by simp)
            case rest =>
             clear HC22
             try clear c1
             try clear p1
             try clear q1
             try clear hx1
             try clear c2
             try clear p2
             try clear q2
             try clear p3
             try clear q3
             try clear hx3
             try clear c4
             try clear c4b0
             try clear c4b1
             try clear c5
             try clear c5b0
             try clear c5b1
             try clear c6
             try clear c6b0
             try clear c6b1
             try clear c11
             try clear c11b0
             try clear c12
             try clear c12b0
             try clear p13
             try clear q13
             try clear hx13
             try clear hf13
             try clear c20
             try clear c21
             try clear c21b0
             try clear c23
             try clear c23b0
             try clear q24
             try clear c25
             try clear hcz15_0
             try clear hcz15_1
             try clear hcz15_2
             try clear hcz8_0
             try clear hcz8_1
             try clear hcz8_2
             try clear hfz15_0
             try clear hfz15_1
             try clear hfz15_2
             try clear hfz8_0
             try clear hfz8_1
             try clear hfz8_2
             try clear hx13_0
             try clear hx372_0
             try clear p1
             try clear p13
             try clear p2
             try clear p372
             try clear q1
             try clear q13
             try clear q372
             obtain ⟨kq, x38_21, rfl, HA, HJ21, HO_7, BK367, HB⟩ := hcut
             cases kq with
             | zero => exact absurd HA.out (by simp [davitref09_comes.j2])
             | succ kj21 =>
              have H := HA.out
              clear HA
              simp only [davitref09_comes.j2] at H
              by_cases c26 : x38_21 = true
              ·subst c26
               have H1 : (davitref09_comes.l1 kj21 a2 x7_2 x8_2 (wrap64 (x9_2 + 1)) a0_0 a0_1 l0_2) = some r := by rw [if_pos rfl] at H; exact H
               clear H
               have H := H1
               clear H1
               have H' := Aside0.mk H
               clear H
               go_wp2
               (try simp only [← hl7_2])
               go_roundg kj21
               case measure => have := HK1.out; have := HK2.out; have := HJ21.out; omega
               case rel => exact ⟨(x7_2), (x8_2), (wrap64 (x9_2 + 1)), (by first | rfl | (simp; done) | (simp [*]; done)), (by first | rfl | (simp; done) | (simp [*]; done)), H', ⟨by have := HK1.out; have := HK2.out; have := HJ21.out; omega⟩, ⟨by (try simp only [hl7_1]); (try simp only [hl7_2]); (with_reducible repeat (first | apply Kd.R_alloc | apply Kd.R_drewN | apply Kd.R_drew)); exact HO_7.out⟩, ⟨by (try simp only [hl7_1]); (try simp only [hl7_2]); (with_reducible repeat (first | refine blk_drewN ?_ _ | refine blk_drew ?_ | refine blk_alloc ?_ _)); exact BK367.out⟩, ⟨by repeat (first | (with_reducible first | exact HB.out | apply below_alloc | apply pw_below_drewN | apply below_drew1 | refine below_set ?_ GE367.out) | exact HB.out)⟩⟩
              ·replace c26 := Bool.eq_false_iff.mpr c26
               subst c26
               have H1 : ((davitref07_Next.f kj21 a0_0 a0_1 l0_2 x9_2).bind fun t373 => (davitref09_comes.l2 kj21 a2 x7_2 x8_2 x9_2 t373 0 a0_0 a0_1 l0_2)) = some r := by rw [if_neg (show ¬ (false = true) by decide)] at H; exact H
               clear H
               have H := H1
               clear H1
               replace H := Option.bind_eq_some_iff.mp H
               obtain ⟨t373, A270, H⟩ := H
               replace H : (davitref09_comes.l2 kj21 a2 x7_2 x8_2 x9_2 t373 0 a0_0 a0_1 l0_2) = some r := H
               have A27 := Aside0.mk A270
               clear A270
               have H' := Aside0.mk H
               clear H
               have hcz28_0 : wc.cell? ⟨gb367, 0, none⟩ = some (.int .i64 a0_0) := (blk_cell BK367.out 0).trans rfl
               have hcz28_1 : wc.cell? ⟨gb367, 1, none⟩ = some (.int .i64 a0_1) := (blk_cell BK367.out 1).trans rfl
               have hcz28_2 : wc.cell? ⟨gb367, 2, none⟩ = some (.slice A0_2 l0_2.length c0_2) := (blk_cell BK367.out 2).trans rfl
               have hfz28_0 := blk_frozen BK367.out 0
               have hfz28_1 := blk_frozen BK367.out 1
               have hfz28_2 := blk_frozen BK367.out 2
               go_wp2_with (first | ((with_reducible refine gate_callee (f := 33) rfl ?_); refine goesL_ (some 41) rfl rfl Try.func33 (by kernel_rfl) rfl #[.agg #[.int .i64 a0_0, .int .i64 a0_1, .slice A0_2 l0_2.length c0_2], .int .i64 x9_2] rfl (by (try simp only [List.map_toArray, List.map_cons, List.map_nil]); first | done | rfl | (simp only [List.length_drop, List.length_take]; rfl)) ?_; (with_reducible refine (davitref07_Next.calls kj21 a0_0 a0_1 _ _ l0_2 x9_2 t373 _ ?side1 ?side2 A27.out).mono ?_); (case side1 => repeat (first | exact (Kd.C_below HR0_2.out HB.out) | (with_reducible refine Kd.C_alloc ?_ _) | (with_reducible refine Kd.C_drewN ?_ _) | (with_reducible refine Kd.C_drew ?_))); (case side2 => exact HC0_2.out); rintro e w29 ⟨v374, rfl, ho0, hb⟩; refine ⟨_, rfl, ?_⟩; have n0_ := Aside0.mk (Kd.R_below (by (with_reducible repeat (first | apply Kd.R_alloc | apply Kd.R_drewN | apply Kd.R_drew)); exact HO_7.out) hb); have n1_ := Aside0.mk (Kd.R_lower ho0 (below_size (by repeat (first | (with_reducible first | exact HB.out | apply below_alloc | apply pw_below_drewN | apply below_drew1 | refine below_set ?_ GE367.out) | exact HB.out)))); have n2_ := Aside0.mk (blk_below (g := gb367) (o := .cells #[.int .i64 a0_0, .int .i64 a0_1, .slice A0_2 l0_2.length c0_2] 24 (0, 0)) (by (with_reducible repeat (first | refine blk_drewN ?_ _ | refine blk_drew ?_ | refine blk_alloc ?_ _)); exact BK367.out) hb); have n3_ := Aside0.mk (below_step (by repeat (first | (with_reducible first | exact HB.out | apply below_alloc | apply pw_below_drewN | apply below_drew1 | refine below_set ?_ GE367.out) | exact HB.out)) hb); clear HO_7; clear BK367; clear HB; have HO_7 := n0_; have HO375 := n1_; have BK367 := n2_; have HB := n3_; clear n0_ n1_ n2_ n3_; (try clear hb); (try clear hb2); (try clear hk); (try clear hi); (try clear ho0)))
               go_loopg [8, 11] kj21 (fun kq v8 v11 w' => ∃ (x7_4 : List Bool) (x8_4 : Bool) (x11_4 : Int), v8 = .bool x8_4 ∧ v11 = .int .i64 x11_4 ∧ Aside0 (davitref09_comes.l2 kq a2 x7_4 x8_4 x9_2 t373 x11_4 a0_0 a0_1 l0_2 = some r) ∧ Aside0 (kq ≤ kj21) ∧ Aside0 (Kd.R Kd.bool 4 w' w.heap.size (fun _ => True) (.slice (some ⟨go13, 0, none⟩) x7_2.length co13) x7_4) ∧ Aside0 (Kd.R (Kd.int .i64) 3 w' w.heap.size (fun _ => True) v374 t373) ∧ Aside0 (w'.heap[gb367]? = some (.cells #[.int .i64 a0_0, .int .i64 a0_1, (.slice A0_2 l0_2.length c0_2)] 24 (0, 0))) ∧ Aside0 (Below w.heap.size w w'))
               case atStart => exact ⟨(x7_2), (x8_2), (0), (by first | rfl | (simp; done) | (simp [*]; done)), (by first | rfl | (simp; done) | (simp [*]; done)), H', ⟨Nat.le_refl _⟩, ⟨by (try simp only [hl7_1]); (try simp only [hl7_2]); (with_reducible repeat (first | apply Kd.R_alloc | apply Kd.R_drewN | apply Kd.R_drew)); exact HO_7.out⟩, ⟨by (try simp only [hl7_1]); (try simp only [hl7_2]); (with_reducible repeat (first | apply Kd.R_alloc | apply Kd.R_drewN | apply Kd.R_drew)); exact HO375.out⟩, ⟨by (try simp only [hl7_1]); (try simp only [hl7_2]); (with_reducible repeat (first | refine blk_drewN ?_ _ | refine blk_drew ?_ | refine blk_alloc ?_ _)); exact BK367.out⟩, ⟨by repeat (first | (with_reducible first | exact HB.out | apply below_alloc | apply pw_below_drewN | apply below_drew1 | refine below_set ?_ GE367.out) | exact HB.out)⟩⟩
               case round =>
                clear H'
                try clear c1
                try clear p1
                try clear q1
                try clear hx1
                try clear c2
                try clear p2
                try clear q2
                try clear c3
                try clear p3
                try clear q3
                try clear hx3
                try clear c4
                try clear c4b0
                try clear c4b1
                try clear c5
                try clear c5b0
                try clear c5b1
                try clear c6
                try clear c6b0
                try clear c6b1
                try clear p6
                try clear c11
                try clear c11b0
                try clear c12
                try clear c12b0
                try clear p13
                try clear q13
                try clear hx13
                try clear hf13
                try clear c20
                try clear c21
                try clear c21b0
                try clear c23
                try clear c23b0
                try clear q24
                try clear c25
                try clear c26
                try clear hcz15_0
                try clear hcz15_1
                try clear hcz15_2
                try clear hcz28_0
                try clear hcz28_1
                try clear hcz28_2
                try clear hcz8_0
                try clear hcz8_1
                try clear hcz8_2
                try clear hfz15_0
                try clear hfz15_1
                try clear hfz15_2
                try clear hfz28_0
                try clear hfz28_1
                try clear hfz28_2
                try clear hfz8_0
                try clear hfz8_1
                try clear hfz8_2
                try clear hx13_0
                try clear hx372_0
                try clear p1
                try clear p13
                try clear p2
                try clear p3
                try clear p372
                try clear q1
                try clear q13
                try clear q2
                try clear q24
                try clear q3
                try clear q372
                obtain ⟨x7_4, x8_4, x11_4, rfl, rfl, HA, HK4, HO_7, HO_10, BK367, HB⟩ := hrel
                have hl7_4 := (Kd.R_reads' HO_7.out).1
                rw [hl7_4] at HO_7
                (try simp only [hl7_4])
                (try simp only [hl7_4] at BK367)
                (try simp only [hl7_4] at HO_10)
                cases gk with
                | zero => exact absurd HA.out (by simp [davitref09_comes.l2])
                | succ k4 =>
                 have H := HA.out
                 clear HA
                 simp only [davitref09_comes.l2] at H
                 by_cases c30 : x11_4 < (t373.length : Int)
                 ·rw [if_pos c30] at H
                  have c30b0 : decide (x11_4 < (t373.length : Int)) = true := decide_eq_true c30
                  clear c30
                  by_cases c31 : 0 ≤ x11_4
                  ·rw [if_pos c31] at H
                   have c31b0 : decide (0 ≤ x11_4) = true := decide_eq_true c31
                   clear c31
                   by_cases c32 : 0 ≤ (rd t373 x11_4)
                   ·rw [if_pos c32] at H
                    have c32b0 : decide (0 ≤ (rd t373 x11_4)) = true := decide_eq_true c32
                    clear c32
                    by_cases c33 : (rd t373 x11_4) < (x7_4.length : Int)
                    ·rw [if_pos c33] at H
                     have c33b0 : decide ((rd t373 x11_4) < (x7_4.length : Int)) = true := decide_eq_true c33
                     clear c33
                     obtain ⟨bq34, hbq34⟩ : ∃ b_ : Bool, b_ = (rdOf false x7_4 (rd t373 x11_4)) := ⟨_, rfl⟩
                     replace H : (if bq34 = true then (if 0 ≤ x9_2 then (if x9_2 < (x7_4.length : Int) then (davitref09_comes.l2 k4 a2 (x7_4.set (x9_2 : Int).toNat true) true x9_2 t373 (wrap64 (x11_4 + 1)) a0_0 a0_1 l0_2) else (none)) else (none)) else (davitref09_comes.l2 k4 a2 x7_4 x8_4 x9_2 t373 (wrap64 (x11_4 + 1)) a0_0 a0_1 l0_2)) = some r := by rw [← hbq34] at H; exact H
                     have Nbq34 := Aside0.mk hbq34
                     clear hbq34
                     by_cases c35 : bq34 = true
                     ·subst c35
                      have H1 : (if 0 ≤ x9_2 then (if x9_2 < (x7_4.length : Int) then (davitref09_comes.l2 k4 a2 (x7_4.set (x9_2 : Int).toNat true) true x9_2 t373 (wrap64 (x11_4 + 1)) a0_0 a0_1 l0_2) else (none)) else (none)) = some r := by rw [if_pos rfl] at H; exact H
                      clear H
                      have H := H1
                      clear H1
                      by_cases c36 : 0 ≤ x9_2
                      ·rw [if_pos c36] at H
                       have c36b0 : decide (0 ≤ x9_2) = true := decide_eq_true c36
                       clear c36
                       by_cases c37 : x9_2 < (x7_4.length : Int)
                       ·rw [if_pos c37] at H
                        have c37b0 : decide (x9_2 < (x7_4.length : Int)) = true := decide_eq_true c37
                        clear c37
                        obtain ⟨y378, hy378⟩ : ∃ y_ : List Bool, y_ = (x7_4.set (x9_2 : Int).toNat true) := ⟨_, rfl⟩
                        replace H : (davitref09_comes.l2 k4 a2 y378 true x9_2 t373 (wrap64 (x11_4 + 1)) a0_0 a0_1 l0_2) = some r := by first | (rw [hy378]; with_reducible exact H) | (have H2_ := (Option.bind_some _ _).symm.trans H; rw [hy378]; with_reducible exact H2_) | (have H2_ := (Option.bind_some _ _).symm.trans H; with_reducible exact H2_) | with_reducible exact H | (rw [hy378]; exact H) | exact H
                        have Ny378 := Aside0.mk hy378
                        clear hy378
                        have H' := Aside0.mk H
                        clear H
                        obtain ⟨Ao39, co39, eo39⟩ := Kd.R_slice HO_10.out
                        subst eo39
                        have p376 : 0 ≤ (x11_4 : Int) := of_decide_eq_true (by first | (with_reducible assumption) | assumption)
                        have q376 : x11_4 < (t373.length : Int) := of_decide_eq_true (by first | (with_reducible assumption) | assumption)
                        obtain ⟨ad376, e376, hx376_0⟩ := Kd.at_int (Kd.R_reads' HO_10.out).2.2 x11_4 p376 q376
                        cases e376
                        replace p376 := eq_true p376
                        replace q376 := eq_true q376
                        have p377 : 0 ≤ ((rd t373 x11_4) : Int) := of_decide_eq_true (by first | (with_reducible assumption) | assumption)
                        have q377 : (rd t373 x11_4) < (x7_4.length : Int) := of_decide_eq_true (by first | (with_reducible assumption) | assumption)
                        obtain ⟨ad377, e377, hx377_0⟩ := Kd.at_bool (Kd.R_reads' HO_7.out).2.2 (rd t373 x11_4) p377 q377
                        (try rw [← Nbq34.out] at hx377_0)
                        obtain rfl : (⟨go13, 0, none⟩ : Addr) = ad377 := (by injection e377)
                        (first | simp only [add_plain] at hx377_0 | simp only [add_at] at hx377_0 | simp only [Addr.add, Nat.zero_add] at hx377_0 | skip)
                        replace p377 := eq_true p377
                        replace q377 := eq_true q377
                        have p38 : 0 ≤ (x9_2 : Int) := of_decide_eq_true (by first | (with_reducible assumption) | assumption)
                        have q38 : (x9_2 : Int) < ((x7_4.length : Int) : Int) := of_decide_eq_true (by first | (with_reducible assumption) | assumption)
                        obtain ⟨hx38_0, hf38_0⟩ := Kd.R_celln false HO_7.out (x9_2 : Int) p38 q38
                        replace p38 := eq_true p38
                        replace q38 := eq_true q38
                        have HP40 := Kd.R_putg HO_7.out (x9_2 : Int) true
                        go_wp2_with (first | ((with_reducible refine gate_store (t := 4) (p := 57) rfl ?_); refine store_event (t := 4) (p := 57) (v := ?vo_w41) (w1 := (wr.setCell ⟨go13, (x9_2 : Int).toNat, none⟩ (.bool true))) ?hg ?ho ?hn ?hr ?_; (case ho => rfl); (case hg => rfl); (case hn => rfl); (case hr => first | (go_simp; done) | (go_simp; rfl)); intro w41 hw; have hg : wr.grownBy w41 (some go13) := (by rw [hw]; exact HP40.2); have hp_ : Kd.R Kd.bool 4 w41 w.heap.size (fun _ => True) (.slice (some ⟨go13, 0, none⟩) x7_4.length co13) y378 := (by rw [hw, Ny378.out]; exact HP40.1); clear HP40; have n0_ := Aside0.mk (hp_); have n1_ := Aside0.mk (Kd.R_over' (v := (.slice (some ⟨go13, 0, none⟩) x7_4.length co13)) (by (with_reducible repeat (first | apply Kd.R_alloc | apply Kd.R_drewN | apply Kd.R_drew)); exact HO_10.out) (Kd.R_typed HO_7.out) (by decide) hg); have n2_ := Aside0.mk (blk_grown (g := gb367) (o := .cells #[.int .i64 a0_0, .int .i64 a0_1, .slice A0_2 l0_2.length c0_2] 24 (0, 0)) (by (with_reducible repeat (first | refine blk_drewN ?_ _ | refine blk_drew ?_ | refine blk_alloc ?_ _)); exact BK367.out) hg (Kd.R_ne HO_7.out BK367.out (by decide))); have n3_ := Aside0.mk ((by rw [hw]; exact below_set (HB.out) GB13.out : Below w.heap.size w w41)); clear HO_7; clear HO_10; clear BK367; clear HB; have HO_7 := n0_; have HO_10 := n1_; have BK367 := n2_; have HB := n3_; clear n0_ n1_ n2_ n3_; clear hg hw hp_))
                        (try simp only [← hl7_4])
                        go_roundg k4
                        case measure => have := HK1.out; have := HK2.out; have := HJ21.out; have := HK4.out; omega
                        case rel => exact ⟨(y378), (true), (wrap64 (x11_4 + 1)), (by first | rfl | (simp; done) | (simp [*]; done)), (by first | rfl | (simp; done) | (simp [*]; done)), H', ⟨by have := HK1.out; have := HK2.out; have := HJ21.out; have := HK4.out; omega⟩, ⟨by (try simp only [hl7_1]); (try simp only [hl7_2]); (try simp only [hl7_4]); (with_reducible repeat (first | apply Kd.R_alloc | apply Kd.R_drewN | apply Kd.R_drew)); exact HO_7.out⟩, ⟨by (try simp only [hl7_1]); (try simp only [hl7_2]); (try simp only [hl7_4]); (with_reducible repeat (first | apply Kd.R_alloc | apply Kd.R_drewN | apply Kd.R_drew)); exact HO_10.out⟩, ⟨by (try simp only [hl7_1]); (try simp only [hl7_2]); (try simp only [hl7_4]); (with_reducible repeat (first | refine blk_drewN ?_ _ | refine blk_drew ?_ | refine blk_alloc ?_ _)); exact BK367.out⟩, ⟨by repeat (first | (with_reducible first | exact HB.out | apply below_alloc | apply pw_below_drewN | apply below_drew1 | refine below_set ?_ GE367.out) | exact HB.out)⟩⟩
                       ·rw [if_neg c37] at H
                        exact absurd H (by simp)
                      ·rw [if_neg c36] at H
                       exact absurd H (by simp)
                     ·replace c35 := Bool.eq_false_iff.mpr c35
                      subst c35
                      have H1 : (davitref09_comes.l2 k4 a2 x7_4 x8_4 x9_2 t373 (wrap64 (x11_4 + 1)) a0_0 a0_1 l0_2) = some r := by rw [if_neg (show ¬ (false = true) by decide)] at H; exact H
                      clear H
                      have H := H1
                      clear H1
                      have H' := Aside0.mk H
                      clear H
                      obtain ⟨Ao42, co42, eo42⟩ := Kd.R_slice HO_10.out
                      subst eo42
                      have p376 : 0 ≤ (x11_4 : Int) := of_decide_eq_true (by first | (with_reducible assumption) | assumption)
                      have q376 : x11_4 < (t373.length : Int) := of_decide_eq_true (by first | (with_reducible assumption) | assumption)
                      obtain ⟨ad376, e376, hx376_0⟩ := Kd.at_int (Kd.R_reads' HO_10.out).2.2 x11_4 p376 q376
                      cases e376
                      replace p376 := eq_true p376
                      replace q376 := eq_true q376
                      have p377 : 0 ≤ ((rd t373 x11_4) : Int) := of_decide_eq_true (by first | (with_reducible assumption) | assumption)
                      have q377 : (rd t373 x11_4) < (x7_4.length : Int) := of_decide_eq_true (by first | (with_reducible assumption) | assumption)
                      obtain ⟨ad377, e377, hx377_0⟩ := Kd.at_bool (Kd.R_reads' HO_7.out).2.2 (rd t373 x11_4) p377 q377
                      (try rw [← Nbq34.out] at hx377_0)
                      obtain rfl : (⟨go13, 0, none⟩ : Addr) = ad377 := (by injection e377)
                      (first | simp only [add_plain] at hx377_0 | simp only [add_at] at hx377_0 | simp only [Addr.add, Nat.zero_add] at hx377_0 | skip)
                      replace p377 := eq_true p377
                      replace q377 := eq_true q377
                      go_wp2
                      (try simp only [← hl7_4])
                      go_roundg k4
                      case measure => have := HK1.out; have := HK2.out; have := HJ21.out; have := HK4.out; omega
                      case rel => exact ⟨(x7_4), (x8_4), (wrap64 (x11_4 + 1)), (by first | rfl | (simp; done) | (simp [*]; done)), (by first | rfl | (simp; done) | (simp [*]; done)), H', ⟨by have := HK1.out; have := HK2.out; have := HJ21.out; have := HK4.out; omega⟩, ⟨by (try simp only [hl7_1]); (try simp only [hl7_2]); (try simp only [hl7_4]); (with_reducible repeat (first | apply Kd.R_alloc | apply Kd.R_drewN | apply Kd.R_drew)); exact HO_7.out⟩, ⟨by (try simp only [hl7_1]); (try simp only [hl7_2]); (try simp only [hl7_4]); (with_reducible repeat (first | apply Kd.R_alloc | apply Kd.R_drewN | apply Kd.R_drew)); exact HO_10.out⟩, ⟨by (try simp only [hl7_1]); (try simp only [hl7_2]); (try simp only [hl7_4]); (with_reducible repeat (first | refine blk_drewN ?_ _ | refine blk_drew ?_ | refine blk_alloc ?_ _)); exact BK367.out⟩, ⟨by repeat (first | (with_reducible first | exact HB.out | apply below_alloc | apply pw_below_drewN | apply below_drew1 | refine below_set ?_ GE367.out) | exact HB.out)⟩⟩
                    ·rw [if_neg c33] at H
                     exact absurd H (by simp)
                   ·rw [if_neg c32] at H
                    exact absurd H (by simp)
                  ·rw [if_neg c31] at H
                   exact absurd H (by simp)
                 ·rw [if_neg c30] at H
                  have c30b0 : decide (x11_4 < (t373.length : Int)) = false := decide_eq_false c30
                  clear c30
                  have H' := Aside0.mk H
                  clear H
                  obtain ⟨Ao43, co43, eo43⟩ := Kd.R_slice HO_10.out
                  subst eo43
                  go_wp2
                  (try simp only [← hl7_2, ← hl7_4])
                  go_roundg k4
                  case measure => have := HK1.out; have := HK2.out; have := HJ21.out; have := HK4.out; omega
                  case rel => exact ⟨(x7_4), (x8_4), (wrap64 (x9_2 + 1)), (by first | rfl | (simp; done) | (simp [*]; done)), (by first | rfl | (simp; done) | (simp [*]; done)), H', ⟨by have := HK1.out; have := HK2.out; have := HJ21.out; have := HK4.out; omega⟩, ⟨by (try simp only [hl7_1]); (try simp only [hl7_2]); (try simp only [hl7_4]); (with_reducible repeat (first | apply Kd.R_alloc | apply Kd.R_drewN | apply Kd.R_drew)); exact HO_7.out⟩, ⟨by (try simp only [hl7_1]); (try simp only [hl7_2]); (try simp only [hl7_4]); (with_reducible repeat (first | refine blk_drewN ?_ _ | refine blk_drew ?_ | refine blk_alloc ?_ _)); exact BK367.out⟩, ⟨by repeat (first | (with_reducible first | exact HB.out | apply below_alloc | apply pw_below_drewN | apply below_drew1 | refine below_set ?_ GE367.out) | exact HB.out)⟩⟩
           ·rw [if_neg c21] at H
            have c21b0 : decide (x9_2 < (x7_2.length : Int)) = false := decide_eq_false c21
            clear c21
            have H' := Aside0.mk H
            clear H
            go_wp2
            (try simp only [← hl7_1, ← hl7_2])
            go_roundg k2
            case measure => have := HK1.out; have := HK2.out; omega
            case rel => exact ⟨(x7_2), (x8_2), (by first | rfl | (simp; done) | (simp [*]; done)), H', ⟨by have := HK1.out; have := HK2.out; omega⟩, ⟨by (try simp only [hl7_1]); (try simp only [hl7_2]); (with_reducible repeat (first | apply Kd.R_alloc | apply Kd.R_drewN | apply Kd.R_drew)); exact HO_7.out⟩, ⟨by (try simp only [hl7_1]); (try simp only [hl7_2]); (with_reducible repeat (first | refine blk_drewN ?_ _ | refine blk_drew ?_ | refine blk_alloc ?_ _)); exact BK367.out⟩, ⟨by repeat (first | (with_reducible first | exact HB.out | apply below_alloc | apply pw_below_drewN | apply below_drew1 | refine below_set ?_ GE367.out) | exact HB.out)⟩⟩
        ·replace c20 := Bool.eq_false_iff.mpr c20
         subst c20
         have H1 : (some x7_1) = some r := by rw [if_neg (show ¬ (false = true) by decide)] at H; exact H
         clear H
         have H := H1
         clear H1
         obtain rfl := Option.some.inj H
         go_wp2
         go_ret
         exact ⟨_, by first | rfl | (simp [errW_none, errW_some] <;> rfl) | (simp [*, errW_none, errW_some] <;> rfl), by (with_reducible repeat (first | apply Kd.R_alloc | apply Kd.R_drewN | apply Kd.R_drew)); exact HO_7.out, by repeat (first | (with_reducible first | exact HB.out | apply below_alloc | apply pw_below_drewN | apply below_drew1 | refine below_set ?_ GE367.out) | exact HB.out)⟩
     ·rw [if_neg c12] at H
      exact absurd H (by simp)
    ·rw [if_neg c11] at H
     exact absurd H (by simp)
  ·rw [if_neg c5] at H
   exact absurd H (by simp)
 ·rw [if_neg c4] at H
  exact absurd H (by simp)
end
end Go.Proofs.Ytilopoegoddggaa.X
namespace Go.Proofs.Ytilopoegoddggaa.X
open Go.RowKit Go.Proofs.YtilopoegoddggaaW.PrintWords Go.Proofs.YtilopoegoddggaaW.PrintLast Go.Proofs.YtilopoegoddggaaW.PrintMore
attribute [local go_sem] max2_int min2_int max_two min_two max_three min_three max_four min_four
set_option linter.all false
noncomputable section
mutual
def davitref09_All.l0 : Nat → List (List Bool) → List (S40) → Int → Int → Int → List (S50) → Option ((List (S40)))
 | 0, _, _, _, _, _, _ => none
 | k + 1, x3, x4, x5, x380000, x380001, x380002 => if x5 < (x380002.length : Int) then (if 0 ≤ (x380002.length : Int) then (if ((x380002.length : Int) : Int).toNat ≤ 281474976710656 then (davitref09_All.l1 k x3 x4 x5 (List.replicate ((x380002.length : Int) : Int).toNat false) false 0 x380000 x380001 x380002) else (none)) else (none)) else (some x4)
def davitref09_All.l1 : Nat → List (List Bool) → List (S40) → Int → List Bool → Bool → Int → Int → Int → List (S50) → Option ((List (S40)))
 | 0, _, _, _, _, _, _, _, _, _ => none
 | k + 1, x3, x4, x5, x6, x7, x8, x380000, x380001, x380002 => if x8 < (x380002.length : Int) then (if 0 ≤ x5 then (if x5 < (x3.length : Int) then (if 0 ≤ x8 then (if x8 < ((rd_L12 x3 x5).length : Int) then (if (rdOf false (rd_L12 x3 x5) x8 = true) then ((davitref07_Next.f k x380000 x380001 x380002 x8).bind fun t388 => ((davitref07_Has.f k t388 x5).bind fun t391 => (davitref09_All.j2 k x3 x4 x5 x6 x7 x8 (!t391) x380000 x380001 x380002))) else (davitref09_All.j2 k x3 x4 x5 x6 x7 x8 true x380000 x380001 x380002)) else (none)) else (none)) else (none)) else (none)) else (if x7 = true then (if 0 ≤ x5 then (if x5 < (x6.length : Int) then (davitref09_All.l3 k x3 x4 x5 (x6.set (x5 : Int).toNat true) 0 x380000 x380001 x380002 x5 ([] : List Int)) else (none)) else (none)) else (davitref09_All.l0 k x3 x4 (wrap64 (x5 + 1)) x380000 x380001 x380002))
def davitref09_All.j2 : Nat → List (List Bool) → List (S40) → Int → List Bool → Bool → Int → Bool → Int → Int → List (S50) → Option ((List (S40)))
 | 0, _, _, _, _, _, _, _, _, _, _ => none
 | k + 1, x3, x4, x5, x6, x7, x8, x48, x380000, x380001, x380002 => if x48 = true then (davitref09_All.l1 k x3 x4 x5 x6 x7 (wrap64 (x8 + 1)) x380000 x380001 x380002) else ((davitref09_comes.f k x380000 x380001 x380002 x8 x5).bind fun t392 => (davitref09_All.l2 k x3 x4 x5 x6 true x8 t392 0 x380000 x380001 x380002))
def davitref09_All.l2 : Nat → List (List Bool) → List (S40) → Int → List Bool → Bool → Int → List Bool → Int → Int → Int → List (S50) → Option ((List (S40)))
 | 0, _, _, _, _, _, _, _, _, _, _, _ => none
 | k + 1, x3, x4, x5, x6, x7, x8, x9, x10, x380000, x380001, x380002 => if x10 < (x6.length : Int) then (if 0 ≤ x10 then (if rdOf false x6 x10 = true then (davitref09_All.l2 k x3 x4 x5 (x6.set (x10 : Int).toNat true) x7 x8 x9 (wrap64 (x10 + 1)) x380000 x380001 x380002) else (if x10 < (x9.length : Int) then (if rdOf false x9 x10 = true then (if 0 ≤ x5 then (if x5 < (x3.length : Int) then (if x10 < ((rd_L12 x3 x5).length : Int) then (davitref09_All.l2 k x3 x4 x5 (x6.set (x10 : Int).toNat (rdOf false (rd_L12 x3 x5) x10)) x7 x8 x9 (wrap64 (x10 + 1)) x380000 x380001 x380002) else (none)) else (none)) else (none)) else (davitref09_All.l2 k x3 x4 x5 (x6.set (x10 : Int).toNat false) x7 x8 x9 (wrap64 (x10 + 1)) x380000 x380001 x380002)) else (none))) else (none)) else (davitref09_All.l1 k x3 x4 x5 x6 x7 (wrap64 (x8 + 1)) x380000 x380001 x380002)
def davitref09_All.l3 : Nat → List (List Bool) → List (S40) → Int → List Bool → Int → Int → Int → List (S50) → Int → List Int → Option ((List (S40)))
 | 0, _, _, _, _, _, _, _, _, _, _ => none
 | k + 1, x3, x4, x5, x6, x12, x380000, x380001, x380002, x404000, x404001 => if x12 < (x6.length : Int) then (if 0 ≤ x12 then (if rdOf false x6 x12 = true then (if x404001.length < 17592186044416 then (davitref09_All.l3 k x3 x4 x5 x6 (wrap64 (x12 + 1)) x380000 x380001 x380002 x404000 (x404001 ++ [x12])) else (none)) else (davitref09_All.l3 k x3 x4 x5 x6 (wrap64 (x12 + 1)) x380000 x380001 x380002 x404000 x404001)) else (none)) else (if x4.length < 4398046511104 then (davitref09_All.l0 k x3 (x4 ++ [(⟨x404000, x404001⟩ : S40)]) (wrap64 (x5 + 1)) x380000 x380001 x380002) else (none))
end
def davitref09_All.f (k : Nat) (a0_0 : Int) (a0_1 : Int) (l0_2 : List (S50)) : Option ((List (S40))) := (davitref08_All.f k a0_0 a0_1 l0_2).bind fun t380 => (davitref09_All.l0 k t380 ([] : List (S40)) 0 a0_0 a0_1 l0_2)
theorem davitref09_All.mono_l : ∀ k, (∀ y0 y1 y2 y3 y4 y5, LeO (davitref09_All.l0 k y0 y1 y2 y3 y4 y5) (davitref09_All.l0 (k + 1) y0 y1 y2 y3 y4 y5)) ∧ (∀ y0 y1 y2 y3 y4 y5 y6 y7 y8, LeO (davitref09_All.l1 k y0 y1 y2 y3 y4 y5 y6 y7 y8) (davitref09_All.l1 (k + 1) y0 y1 y2 y3 y4 y5 y6 y7 y8)) ∧ (∀ y0 y1 y2 y3 y4 y5 y6 y7 y8 y9, LeO (davitref09_All.j2 k y0 y1 y2 y3 y4 y5 y6 y7 y8 y9) (davitref09_All.j2 (k + 1) y0 y1 y2 y3 y4 y5 y6 y7 y8 y9)) ∧ (∀ y0 y1 y2 y3 y4 y5 y6 y7 y8 y9 y10, LeO (davitref09_All.l2 k y0 y1 y2 y3 y4 y5 y6 y7 y8 y9 y10) (davitref09_All.l2 (k + 1) y0 y1 y2 y3 y4 y5 y6 y7 y8 y9 y10)) ∧ (∀ y0 y1 y2 y3 y4 y5 y6 y7 y8 y9, LeO (davitref09_All.l3 k y0 y1 y2 y3 y4 y5 y6 y7 y8 y9) (davitref09_All.l3 (k + 1) y0 y1 y2 y3 y4 y5 y6 y7 y8 y9))
 | 0 => ⟨fun _ _ _ _ _ _ r h => by simp [davitref09_All.l0] at h, fun _ _ _ _ _ _ _ _ _ r h => by simp [davitref09_All.l1] at h, fun _ _ _ _ _ _ _ _ _ _ r h => by simp [davitref09_All.j2] at h, fun _ _ _ _ _ _ _ _ _ _ _ r h => by simp [davitref09_All.l2] at h, fun _ _ _ _ _ _ _ _ _ _ r h => by simp [davitref09_All.l3] at h⟩
 | k + 1 => by
  obtain ⟨ih0, ih1, ih2, ih3, ih4⟩ := davitref09_All.mono_l k
  refine ⟨?_, ?_, ?_, ?_, ?_⟩
  ·intro y0 y1 y2 y3 y4 y5
   unfold davitref09_All.l0
   repeat' first
   | (with_reducible exact ih0 _ _ _ _ _ _)
   | (with_reducible exact ih1 _ _ _ _ _ _ _ _ _)
   | (with_reducible exact ih2 _ _ _ _ _ _ _ _ _ _)
   | (with_reducible exact ih3 _ _ _ _ _ _ _ _ _ _ _)
   | (with_reducible exact ih4 _ _ _ _ _ _ _ _ _ _)
   | (with_reducible exact davitref07_Has.mono _ _ _)
   | (with_reducible exact davitref07_Next.mono _ _ _ _ _)
   | (with_reducible exact davitref08_All.mono _ _ _ _)
   | (with_reducible exact davitref09_comes.mono _ _ _ _ _ _)
   | (with_reducible exact LeO.refl _)
   | (with_reducible exact LeO.none _)
   | (with_reducible refine LeO.ite ?_ ?_)
   | (with_reducible refine LeO.bind ?_ (fun _ => ?_))
   | exact ih0 _ _ _ _ _ _
   | exact ih1 _ _ _ _ _ _ _ _ _
   | exact ih2 _ _ _ _ _ _ _ _ _ _
   | exact ih3 _ _ _ _ _ _ _ _ _ _ _
   | exact ih4 _ _ _ _ _ _ _ _ _ _
   | exact davitref07_Has.mono _ _ _
   | exact davitref07_Next.mono _ _ _ _ _
   | exact davitref08_All.mono _ _ _ _
   | exact davitref09_comes.mono _ _ _ _ _ _
   | exact LeO.none _
   | refine LeO.ite ?_ ?_
   | refine LeO.bind ?_ (fun _ => ?_)
  ·intro y0 y1 y2 y3 y4 y5 y6 y7 y8
   unfold davitref09_All.l1
   repeat' first
   | (with_reducible exact ih0 _ _ _ _ _ _)
   | (with_reducible exact ih1 _ _ _ _ _ _ _ _ _)
   | (with_reducible exact ih2 _ _ _ _ _ _ _ _ _ _)
   | (with_reducible exact ih3 _ _ _ _ _ _ _ _ _ _ _)
   | (with_reducible exact ih4 _ _ _ _ _ _ _ _ _ _)
   | (with_reducible exact davitref07_Has.mono _ _ _)
   | (with_reducible exact davitref07_Next.mono _ _ _ _ _)
   | (with_reducible exact davitref08_All.mono _ _ _ _)
   | (with_reducible exact davitref09_comes.mono _ _ _ _ _ _)
   | (with_reducible exact LeO.refl _)
   | (with_reducible exact LeO.none _)
   | (with_reducible refine LeO.ite ?_ ?_)
   | (with_reducible refine LeO.bind ?_ (fun _ => ?_))
   | exact ih0 _ _ _ _ _ _
   | exact ih1 _ _ _ _ _ _ _ _ _
   | exact ih2 _ _ _ _ _ _ _ _ _ _
   | exact ih3 _ _ _ _ _ _ _ _ _ _ _
   | exact ih4 _ _ _ _ _ _ _ _ _ _
   | exact davitref07_Has.mono _ _ _
   | exact davitref07_Next.mono _ _ _ _ _
   | exact davitref08_All.mono _ _ _ _
   | exact davitref09_comes.mono _ _ _ _ _ _
   | exact LeO.none _
   | refine LeO.ite ?_ ?_
   | refine LeO.bind ?_ (fun _ => ?_)
  ·intro y0 y1 y2 y3 y4 y5 y6 y7 y8 y9
   unfold davitref09_All.j2
   repeat' first
   | (with_reducible exact ih0 _ _ _ _ _ _)
   | (with_reducible exact ih1 _ _ _ _ _ _ _ _ _)
   | (with_reducible exact ih2 _ _ _ _ _ _ _ _ _ _)
   | (with_reducible exact ih3 _ _ _ _ _ _ _ _ _ _ _)
   | (with_reducible exact ih4 _ _ _ _ _ _ _ _ _ _)
   | (with_reducible exact davitref07_Has.mono _ _ _)
   | (with_reducible exact davitref07_Next.mono _ _ _ _ _)
   | (with_reducible exact davitref08_All.mono _ _ _ _)
   | (with_reducible exact davitref09_comes.mono _ _ _ _ _ _)
   | (with_reducible exact LeO.refl _)
   | (with_reducible exact LeO.none _)
   | (with_reducible refine LeO.ite ?_ ?_)
   | (with_reducible refine LeO.bind ?_ (fun _ => ?_))
   | exact ih0 _ _ _ _ _ _
   | exact ih1 _ _ _ _ _ _ _ _ _
   | exact ih2 _ _ _ _ _ _ _ _ _ _
   | exact ih3 _ _ _ _ _ _ _ _ _ _ _
   | exact ih4 _ _ _ _ _ _ _ _ _ _
   | exact davitref07_Has.mono _ _ _
   | exact davitref07_Next.mono _ _ _ _ _
   | exact davitref08_All.mono _ _ _ _
   | exact davitref09_comes.mono _ _ _ _ _ _
   | exact LeO.none _
   | refine LeO.ite ?_ ?_
   | refine LeO.bind ?_ (fun _ => ?_)
  ·intro y0 y1 y2 y3 y4 y5 y6 y7 y8 y9 y10
   unfold davitref09_All.l2
   repeat' first
   | (with_reducible exact ih0 _ _ _ _ _ _)
   | (with_reducible exact ih1 _ _ _ _ _ _ _ _ _)
   | (with_reducible exact ih2 _ _ _ _ _ _ _ _ _ _)
   | (with_reducible exact ih3 _ _ _ _ _ _ _ _ _ _ _)
   | (with_reducible exact ih4 _ _ _ _ _ _ _ _ _ _)
   | (with_reducible exact davitref07_Has.mono _ _ _)
   | (with_reducible exact davitref07_Next.mono _ _ _ _ _)
   | (with_reducible exact davitref08_All.mono _ _ _ _)
   | (with_reducible exact davitref09_comes.mono _ _ _ _ _ _)
   | (with_reducible exact LeO.refl _)
   | (with_reducible exact LeO.none _)
   | (with_reducible refine LeO.ite ?_ ?_)
   | (with_reducible refine LeO.bind ?_ (fun _ => ?_))
   | exact ih0 _ _ _ _ _ _
   | exact ih1 _ _ _ _ _ _ _ _ _
   | exact ih2 _ _ _ _ _ _ _ _ _ _
   | exact ih3 _ _ _ _ _ _ _ _ _ _ _
   | exact ih4 _ _ _ _ _ _ _ _ _ _
   | exact davitref07_Has.mono _ _ _
   | exact davitref07_Next.mono _ _ _ _ _
   | exact davitref08_All.mono _ _ _ _
   | exact davitref09_comes.mono _ _ _ _ _ _
   | exact LeO.none _
   | refine LeO.ite ?_ ?_
   | refine LeO.bind ?_ (fun _ => ?_)
  ·intro y0 y1 y2 y3 y4 y5 y6 y7 y8 y9
   unfold davitref09_All.l3
   repeat' first
   | (with_reducible exact ih0 _ _ _ _ _ _)
   | (with_reducible exact ih1 _ _ _ _ _ _ _ _ _)
   | (with_reducible exact ih2 _ _ _ _ _ _ _ _ _ _)
   | (with_reducible exact ih3 _ _ _ _ _ _ _ _ _ _ _)
   | (with_reducible exact ih4 _ _ _ _ _ _ _ _ _ _)
   | (with_reducible exact davitref07_Has.mono _ _ _)
   | (with_reducible exact davitref07_Next.mono _ _ _ _ _)
   | (with_reducible exact davitref08_All.mono _ _ _ _)
   | (with_reducible exact davitref09_comes.mono _ _ _ _ _ _)
   | (with_reducible exact LeO.refl _)
   | (with_reducible exact LeO.none _)
   | (with_reducible refine LeO.ite ?_ ?_)
   | (with_reducible refine LeO.bind ?_ (fun _ => ?_))
   | exact ih0 _ _ _ _ _ _
   | exact ih1 _ _ _ _ _ _ _ _ _
   | exact ih2 _ _ _ _ _ _ _ _ _ _
   | exact ih3 _ _ _ _ _ _ _ _ _ _ _
   | exact ih4 _ _ _ _ _ _ _ _ _ _
   | exact davitref07_Has.mono _ _ _
   | exact davitref07_Next.mono _ _ _ _ _
   | exact davitref08_All.mono _ _ _ _
   | exact davitref09_comes.mono _ _ _ _ _ _
   | exact LeO.none _
   | refine LeO.ite ?_ ?_
   | refine LeO.bind ?_ (fun _ => ?_)
theorem davitref09_All.mono : ∀ a0 a1 a2 k, LeO (davitref09_All.f k a0 a1 a2) (davitref09_All.f (k + 1) a0 a1 a2) := by
 intro a0 a1 a2 k
 obtain ⟨ih0, ih1, ih2, ih3, ih4⟩ := davitref09_All.mono_l k
 unfold davitref09_All.f
 repeat' first
   | (with_reducible exact ih0 _ _ _ _ _ _)
   | (with_reducible exact ih1 _ _ _ _ _ _ _ _ _)
   | (with_reducible exact ih2 _ _ _ _ _ _ _ _ _ _)
   | (with_reducible exact ih3 _ _ _ _ _ _ _ _ _ _ _)
   | (with_reducible exact ih4 _ _ _ _ _ _ _ _ _ _)
   | (with_reducible exact davitref07_Has.mono _ _ _)
   | (with_reducible exact davitref07_Next.mono _ _ _ _ _)
   | (with_reducible exact davitref08_All.mono _ _ _ _)
   | (with_reducible exact davitref09_comes.mono _ _ _ _ _ _)
   | (with_reducible exact LeO.refl _)
   | (with_reducible exact LeO.none _)
   | (with_reducible refine LeO.ite ?_ ?_)
   | (with_reducible refine LeO.bind ?_ (fun _ => ?_))
   | exact ih0 _ _ _ _ _ _
   | exact ih1 _ _ _ _ _ _ _ _ _
   | exact ih2 _ _ _ _ _ _ _ _ _ _
   | exact ih3 _ _ _ _ _ _ _ _ _ _ _
   | exact ih4 _ _ _ _ _ _ _ _ _ _
   | exact davitref07_Has.mono _ _ _
   | exact davitref07_Next.mono _ _ _ _ _
   | exact davitref08_All.mono _ _ _ _
   | exact davitref09_comes.mono _ _ _ _ _ _
   | exact LeO.none _
   | refine LeO.ite ?_ ?_
   | refine LeO.bind ?_ (fun _ => ?_)
set_option maxHeartbeats 8000000 in
set_option maxRecDepth 100000 in
theorem davitref09_All.calls (k : Nat) (a0_0 : Int) (a0_1 : Int) (A0_2 : Option Addr) (c0_2 : Nat) (l0_2 : List (S50)) (r : List (S40)) (w : World) (hr0_2 : Kd.C k50 w A0_2 l0_2.length l0_2) (hc0_2 : l0_2.length ≤ c0_2) (h : davitref09_All.f k a0_0 a0_1 l0_2 = some r) :
  Calls Try.prog 24 #[.agg #[.int .i64 a0_0, .int .i64 a0_1, .slice A0_2 l0_2.length c0_2]] w fun e w' => ∃ v0_ : Value, e = .returned (v0_) ∧ Kd.S k40 40 w' w.heap.size (fun _ => True) v0_ r ∧ Below w.heap.size w w' := by
 have hu24 := Try.underlying24
 have hu40 := Try.underlying40
 have HR0_2 := Aside0.mk hr0_2
 have HC0_2 := Aside0.mk hc0_2
 clear hr0_2 hc0_2
 have HB := Aside0.mk (Below.refl w.heap.size w)
 have H : ((davitref08_All.f k a0_0 a0_1 l0_2).bind fun t380 => (davitref09_All.l0 k t380 ([] : List (S40)) 0 a0_0 a0_1 l0_2)) = some r := h
 clear h
 replace H := Option.bind_eq_some_iff.mp H
 obtain ⟨t380, A20, H⟩ := H
 replace H : (davitref09_All.l0 k t380 ([] : List (S40)) 0 a0_0 a0_1 l0_2) = some r := H
 have A2 := Aside0.mk A20
 clear A20
 have H' := Aside0.mk H
 clear H
 go_enter Try.func24, Try.ntmps24
 go_wp2_with (first | ((with_reducible refine gate_dst (N := 1) rfl ?_); refine box_event ?hg (N := 1) ?hd (cs := #[.int .i64 a0_0, .int .i64 a0_1, .slice A0_2 l0_2.length c0_2]) (t := 24) ?hr ?_; (case hd => rfl); (case hg => rfl); (case hr => first | (go_simp; done) | (go_simp; rfl)); intro gb379 hg w3 hbox hb; have n0_ := Aside0.mk (below_step (by repeat (first | (with_reducible first | exact HB.out | apply below_alloc | apply pw_below_drewN | apply below_drew1) | exact HB.out)) hb); have n1_ := Aside0.mk (hbox); have n2_ := Aside0.mk ((by rw [hg]; exact (below_size (by repeat (first | (with_reducible first | exact HB.out | apply below_alloc | apply pw_below_drewN | apply below_drew1) | exact HB.out))) : w.heap.size ≤ gb379)); have n3_ := Aside0.mk ((by rw [hg]; exact (below_size (by repeat (first | (with_reducible first | exact HB.out | apply below_alloc | apply pw_below_drewN | apply below_drew1) | exact HB.out))) : w.heap.size ≤ gb379)); clear HB; have HB := n0_; have BK379 := n1_; have GW379 := n2_; have GE379 := n3_; clear n0_ n1_ n2_ n3_; clear hb hbox hg; have hcz4_0 : w3.cell? ⟨gb379, 0, none⟩ = some (.int .i64 a0_0) := (blk_cell BK379.out 0).trans rfl; have hcz4_1 : w3.cell? ⟨gb379, 1, none⟩ = some (.int .i64 a0_1) := (blk_cell BK379.out 1).trans rfl; have hcz4_2 : w3.cell? ⟨gb379, 2, none⟩ = some (.slice A0_2 l0_2.length c0_2) := (blk_cell BK379.out 2).trans rfl; have hfz4_0 := blk_frozen BK379.out 0; have hfz4_1 := blk_frozen BK379.out 1; have hfz4_2 := blk_frozen BK379.out 2) | ((with_reducible refine gate_callee (f := 28) rfl ?_); refine goesL_ (some 14) rfl rfl Try.func28 (by kernel_rfl) rfl #[.agg #[.int .i64 a0_0, .int .i64 a0_1, .slice A0_2 l0_2.length c0_2]] rfl (by (try simp only [List.map_toArray, List.map_cons, List.map_nil]); first | done | rfl | (simp only [List.length_drop, List.length_take]; rfl)) ?_; (with_reducible refine (davitref08_All.calls k a0_0 a0_1 _ _ l0_2 t380 _ ?side1 ?side2 A2.out).mono ?_); (case side1 => repeat (first | exact (Kd.C_below HR0_2.out HB.out) | (with_reducible refine Kd.C_alloc ?_ _) | (with_reducible refine Kd.C_drewN ?_ _) | (with_reducible refine Kd.C_drew ?_))); (case side2 => exact HC0_2.out); rintro e w5 ⟨v381, rfl, ho0, hb⟩; refine ⟨_, rfl, ?_⟩; have n0_ := Aside0.mk (Kd.S_lower ho0 (below_size (by repeat (first | (with_reducible first | exact HB.out | apply below_alloc | apply pw_below_drewN | apply below_drew1 | refine below_set ?_ GE379.out) | exact HB.out)))); have n1_ := Aside0.mk (blk_below (g := gb379) (o := .cells #[.int .i64 a0_0, .int .i64 a0_1, .slice A0_2 l0_2.length c0_2] 24 (0, 0)) (by (with_reducible repeat (first | refine blk_drewN ?_ _ | refine blk_drew ?_ | refine blk_alloc ?_ _)); exact BK379.out) hb); have n2_ := Aside0.mk (below_step (by repeat (first | (with_reducible first | exact HB.out | apply below_alloc | apply pw_below_drewN | apply below_drew1 | refine below_set ?_ GE379.out) | exact HB.out)) hb); clear BK379; clear HB; have HO382 := n0_; have BK379 := n1_; have HB := n2_; clear n0_ n1_ n2_; (try clear hb); (try clear hb2); (try clear hk); (try clear hi); (try clear ho0)))
 go_loopg [4, 5] k (fun kq v4 v5 w' => ∃ (x4_1 : List (S40)) (x5_1 : Int), v5 = .int .i64 x5_1 ∧ Aside0 (davitref09_All.l0 kq t380 x4_1 x5_1 a0_0 a0_1 l0_2 = some r) ∧ Aside0 (kq ≤ k) ∧ Aside0 (Kd.S (Kd.slice 4 Kd.bool) 32 w' w.heap.size (fun _ => True) v381 t380) ∧ Aside0 (Kd.S k40 40 w' w.heap.size (fun _ => True) v4 x4_1) ∧ Aside0 (w'.heap[gb379]? = some (.cells #[.int .i64 a0_0, .int .i64 a0_1, (.slice A0_2 l0_2.length c0_2)] 24 (0, 0))) ∧ Aside0 (Below w.heap.size w w'))
 case atStart => exact ⟨(([] : List (S40))), (0), (by first | rfl | (simp; done) | (simp [*]; done)), H', ⟨Nat.le_refl _⟩, ⟨by (with_reducible repeat (first | apply Kd.S_alloc | apply Kd.S_drewN | apply Kd.S_drew)); exact HO382.out⟩, ⟨by first | exact Kd.S_nil _ _ _ _ _ | exact Kd.N_nil _ _ _ _ _ | exact Kd.V_nil _ _ _ _ _ | exact Kd.Q_nil _ _ _ _ _ | exact Kd.R_nil _ _ _ _ _⟩, ⟨by (with_reducible repeat (first | refine blk_drewN ?_ _ | refine blk_drew ?_ | refine blk_alloc ?_ _)); exact BK379.out⟩, ⟨by repeat (first | (with_reducible first | exact HB.out | apply below_alloc | apply pw_below_drewN | apply below_drew1 | refine below_set ?_ GE379.out) | exact HB.out)⟩⟩
 case round =>
  clear H'
  try clear c2
  try clear p2
  try clear hcz4_0
  try clear hcz4_1
  try clear hcz4_2
  try clear hfz4_0
  try clear hfz4_1
  try clear hfz4_2
  obtain ⟨x4_1, x5_1, rfl, HA, HK1, HO_3, HO_4, BK379, HB⟩ := hrel
  cases gk with
  | zero => exact absurd HA.out (by simp [davitref09_All.l0])
  | succ k1 =>
   have H := HA.out
   clear HA
   simp only [davitref09_All.l0] at H
   by_cases c6 : x5_1 < (l0_2.length : Int)
   ·rw [if_pos c6] at H
    have c6b0 : decide (x5_1 < (l0_2.length : Int)) = true := decide_eq_true c6
    clear c6
    by_cases c7 : 0 ≤ (l0_2.length : Int)
    ·rw [if_pos c7] at H
     have c7b0 := eq_true c7
     have c7b1 : decide (0 ≤ (l0_2.length : Int)) = true := decide_eq_true c7
     clear c7
     by_cases c8 : ((l0_2.length : Int) : Int).toNat ≤ 281474976710656
     ·rw [if_pos c8] at H
      have c8b0 := eq_true c8
      have c8b1 : decide (((l0_2.length : Int) : Int).toNat ≤ 281474976710656) = true := decide_eq_true c8
      clear c8
      obtain ⟨y383, hy383⟩ : ∃ y_ : List Bool, y_ = (List.replicate ((l0_2.length : Int) : Int).toNat false) := ⟨_, rfl⟩
      replace H : (davitref09_All.l1 k1 t380 x4_1 x5_1 y383 false 0 a0_0 a0_1 l0_2) = some r := by first | (rw [hy383]; with_reducible exact H) | (have H2_ := (Option.bind_some _ _).symm.trans H; rw [hy383]; with_reducible exact H2_) | (have H2_ := (Option.bind_some _ _).symm.trans H; with_reducible exact H2_) | with_reducible exact H | (rw [hy383]; exact H) | exact H
      have Ny383 := Aside0.mk hy383
      clear hy383
      have H' := Aside0.mk H
      clear H
      have hcz9_0 : wr.cell? ⟨gb379, 0, none⟩ = some (.int .i64 a0_0) := (blk_cell BK379.out 0).trans rfl
      have hcz9_1 : wr.cell? ⟨gb379, 1, none⟩ = some (.int .i64 a0_1) := (blk_cell BK379.out 1).trans rfl
      have hcz9_2 : wr.cell? ⟨gb379, 2, none⟩ = some (.slice A0_2 l0_2.length c0_2) := (blk_cell BK379.out 2).trans rfl
      have hfz9_0 := blk_frozen BK379.out 0
      have hfz9_1 := blk_frozen BK379.out 1
      have hfz9_2 := blk_frozen BK379.out 2
      go_wp2_with (first | ((with_reducible refine gate_dst (N := 25) rfl ?_); refine Kd.R_make Kd.bool _ 4 rfl (N := 25) rfl 32 _ _ rfl (l0_2.length : Int) rfl rfl Try.underlying32 (.bool false) 1 info4 rfl (by decide) (by omega) false (ok := fun _ => True) (okp := fun _ => True) rfl (fun _ hk => hk) trivial (of_decide_eq_true (by first | (with_reducible assumption) | assumption)) (Nat.le_trans (Nat.mul_le_mul_right _ (of_decide_eq_true (by first | (with_reducible assumption) | assumption) : (l0_2.length : Int).toNat ≤ 281474976710656)) (by omega)) (Below.refl _ _) (Nat.le_refl _) ?_; intro v384 w10 ho11 hb hg_ hnew_; clear hg_ hnew_; (first | rw [← Ny383.out] at ho11 | (simp only [Int.reduceToNat] at ho11; rw [← Ny383.out] at ho11)); have n0_ := Aside0.mk (Kd.S_elder' (by (with_reducible repeat (first | apply Kd.S_alloc | apply Kd.S_drewN | apply Kd.S_drew)); exact HO_3.out) (Kd.R_base ho11) hb); have n1_ := Aside0.mk (Kd.S_below (by (with_reducible repeat (first | apply Kd.S_alloc | apply Kd.S_drewN | apply Kd.S_drew)); exact HO_4.out) hb); have n2_ := Aside0.mk (Kd.R_lower ho11 (below_size (by repeat (first | (with_reducible first | exact HB.out | apply below_alloc | apply pw_below_drewN | apply below_drew1 | refine below_set ?_ GE379.out) | exact HB.out)))); have n3_ := Aside0.mk (blk_below (g := gb379) (o := .cells #[.int .i64 a0_0, .int .i64 a0_1, .slice A0_2 l0_2.length c0_2] 24 (0, 0)) (by (with_reducible repeat (first | refine blk_drewN ?_ _ | refine blk_drew ?_ | refine blk_alloc ?_ _)); exact BK379.out) hb); have n4_ := Aside0.mk (below_step (by repeat (first | (with_reducible first | exact HB.out | apply below_alloc | apply pw_below_drewN | apply below_drew1 | refine below_set ?_ GE379.out) | exact HB.out)) hb); clear HO_3; clear HO_4; clear BK379; clear HB; have HO_3 := n0_; have HO_4 := n1_; have HO385 := n2_; have BK379 := n3_; have HB := n4_; clear n0_ n1_ n2_ n3_ n4_; clear hb ho11))
      go_loopg [7, 8] k1 (fun kq v7 v8 w' => ∃ (x6_2 : List Bool) (x7_2 : Bool) (x8_2 : Int), v7 = .bool x7_2 ∧ v8 = .int .i64 x8_2 ∧ Aside0 (davitref09_All.l1 kq t380 x4_1 x5_1 x6_2 x7_2 x8_2 a0_0 a0_1 l0_2 = some r) ∧ Aside0 (kq ≤ k1) ∧ Aside0 (Kd.S (Kd.slice 4 Kd.bool) 32 w' w.heap.size (fun k_ => some k_ ≠ (v384 : Value).ownBlock) v381 t380) ∧ Aside0 (Kd.S k40 40 w' w.heap.size (fun _ => True) u4 x4_1) ∧ Aside0 (Kd.R Kd.bool 4 w' w.heap.size (fun _ => True) v384 x6_2) ∧ Aside0 (w'.heap[gb379]? = some (.cells #[.int .i64 a0_0, .int .i64 a0_1, (.slice A0_2 l0_2.length c0_2)] 24 (0, 0))) ∧ Aside0 (Below w.heap.size w w'))
      case atStart => exact ⟨(y383), (false), (0), (by first | rfl | (simp; done) | (simp [*]; done)), (by first | rfl | (simp; done) | (simp [*]; done)), H', ⟨Nat.le_refl _⟩, ⟨by (with_reducible repeat (first | apply Kd.S_alloc | apply Kd.S_drewN | apply Kd.S_drew)); exact Kd.S_mono HO_3.out (fun _ hk => hk.2)⟩, ⟨by (with_reducible repeat (first | apply Kd.S_alloc | apply Kd.S_drewN | apply Kd.S_drew)); exact HO_4.out⟩, ⟨by (with_reducible repeat (first | apply Kd.R_alloc | apply Kd.R_drewN | apply Kd.R_drew)); exact HO385.out⟩, ⟨by (with_reducible repeat (first | refine blk_drewN ?_ _ | refine blk_drew ?_ | refine blk_alloc ?_ _)); exact BK379.out⟩, ⟨by repeat (first | (with_reducible first | exact HB.out | apply below_alloc | apply pw_below_drewN | apply below_drew1 | refine below_set ?_ GE379.out) | exact HB.out)⟩⟩
      case round =>
       clear H'
       try clear c2
       try clear p2
       try clear c6
       try clear c6b0
       try clear c7
       try clear c7b0
       try clear c7b1
       try clear c8
       try clear c8b0
       try clear c8b1
       try clear hcz4_0
       try clear hcz4_1
       try clear hcz4_2
       try clear hcz9_0
       try clear hcz9_1
       try clear hcz9_2
       try clear hfz4_0
       try clear hfz4_1
       try clear hfz4_2
       try clear hfz9_0
       try clear hfz9_1
       try clear hfz9_2
       try clear p2
       obtain ⟨x6_2, x7_2, x8_2, rfl, rfl, HA, HK2, HO_3, HO_4, HO_6, BK379, HB⟩ := hrel
       cases gk with
       | zero => exact absurd HA.out (by simp [davitref09_All.l1])
       | succ k2 =>
        have H := HA.out
        clear HA
        simp only [davitref09_All.l1] at H
        by_cases c12 : x8_2 < (l0_2.length : Int)
        ·rw [if_pos c12] at H
         have c12b0 : decide (x8_2 < (l0_2.length : Int)) = true := decide_eq_true c12
         clear c12
         have HC13 := Aside0.mk H
         clear H
         have hcz14_0 : wr.cell? ⟨gb379, 0, none⟩ = some (.int .i64 a0_0) := (blk_cell BK379.out 0).trans rfl
         have hcz14_1 : wr.cell? ⟨gb379, 1, none⟩ = some (.int .i64 a0_1) := (blk_cell BK379.out 1).trans rfl
         have hcz14_2 : wr.cell? ⟨gb379, 2, none⟩ = some (.slice A0_2 l0_2.length c0_2) := (blk_cell BK379.out 2).trans rfl
         have hfz14_0 := blk_frozen BK379.out 0
         have hfz14_1 := blk_frozen BK379.out 1
         have hfz14_2 := blk_frozen BK379.out 2
         go_upto_region 11 with (fail)
         go_cut [48] (fun v48 wc => ∃ (kq : Nat) (x48_12 : Bool), v48 = .bool x48_12 ∧ Aside0 (davitref09_All.j2 kq t380 x4_1 x5_1 x6_2 x7_2 x8_2 x48_12 a0_0 a0_1 l0_2 = some r) ∧ Aside0 (kq ≤ k2) ∧ Aside0 (Kd.S (Kd.slice 4 Kd.bool) 32 wc w.heap.size (fun k_ => some k_ ≠ (v384 : Value).ownBlock) v381 t380) ∧ Aside0 (Kd.S k40 40 wc w.heap.size (fun _ => True) u4 x4_1) ∧ Aside0 (Kd.R Kd.bool 4 wc w.heap.size (fun _ => True) v384 x6_2) ∧ Aside0 (wc.heap[gb379]? = some (.cells #[.int .i64 a0_0, .int .i64 a0_1, (.slice A0_2 l0_2.length c0_2)] 24 (0, 0))) ∧ Aside0 (Below w.heap.size w wc))
         case first =>
          have H := HC13.out
          clear HC13
          by_cases c15 : 0 ≤ x5_1
          ·rw [if_pos c15] at H
           have c15b0 : decide (0 ≤ x5_1) = true := decide_eq_true c15
           clear c15
           (first | rw [c15b0] | (simp only [i64_w, i32_w]; rw [c15b0]) | skip)
           by_cases c16 : x5_1 < (t380.length : Int)
           ·rw [if_pos c16] at H
            have c16b0 : decide (x5_1 < (t380.length : Int)) = true := decide_eq_true c16
            clear c16
            by_cases c17 : 0 ≤ x8_2
            ·rw [if_pos c17] at H
             have c17b0 : decide (0 ≤ x8_2) = true := decide_eq_true c17
             clear c17
             by_cases c18 : x8_2 < ((rd_L12 t380 x5_1).length : Int)
             ·rw [if_pos c18] at H
              have c18b0 : decide (x8_2 < ((rd_L12 t380 x5_1).length : Int)) = true := decide_eq_true c18
              clear c18
              obtain ⟨bq19, hbq19⟩ : ∃ b_ : Bool, b_ = (rdOf false (rd_L12 t380 x5_1) x8_2) := ⟨_, rfl⟩
              replace H : (if (bq19 = true) then ((davitref07_Next.f k2 a0_0 a0_1 l0_2 x8_2).bind fun t388 => ((davitref07_Has.f k2 t388 x5_1).bind fun t391 => (davitref09_All.j2 k2 t380 x4_1 x5_1 x6_2 x7_2 x8_2 (!t391) a0_0 a0_1 l0_2))) else (davitref09_All.j2 k2 t380 x4_1 x5_1 x6_2 x7_2 x8_2 true a0_0 a0_1 l0_2)) = some r := by rw [← hbq19] at H; exact H
              have Nbq19 := Aside0.mk hbq19
              clear hbq19
              by_cases c20 : (bq19 = true)
              ·subst c20
               have H1 : ((davitref07_Next.f k2 a0_0 a0_1 l0_2 x8_2).bind fun t388 => ((davitref07_Has.f k2 t388 x5_1).bind fun t391 => (davitref09_All.j2 k2 t380 x4_1 x5_1 x6_2 x7_2 x8_2 (!t391) a0_0 a0_1 l0_2))) = some r := by rw [if_pos rfl] at H; exact H
               clear H
               have H := H1
               clear H1
               replace H := Option.bind_eq_some_iff.mp H
               obtain ⟨t388, A210, H⟩ := H
               replace H : ((davitref07_Has.f k2 t388 x5_1).bind fun t391 => (davitref09_All.j2 k2 t380 x4_1 x5_1 x6_2 x7_2 x8_2 (!t391) a0_0 a0_1 l0_2)) = some r := H
               have A21 := Aside0.mk A210
               clear A210
               replace H := Option.bind_eq_some_iff.mp H
               obtain ⟨t391, A220, H⟩ := H
               replace H : (davitref09_All.j2 k2 t380 x4_1 x5_1 x6_2 x7_2 x8_2 (!t391) a0_0 a0_1 l0_2) = some r := H
               have A22 := Aside0.mk A220
               clear A220
               have H' := Aside0.mk H
               clear H
               obtain ⟨Ao23, co23, eo23⟩ := Kd.S_slice HO_3.out
               subst eo23
               have p386 : 0 ≤ (x5_1 : Int) := of_decide_eq_true (by first | (with_reducible assumption) | assumption)
               have q386 : x5_1 < (t380.length : Int) := of_decide_eq_true (by first | (with_reducible assumption) | assumption)
               obtain ⟨ad386, A386_0, c386_0, e386, hx386_0, hl386_0, hi386_0⟩ := at_L12 (Kd.S_reads' HO_3.out).2.2 x5_1 p386 q386
               cases e386
               obtain ⟨ce386, hce386, hMe386, hcc386⟩ := Kd.S_get HO_3.out [] x5_1 p386 (by first | exact q386 | exact of_decide_eq_true (by first | (with_reducible assumption) | assumption) | (have e_ := (Kd.S_reads' HO_3.out).1; omega))
               obtain ⟨ve386_0, rfl, ge386_0⟩ := hMe386
               have hv386_0 := hcc386 0 _ rfl
               rw [Nat.add_zero, show ((Kd.slice 4 Kd.bool)).sz = 1 from rfl, Nat.mul_one] at hv386_0
               replace hv386_0 := Option.some.inj (hv386_0.symm.trans hx386_0)
               rw [hv386_0] at ge386_0
               have HL386_0 := Aside0.mk (show Kd.R Kd.bool 4 _ _ _ _ (rd_L12 t380 x5_1) from ge386_0)
               clear hv386_0 ge386_0
               clear hcc386 hce386
               have HR386_0 := Aside0.mk hi386_0
               have HC386_0 := Aside0.mk hl386_0
               clear hi386_0 hl386_0
               replace p386 := eq_true p386
               replace q386 := eq_true q386
               have p387 : 0 ≤ (x8_2 : Int) := of_decide_eq_true (by first | (with_reducible assumption) | assumption)
               have q387 : x8_2 < ((rd_L12 t380 x5_1).length : Int) := of_decide_eq_true (by first | (with_reducible assumption) | assumption)
               obtain ⟨ad387, e387, hx387_0⟩ := Kd.at_bool (by repeat (first | (with_reducible exact HR386_0.out) | (with_reducible refine Kd.C_alloc ?_ _) | (with_reducible refine Kd.C_drewN ?_ _) | (with_reducible refine Kd.C_drew ?_) | exact HR386_0.out)) x8_2 p387 q387
               (try rw [← Nbq19.out] at hx387_0)
               cases e387
               replace p387 := eq_true p387
               replace q387 := eq_true q387
               have hcz24_0 : wr.cell? ⟨gb379, 0, none⟩ = some (.int .i64 a0_0) := (blk_cell BK379.out 0).trans rfl
               have hcz24_1 : wr.cell? ⟨gb379, 1, none⟩ = some (.int .i64 a0_1) := (blk_cell BK379.out 1).trans rfl
               have hcz24_2 : wr.cell? ⟨gb379, 2, none⟩ = some (.slice A0_2 l0_2.length c0_2) := (blk_cell BK379.out 2).trans rfl
               have hfz24_0 := blk_frozen BK379.out 0
               have hfz24_1 := blk_frozen BK379.out 1
               have hfz24_2 := blk_frozen BK379.out 2
               go_wp2_with (first | (go_at_call 33; (with_reducible refine (davitref07_Next.calls k2 a0_0 a0_1 _ _ l0_2 x8_2 t388 _ ?side1 ?side2 A21.out).mono ?_); (case side1 => repeat (first | exact (Kd.C_below HR0_2.out HB.out) | (with_reducible refine Kd.C_alloc ?_ _) | (with_reducible refine Kd.C_drewN ?_ _) | (with_reducible refine Kd.C_drew ?_))); (case side2 => exact HC0_2.out); rintro e w25 ⟨v389, rfl, ho0, hb⟩; have n0_ := Aside0.mk (Kd.S_below (by (with_reducible repeat (first | apply Kd.S_alloc | apply Kd.S_drewN | apply Kd.S_drew)); exact HO_3.out) hb); have n1_ := Aside0.mk (Kd.S_elder' (by (with_reducible repeat (first | apply Kd.S_alloc | apply Kd.S_drewN | apply Kd.S_drew)); exact HO_4.out) (Kd.R_base ho0) hb); have n2_ := Aside0.mk (Kd.R_below (by (with_reducible repeat (first | apply Kd.R_alloc | apply Kd.R_drewN | apply Kd.R_drew)); exact HO_6.out) hb); have n3_ := Aside0.mk (Kd.R_below (by (with_reducible repeat (first | apply Kd.R_alloc | apply Kd.R_drewN | apply Kd.R_drew)); exact HL386_0.out) hb); have n4_ := Aside0.mk (Kd.R_lower ho0 (below_size (by repeat (first | (with_reducible first | exact HB.out | apply below_alloc | apply pw_below_drewN | apply below_drew1 | refine below_set ?_ GE379.out) | exact HB.out)))); have n5_ := Aside0.mk (blk_below (g := gb379) (o := .cells #[.int .i64 a0_0, .int .i64 a0_1, .slice A0_2 l0_2.length c0_2] 24 (0, 0)) (by (with_reducible repeat (first | refine blk_drewN ?_ _ | refine blk_drew ?_ | refine blk_alloc ?_ _)); exact BK379.out) hb); have n6_ := Aside0.mk (Kd.C_below (by repeat (first | (with_reducible exact HR386_0.out) | (with_reducible refine Kd.C_alloc ?_ _) | (with_reducible refine Kd.C_drewN ?_ _) | (with_reducible refine Kd.C_drew ?_) | exact HR386_0.out)) hb); have n7_ := Aside0.mk (below_step (by repeat (first | (with_reducible first | exact HB.out | apply below_alloc | apply pw_below_drewN | apply below_drew1 | refine below_set ?_ GE379.out) | exact HB.out)) hb); clear HO_3; clear HO_4; clear HO_6; clear HL386_0; clear BK379; clear HR386_0; clear HB; have HO_3 := n0_; have HO_4 := n1_; have HO_6 := n2_; have HL386_0 := n3_; have HO390 := n4_; have BK379 := n5_; have HR386_0 := n6_; have HB := n7_; clear n0_ n1_ n2_ n3_ n4_ n5_ n6_ n7_; (try clear hb); (try clear hb2); (try clear hk); (try clear hi); (try clear ho0); obtain ⟨Ao26, co26, eo26⟩ := Kd.R_slice HO390.out; subst eo26) | (go_at_call 21; (with_reducible refine (davitref07_Has.calls k2 _ _ t388 x5_1 t391 _ ?side1 ?side2 A22.out).mono ?_); (case side1 => repeat (first | exact (Kd.R_reads' HO390.out).2.2 | (with_reducible refine Kd.C_alloc ?_ _) | (with_reducible refine Kd.C_drewN ?_ _) | (with_reducible refine Kd.C_drew ?_))); (case side2 => exact (Kd.R_reads' HO390.out).2.1); rintro e w' ⟨rfl, ⟨nd, rfl⟩⟩))
               go_meet
               case rel => exact ⟨_, (!t391), (by first | rfl | (simp; done) | (simp [*]; done)), H', ⟨by have := HK1.out; have := HK2.out; first | omega | exact Nat.le_refl _⟩, ⟨by (with_reducible repeat (first | apply Kd.S_alloc | apply Kd.S_drewN | apply Kd.S_drew)); exact HO_3.out⟩, ⟨by (with_reducible repeat (first | apply Kd.S_alloc | apply Kd.S_drewN | apply Kd.S_drew)); exact Kd.S_mono HO_4.out (fun _ hk => trivial)⟩, ⟨by (with_reducible repeat (first | apply Kd.R_alloc | apply Kd.R_drewN | apply Kd.R_drew)); exact HO_6.out⟩, ⟨by (with_reducible repeat (first | refine blk_drewN ?_ _ | refine blk_drew ?_ | refine blk_alloc ?_ _)); exact BK379.out⟩, ⟨by repeat (first | (with_reducible first | exact HB.out | apply below_alloc | apply pw_below_drewN | apply below_drew1 | refine below_set ?_ GE379.out) | exact HB.out)⟩⟩
              ·replace c20 := Bool.eq_false_iff.mpr c20
               subst c20
               have H1 : (davitref09_All.j2 k2 t380 x4_1 x5_1 x6_2 x7_2 x8_2 true a0_0 a0_1 l0_2) = some r := by rw [if_neg (show ¬ (false = true) by decide)] at H; exact H
               clear H
               have H := H1
               clear H1
               have H' := Aside0.mk H
               clear H
               obtain ⟨Ao27, co27, eo27⟩ := Kd.S_slice HO_3.out
               subst eo27
               have p386 : 0 ≤ (x5_1 : Int) := of_decide_eq_true (by first | (with_reducible assumption) | assumption)
               have q386 : x5_1 < (t380.length : Int) := of_decide_eq_true (by first | (with_reducible assumption) | assumption)
               obtain ⟨ad386, A386_0, c386_0, e386, hx386_0, hl386_0, hi386_0⟩ := at_L12 (Kd.S_reads' HO_3.out).2.2 x5_1 p386 q386
               cases e386
               obtain ⟨ce386, hce386, hMe386, hcc386⟩ := Kd.S_get HO_3.out [] x5_1 p386 (by first | exact q386 | exact of_decide_eq_true (by first | (with_reducible assumption) | assumption) | (have e_ := (Kd.S_reads' HO_3.out).1; omega))
               obtain ⟨ve386_0, rfl, ge386_0⟩ := hMe386
               have hv386_0 := hcc386 0 _ rfl
               rw [Nat.add_zero, show ((Kd.slice 4 Kd.bool)).sz = 1 from rfl, Nat.mul_one] at hv386_0
               replace hv386_0 := Option.some.inj (hv386_0.symm.trans hx386_0)
               rw [hv386_0] at ge386_0
               have HL386_0 := Aside0.mk (show Kd.R Kd.bool 4 _ _ _ _ (rd_L12 t380 x5_1) from ge386_0)
               clear hv386_0 ge386_0
               clear hcc386 hce386
               have HR386_0 := Aside0.mk hi386_0
               have HC386_0 := Aside0.mk hl386_0
               clear hi386_0 hl386_0
               replace p386 := eq_true p386
               replace q386 := eq_true q386
               have p387 : 0 ≤ (x8_2 : Int) := of_decide_eq_true (by first | (with_reducible assumption) | assumption)
               have q387 : x8_2 < ((rd_L12 t380 x5_1).length : Int) := of_decide_eq_true (by first | (with_reducible assumption) | assumption)
               obtain ⟨ad387, e387, hx387_0⟩ := Kd.at_bool (by repeat (first | (with_reducible exact HR386_0.out) | (with_reducible refine Kd.C_alloc ?_ _) | (with_reducible refine Kd.C_drewN ?_ _) | (with_reducible refine Kd.C_drew ?_) | exact HR386_0.out)) x8_2 p387 q387
               (try rw [← Nbq19.out] at hx387_0)
               cases e387
               replace p387 := eq_true p387
               replace q387 := eq_true q387
               go_wp2
               go_meet
               case rel => exact ⟨_, (true), (by first | rfl | (simp; done) | (simp [*]; done)), H', ⟨by have := HK1.out; have := HK2.out; first | omega | exact Nat.le_refl _⟩, ⟨by (with_reducible repeat (first | apply Kd.S_alloc | apply Kd.S_drewN | apply Kd.S_drew)); exact HO_3.out⟩, ⟨by (with_reducible repeat (first | apply Kd.S_alloc | apply Kd.S_drewN | apply Kd.S_drew)); exact HO_4.out⟩, ⟨by (with_reducible repeat (first | apply Kd.R_alloc | apply Kd.R_drewN | apply Kd.R_drew)); exact HO_6.out⟩, ⟨by (with_reducible repeat (first | refine blk_drewN ?_ _ | refine blk_drew ?_ | refine blk_alloc ?_ _)); exact BK379.out⟩, ⟨by repeat (first | (with_reducible first | exact HB.out | apply below_alloc | apply pw_below_drewN | apply below_drew1 | refine below_set ?_ GE379.out) | exact HB.out)⟩⟩
             ·rw [if_neg c18] at H
              exact absurd H (by simp)
            ·rw [if_neg c17] at H
             exact absurd H (by simp)
           ·rw [if_neg c16] at H
            exact absurd H (by simp)
          ·rw [if_neg c15] at H
           exact absurd H (by simp)
         case rest =>
          clear HC13
          try clear c1
          try clear q1
          try clear c2
          try clear p2
          try clear c3
          try clear p3
          try clear q3
          try clear hx3
          try clear c6
          try clear c6b0
          try clear c7
          try clear c7b0
          try clear c7b1
          try clear c8
          try clear c8b0
          try clear c8b1
          try clear c12
          try clear c12b0
          try clear c15
          try clear c15b0
          try clear c16
          try clear c16b0
          try clear c17
          try clear c17b0
          try clear c18
          try clear c18b0
          try clear q19
          try clear c20
          try clear c24
          try clear hcz14_0
          try clear hcz14_1
          try clear hcz14_2
          try clear hcz24_0
          try clear hcz24_1
          try clear hcz24_2
          try clear hcz4_0
          try clear hcz4_1
          try clear hcz4_2
          try clear hcz9_0
          try clear hcz9_1
          try clear hcz9_2
          try clear hfz14_0
          try clear hfz14_1
          try clear hfz14_2
          try clear hfz24_0
          try clear hfz24_1
          try clear hfz24_2
          try clear hfz4_0
          try clear hfz4_1
          try clear hfz4_2
          try clear hfz9_0
          try clear hfz9_1
          try clear hfz9_2
          try clear hx386_0
          try clear hx387_0
          try clear p2
          try clear p386
          try clear p387
          try clear q386
          try clear q387
          obtain ⟨kq, x48_12, rfl, HA, HJ12, HO_3, HO_4, HO_6, BK379, HB⟩ := hcut
          cases kq with
          | zero => exact absurd HA.out (by simp [davitref09_All.j2])
          | succ kj12 =>
           have H := HA.out
           clear HA
           simp only [davitref09_All.j2] at H
           by_cases c28 : x48_12 = true
           ·subst c28
            have H1 : (davitref09_All.l1 kj12 t380 x4_1 x5_1 x6_2 x7_2 (wrap64 (x8_2 + 1)) a0_0 a0_1 l0_2) = some r := by rw [if_pos rfl] at H; exact H
            clear H
            have H := H1
            clear H1
            have H' := Aside0.mk H
            clear H
            go_wp2
            go_roundg kj12
            case measure => have := HK1.out; have := HK2.out; have := HJ12.out; omega
            case rel => exact ⟨(x6_2), (x7_2), (wrap64 (x8_2 + 1)), (by first | rfl | (simp; done) | (simp [*]; done)), (by first | rfl | (simp; done) | (simp [*]; done)), H', ⟨by have := HK1.out; have := HK2.out; have := HJ12.out; omega⟩, ⟨by (with_reducible repeat (first | apply Kd.S_alloc | apply Kd.S_drewN | apply Kd.S_drew)); exact HO_3.out⟩, ⟨by (with_reducible repeat (first | apply Kd.S_alloc | apply Kd.S_drewN | apply Kd.S_drew)); exact HO_4.out⟩, ⟨by (with_reducible repeat (first | apply Kd.R_alloc | apply Kd.R_drewN | apply Kd.R_drew)); exact HO_6.out⟩, ⟨by (with_reducible repeat (first | refine blk_drewN ?_ _ | refine blk_drew ?_ | refine blk_alloc ?_ _)); exact BK379.out⟩, ⟨by repeat (first | (with_reducible first | exact HB.out | apply below_alloc | apply pw_below_drewN | apply below_drew1 | refine below_set ?_ GE379.out) | exact HB.out)⟩⟩
           ·replace c28 := Bool.eq_false_iff.mpr c28
            subst c28
            have H1 : ((davitref09_comes.f kj12 a0_0 a0_1 l0_2 x8_2 x5_1).bind fun t392 => (davitref09_All.l2 kj12 t380 x4_1 x5_1 x6_2 true x8_2 t392 0 a0_0 a0_1 l0_2)) = some r := by rw [if_neg (show ¬ (false = true) by decide)] at H; exact H
            clear H
            have H := H1
            clear H1
            replace H := Option.bind_eq_some_iff.mp H
            obtain ⟨t392, A290, H⟩ := H
            replace H : (davitref09_All.l2 kj12 t380 x4_1 x5_1 x6_2 true x8_2 t392 0 a0_0 a0_1 l0_2) = some r := H
            have A29 := Aside0.mk A290
            clear A290
            have H' := Aside0.mk H
            clear H
            have hcz30_0 : wc.cell? ⟨gb379, 0, none⟩ = some (.int .i64 a0_0) := (blk_cell BK379.out 0).trans rfl
            have hcz30_1 : wc.cell? ⟨gb379, 1, none⟩ = some (.int .i64 a0_1) := (blk_cell BK379.out 1).trans rfl
            have hcz30_2 : wc.cell? ⟨gb379, 2, none⟩ = some (.slice A0_2 l0_2.length c0_2) := (blk_cell BK379.out 2).trans rfl
            have hfz30_0 := blk_frozen BK379.out 0
            have hfz30_1 := blk_frozen BK379.out 1
            have hfz30_2 := blk_frozen BK379.out 2
            go_wp2_with (first | ((with_reducible refine gate_callee (f := 42) rfl ?_); refine goesL_ (some 52) rfl rfl Try.func42 (by kernel_rfl) rfl #[.agg #[.int .i64 a0_0, .int .i64 a0_1, .slice A0_2 l0_2.length c0_2], .int .i64 x8_2, .int .i64 x5_1] rfl (by (try simp only [List.map_toArray, List.map_cons, List.map_nil]); first | done | rfl | (simp only [List.length_drop, List.length_take]; rfl)) ?_; (with_reducible refine (davitref09_comes.calls kj12 a0_0 a0_1 _ _ l0_2 x8_2 x5_1 t392 _ ?side1 ?side2 A29.out).mono ?_); (case side1 => repeat (first | exact (Kd.C_below HR0_2.out HB.out) | (with_reducible refine Kd.C_alloc ?_ _) | (with_reducible refine Kd.C_drewN ?_ _) | (with_reducible refine Kd.C_drew ?_))); (case side2 => exact HC0_2.out); rintro e w31 ⟨v393, rfl, ho0, hb⟩; refine ⟨_, rfl, ?_⟩; have n0_ := Aside0.mk (Kd.S_elder' (by (with_reducible repeat (first | apply Kd.S_alloc | apply Kd.S_drewN | apply Kd.S_drew)); exact HO_3.out) (Kd.R_base ho0) hb); have n1_ := Aside0.mk (Kd.S_below (by (with_reducible repeat (first | apply Kd.S_alloc | apply Kd.S_drewN | apply Kd.S_drew)); exact HO_4.out) hb); have n2_ := Aside0.mk (Kd.R_elder' (by (with_reducible repeat (first | apply Kd.R_alloc | apply Kd.R_drewN | apply Kd.R_drew)); exact HO_6.out) (Kd.R_base ho0) hb); have n3_ := Aside0.mk (Kd.R_lower (Kd.R_new' ho0 (Kd.R_lt (by (with_reducible repeat (first | apply Kd.R_alloc | apply Kd.R_drewN | apply Kd.R_drew)); exact HO_6.out))) (below_size (by repeat (first | (with_reducible first | exact HB.out | apply below_alloc | apply pw_below_drewN | apply below_drew1 | refine below_set ?_ GE379.out) | exact HB.out)))); have n4_ := Aside0.mk (blk_below (g := gb379) (o := .cells #[.int .i64 a0_0, .int .i64 a0_1, .slice A0_2 l0_2.length c0_2] 24 (0, 0)) (by (with_reducible repeat (first | refine blk_drewN ?_ _ | refine blk_drew ?_ | refine blk_alloc ?_ _)); exact BK379.out) hb); have n5_ := Aside0.mk (below_step (by repeat (first | (with_reducible first | exact HB.out | apply below_alloc | apply pw_below_drewN | apply below_drew1 | refine below_set ?_ GE379.out) | exact HB.out)) hb); clear HO_3; clear HO_4; clear HO_6; clear BK379; clear HB; have HO_3 := n0_; have HO_4 := n1_; have HO_6 := n2_; have HO394 := n3_; have BK379 := n4_; have HB := n5_; clear n0_ n1_ n2_ n3_ n4_ n5_; (try clear hb); (try clear hb2); (try clear hk); (try clear hi); (try clear ho0)))
            go_loopg [10] kj12 (fun kq v10 w' => ∃ (x6_4 : List Bool) (x10_4 : Int), v10 = .int .i64 x10_4 ∧ Aside0 (davitref09_All.l2 kq t380 x4_1 x5_1 x6_4 true x8_2 t392 x10_4 a0_0 a0_1 l0_2 = some r) ∧ Aside0 (kq ≤ kj12) ∧ Aside0 (Kd.S (Kd.slice 4 Kd.bool) 32 w' w.heap.size (fun k_ => some k_ ≠ (v384 : Value).ownBlock ∧ some k_ ≠ (v393 : Value).ownBlock) v381 t380) ∧ Aside0 (Kd.S k40 40 w' w.heap.size (fun _ => True) u4 x4_1) ∧ Aside0 (Kd.R Kd.bool 4 w' w.heap.size (fun k_ => some k_ ≠ (v393 : Value).ownBlock) v384 x6_4) ∧ Aside0 (Kd.R Kd.bool 4 w' w.heap.size (fun k_ => some k_ ≠ (v384 : Value).ownBlock) v393 t392) ∧ Aside0 (w'.heap[gb379]? = some (.cells #[.int .i64 a0_0, .int .i64 a0_1, (.slice A0_2 l0_2.length c0_2)] 24 (0, 0))) ∧ Aside0 (Below w.heap.size w w'))
            case atStart => exact ⟨(x6_2), (0), (by first | rfl | (simp; done) | (simp [*]; done)), H', ⟨Nat.le_refl _⟩, ⟨by (with_reducible repeat (first | apply Kd.S_alloc | apply Kd.S_drewN | apply Kd.S_drew)); exact HO_3.out⟩, ⟨by (with_reducible repeat (first | apply Kd.S_alloc | apply Kd.S_drewN | apply Kd.S_drew)); exact HO_4.out⟩, ⟨by (with_reducible repeat (first | apply Kd.R_alloc | apply Kd.R_drewN | apply Kd.R_drew)); exact Kd.R_mono HO_6.out (fun _ hk => hk.2)⟩, ⟨by (with_reducible repeat (first | apply Kd.R_alloc | apply Kd.R_drewN | apply Kd.R_drew)); exact Kd.R_mono HO394.out (fun _ hk => hk.2)⟩, ⟨by (with_reducible repeat (first | refine blk_drewN ?_ _ | refine blk_drew ?_ | refine blk_alloc ?_ _)); exact BK379.out⟩, ⟨by repeat (first | (with_reducible first | exact HB.out | apply below_alloc | apply pw_below_drewN | apply below_drew1 | refine below_set ?_ GE379.out) | exact HB.out)⟩⟩
            case round =>
             clear H'
             try clear c1
             try clear q1
             try clear c2
             try clear p2
             try clear c3
             try clear p3
             try clear q3
             try clear hx3
             try clear c4
             try clear c6
             try clear c6b0
             try clear p6
             try clear c7
             try clear c7b0
             try clear c7b1
             try clear c8
             try clear c8b0
             try clear c8b1
             try clear c12
             try clear c12b0
             try clear c15
             try clear c15b0
             try clear c16
             try clear c16b0
             try clear c17
             try clear c17b0
             try clear c18
             try clear c18b0
             try clear q19
             try clear c20
             try clear c24
             try clear c28
             try clear hcz14_0
             try clear hcz14_1
             try clear hcz14_2
             try clear hcz24_0
             try clear hcz24_1
             try clear hcz24_2
             try clear hcz30_0
             try clear hcz30_1
             try clear hcz30_2
             try clear hcz4_0
             try clear hcz4_1
             try clear hcz4_2
             try clear hcz9_0
             try clear hcz9_1
             try clear hcz9_2
             try clear hfz14_0
             try clear hfz14_1
             try clear hfz14_2
             try clear hfz24_0
             try clear hfz24_1
             try clear hfz24_2
             try clear hfz30_0
             try clear hfz30_1
             try clear hfz30_2
             try clear hfz4_0
             try clear hfz4_1
             try clear hfz4_2
             try clear hfz9_0
             try clear hfz9_1
             try clear hfz9_2
             try clear hx386_0
             try clear hx387_0
             try clear p2
             try clear p3
             try clear p386
             try clear p387
             try clear q1
             try clear q19
             try clear q3
             try clear q386
             try clear q387
             obtain ⟨x6_4, x10_4, rfl, HA, HK4, HO_3, HO_4, HO_6, HO_9, BK379, HB⟩ := hrel
             cases gk with
             | zero => exact absurd HA.out (by simp [davitref09_All.l2])
             | succ k4 =>
              have H := HA.out
              clear HA
              simp only [davitref09_All.l2] at H
              by_cases c32 : x10_4 < (x6_4.length : Int)
              ·rw [if_pos c32] at H
               have c32b0 : decide (x10_4 < (x6_4.length : Int)) = true := decide_eq_true c32
               clear c32
               by_cases c33 : 0 ≤ x10_4
               ·rw [if_pos c33] at H
                have c33b0 : decide (0 ≤ x10_4) = true := decide_eq_true c33
                clear c33
                obtain ⟨bq34, hbq34⟩ : ∃ b_ : Bool, b_ = (rdOf false x6_4 x10_4) := ⟨_, rfl⟩
                replace H : (if bq34 = true then (davitref09_All.l2 k4 t380 x4_1 x5_1 (x6_4.set (x10_4 : Int).toNat true) true x8_2 t392 (wrap64 (x10_4 + 1)) a0_0 a0_1 l0_2) else (if x10_4 < (t392.length : Int) then (if rdOf false t392 x10_4 = true then (if 0 ≤ x5_1 then (if x5_1 < (t380.length : Int) then (if x10_4 < ((rd_L12 t380 x5_1).length : Int) then (davitref09_All.l2 k4 t380 x4_1 x5_1 (x6_4.set (x10_4 : Int).toNat (rdOf false (rd_L12 t380 x5_1) x10_4)) true x8_2 t392 (wrap64 (x10_4 + 1)) a0_0 a0_1 l0_2) else (none)) else (none)) else (none)) else (davitref09_All.l2 k4 t380 x4_1 x5_1 (x6_4.set (x10_4 : Int).toNat false) true x8_2 t392 (wrap64 (x10_4 + 1)) a0_0 a0_1 l0_2)) else (none))) = some r := by rw [← hbq34] at H; exact H
                have Nbq34 := Aside0.mk hbq34
                clear hbq34
                by_cases c35 : bq34 = true
                ·subst c35
                 have H1 : (davitref09_All.l2 k4 t380 x4_1 x5_1 (x6_4.set (x10_4 : Int).toNat true) true x8_2 t392 (wrap64 (x10_4 + 1)) a0_0 a0_1 l0_2) = some r := by rw [if_pos rfl] at H; exact H
                 clear H
                 have H := H1
                 clear H1
                 obtain ⟨y396, hy396⟩ : ∃ y_ : List Bool, y_ = (x6_4.set (x10_4 : Int).toNat true) := ⟨_, rfl⟩
                 replace H : (davitref09_All.l2 k4 t380 x4_1 x5_1 y396 true x8_2 t392 (wrap64 (x10_4 + 1)) a0_0 a0_1 l0_2) = some r := by first | (rw [hy396]; with_reducible exact H) | (have H2_ := (Option.bind_some _ _).symm.trans H; rw [hy396]; with_reducible exact H2_) | (have H2_ := (Option.bind_some _ _).symm.trans H; with_reducible exact H2_) | with_reducible exact H | (rw [hy396]; exact H) | exact H
                 have Ny396 := Aside0.mk hy396
                 clear hy396
                 have H' := Aside0.mk H
                 clear H
                 obtain ⟨Ao37, co37, eo37⟩ := Kd.R_slice HO_6.out
                 subst eo37
                 have p395 : 0 ≤ (x10_4 : Int) := of_decide_eq_true (by first | (with_reducible assumption) | assumption)
                 have q395 : x10_4 < (x6_4.length : Int) := of_decide_eq_true (by first | (with_reducible assumption) | assumption)
                 obtain ⟨ad395, e395, hx395_0⟩ := Kd.at_bool (Kd.R_reads' HO_6.out).2.2 x10_4 p395 q395
                 (try rw [← Nbq34.out] at hx395_0)
                 cases e395
                 replace p395 := eq_true p395
                 replace q395 := eq_true q395
                 have p36 : 0 ≤ (x10_4 : Int) := of_decide_eq_true (by first | (with_reducible assumption) | assumption)
                 have q36 : (x10_4 : Int) < ((x6_4.length : Int) : Int) := of_decide_eq_true (by first | (with_reducible assumption) | assumption)
                 obtain ⟨go36, co36, eo36, gb36, gl36, cl36, HG36⟩ := Kd.R_form HO_6.out (by omega)
                 (first | cases eo36 | (injection eo36 with ea_ en_ ec_; (first | subst ea_ | (injection ea_ with ea_; subst ea_)); subst ec_; clear en_))
                 have GB36 := Aside0.mk gb36
                 have GG36 := Aside0.mk HG36
                 clear gb36 gl36 HG36
                 (first | simp only [add_plain] at hx395_0 | skip)
                 obtain ⟨hx36_0, hf36_0⟩ := Kd.R_celln false HO_6.out (x10_4 : Int) p36 q36
                 replace p36 := eq_true p36
                 replace q36 := eq_true q36
                 have HP38 := Kd.R_putg HO_6.out (x10_4 : Int) true
                 go_wp2_with (first | ((with_reducible refine gate_store (t := 4) (p := 80) rfl ?_); refine store_event (t := 4) (p := 80) (v := ?vo_w39) (w1 := (wr.setCell ⟨go36, (x10_4 : Int).toNat, none⟩ (.bool true))) ?hg ?ho ?hn ?hr ?_; (case ho => rfl); (case hg => rfl); (case hn => rfl); (case hr => first | (go_simp; done) | (go_simp; rfl)); intro w39 hw; have hg : wr.grownBy w39 (some go36) := (by rw [hw]; exact HP38.2); have hp_ : Kd.R Kd.bool 4 w39 w.heap.size (fun k_ => some k_ ≠ (v393 : Value).ownBlock) (.slice (some ⟨go36, 0, none⟩) x6_4.length co37) y396 := (by rw [hw, Ny396.out]; exact HP38.1); clear HP38; have n0_ := Aside0.mk (Kd.S_after (v := (.slice (some ⟨go36, 0, none⟩) x6_4.length co37)) (v1 := (.slice (some ⟨go36, 0, none⟩) x6_4.length co37)) (ok := (fun k_ => some k_ ≠ (v393 : Value).ownBlock)) (by (with_reducible repeat (first | apply Kd.S_alloc | apply Kd.S_drewN | apply Kd.S_drew)); exact Kd.S_mono HO_3.out (fun _ hk => ⟨hk.2, hk.1⟩)) hg (.inl rfl)); have n1_ := Aside0.mk (Kd.S_over' (v := (.slice (some ⟨go36, 0, none⟩) x6_4.length co37)) (by (with_reducible repeat (first | apply Kd.S_alloc | apply Kd.S_drewN | apply Kd.S_drew)); exact HO_4.out) (Kd.R_typed HO_6.out) (by decide) hg); have n2_ := Aside0.mk (hp_); have n3_ := Aside0.mk (Kd.R_after (v := (.slice (some ⟨go36, 0, none⟩) x6_4.length co37)) (v1 := (.slice (some ⟨go36, 0, none⟩) x6_4.length co37)) (ok := (fun _ => True)) (by (with_reducible repeat (first | apply Kd.R_alloc | apply Kd.R_drewN | apply Kd.R_drew)); exact Kd.R_mono HO_9.out (fun _ hk => ⟨trivial, hk⟩)) hg (.inl rfl)); have n4_ := Aside0.mk (blk_grown (g := gb379) (o := .cells #[.int .i64 a0_0, .int .i64 a0_1, .slice A0_2 l0_2.length c0_2] 24 (0, 0)) (by (with_reducible repeat (first | refine blk_drewN ?_ _ | refine blk_drew ?_ | refine blk_alloc ?_ _)); exact BK379.out) hg (Kd.R_ne HO_6.out BK379.out (by decide))); have n5_ := Aside0.mk ((by rw [hw]; exact below_set (HB.out) GB36.out : Below w.heap.size w w39)); clear HO_3; clear HO_4; clear HO_6; clear HO_9; clear BK379; clear HB; have HO_3 := n0_; have HO_4 := n1_; have HO_6 := n2_; have HO_9 := n3_; have BK379 := n4_; have HB := n5_; clear n0_ n1_ n2_ n3_ n4_ n5_; clear hg hw hp_))
                 go_roundg k4
                 case measure => have := HK1.out; have := HK2.out; have := HJ12.out; have := HK4.out; omega
                 case rel => exact ⟨(y396), (wrap64 (x10_4 + 1)), (by first | rfl | (simp; done) | (simp [*]; done)), H', ⟨by have := HK1.out; have := HK2.out; have := HJ12.out; have := HK4.out; omega⟩, ⟨by (with_reducible repeat (first | apply Kd.S_alloc | apply Kd.S_drewN | apply Kd.S_drew)); exact Kd.S_mono HO_3.out (fun _ hk => ⟨hk.2, hk.1⟩)⟩, ⟨by (with_reducible repeat (first | apply Kd.S_alloc | apply Kd.S_drewN | apply Kd.S_drew)); exact HO_4.out⟩, ⟨by (with_reducible repeat (first | apply Kd.R_alloc | apply Kd.R_drewN | apply Kd.R_drew)); exact HO_6.out⟩, ⟨by (with_reducible repeat (first | apply Kd.R_alloc | apply Kd.R_drewN | apply Kd.R_drew)); exact Kd.R_mono HO_9.out (fun _ hk => hk.2)⟩, ⟨by (with_reducible repeat (first | refine blk_drewN ?_ _ | refine blk_drew ?_ | refine blk_alloc ?_ _)); exact BK379.out⟩, ⟨by repeat (first | (with_reducible first | exact HB.out | apply below_alloc | apply pw_below_drewN | apply below_drew1 | refine below_set ?_ GE379.out) | exact HB.out)⟩⟩
                ·replace c35 := Bool.eq_false_iff.mpr c35
                 subst c35
                 have H1 : (if x10_4 < (t392.length : Int) then (if rdOf false t392 x10_4 = true then (if 0 ≤ x5_1 then (if x5_1 < (t380.length : Int) then (if x10_4 < ((rd_L12 t380 x5_1).length : Int) then (davitref09_All.l2 k4 t380 x4_1 x5_1 (x6_4.set (x10_4 : Int).toNat (rdOf false (rd_L12 t380 x5_1) x10_4)) true x8_2 t392 (wrap64 (x10_4 + 1)) a0_0 a0_1 l0_2) else (none)) else (none)) else (none)) else (davitref09_All.l2 k4 t380 x4_1 x5_1 (x6_4.set (x10_4 : Int).toNat false) true x8_2 t392 (wrap64 (x10_4 + 1)) a0_0 a0_1 l0_2)) else (none)) = some r := by rw [if_neg (show ¬ (false = true) by decide)] at H; exact H
                 clear H
                 have H := H1
                 clear H1
                 by_cases c40 : x10_4 < (t392.length : Int)
                 ·rw [if_pos c40] at H
                  have c40b0 : decide (x10_4 < (t392.length : Int)) = true := decide_eq_true c40
                  clear c40
                  obtain ⟨bq41, hbq41⟩ : ∃ b_ : Bool, b_ = (rdOf false t392 x10_4) := ⟨_, rfl⟩
                  replace H : (if bq41 = true then (if 0 ≤ x5_1 then (if x5_1 < (t380.length : Int) then (if x10_4 < ((rd_L12 t380 x5_1).length : Int) then (davitref09_All.l2 k4 t380 x4_1 x5_1 (x6_4.set (x10_4 : Int).toNat (rdOf false (rd_L12 t380 x5_1) x10_4)) true x8_2 t392 (wrap64 (x10_4 + 1)) a0_0 a0_1 l0_2) else (none)) else (none)) else (none)) else (davitref09_All.l2 k4 t380 x4_1 x5_1 (x6_4.set (x10_4 : Int).toNat false) true x8_2 t392 (wrap64 (x10_4 + 1)) a0_0 a0_1 l0_2)) = some r := by rw [← hbq41] at H; exact H
                  have Nbq41 := Aside0.mk hbq41
                  clear hbq41
                  by_cases c42 : bq41 = true
                  ·subst c42
                   have H1 : (if 0 ≤ x5_1 then (if x5_1 < (t380.length : Int) then (if x10_4 < ((rd_L12 t380 x5_1).length : Int) then (davitref09_All.l2 k4 t380 x4_1 x5_1 (x6_4.set (x10_4 : Int).toNat (rdOf false (rd_L12 t380 x5_1) x10_4)) true x8_2 t392 (wrap64 (x10_4 + 1)) a0_0 a0_1 l0_2) else (none)) else (none)) else (none)) = some r := by rw [if_pos rfl] at H; exact H
                   clear H
                   have H := H1
                   clear H1
                   by_cases c43 : 0 ≤ x5_1
                   ·rw [if_pos c43] at H
                    have c43b0 : decide (0 ≤ x5_1) = true := decide_eq_true c43
                    clear c43
                    by_cases c44 : x5_1 < (t380.length : Int)
                    ·rw [if_pos c44] at H
                     have c44b0 : decide (x5_1 < (t380.length : Int)) = true := decide_eq_true c44
                     clear c44
                     by_cases c45 : x10_4 < ((rd_L12 t380 x5_1).length : Int)
                     ·rw [if_pos c45] at H
                      have c45b0 : decide (x10_4 < ((rd_L12 t380 x5_1).length : Int)) = true := decide_eq_true c45
                      clear c45
                      obtain ⟨y400, hy400⟩ : ∃ y_ : List Bool, y_ = (x6_4.set (x10_4 : Int).toNat (rdOf false (rd_L12 t380 x5_1) x10_4)) := ⟨_, rfl⟩
                      replace H : (davitref09_All.l2 k4 t380 x4_1 x5_1 y400 true x8_2 t392 (wrap64 (x10_4 + 1)) a0_0 a0_1 l0_2) = some r := by first | (rw [hy400]; with_reducible exact H) | (have H2_ := (Option.bind_some _ _).symm.trans H; rw [hy400]; with_reducible exact H2_) | (have H2_ := (Option.bind_some _ _).symm.trans H; with_reducible exact H2_) | with_reducible exact H | (rw [hy400]; exact H) | exact H
                      have Ny400 := Aside0.mk hy400
                      clear hy400
                      have H' := Aside0.mk H
                      clear H
                      obtain ⟨Ao47, co47, eo47⟩ := Kd.R_slice HO_6.out
                      subst eo47
                      have p395 : 0 ≤ (x10_4 : Int) := of_decide_eq_true (by first | (with_reducible assumption) | assumption)
                      have q395 : x10_4 < (x6_4.length : Int) := of_decide_eq_true (by first | (with_reducible assumption) | assumption)
                      obtain ⟨ad395, e395, hx395_0⟩ := Kd.at_bool (Kd.R_reads' HO_6.out).2.2 x10_4 p395 q395
                      (try rw [← Nbq34.out] at hx395_0)
                      (try rw [← Nbq41.out] at hx395_0)
                      cases e395
                      replace p395 := eq_true p395
                      replace q395 := eq_true q395
                      obtain ⟨Ao48, co48, eo48⟩ := Kd.R_slice HO_9.out
                      subst eo48
                      have p397 : 0 ≤ (x10_4 : Int) := of_decide_eq_true (by first | (with_reducible assumption) | assumption)
                      have q397 : x10_4 < (t392.length : Int) := of_decide_eq_true (by first | (with_reducible assumption) | assumption)
                      obtain ⟨ad397, e397, hx397_0⟩ := Kd.at_bool (Kd.R_reads' HO_9.out).2.2 x10_4 p397 q397
                      (try rw [← Nbq34.out] at hx397_0)
                      (try rw [← Nbq41.out] at hx397_0)
                      cases e397
                      replace p397 := eq_true p397
                      replace q397 := eq_true q397
                      obtain ⟨Ao49, co49, eo49⟩ := Kd.S_slice HO_3.out
                      subst eo49
                      have p398 : 0 ≤ (x5_1 : Int) := of_decide_eq_true (by first | (with_reducible assumption) | assumption)
                      have q398 : x5_1 < (t380.length : Int) := of_decide_eq_true (by first | (with_reducible assumption) | assumption)
                      obtain ⟨ad398, A398_0, c398_0, e398, hx398_0, hl398_0, hi398_0⟩ := at_L12 (Kd.S_reads' HO_3.out).2.2 x5_1 p398 q398
                      cases e398
                      obtain ⟨ce398, hce398, hMe398, hcc398⟩ := Kd.S_get HO_3.out [] x5_1 p398 (by first | exact q398 | exact of_decide_eq_true (by first | (with_reducible assumption) | assumption) | (have e_ := (Kd.S_reads' HO_3.out).1; omega))
                      obtain ⟨ve398_0, rfl, ge398_0⟩ := hMe398
                      have hv398_0 := hcc398 0 _ rfl
                      rw [Nat.add_zero, show ((Kd.slice 4 Kd.bool)).sz = 1 from rfl, Nat.mul_one] at hv398_0
                      replace hv398_0 := Option.some.inj (hv398_0.symm.trans hx398_0)
                      rw [hv398_0] at ge398_0
                      have HL398_0 := Aside0.mk (show Kd.R Kd.bool 4 _ _ _ _ (rd_L12 t380 x5_1) from ge398_0)
                      clear hv398_0 ge398_0
                      clear hcc398 hce398
                      have HR398_0 := Aside0.mk hi398_0
                      have HC398_0 := Aside0.mk hl398_0
                      clear hi398_0 hl398_0
                      replace p398 := eq_true p398
                      replace q398 := eq_true q398
                      have p399 : 0 ≤ (x10_4 : Int) := of_decide_eq_true (by first | (with_reducible assumption) | assumption)
                      have q399 : x10_4 < ((rd_L12 t380 x5_1).length : Int) := of_decide_eq_true (by first | (with_reducible assumption) | assumption)
                      obtain ⟨ad399, e399, hx399_0⟩ := Kd.at_bool (by repeat (first | (with_reducible exact HR398_0.out) | (with_reducible refine Kd.C_alloc ?_ _) | (with_reducible refine Kd.C_drewN ?_ _) | (with_reducible refine Kd.C_drew ?_) | exact HR398_0.out)) x10_4 p399 q399
                      (try rw [← Nbq34.out] at hx399_0)
                      (try rw [← Nbq41.out] at hx399_0)
                      cases e399
                      replace p399 := eq_true p399
                      replace q399 := eq_true q399
                      have p46 : 0 ≤ (x10_4 : Int) := of_decide_eq_true (by first | (with_reducible assumption) | assumption)
                      have q46 : (x10_4 : Int) < ((x6_4.length : Int) : Int) := of_decide_eq_true (by first | (with_reducible assumption) | assumption)
                      obtain ⟨go46, co46, eo46, gb46, gl46, cl46, HG46⟩ := Kd.R_form HO_6.out (by omega)
                      (first | cases eo46 | (injection eo46 with ea_ en_ ec_; (first | subst ea_ | (injection ea_ with ea_; subst ea_)); subst ec_; clear en_))
                      have GB46 := Aside0.mk gb46
                      have GG46 := Aside0.mk HG46
                      clear gb46 gl46 HG46
                      (first | simp only [add_plain] at hx395_0 | skip)
                      obtain ⟨hx46_0, hf46_0⟩ := Kd.R_celln false HO_6.out (x10_4 : Int) p46 q46
                      replace p46 := eq_true p46
                      replace q46 := eq_true q46
                      have HP50 := Kd.R_putg HO_6.out (x10_4 : Int) (rdOf false (rd_L12 t380 x5_1) x10_4)
                      go_wp2_with (first | ((with_reducible refine gate_store (t := 4) (p := 80) rfl ?_); refine store_event (t := 4) (p := 80) (v := ?vo_w51) (w1 := (wr.setCell ⟨go46, (x10_4 : Int).toNat, none⟩ (.bool (rdOf false (rd_L12 t380 x5_1) x10_4)))) ?hg ?ho ?hn ?hr ?_; (case ho => rfl); (case hg => rfl); (case hn => rfl); (case hr => first | (go_simp; done) | (go_simp; rfl)); intro w51 hw; have hg : wr.grownBy w51 (some go46) := (by rw [hw]; exact HP50.2); have hp_ : Kd.R Kd.bool 4 w51 w.heap.size (fun k_ => some k_ ≠ (.slice (some ad397) t392.length co48 : Value).ownBlock) (.slice (some ⟨go46, 0, none⟩) x6_4.length co47) y400 := (by rw [hw, Ny400.out]; exact HP50.1); clear HP50; have n0_ := Aside0.mk (Kd.S_after (v := (.slice (some ⟨go46, 0, none⟩) x6_4.length co47)) (v1 := (.slice (some ⟨go46, 0, none⟩) x6_4.length co47)) (ok := (fun k_ => some k_ ≠ (.slice (some ad397) t392.length co48 : Value).ownBlock)) (by (with_reducible repeat (first | apply Kd.S_alloc | apply Kd.S_drewN | apply Kd.S_drew)); exact Kd.S_mono HO_3.out (fun _ hk => ⟨hk.2, hk.1⟩)) hg (.inl rfl)); have n1_ := Aside0.mk (Kd.S_over' (v := (.slice (some ⟨go46, 0, none⟩) x6_4.length co47)) (by (with_reducible repeat (first | apply Kd.S_alloc | apply Kd.S_drewN | apply Kd.S_drew)); exact HO_4.out) (Kd.R_typed HO_6.out) (by decide) hg); have n2_ := Aside0.mk (hp_); have n3_ := Aside0.mk (Kd.R_after (v := (.slice (some ⟨go46, 0, none⟩) x6_4.length co47)) (v1 := (.slice (some ⟨go46, 0, none⟩) x6_4.length co47)) (ok := (fun _ => True)) (by (with_reducible repeat (first | apply Kd.R_alloc | apply Kd.R_drewN | apply Kd.R_drew)); exact Kd.R_mono HO_9.out (fun _ hk => ⟨trivial, hk⟩)) hg (.inl rfl)); have n4_ := Aside0.mk (blk_grown (g := gb379) (o := .cells #[.int .i64 a0_0, .int .i64 a0_1, .slice A0_2 l0_2.length c0_2] 24 (0, 0)) (by (with_reducible repeat (first | refine blk_drewN ?_ _ | refine blk_drew ?_ | refine blk_alloc ?_ _)); exact BK379.out) hg (Kd.R_ne HO_6.out BK379.out (by decide))); have n5_ := Aside0.mk (Kd.R_after (v := (.slice (some ⟨go46, 0, none⟩) x6_4.length co47)) (v1 := (.slice (some ⟨go46, 0, none⟩) x6_4.length co47)) (ok := (fun k_ => some k_ ≠ (.slice (some ad398) t380.length co49 : Value).ownBlock ∧ some k_ ≠ (.slice (some ad397) t392.length co48 : Value).ownBlock)) (by (with_reducible repeat (first | apply Kd.R_alloc | apply Kd.R_drewN | apply Kd.R_drew)); exact Kd.R_mono HL398_0.out (fun _ hk => ⟨⟨hk.2, hk.1.2⟩, hk.1.1⟩)) hg (.inl rfl)); have n6_ := Aside0.mk ((by rw [hw]; exact below_set (HB.out) GB46.out : Below w.heap.size w w51)); clear HO_3; clear HO_4; clear HO_6; clear HO_9; clear BK379; clear HL398_0; clear HB; have HO_3 := n0_; have HO_4 := n1_; have HO_6 := n2_; have HO_9 := n3_; have BK379 := n4_; have HL398_0 := n5_; have HB := n6_; clear n0_ n1_ n2_ n3_ n4_ n5_ n6_; clear hg hw hp_))
                      go_roundg k4
                      case measure => have := HK1.out; have := HK2.out; have := HJ12.out; have := HK4.out; omega
                      case rel => exact ⟨(y400), (wrap64 (x10_4 + 1)), (by first | rfl | (simp; done) | (simp [*]; done)), H', ⟨by have := HK1.out; have := HK2.out; have := HJ12.out; have := HK4.out; omega⟩, ⟨by (with_reducible repeat (first | apply Kd.S_alloc | apply Kd.S_drewN | apply Kd.S_drew)); exact Kd.S_mono HO_3.out (fun _ hk => ⟨hk.2, hk.1⟩)⟩, ⟨by (with_reducible repeat (first | apply Kd.S_alloc | apply Kd.S_drewN | apply Kd.S_drew)); exact HO_4.out⟩, ⟨by (with_reducible repeat (first | apply Kd.R_alloc | apply Kd.R_drewN | apply Kd.R_drew)); exact HO_6.out⟩, ⟨by (with_reducible repeat (first | apply Kd.R_alloc | apply Kd.R_drewN | apply Kd.R_drew)); exact Kd.R_mono HO_9.out (fun _ hk => hk.2)⟩, ⟨by (with_reducible repeat (first | refine blk_drewN ?_ _ | refine blk_drew ?_ | refine blk_alloc ?_ _)); exact BK379.out⟩, ⟨by repeat (first | (with_reducible first | exact HB.out | apply below_alloc | apply pw_below_drewN | apply below_drew1 | refine below_set ?_ GE379.out) | exact HB.out)⟩⟩
                     ·rw [if_neg c45] at H
                      exact absurd H (by simp)
                    ·rw [if_neg c44] at H
                     exact absurd H (by simp)
                   ·rw [if_neg c43] at H
                    exact absurd H (by simp)
                  ·replace c42 := Bool.eq_false_iff.mpr c42
                   subst c42
                   have H1 : (davitref09_All.l2 k4 t380 x4_1 x5_1 (x6_4.set (x10_4 : Int).toNat false) true x8_2 t392 (wrap64 (x10_4 + 1)) a0_0 a0_1 l0_2) = some r := by rw [if_neg (show ¬ (false = true) by decide)] at H; exact H
                   clear H
                   have H := H1
                   clear H1
                   obtain ⟨y401, hy401⟩ : ∃ y_ : List Bool, y_ = (x6_4.set (x10_4 : Int).toNat false) := ⟨_, rfl⟩
                   replace H : (davitref09_All.l2 k4 t380 x4_1 x5_1 y401 true x8_2 t392 (wrap64 (x10_4 + 1)) a0_0 a0_1 l0_2) = some r := by first | (rw [hy401]; with_reducible exact H) | (have H2_ := (Option.bind_some _ _).symm.trans H; rw [hy401]; with_reducible exact H2_) | (have H2_ := (Option.bind_some _ _).symm.trans H; with_reducible exact H2_) | with_reducible exact H | (rw [hy401]; exact H) | exact H
                   have Ny401 := Aside0.mk hy401
                   clear hy401
                   have H' := Aside0.mk H
                   clear H
                   obtain ⟨Ao53, co53, eo53⟩ := Kd.R_slice HO_6.out
                   subst eo53
                   have p395 : 0 ≤ (x10_4 : Int) := of_decide_eq_true (by first | (with_reducible assumption) | assumption)
                   have q395 : x10_4 < (x6_4.length : Int) := of_decide_eq_true (by first | (with_reducible assumption) | assumption)
                   obtain ⟨ad395, e395, hx395_0⟩ := Kd.at_bool (Kd.R_reads' HO_6.out).2.2 x10_4 p395 q395
                   (try rw [← Nbq34.out] at hx395_0)
                   (try rw [← Nbq41.out] at hx395_0)
                   cases e395
                   replace p395 := eq_true p395
                   replace q395 := eq_true q395
                   obtain ⟨Ao54, co54, eo54⟩ := Kd.R_slice HO_9.out
                   subst eo54
                   have p397 : 0 ≤ (x10_4 : Int) := of_decide_eq_true (by first | (with_reducible assumption) | assumption)
                   have q397 : x10_4 < (t392.length : Int) := of_decide_eq_true (by first | (with_reducible assumption) | assumption)
                   obtain ⟨ad397, e397, hx397_0⟩ := Kd.at_bool (Kd.R_reads' HO_9.out).2.2 x10_4 p397 q397
                   (try rw [← Nbq34.out] at hx397_0)
                   (try rw [← Nbq41.out] at hx397_0)
                   cases e397
                   replace p397 := eq_true p397
                   replace q397 := eq_true q397
                   have p52 : 0 ≤ (x10_4 : Int) := of_decide_eq_true (by first | (with_reducible assumption) | assumption)
                   have q52 : (x10_4 : Int) < ((x6_4.length : Int) : Int) := of_decide_eq_true (by first | (with_reducible assumption) | assumption)
                   obtain ⟨go52, co52, eo52, gb52, gl52, cl52, HG52⟩ := Kd.R_form HO_6.out (by omega)
                   (first | cases eo52 | (injection eo52 with ea_ en_ ec_; (first | subst ea_ | (injection ea_ with ea_; subst ea_)); subst ec_; clear en_))
                   have GB52 := Aside0.mk gb52
                   have GG52 := Aside0.mk HG52
                   clear gb52 gl52 HG52
                   (first | simp only [add_plain] at hx395_0 | skip)
                   obtain ⟨hx52_0, hf52_0⟩ := Kd.R_celln false HO_6.out (x10_4 : Int) p52 q52
                   replace p52 := eq_true p52
                   replace q52 := eq_true q52
                   have HP55 := Kd.R_putg HO_6.out (x10_4 : Int) false
                   go_wp2_with (first | ((with_reducible refine gate_store (t := 4) (p := 80) rfl ?_); refine store_event (t := 4) (p := 80) (v := ?vo_w56) (w1 := (wr.setCell ⟨go52, (x10_4 : Int).toNat, none⟩ (.bool false))) ?hg ?ho ?hn ?hr ?_; (case ho => rfl); (case hg => rfl); (case hn => rfl); (case hr => first | (go_simp; done) | (go_simp; rfl)); intro w56 hw; have hg : wr.grownBy w56 (some go52) := (by rw [hw]; exact HP55.2); have hp_ : Kd.R Kd.bool 4 w56 w.heap.size (fun k_ => some k_ ≠ (.slice (some ad397) t392.length co54 : Value).ownBlock) (.slice (some ⟨go52, 0, none⟩) x6_4.length co53) y401 := (by rw [hw, Ny401.out]; exact HP55.1); clear HP55; have n0_ := Aside0.mk (Kd.S_after (v := (.slice (some ⟨go52, 0, none⟩) x6_4.length co53)) (v1 := (.slice (some ⟨go52, 0, none⟩) x6_4.length co53)) (ok := (fun k_ => some k_ ≠ (.slice (some ad397) t392.length co54 : Value).ownBlock)) (by (with_reducible repeat (first | apply Kd.S_alloc | apply Kd.S_drewN | apply Kd.S_drew)); exact Kd.S_mono HO_3.out (fun _ hk => ⟨hk.2, hk.1⟩)) hg (.inl rfl)); have n1_ := Aside0.mk (Kd.S_over' (v := (.slice (some ⟨go52, 0, none⟩) x6_4.length co53)) (by (with_reducible repeat (first | apply Kd.S_alloc | apply Kd.S_drewN | apply Kd.S_drew)); exact HO_4.out) (Kd.R_typed HO_6.out) (by decide) hg); have n2_ := Aside0.mk (hp_); have n3_ := Aside0.mk (Kd.R_after (v := (.slice (some ⟨go52, 0, none⟩) x6_4.length co53)) (v1 := (.slice (some ⟨go52, 0, none⟩) x6_4.length co53)) (ok := (fun _ => True)) (by (with_reducible repeat (first | apply Kd.R_alloc | apply Kd.R_drewN | apply Kd.R_drew)); exact Kd.R_mono HO_9.out (fun _ hk => ⟨trivial, hk⟩)) hg (.inl rfl)); have n4_ := Aside0.mk (blk_grown (g := gb379) (o := .cells #[.int .i64 a0_0, .int .i64 a0_1, .slice A0_2 l0_2.length c0_2] 24 (0, 0)) (by (with_reducible repeat (first | refine blk_drewN ?_ _ | refine blk_drew ?_ | refine blk_alloc ?_ _)); exact BK379.out) hg (Kd.R_ne HO_6.out BK379.out (by decide))); have n5_ := Aside0.mk ((by rw [hw]; exact below_set (HB.out) GB52.out : Below w.heap.size w w56)); clear HO_3; clear HO_4; clear HO_6; clear HO_9; clear BK379; clear HB; have HO_3 := n0_; have HO_4 := n1_; have HO_6 := n2_; have HO_9 := n3_; have BK379 := n4_; have HB := n5_; clear n0_ n1_ n2_ n3_ n4_ n5_; clear hg hw hp_))
                   go_roundg k4
                   case measure => have := HK1.out; have := HK2.out; have := HJ12.out; have := HK4.out; omega
                   case rel => exact ⟨(y401), (wrap64 (x10_4 + 1)), (by first | rfl | (simp; done) | (simp [*]; done)), H', ⟨by have := HK1.out; have := HK2.out; have := HJ12.out; have := HK4.out; omega⟩, ⟨by (with_reducible repeat (first | apply Kd.S_alloc | apply Kd.S_drewN | apply Kd.S_drew)); exact Kd.S_mono HO_3.out (fun _ hk => ⟨hk.2, hk.1⟩)⟩, ⟨by (with_reducible repeat (first | apply Kd.S_alloc | apply Kd.S_drewN | apply Kd.S_drew)); exact HO_4.out⟩, ⟨by (with_reducible repeat (first | apply Kd.R_alloc | apply Kd.R_drewN | apply Kd.R_drew)); exact HO_6.out⟩, ⟨by (with_reducible repeat (first | apply Kd.R_alloc | apply Kd.R_drewN | apply Kd.R_drew)); exact Kd.R_mono HO_9.out (fun _ hk => hk.2)⟩, ⟨by (with_reducible repeat (first | refine blk_drewN ?_ _ | refine blk_drew ?_ | refine blk_alloc ?_ _)); exact BK379.out⟩, ⟨by repeat (first | (with_reducible first | exact HB.out | apply below_alloc | apply pw_below_drewN | apply below_drew1 | refine below_set ?_ GE379.out) | exact HB.out)⟩⟩
                 ·rw [if_neg c40] at H
                  exact absurd H (by simp)
               ·rw [if_neg c33] at H
                exact absurd H (by simp)
              ·rw [if_neg c32] at H
               have c32b0 : decide (x10_4 < (x6_4.length : Int)) = false := decide_eq_false c32
               clear c32
               have H' := Aside0.mk H
               clear H
               obtain ⟨Ao57, co57, eo57⟩ := Kd.R_slice HO_6.out
               subst eo57
               go_wp2
               go_roundg k4
               case measure => have := HK1.out; have := HK2.out; have := HJ12.out; have := HK4.out; omega
               case rel => exact ⟨(x6_4), (true), (wrap64 (x8_2 + 1)), (by first | rfl | (simp; done) | (simp [*]; done)), (by first | rfl | (simp; done) | (simp [*]; done)), H', ⟨by have := HK1.out; have := HK2.out; have := HJ12.out; have := HK4.out; omega⟩, ⟨by (with_reducible repeat (first | apply Kd.S_alloc | apply Kd.S_drewN | apply Kd.S_drew)); exact Kd.S_mono HO_3.out (fun _ hk => hk.1)⟩, ⟨by (with_reducible repeat (first | apply Kd.S_alloc | apply Kd.S_drewN | apply Kd.S_drew)); exact HO_4.out⟩, ⟨by (with_reducible repeat (first | apply Kd.R_alloc | apply Kd.R_drewN | apply Kd.R_drew)); exact Kd.R_mono HO_6.out (fun _ hk => trivial)⟩, ⟨by (with_reducible repeat (first | refine blk_drewN ?_ _ | refine blk_drew ?_ | refine blk_alloc ?_ _)); exact BK379.out⟩, ⟨by repeat (first | (with_reducible first | exact HB.out | apply below_alloc | apply pw_below_drewN | apply below_drew1 | refine below_set ?_ GE379.out) | exact HB.out)⟩⟩
        ·rw [if_neg c12] at H
         have c12b0 : decide (x8_2 < (l0_2.length : Int)) = false := decide_eq_false c12
         clear c12
         by_cases c58 : x7_2 = true
         ·subst c58
          have H1 : (if 0 ≤ x5_1 then (if x5_1 < (x6_2.length : Int) then (davitref09_All.l3 k2 t380 x4_1 x5_1 (x6_2.set (x5_1 : Int).toNat true) 0 a0_0 a0_1 l0_2 x5_1 ([] : List Int)) else (none)) else (none)) = some r := by rw [if_pos rfl] at H; exact H
          clear H
          have H := H1
          clear H1
          by_cases c59 : 0 ≤ x5_1
          ·rw [if_pos c59] at H
           have c59b0 : decide (0 ≤ x5_1) = true := decide_eq_true c59
           clear c59
           by_cases c60 : x5_1 < (x6_2.length : Int)
           ·rw [if_pos c60] at H
            have c60b0 : decide (x5_1 < (x6_2.length : Int)) = true := decide_eq_true c60
            clear c60
            obtain ⟨y402, hy402⟩ : ∃ y_ : List Bool, y_ = (x6_2.set (x5_1 : Int).toNat true) := ⟨_, rfl⟩
            replace H : (davitref09_All.l3 k2 t380 x4_1 x5_1 y402 0 a0_0 a0_1 l0_2 x5_1 ([] : List Int)) = some r := by first | (rw [hy402]; with_reducible exact H) | (have H2_ := (Option.bind_some _ _).symm.trans H; rw [hy402]; with_reducible exact H2_) | (have H2_ := (Option.bind_some _ _).symm.trans H; with_reducible exact H2_) | with_reducible exact H | (rw [hy402]; exact H) | exact H
            have Ny402 := Aside0.mk hy402
            clear hy402
            have H' := Aside0.mk H
            clear H
            have hcz62_0 : wr.cell? ⟨gb379, 0, none⟩ = some (.int .i64 a0_0) := (blk_cell BK379.out 0).trans rfl
            have hcz62_1 : wr.cell? ⟨gb379, 1, none⟩ = some (.int .i64 a0_1) := (blk_cell BK379.out 1).trans rfl
            have hcz62_2 : wr.cell? ⟨gb379, 2, none⟩ = some (.slice A0_2 l0_2.length c0_2) := (blk_cell BK379.out 2).trans rfl
            have hfz62_0 := blk_frozen BK379.out 0
            have hfz62_1 := blk_frozen BK379.out 1
            have hfz62_2 := blk_frozen BK379.out 2
            have p61 : 0 ≤ (x5_1 : Int) := of_decide_eq_true (by first | (with_reducible assumption) | assumption)
            have q61 : (x5_1 : Int) < ((x6_2.length : Int) : Int) := of_decide_eq_true (by first | (with_reducible assumption) | assumption)
            obtain ⟨go61, co61, eo61, gb61, gl61, cl61, HG61⟩ := Kd.R_form HO_6.out (by omega)
            (first | cases eo61 | (injection eo61 with ea_ en_ ec_; (first | subst ea_ | (injection ea_ with ea_; subst ea_)); subst ec_; clear en_))
            have GB61 := Aside0.mk gb61
            have GG61 := Aside0.mk HG61
            clear gb61 gl61 HG61
            obtain ⟨hx61_0, hf61_0⟩ := Kd.R_celln false HO_6.out (x5_1 : Int) p61 q61
            replace p61 := eq_true p61
            replace q61 := eq_true q61
            have HP63 := Kd.R_putg HO_6.out (x5_1 : Int) true
            go_wp2_with (first | ((with_reducible refine gate_store (t := 4) (p := 85) rfl ?_); refine store_event (t := 4) (p := 85) (v := ?vo_w64) (w1 := (wr.setCell ⟨go61, (x5_1 : Int).toNat, none⟩ (.bool true))) ?hg ?ho ?hn ?hr ?_; (case ho => rfl); (case hg => rfl); (case hn => rfl); (case hr => first | (go_simp; done) | (go_simp; rfl)); intro w64 hw; have hg : wr.grownBy w64 (some go61) := (by rw [hw]; exact HP63.2); have hp_ : Kd.R Kd.bool 4 w64 w.heap.size (fun _ => True) (.slice (some ⟨go61, 0, none⟩) x6_2.length co61) y402 := (by rw [hw, Ny402.out]; exact HP63.1); clear HP63; have n0_ := Aside0.mk (Kd.S_after (v := (.slice (some ⟨go61, 0, none⟩) x6_2.length co61)) (v1 := (.slice (some ⟨go61, 0, none⟩) x6_2.length co61)) (ok := (fun _ => True)) (by (with_reducible repeat (first | apply Kd.S_alloc | apply Kd.S_drewN | apply Kd.S_drew)); exact Kd.S_mono HO_3.out (fun _ hk => ⟨trivial, hk⟩)) hg (.inl rfl)); have n1_ := Aside0.mk (Kd.S_over' (v := (.slice (some ⟨go61, 0, none⟩) x6_2.length co61)) (by (with_reducible repeat (first | apply Kd.S_alloc | apply Kd.S_drewN | apply Kd.S_drew)); exact HO_4.out) (Kd.R_typed HO_6.out) (by decide) hg); have n2_ := Aside0.mk (hp_); have n3_ := Aside0.mk (blk_grown (g := gb379) (o := .cells #[.int .i64 a0_0, .int .i64 a0_1, .slice A0_2 l0_2.length c0_2] 24 (0, 0)) (by (with_reducible repeat (first | refine blk_drewN ?_ _ | refine blk_drew ?_ | refine blk_alloc ?_ _)); exact BK379.out) hg (Kd.R_ne HO_6.out BK379.out (by decide))); have n4_ := Aside0.mk ((by rw [hw]; exact below_set (HB.out) GB61.out : Below w.heap.size w w64)); clear HO_3; clear HO_4; clear HO_6; clear BK379; clear HB; have HO_3 := n0_; have HO_4 := n1_; have HO_6 := n2_; have BK379 := n3_; have HB := n4_; clear n0_ n1_ n2_ n3_ n4_; clear hg hw hp_) | ((with_reducible refine gate_dst (N := 11) rfl ?_); refine box_event ?hg (N := 11) ?hd (cs := #[.int .i64 0, .slice none 0 0]) (t := 40) ?hr ?_; (case hd => rfl); (case hg => rfl); (case hr => first | (go_simp; done) | (go_simp; rfl)); intro gb403 hg w65 hbox hb; have n0_ := Aside0.mk (Kd.S_below (by (with_reducible repeat (first | apply Kd.S_alloc | apply Kd.S_drewN | apply Kd.S_drew)); exact HO_3.out) hb); have n1_ := Aside0.mk (Kd.S_below (Kd.S_elderB (by (with_reducible repeat (first | apply Kd.S_alloc | apply Kd.S_drewN | apply Kd.S_drew)); exact HO_4.out) gb403 (Nat.le_of_eq hg.symm)) hb); have n2_ := Aside0.mk (Kd.R_below (by (with_reducible repeat (first | apply Kd.R_alloc | apply Kd.R_drewN | apply Kd.R_drew)); exact HO_6.out) hb); have n3_ := Aside0.mk (blk_below (g := gb379) (o := .cells #[.int .i64 a0_0, .int .i64 a0_1, .slice A0_2 l0_2.length c0_2] 24 (0, 0)) (by (with_reducible repeat (first | refine blk_drewN ?_ _ | refine blk_drew ?_ | refine blk_alloc ?_ _)); exact BK379.out) hb); have n4_ := Aside0.mk (below_step (by repeat (first | (with_reducible first | exact HB.out | apply below_alloc | apply pw_below_drewN | apply below_drew1 | refine below_set ?_ GE379.out) | exact HB.out)) hb); have n5_ := Aside0.mk (hbox); have n6_ := Aside0.mk ((by rw [hg]; exact (below_size (by repeat (first | (with_reducible first | exact HB.out | apply below_alloc | apply pw_below_drewN | apply below_drew1 | refine below_set ?_ GE379.out) | exact HB.out))) : w.heap.size ≤ gb403)); have n7_ := Aside0.mk ((by rw [hg]; exact (below_size (by repeat (first | (with_reducible first | exact HB.out | apply below_alloc | apply pw_below_drewN | apply below_drew1 | refine below_set ?_ GE379.out) | exact HB.out))) : w.heap.size ≤ gb403)); have n8_ := Aside0.mk ((by rw [hg]; exact Nat.ne_of_lt (blk_lt (g := gb379) (o := .cells #[.int .i64 a0_0, .int .i64 a0_1, .slice A0_2 l0_2.length c0_2] 24 (0, 0)) (by (with_reducible repeat (first | refine blk_drewN ?_ _ | refine blk_drew ?_ | refine blk_alloc ?_ _)); exact BK379.out)) : gb379 ≠ gb403)); have n9_ := Aside0.mk ((by rw [hg]; exact Nat.ne_of_gt (blk_lt (g := gb379) (o := .cells #[.int .i64 a0_0, .int .i64 a0_1, .slice A0_2 l0_2.length c0_2] 24 (0, 0)) (by (with_reducible repeat (first | refine blk_drewN ?_ _ | refine blk_drew ?_ | refine blk_alloc ?_ _)); exact BK379.out)) : gb403 ≠ gb379)); clear HO_3; clear HO_4; clear HO_6; clear BK379; clear HB; have HO_3 := n0_; have HO_4 := n1_; have HO_6 := n2_; have BK379 := n3_; have HB := n4_; have BK403 := n5_; have GW403 := n6_; have GE403 := n7_; have NB379_403 := n8_; have NB403_379 := n9_; clear n0_ n1_ n2_ n3_ n4_ n5_ n6_ n7_ n8_ n9_; clear hb hbox hg; have hnb66 := NB403_379.out; have hnc66 := NB379_403.out; have hcz67_0 : w65.cell? ⟨gb403, 0, none⟩ = some (.int .i64 0) := (blk_cell BK403.out 0).trans rfl; have hcz67_1 : w65.cell? ⟨gb403, 1, none⟩ = some (.slice none 0 0) := (blk_cell BK403.out 1).trans rfl; have hfz67_0 := blk_frozen BK403.out 0; have hfz67_1 := blk_frozen BK403.out 1))
            go_loopg [12] k2 (fun kq v12 w' => ∃ (x12_3 : Int) (x404001_3 : List Int) (u404001 : Value), v12 = .int .i64 x12_3 ∧ Aside0 (davitref09_All.l3 kq t380 x4_1 x5_1 y402 x12_3 a0_0 a0_1 l0_2 x5_1 x404001_3 = some r) ∧ Aside0 (kq ≤ k2) ∧ Aside0 (Kd.S (Kd.slice 4 Kd.bool) 32 w' w.heap.size (fun k_ => some k_ ≠ ((.slice (some ⟨go61, 0, none⟩) x6_2.length co61) : Value).ownBlock) v381 t380) ∧ Aside0 (Kd.S k40 40 w' w.heap.size (fun k_ => some k_ ≠ (u404001 : Value).ownBlock ∧ k_ ≠ gb403) u4 x4_1) ∧ Aside0 (Kd.R Kd.bool 4 w' w.heap.size (fun _ => True) (.slice (some ⟨go61, 0, none⟩) x6_2.length co61) y402) ∧ Aside0 (Kd.R (Kd.int .i64) 3 w' w.heap.size (fun _ => True) u404001 x404001_3) ∧ Aside0 (w'.heap[gb379]? = some (.cells #[.int .i64 a0_0, .int .i64 a0_1, (.slice A0_2 l0_2.length c0_2)] 24 (0, 0))) ∧ Aside0 (w'.heap[gb403]? = some (.cells #[.int .i64 x5_1, u404001] 40 (0, 0))) ∧ Aside0 (Below w.heap.size w w'))
            case atStart => exact ⟨(0), (([] : List Int)), (.slice none 0 0), (by first | rfl | (simp; done) | (simp [*]; done)), H', ⟨Nat.le_refl _⟩, ⟨by (with_reducible repeat (first | apply Kd.S_alloc | apply Kd.S_drewN | apply Kd.S_drew)); exact Kd.S_mono (Kd.S_far (p := ⟨gb403, 1, none⟩) (Kd.S_far (p := ⟨gb403, 0, none⟩) (Kd.S_types HO_3.out BK403.out (by decide)) (fun _ hk => hk.2) (.int .i64 x5_1)) (fun _ hk => hk.2) (.slice none 0 0)) (fun _ hk => hk.1.2)⟩, ⟨by (with_reducible repeat (first | apply Kd.S_alloc | apply Kd.S_drewN | apply Kd.S_drew)); exact Kd.S_mono (Kd.S_far (p := ⟨gb403, 1, none⟩) (Kd.S_far (p := ⟨gb403, 0, none⟩) (Kd.S_mono HO_4.out (fun k_ hk => (⟨hk, hk.2⟩ : _ ∧ k_ ≠ gb403))) (fun _ hk => hk.2) (.int .i64 x5_1)) (fun _ hk => hk.2) (.slice none 0 0)) (fun _ hk => ⟨(by simp [Value.ownBlock]), hk.1.2⟩)⟩, ⟨by (with_reducible repeat (first | apply Kd.R_alloc | apply Kd.R_drewN | apply Kd.R_drew)); exact Kd.R_mono (Kd.R_far (p := ⟨gb403, 1, none⟩) (Kd.R_far (p := ⟨gb403, 0, none⟩) (Kd.R_types HO_6.out BK403.out (by decide)) (fun _ hk => hk.2) (.int .i64 x5_1)) (fun _ hk => hk.2) (.slice none 0 0)) (fun _ hk => trivial)⟩, ⟨by first | exact Kd.R_nil _ _ _ _ _ | exact Kd.N_nil _ _ _ _ _ | exact Kd.V_nil _ _ _ _ _ | exact Kd.Q_nil _ _ _ _ _ | exact Kd.S_nil _ _ _ _ _⟩, ⟨by (with_reducible repeat (first | refine blk_drewN ?_ _ | refine blk_drew ?_ | refine blk_alloc ?_ _)); refine blk_far ?_ NB379_403.out _; (with_reducible repeat (first | refine blk_drewN ?_ _ | refine blk_drew ?_ | refine blk_alloc ?_ _)); refine blk_far ?_ NB379_403.out _; (with_reducible repeat (first | refine blk_drewN ?_ _ | refine blk_drew ?_ | refine blk_alloc ?_ _)); exact BK379.out⟩, ⟨by (with_reducible repeat (first | refine blk_drewN ?_ _ | refine blk_drew ?_ | refine blk_alloc ?_ _)); refine blk_put (cs := #[.int .i64 x5_1, .slice none 0 0]) ?_ 1 _ rfl; (with_reducible repeat (first | refine blk_drewN ?_ _ | refine blk_drew ?_ | refine blk_alloc ?_ _)); refine blk_put (cs := #[.int .i64 0, .slice none 0 0]) ?_ 0 _ rfl; (with_reducible repeat (first | refine blk_drewN ?_ _ | refine blk_drew ?_ | refine blk_alloc ?_ _)); exact BK403.out⟩, ⟨by repeat (first | (with_reducible first | exact HB.out | apply below_alloc | apply pw_below_drewN | apply below_drew1 | refine below_set ?_ GE379.out | refine below_set ?_ GE403.out) | exact HB.out)⟩⟩
            case round =>
             clear H'
             try clear c1
             try clear q1
             try clear c2
             try clear p2
             try clear c3
             try clear p3
             try clear q3
             try clear hx3
             try clear hf3
             try clear c4
             try clear p4
             try clear q4
             try clear hx4
             try clear hf4
             try clear c5
             try clear p5
             try clear q5
             try clear hx5
             try clear hf5
             try clear c6
             try clear c6b0
             try clear p6
             try clear q6
             try clear hx6
             try clear hf6
             try clear c7
             try clear c7b0
             try clear c7b1
             try clear c8
             try clear c8b0
             try clear c8b1
             try clear c12
             try clear c12b0
             try clear c15
             try clear c15b0
             try clear c16
             try clear c16b0
             try clear c17
             try clear c17b0
             try clear c18
             try clear c18b0
             try clear q19
             try clear c20
             try clear c24
             try clear c28
             try clear c32
             try clear c32b0
             try clear c33
             try clear c33b0
             try clear q34
             try clear c35
             try clear p36
             try clear q36
             try clear hx36
             try clear hf36
             try clear c38
             try clear p38
             try clear q38
             try clear hx38
             try clear c39
             try clear p39
             try clear q39
             try clear hx39
             try clear c40
             try clear c40b0
             try clear q41
             try clear c42
             try clear c43
             try clear c43b0
             try clear c44
             try clear c44b0
             try clear c45
             try clear c45b0
             try clear p46
             try clear q46
             try clear hx46
             try clear hf46
             try clear p52
             try clear q52
             try clear hx52
             try clear hf52
             try clear c58
             try clear c59
             try clear c59b0
             try clear c60
             try clear c60b0
             try clear p61
             try clear q61
             try clear hx61
             try clear hf61
             try clear p64
             try clear c66
             try clear hcz14_0
             try clear hcz14_1
             try clear hcz14_2
             try clear hcz24_0
             try clear hcz24_1
             try clear hcz24_2
             try clear hcz30_0
             try clear hcz30_1
             try clear hcz30_2
             try clear hcz4_0
             try clear hcz4_1
             try clear hcz4_2
             try clear hcz62_0
             try clear hcz62_1
             try clear hcz62_2
             try clear hcz67_0
             try clear hcz67_1
             try clear hcz9_0
             try clear hcz9_1
             try clear hcz9_2
             try clear hfz14_0
             try clear hfz14_1
             try clear hfz14_2
             try clear hfz24_0
             try clear hfz24_1
             try clear hfz24_2
             try clear hfz30_0
             try clear hfz30_1
             try clear hfz30_2
             try clear hfz4_0
             try clear hfz4_1
             try clear hfz4_2
             try clear hfz62_0
             try clear hfz62_1
             try clear hfz62_2
             try clear hfz67_0
             try clear hfz67_1
             try clear hfz9_0
             try clear hfz9_1
             try clear hfz9_2
             try clear hx36_0
             try clear hx386_0
             try clear hx387_0
             try clear hx395_0
             try clear hx397_0
             try clear hx398_0
             try clear hx399_0
             try clear hx46_0
             try clear hx52_0
             try clear hx61_0
             try clear p2
             try clear p3
             try clear p36
             try clear p386
             try clear p387
             try clear p395
             try clear p397
             try clear p398
             try clear p399
             try clear p46
             try clear p52
             try clear p6
             try clear p61
             try clear q1
             try clear q19
             try clear q3
             try clear q36
             try clear q386
             try clear q387
             try clear q395
             try clear q397
             try clear q398
             try clear q399
             try clear q46
             try clear q52
             try clear q61
             obtain ⟨x12_3, x404001_3, u404001, rfl, HA, HK3, HO_3, HO_4, HO_6, HO_404001, BK379, BK403, HB⟩ := hrel
             have hl6_3 := (Kd.R_reads' HO_6.out).1
             rw [hl6_3] at HO_6
             (try simp only [hl6_3])
             (try simp only [hl6_3] at BK379)
             (try simp only [hl6_3] at BK403)
             (try simp only [hl6_3] at HO_3)
             (try simp only [hl6_3] at HO_4)
             (try simp only [hl6_3] at HO_404001)
             cases gk with
             | zero => exact absurd HA.out (by simp [davitref09_All.l3])
             | succ k3 =>
              have H := HA.out
              clear HA
              simp only [davitref09_All.l3] at H
              by_cases c68 : x12_3 < (y402.length : Int)
              ·rw [if_pos c68] at H
               have c68b0 : decide (x12_3 < (y402.length : Int)) = true := decide_eq_true c68
               clear c68
               by_cases c69 : 0 ≤ x12_3
               ·rw [if_pos c69] at H
                have c69b0 : decide (0 ≤ x12_3) = true := decide_eq_true c69
                clear c69
                obtain ⟨bq70, hbq70⟩ : ∃ b_ : Bool, b_ = (rdOf false y402 x12_3) := ⟨_, rfl⟩
                replace H : (if bq70 = true then (if x404001_3.length < 17592186044416 then (davitref09_All.l3 k3 t380 x4_1 x5_1 y402 (wrap64 (x12_3 + 1)) a0_0 a0_1 l0_2 x5_1 (x404001_3 ++ [x12_3])) else (none)) else (davitref09_All.l3 k3 t380 x4_1 x5_1 y402 (wrap64 (x12_3 + 1)) a0_0 a0_1 l0_2 x5_1 x404001_3)) = some r := by rw [← hbq70] at H; exact H
                have Nbq70 := Aside0.mk hbq70
                clear hbq70
                by_cases c71 : bq70 = true
                ·subst c71
                 have H1 : (if x404001_3.length < 17592186044416 then (davitref09_All.l3 k3 t380 x4_1 x5_1 y402 (wrap64 (x12_3 + 1)) a0_0 a0_1 l0_2 x5_1 (x404001_3 ++ [x12_3])) else (none)) = some r := by rw [if_pos rfl] at H; exact H
                 clear H
                 have H := H1
                 clear H1
                 by_cases c72 : x404001_3.length < 17592186044416
                 ·rw [if_pos c72] at H
                  have LMc72 := Aside0.mk c72
                  clear c72
                  obtain ⟨y405, hy405⟩ : ∃ y_ : List Int, y_ = (x404001_3 ++ [x12_3]) := ⟨_, rfl⟩
                  replace H : (davitref09_All.l3 k3 t380 x4_1 x5_1 y402 (wrap64 (x12_3 + 1)) a0_0 a0_1 l0_2 x5_1 y405) = some r := by first | (rw [hy405]; with_reducible exact H) | (have H2_ := (Option.bind_some _ _).symm.trans H; rw [hy405]; with_reducible exact H2_) | (have H2_ := (Option.bind_some _ _).symm.trans H; with_reducible exact H2_) | with_reducible exact H | (rw [hy405]; exact H) | exact H
                  have Ny405 := Aside0.mk hy405
                  clear hy405
                  have H' := Aside0.mk H
                  clear H
                  have p404 : 0 ≤ (x12_3 : Int) := of_decide_eq_true (by first | (with_reducible assumption) | assumption)
                  have q404 : x12_3 < (y402.length : Int) := of_decide_eq_true (by first | (with_reducible assumption) | assumption)
                  obtain ⟨ad404, e404, hx404_0⟩ := Kd.at_bool (Kd.R_reads' HO_6.out).2.2 x12_3 p404 q404
                  (try rw [← Nbq70.out] at hx404_0)
                  obtain rfl : (⟨go61, 0, none⟩ : Addr) = ad404 := (by injection e404)
                  (first | simp only [add_plain] at hx404_0 | simp only [add_at] at hx404_0 | simp only [Addr.add, Nat.zero_add] at hx404_0 | skip)
                  replace p404 := eq_true p404
                  replace q404 := eq_true q404
                  have hnb73 := NB403_379.out
                  have hnc73 := NB379_403.out
                  have hcz74_0 : wr.cell? ⟨gb403, 0, none⟩ = some (.int .i64 x5_1) := (blk_cell BK403.out 0).trans rfl
                  have hcz74_1 : wr.cell? ⟨gb403, 1, none⟩ = some (u404001) := (blk_cell BK403.out 1).trans rfl
                  have hfz74_0 := blk_frozen BK403.out 0
                  have hfz74_1 := blk_frozen BK403.out 1
                  go_wp2_with (first | ((with_reducible refine gate_builtin (b := .append) (xs := #[.tmp 99, .tmp 101]) rfl ?_); at_builtin; refine Kd.R_append (Kd.int .i64) (w0 := w) w.heap.size rfl (.tmp 99) (.tmp 101) 27 3 (.int .i64 0) 8 rfl Try.underlying27 info3 rfl (by decide) (by omega) u404001 x404001_3 x12_3 [.int .i64 x12_3] (fun _ => True) (fun _ => False) rfl rfl ?aP (fun _ hk => hk.elim) ?aF ?aO ?aB ?aS ?aL ?_; (case aP => exact rfl); (case aB => exact (by repeat (first | (with_reducible first | exact HB.out | apply below_alloc | apply pw_below_drewN | apply below_drew1 | refine below_set ?_ GE379.out | refine below_set ?_ GE403.out) | exact HB.out))); (case aF => exact (fun _ _ => trivial)); (case aO => exact (by (with_reducible repeat (first | apply Kd.R_alloc | apply Kd.R_drewN | apply Kd.R_drew)); exact HO_404001.out)); (case aS => exact (below_size (by repeat (first | (with_reducible first | exact HB.out | apply below_alloc | apply pw_below_drewN | apply below_drew1 | refine below_set ?_ GE379.out | refine below_set ?_ GE403.out) | exact HB.out)))); (case aL => have := LMc72.out; omega); intro v406 w75 ho hb hg hat; rw [← Ny405.out] at ho; have n0_ := Aside0.mk (Kd.S_over' (by (with_reducible repeat (first | apply Kd.S_alloc | apply Kd.S_drewN | apply Kd.S_drew)); exact HO_3.out) (Kd.R_typed (by (with_reducible repeat (first | apply Kd.R_alloc | apply Kd.R_drewN | apply Kd.R_drew)); exact HO_404001.out)) (by decide) hg); have n1_ := Aside0.mk (Kd.S_after (ok := (fun k_ => k_ ≠ gb403)) (by (with_reducible repeat (first | apply Kd.S_alloc | apply Kd.S_drewN | apply Kd.S_drew)); exact Kd.S_mono HO_4.out (fun _ hk => ⟨hk.2, hk.1⟩)) hg hat); have n2_ := Aside0.mk (Kd.R_over' (by (with_reducible repeat (first | apply Kd.R_alloc | apply Kd.R_drewN | apply Kd.R_drew)); exact HO_6.out) (Kd.R_typed (by (with_reducible repeat (first | apply Kd.R_alloc | apply Kd.R_drewN | apply Kd.R_drew)); exact HO_404001.out)) (by decide) hg); have n3_ := Aside0.mk (blk_grown (g := gb379) (o := .cells #[.int .i64 a0_0, .int .i64 a0_1, .slice A0_2 l0_2.length c0_2] 24 (0, 0)) (by (with_reducible repeat (first | refine blk_drewN ?_ _ | refine blk_drew ?_ | refine blk_alloc ?_ _)); exact BK379.out) hg (Kd.R_ne HO_404001.out BK379.out (by decide))); have n4_ := Aside0.mk (blk_grown (g := gb403) (o := .cells #[.int .i64 x5_1, u404001] 40 (0, 0)) (by (with_reducible repeat (first | refine blk_drewN ?_ _ | refine blk_drew ?_ | refine blk_alloc ?_ _)); exact BK403.out) hg (Kd.R_ne HO_404001.out BK403.out (by decide))); have n5_ := Aside0.mk (hb); have n6_ := Aside0.mk (ho); clear HO_3; clear HO_4; clear HO_6; clear BK379; clear BK403; clear HB; clear HO_404001; have HO_3 := n0_; have HO_4 := n1_; have HO_6 := n2_; have BK379 := n3_; have BK403 := n4_; have HB := n5_; have HO407 := n6_; clear n0_ n1_ n2_ n3_ n4_ n5_ n6_; clear ho hb hg hat; obtain ⟨Ao76, co76, eo76⟩ := Kd.R_slice HO407.out; subst eo76; have hcz77_0 : w75.cell? ⟨gb403, 0, none⟩ = some (.int .i64 x5_1) := (blk_cell BK403.out 0).trans rfl; have hcz77_1 : w75.cell? ⟨gb403, 1, none⟩ = some (u404001) := (blk_cell BK403.out 1).trans rfl; have hfz77_0 := blk_frozen BK403.out 0; have hfz77_1 := blk_frozen BK403.out 1))
                  (try simp only [← hl6_3])
                  go_roundg k3
                  case measure => have := HK1.out; have := HK2.out; have := HK3.out; omega
                  case rel => exact ⟨(wrap64 (x12_3 + 1)), (y405), (.slice Ao76 y405.length co76), (by first | rfl | (simp; done) | (simp [*]; done)), H', ⟨by have := HK1.out; have := HK2.out; have := HK3.out; omega⟩, ⟨by (try simp only [hl6_3]); (with_reducible repeat (first | apply Kd.S_alloc | apply Kd.S_drewN | apply Kd.S_drew)); exact Kd.S_mono (Kd.S_far (p := ⟨gb403, 1, none⟩) (Kd.S_types HO_3.out BK403.out (by decide)) (fun _ hk => hk.2) (.slice Ao76 y405.length co76)) (fun _ hk => hk.1)⟩, ⟨by (try simp only [hl6_3]); (with_reducible repeat (first | apply Kd.S_alloc | apply Kd.S_drewN | apply Kd.S_drew)); exact Kd.S_mono (Kd.S_far (p := ⟨gb403, 1, none⟩) (Kd.S_mono HO_4.out (fun k_ hk => (⟨hk, hk.1⟩ : _ ∧ k_ ≠ gb403))) (fun _ hk => hk.2) (.slice Ao76 y405.length co76)) (fun _ hk => ⟨hk.1.2, hk.1.1⟩)⟩, ⟨by (try simp only [hl6_3]); (with_reducible repeat (first | apply Kd.R_alloc | apply Kd.R_drewN | apply Kd.R_drew)); exact Kd.R_mono (Kd.R_far (p := ⟨gb403, 1, none⟩) (Kd.R_types HO_6.out BK403.out (by decide)) (fun _ hk => hk.2) (.slice Ao76 y405.length co76)) (fun _ hk => trivial)⟩, ⟨by (try simp only [hl6_3]); (with_reducible repeat (first | apply Kd.R_alloc | apply Kd.R_drewN | apply Kd.R_drew)); exact Kd.R_mono (Kd.R_far (p := ⟨gb403, 1, none⟩) (Kd.R_types HO407.out BK403.out (by decide)) (fun _ hk => hk.2) (.slice Ao76 y405.length co76)) (fun _ hk => trivial)⟩, ⟨by (try simp only [hl6_3]); (with_reducible repeat (first | refine blk_drewN ?_ _ | refine blk_drew ?_ | refine blk_alloc ?_ _)); refine blk_far ?_ NB379_403.out _; (with_reducible repeat (first | refine blk_drewN ?_ _ | refine blk_drew ?_ | refine blk_alloc ?_ _)); exact BK379.out⟩, ⟨by (try simp only [hl6_3]); (with_reducible repeat (first | refine blk_drewN ?_ _ | refine blk_drew ?_ | refine blk_alloc ?_ _)); refine blk_put (cs := #[.int .i64 x5_1, u404001]) ?_ 1 _ rfl; (with_reducible repeat (first | refine blk_drewN ?_ _ | refine blk_drew ?_ | refine blk_alloc ?_ _)); exact BK403.out⟩, ⟨by repeat (first | (with_reducible first | exact HB.out | apply below_alloc | apply pw_below_drewN | apply below_drew1 | refine below_set ?_ GE379.out | refine below_set ?_ GE403.out) | exact HB.out)⟩⟩
                 ·rw [if_neg c72] at H
                  exact absurd H (by simp)
                ·replace c71 := Bool.eq_false_iff.mpr c71
                 subst c71
                 have H1 : (davitref09_All.l3 k3 t380 x4_1 x5_1 y402 (wrap64 (x12_3 + 1)) a0_0 a0_1 l0_2 x5_1 x404001_3) = some r := by rw [if_neg (show ¬ (false = true) by decide)] at H; exact H
                 clear H
                 have H := H1
                 clear H1
                 have H' := Aside0.mk H
                 clear H
                 have p404 : 0 ≤ (x12_3 : Int) := of_decide_eq_true (by first | (with_reducible assumption) | assumption)
                 have q404 : x12_3 < (y402.length : Int) := of_decide_eq_true (by first | (with_reducible assumption) | assumption)
                 obtain ⟨ad404, e404, hx404_0⟩ := Kd.at_bool (Kd.R_reads' HO_6.out).2.2 x12_3 p404 q404
                 (try rw [← Nbq70.out] at hx404_0)
                 obtain rfl : (⟨go61, 0, none⟩ : Addr) = ad404 := (by injection e404)
                 (first | simp only [add_plain] at hx404_0 | simp only [add_at] at hx404_0 | simp only [Addr.add, Nat.zero_add] at hx404_0 | skip)
                 replace p404 := eq_true p404
                 replace q404 := eq_true q404
                 go_wp2
                 (try simp only [← hl6_3])
                 go_roundg k3
                 case measure => have := HK1.out; have := HK2.out; have := HK3.out; omega
                 case rel => exact ⟨(wrap64 (x12_3 + 1)), (x404001_3), (u404001), (by first | rfl | (simp; done) | (simp [*]; done)), H', ⟨by have := HK1.out; have := HK2.out; have := HK3.out; omega⟩, ⟨by (try simp only [hl6_3]); (with_reducible repeat (first | apply Kd.S_alloc | apply Kd.S_drewN | apply Kd.S_drew)); exact HO_3.out⟩, ⟨by (try simp only [hl6_3]); (with_reducible repeat (first | apply Kd.S_alloc | apply Kd.S_drewN | apply Kd.S_drew)); exact HO_4.out⟩, ⟨by (try simp only [hl6_3]); (with_reducible repeat (first | apply Kd.R_alloc | apply Kd.R_drewN | apply Kd.R_drew)); exact HO_6.out⟩, ⟨by (try simp only [hl6_3]); (with_reducible repeat (first | apply Kd.R_alloc | apply Kd.R_drewN | apply Kd.R_drew)); exact HO_404001.out⟩, ⟨by (try simp only [hl6_3]); (with_reducible repeat (first | refine blk_drewN ?_ _ | refine blk_drew ?_ | refine blk_alloc ?_ _)); exact BK379.out⟩, ⟨by (try simp only [hl6_3]); (with_reducible repeat (first | refine blk_drewN ?_ _ | refine blk_drew ?_ | refine blk_alloc ?_ _)); exact BK403.out⟩, ⟨by repeat (first | (with_reducible first | exact HB.out | apply below_alloc | apply pw_below_drewN | apply below_drew1 | refine below_set ?_ GE379.out | refine below_set ?_ GE403.out) | exact HB.out)⟩⟩
               ·rw [if_neg c69] at H
                exact absurd H (by simp)
              ·rw [if_neg c68] at H
               have c68b0 : decide (x12_3 < (y402.length : Int)) = false := decide_eq_false c68
               clear c68
               by_cases c78 : x4_1.length < 4398046511104
               ·rw [if_pos c78] at H
                have LMc78 := Aside0.mk c78
                clear c78
                obtain ⟨y408, hy408⟩ : ∃ y_ : List (S40), y_ = (x4_1 ++ [(⟨x5_1, x404001_3⟩ : S40)]) := ⟨_, rfl⟩
                replace H : (davitref09_All.l0 k3 t380 y408 (wrap64 (x5_1 + 1)) a0_0 a0_1 l0_2) = some r := by first | (rw [hy408]; with_reducible exact H) | (have H2_ := (Option.bind_some _ _).symm.trans H; rw [hy408]; with_reducible exact H2_) | (have H2_ := (Option.bind_some _ _).symm.trans H; with_reducible exact H2_) | with_reducible exact H | (rw [hy408]; exact H) | exact H
                have Ny408 := Aside0.mk hy408
                clear hy408
                have H' := Aside0.mk H
                clear H
                have hnb79 := NB403_379.out
                have hnc79 := NB379_403.out
                have hcz80_0 : wr.cell? ⟨gb403, 0, none⟩ = some (.int .i64 x5_1) := (blk_cell BK403.out 0).trans rfl
                have hcz80_1 : wr.cell? ⟨gb403, 1, none⟩ = some (u404001) := (blk_cell BK403.out 1).trans rfl
                have hfz80_0 := blk_frozen BK403.out 0
                have hfz80_1 := blk_frozen BK403.out 1
                obtain ⟨Ao82, co82, eo82⟩ := Kd.R_slice HO_404001.out
                subst eo82
                go_wp2_with (first | ((with_reducible refine gate_builtin (b := .append) (xs := #[.tmp 104, .tmp 106]) rfl ?_); at_builtin; refine Kd.S_append k40 (w0 := w) w.heap.size rfl (.tmp 104) (.tmp 106) 37 40 (.agg #[(.int .i64 0), (.slice none 0 0)]) 32 rfl Try.underlying37 info40 rfl (by decide) (by omega) u4 x4_1 (⟨x5_1, x404001_3⟩ : S40) [.int .i64 x5_1, .slice Ao82 x404001_3.length co82] (fun k_ => k_ ≠ gb403) (fun k_ => some k_ = (.slice Ao82 x404001_3.length co82 : Value).ownBlock) rfl rfl ?aP (fun k_ hk_ => ((Kd.R_mono (ok' := fun k_ => ((fun k_ => k_ ≠ gb403)) k_ ∧ some k_ ≠ (u4 : Value).ownBlock) (Kd.R_types (Kd.R_apart' (HO_404001.out) (Kd.S_typed HO_4.out) (by decide)) BK403.out (by decide)) (fun k_ hk => ⟨hk.2, hk.1.2⟩))).1 k_ hk_.symm) ?aF ?aO ?aB ?aS ?aL ?_; (case aP => exact k40_mkM _ _ _ (⟨x5_1, x404001_3⟩ : S40) (Kd.R_mono (Kd.R_tight rfl (Kd.R_mono (ok' := fun k_ => ((fun k_ => k_ ≠ gb403)) k_ ∧ some k_ ≠ (u4 : Value).ownBlock) (Kd.R_types (Kd.R_apart' (HO_404001.out) (Kd.S_typed HO_4.out) (by decide)) BK403.out (by decide)) (fun k_ hk => ⟨hk.2, hk.1.2⟩))) (fun _ h_ => h_))); (case aB => exact (by repeat (first | (with_reducible first | exact HB.out | apply below_alloc | apply pw_below_drewN | apply below_drew1 | refine below_set ?_ GE379.out | refine below_set ?_ GE403.out) | exact HB.out))); (case aF => exact (fun k_ hk => Kd.freshB (g := gb403) (o := .cells #[.int .i64 x5_1, .slice Ao82 x404001_3.length co82] 40 (0, 0)) (by (with_reducible repeat (first | refine blk_drewN ?_ _ | refine blk_drew ?_ | refine blk_alloc ?_ _)); exact BK403.out) k_ hk)); (case aO => exact (by (with_reducible repeat (first | apply Kd.S_alloc | apply Kd.S_drewN | apply Kd.S_drew)); exact Kd.S_mono HO_4.out (fun k_ hk => ⟨hk.2, fun e_ => hk.1 e_⟩))); (case aS => exact (below_size (by repeat (first | (with_reducible first | exact HB.out | apply below_alloc | apply pw_below_drewN | apply below_drew1 | refine below_set ?_ GE379.out | refine below_set ?_ GE403.out) | exact HB.out)))); (case aL => have := LMc78.out; omega); intro v409 w81 ho hb hg hat; rw [← Ny408.out] at ho; have n0_ := Aside0.mk (Kd.S_over' (by (with_reducible repeat (first | apply Kd.S_alloc | apply Kd.S_drewN | apply Kd.S_drew)); exact HO_3.out) (Kd.S_typed (by (with_reducible repeat (first | apply Kd.S_alloc | apply Kd.S_drewN | apply Kd.S_drew)); exact HO_4.out)) (by decide) hg); have n1_ := Aside0.mk (Kd.R_over' (by (with_reducible repeat (first | apply Kd.R_alloc | apply Kd.R_drewN | apply Kd.R_drew)); exact HO_6.out) (Kd.S_typed (by (with_reducible repeat (first | apply Kd.S_alloc | apply Kd.S_drewN | apply Kd.S_drew)); exact HO_4.out)) (by decide) hg); have n2_ := Aside0.mk (blk_grown (g := gb379) (o := .cells #[.int .i64 a0_0, .int .i64 a0_1, .slice A0_2 l0_2.length c0_2] 24 (0, 0)) (by (with_reducible repeat (first | refine blk_drewN ?_ _ | refine blk_drew ?_ | refine blk_alloc ?_ _)); exact BK379.out) hg (Kd.S_ne HO_4.out BK379.out (by decide))); have n3_ := Aside0.mk (blk_grown (g := gb403) (o := .cells #[.int .i64 x5_1, .slice Ao82 x404001_3.length co82] 40 (0, 0)) (by (with_reducible repeat (first | refine blk_drewN ?_ _ | refine blk_drew ?_ | refine blk_alloc ?_ _)); exact BK403.out) hg (Kd.S_away HO_4.out (fun _ hk => hk.2))); have n4_ := Aside0.mk (hb); have n5_ := Aside0.mk (ho); clear HO_3; clear HO_6; clear BK379; clear BK403; clear HB; clear HO_4; clear HO_404001; have HO_3 := n0_; have HO_6 := n1_; have BK379 := n2_; have BK403 := n3_; have HB := n4_; have HO410 := n5_; clear n0_ n1_ n2_ n3_ n4_ n5_; clear ho hb hg hat))
                (try simp only [← hl6_3])
                go_roundg k3
                case measure => have := HK1.out; have := HK2.out; have := HK3.out; omega
                case rel => exact ⟨(y408), (wrap64 (x5_1 + 1)), (by first | rfl | (simp; done) | (simp [*]; done)), H', ⟨by have := HK1.out; have := HK2.out; have := HK3.out; omega⟩, ⟨by (try simp only [hl6_3]); (with_reducible repeat (first | apply Kd.S_alloc | apply Kd.S_drewN | apply Kd.S_drew)); exact Kd.S_mono HO_3.out (fun _ hk => trivial)⟩, ⟨by (try simp only [hl6_3]); (with_reducible repeat (first | apply Kd.S_alloc | apply Kd.S_drewN | apply Kd.S_drew)); exact Kd.S_mono HO410.out (fun _ hk => trivial)⟩, ⟨by (try simp only [hl6_3]); (with_reducible repeat (first | refine blk_drewN ?_ _ | refine blk_drew ?_ | refine blk_alloc ?_ _)); exact BK379.out⟩, ⟨by repeat (first | (with_reducible first | exact HB.out | apply below_alloc | apply pw_below_drewN | apply below_drew1 | refine below_set ?_ GE379.out | refine below_set ?_ GE403.out) | exact HB.out)⟩⟩
               ·rw [if_neg c78] at H
                exact absurd H (by simp)
           ·rw [if_neg c60] at H
            exact absurd H (by simp)
          ·rw [if_neg c59] at H
           exact absurd H (by simp)
         ·replace c58 := Bool.eq_false_iff.mpr c58
          subst c58
          have H1 : (davitref09_All.l0 k2 t380 x4_1 (wrap64 (x5_1 + 1)) a0_0 a0_1 l0_2) = some r := by rw [if_neg (show ¬ (false = true) by decide)] at H; exact H
          clear H
          have H := H1
          clear H1
          have H' := Aside0.mk H
          clear H
          have hcz83_0 : wr.cell? ⟨gb379, 0, none⟩ = some (.int .i64 a0_0) := (blk_cell BK379.out 0).trans rfl
          have hcz83_1 : wr.cell? ⟨gb379, 1, none⟩ = some (.int .i64 a0_1) := (blk_cell BK379.out 1).trans rfl
          have hcz83_2 : wr.cell? ⟨gb379, 2, none⟩ = some (.slice A0_2 l0_2.length c0_2) := (blk_cell BK379.out 2).trans rfl
          have hfz83_0 := blk_frozen BK379.out 0
          have hfz83_1 := blk_frozen BK379.out 1
          have hfz83_2 := blk_frozen BK379.out 2
          go_wp2
          go_roundg k2
          case measure => have := HK1.out; have := HK2.out; omega
          case rel => exact ⟨(x4_1), (wrap64 (x5_1 + 1)), (by first | rfl | (simp; done) | (simp [*]; done)), H', ⟨by have := HK1.out; have := HK2.out; omega⟩, ⟨by (with_reducible repeat (first | apply Kd.S_alloc | apply Kd.S_drewN | apply Kd.S_drew)); exact Kd.S_mono HO_3.out (fun _ hk => trivial)⟩, ⟨by (with_reducible repeat (first | apply Kd.S_alloc | apply Kd.S_drewN | apply Kd.S_drew)); exact HO_4.out⟩, ⟨by (with_reducible repeat (first | refine blk_drewN ?_ _ | refine blk_drew ?_ | refine blk_alloc ?_ _)); exact BK379.out⟩, ⟨by repeat (first | (with_reducible first | exact HB.out | apply below_alloc | apply pw_below_drewN | apply below_drew1 | refine below_set ?_ GE379.out) | exact HB.out)⟩⟩
     ·rw [if_neg c8] at H
      exact absurd H (by simp)
    ·rw [if_neg c7] at H
     exact absurd H (by simp)
   ·rw [if_neg c6] at H
    have c6b0 : decide (x5_1 < (l0_2.length : Int)) = false := decide_eq_false c6
    clear c6
    obtain rfl := Option.some.inj H
    have hcz84_0 : wr.cell? ⟨gb379, 0, none⟩ = some (.int .i64 a0_0) := (blk_cell BK379.out 0).trans rfl
    have hcz84_1 : wr.cell? ⟨gb379, 1, none⟩ = some (.int .i64 a0_1) := (blk_cell BK379.out 1).trans rfl
    have hcz84_2 : wr.cell? ⟨gb379, 2, none⟩ = some (.slice A0_2 l0_2.length c0_2) := (blk_cell BK379.out 2).trans rfl
    have hfz84_0 := blk_frozen BK379.out 0
    have hfz84_1 := blk_frozen BK379.out 1
    have hfz84_2 := blk_frozen BK379.out 2
    go_wp2
    go_ret
    exact ⟨_, by first | rfl | (simp [errW_none, errW_some] <;> rfl) | (simp [*, errW_none, errW_some] <;> rfl), by (with_reducible repeat (first | apply Kd.S_alloc | apply Kd.S_drewN | apply Kd.S_drew)); exact HO_4.out, by repeat (first | (with_reducible first | exact HB.out | apply below_alloc | apply pw_below_drewN | apply below_drew1 | refine below_set ?_ GE379.out) | exact HB.out)⟩
end
end Go.Proofs.Ytilopoegoddggaa.X
