/- Part 3 of the proof of the statement CallsMore: the words of the walks, the walks through the functions that it reaches, and the plain laws of what they compute. -/
import Derived.Test.YtjjcnbfmmhokeaaMCallsMore1
namespace Go.Proofs.Ytjjcnbfmmhokeaa.X
open Go.RowKit Go.Proofs.YtjjcnbfmmhokeaaW.PrintWords Go.Proofs.YtjjcnbfmmhokeaaW.PrintLast Go.Proofs.YtjjcnbfmmhokeaaW.PrintMore
attribute [local go_sem] max2_int min2_int max_two min_two max_three min_three max_four min_four
set_option linter.all false
noncomputable section
mutual
def calls_table.l0 : Nat → List (List Bool) → Int → Int → List (S33) → Option ((List (List Bool)))
 | 0, _, _, _, _ => none
 | k + 1, x3, x13, x14, x109000 => if x14 < x13 then (if 0 ≤ (x109000.length : Int) then (if ((x109000.length : Int) : Int).toNat ≤ 281474976710656 then ((calls_Of.f x109000 x14).bind fun t112 => (calls_table.l1 k x3 (List.replicate ((x109000.length : Int) : Int).toNat false) x13 x14 t112 (t112.length : Int) 0 x109000)) else (none)) else (none)) else (calls_table.l2 k x3 (x3.length : Int) 0)
def calls_table.l1 : Nat → List (List Bool) → List Bool → Int → Int → List Int → Int → Int → List (S33) → Option ((List (List Bool)))
 | 0, _, _, _, _, _, _, _, _ => none
 | k + 1, x3, x5, x13, x14, x23, x24, x25, x109000 => if x25 < x24 then (if 0 ≤ x25 then (if x25 < (x23.length : Int) then (if 0 ≤ (rd x23 x25) then (if (rd x23 x25) < (x5.length : Int) then (calls_table.l1 k x3 (x5.set ((rd x23 x25) : Int).toNat true) x13 x14 x23 x24 (wrap64 (x25 + 1)) x109000) else (none)) else (none)) else (none)) else (none)) else (if x3.length < 5864062014805 then (calls_table.l0 k (x3 ++ [x5]) x13 (wrap64 (x14 + 1)) x109000) else (none))
def calls_table.l2 : Nat → List (List Bool) → Int → Int → Option ((List (List Bool)))
 | 0, _, _, _ => none
 | k + 1, x3, x39, x40 => if x40 < x39 then (calls_table.l3 k x3 x40 x39 x40 (x3.length : Int) 0) else (some x3)
def calls_table.l3 : Nat → List (List Bool) → Int → Int → Int → Int → Int → Option ((List (List Bool)))
 | 0, _, _, _, _, _, _ => none
 | k + 1, x3, x8, x39, x40, x44, x45 => if x45 < x44 then (calls_table.l4 k x3 x8 x45 x39 x40 x44 x45 (x3.length : Int) 0) else (calls_table.l2 k x3 x39 (wrap64 (x40 + 1)))
def calls_table.l4 : Nat → List (List Bool) → Int → Int → Int → Int → Int → Int → Int → Int → Option ((List (List Bool)))
 | 0, _, _, _, _, _, _, _, _, _ => none
 | k + 1, x3, x8, x9, x39, x40, x44, x45, x49, x50 => if x50 < x49 then (if 0 ≤ x9 then (if x9 < (x3.length : Int) then (if 0 ≤ x50 then (if x50 < ((rd_L15 x3 x9).length : Int) then (if rdOf false (rd_L15 x3 x9) x50 = true then (calls_table.l4 k (x3.set (x9 : Int).toNat ((rd_L15 x3 x9).set (x50 : Int).toNat true)) x8 x9 x39 x40 x44 x45 x49 (wrap64 (x50 + 1))) else (if 0 ≤ x8 then (if x8 < ((rd_L15 x3 x9).length : Int) then (if rdOf false (rd_L15 x3 x9) x8 = true then (if x8 < (x3.length : Int) then (if x50 < ((rd_L15 x3 x8).length : Int) then (calls_table.l4 k (x3.set (x9 : Int).toNat ((rd_L15 x3 x9).set (x50 : Int).toNat (rdOf false (rd_L15 x3 x8) x50))) x8 x9 x39 x40 x44 x45 x49 (wrap64 (x50 + 1))) else (none)) else (none)) else (calls_table.l4 k (x3.set (x9 : Int).toNat ((rd_L15 x3 x9).set (x50 : Int).toNat false)) x8 x9 x39 x40 x44 x45 x49 (wrap64 (x50 + 1)))) else (none)) else (none))) else (none)) else (none)) else (none)) else (none)) else (calls_table.l3 k x3 x8 x39 x40 x44 (wrap64 (x45 + 1)))
end
def calls_table.f (k : Nat) (l0_0 : List (S33)) : Option ((List (List Bool))) := calls_table.l0 k ([] : List (List Bool)) (l0_0.length : Int) 0 l0_0
theorem calls_table.mono_l : ∀ k, (∀ y0 y1 y2 y3, LeO (calls_table.l0 k y0 y1 y2 y3) (calls_table.l0 (k + 1) y0 y1 y2 y3)) ∧ (∀ y0 y1 y2 y3 y4 y5 y6 y7, LeO (calls_table.l1 k y0 y1 y2 y3 y4 y5 y6 y7) (calls_table.l1 (k + 1) y0 y1 y2 y3 y4 y5 y6 y7)) ∧ (∀ y0 y1 y2, LeO (calls_table.l2 k y0 y1 y2) (calls_table.l2 (k + 1) y0 y1 y2)) ∧ (∀ y0 y1 y2 y3 y4 y5, LeO (calls_table.l3 k y0 y1 y2 y3 y4 y5) (calls_table.l3 (k + 1) y0 y1 y2 y3 y4 y5)) ∧ (∀ y0 y1 y2 y3 y4 y5 y6 y7 y8, LeO (calls_table.l4 k y0 y1 y2 y3 y4 y5 y6 y7 y8) (calls_table.l4 (k + 1) y0 y1 y2 y3 y4 y5 y6 y7 y8))
 | 0 => ⟨fun _ _ _ _ r h => by simp [calls_table.l0] at h, fun _ _ _ _ _ _ _ _ r h => by simp [calls_table.l1] at h, fun _ _ _ r h => by simp [calls_table.l2] at h, fun _ _ _ _ _ _ r h => by simp [calls_table.l3] at h, fun _ _ _ _ _ _ _ _ _ r h => by simp [calls_table.l4] at h⟩
 | k + 1 => by
  obtain ⟨ih0, ih1, ih2, ih3, ih4⟩ := calls_table.mono_l k
  refine ⟨?_, ?_, ?_, ?_, ?_⟩
  ·intro y0 y1 y2 y3
   unfold calls_table.l0
   repeat' first
   | (with_reducible exact ih0 _ _ _ _)
   | (with_reducible exact ih1 _ _ _ _ _ _ _ _)
   | (with_reducible exact ih2 _ _ _)
   | (with_reducible exact ih3 _ _ _ _ _ _)
   | (with_reducible exact ih4 _ _ _ _ _ _ _ _ _)
   | (with_reducible exact LeO.refl _)
   | (with_reducible exact LeO.none _)
   | (with_reducible refine LeO.ite ?_ ?_)
   | (with_reducible refine LeO.bind ?_ (fun _ => ?_))
   | exact ih0 _ _ _ _
   | exact ih1 _ _ _ _ _ _ _ _
   | exact ih2 _ _ _
   | exact ih3 _ _ _ _ _ _
   | exact ih4 _ _ _ _ _ _ _ _ _
   | exact LeO.none _
   | refine LeO.ite ?_ ?_
   | refine LeO.bind ?_ (fun _ => ?_)
  ·intro y0 y1 y2 y3 y4 y5 y6 y7
   unfold calls_table.l1
   repeat' first
   | (with_reducible exact ih0 _ _ _ _)
   | (with_reducible exact ih1 _ _ _ _ _ _ _ _)
   | (with_reducible exact ih2 _ _ _)
   | (with_reducible exact ih3 _ _ _ _ _ _)
   | (with_reducible exact ih4 _ _ _ _ _ _ _ _ _)
   | (with_reducible exact LeO.refl _)
   | (with_reducible exact LeO.none _)
   | (with_reducible refine LeO.ite ?_ ?_)
   | (with_reducible refine LeO.bind ?_ (fun _ => ?_))
   | exact ih0 _ _ _ _
   | exact ih1 _ _ _ _ _ _ _ _
   | exact ih2 _ _ _
   | exact ih3 _ _ _ _ _ _
   | exact ih4 _ _ _ _ _ _ _ _ _
   | exact LeO.none _
   | refine LeO.ite ?_ ?_
   | refine LeO.bind ?_ (fun _ => ?_)
  ·intro y0 y1 y2
   unfold calls_table.l2
   repeat' first
   | (with_reducible exact ih0 _ _ _ _)
   | (with_reducible exact ih1 _ _ _ _ _ _ _ _)
   | (with_reducible exact ih2 _ _ _)
   | (with_reducible exact ih3 _ _ _ _ _ _)
   | (with_reducible exact ih4 _ _ _ _ _ _ _ _ _)
   | (with_reducible exact LeO.refl _)
   | (with_reducible exact LeO.none _)
   | (with_reducible refine LeO.ite ?_ ?_)
   | (with_reducible refine LeO.bind ?_ (fun _ => ?_))
   | exact ih0 _ _ _ _
   | exact ih1 _ _ _ _ _ _ _ _
   | exact ih2 _ _ _
   | exact ih3 _ _ _ _ _ _
   | exact ih4 _ _ _ _ _ _ _ _ _
   | exact LeO.none _
   | refine LeO.ite ?_ ?_
   | refine LeO.bind ?_ (fun _ => ?_)
  ·intro y0 y1 y2 y3 y4 y5
   unfold calls_table.l3
   repeat' first
   | (with_reducible exact ih0 _ _ _ _)
   | (with_reducible exact ih1 _ _ _ _ _ _ _ _)
   | (with_reducible exact ih2 _ _ _)
   | (with_reducible exact ih3 _ _ _ _ _ _)
   | (with_reducible exact ih4 _ _ _ _ _ _ _ _ _)
   | (with_reducible exact LeO.refl _)
   | (with_reducible exact LeO.none _)
   | (with_reducible refine LeO.ite ?_ ?_)
   | (with_reducible refine LeO.bind ?_ (fun _ => ?_))
   | exact ih0 _ _ _ _
   | exact ih1 _ _ _ _ _ _ _ _
   | exact ih2 _ _ _
   | exact ih3 _ _ _ _ _ _
   | exact ih4 _ _ _ _ _ _ _ _ _
   | exact LeO.none _
   | refine LeO.ite ?_ ?_
   | refine LeO.bind ?_ (fun _ => ?_)
  ·intro y0 y1 y2 y3 y4 y5 y6 y7 y8
   unfold calls_table.l4
   repeat' first
   | (with_reducible exact ih0 _ _ _ _)
   | (with_reducible exact ih1 _ _ _ _ _ _ _ _)
   | (with_reducible exact ih2 _ _ _)
   | (with_reducible exact ih3 _ _ _ _ _ _)
   | (with_reducible exact ih4 _ _ _ _ _ _ _ _ _)
   | (with_reducible exact LeO.refl _)
   | (with_reducible exact LeO.none _)
   | (with_reducible refine LeO.ite ?_ ?_)
   | (with_reducible refine LeO.bind ?_ (fun _ => ?_))
   | exact ih0 _ _ _ _
   | exact ih1 _ _ _ _ _ _ _ _
   | exact ih2 _ _ _
   | exact ih3 _ _ _ _ _ _
   | exact ih4 _ _ _ _ _ _ _ _ _
   | exact LeO.none _
   | refine LeO.ite ?_ ?_
   | refine LeO.bind ?_ (fun _ => ?_)
theorem calls_table.mono : ∀ a0 k, LeO (calls_table.f k a0) (calls_table.f (k + 1) a0) := by
 intro a0 k
 obtain ⟨ih0, ih1, ih2, ih3, ih4⟩ := calls_table.mono_l k
 unfold calls_table.f
 repeat' first
   | (with_reducible exact ih0 _ _ _ _)
   | (with_reducible exact ih1 _ _ _ _ _ _ _ _)
   | (with_reducible exact ih2 _ _ _)
   | (with_reducible exact ih3 _ _ _ _ _ _)
   | (with_reducible exact ih4 _ _ _ _ _ _ _ _ _)
   | (with_reducible exact LeO.refl _)
   | (with_reducible exact LeO.none _)
   | (with_reducible refine LeO.ite ?_ ?_)
   | (with_reducible refine LeO.bind ?_ (fun _ => ?_))
   | exact ih0 _ _ _ _
   | exact ih1 _ _ _ _ _ _ _ _
   | exact ih2 _ _ _
   | exact ih3 _ _ _ _ _ _
   | exact ih4 _ _ _ _ _ _ _ _ _
   | exact LeO.none _
   | refine LeO.ite ?_ ?_
   | refine LeO.bind ?_ (fun _ => ?_)
def calls_table.T22 : Bool × List (List Nat × List Nat) := (true, [([], []), ([], []), ([0, 1], [0, 1]), ([2], [2]), ([], []), ([], []), ([], []), ([5, 6], [5, 6]), ([7], [7]), ([], []), ([8, 9], [8, 9]), ([10], [10]), ([11], [11]), ([12], [12]), ([12], [12]), ([13, 14, 12], [12, 13, 14]), ([15, 12], [12, 15]), ([12], [12]), ([16, 17, 12], [12, 16, 17]), ([18, 12], [12, 18]), ([19, 12, 12], [12, 19]), ([20], [20]), ([20], [20]), ([21, 22, 20], [20, 21, 22]), ([23, 20], [20, 23]), ([20], [20]), ([24, 25, 20], [20, 24, 25]), ([26, 20], [20, 26]), ([20, 27, 12], [12, 20, 27]), ([12, 28], [12, 28]), ([3, 4, 0, 1, 2, 3, 4, 5, 6, 7, 8, 9, 10, 11, 12, 13, 14, 15, 16, 17, 18, 19, 20, 21, 22, 23, 24, 25, 26, 27, 28, 29], [3, 4]), ([30, 29, 20, 0, 1, 2, 3, 4, 5, 6, 7, 8, 9, 10, 11, 12, 13, 14, 15, 16, 17, 18, 19, 20, 21, 22, 23, 24, 25, 26, 27, 28, 29], [29, 30])])
def calls_table.B22 : List Nat := [0, 0, 3, 7, 0, 0, 0, 96, 224, 0, 992, 2016, 4064, 8160, 8160, 32736, 65504, 8160, 262112, 524256, 1048544, 2097120, 2097120, 8388576, 16777184, 2097120, 67108832, 134217696, 268435424, 536870880, 1073741823, 2147483647]
theorem calls_table.tab22 : rtab .any (opsOf Try.f18 22) = calls_table.T22 := by kernel_rfl
theorem calls_table.bits22 : waitsOk calls_table.T22.2 calls_table.B22 = true := by kernel_rfl
set_option maxHeartbeats 8000000 in
set_option maxRecDepth 100000 in
theorem calls_table.calls (k : Nat) (A0_0 : Option Addr) (c0_0 : Nat) (l0_0 : List (S33)) (r : List (List Bool)) (w : World) (hr0_0 : Kd.C k33 w A0_0 l0_0.length l0_0) (hc0_0 : l0_0.length ≤ c0_0) (h : calls_table.f k l0_0 = some r) :
  Calls Try.prog 18 #[.agg #[.slice A0_0 l0_0.length c0_0]] w fun e w' => ∃ v0_ : Value, e = .returned (v0_) ∧ Kd.S (Kd.slice 4 Kd.bool) 49 w' w.heap.size (fun _ => True) v0_ r ∧ Below w.heap.size w w' := by
 have hu24 := Try.underlying24
 have HR0_0 := Aside0.mk hr0_0
 have HC0_0 := Aside0.mk hc0_0
 clear hr0_0 hc0_0
 have HB := Aside0.mk (Below.refl w.heap.size w)
 have H : (calls_table.l0 k ([] : List (List Bool)) (l0_0.length : Int) 0 l0_0) = some r := h
 clear h
 have H' := Aside0.mk H
 clear H
 go_enter Try.func18, Try.ntmps18
 go_wp2_with (first | ((with_reducible refine gate_dst (N := 1) rfl ?_); refine box_event ?hg (N := 1) ?hd (cs := #[.slice A0_0 l0_0.length c0_0]) (t := 24) ?hr ?_; (case hd => rfl); (case hg => rfl); (case hr => first | (go_simp; done) | (go_simp; rfl)); intro gb108 hg w2 hbox hb; have n0_ := Aside0.mk (below_step (by repeat (first | (with_reducible first | exact HB.out | apply below_alloc | apply pw_below_drewN | apply below_drew1) | exact HB.out)) hb); have n1_ := Aside0.mk (hbox); have n2_ := Aside0.mk ((by rw [hg]; exact (below_size (by repeat (first | (with_reducible first | exact HB.out | apply below_alloc | apply pw_below_drewN | apply below_drew1) | exact HB.out))) : w.heap.size ≤ gb108)); have n3_ := Aside0.mk ((by rw [hg]; exact (below_size (by repeat (first | (with_reducible first | exact HB.out | apply below_alloc | apply pw_below_drewN | apply below_drew1) | exact HB.out))) : w.heap.size ≤ gb108)); clear HB; have HB := n0_; have BK108 := n1_; have GW108 := n2_; have GE108 := n3_; clear n0_ n1_ n2_ n3_; clear hb hbox hg; have hcz3_0 : w2.cell? ⟨gb108, 0, none⟩ = some (.slice A0_0 l0_0.length c0_0) := (blk_cell BK108.out 0).trans rfl; have hfz3_0 := blk_frozen BK108.out 0))
 go_loopg [3, 14] k (fun kq v3 v14 w' => ∃ (x3_1 : List (List Bool)) (x14_1 : Int), v14 = .int .i64 x14_1 ∧ Aside0 (calls_table.l0 kq x3_1 (l0_0.length : Int) x14_1 l0_0 = some r) ∧ Aside0 (kq ≤ k) ∧ Aside0 (Kd.S (Kd.slice 4 Kd.bool) 49 w' w.heap.size (fun _ => True) v3 x3_1) ∧ Aside0 (w'.heap[gb108]? = some (.cells #[(.slice A0_0 l0_0.length c0_0)] 24 (0, 0))) ∧ Aside0 (Below w.heap.size w w'))
 case atStart => exact ⟨(([] : List (List Bool))), (0), (by first | rfl | (simp; done) | (simp [*]; done)), H', ⟨Nat.le_refl _⟩, ⟨by first | exact Kd.S_nil _ _ _ _ _ | exact Kd.N_nil _ _ _ _ _ | exact Kd.V_nil _ _ _ _ _ | exact Kd.Q_nil _ _ _ _ _ | exact Kd.R_nil _ _ _ _ _⟩, ⟨by (with_reducible repeat (first | refine blk_drewN ?_ _ | refine blk_drew ?_ | refine blk_alloc ?_ _)); exact BK108.out⟩, ⟨by repeat (first | (with_reducible first | exact HB.out | apply below_alloc | apply pw_below_drewN | apply below_drew1 | refine below_set ?_ GE108.out) | exact HB.out)⟩⟩
 case round =>
  clear H'
  try clear c1
  try clear p2
  try clear hcz3_0
  try clear hfz3_0
  obtain ⟨x3_1, x14_1, rfl, HA, HK1, HO_3, BK108, HB⟩ := hrel
  cases gk with
  | zero => exact absurd HA.out (by simp [calls_table.l0])
  | succ k1 =>
   have H := HA.out
   clear HA
   simp only [calls_table.l0] at H
   by_cases c4 : x14_1 < (l0_0.length : Int)
   ·rw [if_pos c4] at H
    have c4b0 : decide (x14_1 < (l0_0.length : Int)) = true := decide_eq_true c4
    clear c4
    by_cases c5 : 0 ≤ (l0_0.length : Int)
    ·rw [if_pos c5] at H
     have c5b0 := eq_true c5
     have c5b1 : decide (0 ≤ (l0_0.length : Int)) = true := decide_eq_true c5
     clear c5
     by_cases c6 : ((l0_0.length : Int) : Int).toNat ≤ 281474976710656
     ·rw [if_pos c6] at H
      have c6b0 := eq_true c6
      have c6b1 : decide (((l0_0.length : Int) : Int).toNat ≤ 281474976710656) = true := decide_eq_true c6
      clear c6
      obtain ⟨y109, hy109⟩ : ∃ y_ : List Bool, y_ = (List.replicate ((l0_0.length : Int) : Int).toNat false) := ⟨_, rfl⟩
      replace H : ((calls_Of.f l0_0 x14_1).bind fun t112 => (calls_table.l1 k1 x3_1 y109 (l0_0.length : Int) x14_1 t112 (t112.length : Int) 0 l0_0)) = some r := by first | (rw [hy109]; with_reducible exact H) | (have H2_ := (Option.bind_some _ _).symm.trans H; rw [hy109]; with_reducible exact H2_) | (have H2_ := (Option.bind_some _ _).symm.trans H; with_reducible exact H2_) | with_reducible exact H | (rw [hy109]; exact H) | exact H
      have Ny109 := Aside0.mk hy109
      clear hy109
      replace H := Option.bind_eq_some_iff.mp H
      obtain ⟨t112, A70, H⟩ := H
      replace H : (calls_table.l1 k1 x3_1 y109 (l0_0.length : Int) x14_1 t112 (t112.length : Int) 0 l0_0) = some r := H
      have A7 := Aside0.mk A70
      clear A70
      have H' := Aside0.mk H
      clear H
      have hcz8_0 : wr.cell? ⟨gb108, 0, none⟩ = some (.slice A0_0 l0_0.length c0_0) := (blk_cell BK108.out 0).trans rfl
      have hfz8_0 := blk_frozen BK108.out 0
      go_wp2_with (first | ((with_reducible refine gate_dst (N := 20) rfl ?_); refine Kd.R_make Kd.bool _ 4 rfl (N := 20) rfl 49 _ _ rfl (l0_0.length : Int) rfl rfl Try.underlying49 (.bool false) 1 info4 rfl (by decide) (by omega) false (ok := fun _ => True) (okp := fun _ => True) rfl (fun _ hk => hk) trivial (of_decide_eq_true (by first | (with_reducible assumption) | assumption)) (Nat.le_trans (Nat.mul_le_mul_right _ (of_decide_eq_true (by first | (with_reducible assumption) | assumption) : (l0_0.length : Int).toNat ≤ 281474976710656)) (by omega)) (Below.refl _ _) (Nat.le_refl _) ?_; intro v110 w9 ho10 hb hg_ hnew_; clear hg_ hnew_; (first | rw [← Ny109.out] at ho10 | (simp only [Int.reduceToNat] at ho10; rw [← Ny109.out] at ho10)); have n0_ := Aside0.mk (Kd.S_elder' (by (with_reducible repeat (first | apply Kd.S_alloc | apply Kd.S_drewN | apply Kd.S_drew)); exact HO_3.out) (Kd.R_base ho10) hb); have n1_ := Aside0.mk (Kd.R_lower ho10 (below_size (by repeat (first | (with_reducible first | exact HB.out | apply below_alloc | apply pw_below_drewN | apply below_drew1 | refine below_set ?_ GE108.out) | exact HB.out)))); have n2_ := Aside0.mk (blk_below (g := gb108) (o := .cells #[.slice A0_0 l0_0.length c0_0] 24 (0, 0)) (by (with_reducible repeat (first | refine blk_drewN ?_ _ | refine blk_drew ?_ | refine blk_alloc ?_ _)); exact BK108.out) hb); have n3_ := Aside0.mk (below_step (by repeat (first | (with_reducible first | exact HB.out | apply below_alloc | apply pw_below_drewN | apply below_drew1 | refine below_set ?_ GE108.out) | exact HB.out)) hb); clear HO_3; clear BK108; clear HB; have HO_3 := n0_; have HO111 := n1_; have BK108 := n2_; have HB := n3_; clear n0_ n1_ n2_ n3_; clear hb ho10; have hcz11_0 : w9.cell? ⟨gb108, 0, none⟩ = some (.slice A0_0 l0_0.length c0_0) := (blk_cell BK108.out 0).trans rfl; have hfz11_0 := blk_frozen BK108.out 0) | ((with_reducible refine gate_callee (f := 11) rfl ?_); refine goesL_ (some 23) rfl rfl Try.func11 (by kernel_rfl) rfl #[.agg #[.slice A0_0 l0_0.length c0_0], .int .i64 x14_1] rfl (by (try simp only [List.map_toArray, List.map_cons, List.map_nil]); first | done | rfl | (simp only [List.length_drop, List.length_take]; rfl)) ?_; (with_reducible refine (calls_Of.calls _ _ l0_0 x14_1 t112 _ ?side1 ?side2 A7.out).mono ?_); (case side1 => repeat (first | exact (Kd.C_below HR0_0.out HB.out) | (with_reducible refine Kd.C_alloc ?_ _) | (with_reducible refine Kd.C_drewN ?_ _) | (with_reducible refine Kd.C_drew ?_))); (case side2 => exact HC0_0.out); rintro e w12 ⟨v113, rfl, ho0, hb⟩; refine ⟨_, rfl, ?_⟩; have n0_ := Aside0.mk (Kd.S_below (by (with_reducible repeat (first | apply Kd.S_alloc | apply Kd.S_drewN | apply Kd.S_drew)); exact HO_3.out) hb); have n1_ := Aside0.mk (Kd.R_below (by (with_reducible repeat (first | apply Kd.R_alloc | apply Kd.R_drewN | apply Kd.R_drew)); exact HO111.out) hb); have n2_ := Aside0.mk (Kd.R_lower ho0 (below_size (by repeat (first | (with_reducible first | exact HB.out | apply below_alloc | apply pw_below_drewN | apply below_drew1 | refine below_set ?_ GE108.out) | exact HB.out)))); have n3_ := Aside0.mk (blk_below (g := gb108) (o := .cells #[.slice A0_0 l0_0.length c0_0] 24 (0, 0)) (by (with_reducible repeat (first | refine blk_drewN ?_ _ | refine blk_drew ?_ | refine blk_alloc ?_ _)); exact BK108.out) hb); have n4_ := Aside0.mk (below_step (by repeat (first | (with_reducible first | exact HB.out | apply below_alloc | apply pw_below_drewN | apply below_drew1 | refine below_set ?_ GE108.out) | exact HB.out)) hb); clear HO_3; clear HO111; clear BK108; clear HB; have HO_3 := n0_; have HO111 := n1_; have HO114 := n2_; have BK108 := n3_; have HB := n4_; clear n0_ n1_ n2_ n3_ n4_; (try clear hb); (try clear hb2); (try clear hk); (try clear hi); (try clear ho0); obtain ⟨Ao13, co13, eo13⟩ := Kd.R_slice HO114.out; subst eo13))
      go_loopg [25] k1 (fun kq v25 w' => ∃ (x5_2 : List Bool) (x25_2 : Int), v25 = .int .i64 x25_2 ∧ Aside0 (calls_table.l1 kq x3_1 x5_2 (l0_0.length : Int) x14_1 t112 (t112.length : Int) x25_2 l0_0 = some r) ∧ Aside0 (kq ≤ k1) ∧ Aside0 (Kd.S (Kd.slice 4 Kd.bool) 49 w' w.heap.size (fun k_ => some k_ ≠ (v110 : Value).ownBlock) u3 x3_1) ∧ Aside0 (Kd.R Kd.bool 4 w' w.heap.size (fun _ => True) v110 x5_2) ∧ Aside0 (Kd.R (Kd.int .i64) 3 w' w.heap.size (fun _ => True) (.slice Ao13 t112.length co13) t112) ∧ Aside0 (w'.heap[gb108]? = some (.cells #[(.slice A0_0 l0_0.length c0_0)] 24 (0, 0))) ∧ Aside0 (Below w.heap.size w w'))
      case atStart => exact ⟨(y109), (0), (by first | rfl | (simp; done) | (simp [*]; done)), H', ⟨Nat.le_refl _⟩, ⟨by (with_reducible repeat (first | apply Kd.S_alloc | apply Kd.S_drewN | apply Kd.S_drew)); exact Kd.S_mono HO_3.out (fun _ hk => hk.2)⟩, ⟨by (with_reducible repeat (first | apply Kd.R_alloc | apply Kd.R_drewN | apply Kd.R_drew)); exact HO111.out⟩, ⟨by (with_reducible repeat (first | apply Kd.R_alloc | apply Kd.R_drewN | apply Kd.R_drew)); exact HO114.out⟩, ⟨by (with_reducible repeat (first | refine blk_drewN ?_ _ | refine blk_drew ?_ | refine blk_alloc ?_ _)); exact BK108.out⟩, ⟨by repeat (first | (with_reducible first | exact HB.out | apply below_alloc | apply pw_below_drewN | apply below_drew1 | refine below_set ?_ GE108.out) | exact HB.out)⟩⟩
      case round =>
       clear H'
       try clear c1
       try clear p2
       try clear c4
       try clear c4b0
       try clear c5
       try clear c5b0
       try clear c5b1
       try clear c6
       try clear c6b0
       try clear c6b1
       try clear c11
       try clear hcz11_0
       try clear hcz3_0
       try clear hcz8_0
       try clear hfz11_0
       try clear hfz3_0
       try clear hfz8_0
       try clear p2
       obtain ⟨x5_2, x25_2, rfl, HA, HK2, HO_3, HO_5, HO_23, BK108, HB⟩ := hrel
       cases gk with
       | zero => exact absurd HA.out (by simp [calls_table.l1])
       | succ k2 =>
        have H := HA.out
        clear HA
        simp only [calls_table.l1] at H
        by_cases c14 : x25_2 < (t112.length : Int)
        ·rw [if_pos c14] at H
         have c14b0 : decide (x25_2 < (t112.length : Int)) = true := decide_eq_true c14
         clear c14
         by_cases c15 : 0 ≤ x25_2
         ·rw [if_pos c15] at H
          have c15b0 : decide (0 ≤ x25_2) = true := decide_eq_true c15
          clear c15
          by_cases c16 : x25_2 < (t112.length : Int)
          ·rw [if_pos c16] at H
           have c16b0 : decide (x25_2 < (t112.length : Int)) = true := decide_eq_true c16
           clear c16
           by_cases c17 : 0 ≤ (rd t112 x25_2)
           ·rw [if_pos c17] at H
            have c17b0 : decide (0 ≤ (rd t112 x25_2)) = true := decide_eq_true c17
            clear c17
            by_cases c18 : (rd t112 x25_2) < (x5_2.length : Int)
            ·rw [if_pos c18] at H
             have c18b0 : decide ((rd t112 x25_2) < (x5_2.length : Int)) = true := decide_eq_true c18
             clear c18
             obtain ⟨y116, hy116⟩ : ∃ y_ : List Bool, y_ = (x5_2.set ((rd t112 x25_2) : Int).toNat true) := ⟨_, rfl⟩
             replace H : (calls_table.l1 k2 x3_1 y116 (l0_0.length : Int) x14_1 t112 (t112.length : Int) (wrap64 (x25_2 + 1)) l0_0) = some r := by first | (rw [hy116]; with_reducible exact H) | (have H2_ := (Option.bind_some _ _).symm.trans H; rw [hy116]; with_reducible exact H2_) | (have H2_ := (Option.bind_some _ _).symm.trans H; with_reducible exact H2_) | with_reducible exact H | (rw [hy116]; exact H) | exact H
             have Ny116 := Aside0.mk hy116
             clear hy116
             have H' := Aside0.mk H
             clear H
             have p115 : 0 ≤ (x25_2 : Int) := of_decide_eq_true (by first | (with_reducible assumption) | assumption)
             have q115 : x25_2 < (t112.length : Int) := of_decide_eq_true (by first | (with_reducible assumption) | assumption)
             obtain ⟨ad115, e115, hx115_0⟩ := Kd.at_int (Kd.R_reads' HO_23.out).2.2 x25_2 p115 q115
             cases e115
             replace p115 := eq_true p115
             replace q115 := eq_true q115
             have p19 : 0 ≤ ((rd t112 x25_2) : Int) := of_decide_eq_true (by first | (with_reducible assumption) | assumption)
             have q19 : ((rd t112 x25_2) : Int) < ((x5_2.length : Int) : Int) := of_decide_eq_true (by first | (with_reducible assumption) | assumption)
             obtain ⟨go19, co19, eo19, gb19, gl19, cl19, HG19⟩ := Kd.R_form HO_5.out (by omega)
             (first | cases eo19 | (injection eo19 with ea_ en_ ec_; (first | subst ea_ | (injection ea_ with ea_; subst ea_)); subst ec_; clear en_))
             have GB19 := Aside0.mk gb19
             have GG19 := Aside0.mk HG19
             clear gb19 gl19 HG19
             obtain ⟨hx19_0, hf19_0⟩ := Kd.R_celln false HO_5.out ((rd t112 x25_2) : Int) p19 q19
             replace p19 := eq_true p19
             replace q19 := eq_true q19
             have HP20 := Kd.R_putg HO_5.out ((rd t112 x25_2) : Int) true
             go_wp2_with (first | ((with_reducible refine gate_store (t := 4) (p := 31) rfl ?_); refine store_event (t := 4) (p := 31) (v := ?vo_w21) (w1 := (wr.setCell ⟨go19, ((rd t112 x25_2) : Int).toNat, none⟩ (.bool true))) ?hg ?ho ?hn ?hr ?_; (case ho => rfl); (case hg => rfl); (case hn => rfl); (case hr => first | (go_simp; done) | (go_simp; rfl)); intro w21 hw; have hg : wr.grownBy w21 (some go19) := (by rw [hw]; exact HP20.2); have hp_ : Kd.R Kd.bool 4 w21 w.heap.size (fun _ => True) (.slice (some ⟨go19, 0, none⟩) x5_2.length co19) y116 := (by rw [hw, Ny116.out]; exact HP20.1); clear HP20; have n0_ := Aside0.mk (Kd.S_after (v := (.slice (some ⟨go19, 0, none⟩) x5_2.length co19)) (v1 := (.slice (some ⟨go19, 0, none⟩) x5_2.length co19)) (ok := (fun _ => True)) (by (with_reducible repeat (first | apply Kd.S_alloc | apply Kd.S_drewN | apply Kd.S_drew)); exact Kd.S_mono HO_3.out (fun _ hk => ⟨trivial, hk⟩)) hg (.inl rfl)); have n1_ := Aside0.mk (hp_); have n2_ := Aside0.mk (Kd.R_over' (v := (.slice (some ⟨go19, 0, none⟩) x5_2.length co19)) (by (with_reducible repeat (first | apply Kd.R_alloc | apply Kd.R_drewN | apply Kd.R_drew)); exact HO_23.out) (Kd.R_typed HO_5.out) (by decide) hg); have n3_ := Aside0.mk (blk_grown (g := gb108) (o := .cells #[.slice A0_0 l0_0.length c0_0] 24 (0, 0)) (by (with_reducible repeat (first | refine blk_drewN ?_ _ | refine blk_drew ?_ | refine blk_alloc ?_ _)); exact BK108.out) hg (Kd.R_ne HO_5.out BK108.out (by decide))); have n4_ := Aside0.mk ((by rw [hw]; exact below_set (HB.out) GB19.out : Below w.heap.size w w21)); clear HO_3; clear HO_5; clear HO_23; clear BK108; clear HB; have HO_3 := n0_; have HO_5 := n1_; have HO_23 := n2_; have BK108 := n3_; have HB := n4_; clear n0_ n1_ n2_ n3_ n4_; clear hg hw hp_))
             go_roundg k2
             case measure => have := HK1.out; have := HK2.out; omega
             case rel => exact ⟨(y116), (wrap64 (x25_2 + 1)), (by first | rfl | (simp; done) | (simp [*]; done)), H', ⟨by have := HK1.out; have := HK2.out; omega⟩, ⟨by (with_reducible repeat (first | apply Kd.S_alloc | apply Kd.S_drewN | apply Kd.S_drew)); exact Kd.S_mono HO_3.out (fun _ hk => hk.2)⟩, ⟨by (with_reducible repeat (first | apply Kd.R_alloc | apply Kd.R_drewN | apply Kd.R_drew)); exact HO_5.out⟩, ⟨by (with_reducible repeat (first | apply Kd.R_alloc | apply Kd.R_drewN | apply Kd.R_drew)); exact HO_23.out⟩, ⟨by (with_reducible repeat (first | refine blk_drewN ?_ _ | refine blk_drew ?_ | refine blk_alloc ?_ _)); exact BK108.out⟩, ⟨by repeat (first | (with_reducible first | exact HB.out | apply below_alloc | apply pw_below_drewN | apply below_drew1 | refine below_set ?_ GE108.out) | exact HB.out)⟩⟩
            ·rw [if_neg c18] at H
             exact absurd H (by simp)
           ·rw [if_neg c17] at H
            exact absurd H (by simp)
          ·rw [if_neg c16] at H
           exact absurd H (by simp)
         ·rw [if_neg c15] at H
          exact absurd H (by simp)
        ·rw [if_neg c14] at H
         have c14b0 : decide (x25_2 < (t112.length : Int)) = false := decide_eq_false c14
         clear c14
         by_cases c22 : x3_1.length < 5864062014805
         ·rw [if_pos c22] at H
          have LMc22 := Aside0.mk c22
          clear c22
          obtain ⟨y117, hy117⟩ : ∃ y_ : List (List Bool), y_ = (x3_1 ++ [x5_2]) := ⟨_, rfl⟩
          replace H : (calls_table.l0 k2 y117 (l0_0.length : Int) (wrap64 (x14_1 + 1)) l0_0) = some r := by first | (rw [hy117]; with_reducible exact H) | (have H2_ := (Option.bind_some _ _).symm.trans H; rw [hy117]; with_reducible exact H2_) | (have H2_ := (Option.bind_some _ _).symm.trans H; with_reducible exact H2_) | with_reducible exact H | (rw [hy117]; exact H) | exact H
          have Ny117 := Aside0.mk hy117
          clear hy117
          have H' := Aside0.mk H
          clear H
          obtain ⟨Ao24, co24, eo24⟩ := Kd.R_slice HO_5.out
          subst eo24
          go_wp2_with (first | ((with_reducible refine gate_builtin (b := .append) (xs := #[.tmp 33, .tmp 35]) rfl ?_); at_builtin; refine Kd.S_append (Kd.slice 4 Kd.bool) (w0 := w) w.heap.size rfl (.tmp 33) (.tmp 35) 52 49 (.slice none 0 0) 24 rfl Try.underlying52 info49 rfl (by decide) (by omega) u3 x3_1 x5_2 [.slice Ao24 x5_2.length co24] (fun _ => True) (fun k_ => some k_ = (.slice Ao24 x5_2.length co24 : Value).ownBlock) rfl rfl ?aP (fun k_ hk_ => ((Kd.R_mono (ok' := fun k_ => ((fun _ => True)) k_ ∧ some k_ ≠ (u3 : Value).ownBlock) (Kd.R_apart' (HO_5.out) (Kd.S_typed HO_3.out) (by decide)) (fun k_ hk => ⟨trivial, hk.2⟩))).1 k_ hk_.symm) ?aF ?aO ?aB ?aS ?aL ?_; (case aP => exact Kd.M_row (Kd.R_mono (Kd.R_tight rfl (Kd.R_mono (ok' := fun k_ => ((fun _ => True)) k_ ∧ some k_ ≠ (u3 : Value).ownBlock) (Kd.R_apart' (HO_5.out) (Kd.S_typed HO_3.out) (by decide)) (fun k_ hk => ⟨trivial, hk.2⟩))) (fun _ h_ => h_))); (case aB => exact (by repeat (first | (with_reducible first | exact HB.out | apply below_alloc | apply pw_below_drewN | apply below_drew1 | refine below_set ?_ GE108.out) | exact HB.out))); (case aF => exact (fun _ _ => trivial)); (case aO => exact (by (with_reducible repeat (first | apply Kd.S_alloc | apply Kd.S_drewN | apply Kd.S_drew)); exact Kd.S_mono HO_3.out (fun k_ hk => ⟨trivial, fun e_ => hk e_⟩))); (case aS => exact (below_size (by repeat (first | (with_reducible first | exact HB.out | apply below_alloc | apply pw_below_drewN | apply below_drew1 | refine below_set ?_ GE108.out) | exact HB.out)))); (case aL => have := LMc22.out; omega); intro v118 w23 ho hb hg hat; rw [← Ny117.out] at ho; have n0_ := Aside0.mk (Kd.R_over' (by (with_reducible repeat (first | apply Kd.R_alloc | apply Kd.R_drewN | apply Kd.R_drew)); exact HO_23.out) (Kd.S_typed (by (with_reducible repeat (first | apply Kd.S_alloc | apply Kd.S_drewN | apply Kd.S_drew)); exact HO_3.out)) (by decide) hg); have n1_ := Aside0.mk (blk_grown (g := gb108) (o := .cells #[.slice A0_0 l0_0.length c0_0] 24 (0, 0)) (by (with_reducible repeat (first | refine blk_drewN ?_ _ | refine blk_drew ?_ | refine blk_alloc ?_ _)); exact BK108.out) hg (Kd.S_ne HO_3.out BK108.out (by decide))); have n2_ := Aside0.mk (hb); have n3_ := Aside0.mk (ho); clear HO_23; clear BK108; clear HB; clear HO_3; clear HO_5; have HO_23 := n0_; have BK108 := n1_; have HB := n2_; have HO119 := n3_; clear n0_ n1_ n2_ n3_; clear ho hb hg hat))
          go_roundg k2
          case measure => have := HK1.out; have := HK2.out; omega
          case rel => exact ⟨(y117), (wrap64 (x14_1 + 1)), (by first | rfl | (simp; done) | (simp [*]; done)), H', ⟨by have := HK1.out; have := HK2.out; omega⟩, ⟨by (with_reducible repeat (first | apply Kd.S_alloc | apply Kd.S_drewN | apply Kd.S_drew)); exact HO119.out⟩, ⟨by (with_reducible repeat (first | refine blk_drewN ?_ _ | refine blk_drew ?_ | refine blk_alloc ?_ _)); exact BK108.out⟩, ⟨by repeat (first | (with_reducible first | exact HB.out | apply below_alloc | apply pw_below_drewN | apply below_drew1 | refine below_set ?_ GE108.out) | exact HB.out)⟩⟩
         ·rw [if_neg c22] at H
          exact absurd H (by simp)
     ·rw [if_neg c6] at H
      exact absurd H (by simp)
    ·rw [if_neg c5] at H
     exact absurd H (by simp)
   ·rw [if_neg c4] at H
    have c4b0 : decide (x14_1 < (l0_0.length : Int)) = false := decide_eq_false c4
    clear c4
    have H' := Aside0.mk H
    clear H
    obtain ⟨Ao25, co25, eo25⟩ := Kd.S_slice HO_3.out
    subst eo25
    go_wp2
    go_loopg [40] k1 (fun kq v40 w' => ∃ (x3_2 : List (List Bool)) (x40_2 : Int), v40 = .int .i64 x40_2 ∧ Aside0 (calls_table.l2 kq x3_2 (x3_1.length : Int) x40_2 = some r) ∧ Aside0 (kq ≤ k1) ∧ Aside0 (Kd.S (Kd.slice 4 Kd.bool) 49 w' w.heap.size (fun _ => True) (.slice Ao25 x3_1.length co25) x3_2) ∧ Aside0 (w'.heap[gb108]? = some (.cells #[(.slice A0_0 l0_0.length c0_0)] 24 (0, 0))) ∧ Aside0 (Below w.heap.size w w'))
    case atStart => exact ⟨(x3_1), (0), (by first | rfl | (simp; done) | (simp [*]; done)), H', ⟨Nat.le_refl _⟩, ⟨by (with_reducible repeat (first | apply Kd.S_alloc | apply Kd.S_drewN | apply Kd.S_drew)); exact HO_3.out⟩, ⟨by (with_reducible repeat (first | refine blk_drewN ?_ _ | refine blk_drew ?_ | refine blk_alloc ?_ _)); exact BK108.out⟩, ⟨by repeat (first | (with_reducible first | exact HB.out | apply below_alloc | apply pw_below_drewN | apply below_drew1 | refine below_set ?_ GE108.out) | exact HB.out)⟩⟩
    case round =>
     clear H'
     try clear c1
     try clear p1
     try clear q1
     try clear hx1
     try clear hf1
     try clear c2
     try clear p2
     try clear c4
     try clear c4b0
     try clear c5
     try clear c5b0
     try clear c5b1
     try clear c6
     try clear c6b0
     try clear c6b1
     try clear p6
     try clear c11
     try clear p11
     try clear q11
     try clear hx11
     try clear c14
     try clear c14b0
     try clear c15
     try clear c15b0
     try clear c16
     try clear c16b0
     try clear c17
     try clear c17b0
     try clear c18
     try clear c18b0
     try clear p19
     try clear q19
     try clear hx19
     try clear hf19
     try clear c22
     try clear hcz11_0
     try clear hcz3_0
     try clear hcz8_0
     try clear hfz11_0
     try clear hfz3_0
     try clear hfz8_0
     try clear hx115_0
     try clear hx19_0
     try clear p115
     try clear p19
     try clear p2
     try clear q115
     try clear q19
     obtain ⟨x3_2, x40_2, rfl, HA, HK2, HO_3, BK108, HB⟩ := hrel
     have hl3_2 := (Kd.S_reads' HO_3.out).1
     rw [hl3_2] at HO_3
     (try simp only [hl3_2])
     (try simp only [hl3_2] at BK108)
     cases gk with
     | zero => exact absurd HA.out (by simp [calls_table.l2])
     | succ k2 =>
      have H := HA.out
      clear HA
      simp only [calls_table.l2] at H
      by_cases c26 : x40_2 < (x3_1.length : Int)
      ·rw [if_pos c26] at H
       have c26b0 : decide (x40_2 < (x3_1.length : Int)) = true := decide_eq_true c26
       have c26b0z := c26b0
       (try simp only [hl3_2] at c26b0z)
       clear c26
       have H' := Aside0.mk H
       clear H
       go_wp2
       go_loopg [45] k2 (fun kq v45 w' => ∃ (x3_3 : List (List Bool)) (x45_3 : Int), v45 = .int .i64 x45_3 ∧ Aside0 (calls_table.l3 kq x3_3 x40_2 (x3_1.length : Int) x40_2 (x3_2.length : Int) x45_3 = some r) ∧ Aside0 (kq ≤ k2) ∧ Aside0 (Kd.S (Kd.slice 4 Kd.bool) 49 w' w.heap.size (fun _ => True) (.slice Ao25 x3_2.length co25) x3_3) ∧ Aside0 (w'.heap[gb108]? = some (.cells #[(.slice A0_0 l0_0.length c0_0)] 24 (0, 0))) ∧ Aside0 (Below w.heap.size w w'))
       case atStart => exact ⟨(x3_2), (0), (by first | rfl | (simp; done) | (simp [*]; done)), H', ⟨Nat.le_refl _⟩, ⟨by (try simp only [hl3_2]); (with_reducible repeat (first | apply Kd.S_alloc | apply Kd.S_drewN | apply Kd.S_drew)); exact HO_3.out⟩, ⟨by (try simp only [hl3_2]); (with_reducible repeat (first | refine blk_drewN ?_ _ | refine blk_drew ?_ | refine blk_alloc ?_ _)); exact BK108.out⟩, ⟨by repeat (first | (with_reducible first | exact HB.out | apply below_alloc | apply pw_below_drewN | apply below_drew1 | refine below_set ?_ GE108.out) | exact HB.out)⟩⟩
       case round =>
        clear H'
        try clear c1
        try clear p1
        try clear q1
        try clear hx1
        try clear hf1
        try clear c2
        try clear p2
        try clear c4
        try clear c4b0
        try clear c5
        try clear c5b0
        try clear c5b1
        try clear c6
        try clear c6b0
        try clear c6b1
        try clear p6
        try clear c11
        try clear p11
        try clear q11
        try clear hx11
        try clear c14
        try clear c14b0
        try clear c15
        try clear c15b0
        try clear c16
        try clear c16b0
        try clear c17
        try clear c17b0
        try clear c18
        try clear c18b0
        try clear p19
        try clear q19
        try clear hx19
        try clear hf19
        try clear c22
        try clear c26
        try clear c26b0
        try clear hcz11_0
        try clear hcz3_0
        try clear hcz8_0
        try clear hfz11_0
        try clear hfz3_0
        try clear hfz8_0
        try clear hx115_0
        try clear hx19_0
        try clear p1
        try clear p11
        try clear p115
        try clear p19
        try clear p2
        try clear p6
        try clear q1
        try clear q11
        try clear q115
        try clear q19
        obtain ⟨x3_3, x45_3, rfl, HA, HK3, HO_3, BK108, HB⟩ := hrel
        have hl3_3 := (Kd.S_reads' HO_3.out).1
        rw [hl3_3] at HO_3
        (try simp only [hl3_3])
        (try simp only [hl3_3] at BK108)
        cases gk with
        | zero => exact absurd HA.out (by simp [calls_table.l3])
        | succ k3 =>
         have H := HA.out
         clear HA
         simp only [calls_table.l3] at H
         by_cases c27 : x45_3 < (x3_2.length : Int)
         ·rw [if_pos c27] at H
          have c27b0 : decide (x45_3 < (x3_2.length : Int)) = true := decide_eq_true c27
          have c27b0z := c27b0
          (try simp only [hl3_2, hl3_3] at c27b0z)
          clear c27
          have H' := Aside0.mk H
          clear H
          go_wp2
          go_loopg [50] k3 (fun kq v50 w' => ∃ (x3_4 : List (List Bool)) (x50_4 : Int), v50 = .int .i64 x50_4 ∧ Aside0 (calls_table.l4 kq x3_4 x40_2 x45_3 (x3_1.length : Int) x40_2 (x3_2.length : Int) x45_3 (x3_3.length : Int) x50_4 = some r) ∧ Aside0 (kq ≤ k3) ∧ Aside0 (Kd.S (Kd.slice 4 Kd.bool) 49 w' w.heap.size (fun _ => True) (.slice Ao25 x3_3.length co25) x3_4) ∧ Aside0 (w'.heap[gb108]? = some (.cells #[(.slice A0_0 l0_0.length c0_0)] 24 (0, 0))) ∧ Aside0 (Below w.heap.size w w'))
          case atStart => exact ⟨(x3_3), (0), (by first | rfl | (simp; done) | (simp [*]; done)), H', ⟨Nat.le_refl _⟩, ⟨by (try simp only [hl3_2]); (try simp only [hl3_3]); (with_reducible repeat (first | apply Kd.S_alloc | apply Kd.S_drewN | apply Kd.S_drew)); exact HO_3.out⟩, ⟨by (try simp only [hl3_2]); (try simp only [hl3_3]); (with_reducible repeat (first | refine blk_drewN ?_ _ | refine blk_drew ?_ | refine blk_alloc ?_ _)); exact BK108.out⟩, ⟨by repeat (first | (with_reducible first | exact HB.out | apply below_alloc | apply pw_below_drewN | apply below_drew1 | refine below_set ?_ GE108.out) | exact HB.out)⟩⟩
          case round =>
           clear H'
           try clear c1
           try clear p1
           try clear q1
           try clear hx1
           try clear hf1
           try clear c2
           try clear p2
           try clear c4
           try clear c4b0
           try clear c5
           try clear c5b0
           try clear c5b1
           try clear c6
           try clear c6b0
           try clear c6b1
           try clear p6
           try clear c11
           try clear p11
           try clear q11
           try clear hx11
           try clear c14
           try clear c14b0
           try clear c15
           try clear c15b0
           try clear c16
           try clear c16b0
           try clear c17
           try clear c17b0
           try clear c18
           try clear c18b0
           try clear p19
           try clear q19
           try clear hx19
           try clear hf19
           try clear c22
           try clear c26
           try clear c26b0
           try clear c27
           try clear c27b0
           try clear hcz11_0
           try clear hcz3_0
           try clear hcz8_0
           try clear hfz11_0
           try clear hfz3_0
           try clear hfz8_0
           try clear hx115_0
           try clear hx19_0
           try clear p1
           try clear p11
           try clear p115
           try clear p19
           try clear p2
           try clear p6
           try clear q1
           try clear q11
           try clear q115
           try clear q19
           obtain ⟨x3_4, x50_4, rfl, HA, HK4, HO_3, BK108, HB⟩ := hrel
           have hl3_4 := (Kd.S_reads' HO_3.out).1
           rw [hl3_4] at HO_3
           (try simp only [hl3_4])
           (try simp only [hl3_4] at BK108)
           cases gk with
           | zero => exact absurd HA.out (by simp [calls_table.l4])
           | succ k4 =>
            have H := HA.out
            clear HA
            simp only [calls_table.l4] at H
            by_cases c28 : x50_4 < (x3_3.length : Int)
            ·rw [if_pos c28] at H
             have c28b0 : decide (x50_4 < (x3_3.length : Int)) = true := decide_eq_true c28
             have c28b0z := c28b0
             (try simp only [hl3_2, hl3_3, hl3_4] at c28b0z)
             clear c28
             by_cases c29 : 0 ≤ x45_3
             ·rw [if_pos c29] at H
              have c29b0 : decide (0 ≤ x45_3) = true := decide_eq_true c29
              clear c29
              by_cases c30 : x45_3 < (x3_4.length : Int)
              ·rw [if_pos c30] at H
               have c30b0 : decide (x45_3 < (x3_4.length : Int)) = true := decide_eq_true c30
               have c30b0z := c30b0
               (try simp only [hl3_2, hl3_3, hl3_4] at c30b0z)
               clear c30
               by_cases c31 : 0 ≤ x50_4
               ·rw [if_pos c31] at H
                have c31b0 : decide (0 ≤ x50_4) = true := decide_eq_true c31
                clear c31
                by_cases c32 : x50_4 < ((rd_L15 x3_4 x45_3).length : Int)
                ·rw [if_pos c32] at H
                 have c32b0 : decide (x50_4 < ((rd_L15 x3_4 x45_3).length : Int)) = true := decide_eq_true c32
                 have c32b0z := c32b0
                 (try simp only [hl3_2, hl3_3, hl3_4] at c32b0z)
                 clear c32
                 obtain ⟨bq33, hbq33⟩ : ∃ b_ : Bool, b_ = (rdOf false (rd_L15 x3_4 x45_3) x50_4) := ⟨_, rfl⟩
                 replace H : (if bq33 = true then (calls_table.l4 k4 (x3_4.set (x45_3 : Int).toNat ((rd_L15 x3_4 x45_3).set (x50_4 : Int).toNat true)) x40_2 x45_3 (x3_1.length : Int) x40_2 (x3_2.length : Int) x45_3 (x3_3.length : Int) (wrap64 (x50_4 + 1))) else (if 0 ≤ x40_2 then (if x40_2 < ((rd_L15 x3_4 x45_3).length : Int) then (if rdOf false (rd_L15 x3_4 x45_3) x40_2 = true then (if x40_2 < (x3_4.length : Int) then (if x50_4 < ((rd_L15 x3_4 x40_2).length : Int) then (calls_table.l4 k4 (x3_4.set (x45_3 : Int).toNat ((rd_L15 x3_4 x45_3).set (x50_4 : Int).toNat (rdOf false (rd_L15 x3_4 x40_2) x50_4))) x40_2 x45_3 (x3_1.length : Int) x40_2 (x3_2.length : Int) x45_3 (x3_3.length : Int) (wrap64 (x50_4 + 1))) else (none)) else (none)) else (calls_table.l4 k4 (x3_4.set (x45_3 : Int).toNat ((rd_L15 x3_4 x45_3).set (x50_4 : Int).toNat false)) x40_2 x45_3 (x3_1.length : Int) x40_2 (x3_2.length : Int) x45_3 (x3_3.length : Int) (wrap64 (x50_4 + 1)))) else (none)) else (none))) = some r := by rw [← hbq33] at H; exact H
                 have Nbq33 := Aside0.mk hbq33
                 clear hbq33
                 by_cases c34 : bq33 = true
                 ·subst c34
                  have H1 : (calls_table.l4 k4 (x3_4.set (x45_3 : Int).toNat ((rd_L15 x3_4 x45_3).set (x50_4 : Int).toNat true)) x40_2 x45_3 (x3_1.length : Int) x40_2 (x3_2.length : Int) x45_3 (x3_3.length : Int) (wrap64 (x50_4 + 1))) = some r := by rw [if_pos rfl] at H; exact H
                  clear H
                  have H := H1
                  clear H1
                  obtain ⟨y123, hy123⟩ : ∃ y_ : List Bool, y_ = ((rd_L15 x3_4 x45_3).set (x50_4 : Int).toNat true) := ⟨_, rfl⟩
                  replace H : (calls_table.l4 k4 (x3_4.set (x45_3 : Int).toNat y123) x40_2 x45_3 (x3_1.length : Int) x40_2 (x3_2.length : Int) x45_3 (x3_3.length : Int) (wrap64 (x50_4 + 1))) = some r := by first | (rw [hy123]; with_reducible exact H) | (have H2_ := (Option.bind_some _ _).symm.trans H; rw [hy123]; with_reducible exact H2_) | (have H2_ := (Option.bind_some _ _).symm.trans H; with_reducible exact H2_) | with_reducible exact H | (rw [hy123]; exact H) | exact H
                  have Ny123 := Aside0.mk hy123
                  clear hy123
                  obtain ⟨y125, hy125⟩ : ∃ y_ : List (List Bool), y_ = (x3_4.set (x45_3 : Int).toNat y123) := ⟨_, rfl⟩
                  replace H : (calls_table.l4 k4 y125 x40_2 x45_3 (x3_1.length : Int) x40_2 (x3_2.length : Int) x45_3 (x3_3.length : Int) (wrap64 (x50_4 + 1))) = some r := by first | (rw [hy125]; with_reducible exact H) | (have H2_ := (Option.bind_some _ _).symm.trans H; rw [hy125]; with_reducible exact H2_) | (have H2_ := (Option.bind_some _ _).symm.trans H; with_reducible exact H2_) | with_reducible exact H | (rw [hy125]; exact H) | exact H
                  have Ny125 := Aside0.mk hy125
                  clear hy125
                  have H' := Aside0.mk H
                  clear H
                  try go_wp2
                  have n0_ := Aside0.mk (Kd.S_drew HO_3.out)
                  have n1_ := Aside0.mk (blk_drew BK108.out)
                  have n2_ := Aside0.mk (below_drew1 HB.out)
                  clear HO_3
                  clear BK108
                  clear HB
                  have HO_3 := n0_
                  have BK108 := n1_
                  have HB := n2_
                  clear n0_ n1_ n2_
                  have p120 : 0 ≤ (x45_3 : Int) := of_decide_eq_true (by first | (with_reducible assumption) | assumption)
                  have q120 : x45_3 < (x3_4.length : Int) := of_decide_eq_true (by first | (with_reducible assumption) | assumption)
                  obtain ⟨ad120, A120_0, c120_0, e120, hx120_0, hl120_0, hi120_0⟩ := at_L15 (Kd.S_reads' HO_3.out).2.2 x45_3 p120 q120
                  cases e120
                  obtain ⟨ce120, hce120, hMe120, hcc120⟩ := Kd.S_get HO_3.out [] x45_3 p120 (by first | exact q120 | exact of_decide_eq_true (by first | (with_reducible assumption) | assumption) | (have e_ := (Kd.S_reads' HO_3.out).1; omega))
                  obtain ⟨ve120_0, rfl, ge120_0⟩ := hMe120
                  have hv120_0 := hcc120 0 _ rfl
                  rw [Nat.add_zero, show ((Kd.slice 4 Kd.bool)).sz = 1 from rfl, Nat.mul_one] at hv120_0
                  replace hv120_0 := Option.some.inj (hv120_0.symm.trans hx120_0)
                  rw [hv120_0] at ge120_0
                  have HL120_0 := Aside0.mk (show Kd.R Kd.bool 4 _ _ _ _ (rd_L15 x3_4 x45_3) from ge120_0)
                  clear hv120_0 ge120_0
                  have HX120_0 := Aside0.mk hx120_0
                  clear hcc120 hce120
                  have HR120_0 := Aside0.mk hi120_0
                  have HC120_0 := Aside0.mk hl120_0
                  clear hi120_0 hl120_0
                  replace p120 := eq_true p120
                  replace q120 := eq_true q120
                  have p121 : 0 ≤ (x45_3 : Int) := of_decide_eq_true (by first | (with_reducible assumption) | assumption)
                  have q121 : x45_3 < (x3_4.length : Int) := of_decide_eq_true (by first | (with_reducible assumption) | assumption)
                  obtain ⟨ad121, A121_0, c121_0, e121, hx121_0, hl121_0, hi121_0⟩ := at_L15 (Kd.S_reads' HO_3.out).2.2 x45_3 p121 q121
                  obtain rfl : ad120 = ad121 := (by injection e121)
                  obtain ⟨ce121, hce121, hMe121, hcc121⟩ := Kd.S_get HO_3.out [] x45_3 p121 (by first | exact q121 | exact of_decide_eq_true (by first | (with_reducible assumption) | assumption) | (have e_ := (Kd.S_reads' HO_3.out).1; omega))
                  obtain ⟨ve121_0, rfl, ge121_0⟩ := hMe121
                  have hv121_0 := hcc121 0 _ rfl
                  rw [Nat.add_zero, show ((Kd.slice 4 Kd.bool)).sz = 1 from rfl, Nat.mul_one] at hv121_0
                  replace hv121_0 := Option.some.inj (hv121_0.symm.trans hx121_0)
                  rw [hv121_0] at ge121_0
                  have HL121_0 := Aside0.mk (show Kd.R Kd.bool 4 _ _ _ _ (rd_L15 x3_4 x45_3) from ge121_0)
                  clear hv121_0 ge121_0
                  have HX121_0 := Aside0.mk hx121_0
                  clear hcc121 hce121
                  have HR121_0 := Aside0.mk hi121_0
                  have HC121_0 := Aside0.mk hl121_0
                  clear hi121_0 hl121_0
                  replace p121 := eq_true p121
                  replace q121 := eq_true q121
                  have ea_ := Option.some.inj (hx120_0.symm.trans hx121_0)
                  injection ea_ with ea_ en_ ec_
                  subst ea_
                  subst ec_
                  clear en_
                  have p122 : 0 ≤ (x50_4 : Int) := of_decide_eq_true (by first | (with_reducible assumption) | assumption)
                  have q122 : x50_4 < ((rd_L15 x3_4 x45_3).length : Int) := of_decide_eq_true (by first | (with_reducible assumption) | assumption)
                  obtain ⟨ad122, e122, hx122_0⟩ := Kd.at_bool (by repeat (first | (with_reducible exact HR121_0.out) | (with_reducible refine Kd.C_alloc ?_ _) | (with_reducible refine Kd.C_drewN ?_ _) | (with_reducible refine Kd.C_drew ?_) | exact HR121_0.out)) x50_4 p122 q122
                  (try rw [← Nbq33.out] at hx122_0)
                  cases e122
                  replace p122 := eq_true p122
                  replace q122 := eq_true q122
                  have p35 : 0 ≤ (x50_4 : Int) := of_decide_eq_true (by first | (with_reducible assumption) | assumption)
                  have q35 : (x50_4 : Int) < (((rd_L15 x3_4 x45_3).length : Int) : Int) := of_decide_eq_true (by first | (with_reducible assumption) | assumption)
                  obtain ⟨go35, co35, eo35, gb35, gl35, cl35, HG35⟩ := Kd.R_form HL120_0.out (by omega)
                  (first | cases eo35 | (injection eo35 with ea_ en_ ec_; (first | subst ea_ | (injection ea_ with ea_; subst ea_)); subst ec_; clear en_))
                  have GB35 := Aside0.mk gb35
                  have GG35 := Aside0.mk HG35
                  clear gb35 gl35 HG35
                  (first | simp only [add_plain] at hx122_0 | skip)
                  obtain ⟨hx35_0, hf35_0⟩ := Kd.R_celln false HL120_0.out (x50_4 : Int) p35 q35
                  replace p35 := eq_true p35
                  replace q35 := eq_true q35
                  have hq37 : (x45_3 : Int) < (x3_4.length : Int) := (by have h_ : (x45_3 : Int) < ((x3_4.length : Int) : Int) := of_decide_eq_true (by first | (with_reducible assumption) | assumption); first | exact h_ | (have e_ := (Kd.S_reads' HO_3.out).1; omega) | simpa only [List.length_set, List.length_set] using h_)
                  obtain ⟨oki37, ce37, hcl37, hM37, hcc37, hok37, hbk37⟩ := Kd.S_borrow HO_3.out [] (x45_3 : Int) (of_decide_eq_true (by first | (with_reducible assumption) | assumption)) hq37
                  obtain ⟨ve37_0, rfl, ge37_0⟩ := hM37
                  have hv37 := hcc37 0 _ rfl
                  rw [Nat.add_zero, show ((Kd.slice 4 Kd.bool)).sz = 1 from rfl, Nat.mul_one] at hv37
                  replace hv37 := Option.some.inj (hv37.symm.trans HX120_0.out)
                  subst hv37
                  clear hcc37 hcl37
                  replace ge37_0 := (show Kd.R Kd.bool 4 _ _ _ _ (rd_L15 x3_4 x45_3) from ge37_0)
                  have HP37 := Kd.R_putg ge37_0 (x50_4 : Int) true
                  rw [← Ny123.out] at HP37
                  have HS37 := hbk37 HP37.2 (fun k_ e_ => by injection e_ with e_; subst e_; exact ge37_0.1 _ rfl) (x' := y123) (Kd.M_row HP37.1)
                  rw [← Ny125.out] at HS37
                  have HQ37 := Aside0.mk HS37
                  clear HP37 HS37 hbk37 hok37
                  refine start_ (n := 32) (S := fun w' => w'.cell? (ad120.add (x45_3).toNat) = some (.slice (some ⟨go35, 0, none⟩) (rd_L15 x3_4 x45_3).length c120_0) ∧ w'.cell? (ad120.add (x45_3).toNat) = some (.slice (some ⟨go35, 0, none⟩) (rd_L15 x3_4 x45_3).length c120_0) ∧ w'.cell? ⟨go35, (x50_4).toNat, none⟩ = some (.bool true)) (ds := [31]) #[false, false, false, false, false, false, false, false, false, false, false, false, false, false, false, false, false, false, false, false, false, false, false, false, false, false, false, false, false, false, false, false] (by kernel_rfl) rfl rfl ⟨hx120_0, hx121_0, hx122_0⟩ (fun hHeld => ?_); refine with_tabW calls_table.tab22 calls_table.bits22 (fun HT_ HW_ => ?_)
                  generalize wr.drew = w36 at HO_3 BK108 HB GG35 HL120_0 HL121_0 HQ37 HR120_0 HR121_0 HX120_0 HX121_0 hf35_0 hx120_0 hx121_0 hx122_0 hx35_0 hHeld ⊢
                  refine pure_ (i := 0) (N := some 53) (v := ?_) (a' := ?_) #[true, false, false, false, false, false, false, false, false, false, false, false, false, false, false, false, false, false, false, false, false, false, false, false, false, false, false, false, false, false, false, false] rfl rfl (any_of HT_.out (by kernel_rfl)) (fun _ _ _ h => h) (Or.inl ⟨by rfl, ?_⟩) ?_ ?_
                  rotate_left
                  ·intro w'
                   go_simp
                   with_reducible rfl
                  rotate_left
                  ·simp only [Act.put, List.setIfInBounds_toArray, List.set_cons_zero, List.set_cons_succ, i64_w, i32_w]
                   rfl
                  refine pure_ (i := 1) (N := some 54) (v := ?_) (a' := ?_) #[true, true, false, false, false, false, false, false, false, false, false, false, false, false, false, false, false, false, false, false, false, false, false, false, false, false, false, false, false, false, false, false] rfl rfl (any_of HT_.out (by kernel_rfl)) (fun _ _ _ h => h) (Or.inl ⟨by rfl, ?_⟩) ?_ ?_
                  rotate_left
                  ·intro w'
                   go_simp
                   with_reducible rfl
                  rotate_left
                  ·simp only [Act.put, List.setIfInBounds_toArray, List.set_cons_zero, List.set_cons_succ, i64_w, i32_w]
                   rfl
                  refine pure_ (i := 2) (N := some 55) (v := ?_) (a' := ?_) #[true, true, true, false, false, false, false, false, false, false, false, false, false, false, false, false, false, false, false, false, false, false, false, false, false, false, false, false, false, false, false, false] rfl rfl (any_of HT_.out (by kernel_rfl)) (fun _ _ _ h => h) (Or.inl ⟨by rfl, ?_⟩) ?_ ?_
                  rotate_left
                  ·intro w'
                   go_simp
                   with_reducible rfl
                  rotate_left
                  ·simp only [Act.put, List.setIfInBounds_toArray, List.set_cons_zero, List.set_cons_succ, i64_w, i32_w]
                   rfl
                  refine pure_ (i := 4) (N := some 57) (v := ?_) (a' := ?_) #[true, true, true, false, true, false, false, false, false, false, false, false, false, false, false, false, false, false, false, false, false, false, false, false, false, false, false, false, false, false, false, false] rfl rfl (any_of HT_.out (by kernel_rfl)) (fun _ _ _ h => h) (Or.inl ⟨by rfl, ?_⟩) ?_ ?_
                  rotate_left
                  ·intro w'
                   go_simp
                   with_reducible rfl
                  rotate_left
                  ·simp only [Act.put, List.setIfInBounds_toArray, List.set_cons_zero, List.set_cons_succ, i64_w, i32_w]
                   rfl
                  refine pure_ (i := 5) (N := some 58) (v := ?_) (a' := ?_) #[true, true, true, false, true, true, false, false, false, false, false, false, false, false, false, false, false, false, false, false, false, false, false, false, false, false, false, false, false, false, false, false] rfl rfl (any_of HT_.out (by kernel_rfl)) (fun _ _ _ h => h) (Or.inl ⟨by rfl, ?_⟩) ?_ ?_
                  rotate_left
                  ·intro w'
                   go_simp
                   with_reducible rfl
                  rotate_left
                  ·simp only [Act.put, List.setIfInBounds_toArray, List.set_cons_zero, List.set_cons_succ, i64_w, i32_w]
                   rfl
                  refine pure_ (i := 6) (N := some 59) (v := ?_) (a' := ?_) #[true, true, true, false, true, true, true, false, false, false, false, false, false, false, false, false, false, false, false, false, false, false, false, false, false, false, false, false, false, false, false, false] rfl rfl (any_of HT_.out (by kernel_rfl)) (fun _ _ _ h => h) (Or.inl ⟨by rfl, ?_⟩) ?_ ?_
                  rotate_left
                  ·intro w'
                   go_simp
                   with_reducible rfl
                  rotate_left
                  ·simp only [Act.put, List.setIfInBounds_toArray, List.set_cons_zero, List.set_cons_succ, i64_w, i32_w]
                   rfl
                  refine pure_ (i := 7) (N := some 60) (v := ?_) (a' := ?_) #[true, true, true, false, true, true, true, true, false, false, false, false, false, false, false, false, false, false, false, false, false, false, false, false, false, false, false, false, false, false, false, false] rfl rfl (any_of HT_.out (by kernel_rfl)) (fun _ _ _ h => h) (Or.inl ⟨by rfl, ?_⟩) ?_ ?_
                  rotate_left
                  ·intro w'
                   go_simp
                   with_reducible rfl
                  rotate_left
                  ·simp only [Act.put, List.setIfInBounds_toArray, List.set_cons_zero, List.set_cons_succ, i64_w, i32_w]
                   rfl
                  refine pure_ (i := 9) (N := some 62) (v := ?_) (a' := ?_) #[true, true, true, false, true, true, true, true, false, true, false, false, false, false, false, false, false, false, false, false, false, false, false, false, false, false, false, false, false, false, false, false] rfl rfl (any_of HT_.out (by kernel_rfl)) (fun _ _ _ h => h) (Or.inl ⟨by rfl, ?_⟩) ?_ ?_
                  rotate_left
                  ·intro w'
                   go_simp
                   with_reducible rfl
                  rotate_left
                  ·simp only [Act.put, List.setIfInBounds_toArray, List.set_cons_zero, List.set_cons_succ, i64_w, i32_w]
                   rfl
                  refine take_ (i := 3) (N := some 56) (v := ?_) (a' := ?_) #[true, true, true, true, true, true, true, true, false, true, false, false, false, false, false, false, false, false, false, false, false, false, false, false, false, false, false, false, false, false, false, false] rfl rfl (take_ofW HT_.out HW_.out (by kernel_rfl)) (fun _ _ _ h => h) (Or.inl ⟨by rfl, ?_⟩) hHeld ?_ ?_
                  rotate_left
                  ·rintro w' ⟨s0, s1, s2⟩
                   go_simp
                   with_reducible rfl
                  rotate_left
                  ·simp only [Act.put, List.setIfInBounds_toArray, List.set_cons_zero, List.set_cons_succ, i64_w, i32_w]
                   rfl
                  refine take_ (i := 8) (N := some 61) (v := ?_) (a' := ?_) #[true, true, true, true, true, true, true, true, true, true, false, false, false, false, false, false, false, false, false, false, false, false, false, false, false, false, false, false, false, false, false, false] rfl rfl (take_ofW HT_.out HW_.out (by kernel_rfl)) (fun _ _ _ h => h) (Or.inl ⟨by rfl, ?_⟩) hHeld ?_ ?_
                  rotate_left
                  ·rintro w' ⟨s0, s1, s2⟩
                   go_simp
                   with_reducible rfl
                  rotate_left
                  ·simp only [Act.put, List.setIfInBounds_toArray, List.set_cons_zero, List.set_cons_succ, i64_w, i32_w]
                   rfl
                  refine pure_ (i := 10) (N := some 63) (v := ?_) (a' := ?_) #[true, true, true, true, true, true, true, true, true, true, true, false, false, false, false, false, false, false, false, false, false, false, false, false, false, false, false, false, false, false, false, false] rfl rfl (any_of HT_.out (by kernel_rfl)) (fun _ _ _ h => h) (Or.inl ⟨by rfl, ?_⟩) ?_ ?_
                  rotate_left
                  ·intro w'
                   go_simp
                   with_reducible rfl
                  rotate_left
                  ·simp only [Act.put, List.setIfInBounds_toArray, List.set_cons_zero, List.set_cons_succ, i64_w, i32_w]
                   rfl
                  refine take_ (i := 11) (N := some 64) (v := ?_) (a' := ?_) #[true, true, true, true, true, true, true, true, true, true, true, true, false, false, false, false, false, false, false, false, false, false, false, false, false, false, false, false, false, false, false, false] rfl rfl (take_ofW HT_.out HW_.out (by kernel_rfl)) (fun _ _ _ h => h) (Or.inl ⟨by rfl, ?_⟩) hHeld ?_ ?_
                  rotate_left
                  ·rintro w' ⟨s0, s1, s2⟩
                   go_simp
                   with_reducible rfl
                  rotate_left
                  ·simp only [Act.put, List.setIfInBounds_toArray, List.set_cons_zero, List.set_cons_succ, i64_w, i32_w]
                   rfl
                  refine pure_ (i := 12) (N := some 65) (v := ?_) (a' := ?_) #[true, true, true, true, true, true, true, true, true, true, true, true, true, false, false, false, false, false, false, false, false, false, false, false, false, false, false, false, false, false, false, false] rfl rfl (any_of HT_.out (by kernel_rfl)) (fun _ _ _ h => h) (Or.inl ⟨by rfl, ?_⟩) ?_ ?_
                  rotate_left
                  ·intro w'
                   go_simp
                   with_reducible rfl
                  rotate_left
                  ·simp only [Act.put, List.setIfInBounds_toArray, List.set_cons_zero, List.set_cons_succ, i64_w, i32_w]
                   rfl
                  refine pure_ (i := 13) (N := some 66) (v := undef) (a' := ?_) #[true, true, true, true, true, true, true, true, true, true, true, true, true, true, false, false, false, false, false, false, false, false, false, false, false, false, false, false, false, false, false, false] rfl rfl (any_of HT_.out (by kernel_rfl)) (fun _ _ _ h => h) (Or.inr ⟨by rfl, rfl⟩) ?_ ?_
                  rotate_left
                  ·simp only [Act.put, List.setIfInBounds_toArray, List.set_cons_zero, List.set_cons_succ, i64_w, i32_w]
                   rfl
                  refine pure_ (i := 14) (N := some 67) (v := undef) (a' := ?_) #[true, true, true, true, true, true, true, true, true, true, true, true, true, true, true, false, false, false, false, false, false, false, false, false, false, false, false, false, false, false, false, false] rfl rfl (any_of HT_.out (by kernel_rfl)) (fun _ _ _ h => h) (Or.inr ⟨by rfl, rfl⟩) ?_ ?_
                  rotate_left
                  ·simp only [Act.put, List.setIfInBounds_toArray, List.set_cons_zero, List.set_cons_succ, i64_w, i32_w]
                   rfl
                  refine pure_ (i := 15) (N := some 68) (v := undef) (a' := ?_) #[true, true, true, true, true, true, true, true, true, true, true, true, true, true, true, true, false, false, false, false, false, false, false, false, false, false, false, false, false, false, false, false] rfl rfl (any_of HT_.out (by kernel_rfl)) (fun _ _ _ h => h) (Or.inr ⟨by rfl, rfl⟩) ?_ ?_
                  rotate_left
                  ·simp only [Act.put, List.setIfInBounds_toArray, List.set_cons_zero, List.set_cons_succ, i64_w, i32_w]
                   rfl
                  refine pure_ (i := 16) (N := some 69) (v := undef) (a' := ?_) #[true, true, true, true, true, true, true, true, true, true, true, true, true, true, true, true, true, false, false, false, false, false, false, false, false, false, false, false, false, false, false, false] rfl rfl (any_of HT_.out (by kernel_rfl)) (fun _ _ _ h => h) (Or.inr ⟨by rfl, rfl⟩) ?_ ?_
                  rotate_left
                  ·simp only [Act.put, List.setIfInBounds_toArray, List.set_cons_zero, List.set_cons_succ, i64_w, i32_w]
                   rfl
                  refine pure_ (i := 17) (N := some 70) (v := undef) (a' := ?_) #[true, true, true, true, true, true, true, true, true, true, true, true, true, true, true, true, true, true, false, false, false, false, false, false, false, false, false, false, false, false, false, false] rfl rfl (any_of HT_.out (by kernel_rfl)) (fun _ _ _ h => h) (Or.inr ⟨by rfl, rfl⟩) ?_ ?_
                  rotate_left
                  ·simp only [Act.put, List.setIfInBounds_toArray, List.set_cons_zero, List.set_cons_succ, i64_w, i32_w]
                   rfl
                  refine pure_ (i := 18) (N := some 71) (v := undef) (a' := ?_) #[true, true, true, true, true, true, true, true, true, true, true, true, true, true, true, true, true, true, true, false, false, false, false, false, false, false, false, false, false, false, false, false] rfl rfl (any_of HT_.out (by kernel_rfl)) (fun _ _ _ h => h) (Or.inr ⟨by rfl, rfl⟩) ?_ ?_
                  rotate_left
                  ·simp only [Act.put, List.setIfInBounds_toArray, List.set_cons_zero, List.set_cons_succ, i64_w, i32_w]
                   rfl
                  refine pure_ (i := 19) (N := some 72) (v := undef) (a' := ?_) #[true, true, true, true, true, true, true, true, true, true, true, true, true, true, true, true, true, true, true, true, false, false, false, false, false, false, false, false, false, false, false, false] rfl rfl (any_of HT_.out (by kernel_rfl)) (fun _ _ _ h => h) (Or.inr ⟨by rfl, rfl⟩) ?_ ?_
                  rotate_left
                  ·simp only [Act.put, List.setIfInBounds_toArray, List.set_cons_zero, List.set_cons_succ, i64_w, i32_w]
                   rfl
                  refine pure_ (i := 20) (N := some 73) (v := undef) (a' := ?_) #[true, true, true, true, true, true, true, true, true, true, true, true, true, true, true, true, true, true, true, true, true, false, false, false, false, false, false, false, false, false, false, false] rfl rfl (any_of HT_.out (by kernel_rfl)) (fun _ _ _ h => h) (Or.inr ⟨by rfl, rfl⟩) ?_ ?_
                  rotate_left
                  ·simp only [Act.put, List.setIfInBounds_toArray, List.set_cons_zero, List.set_cons_succ, i64_w, i32_w]
                   rfl
                  refine pure_ (i := 21) (N := some 74) (v := undef) (a' := ?_) #[true, true, true, true, true, true, true, true, true, true, true, true, true, true, true, true, true, true, true, true, true, true, false, false, false, false, false, false, false, false, false, false] rfl rfl (any_of HT_.out (by kernel_rfl)) (fun _ _ _ h => h) (Or.inr ⟨by rfl, rfl⟩) ?_ ?_
                  rotate_left
                  ·simp only [Act.put, List.setIfInBounds_toArray, List.set_cons_zero, List.set_cons_succ, i64_w, i32_w]
                   rfl
                  refine pure_ (i := 22) (N := some 75) (v := undef) (a' := ?_) #[true, true, true, true, true, true, true, true, true, true, true, true, true, true, true, true, true, true, true, true, true, true, true, false, false, false, false, false, false, false, false, false] rfl rfl (any_of HT_.out (by kernel_rfl)) (fun _ _ _ h => h) (Or.inr ⟨by rfl, rfl⟩) ?_ ?_
                  rotate_left
                  ·simp only [Act.put, List.setIfInBounds_toArray, List.set_cons_zero, List.set_cons_succ, i64_w, i32_w]
                   rfl
                  refine pure_ (i := 23) (N := some 76) (v := undef) (a' := ?_) #[true, true, true, true, true, true, true, true, true, true, true, true, true, true, true, true, true, true, true, true, true, true, true, true, false, false, false, false, false, false, false, false] rfl rfl (any_of HT_.out (by kernel_rfl)) (fun _ _ _ h => h) (Or.inr ⟨by rfl, rfl⟩) ?_ ?_
                  rotate_left
                  ·simp only [Act.put, List.setIfInBounds_toArray, List.set_cons_zero, List.set_cons_succ, i64_w, i32_w]
                   rfl
                  refine pure_ (i := 24) (N := some 77) (v := undef) (a' := ?_) #[true, true, true, true, true, true, true, true, true, true, true, true, true, true, true, true, true, true, true, true, true, true, true, true, true, false, false, false, false, false, false, false] rfl rfl (any_of HT_.out (by kernel_rfl)) (fun _ _ _ h => h) (Or.inr ⟨by rfl, rfl⟩) ?_ ?_
                  rotate_left
                  ·simp only [Act.put, List.setIfInBounds_toArray, List.set_cons_zero, List.set_cons_succ, i64_w, i32_w]
                   rfl
                  refine pure_ (i := 25) (N := some 78) (v := undef) (a' := ?_) #[true, true, true, true, true, true, true, true, true, true, true, true, true, true, true, true, true, true, true, true, true, true, true, true, true, true, false, false, false, false, false, false] rfl rfl (any_of HT_.out (by kernel_rfl)) (fun _ _ _ h => h) (Or.inr ⟨by rfl, rfl⟩) ?_ ?_
                  rotate_left
                  ·simp only [Act.put, List.setIfInBounds_toArray, List.set_cons_zero, List.set_cons_succ, i64_w, i32_w]
                   rfl
                  refine pure_ (i := 26) (N := some 79) (v := undef) (a' := ?_) #[true, true, true, true, true, true, true, true, true, true, true, true, true, true, true, true, true, true, true, true, true, true, true, true, true, true, true, false, false, false, false, false] rfl rfl (any_of HT_.out (by kernel_rfl)) (fun _ _ _ h => h) (Or.inr ⟨by rfl, rfl⟩) ?_ ?_
                  rotate_left
                  ·simp only [Act.put, List.setIfInBounds_toArray, List.set_cons_zero, List.set_cons_succ, i64_w, i32_w]
                   rfl
                  refine pure_ (i := 27) (N := some 80) (v := undef) (a' := ?_) #[true, true, true, true, true, true, true, true, true, true, true, true, true, true, true, true, true, true, true, true, true, true, true, true, true, true, true, true, false, false, false, false] rfl rfl (any_of HT_.out (by kernel_rfl)) (fun _ _ _ h => h) (Or.inr ⟨by rfl, rfl⟩) ?_ ?_
                  rotate_left
                  ·simp only [Act.put, List.setIfInBounds_toArray, List.set_cons_zero, List.set_cons_succ, i64_w, i32_w]
                   rfl
                  refine pure_ (i := 28) (N := some 81) (v := undef) (a' := ?_) #[true, true, true, true, true, true, true, true, true, true, true, true, true, true, true, true, true, true, true, true, true, true, true, true, true, true, true, true, true, false, false, false] rfl rfl (any_of HT_.out (by kernel_rfl)) (fun _ _ _ h => h) (Or.inr ⟨by rfl, rfl⟩) ?_ ?_
                  rotate_left
                  ·simp only [Act.put, List.setIfInBounds_toArray, List.set_cons_zero, List.set_cons_succ, i64_w, i32_w]
                   rfl
                  refine pure_ (i := 29) (N := some 82) (v := ?_) (a' := ?_) #[true, true, true, true, true, true, true, true, true, true, true, true, true, true, true, true, true, true, true, true, true, true, true, true, true, true, true, true, true, true, false, false] rfl rfl (any_of HT_.out (by kernel_rfl)) (fun _ _ _ h => h) (Or.inl ⟨by rfl, ?_⟩) ?_ ?_
                  rotate_left
                  ·intro w'
                   go_simp
                   with_reducible rfl
                  rotate_left
                  ·simp only [Act.put, List.setIfInBounds_toArray, List.set_cons_zero, List.set_cons_succ, i64_w, i32_w]
                   rfl
                  refine pure_ (i := 30) (N := some 83) (v := ?_) (a' := ?_) #[true, true, true, true, true, true, true, true, true, true, true, true, true, true, true, true, true, true, true, true, true, true, true, true, true, true, true, true, true, true, true, false] rfl rfl (any_of HT_.out (by kernel_rfl)) (fun _ _ _ h => h) (Or.inl ⟨by rfl, ?_⟩) ?_ ?_
                  rotate_left
                  ·intro w'
                   go_simp
                   with_reducible rfl
                  rotate_left
                  ·simp only [Act.put, List.setIfInBounds_toArray, List.set_cons_zero, List.set_cons_succ, i64_w, i32_w]
                   rfl
                  refine last_ (i := 31) (N := none) #[true, true, true, true, true, true, true, true, true, true, true, true, true, true, true, true, true, true, true, true, true, true, true, true, true, true, true, true, true, true, true, true] rfl rfl (one_of HT_.out (by kernel_rfl)) (by decide) (fun K hK => ?_)
                  refine skip_ (w1 := ?_) (by rfl) rfl ?_ ?_
                  rotate_left
                  ·go_simp
                   rfl
                  refine hK.out _ _ ?_
                  clear hK K
                  refine done_ (done_of HT_.out (by kernel_rfl)) ?_
                  try go_wp2
                  (try simp only [← hl3_4])
                  go_roundg k4
                  case measure => have := HK1.out; have := HK2.out; have := HK3.out; have := HK4.out; omega
                  case rel => exact ⟨(y125), (wrap64 (x50_4 + 1)), (by first | rfl | (simp; done) | (simp [*]; done)), H', ⟨by have := HK1.out; have := HK2.out; have := HK3.out; have := HK4.out; omega⟩, ⟨by (try simp only [hl3_2]); (try simp only [hl3_3]); (try simp only [hl3_4]); (with_reducible repeat (first | apply Kd.S_alloc | apply Kd.S_drewN | apply Kd.S_drew)); exact HQ37.out⟩, ⟨by (try simp only [hl3_2]); (try simp only [hl3_3]); (try simp only [hl3_4]); (with_reducible repeat (first | refine blk_drewN ?_ _ | refine blk_drew ?_ | refine blk_alloc ?_ _)); refine blk_far ?_ (by have h_ := Kd.R_ne HL120_0.out BK108.out (by decide); intro e_; exact h_ (by rw [e_]; rfl)) _; (with_reducible repeat (first | refine blk_drewN ?_ _ | refine blk_drew ?_ | refine blk_alloc ?_ _)); exact BK108.out⟩, ⟨by repeat (first | (with_reducible first | exact HB.out | apply below_alloc | apply pw_below_drewN | apply below_drew1 | refine below_set ?_ GB35.out | refine below_set ?_ GE108.out) | exact HB.out)⟩⟩
                 ·replace c34 := Bool.eq_false_iff.mpr c34
                  subst c34
                  have H1 : (if 0 ≤ x40_2 then (if x40_2 < ((rd_L15 x3_4 x45_3).length : Int) then (if rdOf false (rd_L15 x3_4 x45_3) x40_2 = true then (if x40_2 < (x3_4.length : Int) then (if x50_4 < ((rd_L15 x3_4 x40_2).length : Int) then (calls_table.l4 k4 (x3_4.set (x45_3 : Int).toNat ((rd_L15 x3_4 x45_3).set (x50_4 : Int).toNat (rdOf false (rd_L15 x3_4 x40_2) x50_4))) x40_2 x45_3 (x3_1.length : Int) x40_2 (x3_2.length : Int) x45_3 (x3_3.length : Int) (wrap64 (x50_4 + 1))) else (none)) else (none)) else (calls_table.l4 k4 (x3_4.set (x45_3 : Int).toNat ((rd_L15 x3_4 x45_3).set (x50_4 : Int).toNat false)) x40_2 x45_3 (x3_1.length : Int) x40_2 (x3_2.length : Int) x45_3 (x3_3.length : Int) (wrap64 (x50_4 + 1)))) else (none)) else (none)) = some r := by rw [if_neg (show ¬ (false = true) by decide)] at H; exact H
                  clear H
                  have H := H1
                  clear H1
                  by_cases c39 : 0 ≤ x40_2
                  ·rw [if_pos c39] at H
                   have c39b0 : decide (0 ≤ x40_2) = true := decide_eq_true c39
                   clear c39
                   by_cases c40 : x40_2 < ((rd_L15 x3_4 x45_3).length : Int)
                   ·rw [if_pos c40] at H
                    have c40b0 : decide (x40_2 < ((rd_L15 x3_4 x45_3).length : Int)) = true := decide_eq_true c40
                    have c40b0z := c40b0
                    (try simp only [hl3_2, hl3_3, hl3_4] at c40b0z)
                    clear c40
                    obtain ⟨bq41, hbq41⟩ : ∃ b_ : Bool, b_ = (rdOf false (rd_L15 x3_4 x45_3) x40_2) := ⟨_, rfl⟩
                    replace H : (if bq41 = true then (if x40_2 < (x3_4.length : Int) then (if x50_4 < ((rd_L15 x3_4 x40_2).length : Int) then (calls_table.l4 k4 (x3_4.set (x45_3 : Int).toNat ((rd_L15 x3_4 x45_3).set (x50_4 : Int).toNat (rdOf false (rd_L15 x3_4 x40_2) x50_4))) x40_2 x45_3 (x3_1.length : Int) x40_2 (x3_2.length : Int) x45_3 (x3_3.length : Int) (wrap64 (x50_4 + 1))) else (none)) else (none)) else (calls_table.l4 k4 (x3_4.set (x45_3 : Int).toNat ((rd_L15 x3_4 x45_3).set (x50_4 : Int).toNat false)) x40_2 x45_3 (x3_1.length : Int) x40_2 (x3_2.length : Int) x45_3 (x3_3.length : Int) (wrap64 (x50_4 + 1)))) = some r := by rw [← hbq41] at H; exact H
                    have Nbq41 := Aside0.mk hbq41
                    clear hbq41
                    by_cases c42 : bq41 = true
                    ·subst c42
                     have H1 : (if x40_2 < (x3_4.length : Int) then (if x50_4 < ((rd_L15 x3_4 x40_2).length : Int) then (calls_table.l4 k4 (x3_4.set (x45_3 : Int).toNat ((rd_L15 x3_4 x45_3).set (x50_4 : Int).toNat (rdOf false (rd_L15 x3_4 x40_2) x50_4))) x40_2 x45_3 (x3_1.length : Int) x40_2 (x3_2.length : Int) x45_3 (x3_3.length : Int) (wrap64 (x50_4 + 1))) else (none)) else (none)) = some r := by rw [if_pos rfl] at H; exact H
                     clear H
                     have H := H1
                     clear H1
                     by_cases c43 : x40_2 < (x3_4.length : Int)
                     ·rw [if_pos c43] at H
                      have c43b0 : decide (x40_2 < (x3_4.length : Int)) = true := decide_eq_true c43
                      have c43b0z := c43b0
                      (try simp only [hl3_2, hl3_3, hl3_4] at c43b0z)
                      clear c43
                      by_cases c44 : x50_4 < ((rd_L15 x3_4 x40_2).length : Int)
                      ·rw [if_pos c44] at H
                       have c44b0 : decide (x50_4 < ((rd_L15 x3_4 x40_2).length : Int)) = true := decide_eq_true c44
                       have c44b0z := c44b0
                       (try simp only [hl3_2, hl3_3, hl3_4] at c44b0z)
                       clear c44
                       obtain ⟨y130, hy130⟩ : ∃ y_ : List Bool, y_ = ((rd_L15 x3_4 x45_3).set (x50_4 : Int).toNat (rdOf false (rd_L15 x3_4 x40_2) x50_4)) := ⟨_, rfl⟩
                       replace H : (calls_table.l4 k4 (x3_4.set (x45_3 : Int).toNat y130) x40_2 x45_3 (x3_1.length : Int) x40_2 (x3_2.length : Int) x45_3 (x3_3.length : Int) (wrap64 (x50_4 + 1))) = some r := by first | (rw [hy130]; with_reducible exact H) | (have H2_ := (Option.bind_some _ _).symm.trans H; rw [hy130]; with_reducible exact H2_) | (have H2_ := (Option.bind_some _ _).symm.trans H; with_reducible exact H2_) | with_reducible exact H | (rw [hy130]; exact H) | exact H
                       have Ny130 := Aside0.mk hy130
                       clear hy130
                       obtain ⟨y132, hy132⟩ : ∃ y_ : List (List Bool), y_ = (x3_4.set (x45_3 : Int).toNat y130) := ⟨_, rfl⟩
                       replace H : (calls_table.l4 k4 y132 x40_2 x45_3 (x3_1.length : Int) x40_2 (x3_2.length : Int) x45_3 (x3_3.length : Int) (wrap64 (x50_4 + 1))) = some r := by first | (rw [hy132]; with_reducible exact H) | (have H2_ := (Option.bind_some _ _).symm.trans H; rw [hy132]; with_reducible exact H2_) | (have H2_ := (Option.bind_some _ _).symm.trans H; with_reducible exact H2_) | with_reducible exact H | (rw [hy132]; exact H) | exact H
                       have Ny132 := Aside0.mk hy132
                       clear hy132
                       have H' := Aside0.mk H
                       clear H
                       try go_wp2
                       have n0_ := Aside0.mk (Kd.S_drew HO_3.out)
                       have n1_ := Aside0.mk (blk_drew BK108.out)
                       have n2_ := Aside0.mk (below_drew1 HB.out)
                       clear HO_3
                       clear BK108
                       clear HB
                       have HO_3 := n0_
                       have BK108 := n1_
                       have HB := n2_
                       clear n0_ n1_ n2_
                       have p120 : 0 ≤ (x45_3 : Int) := of_decide_eq_true (by first | (with_reducible assumption) | assumption)
                       have q120 : x45_3 < (x3_4.length : Int) := of_decide_eq_true (by first | (with_reducible assumption) | assumption)
                       obtain ⟨ad120, A120_0, c120_0, e120, hx120_0, hl120_0, hi120_0⟩ := at_L15 (Kd.S_reads' HO_3.out).2.2 x45_3 p120 q120
                       cases e120
                       obtain ⟨ce120, hce120, hMe120, hcc120⟩ := Kd.S_get HO_3.out [] x45_3 p120 (by first | exact q120 | exact of_decide_eq_true (by first | (with_reducible assumption) | assumption) | (have e_ := (Kd.S_reads' HO_3.out).1; omega))
                       obtain ⟨ve120_0, rfl, ge120_0⟩ := hMe120
                       have hv120_0 := hcc120 0 _ rfl
                       rw [Nat.add_zero, show ((Kd.slice 4 Kd.bool)).sz = 1 from rfl, Nat.mul_one] at hv120_0
                       replace hv120_0 := Option.some.inj (hv120_0.symm.trans hx120_0)
                       rw [hv120_0] at ge120_0
                       have HL120_0 := Aside0.mk (show Kd.R Kd.bool 4 _ _ _ _ (rd_L15 x3_4 x45_3) from ge120_0)
                       clear hv120_0 ge120_0
                       have HX120_0 := Aside0.mk hx120_0
                       clear hcc120 hce120
                       have HR120_0 := Aside0.mk hi120_0
                       have HC120_0 := Aside0.mk hl120_0
                       clear hi120_0 hl120_0
                       replace p120 := eq_true p120
                       replace q120 := eq_true q120
                       have p121 : 0 ≤ (x45_3 : Int) := of_decide_eq_true (by first | (with_reducible assumption) | assumption)
                       have q121 : x45_3 < (x3_4.length : Int) := of_decide_eq_true (by first | (with_reducible assumption) | assumption)
                       obtain ⟨ad121, A121_0, c121_0, e121, hx121_0, hl121_0, hi121_0⟩ := at_L15 (Kd.S_reads' HO_3.out).2.2 x45_3 p121 q121
                       obtain rfl : ad120 = ad121 := (by injection e121)
                       obtain ⟨ce121, hce121, hMe121, hcc121⟩ := Kd.S_get HO_3.out [] x45_3 p121 (by first | exact q121 | exact of_decide_eq_true (by first | (with_reducible assumption) | assumption) | (have e_ := (Kd.S_reads' HO_3.out).1; omega))
                       obtain ⟨ve121_0, rfl, ge121_0⟩ := hMe121
                       have hv121_0 := hcc121 0 _ rfl
                       rw [Nat.add_zero, show ((Kd.slice 4 Kd.bool)).sz = 1 from rfl, Nat.mul_one] at hv121_0
                       replace hv121_0 := Option.some.inj (hv121_0.symm.trans hx121_0)
                       rw [hv121_0] at ge121_0
                       have HL121_0 := Aside0.mk (show Kd.R Kd.bool 4 _ _ _ _ (rd_L15 x3_4 x45_3) from ge121_0)
                       clear hv121_0 ge121_0
                       have HX121_0 := Aside0.mk hx121_0
                       clear hcc121 hce121
                       have HR121_0 := Aside0.mk hi121_0
                       have HC121_0 := Aside0.mk hl121_0
                       clear hi121_0 hl121_0
                       replace p121 := eq_true p121
                       replace q121 := eq_true q121
                       have ea_ := Option.some.inj (hx120_0.symm.trans hx121_0)
                       injection ea_ with ea_ en_ ec_
                       subst ea_
                       subst ec_
                       clear en_
                       have p122 : 0 ≤ (x50_4 : Int) := of_decide_eq_true (by first | (with_reducible assumption) | assumption)
                       have q122 : x50_4 < ((rd_L15 x3_4 x45_3).length : Int) := of_decide_eq_true (by first | (with_reducible assumption) | assumption)
                       obtain ⟨ad122, e122, hx122_0⟩ := Kd.at_bool (by repeat (first | (with_reducible exact HR121_0.out) | (with_reducible refine Kd.C_alloc ?_ _) | (with_reducible refine Kd.C_drewN ?_ _) | (with_reducible refine Kd.C_drew ?_) | exact HR121_0.out)) x50_4 p122 q122
                       (try rw [← Nbq33.out] at hx122_0)
                       (try rw [← Nbq41.out] at hx122_0)
                       cases e122
                       replace p122 := eq_true p122
                       replace q122 := eq_true q122
                       have p126 : 0 ≤ (x45_3 : Int) := of_decide_eq_true (by first | (with_reducible assumption) | assumption)
                       have q126 : x45_3 < (x3_4.length : Int) := of_decide_eq_true (by first | (with_reducible assumption) | assumption)
                       obtain ⟨ad126, A126_0, c126_0, e126, hx126_0, hl126_0, hi126_0⟩ := at_L15 (Kd.S_reads' HO_3.out).2.2 x45_3 p126 q126
                       obtain rfl : ad120 = ad126 := (by injection e126)
                       obtain ⟨ce126, hce126, hMe126, hcc126⟩ := Kd.S_get HO_3.out [] x45_3 p126 (by first | exact q126 | exact of_decide_eq_true (by first | (with_reducible assumption) | assumption) | (have e_ := (Kd.S_reads' HO_3.out).1; omega))
                       obtain ⟨ve126_0, rfl, ge126_0⟩ := hMe126
                       have hv126_0 := hcc126 0 _ rfl
                       rw [Nat.add_zero, show ((Kd.slice 4 Kd.bool)).sz = 1 from rfl, Nat.mul_one] at hv126_0
                       replace hv126_0 := Option.some.inj (hv126_0.symm.trans hx126_0)
                       rw [hv126_0] at ge126_0
                       have HL126_0 := Aside0.mk (show Kd.R Kd.bool 4 _ _ _ _ (rd_L15 x3_4 x45_3) from ge126_0)
                       clear hv126_0 ge126_0
                       have HX126_0 := Aside0.mk hx126_0
                       clear hcc126 hce126
                       have HR126_0 := Aside0.mk hi126_0
                       have HC126_0 := Aside0.mk hl126_0
                       clear hi126_0 hl126_0
                       replace p126 := eq_true p126
                       replace q126 := eq_true q126
                       have ea_ := Option.some.inj (hx120_0.symm.trans hx126_0)
                       injection ea_ with ea_ en_ ec_
                       subst ea_
                       subst ec_
                       clear en_
                       have p127 : 0 ≤ (x40_2 : Int) := of_decide_eq_true (by first | (with_reducible assumption) | assumption)
                       have q127 : x40_2 < ((rd_L15 x3_4 x45_3).length : Int) := of_decide_eq_true (by first | (with_reducible assumption) | assumption)
                       obtain ⟨ad127, e127, hx127_0⟩ := Kd.at_bool (by repeat (first | (with_reducible exact HR126_0.out) | (with_reducible refine Kd.C_alloc ?_ _) | (with_reducible refine Kd.C_drewN ?_ _) | (with_reducible refine Kd.C_drew ?_) | exact HR126_0.out)) x40_2 p127 q127
                       (try rw [← Nbq33.out] at hx127_0)
                       (try rw [← Nbq41.out] at hx127_0)
                       cases e127
                       replace p127 := eq_true p127
                       replace q127 := eq_true q127
                       have p128 : 0 ≤ (x40_2 : Int) := of_decide_eq_true (by first | (with_reducible assumption) | assumption)
                       have q128 : x40_2 < (x3_4.length : Int) := of_decide_eq_true (by first | (with_reducible assumption) | assumption)
                       obtain ⟨ad128, A128_0, c128_0, e128, hx128_0, hl128_0, hi128_0⟩ := at_L15 (Kd.S_reads' HO_3.out).2.2 x40_2 p128 q128
                       obtain rfl : ad120 = ad128 := (by injection e128)
                       obtain ⟨ce128, hce128, hMe128, hcc128⟩ := Kd.S_get HO_3.out [] x40_2 p128 (by first | exact q128 | exact of_decide_eq_true (by first | (with_reducible assumption) | assumption) | (have e_ := (Kd.S_reads' HO_3.out).1; omega))
                       obtain ⟨ve128_0, rfl, ge128_0⟩ := hMe128
                       have hv128_0 := hcc128 0 _ rfl
                       rw [Nat.add_zero, show ((Kd.slice 4 Kd.bool)).sz = 1 from rfl, Nat.mul_one] at hv128_0
                       replace hv128_0 := Option.some.inj (hv128_0.symm.trans hx128_0)
                       rw [hv128_0] at ge128_0
                       have HL128_0 := Aside0.mk (show Kd.R Kd.bool 4 _ _ _ _ (rd_L15 x3_4 x40_2) from ge128_0)
                       clear hv128_0 ge128_0
                       have HX128_0 := Aside0.mk hx128_0
                       clear hcc128 hce128
                       have HR128_0 := Aside0.mk hi128_0
                       have HC128_0 := Aside0.mk hl128_0
                       clear hi128_0 hl128_0
                       replace p128 := eq_true p128
                       replace q128 := eq_true q128
                       have p129 : 0 ≤ (x50_4 : Int) := of_decide_eq_true (by first | (with_reducible assumption) | assumption)
                       have q129 : x50_4 < ((rd_L15 x3_4 x40_2).length : Int) := of_decide_eq_true (by first | (with_reducible assumption) | assumption)
                       obtain ⟨ad129, e129, hx129_0⟩ := Kd.at_bool (by repeat (first | (with_reducible exact HR128_0.out) | (with_reducible refine Kd.C_alloc ?_ _) | (with_reducible refine Kd.C_drewN ?_ _) | (with_reducible refine Kd.C_drew ?_) | exact HR128_0.out)) x50_4 p129 q129
                       (try rw [← Nbq33.out] at hx129_0)
                       (try rw [← Nbq41.out] at hx129_0)
                       cases e129
                       replace p129 := eq_true p129
                       replace q129 := eq_true q129
                       have p45 : 0 ≤ (x50_4 : Int) := of_decide_eq_true (by first | (with_reducible assumption) | assumption)
                       have q45 : (x50_4 : Int) < (((rd_L15 x3_4 x45_3).length : Int) : Int) := of_decide_eq_true (by first | (with_reducible assumption) | assumption)
                       obtain ⟨go45, co45, eo45, gb45, gl45, cl45, HG45⟩ := Kd.R_form HL120_0.out (by omega)
                       (first | cases eo45 | (injection eo45 with ea_ en_ ec_; (first | subst ea_ | (injection ea_ with ea_; subst ea_)); subst ec_; clear en_))
                       have GB45 := Aside0.mk gb45
                       have GG45 := Aside0.mk HG45
                       clear gb45 gl45 HG45
                       (first | simp only [add_plain] at hx127_0 | skip)
                       obtain ⟨hx45_0, hf45_0⟩ := Kd.R_celln false HL120_0.out (x50_4 : Int) p45 q45
                       replace p45 := eq_true p45
                       replace q45 := eq_true q45
                       have hq47 : (x45_3 : Int) < (x3_4.length : Int) := (by have h_ : (x45_3 : Int) < ((x3_4.length : Int) : Int) := of_decide_eq_true (by first | (with_reducible assumption) | assumption); first | exact h_ | (have e_ := (Kd.S_reads' HO_3.out).1; omega) | simpa only [List.length_set, List.length_set] using h_)
                       obtain ⟨oki47, ce47, hcl47, hM47, hcc47, hok47, hbk47⟩ := Kd.S_borrow HO_3.out [] (x45_3 : Int) (of_decide_eq_true (by first | (with_reducible assumption) | assumption)) hq47
                       obtain ⟨ve47_0, rfl, ge47_0⟩ := hM47
                       have hv47 := hcc47 0 _ rfl
                       rw [Nat.add_zero, show ((Kd.slice 4 Kd.bool)).sz = 1 from rfl, Nat.mul_one] at hv47
                       replace hv47 := Option.some.inj (hv47.symm.trans HX120_0.out)
                       subst hv47
                       clear hcc47 hcl47
                       replace ge47_0 := (show Kd.R Kd.bool 4 _ _ _ _ (rd_L15 x3_4 x45_3) from ge47_0)
                       have HP47 := Kd.R_putg ge47_0 (x50_4 : Int) (rdOf false (rd_L15 x3_4 x40_2) x50_4)
                       rw [← Ny130.out] at HP47
                       have HS47 := hbk47 HP47.2 (fun k_ e_ => by injection e_ with e_; subst e_; exact ge47_0.1 _ rfl) (x' := y130) (Kd.M_row HP47.1)
                       rw [← Ny132.out] at HS47
                       have HQ47 := Aside0.mk HS47
                       clear HP47 HS47 hbk47 hok47
                       (try simp only [add_plain] at hx122_0)
                       refine start_ (n := 32) (S := fun w' => w'.cell? (ad120.add (x45_3).toNat) = some (.slice (some ⟨go45, 0, none⟩) (rd_L15 x3_4 x45_3).length c120_0) ∧ w'.cell? (ad120.add (x45_3).toNat) = some (.slice (some ⟨go45, 0, none⟩) (rd_L15 x3_4 x45_3).length c120_0) ∧ w'.cell? ⟨go45, (x50_4).toNat, none⟩ = some (.bool false) ∧ w'.cell? (ad120.add (x45_3).toNat) = some (.slice (some ⟨go45, 0, none⟩) (rd_L15 x3_4 x45_3).length c120_0) ∧ w'.cell? ⟨go45, (x40_2).toNat, none⟩ = some (.bool true) ∧ w'.cell? (ad120.add (x40_2).toNat) = some (.slice (some ad129) (rd_L15 x3_4 x40_2).length c128_0) ∧ w'.cell? (ad129.add (x50_4).toNat) = some (.bool (rdOf false (rd_L15 x3_4 x40_2) x50_4))) (ds := [31]) #[false, false, false, false, false, false, false, false, false, false, false, false, false, false, false, false, false, false, false, false, false, false, false, false, false, false, false, false, false, false, false, false] (by kernel_rfl) rfl rfl ⟨hx120_0, hx121_0, hx122_0, hx126_0, hx127_0, hx128_0, hx129_0⟩ (fun hHeld => ?_); refine with_tabW calls_table.tab22 calls_table.bits22 (fun HT_ HW_ => ?_)
                       generalize wr.drew = w46 at HO_3 BK108 HB GG45 HL120_0 HL121_0 HL126_0 HL128_0 HQ47 HR120_0 HR121_0 HR126_0 HR128_0 HX120_0 HX121_0 HX126_0 HX128_0 hf45_0 hx120_0 hx121_0 hx122_0 hx126_0 hx127_0 hx128_0 hx129_0 hx45_0 hHeld ⊢
                       refine pure_ (i := 0) (N := some 53) (v := ?_) (a' := ?_) #[true, false, false, false, false, false, false, false, false, false, false, false, false, false, false, false, false, false, false, false, false, false, false, false, false, false, false, false, false, false, false, false] rfl rfl (any_of HT_.out (by kernel_rfl)) (fun _ _ _ h => h) (Or.inl ⟨by rfl, ?_⟩) ?_ ?_
                       rotate_left
                       ·intro w'
                        go_simp
                        with_reducible rfl
                       rotate_left
                       ·simp only [Act.put, List.setIfInBounds_toArray, List.set_cons_zero, List.set_cons_succ, i64_w, i32_w]
                        rfl
                       refine pure_ (i := 1) (N := some 54) (v := ?_) (a' := ?_) #[true, true, false, false, false, false, false, false, false, false, false, false, false, false, false, false, false, false, false, false, false, false, false, false, false, false, false, false, false, false, false, false] rfl rfl (any_of HT_.out (by kernel_rfl)) (fun _ _ _ h => h) (Or.inl ⟨by rfl, ?_⟩) ?_ ?_
                       rotate_left
                       ·intro w'
                        go_simp
                        with_reducible rfl
                       rotate_left
                       ·simp only [Act.put, List.setIfInBounds_toArray, List.set_cons_zero, List.set_cons_succ, i64_w, i32_w]
                        rfl
                       refine pure_ (i := 2) (N := some 55) (v := ?_) (a' := ?_) #[true, true, true, false, false, false, false, false, false, false, false, false, false, false, false, false, false, false, false, false, false, false, false, false, false, false, false, false, false, false, false, false] rfl rfl (any_of HT_.out (by kernel_rfl)) (fun _ _ _ h => h) (Or.inl ⟨by rfl, ?_⟩) ?_ ?_
                       rotate_left
                       ·intro w'
                        go_simp
                        with_reducible rfl
                       rotate_left
                       ·simp only [Act.put, List.setIfInBounds_toArray, List.set_cons_zero, List.set_cons_succ, i64_w, i32_w]
                        rfl
                       refine pure_ (i := 4) (N := some 57) (v := ?_) (a' := ?_) #[true, true, true, false, true, false, false, false, false, false, false, false, false, false, false, false, false, false, false, false, false, false, false, false, false, false, false, false, false, false, false, false] rfl rfl (any_of HT_.out (by kernel_rfl)) (fun _ _ _ h => h) (Or.inl ⟨by rfl, ?_⟩) ?_ ?_
                       rotate_left
                       ·intro w'
                        go_simp
                        with_reducible rfl
                       rotate_left
                       ·simp only [Act.put, List.setIfInBounds_toArray, List.set_cons_zero, List.set_cons_succ, i64_w, i32_w]
                        rfl
                       refine pure_ (i := 5) (N := some 58) (v := ?_) (a' := ?_) #[true, true, true, false, true, true, false, false, false, false, false, false, false, false, false, false, false, false, false, false, false, false, false, false, false, false, false, false, false, false, false, false] rfl rfl (any_of HT_.out (by kernel_rfl)) (fun _ _ _ h => h) (Or.inl ⟨by rfl, ?_⟩) ?_ ?_
                       rotate_left
                       ·intro w'
                        go_simp
                        with_reducible rfl
                       rotate_left
                       ·simp only [Act.put, List.setIfInBounds_toArray, List.set_cons_zero, List.set_cons_succ, i64_w, i32_w]
                        rfl
                       refine pure_ (i := 6) (N := some 59) (v := ?_) (a' := ?_) #[true, true, true, false, true, true, true, false, false, false, false, false, false, false, false, false, false, false, false, false, false, false, false, false, false, false, false, false, false, false, false, false] rfl rfl (any_of HT_.out (by kernel_rfl)) (fun _ _ _ h => h) (Or.inl ⟨by rfl, ?_⟩) ?_ ?_
                       rotate_left
                       ·intro w'
                        go_simp
                        with_reducible rfl
                       rotate_left
                       ·simp only [Act.put, List.setIfInBounds_toArray, List.set_cons_zero, List.set_cons_succ, i64_w, i32_w]
                        rfl
                       refine pure_ (i := 7) (N := some 60) (v := ?_) (a' := ?_) #[true, true, true, false, true, true, true, true, false, false, false, false, false, false, false, false, false, false, false, false, false, false, false, false, false, false, false, false, false, false, false, false] rfl rfl (any_of HT_.out (by kernel_rfl)) (fun _ _ _ h => h) (Or.inl ⟨by rfl, ?_⟩) ?_ ?_
                       rotate_left
                       ·intro w'
                        go_simp
                        with_reducible rfl
                       rotate_left
                       ·simp only [Act.put, List.setIfInBounds_toArray, List.set_cons_zero, List.set_cons_succ, i64_w, i32_w]
                        rfl
                       refine pure_ (i := 9) (N := some 62) (v := ?_) (a' := ?_) #[true, true, true, false, true, true, true, true, false, true, false, false, false, false, false, false, false, false, false, false, false, false, false, false, false, false, false, false, false, false, false, false] rfl rfl (any_of HT_.out (by kernel_rfl)) (fun _ _ _ h => h) (Or.inl ⟨by rfl, ?_⟩) ?_ ?_
                       rotate_left
                       ·intro w'
                        go_simp
                        with_reducible rfl
                       rotate_left
                       ·simp only [Act.put, List.setIfInBounds_toArray, List.set_cons_zero, List.set_cons_succ, i64_w, i32_w]
                        rfl
                       refine take_ (i := 3) (N := some 56) (v := ?_) (a' := ?_) #[true, true, true, true, true, true, true, true, false, true, false, false, false, false, false, false, false, false, false, false, false, false, false, false, false, false, false, false, false, false, false, false] rfl rfl (take_ofW HT_.out HW_.out (by kernel_rfl)) (fun _ _ _ h => h) (Or.inl ⟨by rfl, ?_⟩) hHeld ?_ ?_
                       rotate_left
                       ·rintro w' ⟨s0, s1, s2, s3, s4, s5, s6⟩
                        go_simp
                        with_reducible rfl
                       rotate_left
                       ·simp only [Act.put, List.setIfInBounds_toArray, List.set_cons_zero, List.set_cons_succ, i64_w, i32_w]
                        rfl
                       refine take_ (i := 8) (N := some 61) (v := ?_) (a' := ?_) #[true, true, true, true, true, true, true, true, true, true, false, false, false, false, false, false, false, false, false, false, false, false, false, false, false, false, false, false, false, false, false, false] rfl rfl (take_ofW HT_.out HW_.out (by kernel_rfl)) (fun _ _ _ h => h) (Or.inl ⟨by rfl, ?_⟩) hHeld ?_ ?_
                       rotate_left
                       ·rintro w' ⟨s0, s1, s2, s3, s4, s5, s6⟩
                        go_simp
                        with_reducible rfl
                       rotate_left
                       ·simp only [Act.put, List.setIfInBounds_toArray, List.set_cons_zero, List.set_cons_succ, i64_w, i32_w]
                        rfl
                       refine pure_ (i := 10) (N := some 63) (v := ?_) (a' := ?_) #[true, true, true, true, true, true, true, true, true, true, true, false, false, false, false, false, false, false, false, false, false, false, false, false, false, false, false, false, false, false, false, false] rfl rfl (any_of HT_.out (by kernel_rfl)) (fun _ _ _ h => h) (Or.inl ⟨by rfl, ?_⟩) ?_ ?_
                       rotate_left
                       ·intro w'
                        go_simp
                        with_reducible rfl
                       rotate_left
                       ·simp only [Act.put, List.setIfInBounds_toArray, List.set_cons_zero, List.set_cons_succ, i64_w, i32_w]
                        rfl
                       refine take_ (i := 11) (N := some 64) (v := ?_) (a' := ?_) #[true, true, true, true, true, true, true, true, true, true, true, true, false, false, false, false, false, false, false, false, false, false, false, false, false, false, false, false, false, false, false, false] rfl rfl (take_ofW HT_.out HW_.out (by kernel_rfl)) (fun _ _ _ h => h) (Or.inl ⟨by rfl, ?_⟩) hHeld ?_ ?_
                       rotate_left
                       ·rintro w' ⟨s0, s1, s2, s3, s4, s5, s6⟩
                        go_simp
                        with_reducible rfl
                       rotate_left
                       ·simp only [Act.put, List.setIfInBounds_toArray, List.set_cons_zero, List.set_cons_succ, i64_w, i32_w]
                        rfl
                       refine pure_ (i := 12) (N := some 65) (v := ?_) (a' := ?_) #[true, true, true, true, true, true, true, true, true, true, true, true, true, false, false, false, false, false, false, false, false, false, false, false, false, false, false, false, false, false, false, false] rfl rfl (any_of HT_.out (by kernel_rfl)) (fun _ _ _ h => h) (Or.inl ⟨by rfl, ?_⟩) ?_ ?_
                       rotate_left
                       ·intro w'
                        go_simp
                        with_reducible rfl
                       rotate_left
                       ·simp only [Act.put, List.setIfInBounds_toArray, List.set_cons_zero, List.set_cons_succ, i64_w, i32_w]
                        rfl
                       refine pure_ (i := 13) (N := some 66) (v := ?_) (a' := ?_) #[true, true, true, true, true, true, true, true, true, true, true, true, true, true, false, false, false, false, false, false, false, false, false, false, false, false, false, false, false, false, false, false] rfl rfl (any_of HT_.out (by kernel_rfl)) (fun _ _ _ h => h) (Or.inl ⟨by rfl, ?_⟩) ?_ ?_
                       rotate_left
                       ·intro w'
                        go_simp
                        with_reducible rfl
                       rotate_left
                       ·simp only [Act.put, List.setIfInBounds_toArray, List.set_cons_zero, List.set_cons_succ, i64_w, i32_w]
                        rfl
                       refine pure_ (i := 14) (N := some 67) (v := ?_) (a' := ?_) #[true, true, true, true, true, true, true, true, true, true, true, true, true, true, true, false, false, false, false, false, false, false, false, false, false, false, false, false, false, false, false, false] rfl rfl (any_of HT_.out (by kernel_rfl)) (fun _ _ _ h => h) (Or.inl ⟨by rfl, ?_⟩) ?_ ?_
                       rotate_left
                       ·intro w'
                        go_simp
                        with_reducible rfl
                       rotate_left
                       ·simp only [Act.put, List.setIfInBounds_toArray, List.set_cons_zero, List.set_cons_succ, i64_w, i32_w]
                        rfl
                       refine pure_ (i := 15) (N := some 68) (v := ?_) (a' := ?_) #[true, true, true, true, true, true, true, true, true, true, true, true, true, true, true, true, false, false, false, false, false, false, false, false, false, false, false, false, false, false, false, false] rfl rfl (any_of HT_.out (by kernel_rfl)) (fun _ _ _ h => h) (Or.inl ⟨by rfl, ?_⟩) ?_ ?_
                       rotate_left
                       ·intro w'
                        go_simp
                        with_reducible rfl
                       rotate_left
                       ·simp only [Act.put, List.setIfInBounds_toArray, List.set_cons_zero, List.set_cons_succ, i64_w, i32_w]
                        rfl
                       refine pure_ (i := 17) (N := some 70) (v := ?_) (a' := ?_) #[true, true, true, true, true, true, true, true, true, true, true, true, true, true, true, true, false, true, false, false, false, false, false, false, false, false, false, false, false, false, false, false] rfl rfl (any_of HT_.out (by kernel_rfl)) (fun _ _ _ h => h) (Or.inl ⟨by rfl, ?_⟩) ?_ ?_
                       rotate_left
                       ·intro w'
                        go_simp
                        with_reducible rfl
                       rotate_left
                       ·simp only [Act.put, List.setIfInBounds_toArray, List.set_cons_zero, List.set_cons_succ, i64_w, i32_w]
                        rfl
                       refine take_ (i := 16) (N := some 69) (v := ?_) (a' := ?_) #[true, true, true, true, true, true, true, true, true, true, true, true, true, true, true, true, true, true, false, false, false, false, false, false, false, false, false, false, false, false, false, false] rfl rfl (take_ofW HT_.out HW_.out (by kernel_rfl)) (fun _ _ _ h => h) (Or.inl ⟨by rfl, ?_⟩) hHeld ?_ ?_
                       rotate_left
                       ·rintro w' ⟨s0, s1, s2, s3, s4, s5, s6⟩
                        go_simp
                        with_reducible rfl
                       rotate_left
                       ·simp only [Act.put, List.setIfInBounds_toArray, List.set_cons_zero, List.set_cons_succ, i64_w, i32_w]
                        rfl
                       refine pure_ (i := 18) (N := some 71) (v := ?_) (a' := ?_) #[true, true, true, true, true, true, true, true, true, true, true, true, true, true, true, true, true, true, true, false, false, false, false, false, false, false, false, false, false, false, false, false] rfl rfl (any_of HT_.out (by kernel_rfl)) (fun _ _ _ h => h) (Or.inl ⟨by rfl, ?_⟩) ?_ ?_
                       rotate_left
                       ·intro w'
                        go_simp
                        with_reducible rfl
                       rotate_left
                       ·simp only [Act.put, List.setIfInBounds_toArray, List.set_cons_zero, List.set_cons_succ, i64_w, i32_w]
                        rfl
                       refine take_ (i := 19) (N := some 72) (v := ?_) (a' := ?_) #[true, true, true, true, true, true, true, true, true, true, true, true, true, true, true, true, true, true, true, true, false, false, false, false, false, false, false, false, false, false, false, false] rfl rfl (take_ofW HT_.out HW_.out (by kernel_rfl)) (fun _ _ _ h => h) (Or.inl ⟨by rfl, ?_⟩) hHeld ?_ ?_
                       rotate_left
                       ·rintro w' ⟨s0, s1, s2, s3, s4, s5, s6⟩
                        go_simp
                        with_reducible rfl
                       rotate_left
                       ·simp only [Act.put, List.setIfInBounds_toArray, List.set_cons_zero, List.set_cons_succ, i64_w, i32_w]
                        rfl
                       refine pure_ (i := 20) (N := some 73) (v := ?_) (a' := ?_) #[true, true, true, true, true, true, true, true, true, true, true, true, true, true, true, true, true, true, true, true, true, false, false, false, false, false, false, false, false, false, false, false] rfl rfl (any_of HT_.out (by kernel_rfl)) (fun _ _ _ h => h) (Or.inl ⟨by rfl, ?_⟩) ?_ ?_
                       rotate_left
                       ·intro w'
                        go_simp
                        with_reducible rfl
                       rotate_left
                       ·simp only [Act.put, List.setIfInBounds_toArray, List.set_cons_zero, List.set_cons_succ, i64_w, i32_w]
                        rfl
                       refine pure_ (i := 21) (N := some 74) (v := ?_) (a' := ?_) #[true, true, true, true, true, true, true, true, true, true, true, true, true, true, true, true, true, true, true, true, true, true, false, false, false, false, false, false, false, false, false, false] rfl rfl (any_of HT_.out (by kernel_rfl)) (fun _ _ _ h => h) (Or.inl ⟨by rfl, ?_⟩) ?_ ?_
                       rotate_left
                       ·intro w'
                        go_simp
                        with_reducible rfl
                       rotate_left
                       ·simp only [Act.put, List.setIfInBounds_toArray, List.set_cons_zero, List.set_cons_succ, i64_w, i32_w]
                        rfl
                       refine pure_ (i := 22) (N := some 75) (v := ?_) (a' := ?_) #[true, true, true, true, true, true, true, true, true, true, true, true, true, true, true, true, true, true, true, true, true, true, true, false, false, false, false, false, false, false, false, false] rfl rfl (any_of HT_.out (by kernel_rfl)) (fun _ _ _ h => h) (Or.inl ⟨by rfl, ?_⟩) ?_ ?_
                       rotate_left
                       ·intro w'
                        go_simp
                        with_reducible rfl
                       rotate_left
                       ·simp only [Act.put, List.setIfInBounds_toArray, List.set_cons_zero, List.set_cons_succ, i64_w, i32_w]
                        rfl
                       refine pure_ (i := 23) (N := some 76) (v := ?_) (a' := ?_) #[true, true, true, true, true, true, true, true, true, true, true, true, true, true, true, true, true, true, true, true, true, true, true, true, false, false, false, false, false, false, false, false] rfl rfl (any_of HT_.out (by kernel_rfl)) (fun _ _ _ h => h) (Or.inl ⟨by rfl, ?_⟩) ?_ ?_
                       rotate_left
                       ·intro w'
                        go_simp
                        with_reducible rfl
                       rotate_left
                       ·simp only [Act.put, List.setIfInBounds_toArray, List.set_cons_zero, List.set_cons_succ, i64_w, i32_w]
                        rfl
                       refine pure_ (i := 25) (N := some 78) (v := ?_) (a' := ?_) #[true, true, true, true, true, true, true, true, true, true, true, true, true, true, true, true, true, true, true, true, true, true, true, true, false, true, false, false, false, false, false, false] rfl rfl (any_of HT_.out (by kernel_rfl)) (fun _ _ _ h => h) (Or.inl ⟨by rfl, ?_⟩) ?_ ?_
                       rotate_left
                       ·intro w'
                        go_simp
                        with_reducible rfl
                       rotate_left
                       ·simp only [Act.put, List.setIfInBounds_toArray, List.set_cons_zero, List.set_cons_succ, i64_w, i32_w]
                        rfl
                       refine take_ (i := 24) (N := some 77) (v := ?_) (a' := ?_) #[true, true, true, true, true, true, true, true, true, true, true, true, true, true, true, true, true, true, true, true, true, true, true, true, true, true, false, false, false, false, false, false] rfl rfl (take_ofW HT_.out HW_.out (by kernel_rfl)) (fun _ _ _ h => h) (Or.inl ⟨by rfl, ?_⟩) hHeld ?_ ?_
                       rotate_left
                       ·rintro w' ⟨s0, s1, s2, s3, s4, s5, s6⟩
                        go_simp
                        with_reducible rfl
                       rotate_left
                       ·simp only [Act.put, List.setIfInBounds_toArray, List.set_cons_zero, List.set_cons_succ, i64_w, i32_w]
                        rfl
                       refine pure_ (i := 26) (N := some 79) (v := ?_) (a' := ?_) #[true, true, true, true, true, true, true, true, true, true, true, true, true, true, true, true, true, true, true, true, true, true, true, true, true, true, true, false, false, false, false, false] rfl rfl (any_of HT_.out (by kernel_rfl)) (fun _ _ _ h => h) (Or.inl ⟨by rfl, ?_⟩) ?_ ?_
                       rotate_left
                       ·intro w'
                        go_simp
                        with_reducible rfl
                       rotate_left
                       ·simp only [Act.put, List.setIfInBounds_toArray, List.set_cons_zero, List.set_cons_succ, i64_w, i32_w]
                        rfl
                       refine take_ (i := 27) (N := some 80) (v := ?_) (a' := ?_) #[true, true, true, true, true, true, true, true, true, true, true, true, true, true, true, true, true, true, true, true, true, true, true, true, true, true, true, true, false, false, false, false] rfl rfl (take_ofW HT_.out HW_.out (by kernel_rfl)) (fun _ _ _ h => h) (Or.inl ⟨by rfl, ?_⟩) hHeld ?_ ?_
                       rotate_left
                       ·rintro w' ⟨s0, s1, s2, s3, s4, s5, s6⟩
                        go_simp
                        with_reducible rfl
                       rotate_left
                       ·simp only [Act.put, List.setIfInBounds_toArray, List.set_cons_zero, List.set_cons_succ, i64_w, i32_w]
                        rfl
                       refine pure_ (i := 28) (N := some 81) (v := ?_) (a' := ?_) #[true, true, true, true, true, true, true, true, true, true, true, true, true, true, true, true, true, true, true, true, true, true, true, true, true, true, true, true, true, false, false, false] rfl rfl (any_of HT_.out (by kernel_rfl)) (fun _ _ _ h => h) (Or.inl ⟨by rfl, ?_⟩) ?_ ?_
                       rotate_left
                       ·intro w'
                        go_simp
                        with_reducible rfl
                       rotate_left
                       ·simp only [Act.put, List.setIfInBounds_toArray, List.set_cons_zero, List.set_cons_succ, i64_w, i32_w]
                        rfl
                       refine pure_ (i := 29) (N := some 82) (v := ?_) (a' := ?_) #[true, true, true, true, true, true, true, true, true, true, true, true, true, true, true, true, true, true, true, true, true, true, true, true, true, true, true, true, true, true, false, false] rfl rfl (any_of HT_.out (by kernel_rfl)) (fun _ _ _ h => h) (Or.inl ⟨by rfl, ?_⟩) ?_ ?_
                       rotate_left
                       ·intro w'
                        go_simp
                        with_reducible rfl
                       rotate_left
                       ·simp only [Act.put, List.setIfInBounds_toArray, List.set_cons_zero, List.set_cons_succ, i64_w, i32_w]
                        rfl
                       refine pure_ (i := 30) (N := some 83) (v := ?_) (a' := ?_) #[true, true, true, true, true, true, true, true, true, true, true, true, true, true, true, true, true, true, true, true, true, true, true, true, true, true, true, true, true, true, true, false] rfl rfl (any_of HT_.out (by kernel_rfl)) (fun _ _ _ h => h) (Or.inl ⟨by rfl, ?_⟩) ?_ ?_
                       rotate_left
                       ·intro w'
                        go_simp
                        with_reducible rfl
                       rotate_left
                       ·simp only [Act.put, List.setIfInBounds_toArray, List.set_cons_zero, List.set_cons_succ, i64_w, i32_w]
                        rfl
                       refine last_ (i := 31) (N := none) #[true, true, true, true, true, true, true, true, true, true, true, true, true, true, true, true, true, true, true, true, true, true, true, true, true, true, true, true, true, true, true, true] rfl rfl (one_of HT_.out (by kernel_rfl)) (by decide) (fun K hK => ?_)
                       refine skip_ (w1 := ?_) (by rfl) rfl ?_ ?_
                       rotate_left
                       ·go_simp
                        rfl
                       refine hK.out _ _ ?_
                       clear hK K
                       refine done_ (done_of HT_.out (by kernel_rfl)) ?_
                       try go_wp2
                       (try simp only [← hl3_4])
                       go_roundg k4
                       case measure => have := HK1.out; have := HK2.out; have := HK3.out; have := HK4.out; omega
                       case rel => exact ⟨(y132), (wrap64 (x50_4 + 1)), (by first | rfl | (simp; done) | (simp [*]; done)), H', ⟨by have := HK1.out; have := HK2.out; have := HK3.out; have := HK4.out; omega⟩, ⟨by (try simp only [hl3_2]); (try simp only [hl3_3]); (try simp only [hl3_4]); (with_reducible repeat (first | apply Kd.S_alloc | apply Kd.S_drewN | apply Kd.S_drew)); exact HQ47.out⟩, ⟨by (try simp only [hl3_2]); (try simp only [hl3_3]); (try simp only [hl3_4]); (with_reducible repeat (first | refine blk_drewN ?_ _ | refine blk_drew ?_ | refine blk_alloc ?_ _)); refine blk_far ?_ (by have h_ := Kd.R_ne HL120_0.out BK108.out (by decide); intro e_; exact h_ (by rw [e_]; rfl)) _; (with_reducible repeat (first | refine blk_drewN ?_ _ | refine blk_drew ?_ | refine blk_alloc ?_ _)); exact BK108.out⟩, ⟨by repeat (first | (with_reducible first | exact HB.out | apply below_alloc | apply pw_below_drewN | apply below_drew1 | refine below_set ?_ GB45.out | refine below_set ?_ GE108.out) | exact HB.out)⟩⟩
                      ·rw [if_neg c44] at H
                       exact absurd H (by simp)
                     ·rw [if_neg c43] at H
                      exact absurd H (by simp)
                    ·replace c42 := Bool.eq_false_iff.mpr c42
                     subst c42
                     have H1 : (calls_table.l4 k4 (x3_4.set (x45_3 : Int).toNat ((rd_L15 x3_4 x45_3).set (x50_4 : Int).toNat false)) x40_2 x45_3 (x3_1.length : Int) x40_2 (x3_2.length : Int) x45_3 (x3_3.length : Int) (wrap64 (x50_4 + 1))) = some r := by rw [if_neg (show ¬ (false = true) by decide)] at H; exact H
                     clear H
                     have H := H1
                     clear H1
                     obtain ⟨y133, hy133⟩ : ∃ y_ : List Bool, y_ = ((rd_L15 x3_4 x45_3).set (x50_4 : Int).toNat false) := ⟨_, rfl⟩
                     replace H : (calls_table.l4 k4 (x3_4.set (x45_3 : Int).toNat y133) x40_2 x45_3 (x3_1.length : Int) x40_2 (x3_2.length : Int) x45_3 (x3_3.length : Int) (wrap64 (x50_4 + 1))) = some r := by first | (rw [hy133]; with_reducible exact H) | (have H2_ := (Option.bind_some _ _).symm.trans H; rw [hy133]; with_reducible exact H2_) | (have H2_ := (Option.bind_some _ _).symm.trans H; with_reducible exact H2_) | with_reducible exact H | (rw [hy133]; exact H) | exact H
                     have Ny133 := Aside0.mk hy133
                     clear hy133
                     obtain ⟨y135, hy135⟩ : ∃ y_ : List (List Bool), y_ = (x3_4.set (x45_3 : Int).toNat y133) := ⟨_, rfl⟩
                     replace H : (calls_table.l4 k4 y135 x40_2 x45_3 (x3_1.length : Int) x40_2 (x3_2.length : Int) x45_3 (x3_3.length : Int) (wrap64 (x50_4 + 1))) = some r := by first | (rw [hy135]; with_reducible exact H) | (have H2_ := (Option.bind_some _ _).symm.trans H; rw [hy135]; with_reducible exact H2_) | (have H2_ := (Option.bind_some _ _).symm.trans H; with_reducible exact H2_) | with_reducible exact H | (rw [hy135]; exact H) | exact H
                     have Ny135 := Aside0.mk hy135
                     clear hy135
                     have H' := Aside0.mk H
                     clear H
                     try go_wp2
                     have n0_ := Aside0.mk (Kd.S_drew HO_3.out)
                     have n1_ := Aside0.mk (blk_drew BK108.out)
                     have n2_ := Aside0.mk (below_drew1 HB.out)
                     clear HO_3
                     clear BK108
                     clear HB
                     have HO_3 := n0_
                     have BK108 := n1_
                     have HB := n2_
                     clear n0_ n1_ n2_
                     have p120 : 0 ≤ (x45_3 : Int) := of_decide_eq_true (by first | (with_reducible assumption) | assumption)
                     have q120 : x45_3 < (x3_4.length : Int) := of_decide_eq_true (by first | (with_reducible assumption) | assumption)
                     obtain ⟨ad120, A120_0, c120_0, e120, hx120_0, hl120_0, hi120_0⟩ := at_L15 (Kd.S_reads' HO_3.out).2.2 x45_3 p120 q120
                     cases e120
                     obtain ⟨ce120, hce120, hMe120, hcc120⟩ := Kd.S_get HO_3.out [] x45_3 p120 (by first | exact q120 | exact of_decide_eq_true (by first | (with_reducible assumption) | assumption) | (have e_ := (Kd.S_reads' HO_3.out).1; omega))
                     obtain ⟨ve120_0, rfl, ge120_0⟩ := hMe120
                     have hv120_0 := hcc120 0 _ rfl
                     rw [Nat.add_zero, show ((Kd.slice 4 Kd.bool)).sz = 1 from rfl, Nat.mul_one] at hv120_0
                     replace hv120_0 := Option.some.inj (hv120_0.symm.trans hx120_0)
                     rw [hv120_0] at ge120_0
                     have HL120_0 := Aside0.mk (show Kd.R Kd.bool 4 _ _ _ _ (rd_L15 x3_4 x45_3) from ge120_0)
                     clear hv120_0 ge120_0
                     have HX120_0 := Aside0.mk hx120_0
                     clear hcc120 hce120
                     have HR120_0 := Aside0.mk hi120_0
                     have HC120_0 := Aside0.mk hl120_0
                     clear hi120_0 hl120_0
                     replace p120 := eq_true p120
                     replace q120 := eq_true q120
                     have p121 : 0 ≤ (x45_3 : Int) := of_decide_eq_true (by first | (with_reducible assumption) | assumption)
                     have q121 : x45_3 < (x3_4.length : Int) := of_decide_eq_true (by first | (with_reducible assumption) | assumption)
                     obtain ⟨ad121, A121_0, c121_0, e121, hx121_0, hl121_0, hi121_0⟩ := at_L15 (Kd.S_reads' HO_3.out).2.2 x45_3 p121 q121
                     obtain rfl : ad120 = ad121 := (by injection e121)
                     obtain ⟨ce121, hce121, hMe121, hcc121⟩ := Kd.S_get HO_3.out [] x45_3 p121 (by first | exact q121 | exact of_decide_eq_true (by first | (with_reducible assumption) | assumption) | (have e_ := (Kd.S_reads' HO_3.out).1; omega))
                     obtain ⟨ve121_0, rfl, ge121_0⟩ := hMe121
                     have hv121_0 := hcc121 0 _ rfl
                     rw [Nat.add_zero, show ((Kd.slice 4 Kd.bool)).sz = 1 from rfl, Nat.mul_one] at hv121_0
                     replace hv121_0 := Option.some.inj (hv121_0.symm.trans hx121_0)
                     rw [hv121_0] at ge121_0
                     have HL121_0 := Aside0.mk (show Kd.R Kd.bool 4 _ _ _ _ (rd_L15 x3_4 x45_3) from ge121_0)
                     clear hv121_0 ge121_0
                     have HX121_0 := Aside0.mk hx121_0
                     clear hcc121 hce121
                     have HR121_0 := Aside0.mk hi121_0
                     have HC121_0 := Aside0.mk hl121_0
                     clear hi121_0 hl121_0
                     replace p121 := eq_true p121
                     replace q121 := eq_true q121
                     have ea_ := Option.some.inj (hx120_0.symm.trans hx121_0)
                     injection ea_ with ea_ en_ ec_
                     subst ea_
                     subst ec_
                     clear en_
                     have p122 : 0 ≤ (x50_4 : Int) := of_decide_eq_true (by first | (with_reducible assumption) | assumption)
                     have q122 : x50_4 < ((rd_L15 x3_4 x45_3).length : Int) := of_decide_eq_true (by first | (with_reducible assumption) | assumption)
                     obtain ⟨ad122, e122, hx122_0⟩ := Kd.at_bool (by repeat (first | (with_reducible exact HR121_0.out) | (with_reducible refine Kd.C_alloc ?_ _) | (with_reducible refine Kd.C_drewN ?_ _) | (with_reducible refine Kd.C_drew ?_) | exact HR121_0.out)) x50_4 p122 q122
                     (try rw [← Nbq33.out] at hx122_0)
                     (try rw [← Nbq41.out] at hx122_0)
                     cases e122
                     replace p122 := eq_true p122
                     replace q122 := eq_true q122
                     have p126 : 0 ≤ (x45_3 : Int) := of_decide_eq_true (by first | (with_reducible assumption) | assumption)
                     have q126 : x45_3 < (x3_4.length : Int) := of_decide_eq_true (by first | (with_reducible assumption) | assumption)
                     obtain ⟨ad126, A126_0, c126_0, e126, hx126_0, hl126_0, hi126_0⟩ := at_L15 (Kd.S_reads' HO_3.out).2.2 x45_3 p126 q126
                     obtain rfl : ad120 = ad126 := (by injection e126)
                     obtain ⟨ce126, hce126, hMe126, hcc126⟩ := Kd.S_get HO_3.out [] x45_3 p126 (by first | exact q126 | exact of_decide_eq_true (by first | (with_reducible assumption) | assumption) | (have e_ := (Kd.S_reads' HO_3.out).1; omega))
                     obtain ⟨ve126_0, rfl, ge126_0⟩ := hMe126
                     have hv126_0 := hcc126 0 _ rfl
                     rw [Nat.add_zero, show ((Kd.slice 4 Kd.bool)).sz = 1 from rfl, Nat.mul_one] at hv126_0
                     replace hv126_0 := Option.some.inj (hv126_0.symm.trans hx126_0)
                     rw [hv126_0] at ge126_0
                     have HL126_0 := Aside0.mk (show Kd.R Kd.bool 4 _ _ _ _ (rd_L15 x3_4 x45_3) from ge126_0)
                     clear hv126_0 ge126_0
                     have HX126_0 := Aside0.mk hx126_0
                     clear hcc126 hce126
                     have HR126_0 := Aside0.mk hi126_0
                     have HC126_0 := Aside0.mk hl126_0
                     clear hi126_0 hl126_0
                     replace p126 := eq_true p126
                     replace q126 := eq_true q126
                     have ea_ := Option.some.inj (hx120_0.symm.trans hx126_0)
                     injection ea_ with ea_ en_ ec_
                     subst ea_
                     subst ec_
                     clear en_
                     have p127 : 0 ≤ (x40_2 : Int) := of_decide_eq_true (by first | (with_reducible assumption) | assumption)
                     have q127 : x40_2 < ((rd_L15 x3_4 x45_3).length : Int) := of_decide_eq_true (by first | (with_reducible assumption) | assumption)
                     obtain ⟨ad127, e127, hx127_0⟩ := Kd.at_bool (by repeat (first | (with_reducible exact HR126_0.out) | (with_reducible refine Kd.C_alloc ?_ _) | (with_reducible refine Kd.C_drewN ?_ _) | (with_reducible refine Kd.C_drew ?_) | exact HR126_0.out)) x40_2 p127 q127
                     (try rw [← Nbq33.out] at hx127_0)
                     (try rw [← Nbq41.out] at hx127_0)
                     cases e127
                     replace p127 := eq_true p127
                     replace q127 := eq_true q127
                     have p49 : 0 ≤ (x50_4 : Int) := of_decide_eq_true (by first | (with_reducible assumption) | assumption)
                     have q49 : (x50_4 : Int) < (((rd_L15 x3_4 x45_3).length : Int) : Int) := of_decide_eq_true (by first | (with_reducible assumption) | assumption)
                     obtain ⟨go49, co49, eo49, gb49, gl49, cl49, HG49⟩ := Kd.R_form HL120_0.out (by omega)
                     (first | cases eo49 | (injection eo49 with ea_ en_ ec_; (first | subst ea_ | (injection ea_ with ea_; subst ea_)); subst ec_; clear en_))
                     have GB49 := Aside0.mk gb49
                     have GG49 := Aside0.mk HG49
                     clear gb49 gl49 HG49
                     (first | simp only [add_plain] at hx127_0 | skip)
                     obtain ⟨hx49_0, hf49_0⟩ := Kd.R_celln false HL120_0.out (x50_4 : Int) p49 q49
                     replace p49 := eq_true p49
                     replace q49 := eq_true q49
                     have hq51 : (x45_3 : Int) < (x3_4.length : Int) := (by have h_ : (x45_3 : Int) < ((x3_4.length : Int) : Int) := of_decide_eq_true (by first | (with_reducible assumption) | assumption); first | exact h_ | (have e_ := (Kd.S_reads' HO_3.out).1; omega) | simpa only [List.length_set, List.length_set] using h_)
                     obtain ⟨oki51, ce51, hcl51, hM51, hcc51, hok51, hbk51⟩ := Kd.S_borrow HO_3.out [] (x45_3 : Int) (of_decide_eq_true (by first | (with_reducible assumption) | assumption)) hq51
                     obtain ⟨ve51_0, rfl, ge51_0⟩ := hM51
                     have hv51 := hcc51 0 _ rfl
                     rw [Nat.add_zero, show ((Kd.slice 4 Kd.bool)).sz = 1 from rfl, Nat.mul_one] at hv51
                     replace hv51 := Option.some.inj (hv51.symm.trans HX120_0.out)
                     subst hv51
                     clear hcc51 hcl51
                     replace ge51_0 := (show Kd.R Kd.bool 4 _ _ _ _ (rd_L15 x3_4 x45_3) from ge51_0)
                     have HP51 := Kd.R_putg ge51_0 (x50_4 : Int) false
                     rw [← Ny133.out] at HP51
                     have HS51 := hbk51 HP51.2 (fun k_ e_ => by injection e_ with e_; subst e_; exact ge51_0.1 _ rfl) (x' := y133) (Kd.M_row HP51.1)
                     rw [← Ny135.out] at HS51
                     have HQ51 := Aside0.mk HS51
                     clear HP51 HS51 hbk51 hok51
                     (try simp only [add_plain] at hx122_0)
                     refine start_ (n := 32) (S := fun w' => w'.cell? (ad120.add (x45_3).toNat) = some (.slice (some ⟨go49, 0, none⟩) (rd_L15 x3_4 x45_3).length c120_0) ∧ w'.cell? (ad120.add (x45_3).toNat) = some (.slice (some ⟨go49, 0, none⟩) (rd_L15 x3_4 x45_3).length c120_0) ∧ w'.cell? ⟨go49, (x50_4).toNat, none⟩ = some (.bool false) ∧ w'.cell? (ad120.add (x45_3).toNat) = some (.slice (some ⟨go49, 0, none⟩) (rd_L15 x3_4 x45_3).length c120_0) ∧ w'.cell? ⟨go49, (x40_2).toNat, none⟩ = some (.bool false)) (ds := [31]) #[false, false, false, false, false, false, false, false, false, false, false, false, false, false, false, false, false, false, false, false, false, false, false, false, false, false, false, false, false, false, false, false] (by kernel_rfl) rfl rfl ⟨hx120_0, hx121_0, hx122_0, hx126_0, hx127_0⟩ (fun hHeld => ?_); refine with_tabW calls_table.tab22 calls_table.bits22 (fun HT_ HW_ => ?_)
                     generalize wr.drew = w50 at HO_3 BK108 HB GG49 HL120_0 HL121_0 HL126_0 HQ51 HR120_0 HR121_0 HR126_0 HX120_0 HX121_0 HX126_0 hf49_0 hx120_0 hx121_0 hx122_0 hx126_0 hx127_0 hx49_0 hHeld ⊢
                     refine pure_ (i := 0) (N := some 53) (v := ?_) (a' := ?_) #[true, false, false, false, false, false, false, false, false, false, false, false, false, false, false, false, false, false, false, false, false, false, false, false, false, false, false, false, false, false, false, false] rfl rfl (any_of HT_.out (by kernel_rfl)) (fun _ _ _ h => h) (Or.inl ⟨by rfl, ?_⟩) ?_ ?_
                     rotate_left
                     ·intro w'
                      go_simp
                      with_reducible rfl
                     rotate_left
                     ·simp only [Act.put, List.setIfInBounds_toArray, List.set_cons_zero, List.set_cons_succ, i64_w, i32_w]
                      rfl
                     refine pure_ (i := 1) (N := some 54) (v := ?_) (a' := ?_) #[true, true, false, false, false, false, false, false, false, false, false, false, false, false, false, false, false, false, false, false, false, false, false, false, false, false, false, false, false, false, false, false] rfl rfl (any_of HT_.out (by kernel_rfl)) (fun _ _ _ h => h) (Or.inl ⟨by rfl, ?_⟩) ?_ ?_
                     rotate_left
                     ·intro w'
                      go_simp
                      with_reducible rfl
                     rotate_left
                     ·simp only [Act.put, List.setIfInBounds_toArray, List.set_cons_zero, List.set_cons_succ, i64_w, i32_w]
                      rfl
                     refine pure_ (i := 2) (N := some 55) (v := ?_) (a' := ?_) #[true, true, true, false, false, false, false, false, false, false, false, false, false, false, false, false, false, false, false, false, false, false, false, false, false, false, false, false, false, false, false, false] rfl rfl (any_of HT_.out (by kernel_rfl)) (fun _ _ _ h => h) (Or.inl ⟨by rfl, ?_⟩) ?_ ?_
                     rotate_left
                     ·intro w'
                      go_simp
                      with_reducible rfl
                     rotate_left
                     ·simp only [Act.put, List.setIfInBounds_toArray, List.set_cons_zero, List.set_cons_succ, i64_w, i32_w]
                      rfl
                     refine pure_ (i := 4) (N := some 57) (v := ?_) (a' := ?_) #[true, true, true, false, true, false, false, false, false, false, false, false, false, false, false, false, false, false, false, false, false, false, false, false, false, false, false, false, false, false, false, false] rfl rfl (any_of HT_.out (by kernel_rfl)) (fun _ _ _ h => h) (Or.inl ⟨by rfl, ?_⟩) ?_ ?_
                     rotate_left
                     ·intro w'
                      go_simp
                      with_reducible rfl
                     rotate_left
                     ·simp only [Act.put, List.setIfInBounds_toArray, List.set_cons_zero, List.set_cons_succ, i64_w, i32_w]
                      rfl
                     refine pure_ (i := 5) (N := some 58) (v := ?_) (a' := ?_) #[true, true, true, false, true, true, false, false, false, false, false, false, false, false, false, false, false, false, false, false, false, false, false, false, false, false, false, false, false, false, false, false] rfl rfl (any_of HT_.out (by kernel_rfl)) (fun _ _ _ h => h) (Or.inl ⟨by rfl, ?_⟩) ?_ ?_
                     rotate_left
                     ·intro w'
                      go_simp
                      with_reducible rfl
                     rotate_left
                     ·simp only [Act.put, List.setIfInBounds_toArray, List.set_cons_zero, List.set_cons_succ, i64_w, i32_w]
                      rfl
                     refine pure_ (i := 6) (N := some 59) (v := ?_) (a' := ?_) #[true, true, true, false, true, true, true, false, false, false, false, false, false, false, false, false, false, false, false, false, false, false, false, false, false, false, false, false, false, false, false, false] rfl rfl (any_of HT_.out (by kernel_rfl)) (fun _ _ _ h => h) (Or.inl ⟨by rfl, ?_⟩) ?_ ?_
                     rotate_left
                     ·intro w'
                      go_simp
                      with_reducible rfl
                     rotate_left
                     ·simp only [Act.put, List.setIfInBounds_toArray, List.set_cons_zero, List.set_cons_succ, i64_w, i32_w]
                      rfl
                     refine pure_ (i := 7) (N := some 60) (v := ?_) (a' := ?_) #[true, true, true, false, true, true, true, true, false, false, false, false, false, false, false, false, false, false, false, false, false, false, false, false, false, false, false, false, false, false, false, false] rfl rfl (any_of HT_.out (by kernel_rfl)) (fun _ _ _ h => h) (Or.inl ⟨by rfl, ?_⟩) ?_ ?_
                     rotate_left
                     ·intro w'
                      go_simp
                      with_reducible rfl
                     rotate_left
                     ·simp only [Act.put, List.setIfInBounds_toArray, List.set_cons_zero, List.set_cons_succ, i64_w, i32_w]
                      rfl
                     refine pure_ (i := 9) (N := some 62) (v := ?_) (a' := ?_) #[true, true, true, false, true, true, true, true, false, true, false, false, false, false, false, false, false, false, false, false, false, false, false, false, false, false, false, false, false, false, false, false] rfl rfl (any_of HT_.out (by kernel_rfl)) (fun _ _ _ h => h) (Or.inl ⟨by rfl, ?_⟩) ?_ ?_
                     rotate_left
                     ·intro w'
                      go_simp
                      with_reducible rfl
                     rotate_left
                     ·simp only [Act.put, List.setIfInBounds_toArray, List.set_cons_zero, List.set_cons_succ, i64_w, i32_w]
                      rfl
                     refine take_ (i := 3) (N := some 56) (v := ?_) (a' := ?_) #[true, true, true, true, true, true, true, true, false, true, false, false, false, false, false, false, false, false, false, false, false, false, false, false, false, false, false, false, false, false, false, false] rfl rfl (take_ofW HT_.out HW_.out (by kernel_rfl)) (fun _ _ _ h => h) (Or.inl ⟨by rfl, ?_⟩) hHeld ?_ ?_
                     rotate_left
                     ·rintro w' ⟨s0, s1, s2, s3, s4⟩
                      go_simp
                      with_reducible rfl
                     rotate_left
                     ·simp only [Act.put, List.setIfInBounds_toArray, List.set_cons_zero, List.set_cons_succ, i64_w, i32_w]
                      rfl
                     refine take_ (i := 8) (N := some 61) (v := ?_) (a' := ?_) #[true, true, true, true, true, true, true, true, true, true, false, false, false, false, false, false, false, false, false, false, false, false, false, false, false, false, false, false, false, false, false, false] rfl rfl (take_ofW HT_.out HW_.out (by kernel_rfl)) (fun _ _ _ h => h) (Or.inl ⟨by rfl, ?_⟩) hHeld ?_ ?_
                     rotate_left
                     ·rintro w' ⟨s0, s1, s2, s3, s4⟩
                      go_simp
                      with_reducible rfl
                     rotate_left
                     ·simp only [Act.put, List.setIfInBounds_toArray, List.set_cons_zero, List.set_cons_succ, i64_w, i32_w]
                      rfl
                     refine pure_ (i := 10) (N := some 63) (v := ?_) (a' := ?_) #[true, true, true, true, true, true, true, true, true, true, true, false, false, false, false, false, false, false, false, false, false, false, false, false, false, false, false, false, false, false, false, false] rfl rfl (any_of HT_.out (by kernel_rfl)) (fun _ _ _ h => h) (Or.inl ⟨by rfl, ?_⟩) ?_ ?_
                     rotate_left
                     ·intro w'
                      go_simp
                      with_reducible rfl
                     rotate_left
                     ·simp only [Act.put, List.setIfInBounds_toArray, List.set_cons_zero, List.set_cons_succ, i64_w, i32_w]
                      rfl
                     refine take_ (i := 11) (N := some 64) (v := ?_) (a' := ?_) #[true, true, true, true, true, true, true, true, true, true, true, true, false, false, false, false, false, false, false, false, false, false, false, false, false, false, false, false, false, false, false, false] rfl rfl (take_ofW HT_.out HW_.out (by kernel_rfl)) (fun _ _ _ h => h) (Or.inl ⟨by rfl, ?_⟩) hHeld ?_ ?_
                     rotate_left
                     ·rintro w' ⟨s0, s1, s2, s3, s4⟩
                      go_simp
                      with_reducible rfl
                     rotate_left
                     ·simp only [Act.put, List.setIfInBounds_toArray, List.set_cons_zero, List.set_cons_succ, i64_w, i32_w]
                      rfl
                     refine pure_ (i := 12) (N := some 65) (v := ?_) (a' := ?_) #[true, true, true, true, true, true, true, true, true, true, true, true, true, false, false, false, false, false, false, false, false, false, false, false, false, false, false, false, false, false, false, false] rfl rfl (any_of HT_.out (by kernel_rfl)) (fun _ _ _ h => h) (Or.inl ⟨by rfl, ?_⟩) ?_ ?_
                     rotate_left
                     ·intro w'
                      go_simp
                      with_reducible rfl
                     rotate_left
                     ·simp only [Act.put, List.setIfInBounds_toArray, List.set_cons_zero, List.set_cons_succ, i64_w, i32_w]
                      rfl
                     refine pure_ (i := 13) (N := some 66) (v := ?_) (a' := ?_) #[true, true, true, true, true, true, true, true, true, true, true, true, true, true, false, false, false, false, false, false, false, false, false, false, false, false, false, false, false, false, false, false] rfl rfl (any_of HT_.out (by kernel_rfl)) (fun _ _ _ h => h) (Or.inl ⟨by rfl, ?_⟩) ?_ ?_
                     rotate_left
                     ·intro w'
                      go_simp
                      with_reducible rfl
                     rotate_left
                     ·simp only [Act.put, List.setIfInBounds_toArray, List.set_cons_zero, List.set_cons_succ, i64_w, i32_w]
                      rfl
                     refine pure_ (i := 14) (N := some 67) (v := ?_) (a' := ?_) #[true, true, true, true, true, true, true, true, true, true, true, true, true, true, true, false, false, false, false, false, false, false, false, false, false, false, false, false, false, false, false, false] rfl rfl (any_of HT_.out (by kernel_rfl)) (fun _ _ _ h => h) (Or.inl ⟨by rfl, ?_⟩) ?_ ?_
                     rotate_left
                     ·intro w'
                      go_simp
                      with_reducible rfl
                     rotate_left
                     ·simp only [Act.put, List.setIfInBounds_toArray, List.set_cons_zero, List.set_cons_succ, i64_w, i32_w]
                      rfl
                     refine pure_ (i := 15) (N := some 68) (v := ?_) (a' := ?_) #[true, true, true, true, true, true, true, true, true, true, true, true, true, true, true, true, false, false, false, false, false, false, false, false, false, false, false, false, false, false, false, false] rfl rfl (any_of HT_.out (by kernel_rfl)) (fun _ _ _ h => h) (Or.inl ⟨by rfl, ?_⟩) ?_ ?_
                     rotate_left
                     ·intro w'
                      go_simp
                      with_reducible rfl
                     rotate_left
                     ·simp only [Act.put, List.setIfInBounds_toArray, List.set_cons_zero, List.set_cons_succ, i64_w, i32_w]
                      rfl
                     refine pure_ (i := 17) (N := some 70) (v := ?_) (a' := ?_) #[true, true, true, true, true, true, true, true, true, true, true, true, true, true, true, true, false, true, false, false, false, false, false, false, false, false, false, false, false, false, false, false] rfl rfl (any_of HT_.out (by kernel_rfl)) (fun _ _ _ h => h) (Or.inl ⟨by rfl, ?_⟩) ?_ ?_
                     rotate_left
                     ·intro w'
                      go_simp
                      with_reducible rfl
                     rotate_left
                     ·simp only [Act.put, List.setIfInBounds_toArray, List.set_cons_zero, List.set_cons_succ, i64_w, i32_w]
                      rfl
                     refine take_ (i := 16) (N := some 69) (v := ?_) (a' := ?_) #[true, true, true, true, true, true, true, true, true, true, true, true, true, true, true, true, true, true, false, false, false, false, false, false, false, false, false, false, false, false, false, false] rfl rfl (take_ofW HT_.out HW_.out (by kernel_rfl)) (fun _ _ _ h => h) (Or.inl ⟨by rfl, ?_⟩) hHeld ?_ ?_
                     rotate_left
                     ·rintro w' ⟨s0, s1, s2, s3, s4⟩
                      go_simp
                      with_reducible rfl
                     rotate_left
                     ·simp only [Act.put, List.setIfInBounds_toArray, List.set_cons_zero, List.set_cons_succ, i64_w, i32_w]
                      rfl
                     refine pure_ (i := 18) (N := some 71) (v := ?_) (a' := ?_) #[true, true, true, true, true, true, true, true, true, true, true, true, true, true, true, true, true, true, true, false, false, false, false, false, false, false, false, false, false, false, false, false] rfl rfl (any_of HT_.out (by kernel_rfl)) (fun _ _ _ h => h) (Or.inl ⟨by rfl, ?_⟩) ?_ ?_
                     rotate_left
                     ·intro w'
                      go_simp
                      with_reducible rfl
                     rotate_left
                     ·simp only [Act.put, List.setIfInBounds_toArray, List.set_cons_zero, List.set_cons_succ, i64_w, i32_w]
                      rfl
                     refine take_ (i := 19) (N := some 72) (v := ?_) (a' := ?_) #[true, true, true, true, true, true, true, true, true, true, true, true, true, true, true, true, true, true, true, true, false, false, false, false, false, false, false, false, false, false, false, false] rfl rfl (take_ofW HT_.out HW_.out (by kernel_rfl)) (fun _ _ _ h => h) (Or.inl ⟨by rfl, ?_⟩) hHeld ?_ ?_
                     rotate_left
                     ·rintro w' ⟨s0, s1, s2, s3, s4⟩
                      go_simp
                      with_reducible rfl
                     rotate_left
                     ·simp only [Act.put, List.setIfInBounds_toArray, List.set_cons_zero, List.set_cons_succ, i64_w, i32_w]
                      rfl
                     refine pure_ (i := 20) (N := some 73) (v := ?_) (a' := ?_) #[true, true, true, true, true, true, true, true, true, true, true, true, true, true, true, true, true, true, true, true, true, false, false, false, false, false, false, false, false, false, false, false] rfl rfl (any_of HT_.out (by kernel_rfl)) (fun _ _ _ h => h) (Or.inl ⟨by rfl, ?_⟩) ?_ ?_
                     rotate_left
                     ·intro w'
                      go_simp
                      with_reducible rfl
                     rotate_left
                     ·simp only [Act.put, List.setIfInBounds_toArray, List.set_cons_zero, List.set_cons_succ, i64_w, i32_w]
                      rfl
                     refine pure_ (i := 21) (N := some 74) (v := undef) (a' := ?_) #[true, true, true, true, true, true, true, true, true, true, true, true, true, true, true, true, true, true, true, true, true, true, false, false, false, false, false, false, false, false, false, false] rfl rfl (any_of HT_.out (by kernel_rfl)) (fun _ _ _ h => h) (Or.inr ⟨by rfl, rfl⟩) ?_ ?_
                     rotate_left
                     ·simp only [Act.put, List.setIfInBounds_toArray, List.set_cons_zero, List.set_cons_succ, i64_w, i32_w]
                      rfl
                     refine pure_ (i := 22) (N := some 75) (v := undef) (a' := ?_) #[true, true, true, true, true, true, true, true, true, true, true, true, true, true, true, true, true, true, true, true, true, true, true, false, false, false, false, false, false, false, false, false] rfl rfl (any_of HT_.out (by kernel_rfl)) (fun _ _ _ h => h) (Or.inr ⟨by rfl, rfl⟩) ?_ ?_
                     rotate_left
                     ·simp only [Act.put, List.setIfInBounds_toArray, List.set_cons_zero, List.set_cons_succ, i64_w, i32_w]
                      rfl
                     refine pure_ (i := 23) (N := some 76) (v := undef) (a' := ?_) #[true, true, true, true, true, true, true, true, true, true, true, true, true, true, true, true, true, true, true, true, true, true, true, true, false, false, false, false, false, false, false, false] rfl rfl (any_of HT_.out (by kernel_rfl)) (fun _ _ _ h => h) (Or.inr ⟨by rfl, rfl⟩) ?_ ?_
                     rotate_left
                     ·simp only [Act.put, List.setIfInBounds_toArray, List.set_cons_zero, List.set_cons_succ, i64_w, i32_w]
                      rfl
                     refine pure_ (i := 24) (N := some 77) (v := undef) (a' := ?_) #[true, true, true, true, true, true, true, true, true, true, true, true, true, true, true, true, true, true, true, true, true, true, true, true, true, false, false, false, false, false, false, false] rfl rfl (any_of HT_.out (by kernel_rfl)) (fun _ _ _ h => h) (Or.inr ⟨by rfl, rfl⟩) ?_ ?_
                     rotate_left
                     ·simp only [Act.put, List.setIfInBounds_toArray, List.set_cons_zero, List.set_cons_succ, i64_w, i32_w]
                      rfl
                     refine pure_ (i := 25) (N := some 78) (v := undef) (a' := ?_) #[true, true, true, true, true, true, true, true, true, true, true, true, true, true, true, true, true, true, true, true, true, true, true, true, true, true, false, false, false, false, false, false] rfl rfl (any_of HT_.out (by kernel_rfl)) (fun _ _ _ h => h) (Or.inr ⟨by rfl, rfl⟩) ?_ ?_
                     rotate_left
                     ·simp only [Act.put, List.setIfInBounds_toArray, List.set_cons_zero, List.set_cons_succ, i64_w, i32_w]
                      rfl
                     refine pure_ (i := 26) (N := some 79) (v := undef) (a' := ?_) #[true, true, true, true, true, true, true, true, true, true, true, true, true, true, true, true, true, true, true, true, true, true, true, true, true, true, true, false, false, false, false, false] rfl rfl (any_of HT_.out (by kernel_rfl)) (fun _ _ _ h => h) (Or.inr ⟨by rfl, rfl⟩) ?_ ?_
                     rotate_left
                     ·simp only [Act.put, List.setIfInBounds_toArray, List.set_cons_zero, List.set_cons_succ, i64_w, i32_w]
                      rfl
                     refine pure_ (i := 27) (N := some 80) (v := undef) (a' := ?_) #[true, true, true, true, true, true, true, true, true, true, true, true, true, true, true, true, true, true, true, true, true, true, true, true, true, true, true, true, false, false, false, false] rfl rfl (any_of HT_.out (by kernel_rfl)) (fun _ _ _ h => h) (Or.inr ⟨by rfl, rfl⟩) ?_ ?_
                     rotate_left
                     ·simp only [Act.put, List.setIfInBounds_toArray, List.set_cons_zero, List.set_cons_succ, i64_w, i32_w]
                      rfl
                     refine pure_ (i := 28) (N := some 81) (v := ?_) (a' := ?_) #[true, true, true, true, true, true, true, true, true, true, true, true, true, true, true, true, true, true, true, true, true, true, true, true, true, true, true, true, true, false, false, false] rfl rfl (any_of HT_.out (by kernel_rfl)) (fun _ _ _ h => h) (Or.inl ⟨by rfl, ?_⟩) ?_ ?_
                     rotate_left
                     ·intro w'
                      go_simp
                      with_reducible rfl
                     rotate_left
                     ·simp only [Act.put, List.setIfInBounds_toArray, List.set_cons_zero, List.set_cons_succ, i64_w, i32_w]
                      rfl
                     refine pure_ (i := 29) (N := some 82) (v := ?_) (a' := ?_) #[true, true, true, true, true, true, true, true, true, true, true, true, true, true, true, true, true, true, true, true, true, true, true, true, true, true, true, true, true, true, false, false] rfl rfl (any_of HT_.out (by kernel_rfl)) (fun _ _ _ h => h) (Or.inl ⟨by rfl, ?_⟩) ?_ ?_
                     rotate_left
                     ·intro w'
                      go_simp
                      with_reducible rfl
                     rotate_left
                     ·simp only [Act.put, List.setIfInBounds_toArray, List.set_cons_zero, List.set_cons_succ, i64_w, i32_w]
                      rfl
                     refine pure_ (i := 30) (N := some 83) (v := ?_) (a' := ?_) #[true, true, true, true, true, true, true, true, true, true, true, true, true, true, true, true, true, true, true, true, true, true, true, true, true, true, true, true, true, true, true, false] rfl rfl (any_of HT_.out (by kernel_rfl)) (fun _ _ _ h => h) (Or.inl ⟨by rfl, ?_⟩) ?_ ?_
                     rotate_left
                     ·intro w'
                      go_simp
                      with_reducible rfl
                     rotate_left
                     ·simp only [Act.put, List.setIfInBounds_toArray, List.set_cons_zero, List.set_cons_succ, i64_w, i32_w]
                      rfl
                     refine last_ (i := 31) (N := none) #[true, true, true, true, true, true, true, true, true, true, true, true, true, true, true, true, true, true, true, true, true, true, true, true, true, true, true, true, true, true, true, true] rfl rfl (one_of HT_.out (by kernel_rfl)) (by decide) (fun K hK => ?_)
                     refine skip_ (w1 := ?_) (by rfl) rfl ?_ ?_
                     rotate_left
                     ·go_simp
                      rfl
                     refine hK.out _ _ ?_
                     clear hK K
                     refine done_ (done_of HT_.out (by kernel_rfl)) ?_
                     try go_wp2
                     (try simp only [← hl3_4])
                     go_roundg k4
                     case measure => have := HK1.out; have := HK2.out; have := HK3.out; have := HK4.out; omega
                     case rel => exact ⟨(y135), (wrap64 (x50_4 + 1)), (by first | rfl | (simp; done) | (simp [*]; done)), H', ⟨by have := HK1.out; have := HK2.out; have := HK3.out; have := HK4.out; omega⟩, ⟨by (try simp only [hl3_2]); (try simp only [hl3_3]); (try simp only [hl3_4]); (with_reducible repeat (first | apply Kd.S_alloc | apply Kd.S_drewN | apply Kd.S_drew)); exact HQ51.out⟩, ⟨by (try simp only [hl3_2]); (try simp only [hl3_3]); (try simp only [hl3_4]); (with_reducible repeat (first | refine blk_drewN ?_ _ | refine blk_drew ?_ | refine blk_alloc ?_ _)); refine blk_far ?_ (by have h_ := Kd.R_ne HL120_0.out BK108.out (by decide); intro e_; exact h_ (by rw [e_]; rfl)) _; (with_reducible repeat (first | refine blk_drewN ?_ _ | refine blk_drew ?_ | refine blk_alloc ?_ _)); exact BK108.out⟩, ⟨by repeat (first | (with_reducible first | exact HB.out | apply below_alloc | apply pw_below_drewN | apply below_drew1 | refine below_set ?_ GB49.out | refine below_set ?_ GE108.out) | exact HB.out)⟩⟩
                   ·rw [if_neg c40] at H
                    exact absurd H (by simp)
                  ·rw [if_neg c39] at H
                   exact absurd H (by simp)
                ·rw [if_neg c32] at H
                 exact absurd H (by simp)
               ·rw [if_neg c31] at H
                exact absurd H (by simp)
              ·rw [if_neg c30] at H
               exact absurd H (by simp)
             ·rw [if_neg c29] at H
              exact absurd H (by simp)
            ·rw [if_neg c28] at H
             have c28b0 : decide (x50_4 < (x3_3.length : Int)) = false := decide_eq_false c28
             have c28b0z := c28b0
             (try simp only [hl3_2, hl3_3, hl3_4] at c28b0z)
             clear c28
             have H' := Aside0.mk H
             clear H
             go_wp2
             (try simp only [← hl3_3, ← hl3_4])
             go_roundg k4
             case measure => have := HK1.out; have := HK2.out; have := HK3.out; have := HK4.out; omega
             case rel => exact ⟨(x3_4), (wrap64 (x45_3 + 1)), (by first | rfl | (simp; done) | (simp [*]; done)), H', ⟨by have := HK1.out; have := HK2.out; have := HK3.out; have := HK4.out; omega⟩, ⟨by (try simp only [hl3_2]); (try simp only [hl3_3]); (try simp only [hl3_4]); (with_reducible repeat (first | apply Kd.S_alloc | apply Kd.S_drewN | apply Kd.S_drew)); exact HO_3.out⟩, ⟨by (try simp only [hl3_2]); (try simp only [hl3_3]); (try simp only [hl3_4]); (with_reducible repeat (first | refine blk_drewN ?_ _ | refine blk_drew ?_ | refine blk_alloc ?_ _)); exact BK108.out⟩, ⟨by repeat (first | (with_reducible first | exact HB.out | apply below_alloc | apply pw_below_drewN | apply below_drew1 | refine below_set ?_ GE108.out) | exact HB.out)⟩⟩
         ·rw [if_neg c27] at H
          have c27b0 : decide (x45_3 < (x3_2.length : Int)) = false := decide_eq_false c27
          have c27b0z := c27b0
          (try simp only [hl3_2, hl3_3] at c27b0z)
          clear c27
          have H' := Aside0.mk H
          clear H
          go_wp2
          (try simp only [← hl3_2, ← hl3_3])
          go_roundg k3
          case measure => have := HK1.out; have := HK2.out; have := HK3.out; omega
          case rel => exact ⟨(x3_3), (wrap64 (x40_2 + 1)), (by first | rfl | (simp; done) | (simp [*]; done)), H', ⟨by have := HK1.out; have := HK2.out; have := HK3.out; omega⟩, ⟨by (try simp only [hl3_2]); (try simp only [hl3_3]); (with_reducible repeat (first | apply Kd.S_alloc | apply Kd.S_drewN | apply Kd.S_drew)); exact HO_3.out⟩, ⟨by (try simp only [hl3_2]); (try simp only [hl3_3]); (with_reducible repeat (first | refine blk_drewN ?_ _ | refine blk_drew ?_ | refine blk_alloc ?_ _)); exact BK108.out⟩, ⟨by repeat (first | (with_reducible first | exact HB.out | apply below_alloc | apply pw_below_drewN | apply below_drew1 | refine below_set ?_ GE108.out) | exact HB.out)⟩⟩
      ·rw [if_neg c26] at H
       have c26b0 : decide (x40_2 < (x3_1.length : Int)) = false := decide_eq_false c26
       have c26b0z := c26b0
       (try simp only [hl3_2] at c26b0z)
       clear c26
       obtain rfl := Option.some.inj H
       go_wp2
       go_ret
       exact ⟨_, by first | rfl | (simp [errW_none, errW_some] <;> rfl) | (simp [*, errW_none, errW_some] <;> rfl), by (with_reducible repeat (first | apply Kd.S_alloc | apply Kd.S_drewN | apply Kd.S_drew)); exact HO_3.out, by repeat (first | (with_reducible first | exact HB.out | apply below_alloc | apply pw_below_drewN | apply below_drew1 | refine below_set ?_ GE108.out) | exact HB.out)⟩
end
end Go.Proofs.Ytjjcnbfmmhokeaa.X
namespace Go.Proofs.Ytjjcnbfmmhokeaa.X
open Go.RowKit Go.Proofs.YtjjcnbfmmhokeaaW.PrintWords Go.Proofs.YtjjcnbfmmhokeaaW.PrintLast Go.Proofs.YtjjcnbfmmhokeaaW.PrintMore
attribute [local go_sem] max2_int min2_int max_two min_two max_three min_three max_four min_four
set_option linter.all false
noncomputable section
def calls_Comes.f (k : Nat) (l0_0 : List (S33)) (a1 : Int) (a2 : Int) : Option (Bool) := if a1 < 0 then (some false) else (if a1 ≥ (l0_0.length : Int) then (some false) else (if a2 < 0 then (some false) else (if a2 ≥ (l0_0.length : Int) then (some false) else ((calls_table.f k l0_0).bind fun t137 => (if 0 ≤ a1 then (if a1 < (t137.length : Int) then (if 0 ≤ a2 then (if a2 < ((rd_L15 t137 a1).length : Int) then (some (rdOf false (rd_L15 t137 a1) a2)) else (none)) else (none)) else (none)) else (none))))))
theorem calls_Comes.mono : ∀ a0 a1 a2 k, LeO (calls_Comes.f k a0 a1 a2) (calls_Comes.f (k + 1) a0 a1 a2) := by
 intro a0 a1 a2 k
 unfold calls_Comes.f
 repeat' first
   | (with_reducible exact calls_table.mono _ _)
   | (with_reducible exact LeO.refl _)
   | (with_reducible exact LeO.none _)
   | (with_reducible refine LeO.ite ?_ ?_)
   | (with_reducible refine LeO.bind ?_ (fun _ => ?_))
   | exact calls_table.mono _ _
   | exact LeO.none _
   | refine LeO.ite ?_ ?_
   | refine LeO.bind ?_ (fun _ => ?_)
set_option maxHeartbeats 8000000 in
set_option maxRecDepth 100000 in
theorem calls_Comes.calls (k : Nat) (A0_0 : Option Addr) (c0_0 : Nat) (l0_0 : List (S33)) (a1 : Int) (a2 : Int) (r : Bool) (w : World) (hr0_0 : Kd.C k33 w A0_0 l0_0.length l0_0) (hc0_0 : l0_0.length ≤ c0_0) (h : calls_Comes.f k l0_0 a1 a2 = some r) :
  Calls Try.prog 9 #[.agg #[.slice A0_0 l0_0.length c0_0], .int .i64 a1, .int .i64 a2] w fun e w' => e = .returned (.bool r) ∧ Below w.heap.size w w' := by
 have hu24 := Try.underlying24
 have HR0_0 := Aside0.mk hr0_0
 have HC0_0 := Aside0.mk hc0_0
 clear hr0_0 hc0_0
 have HB := Aside0.mk (Below.refl w.heap.size w)
 have H : (if a1 < 0 then (some false) else (if a1 ≥ (l0_0.length : Int) then (some false) else (if a2 < 0 then (some false) else (if a2 ≥ (l0_0.length : Int) then (some false) else ((calls_table.f k l0_0).bind fun t137 => (if 0 ≤ a1 then (if a1 < (t137.length : Int) then (if 0 ≤ a2 then (if a2 < ((rd_L15 t137 a1).length : Int) then (some (rdOf false (rd_L15 t137 a1) a2)) else (none)) else (none)) else (none)) else (none))))))) = some r := h
 clear h
 by_cases c4 : a1 < 0
 ·rw [if_pos c4] at H
  have c4b0 : decide (a1 < 0) = true := decide_eq_true c4
  clear c4
  obtain rfl := Option.some.inj H
  go_enter Try.func9, Try.ntmps9
  go_wp2_with (first | ((with_reducible refine gate_dst (N := 3) rfl ?_); (try (refine gate_guard (by rfl) ?_; dsimp only)); refine box_event ?hg (N := 3) ?hd (cs := #[.slice A0_0 l0_0.length c0_0]) (t := 24) ?hr ?_; (case hd => rfl); (case hg => rfl); (case hr => first | (go_simp; done) | (go_simp; rfl)); intro gb136 hg w5 hbox hb; have n0_ := Aside0.mk (below_step (by repeat (first | (with_reducible first | exact HB.out | apply below_alloc | apply pw_below_drewN | apply below_drew1) | exact HB.out)) hb); have n1_ := Aside0.mk (hbox); have n2_ := Aside0.mk ((by rw [hg]; exact (below_size (by repeat (first | (with_reducible first | exact HB.out | apply below_alloc | apply pw_below_drewN | apply below_drew1) | exact HB.out))) : w.heap.size ≤ gb136)); have n3_ := Aside0.mk ((by rw [hg]; exact (below_size (by repeat (first | (with_reducible first | exact HB.out | apply below_alloc | apply pw_below_drewN | apply below_drew1) | exact HB.out))) : w.heap.size ≤ gb136)); clear HB; have HB := n0_; have BK136 := n1_; have GW136 := n2_; have GE136 := n3_; clear n0_ n1_ n2_ n3_; clear hb hbox hg))
  go_ret
  exact ⟨by first | rfl | (simp [errW_none, errW_some] <;> rfl) | (simp [*, errW_none, errW_some] <;> rfl), by repeat (first | (with_reducible first | exact HB.out | apply below_alloc | apply pw_below_drewN | apply below_drew1 | refine below_set ?_ GE136.out) | exact HB.out)⟩
 ·rw [if_neg c4] at H
  have c4b0 : decide (a1 < 0) = false := decide_eq_false c4
  clear c4
  by_cases c6 : a1 ≥ (l0_0.length : Int)
  ·rw [if_pos c6] at H
   have c6b0 : decide ((l0_0.length : Int) ≤ a1) = true := decide_eq_true c6
   clear c6
   obtain rfl := Option.some.inj H
   go_enter Try.func9, Try.ntmps9
   go_wp2_with (first | ((with_reducible refine gate_dst (N := 3) rfl ?_); (try (refine gate_guard (by rfl) ?_; dsimp only)); refine box_event ?hg (N := 3) ?hd (cs := #[.slice A0_0 l0_0.length c0_0]) (t := 24) ?hr ?_; (case hd => rfl); (case hg => rfl); (case hr => first | (go_simp; done) | (go_simp; rfl)); intro gb136 hg w7 hbox hb; have n0_ := Aside0.mk (below_step (by repeat (first | (with_reducible first | exact HB.out | apply below_alloc | apply pw_below_drewN | apply below_drew1) | exact HB.out)) hb); have n1_ := Aside0.mk (hbox); have n2_ := Aside0.mk ((by rw [hg]; exact (below_size (by repeat (first | (with_reducible first | exact HB.out | apply below_alloc | apply pw_below_drewN | apply below_drew1) | exact HB.out))) : w.heap.size ≤ gb136)); have n3_ := Aside0.mk ((by rw [hg]; exact (below_size (by repeat (first | (with_reducible first | exact HB.out | apply below_alloc | apply pw_below_drewN | apply below_drew1) | exact HB.out))) : w.heap.size ≤ gb136)); clear HB; have HB := n0_; have BK136 := n1_; have GW136 := n2_; have GE136 := n3_; clear n0_ n1_ n2_ n3_; clear hb hbox hg; have hcz8_0 : w7.cell? ⟨gb136, 0, none⟩ = some (.slice A0_0 l0_0.length c0_0) := (blk_cell BK136.out 0).trans rfl; have hfz8_0 := blk_frozen BK136.out 0))
   go_ret
   exact ⟨by first | rfl | (simp [errW_none, errW_some] <;> rfl) | (simp [*, errW_none, errW_some] <;> rfl), by repeat (first | (with_reducible first | exact HB.out | apply below_alloc | apply pw_below_drewN | apply below_drew1 | refine below_set ?_ GE136.out) | exact HB.out)⟩
  ·rw [if_neg c6] at H
   have c6b0 : decide ((l0_0.length : Int) ≤ a1) = false := decide_eq_false c6
   clear c6
   by_cases c9 : a2 < 0
   ·rw [if_pos c9] at H
    have c9b0 : decide (a2 < 0) = true := decide_eq_true c9
    clear c9
    obtain rfl := Option.some.inj H
    go_enter Try.func9, Try.ntmps9
    go_wp2_with (first | ((with_reducible refine gate_dst (N := 3) rfl ?_); (try (refine gate_guard (by rfl) ?_; dsimp only)); refine box_event ?hg (N := 3) ?hd (cs := #[.slice A0_0 l0_0.length c0_0]) (t := 24) ?hr ?_; (case hd => rfl); (case hg => rfl); (case hr => first | (go_simp; done) | (go_simp; rfl)); intro gb136 hg w10 hbox hb; have n0_ := Aside0.mk (below_step (by repeat (first | (with_reducible first | exact HB.out | apply below_alloc | apply pw_below_drewN | apply below_drew1) | exact HB.out)) hb); have n1_ := Aside0.mk (hbox); have n2_ := Aside0.mk ((by rw [hg]; exact (below_size (by repeat (first | (with_reducible first | exact HB.out | apply below_alloc | apply pw_below_drewN | apply below_drew1) | exact HB.out))) : w.heap.size ≤ gb136)); have n3_ := Aside0.mk ((by rw [hg]; exact (below_size (by repeat (first | (with_reducible first | exact HB.out | apply below_alloc | apply pw_below_drewN | apply below_drew1) | exact HB.out))) : w.heap.size ≤ gb136)); clear HB; have HB := n0_; have BK136 := n1_; have GW136 := n2_; have GE136 := n3_; clear n0_ n1_ n2_ n3_; clear hb hbox hg; have hcz11_0 : w10.cell? ⟨gb136, 0, none⟩ = some (.slice A0_0 l0_0.length c0_0) := (blk_cell BK136.out 0).trans rfl; have hfz11_0 := blk_frozen BK136.out 0))
    go_ret
    exact ⟨by first | rfl | (simp [errW_none, errW_some] <;> rfl) | (simp [*, errW_none, errW_some] <;> rfl), by repeat (first | (with_reducible first | exact HB.out | apply below_alloc | apply pw_below_drewN | apply below_drew1 | refine below_set ?_ GE136.out) | exact HB.out)⟩
   ·rw [if_neg c9] at H
    have c9b0 : decide (a2 < 0) = false := decide_eq_false c9
    clear c9
    by_cases c12 : a2 ≥ (l0_0.length : Int)
    ·rw [if_pos c12] at H
     have c12b0 : decide ((l0_0.length : Int) ≤ a2) = true := decide_eq_true c12
     clear c12
     obtain rfl := Option.some.inj H
     go_enter Try.func9, Try.ntmps9
     go_wp2_with (first | ((with_reducible refine gate_dst (N := 3) rfl ?_); (try (refine gate_guard (by rfl) ?_; dsimp only)); refine box_event ?hg (N := 3) ?hd (cs := #[.slice A0_0 l0_0.length c0_0]) (t := 24) ?hr ?_; (case hd => rfl); (case hg => rfl); (case hr => first | (go_simp; done) | (go_simp; rfl)); intro gb136 hg w13 hbox hb; have n0_ := Aside0.mk (below_step (by repeat (first | (with_reducible first | exact HB.out | apply below_alloc | apply pw_below_drewN | apply below_drew1) | exact HB.out)) hb); have n1_ := Aside0.mk (hbox); have n2_ := Aside0.mk ((by rw [hg]; exact (below_size (by repeat (first | (with_reducible first | exact HB.out | apply below_alloc | apply pw_below_drewN | apply below_drew1) | exact HB.out))) : w.heap.size ≤ gb136)); have n3_ := Aside0.mk ((by rw [hg]; exact (below_size (by repeat (first | (with_reducible first | exact HB.out | apply below_alloc | apply pw_below_drewN | apply below_drew1) | exact HB.out))) : w.heap.size ≤ gb136)); clear HB; have HB := n0_; have BK136 := n1_; have GW136 := n2_; have GE136 := n3_; clear n0_ n1_ n2_ n3_; clear hb hbox hg; have hcz14_0 : w13.cell? ⟨gb136, 0, none⟩ = some (.slice A0_0 l0_0.length c0_0) := (blk_cell BK136.out 0).trans rfl; have hfz14_0 := blk_frozen BK136.out 0))
     go_ret
     exact ⟨by first | rfl | (simp [errW_none, errW_some] <;> rfl) | (simp [*, errW_none, errW_some] <;> rfl), by repeat (first | (with_reducible first | exact HB.out | apply below_alloc | apply pw_below_drewN | apply below_drew1 | refine below_set ?_ GE136.out) | exact HB.out)⟩
    ·rw [if_neg c12] at H
     have c12b0 : decide ((l0_0.length : Int) ≤ a2) = false := decide_eq_false c12
     clear c12
     replace H := Option.bind_eq_some_iff.mp H
     obtain ⟨t137, A150, H⟩ := H
     replace H : (if 0 ≤ a1 then (if a1 < (t137.length : Int) then (if 0 ≤ a2 then (if a2 < ((rd_L15 t137 a1).length : Int) then (some (rdOf false (rd_L15 t137 a1) a2)) else (none)) else (none)) else (none)) else (none)) = some r := H
     have A15 := Aside0.mk A150
     clear A150
     by_cases c16 : 0 ≤ a1
     ·rw [if_pos c16] at H
      have c16b0 : decide (0 ≤ a1) = true := decide_eq_true c16
      clear c16
      by_cases c17 : a1 < (t137.length : Int)
      ·rw [if_pos c17] at H
       have c17b0 : decide (a1 < (t137.length : Int)) = true := decide_eq_true c17
       clear c17
       by_cases c18 : 0 ≤ a2
       ·rw [if_pos c18] at H
        have c18b0 : decide (0 ≤ a2) = true := decide_eq_true c18
        clear c18
        by_cases c19 : a2 < ((rd_L15 t137 a1).length : Int)
        ·rw [if_pos c19] at H
         have c19b0 : decide (a2 < ((rd_L15 t137 a1).length : Int)) = true := decide_eq_true c19
         clear c19
         obtain rfl := Option.some.inj H
         go_enter Try.func9, Try.ntmps9
         go_wp2_with (first | ((with_reducible refine gate_dst (N := 3) rfl ?_); (try (refine gate_guard (by rfl) ?_; dsimp only)); refine box_event ?hg (N := 3) ?hd (cs := #[.slice A0_0 l0_0.length c0_0]) (t := 24) ?hr ?_; (case hd => rfl); (case hg => rfl); (case hr => first | (go_simp; done) | (go_simp; rfl)); intro gb136 hg w20 hbox hb; have n0_ := Aside0.mk (below_step (by repeat (first | (with_reducible first | exact HB.out | apply below_alloc | apply pw_below_drewN | apply below_drew1) | exact HB.out)) hb); have n1_ := Aside0.mk (hbox); have n2_ := Aside0.mk ((by rw [hg]; exact (below_size (by repeat (first | (with_reducible first | exact HB.out | apply below_alloc | apply pw_below_drewN | apply below_drew1) | exact HB.out))) : w.heap.size ≤ gb136)); have n3_ := Aside0.mk ((by rw [hg]; exact (below_size (by repeat (first | (with_reducible first | exact HB.out | apply below_alloc | apply pw_below_drewN | apply below_drew1) | exact HB.out))) : w.heap.size ≤ gb136)); clear HB; have HB := n0_; have BK136 := n1_; have GW136 := n2_; have GE136 := n3_; clear n0_ n1_ n2_ n3_; clear hb hbox hg; have hcz21_0 : w20.cell? ⟨gb136, 0, none⟩ = some (.slice A0_0 l0_0.length c0_0) := (blk_cell BK136.out 0).trans rfl; have hfz21_0 := blk_frozen BK136.out 0) | ((with_reducible refine gate_callee (f := 18) rfl ?_); refine goesL_ (some 28) rfl rfl Try.func18 (by kernel_rfl) rfl #[.agg #[.slice A0_0 l0_0.length c0_0]] rfl (by (try simp only [List.map_toArray, List.map_cons, List.map_nil]); first | done | rfl | (simp only [List.length_drop, List.length_take]; rfl)) ?_; (with_reducible refine (calls_table.calls k _ _ l0_0 t137 _ ?side1 ?side2 A15.out).mono ?_); (case side1 => repeat (first | exact (Kd.C_below HR0_0.out HB.out) | (with_reducible refine Kd.C_alloc ?_ _) | (with_reducible refine Kd.C_drewN ?_ _) | (with_reducible refine Kd.C_drew ?_))); (case side2 => exact HC0_0.out); rintro e w22 ⟨v138, rfl, ho0, hb⟩; refine ⟨_, rfl, ?_⟩; have n0_ := Aside0.mk (Kd.S_lower ho0 (below_size (by repeat (first | (with_reducible first | exact HB.out | apply below_alloc | apply pw_below_drewN | apply below_drew1 | refine below_set ?_ GE136.out) | exact HB.out)))); have n1_ := Aside0.mk (blk_below (g := gb136) (o := .cells #[.slice A0_0 l0_0.length c0_0] 24 (0, 0)) (by (with_reducible repeat (first | refine blk_drewN ?_ _ | refine blk_drew ?_ | refine blk_alloc ?_ _)); exact BK136.out) hb); have n2_ := Aside0.mk (below_step (by repeat (first | (with_reducible first | exact HB.out | apply below_alloc | apply pw_below_drewN | apply below_drew1 | refine below_set ?_ GE136.out) | exact HB.out)) hb); clear BK136; clear HB; have HO139 := n0_; have BK136 := n1_; have HB := n2_; clear n0_ n1_ n2_; (try clear hb); (try clear hb2); (try clear hk); (try clear hi); (try clear ho0); obtain ⟨Ao23, co23, eo23⟩ := Kd.S_slice HO139.out; subst eo23; have p140 : 0 ≤ (a1 : Int) := of_decide_eq_true (by first | (with_reducible assumption) | assumption); have q140 : a1 < (t137.length : Int) := of_decide_eq_true (by first | (with_reducible assumption) | assumption); obtain ⟨ad140, A140_0, c140_0, e140, hx140_0, hl140_0, hi140_0⟩ := at_L15 (Kd.S_reads' HO139.out).2.2 a1 p140 q140; cases e140; obtain ⟨ce140, hce140, hMe140, hcc140⟩ := Kd.S_get HO139.out [] a1 p140 (by first | exact q140 | exact of_decide_eq_true (by first | (with_reducible assumption) | assumption) | (have e_ := (Kd.S_reads' HO139.out).1; omega)); obtain ⟨ve140_0, rfl, ge140_0⟩ := hMe140; have hv140_0 := hcc140 0 _ rfl; rw [Nat.add_zero, show ((Kd.slice 4 Kd.bool)).sz = 1 from rfl, Nat.mul_one] at hv140_0; replace hv140_0 := Option.some.inj (hv140_0.symm.trans hx140_0); rw [hv140_0] at ge140_0; have HL140_0 := Aside0.mk (show Kd.R Kd.bool 4 _ _ _ _ (rd_L15 t137 a1) from ge140_0); clear hv140_0 ge140_0; clear hcc140 hce140; have HR140_0 := Aside0.mk hi140_0; have HC140_0 := Aside0.mk hl140_0; clear hi140_0 hl140_0; replace p140 := eq_true p140; replace q140 := eq_true q140; have p141 : 0 ≤ (a2 : Int) := of_decide_eq_true (by first | (with_reducible assumption) | assumption); have q141 : a2 < ((rd_L15 t137 a1).length : Int) := of_decide_eq_true (by first | (with_reducible assumption) | assumption); obtain ⟨ad141, e141, hx141_0⟩ := Kd.at_bool (by repeat (first | (with_reducible exact HR140_0.out) | (with_reducible refine Kd.C_alloc ?_ _) | (with_reducible refine Kd.C_drewN ?_ _) | (with_reducible refine Kd.C_drew ?_) | exact HR140_0.out)) a2 p141 q141; cases e141; replace p141 := eq_true p141; replace q141 := eq_true q141))
         go_ret
         exact ⟨by first | rfl | (simp [errW_none, errW_some] <;> rfl) | (simp [*, errW_none, errW_some] <;> rfl), by repeat (first | (with_reducible first | exact HB.out | apply below_alloc | apply pw_below_drewN | apply below_drew1 | refine below_set ?_ GE136.out) | exact HB.out)⟩
        ·rw [if_neg c19] at H
         exact absurd H (by simp)
       ·rw [if_neg c18] at H
        exact absurd H (by simp)
      ·rw [if_neg c17] at H
       exact absurd H (by simp)
     ·rw [if_neg c16] at H
      exact absurd H (by simp)
end
end Go.Proofs.Ytjjcnbfmmhokeaa.X
namespace Go.Proofs.Ytjjcnbfmmhokeaa.X
open Go.RowKit Go.Proofs.YtjjcnbfmmhokeaaW.PrintWords Go.Proofs.YtjjcnbfmmhokeaaW.PrintLast Go.Proofs.YtjjcnbfmmhokeaaW.PrintMore
attribute [local go_sem] max2_int min2_int max_two min_two max_three min_three max_four min_four
set_option linter.all false
noncomputable section
def davitref07_Has.l0 : Nat → List Int → Int → Int → Option (Bool)
 | 0, _, _, _ => none
 | k + 1, x0, x1, x5 => if x5 < (x0.length : Int) then (if 0 ≤ x5 then (if (rd x0 x5) = x1 then (some true) else (davitref07_Has.l0 k x0 x1 (wrap64 (x5 + 1)))) else (none)) else (some false)
def davitref07_Has.f (k : Nat) (l0 : List Int) (a1 : Int) : Option (Bool) := davitref07_Has.l0 k l0 a1 0
theorem davitref07_Has.mono_l : ∀ k, (∀ y0 y1 y2, LeO (davitref07_Has.l0 k y0 y1 y2) (davitref07_Has.l0 (k + 1) y0 y1 y2))
 | 0 => fun _ _ _ r h => by simp [davitref07_Has.l0] at h
 | k + 1 => by
  have ih0 := davitref07_Has.mono_l k
  ·intro y0 y1 y2
   unfold davitref07_Has.l0
   repeat' first
   | (with_reducible exact ih0 _ _ _)
   | (with_reducible exact LeO.refl _)
   | (with_reducible exact LeO.none _)
   | (with_reducible refine LeO.ite ?_ ?_)
   | (with_reducible refine LeO.bind ?_ (fun _ => ?_))
   | exact ih0 _ _ _
   | exact LeO.none _
   | refine LeO.ite ?_ ?_
   | refine LeO.bind ?_ (fun _ => ?_)
theorem davitref07_Has.mono : ∀ a0 a1 k, LeO (davitref07_Has.f k a0 a1) (davitref07_Has.f (k + 1) a0 a1) := by
 intro a0 a1 k
 have ih0 := davitref07_Has.mono_l k
 unfold davitref07_Has.f
 repeat' first
   | (with_reducible exact ih0 _ _ _)
   | (with_reducible exact LeO.refl _)
   | (with_reducible exact LeO.none _)
   | (with_reducible refine LeO.ite ?_ ?_)
   | (with_reducible refine LeO.bind ?_ (fun _ => ?_))
   | exact ih0 _ _ _
   | exact LeO.none _
   | refine LeO.ite ?_ ?_
   | refine LeO.bind ?_ (fun _ => ?_)
set_option maxHeartbeats 8000000 in
set_option maxRecDepth 100000 in
theorem davitref07_Has.calls (k : Nat) (A0 : Option Addr) (c0 : Nat) (l0 : List Int) (a1 : Int) (r : Bool) (w : World) (hr0 : Kd.C (Kd.int .i64) w A0 l0.length l0) (hc0 : l0.length ≤ c0) (h : davitref07_Has.f k l0 a1 = some r) :
  Calls Try.prog 10 #[.slice A0 l0.length c0, .int .i64 a1] w fun e w' => e = .returned (.bool r) ∧ Drawn0 w w' := by
 have HR0 := Aside0.mk hr0
 have HC0 := Aside0.mk hc0
 clear hr0 hc0
 have H : (davitref07_Has.l0 k l0 a1 0) = some r := h
 clear h
 have H' := Aside0.mk H
 clear H
 go_enter Try.func10, Try.ntmps10
 go_wp2
 go_loopg [5] k (fun kq v5 w' => ∃ (x5_1 : Int), v5 = .int .i64 x5_1 ∧ Aside0 (davitref07_Has.l0 kq l0 a1 x5_1 = some r) ∧ Aside0 (kq ≤ k) ∧ Drawn0 w w')
 case atStart => exact ⟨(0), (by first | rfl | (simp; done) | (simp [*]; done)), H', ⟨Nat.le_refl _⟩, by repeat (first | exact Drawn0.refl _ | apply Drawn0.step)⟩
 case round =>
  clear H'
  try clear c1
  try clear p2
  obtain ⟨x5_1, rfl, HA, HK1, ⟨m1, rfl⟩⟩ := hrel
  cases gk with
  | zero => exact absurd HA.out (by simp [davitref07_Has.l0])
  | succ k1 =>
   have H := HA.out
   clear HA
   simp only [davitref07_Has.l0] at H
   by_cases c3 : x5_1 < (l0.length : Int)
   ·rw [if_pos c3] at H
    have c3b0 : decide (x5_1 < (l0.length : Int)) = true := decide_eq_true c3
    clear c3
    by_cases c4 : 0 ≤ x5_1
    ·rw [if_pos c4] at H
     have c4b0 : decide (0 ≤ x5_1) = true := decide_eq_true c4
     clear c4
     by_cases c5 : (rd l0 x5_1) = a1
     ·rw [if_pos c5] at H
      have c5b0 : ((rd l0 x5_1) == a1) = true := beq_iff_eq.mpr c5
      have c5b1 : ((rd l0 x5_1) != a1) = false := bne_eq_false_iff_eq.mpr c5
      clear c5
      obtain rfl := Option.some.inj H
      have p142 : 0 ≤ (x5_1 : Int) := of_decide_eq_true (by first | (with_reducible assumption) | assumption)
      have q142 : x5_1 < (l0.length : Int) := of_decide_eq_true (by first | (with_reducible assumption) | assumption)
      obtain ⟨ad142, e142, hx142_0⟩ := Kd.at_int HR0.out x5_1 p142 q142
      cases e142
      replace p142 := eq_true p142
      replace q142 := eq_true q142
      go_wp2
      go_ret
      exact ⟨by first | rfl | (simp; done) | (simp [*]; done), by repeat (first | exact Drawn0.refl _ | apply Drawn0.step)⟩
     ·rw [if_neg c5] at H
      have c5b0 : ((rd l0 x5_1) == a1) = false := beq_eq_false_iff_ne.mpr c5
      have c5b1 : ((rd l0 x5_1) != a1) = true := bne_iff_ne.mpr c5
      have H' := Aside0.mk H
      clear H
      have p142 : 0 ≤ (x5_1 : Int) := of_decide_eq_true (by first | (with_reducible assumption) | assumption)
      have q142 : x5_1 < (l0.length : Int) := of_decide_eq_true (by first | (with_reducible assumption) | assumption)
      obtain ⟨ad142, e142, hx142_0⟩ := Kd.at_int HR0.out x5_1 p142 q142
      cases e142
      replace p142 := eq_true p142
      replace q142 := eq_true q142
      go_wp2
      go_roundg k1
      case measure => have := HK1.out; omega
      case rel => exact ⟨(wrap64 (x5_1 + 1)), (by first | rfl | (simp; done) | (simp [*]; done)), H', ⟨by have := HK1.out; omega⟩, by repeat (first | exact Drawn0.refl _ | apply Drawn0.step)⟩
    ·rw [if_neg c4] at H
     exact absurd H (by simp)
   ·rw [if_neg c3] at H
    have c3b0 : decide (x5_1 < (l0.length : Int)) = false := decide_eq_false c3
    clear c3
    obtain rfl := Option.some.inj H
    go_wp2
    go_ret
    exact ⟨by first | rfl | (simp; done) | (simp [*]; done), by repeat (first | exact Drawn0.refl _ | apply Drawn0.step)⟩
end
end Go.Proofs.Ytjjcnbfmmhokeaa.X
namespace Go.Proofs.Ytjjcnbfmmhokeaa.X
open Go.Shelf Go.RowKit Go.Proofs.YtjjcnbfmmhokeaaW.PrintWords Go.Proofs.YtjjcnbfmmhokeaaW.PrintLast Go.Proofs.YtjjcnbfmmhokeaaW.PrintMore
set_option linter.all false
def tv (t : List (List Bool)) (a b : Nat) : Bool := (t.getD a []).getD b false
def Sq (t : List (List Bool)) : Prop := t.length ≤ 1000 ∧ ∀ r ∈ t, r.length = t.length
instance (t : List (List Bool)) : Decidable (Sq t) := inferInstanceAs (Decidable (_ ∧ _))
theorem Sq.row {t : List (List Bool)} (h : Sq t) {a : Nat} (ha : a < t.length) : (t.getD a []).length = t.length := by
 rw [List.getD_eq_getElem?_getD, List.getElem?_eq_getElem ha]
 exact h.2 _ (List.getElem_mem ha)
def grpL (t : List (List Bool)) (n : Nat) (m : Nat) : List Int := ((List.range m).filter fun k => k == n || (tv t n k && tv t k n)).map fun (k : Nat) => (k : Int)
theorem grpL_step (t : List (List Bool)) (n m : Nat) : grpL t n (m + 1) = grpL t n m ++ (if m = n ∨ (tv t n m = true ∧ tv t m n = true) then [(m : Int)] else []) := by
 unfold grpL
 rw [List.range_succ, List.filter_append, List.map_append]
 congr 1
 by_cases h : m = n ∨ (tv t n m = true ∧ tv t m n = true)
 ·rw [if_pos h, List.filter_cons_of_pos (by simpa using h)]; rfl
 ·rw [if_neg h, List.filter_cons_of_neg (by simpa using h)]; rfl
theorem grpL_len (t : List (List Bool)) (n m : Nat) : (grpL t n m).length ≤ m := by
 unfold grpL
 rw [List.length_map]
 exact Nat.le_trans (List.length_filter_le _ _) (by simp)
def freeTo (t : List (List Bool)) (d : List Bool) (n : Nat) (m : Nat) : Bool := (List.range m).all fun k => !(tv t n k && !(d.getD k false) && !(tv t k n) && !(k == n))
def freeB (t : List (List Bool)) (d : List Bool) (n : Nat) : Bool := freeTo t d n t.length && !(d.getD n false)
theorem freeTo_step (t : List (List Bool)) (d : List Bool) (n m : Nat) : freeTo t d n (m + 1) = (freeTo t d n m && !(tv t n m && !(d.getD m false) && !(tv t m n) && !(m == n))) := by
 unfold freeTo
 rw [List.range_succ, List.all_append]
 simp
theorem freeTo_false {t : List (List Bool)} {d : List Bool} {n m : Nat} (h : freeTo t d n m = false) {N : Nat} (hN : m ≤ N) : freeTo t d n N = false := by
 obtain ⟨e, rfl⟩ := Nat.exists_eq_add_of_le hN
 clear hN
 induction e with
 | zero => exact h
 | succ e ih => rw [← Nat.add_assoc, freeTo_step, ih, Bool.false_and]
theorem tab_cell {W : World} {A : Option Addr} {t : List (List Bool)} (h : Kd.C (Kd.slice 4 Kd.bool) W A t.length t) (hs : Sq t) (a b : Nat) (ha : a < t.length) (hb : b < t.length) :
  ∃ ad A0 c0, A = some ad ∧ W.cell? (ad.add a) = some (.slice (some A0) t.length c0) ∧ W.cell? (A0.add b) = some (.bool (tv t a b)) := by
 obtain ⟨ad, A0, c0, e, h1, h2, h3⟩ := at_L15 h (a : Int) (by omega) (by omega)
 rw [show rd_L15 t (a : Int) = t.getD a [] by unfold rd_L15; rw [Int.toNat_natCast]] at h1 h2 h3
 rw [hs.row ha] at h1 h2 h3
 obtain ⟨ad0, e0, h4⟩ := Kd.at_bool h3 (b : Int) (by omega) (by omega)
 rw [Int.toNat_natCast] at h1 h4
 subst e0
 refine ⟨ad, ad0, c0, e, h1, ?_⟩
 rw [h4]
 unfold rdOf tv
 rw [Int.toNat_natCast]
set_option maxHeartbeats 8000000 in
set_option maxRecDepth 100000 in
theorem groups_group (A : Option Addr) (c : Nat) (t : List (List Bool)) (n : Nat) (g3 : Nat) (w : World) (hs : Sq t) (hn : n < t.length) (hC : Kd.C (Kd.slice 4 Kd.bool) w A t.length t) (hb3 : w.heap[g3]? = some (.cells #[.slice A t.length c] 52 (0, 0))) :
  Calls Try.prog 19 #[.int .i64 n, .pointer (some ⟨g3, 0, none⟩)] w fun e w' => ∃ v0_ : Value, e = .returned v0_ ∧ Kd.R (Kd.int .i64) 3 w' w.heap.size (fun _ => True) v0_ (grpL t n t.length) ∧ Below w.heap.size w w' := by
 have HC := Aside0.mk hC
 have B3 := Aside0.mk hb3
 have HS := Aside0.mk hs
 have HN := Aside0.mk hn
 have hcy := (blk_cell hb3 0).trans rfl
 clear hC hb3 hs hn
 go_enter Try.func19, Try.ntmps19
 go_wp2
 clear hcy
 go_loopg [4, 8] t.length (fun gg s4 s8 wr => ∃ (x : Nat), s8 = .int .i64 x ∧ t.length - x ≤ gg ∧ Aside0 (x ≤ t.length) ∧ Aside0 (Kd.R (Kd.int .i64) 3 wr w.heap.size (fun _ => True) s4 (grpL t n x)) ∧ Aside0 (Below w.heap.size w wr))
 case atStart => exact ⟨0, rfl, by omega, ⟨Nat.zero_le _⟩, ⟨Kd.R_nil _ _ _ _ _⟩, ⟨Below.refl _ _⟩⟩
 case round =>
  obtain ⟨x, rfl, hgg, HX, HO, HB⟩ := hrel
  by_cases hlt : x < t.length
  ·have hltz : (x : Int) < (t.length : Int) := by omega
   have HLT := Aside0.mk hlt
   have hcz := (blk_cell (blk_below B3.out HB.out) 0).trans rfl
   obtain ⟨ad, A1, c1, e1, hx1, hx2⟩ := tab_cell (Kd.C_below HC.out HB.out) HS.out n x HN.out hlt
   obtain ⟨ad', A2, c2, e2, hx3, hx4⟩ := tab_cell (Kd.C_below HC.out HB.out) HS.out x n hlt HN.out
   rw [e1] at e2
   cases e2
   cases e1
   have p1 : (0 ≤ (x : Int)) = True := eq_true (by omega)
   have p2 : (0 ≤ (n : Int)) = True := eq_true (by omega)
   have q2 : ((n : Int) < (t.length : Int)) = True := eq_true (by have := HN.out; omega)
   have HST := Aside0.mk (grpL_step t n x)
   by_cases hxn : x = n
   ·have hb1 : ((x : Int) == (n : Int)) = true := by rw [hxn]; simp
    have HY := Aside0.mk (show x = n ∨ (tv t n x = true ∧ tv t x n = true) from .inl hxn)
    clear hxn hlt
    go_wp2_with (first | ((with_reducible refine gate_builtin (b := .append) (xs := #[.tmp 32, .tmp 34]) rfl ?_); at_builtin; refine Kd.R_append (Kd.int .i64) (w0 := w) w.heap.size rfl (.tmp 32) (.tmp 34) 29 3 (.int .i64 0) 8 rfl Try.underlying29 info3 rfl (by decide) (by omega) _ (grpL t n x) (x : Int) [.int .i64 (x : Int)] (fun _ => True) (fun _ => False) rfl rfl ?aP (fun _ hk => hk.elim) ?aF ?aO ?aB ?aS ?aL ?_; (case aP => exact rfl); (case aB => exact HB.out); (case aF => exact (fun _ _ => trivial)); (case aO => exact HO.out); (case aS => exact (below_size HB.out)); (case aL => have := grpL_len t n x; have := HLT.out; have := HS.out.1; omega); intro vq wq ho hb hg hat; have HO3 := Aside0.mk ho; have HB3 := Aside0.mk hb; clear ho hb hg hat))
    go_roundg (t.length - (x + 1))
    case measure => have := HLT.out; omega
    case rel => exact ⟨x + 1, (by first | go_num | (rw [wrap64_small _ (by have := HS.out.1; have := HLT.out; omega) (by have := HS.out.1; have := HLT.out; omega)]; go_num)), Nat.le_refl _, ⟨by have := HLT.out; omega⟩, ⟨by rw [HST.out, if_pos HY.out]; exact HO3.out⟩, HB3⟩
   ·have hb1 : ((x : Int) == (n : Int)) = false := beq_eq_false_iff_ne.2 (by omega)
    cases h1 : tv t n x with
    | false =>
     have HY := Aside0.mk (show ¬ (x = n ∨ (tv t n x = true ∧ tv t x n = true)) by rw [h1]; simp [hxn])
     rw [h1] at hx2
     clear hxn hlt h1
     go_wp2
     go_roundg (t.length - (x + 1))
     case measure => have := HLT.out; omega
     case rel => exact ⟨x + 1, (by first | go_num | (rw [wrap64_small _ (by have := HS.out.1; have := HLT.out; omega) (by have := HS.out.1; have := HLT.out; omega)]; go_num)), Nat.le_refl _, ⟨by have := HLT.out; omega⟩, ⟨by rw [HST.out, if_neg HY.out, List.append_nil]; exact HO.out⟩, HB⟩
    | true =>
     rw [h1] at hx2
     cases h2 : tv t x n with
     | false =>
      have HY := Aside0.mk (show ¬ (x = n ∨ (tv t n x = true ∧ tv t x n = true)) by rw [h2]; simp [hxn])
      rw [h2] at hx4
      clear hxn hlt h1 h2
      go_wp2
      go_roundg (t.length - (x + 1))
      case measure => have := HLT.out; omega
      case rel => exact ⟨x + 1, (by first | go_num | (rw [wrap64_small _ (by have := HS.out.1; have := HLT.out; omega) (by have := HS.out.1; have := HLT.out; omega)]; go_num)), Nat.le_refl _, ⟨by have := HLT.out; omega⟩, ⟨by rw [HST.out, if_neg HY.out, List.append_nil]; exact HO.out⟩, HB⟩
     | true =>
      have HY := Aside0.mk (show x = n ∨ (tv t n x = true ∧ tv t x n = true) from .inr ⟨h1, h2⟩)
      rw [h2] at hx4
      clear hxn hlt h1 h2
      go_wp2_with (first | ((with_reducible refine gate_builtin (b := .append) (xs := #[.tmp 32, .tmp 34]) rfl ?_); at_builtin; refine Kd.R_append (Kd.int .i64) (w0 := w) w.heap.size rfl (.tmp 32) (.tmp 34) 29 3 (.int .i64 0) 8 rfl Try.underlying29 info3 rfl (by decide) (by omega) _ (grpL t n x) (x : Int) [.int .i64 (x : Int)] (fun _ => True) (fun _ => False) rfl rfl ?aP (fun _ hk => hk.elim) ?aF ?aO ?aB ?aS ?aL ?_; (case aP => exact rfl); (case aB => exact HB.out); (case aF => exact (fun _ _ => trivial)); (case aO => exact HO.out); (case aS => exact (below_size HB.out)); (case aL => have := grpL_len t n x; have := HLT.out; have := HS.out.1; omega); intro vq wq ho hb hg hat; have HO3 := Aside0.mk ho; have HB3 := Aside0.mk hb; clear ho hb hg hat))
      go_roundg (t.length - (x + 1))
      case measure => have := HLT.out; omega
      case rel => exact ⟨x + 1, (by first | go_num | (rw [wrap64_small _ (by have := HS.out.1; have := HLT.out; omega) (by have := HS.out.1; have := HLT.out; omega)]; go_num)), Nat.le_refl _, ⟨by have := HLT.out; omega⟩, ⟨by rw [HST.out, if_pos HY.out]; exact HO3.out⟩, HB3⟩
  ·have HXE := Aside0.mk (show x = t.length by have := HX.out; omega)
   have hltz : ¬ (x : Int) < (t.length : Int) := by omega
   have hd : decide ((x : Int) < (t.length : Int)) = false := decide_eq_false hltz
   rw [HXE.out] at HO
   clear hltz
   go_wp2
   go_ret
   exact ⟨_, rfl, HO.out, HB.out⟩
set_option maxHeartbeats 8000000 in
set_option maxRecDepth 100000 in
theorem groups_free (A : Option Addr) (c : Nat) (t : List (List Bool)) (n : Nat) (g3 g5 : Nat) (Ad : Option Addr) (cd : Nat) (d : List Bool) (w : World) (hs : Sq t) (hn : n < t.length) (hC : Kd.C (Kd.slice 4 Kd.bool) w A t.length t) (hb3 : w.heap[g3]? = some (.cells #[.slice A t.length c] 52 (0, 0)))
  (hdl : d.length = t.length) (hD : Kd.C Kd.bool w Ad d.length d) (hb5 : w.heap[g5]? = some (.cells #[.slice Ad d.length cd] 49 (0, 0))) :
  Calls Try.prog 20 #[.int .i64 n, .pointer (some ⟨g3, 0, none⟩), .pointer (some ⟨g5, 0, none⟩)] w fun e w' => e = .returned (.bool (freeB t d n)) ∧ Below w.heap.size w w' := by
 have HC := Aside0.mk hC
 have HD := Aside0.mk hD
 have B3 := Aside0.mk hb3
 have B5 := Aside0.mk hb5
 have HS := Aside0.mk hs
 have HN := Aside0.mk hn
 have HDL := Aside0.mk hdl
 have hcy := (blk_cell hb3 0).trans rfl
 clear hC hb3 hs hn hD hb5 hdl
 go_enter Try.func20, Try.ntmps20
 go_wp2
 clear hcy
 go_loopg [8] t.length (fun gg s8 wr => ∃ (x : Nat), s8 = .int .i64 x ∧ t.length - x ≤ gg ∧ Aside0 (x ≤ t.length) ∧ Aside0 (freeTo t d n x = true) ∧ Aside0 (Below w.heap.size w wr))
 case atStart => exact ⟨0, rfl, by omega, ⟨Nat.zero_le _⟩, ⟨rfl⟩, ⟨Below.refl _ _⟩⟩
 case round =>
  obtain ⟨x, rfl, hgg, HX, HF, HB⟩ := hrel
  have hcz := (blk_cell (blk_below B3.out HB.out) 0).trans rfl
  have hcw := (blk_cell (blk_below B5.out HB.out) 0).trans rfl
  have p2 : (0 ≤ (n : Int)) = True := eq_true (by omega)
  have q2 : ((n : Int) < (t.length : Int)) = True := eq_true (by have := HN.out; omega)
  have q3 : ((n : Int) < (d.length : Int)) = True := eq_true (by have := HN.out; have := HDL.out; omega)
  by_cases hlt : x < t.length
  ·have hltz : (x : Int) < (t.length : Int) := by omega
   have q1 : ((x : Int) < (d.length : Int)) = True := eq_true (by have := HDL.out; omega)
   have HLT := Aside0.mk hlt
   obtain ⟨ad, A1, c1, e1, hx1, hx2⟩ := tab_cell (Kd.C_below HC.out HB.out) HS.out n x HN.out hlt
   obtain ⟨ad', A2, c2, e2, hx3, hx4⟩ := tab_cell (Kd.C_below HC.out HB.out) HS.out x n hlt HN.out
   rw [e1] at e2
   cases e2
   cases e1
   obtain ⟨ad5, e5, hx5⟩ := Kd.at_bool (Kd.C_below HD.out HB.out) (x : Int) (by omega) (by have := HDL.out; omega)
   cases e5
   rw [Int.toNat_natCast, show rdOf false d (x : Int) = d.getD x false by unfold rdOf; rw [Int.toNat_natCast]] at hx5
   have p1 : (0 ≤ (x : Int)) = True := eq_true (by omega)
   have HST := Aside0.mk (freeTo_step t d n x)
   cases h1 : tv t n x with
   | false =>
    have HY := Aside0.mk (show freeTo t d n (x + 1) = true by rw [HST.out, HF.out, h1]; rfl)
    rw [h1] at hx2
    clear hlt h1
    go_wp2
    go_roundg (t.length - (x + 1))
    case measure => have := HLT.out; omega
    case rel => exact ⟨x + 1, (by first | go_num | (rw [wrap64_small _ (by have := HS.out.1; have := HLT.out; omega) (by have := HS.out.1; have := HLT.out; omega)]; go_num)), Nat.le_refl _, ⟨by have := HLT.out; omega⟩, HY, HB⟩
   | true =>
    rw [h1] at hx2
    cases h3 : d.getD x false with
    | true =>
     have HY := Aside0.mk (show freeTo t d n (x + 1) = true by rw [HST.out, HF.out, h1, h3]; rfl)
     rw [h3] at hx5
     clear hlt h1 h3
     go_wp2
     go_roundg (t.length - (x + 1))
     case measure => have := HLT.out; omega
     case rel => exact ⟨x + 1, (by first | go_num | (rw [wrap64_small _ (by have := HS.out.1; have := HLT.out; omega) (by have := HS.out.1; have := HLT.out; omega)]; go_num)), Nat.le_refl _, ⟨by have := HLT.out; omega⟩, HY, HB⟩
    | false =>
     rw [h3] at hx5
     cases h2 : tv t x n with
     | true =>
      have HY := Aside0.mk (show freeTo t d n (x + 1) = true by rw [HST.out, HF.out, h1, h3, h2]; rfl)
      rw [h2] at hx4
      clear hlt h1 h3 h2
      go_wp2
      go_roundg (t.length - (x + 1))
      case measure => have := HLT.out; omega
      case rel => exact ⟨x + 1, (by first | go_num | (rw [wrap64_small _ (by have := HS.out.1; have := HLT.out; omega) (by have := HS.out.1; have := HLT.out; omega)]; go_num)), Nat.le_refl _, ⟨by have := HLT.out; omega⟩, HY, HB⟩
     | false =>
      rw [h2] at hx4
      by_cases hxn : x = n
      ·have hb1 : ((x : Int) != (n : Int)) = false := by rw [hxn]; simp
       have HY := Aside0.mk (show freeTo t d n (x + 1) = true by rw [HST.out, HF.out, h1, h3, h2, hxn]; simp)
       clear hlt h1 h3 h2 hxn
       go_wp2
       go_roundg (t.length - (x + 1))
       case measure => have := HLT.out; omega
       case rel => exact ⟨x + 1, (by first | go_num | (rw [wrap64_small _ (by have := HS.out.1; have := HLT.out; omega) (by have := HS.out.1; have := HLT.out; omega)]; go_num)), Nat.le_refl _, ⟨by have := HLT.out; omega⟩, HY, HB⟩
      ·have hb1 : ((x : Int) != (n : Int)) = true := bne_iff_ne.2 (by omega)
       have HY := Aside0.mk (show freeB t d n = false by
        have : freeTo t d n (x + 1) = false := by rw [HST.out, HF.out, h1, h3, h2]; simp [hxn]
        unfold freeB
        rw [freeTo_false this hlt, Bool.false_and])
       clear hlt h1 h3 h2 hxn
       go_wp2
       go_ret
       exact ⟨by rw [HY.out]; rfl, HB.out⟩
  ·have HXE := Aside0.mk (show x = t.length by have := HX.out; omega)
   have hltz : ¬ (x : Int) < (t.length : Int) := by omega
   have hd : decide ((x : Int) < (t.length : Int)) = false := decide_eq_false hltz
   obtain ⟨ad5, e5, hx5⟩ := Kd.at_bool (Kd.C_below HD.out HB.out) (n : Int) (by omega) (by have := HDL.out; have := HN.out; omega)
   cases e5
   rw [Int.toNat_natCast, show rdOf false d (n : Int) = d.getD n false by unfold rdOf; rw [Int.toNat_natCast]] at hx5
   have HY := Aside0.mk (show freeB t d n = !(d.getD n false) by have := HF.out; rw [HXE.out] at this; unfold freeB; rw [this, Bool.true_and])
   clear hltz
   go_wp2
   go_ret
   exact ⟨by rw [HY.out]; rfl, HB.out⟩
end Go.Proofs.Ytjjcnbfmmhokeaa.X
namespace Go.Proofs.Ytjjcnbfmmhokeaa.X
open Go.Shelf Go.RowKit Go.Proofs.YtjjcnbfmmhokeaaW.PrintWords Go.Proofs.YtjjcnbfmmhokeaaW.PrintLast Go.Proofs.YtjjcnbfmmhokeaaW.PrintMore
set_option linter.all false
def markL (d : List Bool) (g : List Int) : List Bool := g.foldl (fun d k => d.set k.toNat true) d
def ffTo (t : List (List Bool)) (d : List Bool) (m : Nat) : Option Nat := (List.range m).find? (freeB t d)
def grpGo (t : List (List Bool)) : Nat → List Bool → List (List Int) → List (List Int)
 | 0, _, out => out
 | f + 1, d, out => match ffTo t d t.length with
  | none => out
  | some n => grpGo t f (markL d (grpL t n t.length)) (out ++ [grpL t n t.length])
def calls_Groups.f (k : Nat) (l0_0 : List S33) : Option (List (List Int)) := (calls_table.f k l0_0).bind fun t => if Sq t then some (grpGo t t.length (List.replicate t.length false) []) else none
theorem calls_Groups.mono : ∀ a0 k, LeO (calls_Groups.f k a0) (calls_Groups.f (k + 1) a0) := by
 intro a0 k
 unfold calls_Groups.f
 repeat' first
   | (with_reducible exact LeO.refl _)
   | (with_reducible exact calls_table.mono _ _)
   | (with_reducible refine LeO.ite ?_ ?_)
   | (with_reducible refine LeO.bind ?_ (fun _ => ?_))
def ffV : Option Nat → Int
 | none => -1
 | some k => (k : Int)
theorem ffTo_step (t : List (List Bool)) (d : List Bool) (m : Nat) : ffTo t d (m + 1) = match ffTo t d m with
  | some k => some k
  | none => if freeB t d m = true then some m else none := by
 unfold ffTo
 rw [List.range_succ, List.find?_append]
 cases (List.range m).find? (freeB t d) with
 | some k => rfl
 | none =>
  rw [List.find?_cons]
  cases freeB t d m <;> rfl
theorem ffTo_lt {t : List (List Bool)} {d : List Bool} {m k : Nat} (h : ffTo t d m = some k) : k < m := by
 unfold ffTo at h
 exact List.mem_range.1 (List.mem_of_find?_eq_some h)
theorem markL_len (g : List Int) : ∀ d : List Bool, (markL d g).length = d.length := by
 unfold markL
 induction g with
 | nil => intro d; rfl
 | cons k r ih => intro d; rw [List.foldl_cons, ih, List.length_set]
theorem grpL_in (t : List (List Bool)) (n m : Nat) : ∀ x ∈ grpL t n m, ∃ k : Nat, x = (k : Int) ∧ k < m := by
 intro x hx
 unfold grpL at hx
 obtain ⟨k, hk, rfl⟩ := List.mem_map.1 hx
 exact ⟨k, rfl, List.mem_range.1 (List.mem_filter.1 hk).1⟩
set_option maxHeartbeats 16000000 in
set_option maxRecDepth 100000 in
theorem calls_Groups.calls (k : Nat) (A0_0 : Option Addr) (c0_0 : Nat) (l0_0 : List S33) (r : List (List Int)) (w : World) (hr0_0 : Kd.C k33 w A0_0 l0_0.length l0_0) (hc0_0 : l0_0.length ≤ c0_0) (h : calls_Groups.f k l0_0 = some r) :
  Calls Try.prog 8 #[.agg #[.slice A0_0 l0_0.length c0_0]] w fun e w' => ∃ v0_ : Value, e = .returned v0_ ∧ Kd.S (Kd.slice 3 (Kd.int .i64)) 29 w' w.heap.size (fun _ => True) v0_ r ∧ Below w.heap.size w w' := by
 unfold calls_Groups.f at h
 obtain ⟨t, ht, h⟩ := Option.bind_eq_some_iff.1 h
 by_cases hsq : Sq t
 ·rw [if_pos hsq] at h
  have HN := Aside0.mk (Option.some.inj h)
  have HT := Aside0.mk ht
  have HSQ := Aside0.mk hsq
  have HR := Aside0.mk hr0_0
  have HCC := Aside0.mk hc0_0
  have hu24 := Try.underlying24
  clear h ht hsq hr0_0 hc0_0
  go_enter Try.func8, Try.ntmps8
  go_wp2_with (first | ((with_reducible refine gate_dst (N := 1) rfl ?_); refine box_event ?hg (N := 1) ?hd (cs := #[.slice A0_0 l0_0.length c0_0]) (t := 24) ?hr ?_; (case hd => rfl); (case hg => rfl); (case hr => first | (go_simp; done) | (go_simp; rfl)); intro gb hg w4 hbox hb; have HB := Aside0.mk hb; have hcy0 : w4.cell? ⟨gb, 0, none⟩ = some (.slice A0_0 l0_0.length c0_0) := (blk_cell hbox 0).trans rfl; clear hbox hb hg) | (go_at_call 18; refine (calls_table.calls k A0_0 c0_0 l0_0 t _ (Kd.C_below HR.out HB.out) HCC.out HT.out).mono ?_; rintro e wt ⟨vt, rfl, ho, hb⟩; obtain ⟨At, ct, rfl, hct, hCt⟩ := Kd.R_reads (Kd.S_R ho); have TC := Aside0.mk hCt; have HBt := Aside0.mk (below_step HB.out hb); have B3a := Aside0.mk (blk_new wt (.cells #[.slice At t.length ct] 52)); have TBa := Aside0.mk (below_alloc (Below.refl wt.heap.size wt) (.cells #[.slice At t.length ct] 52)); clear ho hb hct hCt hcy0 HB) | ((with_reducible refine gate_dst (N := 18) rfl ?_); refine Kd.R_make Kd.bool wt.heap.size 4 rfl (N := 18) rfl 49 _ _ rfl (t.length : Int) rfl rfl Try.underlying49 (.bool false) 1 info4 rfl (by decide) (by omega) false (ok := fun _ => True) (okp := fun _ => True) rfl (fun _ hk => hk) trivial (by omega) (by have := HSQ.out.1; simp; omega) TBa.out (below_size TBa.out) ?_; intro vd wd ho hb hg hnew; rw [Int.toNat_natCast] at ho; have HD := Aside0.mk ho; have TB := Aside0.mk hb; have B3 := Aside0.mk (blk_grown B3a.out hg (by simp)); obtain ⟨Ad, cd, hvd⟩ := Kd.R_slice ho; rw [List.length_replicate] at hvd; subst hvd; have hc3 : ∀ o, (wd.alloc o).cell? ⟨wt.heap.size, 0, none⟩ = some (.slice At t.length ct) := fun o => (blk_cell (blk_alloc B3.out o) 0).trans rfl; clear hg hnew ho hb B3a TBa))
  clear hc3
  obtain ⟨b3, hb3⟩ : ∃ b3, b3 = wt.heap.size := ⟨_, rfl⟩
  obtain ⟨b5, hb5⟩ : ∃ b5, b5 = wd.heap.size := ⟨_, rfl⟩
  have B5 := Aside0.mk (show (wd.alloc (.cells #[.slice Ad t.length cd] 49)).heap[b5]? = some (.cells #[.slice Ad t.length cd] 49 (0, 0)) by rw [hb5]; exact blk_new wd _)
  have n1_ := Aside0.mk (show (wd.alloc (.cells #[.slice Ad t.length cd] 49)).heap[b3]? = some (.cells #[.slice At t.length ct] 52 (0, 0)) by rw [hb3]; exact blk_alloc B3.out _)
  have n0_ := Aside0.mk (Kd.R_alloc HD.out (.cells #[.slice Ad t.length cd] 49))
  have n4_ := Aside0.mk (below_alloc TB.out (.cells #[.slice Ad t.length cd] 49))
  clear HD B3 TB
  have HD := n0_
  have B3 := n1_
  have TB := n4_
  clear n0_ n1_ n4_
  obtain ⟨wz, hwz⟩ : ∃ wz, wd.alloc (.cells #[.slice Ad t.length cd] 49) = wz := ⟨_, rfl⟩
  rw [hwz, ← hb3, ← hb5]
  rw [hwz] at HD B3 B5 TB
  clear hwz hb5
  have HB3 := Aside0.mk (show wt.heap.size ≤ b3 from Nat.le_of_eq hb3.symm)
  clear hb3
  go_loopg [7, 22] t.length (fun gg s7 s22 wr => ∃ (x : Nat) (d : List Bool) (out : List (List Int)), s22 = .int .i64 x ∧ t.length - x ≤ gg ∧ Aside0 (x ≤ t.length) ∧ Aside0 (grpGo t (t.length - x) d out = r) ∧ Aside0 (d.length = t.length) ∧ Aside0 (out.length ≤ x) ∧ Aside0 (Kd.R Kd.bool 4 wr wt.heap.size (fun _ => True) (.slice Ad t.length cd) d) ∧ Aside0 (wr.heap[b3]? = some (.cells #[.slice At t.length ct] 52 (0, 0))) ∧ Aside0 (wr.heap[b5]? = some (.cells #[.slice Ad t.length cd] 49 (0, 0))) ∧ Aside0 (Kd.S (Kd.slice 3 (Kd.int .i64)) 29 wr wt.heap.size (fun _ => True) s7 out) ∧ Aside0 (Below wt.heap.size wt wr))
  case atStart => exact ⟨0, _, [], rfl, by omega, ⟨Nat.zero_le _⟩, HN, ⟨List.length_replicate⟩, ⟨Nat.le_refl _⟩, HD, B3, B5, ⟨Kd.S_nil _ _ _ _ _⟩, TB⟩
  case round =>
   clear HN HD B3 B5 TB
   obtain ⟨x, d, out, rfl, hgg, HX, HGO, HDL, HOL, HD, B3, B5, HO, TB⟩ := hrel
   by_cases hlt : x < t.length
   ·have hltz : (x : Int) < (t.length : Int) := by omega
    have HLT := Aside0.mk hlt
    have hc3 := (blk_cell B3.out 0).trans rfl
    go_wp2
    clear hc3
    go_loopg [8, 26] t.length (fun gg s8 s26 wr => ∃ (y : Nat), s26 = .int .i64 y ∧ s8 = .int .i64 (ffV (ffTo t d y)) ∧ t.length - y ≤ gg ∧ Aside0 (y ≤ t.length) ∧ Aside0 (Kd.R Kd.bool 4 wr wt.heap.size (fun _ => True) (.slice Ad t.length cd) d) ∧ Aside0 (wr.heap[b3]? = some (.cells #[.slice At t.length ct] 52 (0, 0))) ∧ Aside0 (wr.heap[b5]? = some (.cells #[.slice Ad t.length cd] 49 (0, 0))) ∧ Aside0 (Kd.S (Kd.slice 3 (Kd.int .i64)) 29 wr wt.heap.size (fun _ => True) u7 out) ∧ Aside0 (Below wt.heap.size wt wr))
    case atStart => exact ⟨0, rfl, rfl, by omega, ⟨Nat.zero_le _⟩, HD, B3, B5, HO, TB⟩
    case round =>
     clear HD B3 B5 HO TB
     obtain ⟨y, rfl, rfl, hgg2, HY, HD, B3, B5, HO, TB⟩ := hrel
     by_cases hlt2 : y < t.length
     ·have hltz2 : (y : Int) < (t.length : Int) := by omega
      have HY2 := Aside0.mk hlt2
      have HST := Aside0.mk (ffTo_step t d y)
      cases hff : ffTo t d y with
      | none =>
       have hv : ffV (none : Option Nat) = -1 := rfl
       rw [hv]
       clear hv
       cases hfr : freeB t d y with
       | false =>
        have HNX := Aside0.mk (show ffTo t d (y + 1) = none by rw [HST.out, hff, hfr]; rfl)
        have HFR := Aside0.mk hfr
        clear hff hfr
        go_wp2_with (first | (go_at_call 20; refine (groups_free At ct t y b3 b5 Ad cd d _ HSQ.out HY2.out (Kd.C_below TC.out TB.out) B3.out HDL.out (Kd.R_reads' HD.out).2.2 (by rw [HDL.out]; exact B5.out)).mono ?_; rintro e w6 ⟨rfl, hb⟩; rw [HFR.out]; have n0_ := Aside0.mk (Kd.R_below HD.out hb); have n1_ := Aside0.mk (blk_below B3.out hb); have n2_ := Aside0.mk (blk_below B5.out hb); have n3_ := Aside0.mk (Kd.S_below HO.out hb); have n4_ := Aside0.mk (below_step TB.out hb); clear HD B3 B5 HO TB hb; have HD := n0_; have B3 := n1_; have B5 := n2_; have HO := n3_; have TB := n4_; clear n0_ n1_ n2_ n3_ n4_))
        go_roundg (t.length - (y + 1))
        case measure => omega
        case rel => exact ⟨y + 1, (by first | go_num | (rw [wrap64_small _ (by have := HSQ.out.1; omega) (by have := HSQ.out.1; omega)]; go_num)), by rw [HNX.out]; rfl, Nat.le_refl _, ⟨by omega⟩, HD, B3, B5, HO, TB⟩
       | true =>
        have HNX := Aside0.mk (show ffTo t d (y + 1) = some y by rw [HST.out, hff, hfr]; rfl)
        have HFR := Aside0.mk hfr
        clear hff hfr
        go_wp2_with (first | (go_at_call 20; refine (groups_free At ct t y b3 b5 Ad cd d _ HSQ.out HY2.out (Kd.C_below TC.out TB.out) B3.out HDL.out (Kd.R_reads' HD.out).2.2 (by rw [HDL.out]; exact B5.out)).mono ?_; rintro e w6 ⟨rfl, hb⟩; rw [HFR.out]; have n0_ := Aside0.mk (Kd.R_below HD.out hb); have n1_ := Aside0.mk (blk_below B3.out hb); have n2_ := Aside0.mk (blk_below B5.out hb); have n3_ := Aside0.mk (Kd.S_below HO.out hb); have n4_ := Aside0.mk (below_step TB.out hb); clear HD B3 B5 HO TB hb; have HD := n0_; have B3 := n1_; have B5 := n2_; have HO := n3_; have TB := n4_; clear n0_ n1_ n2_ n3_ n4_))
        go_roundg (t.length - (y + 1))
        case measure => omega
        case rel => exact ⟨y + 1, (by first | go_num | (rw [wrap64_small _ (by have := HSQ.out.1; omega) (by have := HSQ.out.1; omega)]; go_num)), by rw [HNX.out]; rfl, Nat.le_refl _, ⟨by omega⟩, HD, B3, B5, HO, TB⟩
      | some n =>
       have hv : ffV (some n) = (n : Int) := rfl
       rw [hv]
       clear hv
       have HNX := Aside0.mk (show ffTo t d (y + 1) = some n by rw [HST.out, hff])
       have hn0 : decide ((n : Int) < 0) = false := decide_eq_false (by omega)
       clear hff
       go_wp2
       go_roundg (t.length - (y + 1))
       case measure => omega
       case rel => exact ⟨y + 1, (by first | go_num | (rw [wrap64_small _ (by have := HSQ.out.1; omega) (by have := HSQ.out.1; omega)]; go_num)), by rw [HNX.out]; rfl, Nat.le_refl _, ⟨by omega⟩, HD, B3, B5, HO, TB⟩
     ·have HYE := Aside0.mk (show y = t.length by have := HY.out; omega)
      have hltz2 : ¬ (y : Int) < (t.length : Int) := by omega
      have hd2 : decide ((y : Int) < (t.length : Int)) = false := decide_eq_false hltz2
      obtain ⟨f, hf⟩ : ∃ f, t.length - x = f + 1 := ⟨t.length - x - 1, by omega⟩
      have hG := HGO.out
      rw [hf, grpGo] at hG
      rw [HYE.out]
      clear hltz2
      cases hff : ffTo t d t.length with
      | none =>
       rw [hff] at hG
       have HR2 := Aside0.mk (show out = r from hG)
       have hv : ffV (none : Option Nat) = -1 := rfl
       rw [hv]
       clear hv hff hG hf
       go_wp2
       go_ret
       exact ⟨_, rfl, by rw [← HR2.out]; exact Kd.S_lower HO.out HBt.out.size, HBt.out.trans (TB.out.mono HBt.out.size)⟩
      | some n =>
       rw [hff] at hG
       have HG2 := Aside0.mk (show grpGo t f (markL d (grpL t n t.length)) (out ++ [grpL t n t.length]) = r from hG)
       have HFX := Aside0.mk (show f = t.length - (x + 1) by omega)
       have HNL := Aside0.mk (ffTo_lt hff)
       have hv : ffV (some n) = (n : Int) := rfl
       rw [hv]
       have hn0 : decide ((n : Int) < 0) = false := decide_eq_false (by omega)
       clear hv hff hG hf HGO
       obtain ⟨NW, hNW⟩ : ∃ NW, NW = wr.heap.size := ⟨_, rfl⟩
       go_wp2_with (first | (go_at_call 19; refine (groups_group At ct t n b3 _ HSQ.out HNL.out (Kd.C_below TC.out TB.out) B3.out).mono ?_; rintro e w7 ⟨vg, rfl, ho, hb⟩; obtain ⟨Ag, cg, rfl⟩ := Kd.R_slice ho; have HG := Aside0.mk (Kd.R_lower ho (below_size TB.out)); have HGB := Aside0.mk (show ∀ k, (Value.slice Ag (grpL t n t.length).length cg).ownBlock = some k → NW ≤ k by rw [hNW]; exact Kd.R_base ho); have n3_ := Aside0.mk (show Kd.S (Kd.slice 3 (Kd.int .i64)) 29 w7 wt.heap.size (fun k => True ∧ k < NW) u7 out by rw [hNW]; exact Kd.S_old HO.out hb); have n0_ := Aside0.mk (Kd.R_below HD.out hb); have n1_ := Aside0.mk (blk_below B3.out hb); have n2_ := Aside0.mk (blk_below B5.out hb); have n4_ := Aside0.mk (below_step TB.out hb); clear HD B3 B5 HO TB hb ho; have HD := n0_; have B3 := n1_; have B5 := n2_; have HO := n3_; have TB := n4_; clear n0_ n1_ n2_ n3_ n4_))
       obtain ⟨g, hg⟩ : ∃ g, g = grpL t n t.length := ⟨_, rfl⟩
       have HGL := Aside0.mk (show g.length ≤ t.length by rw [hg]; exact grpL_len t n t.length)
       have HGI := Aside0.mk (show ∀ x ∈ g, ∃ k : Nat, x = (k : Int) ∧ k < t.length by rw [hg]; exact grpL_in t n t.length)
       rw [← hg] at HG2 HG HGB ⊢
       clear hg hn0 hNW
       obtain ⟨D, hD⟩ : ∃ D, D = markL d g := ⟨_, rfl⟩
       rw [← hD] at HG2
       have HDD := Aside0.mk (show D.length = t.length by rw [hD, markL_len]; exact HDL.out)
       go_loopg [12, 45] g.length (fun gg s12 s45 wr => ∃ (z : Nat) (d : List Bool), s45 = .int .i64 z ∧ g.length - z ≤ gg ∧ Aside0 (z ≤ g.length) ∧ Aside0 (D = markL d (g.drop z)) ∧ Aside0 (d.length = t.length) ∧ Aside0 (Kd.R (Kd.int .i64) 3 wr wt.heap.size (fun _ => True) (.slice Ag g.length cg) g) ∧ Aside0 (Kd.R Kd.bool 4 wr wt.heap.size (fun _ => True) (.slice Ad t.length cd) d) ∧ Aside0 (wr.heap[b3]? = some (.cells #[.slice At t.length ct] 52 (0, 0))) ∧ Aside0 (wr.heap[b5]? = some (.cells #[.slice Ad t.length cd] 49 (0, 0))) ∧ Aside0 (Kd.S (Kd.slice 3 (Kd.int .i64)) 29 wr wt.heap.size (fun k => True ∧ k < NW) u7 out) ∧ Aside0 (Below wt.heap.size wt wr))
       case atStart => exact ⟨0, d, rfl, by omega, ⟨Nat.zero_le _⟩, ⟨hD⟩, HDL, HG, HD, B3, B5, HO, TB⟩
       case round =>
        clear HDL HG HD B3 B5 HO TB hD
        obtain ⟨z, d, rfl, hgg3, HZ, HDM, HDL, HG, HD, B3, B5, HO, TB⟩ := hrel
        by_cases hlt3 : z < g.length
        ·have hltz3 : (z : Int) < (g.length : Int) := by omega
         obtain ⟨q, hq, hqN⟩ := HGI.out (g.getD z 0) (getD_mem g z 0 hlt3)
         obtain ⟨adg, eg, hxg⟩ := Kd.at_int (Kd.R_reads' HG.out).2.2 (z : Int) (by omega) hltz3
         cases eg
         rw [Int.toNat_natCast, show rd g (z : Int) = (q : Int) by unfold rd; rw [Int.toNat_natCast]; exact hq] at hxg
         have hc5 := (blk_cell B5.out 0).trans rfl
         obtain ⟨gd, co, eo, gb0, gl0, cl0, hg0⟩ := Kd.R_form HD.out (by have := HDL.out; omega)
         injection eo with ea en ec
         clear en
         subst ea
         subst ec
         clear cl0 hg0
         obtain ⟨hxi, hfi⟩ := Kd.R_celln false HD.out (q : Int) (by omega) (by omega)
         rw [Int.toNat_natCast] at hxi hfi
         have HPG := Aside0.mk (show Kd.R Kd.bool 4 (wr.setCell ⟨gd, q, none⟩ (.bool true)) wt.heap.size (fun _ => True) (.slice (some ⟨gd, 0, none⟩) t.length cd) (d.set q true) ∧ wr.grownBy (wr.setCell ⟨gd, q, none⟩ (.bool true)) (some gd) by
          have := Kd.R_putg HD.out (q : Int) true
          rw [Int.toNat_natCast] at this
          exact this)
         have HMK := Aside0.mk (show D = markL (d.set q true) (g.drop (z + 1)) by
          rw [HDM.out, drop_at g z 0 hlt3]
          unfold markL
          rw [List.foldl_cons, hq, Int.toNat_natCast])
         have HQN := Aside0.mk hqN
         have p1 : (0 ≤ (z : Int)) = True := eq_true (by omega)
         have p2 : (0 ≤ (q : Int)) = True := eq_true (by omega)
         have q2 : ((q : Int) < (t.length : Int)) = True := eq_true (by omega)
         clear hq hqN gb0 gl0
         go_wp2
         go_roundg (g.length - (z + 1))
         case measure => omega
         case rel => exact ⟨z + 1, d.set q true, (by first | go_num | (rw [wrap64_small _ (by have := HGL.out; have := HSQ.out.1; omega) (by have := HGL.out; have := HSQ.out.1; omega)]; go_num)), Nat.le_refl _, ⟨by omega⟩, HMK, ⟨by rw [List.length_set]; exact HDL.out⟩, ⟨Kd.R_over' HG.out (Kd.R_typed HD.out) (by decide) HPG.out.2⟩, ⟨HPG.out.1⟩, ⟨blk_grown B3.out HPG.out.2 (Kd.R_ne HD.out B3.out (by decide))⟩, ⟨blk_grown B5.out HPG.out.2 (Kd.R_ne HD.out B5.out (by decide))⟩, ⟨Kd.S_over' HO.out (Kd.R_typed HD.out) (by decide) HPG.out.2⟩, ⟨TB.out.grown HPG.out.2 (below_size TB.out) (Kd.R_base HD.out)⟩⟩
        ·have HZE := Aside0.mk (show z = g.length by have := HZ.out; omega)
         have hltz3 : ¬ (z : Int) < (g.length : Int) := by omega
         have hd3 : decide ((z : Int) < (g.length : Int)) = false := decide_eq_false hltz3
         have HDE := Aside0.mk (show d = D by rw [HDM.out, HZE.out, List.drop_length]; rfl)
         clear hltz3
         go_wp2_with (first | ((with_reducible refine gate_builtin (b := .append) (xs := #[.tmp 53, .tmp 55]) rfl ?_); at_builtin; refine Kd.S_append (Kd.slice 3 (Kd.int .i64)) (w0 := wt) wt.heap.size rfl (.tmp 53) (.tmp 55) 27 29 (.slice none 0 0) 24 rfl Try.underlying27 info29 rfl (by decide) (by omega) _ out g [.slice Ag g.length cg] (fun _ => True) (fun k_ => some k_ = (.slice Ag g.length cg : Value).ownBlock) rfl rfl ?aP ?aQ ?aF ?aO ?aB ?aS ?aL ?_; (case aP => exact Kd.M_row (Kd.R_mono (Kd.R_tight rfl HG.out) (fun _ h_ => h_))); (case aQ => exact (fun k_ hk_ => ⟨trivial, fun e_ => by have := HGB.out k_ hk_.symm; have := ((Kd.S_R HO.out).1 k_ e_.symm).2; omega⟩)); (case aB => exact TB.out); (case aF => exact (fun _ _ => trivial)); (case aO => exact Kd.S_mono HO.out (fun k_ hk_ => ⟨trivial, fun e_ => by have := HGB.out k_ e_.symm; have := hk_.2; omega⟩)); (case aS => exact (below_size TB.out)); (case aL => have := HOL.out; have := HSQ.out.1; omega); intro vq wq ho hb hg hat; have n0_ := Aside0.mk (Kd.R_over' HD.out (Kd.S_typed HO.out) (by decide) hg); have n1_ := Aside0.mk (blk_grown B3.out hg (Kd.S_ne HO.out B3.out (by decide))); have n2_ := Aside0.mk (blk_grown B5.out hg (Kd.S_ne HO.out B5.out (by decide))); have n3_ := Aside0.mk ho; have n4_ := Aside0.mk hb; clear HD B3 B5 HO TB ho hb hg hat; have HD := n0_; have B3 := n1_; have B5 := n2_; have HO := n3_; have TB := n4_; clear n0_ n1_ n2_ n3_ n4_))
         go_roundg (t.length - (x + 1))
         case measure => have := HLT.out; omega
         case rel => exact ⟨x + 1, d, out ++ [g], (by first | go_num | (rw [wrap64_small _ (by have := HSQ.out.1; have := HLT.out; omega) (by have := HSQ.out.1; have := HLT.out; omega)]; go_num)), Nat.le_refl _, ⟨by have := HLT.out; omega⟩, ⟨by rw [HDE.out, ← HFX.out]; exact HG2.out⟩, HDL, ⟨by have := HOL.out; simp; omega⟩, HD, B3, B5, HO, TB⟩
   ·have HXE := Aside0.mk (show x = t.length by have := HX.out; omega)
    have hltz : ¬ (x : Int) < (t.length : Int) := by omega
    have hd : decide ((x : Int) < (t.length : Int)) = false := decide_eq_false hltz
    have hG := HGO.out
    rw [HXE.out, Nat.sub_self, grpGo] at hG
    have HR2 := Aside0.mk hG
    clear hG hltz
    go_wp2
    go_ret
    exact ⟨_, rfl, by rw [← HR2.out]; exact Kd.S_lower HO.out HBt.out.size, HBt.out.trans (TB.out.mono HBt.out.size)⟩
 ·rw [if_neg hsq] at h; cases h
end Go.Proofs.Ytjjcnbfmmhokeaa.X
namespace Go.Proofs.Ytjjcnbfmmhokeaa.X
open Go.RowKit Go.Proofs.YtjjcnbfmmhokeaaW.PrintWords Go.Proofs.YtjjcnbfmmhokeaaW.PrintLast Go.Proofs.YtjjcnbfmmhokeaaW.PrintMore
attribute [local go_sem] max2_int min2_int max_two min_two max_three min_three max_four min_four
set_option linter.all false
noncomputable section
def davitlaw11_func1.f (a0 : Int) : Option (Int × Int × (List (S44))) := some (0, 0, (([(⟨false, (⟨0, ([] : List Int), false, false⟩ : S40), (([(⟨11, 0, 0, 0, 0, a0, ([] : List Int)⟩ : S36)] : List (S36))), (⟨0, 0, 0, 0, ([] : List Int), 0, 0, 0⟩ : S42)⟩ : S44)] : List (S44))))
set_option maxHeartbeats 8000000 in
set_option maxRecDepth 100000 in
theorem davitlaw11_func1.calls (a0 : Int) (r1 : Int) (r2 : Int) (r3 : List (S44)) (w : World) (h : davitlaw11_func1.f a0 = some (r1, r2, r3)) :
  Calls Try.prog 17 #[.int .i64 a0] w fun e w' => ∃ v2_ : Value, e = .returned (.agg #[.int .i64 r1, .int .i64 r2, v2_]) ∧ Kd.N k44 44 w' w.heap.size (fun k_ => (w.heap.size ≤ k_)) v2_ r3 ∧ Below w.heap.size w w' := by
 have hu33 := Try.underlying33
 have hu36 := Try.underlying36
 have hu44 := Try.underlying44
 have HB := Aside0.mk (Below.refl w.heap.size w)
 have H : (some (0, 0, (([(⟨false, (⟨0, ([] : List Int), false, false⟩ : S40), (([(⟨11, 0, 0, 0, 0, a0, ([] : List Int)⟩ : S36)] : List (S36))), (⟨0, 0, 0, 0, ([] : List Int), 0, 0, 0⟩ : S42)⟩ : S44)] : List (S44))))) = some (r1, r2, r3) := h
 clear h
 obtain ⟨y289, hy289⟩ : ∃ y_ : List (S36), y_ = (([(⟨11, 0, 0, 0, 0, a0, ([] : List Int)⟩ : S36)] : List (S36))) := ⟨_, rfl⟩
 replace H : (some (0, 0, (([(⟨false, (⟨0, ([] : List Int), false, false⟩ : S40), y289, (⟨0, 0, 0, 0, ([] : List Int), 0, 0, 0⟩ : S42)⟩ : S44)] : List (S44))))) = some (r1, r2, r3) := by first | (rw [hy289]; with_reducible exact H) | (have H2_ := (Option.bind_some _ _).symm.trans H; rw [hy289]; with_reducible exact H2_) | (have H2_ := (Option.bind_some _ _).symm.trans H; with_reducible exact H2_) | with_reducible exact H | (rw [hy289]; exact H) | exact H
 have Ny289 := Aside0.mk hy289
 clear hy289
 obtain ⟨y292, hy292⟩ : ∃ y_ : List (S44), y_ = (([(⟨false, (⟨0, ([] : List Int), false, false⟩ : S40), y289, (⟨0, 0, 0, 0, ([] : List Int), 0, 0, 0⟩ : S42)⟩ : S44)] : List (S44))) := ⟨_, rfl⟩
 replace H : (some (0, 0, y292)) = some (r1, r2, r3) := by first | (rw [hy292]; with_reducible exact H) | (have H2_ := (Option.bind_some _ _).symm.trans H; rw [hy292]; with_reducible exact H2_) | (have H2_ := (Option.bind_some _ _).symm.trans H; with_reducible exact H2_) | with_reducible exact H | (rw [hy292]; exact H) | exact H
 have Ny292 := Aside0.mk hy292
 clear hy292
 simp only [Option.some.injEq, Prod.mk.injEq] at H
 obtain ⟨rfl, rfl, rfl⟩ := H
 go_enter Try.func17, Try.ntmps17
 go_wp2_with (first | ((with_reducible refine gate_dst (N := 2) rfl ?_); refine box_event ?hg (N := 2) ?hd (cs := #[.int .i64 0, .int .i64 0, .slice none 0 0]) (t := 33) ?hr ?_; (case hd => rfl); (case hg => rfl); (case hr => first | (go_simp; done) | (go_simp; rfl)); intro gb288 hg w2 hbox hb; have n0_ := Aside0.mk (below_step (by repeat (first | (with_reducible first | exact HB.out | apply below_alloc | apply pw_below_drewN | apply below_drew1) | exact HB.out)) hb); have n1_ := Aside0.mk (hbox); have n2_ := Aside0.mk ((by rw [hg]; exact (below_size (by repeat (first | (with_reducible first | exact HB.out | apply below_alloc | apply pw_below_drewN | apply below_drew1) | exact HB.out))) : w.heap.size ≤ gb288)); have n3_ := Aside0.mk ((by rw [hg]; exact (below_size (by repeat (first | (with_reducible first | exact HB.out | apply below_alloc | apply pw_below_drewN | apply below_drew1) | exact HB.out))) : w.heap.size ≤ gb288)); clear HB; have HB := n0_; have BK288 := n1_; have GW288 := n2_; have GE288 := n3_; clear n0_ n1_ n2_ n3_; clear hb hbox hg) | ((with_reducible refine gate_dst (N := 5) rfl ?_); refine Kd.N_lit k36 _ 36 ?hg (N' := 5) ?hd (xs := ([(⟨11, 0, 0, 0, 0, a0, ([] : List Int)⟩ : S36)] : List (S36))) (inner := [.int .i64 11, .int .i64 0, .int .i64 0, .int .i64 0, .int .u16 0, .int .i64 a0, .slice none 0 0]) (ok := (fun k_ => (w.heap.size ≤ k_) ∧ k_ ≠ gb288)) (okp := (fun k_ => (w.heap.size ≤ k_) ∧ k_ ≠ gb288)) ?hr ?hp (fun _ hk => hk) ((show ∀ k_, w2.heap.size ≤ k_ → (fun k_ => (w.heap.size ≤ k_) ∧ k_ ≠ gb288) k_ from fun k_ hk => ⟨(Nat.le_trans (below_size (by repeat (first | (with_reducible first | exact HB.out | apply below_alloc | apply pw_below_drewN | apply below_drew1 | refine below_set ?_ GE288.out) | exact HB.out))) hk), Kd.freshB (g := gb288) (o := .cells #[.int .i64 0, .int .i64 0, .slice none 0 0] 33 (0, 0)) (by (with_reducible repeat (first | refine blk_drewN ?_ _ | refine blk_drew ?_ | refine blk_alloc ?_ _)); exact BK288.out) k_ hk⟩) _ (Nat.le_refl _)) (Below.refl _ _) (Nat.le_refl _) (by simp) ?_; (case hd => rfl); (case hg => rfl); (case hr => first | (go_simp; done) | (go_simp; rfl)); (case hp => exact (Reps.c7 (show Kd.FK k36 _ _ (⟨11, 0, 0, 0, 0, a0, ([] : List Int)⟩ : S36) [.int .i64 11, .int .i64 0, .int .i64 0, .int .i64 0, .int .u16 0, .int .i64 a0, .slice none 0 0] from (k36_mkF _ _ (⟨11, 0, 0, 0, 0, a0, ([] : List Int)⟩ : S36) (Nat.le_refl _) (Kd.F_nil _ _ _))) (Reps.none _ _))); intro v290 w3 ho4 hb hg_ hnew_; clear hg_ hnew_; (first | rw [← Ny289.out] at ho4 | (simp only [Int.reduceToNat] at ho4; rw [← Ny289.out] at ho4)); have n0_ := Aside0.mk (Kd.N_lower ho4 (below_size (by repeat (first | (with_reducible first | exact HB.out | apply below_alloc | apply pw_below_drewN | apply below_drew1 | refine below_set ?_ GE288.out) | exact HB.out)))); have n1_ := Aside0.mk (blk_below (g := gb288) (o := .cells #[.int .i64 0, .int .i64 0, .slice none 0 0] 33 (0, 0)) (by (with_reducible repeat (first | refine blk_drewN ?_ _ | refine blk_drew ?_ | refine blk_alloc ?_ _)); exact BK288.out) hb); have n2_ := Aside0.mk (below_step (by repeat (first | (with_reducible first | exact HB.out | apply below_alloc | apply pw_below_drewN | apply below_drew1 | refine below_set ?_ GE288.out) | exact HB.out)) hb); clear BK288; clear HB; have HO291 := n0_; have BK288 := n1_; have HB := n2_; clear n0_ n1_ n2_; clear hb ho4; obtain ⟨Ao5, co5, eo5⟩ := Kd.N_slice HO291.out; subst eo5) | ((with_reducible refine gate_dst (N := 7) rfl ?_); refine Kd.N_lit k44 _ 44 ?hg (N' := 7) ?hd (xs := ([(⟨false, (⟨0, ([] : List Int), false, false⟩ : S40), y289, (⟨0, 0, 0, 0, ([] : List Int), 0, 0, 0⟩ : S42)⟩ : S44)] : List (S44))) (inner := [.bool false, .int .i64 0, .slice none 0 0, .bool false, .bool false, .slice Ao5 y289.length co5, .int .i64 0, .int .i64 0, .int .i64 0, .int .i64 0, .slice none 0 0, .int .i64 0, .int .i64 0, .int .i64 0]) (ok := (fun k_ => (w.heap.size ≤ k_) ∧ k_ ≠ gb288)) (okp := (fun k_ => (w.heap.size ≤ k_) ∧ k_ ≠ gb288)) ?hr ?hp (fun _ hk => hk) ((show ∀ k_, w3.heap.size ≤ k_ → (fun k_ => (w.heap.size ≤ k_) ∧ k_ ≠ gb288) k_ from fun k_ hk => ⟨(Nat.le_trans (below_size (by repeat (first | (with_reducible first | exact HB.out | apply below_alloc | apply pw_below_drewN | apply below_drew1 | refine below_set ?_ GE288.out) | exact HB.out))) hk), Kd.freshB (g := gb288) (o := .cells #[.int .i64 0, .int .i64 0, .slice none 0 0] 33 (0, 0)) (by (with_reducible repeat (first | refine blk_drewN ?_ _ | refine blk_drew ?_ | refine blk_alloc ?_ _)); exact BK288.out) k_ hk⟩) _ (Nat.le_refl _)) (Below.refl _ _) (Nat.le_refl _) (by simp) ?_; (case hd => rfl); (case hg => rfl); (case hr => first | (go_simp; done) | (go_simp; rfl)); (case hp => exact (Reps.front (show Kd.FK k44 _ _ (⟨false, (⟨0, ([] : List Int), false, false⟩ : S40), y289, (⟨0, 0, 0, 0, ([] : List Int), 0, 0, 0⟩ : S42)⟩ : S44) [.bool false, .int .i64 0, .slice none 0 0, .bool false, .bool false, .slice Ao5 y289.length co5, .int .i64 0, .int .i64 0, .int .i64 0, .int .i64 0, .slice none 0 0, .int .i64 0, .int .i64 0, .int .i64 0] from (k44_mkF _ _ (⟨false, (⟨0, ([] : List Int), false, false⟩ : S40), y289, (⟨0, 0, 0, 0, ([] : List Int), 0, 0, 0⟩ : S42)⟩ : S44) (Nat.le_refl _) (Kd.F_nil _ _ _) (Kd.N_reads' (Kd.N_mono (ok' := (fun k_ => (w.heap.size ≤ k_) ∧ k_ ≠ gb288)) (HO291.out) (fun k_ hk => ⟨hk.1, hk.2⟩))).2.1 (Kd.N_F (Kd.N_mono (ok' := (fun k_ => (w.heap.size ≤ k_) ∧ k_ ≠ gb288)) (HO291.out) (fun k_ hk => ⟨hk.1, hk.2⟩))) (Nat.le_refl _) (Kd.F_nil _ _ _))) rfl (Reps.none _ _) rfl)); intro v293 w6 ho7 hb hg_ hnew_; clear hg_ hnew_; (first | rw [← Ny292.out] at ho7 | (simp only [Int.reduceToNat] at ho7; rw [← Ny292.out] at ho7)); have n0_ := Aside0.mk (Kd.N_lower ho7 (below_size (by repeat (first | (with_reducible first | exact HB.out | apply below_alloc | apply pw_below_drewN | apply below_drew1 | refine below_set ?_ GE288.out) | exact HB.out)))); have n1_ := Aside0.mk (blk_below (g := gb288) (o := .cells #[.int .i64 0, .int .i64 0, .slice none 0 0] 33 (0, 0)) (by (with_reducible repeat (first | refine blk_drewN ?_ _ | refine blk_drew ?_ | refine blk_alloc ?_ _)); exact BK288.out) hb); have n2_ := Aside0.mk (below_step (by repeat (first | (with_reducible first | exact HB.out | apply below_alloc | apply pw_below_drewN | apply below_drew1 | refine below_set ?_ GE288.out) | exact HB.out)) hb); clear BK288; clear HB; clear HO291; have HO294 := n0_; have BK288 := n1_; have HB := n2_; clear n0_ n1_ n2_; clear hb ho7; obtain ⟨Ao8, co8, eo8⟩ := Kd.N_slice HO294.out; subst eo8; have hcz9_0 : w6.cell? ⟨gb288, 0, none⟩ = some (.int .i64 0) := (blk_cell BK288.out 0).trans rfl; have hcz9_1 : w6.cell? ⟨gb288, 1, none⟩ = some (.int .i64 0) := (blk_cell BK288.out 1).trans rfl; have hcz9_2 : w6.cell? ⟨gb288, 2, none⟩ = some (.slice none 0 0) := (blk_cell BK288.out 2).trans rfl; have hfz9_0 := blk_frozen BK288.out 0; have hfz9_1 := blk_frozen BK288.out 1; have hfz9_2 := blk_frozen BK288.out 2))
 refine bodyPost_ret (results_cell_row rfl _ _ gb288 33 #[.int .i64 0, .int .i64 0, .slice Ao8 y292.length co8] (0, 0) _ rfl (by (with_reducible repeat (first | refine blk_drewN ?_ _ | refine blk_drew ?_ | refine blk_alloc ?_ _)); refine blk_put (cs := #[.int .i64 0, .int .i64 0, .slice none 0 0]) ?_ 2 _ rfl; (with_reducible repeat (first | refine blk_drewN ?_ _ | refine blk_drew ?_ | refine blk_alloc ?_ _)); refine blk_put (cs := #[.int .i64 0, .int .i64 0, .slice none 0 0]) ?_ 1 _ rfl; (with_reducible repeat (first | refine blk_drewN ?_ _ | refine blk_drew ?_ | refine blk_alloc ?_ _)); refine blk_put (cs := #[.int .i64 0, .int .i64 0, .slice none 0 0]) ?_ 0 _ rfl; (with_reducible repeat (first | refine blk_drewN ?_ _ | refine blk_drew ?_ | refine blk_alloc ?_ _)); exact BK288.out) Try.underlying33 rfl (by kernel_rfl)) rfl ?_
 exact ⟨_, by first | rfl | (simp [errW_none, errW_some] <;> rfl) | (simp [*, errW_none, errW_some] <;> rfl), by (with_reducible repeat (first | apply Kd.N_alloc | apply Kd.N_drewN | apply Kd.N_drew)); exact Kd.N_mono (Kd.N_far (p := ⟨gb288, 2, none⟩) (Kd.N_far (p := ⟨gb288, 1, none⟩) (Kd.N_far (p := ⟨gb288, 0, none⟩) (Kd.N_mono HO294.out (fun k_ hk => (⟨hk, hk.2⟩ : _ ∧ k_ ≠ gb288))) (fun _ hk => hk.2) (.int .i64 0)) (fun _ hk => hk.2) (.int .i64 0)) (fun _ hk => hk.2) (.slice Ao8 y292.length co8)) (fun _ hk => hk.1.1), by repeat (first | (with_reducible first | exact HB.out | apply below_alloc | apply pw_below_drewN | apply below_drew1 | refine below_set ?_ GE288.out) | exact HB.out)⟩
end
end Go.Proofs.Ytjjcnbfmmhokeaa.X
namespace Go.Proofs.Ytjjcnbfmmhokeaa.X
open Go.RowKit Go.Proofs.YtjjcnbfmmhokeaaW.PrintWords Go.Proofs.YtjjcnbfmmhokeaaW.PrintLast Go.Proofs.YtjjcnbfmmhokeaaW.PrintMore
attribute [local go_sem] max2_int min2_int max_two min_two max_three min_three max_four min_four
set_option linter.all false
noncomputable section
def davitref02_Ints.l0 : Nat → List Int → List Int → Int → Option (Bool)
 | 0, _, _, _ => none
 | k + 1, x0, x1, x5 => if x5 < (x0.length : Int) then (if 0 ≤ x5 then (if x5 < (x1.length : Int) then (if (rd x0 x5) = (rd x1 x5) then (davitref02_Ints.l0 k x0 x1 (wrap64 (x5 + 1))) else (some false)) else (none)) else (none)) else (some true)
def davitref02_Ints.f (k : Nat) (l0 : List Int) (l1 : List Int) : Option (Bool) := if (l0.length : Int) = (l1.length : Int) then (davitref02_Ints.l0 k l0 l1 0) else (some false)
theorem davitref02_Ints.mono_l : ∀ k, (∀ y0 y1 y2, LeO (davitref02_Ints.l0 k y0 y1 y2) (davitref02_Ints.l0 (k + 1) y0 y1 y2))
 | 0 => fun _ _ _ r h => by simp [davitref02_Ints.l0] at h
 | k + 1 => by
  have ih0 := davitref02_Ints.mono_l k
  ·intro y0 y1 y2
   unfold davitref02_Ints.l0
   repeat' first
   | (with_reducible exact ih0 _ _ _)
   | (with_reducible exact LeO.refl _)
   | (with_reducible exact LeO.none _)
   | (with_reducible refine LeO.ite ?_ ?_)
   | (with_reducible refine LeO.bind ?_ (fun _ => ?_))
   | exact ih0 _ _ _
   | exact LeO.none _
   | refine LeO.ite ?_ ?_
   | refine LeO.bind ?_ (fun _ => ?_)
theorem davitref02_Ints.mono : ∀ a0 a1 k, LeO (davitref02_Ints.f k a0 a1) (davitref02_Ints.f (k + 1) a0 a1) := by
 intro a0 a1 k
 have ih0 := davitref02_Ints.mono_l k
 unfold davitref02_Ints.f
 repeat' first
   | (with_reducible exact ih0 _ _ _)
   | (with_reducible exact LeO.refl _)
   | (with_reducible exact LeO.none _)
   | (with_reducible refine LeO.ite ?_ ?_)
   | (with_reducible refine LeO.bind ?_ (fun _ => ?_))
   | exact ih0 _ _ _
   | exact LeO.none _
   | refine LeO.ite ?_ ?_
   | refine LeO.bind ?_ (fun _ => ?_)
set_option maxHeartbeats 8000000 in
set_option maxRecDepth 100000 in
theorem davitref02_Ints.calls (k : Nat) (A0 : Option Addr) (c0 : Nat) (l0 : List Int) (A1 : Option Addr) (c1 : Nat) (l1 : List Int) (r : Bool) (w : World) (hr0 : Kd.C (Kd.int .i64) w A0 l0.length l0) (hc0 : l0.length ≤ c0) (hr1 : Kd.C (Kd.int .i64) w A1 l1.length l1) (hc1 : l1.length ≤ c1) (h : davitref02_Ints.f k l0 l1 = some r) :
  Calls Try.prog 12 #[.slice A0 l0.length c0, .slice A1 l1.length c1] w fun e w' => e = .returned (.bool r) ∧ Drawn0 w w' := by
 have HR0 := Aside0.mk hr0
 have HC0 := Aside0.mk hc0
 clear hr0 hc0
 have HR1 := Aside0.mk hr1
 have HC1 := Aside0.mk hc1
 clear hr1 hc1
 have H : (if (l0.length : Int) = (l1.length : Int) then (davitref02_Ints.l0 k l0 l1 0) else (some false)) = some r := h
 clear h
 by_cases c3 : (l0.length : Int) = (l1.length : Int)
 ·rw [if_pos c3] at H
  have c3b0 : ((l0.length : Int) == (l1.length : Int)) = true := beq_iff_eq.mpr c3
  have c3b1 : ((l0.length : Int) != (l1.length : Int)) = false := bne_eq_false_iff_eq.mpr c3
  have c3b2 : (l0.length == l1.length) = true := by first | simpa using c3 | (simp at c3 ⊢; omega)
  clear c3
  have H' := Aside0.mk H
  clear H
  go_enter Try.func12, Try.ntmps12
  go_wp2
  repeat (go_quiet (fail); try go_wp2)
  go_loopg [5] k (fun kq v5 w' => ∃ (x5_1 : Int), v5 = .int .i64 x5_1 ∧ Aside0 (davitref02_Ints.l0 kq l0 l1 x5_1 = some r) ∧ Aside0 (kq ≤ k) ∧ Drawn0 w w')
  case atStart => exact ⟨(0), (by first | rfl | (simp; done) | (simp [*]; done)), H', ⟨Nat.le_refl _⟩, by repeat (first | exact Drawn0.refl _ | apply Drawn0.step)⟩
  case round =>
   clear H'
   try clear c1
   try clear p2
   try clear c3
   try clear c3b0
   try clear c3b1
   try clear c3b2
   obtain ⟨x5_1, rfl, HA, HK1, ⟨m1, rfl⟩⟩ := hrel
   cases gk with
   | zero => exact absurd HA.out (by simp [davitref02_Ints.l0])
   | succ k1 =>
    have H := HA.out
    clear HA
    simp only [davitref02_Ints.l0] at H
    by_cases c4 : x5_1 < (l0.length : Int)
    ·rw [if_pos c4] at H
     have c4b0 : decide (x5_1 < (l0.length : Int)) = true := decide_eq_true c4
     clear c4
     by_cases c5 : 0 ≤ x5_1
     ·rw [if_pos c5] at H
      have c5b0 : decide (0 ≤ x5_1) = true := decide_eq_true c5
      clear c5
      by_cases c6 : x5_1 < (l1.length : Int)
      ·rw [if_pos c6] at H
       have c6b0 : decide (x5_1 < (l1.length : Int)) = true := decide_eq_true c6
       clear c6
       by_cases c7 : (rd l0 x5_1) = (rd l1 x5_1)
       ·rw [if_pos c7] at H
        have c7b0 : ((rd l0 x5_1) == (rd l1 x5_1)) = true := beq_iff_eq.mpr c7
        have c7b1 : ((rd l0 x5_1) != (rd l1 x5_1)) = false := bne_eq_false_iff_eq.mpr c7
        clear c7
        have H' := Aside0.mk H
        clear H
        have p143 : 0 ≤ (x5_1 : Int) := of_decide_eq_true (by first | (with_reducible assumption) | assumption)
        have q143 : x5_1 < (l0.length : Int) := of_decide_eq_true (by first | (with_reducible assumption) | assumption)
        obtain ⟨ad143, e143, hx143_0⟩ := Kd.at_int HR0.out x5_1 p143 q143
        cases e143
        replace p143 := eq_true p143
        replace q143 := eq_true q143
        have p144 : 0 ≤ (x5_1 : Int) := of_decide_eq_true (by first | (with_reducible assumption) | assumption)
        have q144 : x5_1 < (l1.length : Int) := of_decide_eq_true (by first | (with_reducible assumption) | assumption)
        obtain ⟨ad144, e144, hx144_0⟩ := Kd.at_int HR1.out x5_1 p144 q144
        cases e144
        replace p144 := eq_true p144
        replace q144 := eq_true q144
        go_wp2
        repeat (go_quiet (fail); try go_wp2)
        go_roundg k1
        case measure => have := HK1.out; omega
        case rel => exact ⟨(wrap64 (x5_1 + 1)), (by first | rfl | (simp; done) | (simp [*]; done)), H', ⟨by have := HK1.out; omega⟩, by repeat (first | exact Drawn0.refl _ | apply Drawn0.step)⟩
       ·rw [if_neg c7] at H
        have c7b0 : ((rd l0 x5_1) == (rd l1 x5_1)) = false := beq_eq_false_iff_ne.mpr c7
        have c7b1 : ((rd l0 x5_1) != (rd l1 x5_1)) = true := bne_iff_ne.mpr c7
        obtain rfl := Option.some.inj H
        have p143 : 0 ≤ (x5_1 : Int) := of_decide_eq_true (by first | (with_reducible assumption) | assumption)
        have q143 : x5_1 < (l0.length : Int) := of_decide_eq_true (by first | (with_reducible assumption) | assumption)
        obtain ⟨ad143, e143, hx143_0⟩ := Kd.at_int HR0.out x5_1 p143 q143
        cases e143
        replace p143 := eq_true p143
        replace q143 := eq_true q143
        have p144 : 0 ≤ (x5_1 : Int) := of_decide_eq_true (by first | (with_reducible assumption) | assumption)
        have q144 : x5_1 < (l1.length : Int) := of_decide_eq_true (by first | (with_reducible assumption) | assumption)
        obtain ⟨ad144, e144, hx144_0⟩ := Kd.at_int HR1.out x5_1 p144 q144
        cases e144
        replace p144 := eq_true p144
        replace q144 := eq_true q144
        go_wp2
        repeat (go_quiet (fail); try go_wp2)
        go_ret
        exact ⟨by first | rfl | (simp; done) | (simp [*]; done), by repeat (first | exact Drawn0.refl _ | apply Drawn0.step)⟩
      ·rw [if_neg c6] at H
       exact absurd H (by simp)
     ·rw [if_neg c5] at H
      exact absurd H (by simp)
    ·rw [if_neg c4] at H
     have c4b0 : decide (x5_1 < (l0.length : Int)) = false := decide_eq_false c4
     clear c4
     obtain rfl := Option.some.inj H
     go_wp2
     repeat (go_quiet (fail); try go_wp2)
     go_ret
     exact ⟨by first | rfl | (simp; done) | (simp [*]; done), by repeat (first | exact Drawn0.refl _ | apply Drawn0.step)⟩
 ·rw [if_neg c3] at H
  have c3b0 : ((l0.length : Int) == (l1.length : Int)) = false := beq_eq_false_iff_ne.mpr c3
  have c3b1 : ((l0.length : Int) != (l1.length : Int)) = true := bne_iff_ne.mpr c3
  have c3b2 : (l0.length == l1.length) = false := by first | simpa using c3 | (simp at c3 ⊢; omega)
  obtain rfl := Option.some.inj H
  go_enter Try.func12, Try.ntmps12
  go_wp2
  repeat (go_quiet (fail); try go_wp2)
  go_ret
  exact ⟨by first | rfl | (simp; done) | (simp [*]; done), by repeat (first | exact Drawn0.refl _ | apply Drawn0.step)⟩
end
end Go.Proofs.Ytjjcnbfmmhokeaa.X
namespace Go.Proofs.Ytjjcnbfmmhokeaa.X
open Go.Shelf Go.RowKit Go.Proofs.YtjjcnbfmmhokeaaW.PrintWords Go.Proofs.YtjjcnbfmmhokeaaW.PrintLast Go.Proofs.YtjjcnbfmmhokeaaW.PrintMore
set_option linter.all false
def L1 : List S44 := [(⟨false, (⟨0, ([] : List Int), false, false⟩ : S40), (([(⟨11, 0, 0, 0, 0, 1, ([] : List Int)⟩ : S36)] : List (S36))), (⟨0, 0, 0, 0, ([] : List Int), 0, 0, 0⟩ : S42)⟩ : S44)]
def M1 : List S33 := [⟨0, 0, L1⟩, z33]
def davitlaw11_awake.f (k : Nat) : Option Bool := (calls_Groups.f k M1).bind fun g => if g = [[1], [0]] then (if calls_Of.f M1 0 = some [1] then some true else none) else none
theorem davitlaw11_awake.mono : ∀ k, LeO (davitlaw11_awake.f k) (davitlaw11_awake.f (k + 1)) := by
 intro k
 unfold davitlaw11_awake.f
 repeat' first
   | (with_reducible exact LeO.refl _)
   | (with_reducible exact calls_Groups.mono _ _)
   | (with_reducible refine LeO.bind ?_ (fun _ => ?_))
theorem two_C (W : World) (b : Nat) (A2 : Option Addr) (c2 : Nat) (hl : L1.length ≤ c2) (hC : Kd.C k44 W A2 L1.length L1) (hb : W.heap[b]? = some (.cells #[.int .i64 0, .int .i64 0, .slice A2 L1.length c2, .int .i64 0, .int .i64 0, .slice none 0 0] 33 (0, 0))) : Kd.C k33 W (some ⟨b, 0, none⟩) M1.length M1 := by
 refine ⟨rfl, by decide, fun _ => ⟨⟨b, 0, none⟩, rfl, fun j p hj => ?_⟩⟩
 match j, hj with
 | 0, hj =>
  have e : p = ⟨0, 0, L1⟩ := by simpa [M1] using hj.symm
  subst e
  refine ⟨_, rfl, k33_mk W ⟨0, 0, L1⟩ hl hC, fun i u hu => ?_⟩
  rw [Addr.add_lit, blk_cell hb, ← hu]
  match i, hu with
  | 0, _ => rfl
  | 1, _ => rfl
  | 2, _ => rfl
  | i + 3, hu => simp at hu
 | 1, hj =>
  have e : p = z33 := by simpa [M1] using hj.symm
  subst e
  refine ⟨_, rfl, k33_mk W z33 (A2 := none) (c2 := 0) (Nat.le_refl _) ⟨rfl, by decide, fun h => absurd h (by decide)⟩, fun i u hu => ?_⟩
  rw [Addr.add_lit, blk_cell hb, ← hu]
  match i, hu with
  | 0, _ => rfl
  | 1, _ => rfl
  | 2, _ => rfl
  | i + 3, hu => simp at hu
 | j + 2, hj => simp [M1] at hj
theorem one_C (W : World) (b : Nat) (x : Int) (hb : W.heap[b]? = some (.cells #[.int .i64 x] 3 (0, 0))) : Kd.C (Kd.int .i64) W (some ⟨b, 0, none⟩) 1 [x] := by
 refine ⟨rfl, by decide, fun _ => ⟨⟨b, 0, none⟩, rfl, fun j p hj => ?_⟩⟩
 match j, hj with
 | 0, hj =>
  have e : p = x := by simpa using hj.symm
  subst e
  refine ⟨[.int .i64 p], rfl, rfl, fun i u hu => ?_⟩
  rw [Addr.add_lit, blk_cell hb, ← hu]
  match i, hu with
  | 0, _ => rfl
  | i + 1, hu => simp at hu
 | j + 1, hj => simp at hj
theorem ints_one (A : Option Addr) (c : Nat) (x : Int) (b : Nat) (W : World) (hA : Kd.C (Kd.int .i64) W A 1 [x]) (hc : 1 ≤ c) (hb : W.heap[b]? = some (.cells #[.int .i64 x] 3 (0, 0))) :
  Calls Try.prog 12 #[.slice A 1 c, .slice (some ⟨b, 0, none⟩) 1 1] W fun e w' => e = .returned (.bool true) ∧ Drawn0 W w' :=
 davitref02_Ints.calls 3 A c [x] (some ⟨b, 0, none⟩) 1 [x] true W hA hc (one_C W b x hb) (Nat.le_refl _) (by
  unfold davitref02_Ints.f
  rw [if_pos rfl, davitref02_Ints.l0, if_pos (by simp), if_pos (by simp), if_pos (by simp), if_pos rfl, davitref02_Ints.l0, if_neg (by rw [show wrap64 (0 + 1) = 1 by unfold wrap64; decide]; simp)])
set_option maxHeartbeats 2000000 in
set_option maxRecDepth 100000 in
theorem davitlaw11_awake.calls (k : Nat) (r : Bool) (w : World) (h : davitlaw11_awake.f k = some r) :
  Calls Try.prog 6 #[] w fun e w' => e = .returned (.bool r) ∧ Below w.heap.size w w' := by
 unfold davitlaw11_awake.f at h
 obtain ⟨g, hg, h⟩ := Option.bind_eq_some_iff.1 h
 by_cases h1 : g = [[1], [0]]
 ·subst h1
  rw [if_pos rfl] at h
  by_cases h2 : calls_Of.f M1 0 = some [1]
  ·rw [if_pos h2] at h
   obtain rfl := Option.some.inj h
   have HG := Aside0.mk hg
   have HOF := Aside0.mk h2
   have hu33 := Try.underlying33
   have hu24 := Try.underlying24
   clear h hg h2
   go_enter Try.func6, Try.ntmps6
   go_wp2_with (first | (go_at_call 17; refine (davitlaw11_func1.calls 1 0 0 L1 _ rfl).mono ?_; rintro e w5 ⟨v2, rfl, ho, hb⟩; obtain ⟨A2, c2, rfl, hl2, hC2⟩ := Kd.N_reads ho; have HC2 := Aside0.mk hC2; have HL2 := Aside0.mk hl2; have HB := Aside0.mk hb; have BK1 := Aside0.mk (blk_new w5 (.cells #[.int .i64 0, .int .i64 0, .slice A2 L1.length c2] 33)); clear ho hb hl2 hC2; have HM := Aside0.mk (two_C ((w5.alloc (.cells #[.int .i64 0, .int .i64 0, .slice A2 L1.length c2] 33)).alloc (.cells #[.int .i64 0, .int .i64 0, .slice A2 L1.length c2, .int .i64 0, .int .i64 0, .slice none 0 0] 33)) (w5.heap.size + 1) A2 c2 HL2.out (Kd.C_alloc (Kd.C_alloc HC2.out _) _) (by rw [← alloc_sz w5 (.cells #[.int .i64 0, .int .i64 0, .slice A2 L1.length c2] 33)]; exact blk_new _ _))) | (go_at_call 8; refine (calls_Groups.calls k (some ⟨w5.heap.size + 1, 0, none⟩) 2 M1 [[1], [0]] _ HM.out (by decide) HG.out).mono ?_; rintro e w8 ⟨vg, rfl, ho, hb⟩; obtain ⟨gv, cg, rfl, _, _, _⟩ := Kd.S_form ho (by decide); have hCg := (Kd.S_reads' ho).2.2; obtain ⟨ad, A3, c3, e3, hx3, hl3, hC3⟩ := at_L5 hCg 0 (by decide) (by decide); obtain ⟨ad', A4, c4, e4, hx4, hl4, hC4⟩ := at_L5 hCg 1 (by decide) (by decide); cases e3; cases e4; have n0_ := Aside0.mk (below_step (below_alloc (below_alloc HB.out _) _) hb); have n1_ := Aside0.mk (blk_below (blk_alloc BK1.out _) hb); have n2_ := Aside0.mk (Kd.C_below (Kd.C_alloc (Kd.C_alloc HC2.out _) _) hb); clear HB BK1 HC2; have HB := n0_; have BK1 := n1_; have HC2 := n2_; clear n0_ n1_ n2_ hb ho; have H3 := Aside0.mk (show Kd.C (Kd.int .i64) w8 A3 1 [1] from hC3); have H4 := Aside0.mk (show Kd.C (Kd.int .i64) w8 A4 1 [0] from hC4); have HX4 := Aside0.mk (show w8.cell? ⟨gv, 1, none⟩ = some (.slice A4 1 c4) from hx4); have K3 := Aside0.mk (show 1 ≤ c3 from hl3); have K4 := Aside0.mk (show 1 ≤ c4 from hl4); clear hC3 hC4 hl3 hl4 hx4 hCg; change w8.cell? ⟨gv, 0, none⟩ = some (.slice A3 1 c3) at hx3) | (go_at_call 12; (with_reducible refine (ints_one A3 c3 1 w8.heap.size _ (Kd.C_alloc H3.out _) K3.out (blk_new w8 _)).mono ?_); rintro e w9 ⟨rfl, hb⟩; have n0_ := Aside0.mk (below_step (below_alloc HB.out _) hb.below); have n1_ := Aside0.mk (blk_below (blk_alloc BK1.out _) hb.below); have n2_ := Aside0.mk (Kd.C_below (Kd.C_alloc HC2.out _) hb.below); have n3_ := Aside0.mk (Kd.C_below (Kd.C_alloc H4.out _) hb.below); have hy4 : w9.cell? ⟨gv, 1, none⟩ = some (.slice A4 1 c4) := pw_cell_below (below_step (below_alloc (Below.refl w8.heap.size w8) _) hb.below) HX4.out; clear HB BK1 HC2 H4 hb; have HB := n0_; have BK1 := n1_; have HC2 := n2_; have H4 := n3_; clear n0_ n1_ n2_ n3_) | (go_at_call 12; (with_reducible refine (ints_one A4 c4 0 w9.heap.size _ (Kd.C_alloc H4.out _) K4.out (blk_new w9 _)).mono ?_); rintro e wa ⟨rfl, hb⟩; have n0_ := Aside0.mk (below_step (below_alloc HB.out _) hb.below); have n1_ := Aside0.mk (blk_below (blk_alloc BK1.out _) hb.below); have n2_ := Aside0.mk (Kd.C_below (Kd.C_alloc HC2.out _) hb.below); clear HB BK1 HC2 hb hy4; have HB := n0_; have BK1 := n1_; have HC2 := n2_; clear n0_ n1_ n2_; have hz0 := (blk_cell BK1.out 0).trans rfl; have hz1 := (blk_cell BK1.out 1).trans rfl; have hz2 := (blk_cell BK1.out 2).trans rfl; have HM2 := Aside0.mk (two_C (wa.alloc (.cells #[.int .i64 0, .int .i64 0, .slice A2 L1.length c2, .int .i64 0, .int .i64 0, .slice none 0 0] 33)) wa.heap.size A2 c2 HL2.out (Kd.C_alloc HC2.out _) (blk_new wa _))) | (go_at_call 11; refine (calls_Of.calls (some ⟨wa.heap.size, 0, none⟩) 2 M1 0 [1] _ HM2.out (by decide) HOF.out).mono ?_; rintro e wb ⟨vo, rfl, ho, hb⟩; obtain ⟨A6, c6, rfl, hl6, hC6⟩ := Kd.R_reads ho; have H6 := Aside0.mk (show Kd.C (Kd.int .i64) wb A6 1 [1] from hC6); have K6 := Aside0.mk (show 1 ≤ c6 from hl6); have n0_ := Aside0.mk (below_step (below_alloc HB.out _) hb); clear HB hb ho hl6 hC6 hz0 hz1 hz2; have HB := n0_; clear n0_) | (go_at_call 12; (with_reducible refine (ints_one A6 c6 1 wb.heap.size _ (Kd.C_alloc H6.out _) K6.out (blk_new wb _)).mono ?_); rintro e wc ⟨rfl, hb⟩; have n0_ := Aside0.mk (below_step (below_alloc HB.out _) hb.below); clear HB hb; have HB := n0_; clear n0_))
   go_ret
   exact ⟨rfl, HB.out⟩
  ·rw [if_neg h2] at h; cases h
 ·rw [if_neg h1] at h; cases h
end Go.Proofs.Ytjjcnbfmmhokeaa.X
namespace Go.Proofs.Ytjjcnbfmmhokeaa.X
open Go.RowKit Go.Proofs.YtjjcnbfmmhokeaaW.PrintWords
set_option linter.all false
def nb (y : Int) : S44 := ⟨false, ⟨0, [], false, false⟩, [⟨11, 0, 0, 0, 0, y, []⟩], ⟨0, 0, 0, 0, [], 0, 0, 0⟩⟩
def moreM (m : List S33) (x : Nat) (y : Int) : List S33 := m.set x ⟨(m.getD x z33).f0, (m.getD x z33).f1, (m.getD x z33).f2 ++ [nb y]⟩
def moreAt (k : Nat) (c m : List S33) (x y i j : Nat) : Option Bool :=
 (calls_Comes.f k m i j).bind fun was => (calls_Comes.f k m i x).bind fun p => (calls_Comes.f k m y j).bind fun q => (calls_Comes.f k c i j).bind fun now => some (now == (was || ((i == x || p) && (j == y || q))))
def moreGo (k : Nat) (c m : List S33) (x y : Nat) : Option Bool :=
 if calls_Comes.f k c x y = some true ∧ ((calls_Of.f c x).bind fun o => davitref07_Has.f k o y) = some true ∧ ∀ i, i < m.length → ∀ j, j < m.length → moreAt k c m x y i j = some true then some true else none
def davitlaw11_CallsMore.f (k : Nat) (m : List S33) (a b : Int) : Option Bool :=
 (davitlaw11_awake.f k).bind fun t => (davitref02_Short.f k m).bind fun s =>
  if t = true ∧ 0 ≤ a ∧ a < 256 ∧ 0 ≤ b ∧ b < 256 then
   (if s = true ∧ 0 < m.length then (if m.length ≤ 1000 ∧ (∀ f ∈ m, f.f2.length ≤ 1000) then moreGo k (moreM m (a.toNat % m.length) ((b.toNat % m.length : Nat) : Int)) m (a.toNat % m.length) (b.toNat % m.length) else none) else some true)
  else none
end Go.Proofs.Ytjjcnbfmmhokeaa.X
