/- Part 3 of the proof of the statement CallsRight: the words of the walks, the walks through the functions that it reaches, and the plain laws of what they compute. -/
import Derived.Test.YtjjcnbfmmhokeaaMCallsRight1
namespace Go.Proofs.Ytjjcnbfmmhokeaa.X
open Go.RowKit Go.Proofs.YtjjcnbfmmhokeaaW.PrintWords Go.Proofs.YtjjcnbfmmhokeaaW.PrintLast Go.Proofs.YtjjcnbfmmhokeaaW.PrintMore
attribute [local go_sem] max2_int min2_int max_two min_two max_three min_three max_four min_four
set_option linter.all false
noncomputable section
mutual
def calls_table.l0 : Nat → List (List Bool) → Int → Int → List (S33) → Option ((List (List Bool)))
 | 0, _, _, _, _ => none
 | k + 1, x3, x13, x14, x109000 => if x14 < x13 then (if 0 ≤ (x109000.length : Int) then (if ((x109000.length : Int) : Int).toNat ≤ 281474976710656 then ((calls_Of.f x109000 x14).bind fun t112 => (calls_table.l1 k x3 (List.replicate ((x109000.length : Int) : Int).toNat false) x13 x14 t112 (t112.length : Int) 0 x109000)) else (none)) else (none)) else (calls_table.l2 k x3 (x3.length : Int) 0)
def calls_table.l1 : Nat → List (List Bool) → List Bool → Int → Int → List Int → Int → Int → List (S33) → Option ((List (List Bool)))
 | 0, _, _, _, _, _, _, _, _ => none
 | k + 1, x3, x5, x13, x14, x23, x24, x25, x109000 => if x25 < x24 then (if 0 ≤ x25 then (if x25 < (x23.length : Int) then (if 0 ≤ (rd x23 x25) then (if (rd x23 x25) < (x5.length : Int) then (calls_table.l1 k x3 (x5.set ((rd x23 x25) : Int).toNat true) x13 x14 x23 x24 (wrap64 (x25 + 1)) x109000) else (none)) else (none)) else (none)) else (none)) else (if x3.length < 5864062014805 then (calls_table.l0 k (x3 ++ [x5]) x13 (wrap64 (x14 + 1)) x109000) else (none))
def calls_table.l2 : Nat → List (List Bool) → Int → Int → Option ((List (List Bool)))
 | 0, _, _, _ => none
 | k + 1, x3, x39, x40 => if x40 < x39 then (calls_table.l3 k x3 x40 x39 x40 (x3.length : Int) 0) else (some x3)
def calls_table.l3 : Nat → List (List Bool) → Int → Int → Int → Int → Int → Option ((List (List Bool)))
 | 0, _, _, _, _, _, _ => none
 | k + 1, x3, x8, x39, x40, x44, x45 => if x45 < x44 then (calls_table.l4 k x3 x8 x45 x39 x40 x44 x45 (x3.length : Int) 0) else (calls_table.l2 k x3 x39 (wrap64 (x40 + 1)))
def calls_table.l4 : Nat → List (List Bool) → Int → Int → Int → Int → Int → Int → Int → Int → Option ((List (List Bool)))
 | 0, _, _, _, _, _, _, _, _, _ => none
 | k + 1, x3, x8, x9, x39, x40, x44, x45, x49, x50 => if x50 < x49 then (if 0 ≤ x9 then (if x9 < (x3.length : Int) then (if 0 ≤ x50 then (if x50 < ((rd_L15 x3 x9).length : Int) then (if rdOf false (rd_L15 x3 x9) x50 = true then (calls_table.l4 k (x3.set (x9 : Int).toNat ((rd_L15 x3 x9).set (x50 : Int).toNat true)) x8 x9 x39 x40 x44 x45 x49 (wrap64 (x50 + 1))) else (if 0 ≤ x8 then (if x8 < ((rd_L15 x3 x9).length : Int) then (if rdOf false (rd_L15 x3 x9) x8 = true then (if x8 < (x3.length : Int) then (if x50 < ((rd_L15 x3 x8).length : Int) then (calls_table.l4 k (x3.set (x9 : Int).toNat ((rd_L15 x3 x9).set (x50 : Int).toNat (rdOf false (rd_L15 x3 x8) x50))) x8 x9 x39 x40 x44 x45 x49 (wrap64 (x50 + 1))) else (none)) else (none)) else (calls_table.l4 k (x3.set (x9 : Int).toNat ((rd_L15 x3 x9).set (x50 : Int).toNat false)) x8 x9 x39 x40 x44 x45 x49 (wrap64 (x50 + 1)))) else (none)) else (none))) else (none)) else (none)) else (none)) else (none)) else (calls_table.l3 k x3 x8 x39 x40 x44 (wrap64 (x45 + 1)))
end
def calls_table.f (k : Nat) (l0_0 : List (S33)) : Option ((List (List Bool))) := calls_table.l0 k ([] : List (List Bool)) (l0_0.length : Int) 0 l0_0
theorem calls_table.mono_l : ∀ k, (∀ y0 y1 y2 y3, LeO (calls_table.l0 k y0 y1 y2 y3) (calls_table.l0 (k + 1) y0 y1 y2 y3)) ∧ (∀ y0 y1 y2 y3 y4 y5 y6 y7, LeO (calls_table.l1 k y0 y1 y2 y3 y4 y5 y6 y7) (calls_table.l1 (k + 1) y0 y1 y2 y3 y4 y5 y6 y7)) ∧ (∀ y0 y1 y2, LeO (calls_table.l2 k y0 y1 y2) (calls_table.l2 (k + 1) y0 y1 y2)) ∧ (∀ y0 y1 y2 y3 y4 y5, LeO (calls_table.l3 k y0 y1 y2 y3 y4 y5) (calls_table.l3 (k + 1) y0 y1 y2 y3 y4 y5)) ∧ (∀ y0 y1 y2 y3 y4 y5 y6 y7 y8, LeO (calls_table.l4 k y0 y1 y2 y3 y4 y5 y6 y7 y8) (calls_table.l4 (k + 1) y0 y1 y2 y3 y4 y5 y6 y7 y8))
 | 0 => ⟨fun _ _ _ _ r h => by simp [calls_table.l0] at h, fun _ _ _ _ _ _ _ _ r h => by simp [calls_table.l1] at h, fun _ _ _ r h => by simp [calls_table.l2] at h, fun _ _ _ _ _ _ r h => by simp [calls_table.l3] at h, fun _ _ _ _ _ _ _ _ _ r h => by simp [calls_table.l4] at h⟩
 | k + 1 => by
  obtain ⟨ih0, ih1, ih2, ih3, ih4⟩ := calls_table.mono_l k
  refine ⟨?_, ?_, ?_, ?_, ?_⟩
  ·intro y0 y1 y2 y3
   unfold calls_table.l0
   repeat' first
   | (with_reducible exact ih0 _ _ _ _)
   | (with_reducible exact ih1 _ _ _ _ _ _ _ _)
   | (with_reducible exact ih2 _ _ _)
   | (with_reducible exact ih3 _ _ _ _ _ _)
   | (with_reducible exact ih4 _ _ _ _ _ _ _ _ _)
   | (with_reducible exact LeO.refl _)
   | (with_reducible exact LeO.none _)
   | (with_reducible refine LeO.ite ?_ ?_)
   | (with_reducible refine LeO.bind ?_ (fun _ => ?_))
   | exact ih0 _ _ _ _
   | exact ih1 _ _ _ _ _ _ _ _
   | exact ih2 _ _ _
   | exact ih3 _ _ _ _ _ _
   | exact ih4 _ _ _ _ _ _ _ _ _
   | exact LeO.none _
   | refine LeO.ite ?_ ?_
   | refine LeO.bind ?_ (fun _ => ?_)
  ·intro y0 y1 y2 y3 y4 y5 y6 y7
   unfold calls_table.l1
   repeat' first
   | (with_reducible exact ih0 _ _ _ _)
   | (with_reducible exact ih1 _ _ _ _ _ _ _ _)
   | (with_reducible exact ih2 _ _ _)
   | (with_reducible exact ih3 _ _ _ _ _ _)
   | (with_reducible exact ih4 _ _ _ _ _ _ _ _ _)
   | (with_reducible exact LeO.refl _)
   | (with_reducible exact LeO.none _)
   | (with_reducible refine LeO.ite ?_ ?_)
   | (with_reducible refine LeO.bind ?_ (fun _ => ?_))
   | exact ih0 _ _ _ _
   | exact ih1 _ _ _ _ _ _ _ _
   | exact ih2 _ _ _
   | exact ih3 _ _ _ _ _ _
   | exact ih4 _ _ _ _ _ _ _ _ _
   | exact LeO.none _
   | refine LeO.ite ?_ ?_
   | refine LeO.bind ?_ (fun _ => ?_)
  ·intro y0 y1 y2
   unfold calls_table.l2
   repeat' first
   | (with_reducible exact ih0 _ _ _ _)
   | (with_reducible exact ih1 _ _ _ _ _ _ _ _)
   | (with_reducible exact ih2 _ _ _)
   | (with_reducible exact ih3 _ _ _ _ _ _)
   | (with_reducible exact ih4 _ _ _ _ _ _ _ _ _)
   | (with_reducible exact LeO.refl _)
   | (with_reducible exact LeO.none _)
   | (with_reducible refine LeO.ite ?_ ?_)
   | (with_reducible refine LeO.bind ?_ (fun _ => ?_))
   | exact ih0 _ _ _ _
   | exact ih1 _ _ _ _ _ _ _ _
   | exact ih2 _ _ _
   | exact ih3 _ _ _ _ _ _
   | exact ih4 _ _ _ _ _ _ _ _ _
   | exact LeO.none _
   | refine LeO.ite ?_ ?_
   | refine LeO.bind ?_ (fun _ => ?_)
  ·intro y0 y1 y2 y3 y4 y5
   unfold calls_table.l3
   repeat' first
   | (with_reducible exact ih0 _ _ _ _)
   | (with_reducible exact ih1 _ _ _ _ _ _ _ _)
   | (with_reducible exact ih2 _ _ _)
   | (with_reducible exact ih3 _ _ _ _ _ _)
   | (with_reducible exact ih4 _ _ _ _ _ _ _ _ _)
   | (with_reducible exact LeO.refl _)
   | (with_reducible exact LeO.none _)
   | (with_reducible refine LeO.ite ?_ ?_)
   | (with_reducible refine LeO.bind ?_ (fun _ => ?_))
   | exact ih0 _ _ _ _
   | exact ih1 _ _ _ _ _ _ _ _
   | exact ih2 _ _ _
   | exact ih3 _ _ _ _ _ _
   | exact ih4 _ _ _ _ _ _ _ _ _
   | exact LeO.none _
   | refine LeO.ite ?_ ?_
   | refine LeO.bind ?_ (fun _ => ?_)
  ·intro y0 y1 y2 y3 y4 y5 y6 y7 y8
   unfold calls_table.l4
   repeat' first
   | (with_reducible exact ih0 _ _ _ _)
   | (with_reducible exact ih1 _ _ _ _ _ _ _ _)
   | (with_reducible exact ih2 _ _ _)
   | (with_reducible exact ih3 _ _ _ _ _ _)
   | (with_reducible exact ih4 _ _ _ _ _ _ _ _ _)
   | (with_reducible exact LeO.refl _)
   | (with_reducible exact LeO.none _)
   | (with_reducible refine LeO.ite ?_ ?_)
   | (with_reducible refine LeO.bind ?_ (fun _ => ?_))
   | exact ih0 _ _ _ _
   | exact ih1 _ _ _ _ _ _ _ _
   | exact ih2 _ _ _
   | exact ih3 _ _ _ _ _ _
   | exact ih4 _ _ _ _ _ _ _ _ _
   | exact LeO.none _
   | refine LeO.ite ?_ ?_
   | refine LeO.bind ?_ (fun _ => ?_)
theorem calls_table.mono : ∀ a0 k, LeO (calls_table.f k a0) (calls_table.f (k + 1) a0) := by
 intro a0 k
 obtain ⟨ih0, ih1, ih2, ih3, ih4⟩ := calls_table.mono_l k
 unfold calls_table.f
 repeat' first
   | (with_reducible exact ih0 _ _ _ _)
   | (with_reducible exact ih1 _ _ _ _ _ _ _ _)
   | (with_reducible exact ih2 _ _ _)
   | (with_reducible exact ih3 _ _ _ _ _ _)
   | (with_reducible exact ih4 _ _ _ _ _ _ _ _ _)
   | (with_reducible exact LeO.refl _)
   | (with_reducible exact LeO.none _)
   | (with_reducible refine LeO.ite ?_ ?_)
   | (with_reducible refine LeO.bind ?_ (fun _ => ?_))
   | exact ih0 _ _ _ _
   | exact ih1 _ _ _ _ _ _ _ _
   | exact ih2 _ _ _
   | exact ih3 _ _ _ _ _ _
   | exact ih4 _ _ _ _ _ _ _ _ _
   | exact LeO.none _
   | refine LeO.ite ?_ ?_
   | refine LeO.bind ?_ (fun _ => ?_)
def calls_table.T22 : Bool × List (List Nat × List Nat) := (true, [([], []), ([], []), ([0, 1], [0, 1]), ([2], [2]), ([], []), ([], []), ([], []), ([5, 6], [5, 6]), ([7], [7]), ([], []), ([8, 9], [8, 9]), ([10], [10]), ([11], [11]), ([12], [12]), ([12], [12]), ([13, 14, 12], [12, 13, 14]), ([15, 12], [12, 15]), ([12], [12]), ([16, 17, 12], [12, 16, 17]), ([18, 12], [12, 18]), ([19, 12, 12], [12, 19]), ([20], [20]), ([20], [20]), ([21, 22, 20], [20, 21, 22]), ([23, 20], [20, 23]), ([20], [20]), ([24, 25, 20], [20, 24, 25]), ([26, 20], [20, 26]), ([20, 27, 12], [12, 20, 27]), ([12, 28], [12, 28]), ([3, 4, 0, 1, 2, 3, 4, 5, 6, 7, 8, 9, 10, 11, 12, 13, 14, 15, 16, 17, 18, 19, 20, 21, 22, 23, 24, 25, 26, 27, 28, 29], [3, 4]), ([30, 29, 20, 0, 1, 2, 3, 4, 5, 6, 7, 8, 9, 10, 11, 12, 13, 14, 15, 16, 17, 18, 19, 20, 21, 22, 23, 24, 25, 26, 27, 28, 29], [29, 30])])
def calls_table.B22 : List Nat := [0, 0, 3, 7, 0, 0, 0, 96, 224, 0, 992, 2016, 4064, 8160, 8160, 32736, 65504, 8160, 262112, 524256, 1048544, 2097120, 2097120, 8388576, 16777184, 2097120, 67108832, 134217696, 268435424, 536870880, 1073741823, 2147483647]
theorem calls_table.tab22 : rtab .any (opsOf Try.f18 22) = calls_table.T22 := by kernel_rfl
theorem calls_table.bits22 : waitsOk calls_table.T22.2 calls_table.B22 = true := by kernel_rfl
set_option maxHeartbeats 8000000 in
set_option maxRecDepth 100000 in
theorem calls_table.calls (k : Nat) (A0_0 : Option Addr) (c0_0 : Nat) (l0_0 : List (S33)) (r : List (List Bool)) (w : World) (hr0_0 : Kd.C k33 w A0_0 l0_0.length l0_0) (hc0_0 : l0_0.length ≤ c0_0) (h : calls_table.f k l0_0 = some r) :
  Calls Try.prog 18 #[.agg #[.slice A0_0 l0_0.length c0_0]] w fun e w' => ∃ v0_ : Value, e = .returned (v0_) ∧ Kd.S (Kd.slice 4 Kd.bool) 49 w' w.heap.size (fun _ => True) v0_ r ∧ Below w.heap.size w w' := by
 have hu24 := Try.underlying24
 have HR0_0 := Aside0.mk hr0_0
 have HC0_0 := Aside0.mk hc0_0
 clear hr0_0 hc0_0
 have HB := Aside0.mk (Below.refl w.heap.size w)
 have H : (calls_table.l0 k ([] : List (List Bool)) (l0_0.length : Int) 0 l0_0) = some r := h
 clear h
 have H' := Aside0.mk H
 clear H
 go_enter Try.func18, Try.ntmps18
 go_wp2_with (first | ((with_reducible refine gate_dst (N := 1) rfl ?_); refine box_event ?hg (N := 1) ?hd (cs := #[.slice A0_0 l0_0.length c0_0]) (t := 24) ?hr ?_; (case hd => rfl); (case hg => rfl); (case hr => first | (go_simp; done) | (go_simp; rfl)); intro gb108 hg w2 hbox hb; have n0_ := Aside0.mk (below_step (by repeat (first | (with_reducible first | exact HB.out | apply below_alloc | apply pw_below_drewN | apply below_drew1) | exact HB.out)) hb); have n1_ := Aside0.mk (hbox); have n2_ := Aside0.mk ((by rw [hg]; exact (below_size (by repeat (first | (with_reducible first | exact HB.out | apply below_alloc | apply pw_below_drewN | apply below_drew1) | exact HB.out))) : w.heap.size ≤ gb108)); have n3_ := Aside0.mk ((by rw [hg]; exact (below_size (by repeat (first | (with_reducible first | exact HB.out | apply below_alloc | apply pw_below_drewN | apply below_drew1) | exact HB.out))) : w.heap.size ≤ gb108)); clear HB; have HB := n0_; have BK108 := n1_; have GW108 := n2_; have GE108 := n3_; clear n0_ n1_ n2_ n3_; clear hb hbox hg; have hcz3_0 : w2.cell? ⟨gb108, 0, none⟩ = some (.slice A0_0 l0_0.length c0_0) := (blk_cell BK108.out 0).trans rfl; have hfz3_0 := blk_frozen BK108.out 0))
 go_loopg [3, 14] k (fun kq v3 v14 w' => ∃ (x3_1 : List (List Bool)) (x14_1 : Int), v14 = .int .i64 x14_1 ∧ Aside0 (calls_table.l0 kq x3_1 (l0_0.length : Int) x14_1 l0_0 = some r) ∧ Aside0 (kq ≤ k) ∧ Aside0 (Kd.S (Kd.slice 4 Kd.bool) 49 w' w.heap.size (fun _ => True) v3 x3_1) ∧ Aside0 (w'.heap[gb108]? = some (.cells #[(.slice A0_0 l0_0.length c0_0)] 24 (0, 0))) ∧ Aside0 (Below w.heap.size w w'))
 case atStart => exact ⟨(([] : List (List Bool))), (0), (by first | rfl | (simp; done) | (simp [*]; done)), H', ⟨Nat.le_refl _⟩, ⟨by first | exact Kd.S_nil _ _ _ _ _ | exact Kd.N_nil _ _ _ _ _ | exact Kd.V_nil _ _ _ _ _ | exact Kd.Q_nil _ _ _ _ _ | exact Kd.R_nil _ _ _ _ _⟩, ⟨by (with_reducible repeat (first | refine blk_drewN ?_ _ | refine blk_drew ?_ | refine blk_alloc ?_ _)); exact BK108.out⟩, ⟨by repeat (first | (with_reducible first | exact HB.out | apply below_alloc | apply pw_below_drewN | apply below_drew1 | refine below_set ?_ GE108.out) | exact HB.out)⟩⟩
 case round =>
  clear H'
  try clear c1
  try clear p2
  try clear hcz3_0
  try clear hfz3_0
  obtain ⟨x3_1, x14_1, rfl, HA, HK1, HO_3, BK108, HB⟩ := hrel
  cases gk with
  | zero => exact absurd HA.out (by simp [calls_table.l0])
  | succ k1 =>
   have H := HA.out
   clear HA
   simp only [calls_table.l0] at H
   by_cases c4 : x14_1 < (l0_0.length : Int)
   ·rw [if_pos c4] at H
    have c4b0 : decide (x14_1 < (l0_0.length : Int)) = true := decide_eq_true c4
    clear c4
    by_cases c5 : 0 ≤ (l0_0.length : Int)
    ·rw [if_pos c5] at H
     have c5b0 := eq_true c5
     have c5b1 : decide (0 ≤ (l0_0.length : Int)) = true := decide_eq_true c5
     clear c5
     by_cases c6 : ((l0_0.length : Int) : Int).toNat ≤ 281474976710656
     ·rw [if_pos c6] at H
      have c6b0 := eq_true c6
      have c6b1 : decide (((l0_0.length : Int) : Int).toNat ≤ 281474976710656) = true := decide_eq_true c6
      clear c6
      obtain ⟨y109, hy109⟩ : ∃ y_ : List Bool, y_ = (List.replicate ((l0_0.length : Int) : Int).toNat false) := ⟨_, rfl⟩
      replace H : ((calls_Of.f l0_0 x14_1).bind fun t112 => (calls_table.l1 k1 x3_1 y109 (l0_0.length : Int) x14_1 t112 (t112.length : Int) 0 l0_0)) = some r := by first | (rw [hy109]; with_reducible exact H) | (have H2_ := (Option.bind_some _ _).symm.trans H; rw [hy109]; with_reducible exact H2_) | (have H2_ := (Option.bind_some _ _).symm.trans H; with_reducible exact H2_) | with_reducible exact H | (rw [hy109]; exact H) | exact H
      have Ny109 := Aside0.mk hy109
      clear hy109
      replace H := Option.bind_eq_some_iff.mp H
      obtain ⟨t112, A70, H⟩ := H
      replace H : (calls_table.l1 k1 x3_1 y109 (l0_0.length : Int) x14_1 t112 (t112.length : Int) 0 l0_0) = some r := H
      have A7 := Aside0.mk A70
      clear A70
      have H' := Aside0.mk H
      clear H
      have hcz8_0 : wr.cell? ⟨gb108, 0, none⟩ = some (.slice A0_0 l0_0.length c0_0) := (blk_cell BK108.out 0).trans rfl
      have hfz8_0 := blk_frozen BK108.out 0
      go_wp2_with (first | ((with_reducible refine gate_dst (N := 20) rfl ?_); refine Kd.R_make Kd.bool _ 4 rfl (N := 20) rfl 49 _ _ rfl (l0_0.length : Int) rfl rfl Try.underlying49 (.bool false) 1 info4 rfl (by decide) (by omega) false (ok := fun _ => True) (okp := fun _ => True) rfl (fun _ hk => hk) trivial (of_decide_eq_true (by first | (with_reducible assumption) | assumption)) (Nat.le_trans (Nat.mul_le_mul_right _ (of_decide_eq_true (by first | (with_reducible assumption) | assumption) : (l0_0.length : Int).toNat ≤ 281474976710656)) (by omega)) (Below.refl _ _) (Nat.le_refl _) ?_; intro v110 w9 ho10 hb hg_ hnew_; clear hg_ hnew_; (first | rw [← Ny109.out] at ho10 | (simp only [Int.reduceToNat] at ho10; rw [← Ny109.out] at ho10)); have n0_ := Aside0.mk (Kd.S_elder' (by (with_reducible repeat (first | apply Kd.S_alloc | apply Kd.S_drewN | apply Kd.S_drew)); exact HO_3.out) (Kd.R_base ho10) hb); have n1_ := Aside0.mk (Kd.R_lower ho10 (below_size (by repeat (first | (with_reducible first | exact HB.out | apply below_alloc | apply pw_below_drewN | apply below_drew1 | refine below_set ?_ GE108.out) | exact HB.out)))); have n2_ := Aside0.mk (blk_below (g := gb108) (o := .cells #[.slice A0_0 l0_0.length c0_0] 24 (0, 0)) (by (with_reducible repeat (first | refine blk_drewN ?_ _ | refine blk_drew ?_ | refine blk_alloc ?_ _)); exact BK108.out) hb); have n3_ := Aside0.mk (below_step (by repeat (first | (with_reducible first | exact HB.out | apply below_alloc | apply pw_below_drewN | apply below_drew1 | refine below_set ?_ GE108.out) | exact HB.out)) hb); clear HO_3; clear BK108; clear HB; have HO_3 := n0_; have HO111 := n1_; have BK108 := n2_; have HB := n3_; clear n0_ n1_ n2_ n3_; clear hb ho10; have hcz11_0 : w9.cell? ⟨gb108, 0, none⟩ = some (.slice A0_0 l0_0.length c0_0) := (blk_cell BK108.out 0).trans rfl; have hfz11_0 := blk_frozen BK108.out 0) | ((with_reducible refine gate_callee (f := 11) rfl ?_); refine goesL_ (some 23) rfl rfl Try.func11 (by kernel_rfl) rfl #[.agg #[.slice A0_0 l0_0.length c0_0], .int .i64 x14_1] rfl (by (try simp only [List.map_toArray, List.map_cons, List.map_nil]); first | done | rfl | (simp only [List.length_drop, List.length_take]; rfl)) ?_; (with_reducible refine (calls_Of.calls _ _ l0_0 x14_1 t112 _ ?side1 ?side2 A7.out).mono ?_); (case side1 => repeat (first | exact (Kd.C_below HR0_0.out HB.out) | (with_reducible refine Kd.C_alloc ?_ _) | (with_reducible refine Kd.C_drewN ?_ _) | (with_reducible refine Kd.C_drew ?_))); (case side2 => exact HC0_0.out); rintro e w12 ⟨v113, rfl, ho0, hb⟩; refine ⟨_, rfl, ?_⟩; have n0_ := Aside0.mk (Kd.S_below (by (with_reducible repeat (first | apply Kd.S_alloc | apply Kd.S_drewN | apply Kd.S_drew)); exact HO_3.out) hb); have n1_ := Aside0.mk (Kd.R_below (by (with_reducible repeat (first | apply Kd.R_alloc | apply Kd.R_drewN | apply Kd.R_drew)); exact HO111.out) hb); have n2_ := Aside0.mk (Kd.R_lower ho0 (below_size (by repeat (first | (with_reducible first | exact HB.out | apply below_alloc | apply pw_below_drewN | apply below_drew1 | refine below_set ?_ GE108.out) | exact HB.out)))); have n3_ := Aside0.mk (blk_below (g := gb108) (o := .cells #[.slice A0_0 l0_0.length c0_0] 24 (0, 0)) (by (with_reducible repeat (first | refine blk_drewN ?_ _ | refine blk_drew ?_ | refine blk_alloc ?_ _)); exact BK108.out) hb); have n4_ := Aside0.mk (below_step (by repeat (first | (with_reducible first | exact HB.out | apply below_alloc | apply pw_below_drewN | apply below_drew1 | refine below_set ?_ GE108.out) | exact HB.out)) hb); clear HO_3; clear HO111; clear BK108; clear HB; have HO_3 := n0_; have HO111 := n1_; have HO114 := n2_; have BK108 := n3_; have HB := n4_; clear n0_ n1_ n2_ n3_ n4_; (try clear hb); (try clear hb2); (try clear hk); (try clear hi); (try clear ho0); obtain ⟨Ao13, co13, eo13⟩ := Kd.R_slice HO114.out; subst eo13))
      go_loopg [25] k1 (fun kq v25 w' => ∃ (x5_2 : List Bool) (x25_2 : Int), v25 = .int .i64 x25_2 ∧ Aside0 (calls_table.l1 kq x3_1 x5_2 (l0_0.length : Int) x14_1 t112 (t112.length : Int) x25_2 l0_0 = some r) ∧ Aside0 (kq ≤ k1) ∧ Aside0 (Kd.S (Kd.slice 4 Kd.bool) 49 w' w.heap.size (fun k_ => some k_ ≠ (v110 : Value).ownBlock) u3 x3_1) ∧ Aside0 (Kd.R Kd.bool 4 w' w.heap.size (fun _ => True) v110 x5_2) ∧ Aside0 (Kd.R (Kd.int .i64) 3 w' w.heap.size (fun _ => True) (.slice Ao13 t112.length co13) t112) ∧ Aside0 (w'.heap[gb108]? = some (.cells #[(.slice A0_0 l0_0.length c0_0)] 24 (0, 0))) ∧ Aside0 (Below w.heap.size w w'))
      case atStart => exact ⟨(y109), (0), (by first | rfl | (simp; done) | (simp [*]; done)), H', ⟨Nat.le_refl _⟩, ⟨by (with_reducible repeat (first | apply Kd.S_alloc | apply Kd.S_drewN | apply Kd.S_drew)); exact Kd.S_mono HO_3.out (fun _ hk => hk.2)⟩, ⟨by (with_reducible repeat (first | apply Kd.R_alloc | apply Kd.R_drewN | apply Kd.R_drew)); exact HO111.out⟩, ⟨by (with_reducible repeat (first | apply Kd.R_alloc | apply Kd.R_drewN | apply Kd.R_drew)); exact HO114.out⟩, ⟨by (with_reducible repeat (first | refine blk_drewN ?_ _ | refine blk_drew ?_ | refine blk_alloc ?_ _)); exact BK108.out⟩, ⟨by repeat (first | (with_reducible first | exact HB.out | apply below_alloc | apply pw_below_drewN | apply below_drew1 | refine below_set ?_ GE108.out) | exact HB.out)⟩⟩
      case round =>
       clear H'
       try clear c1
       try clear p2
       try clear c4
       try clear c4b0
       try clear c5
       try clear c5b0
       try clear c5b1
       try clear c6
       try clear c6b0
       try clear c6b1
       try clear c11
       try clear hcz11_0
       try clear hcz3_0
       try clear hcz8_0
       try clear hfz11_0
       try clear hfz3_0
       try clear hfz8_0
       try clear p2
       obtain ⟨x5_2, x25_2, rfl, HA, HK2, HO_3, HO_5, HO_23, BK108, HB⟩ := hrel
       cases gk with
       | zero => exact absurd HA.out (by simp [calls_table.l1])
       | succ k2 =>
        have H := HA.out
        clear HA
        simp only [calls_table.l1] at H
        by_cases c14 : x25_2 < (t112.length : Int)
        ·rw [if_pos c14] at H
         have c14b0 : decide (x25_2 < (t112.length : Int)) = true := decide_eq_true c14
         clear c14
         by_cases c15 : 0 ≤ x25_2
         ·rw [if_pos c15] at H
          have c15b0 : decide (0 ≤ x25_2) = true := decide_eq_true c15
          clear c15
          by_cases c16 : x25_2 < (t112.length : Int)
          ·rw [if_pos c16] at H
           have c16b0 : decide (x25_2 < (t112.length : Int)) = true := decide_eq_true c16
           clear c16
           by_cases c17 : 0 ≤ (rd t112 x25_2)
           ·rw [if_pos c17] at H
            have c17b0 : decide (0 ≤ (rd t112 x25_2)) = true := decide_eq_true c17
            clear c17
            by_cases c18 : (rd t112 x25_2) < (x5_2.length : Int)
            ·rw [if_pos c18] at H
             have c18b0 : decide ((rd t112 x25_2) < (x5_2.length : Int)) = true := decide_eq_true c18
             clear c18
             obtain ⟨y116, hy116⟩ : ∃ y_ : List Bool, y_ = (x5_2.set ((rd t112 x25_2) : Int).toNat true) := ⟨_, rfl⟩
             replace H : (calls_table.l1 k2 x3_1 y116 (l0_0.length : Int) x14_1 t112 (t112.length : Int) (wrap64 (x25_2 + 1)) l0_0) = some r := by first | (rw [hy116]; with_reducible exact H) | (have H2_ := (Option.bind_some _ _).symm.trans H; rw [hy116]; with_reducible exact H2_) | (have H2_ := (Option.bind_some _ _).symm.trans H; with_reducible exact H2_) | with_reducible exact H | (rw [hy116]; exact H) | exact H
             have Ny116 := Aside0.mk hy116
             clear hy116
             have H' := Aside0.mk H
             clear H
             have p115 : 0 ≤ (x25_2 : Int) := of_decide_eq_true (by first | (with_reducible assumption) | assumption)
             have q115 : x25_2 < (t112.length : Int) := of_decide_eq_true (by first | (with_reducible assumption) | assumption)
             obtain ⟨ad115, e115, hx115_0⟩ := Kd.at_int (Kd.R_reads' HO_23.out).2.2 x25_2 p115 q115
             cases e115
             replace p115 := eq_true p115
             replace q115 := eq_true q115
             have p19 : 0 ≤ ((rd t112 x25_2) : Int) := of_decide_eq_true (by first | (with_reducible assumption) | assumption)
             have q19 : ((rd t112 x25_2) : Int) < ((x5_2.length : Int) : Int) := of_decide_eq_true (by first | (with_reducible assumption) | assumption)
             obtain ⟨go19, co19, eo19, gb19, gl19, cl19, HG19⟩ := Kd.R_form HO_5.out (by omega)
             (first | cases eo19 | (injection eo19 with ea_ en_ ec_; (first | subst ea_ | (injection ea_ with ea_; subst ea_)); subst ec_; clear en_))
             have GB19 := Aside0.mk gb19
             have GG19 := Aside0.mk HG19
             clear gb19 gl19 HG19
             obtain ⟨hx19_0, hf19_0⟩ := Kd.R_celln false HO_5.out ((rd t112 x25_2) : Int) p19 q19
             replace p19 := eq_true p19
             replace q19 := eq_true q19
             have HP20 := Kd.R_putg HO_5.out ((rd t112 x25_2) : Int) true
             go_wp2_with (first | ((with_reducible refine gate_store (t := 4) (p := 31) rfl ?_); refine store_event (t := 4) (p := 31) (v := ?vo_w21) (w1 := (wr.setCell ⟨go19, ((rd t112 x25_2) : Int).toNat, none⟩ (.bool true))) ?hg ?ho ?hn ?hr ?_; (case ho => rfl); (case hg => rfl); (case hn => rfl); (case hr => first | (go_simp; done) | (go_simp; rfl)); intro w21 hw; have hg : wr.grownBy w21 (some go19) := (by rw [hw]; exact HP20.2); have hp_ : Kd.R Kd.bool 4 w21 w.heap.size (fun _ => True) (.slice (some ⟨go19, 0, none⟩) x5_2.length co19) y116 := (by rw [hw, Ny116.out]; exact HP20.1); clear HP20; have n0_ := Aside0.mk (Kd.S_after (v := (.slice (some ⟨go19, 0, none⟩) x5_2.length co19)) (v1 := (.slice (some ⟨go19, 0, none⟩) x5_2.length co19)) (ok := (fun _ => True)) (by (with_reducible repeat (first | apply Kd.S_alloc | apply Kd.S_drewN | apply Kd.S_drew)); exact Kd.S_mono HO_3.out (fun _ hk => ⟨trivial, hk⟩)) hg (.inl rfl)); have n1_ := Aside0.mk (hp_); have n2_ := Aside0.mk (Kd.R_over' (v := (.slice (some ⟨go19, 0, none⟩) x5_2.length co19)) (by (with_reducible repeat (first | apply Kd.R_alloc | apply Kd.R_drewN | apply Kd.R_drew)); exact HO_23.out) (Kd.R_typed HO_5.out) (by decide) hg); have n3_ := Aside0.mk (blk_grown (g := gb108) (o := .cells #[.slice A0_0 l0_0.length c0_0] 24 (0, 0)) (by (with_reducible repeat (first | refine blk_drewN ?_ _ | refine blk_drew ?_ | refine blk_alloc ?_ _)); exact BK108.out) hg (Kd.R_ne HO_5.out BK108.out (by decide))); have n4_ := Aside0.mk ((by rw [hw]; exact below_set (HB.out) GB19.out : Below w.heap.size w w21)); clear HO_3; clear HO_5; clear HO_23; clear BK108; clear HB; have HO_3 := n0_; have HO_5 := n1_; have HO_23 := n2_; have BK108 := n3_; have HB := n4_; clear n0_ n1_ n2_ n3_ n4_; clear hg hw hp_))
             go_roundg k2
             case measure => have := HK1.out; have := HK2.out; omega
             case rel => exact ⟨(y116), (wrap64 (x25_2 + 1)), (by first | rfl | (simp; done) | (simp [*]; done)), H', ⟨by have := HK1.out; have := HK2.out; omega⟩, ⟨by (with_reducible repeat (first | apply Kd.S_alloc | apply Kd.S_drewN | apply Kd.S_drew)); exact Kd.S_mono HO_3.out (fun _ hk => hk.2)⟩, ⟨by (with_reducible repeat (first | apply Kd.R_alloc | apply Kd.R_drewN | apply Kd.R_drew)); exact HO_5.out⟩, ⟨by (with_reducible repeat (first | apply Kd.R_alloc | apply Kd.R_drewN | apply Kd.R_drew)); exact HO_23.out⟩, ⟨by (with_reducible repeat (first | refine blk_drewN ?_ _ | refine blk_drew ?_ | refine blk_alloc ?_ _)); exact BK108.out⟩, ⟨by repeat (first | (with_reducible first | exact HB.out | apply below_alloc | apply pw_below_drewN | apply below_drew1 | refine below_set ?_ GE108.out) | exact HB.out)⟩⟩
            ·rw [if_neg c18] at H
             exact absurd H (by simp)
           ·rw [if_neg c17] at H
            exact absurd H (by simp)
          ·rw [if_neg c16] at H
           exact absurd H (by simp)
         ·rw [if_neg c15] at H
          exact absurd H (by simp)
        ·rw [if_neg c14] at H
         have c14b0 : decide (x25_2 < (t112.length : Int)) = false := decide_eq_false c14
         clear c14
         by_cases c22 : x3_1.length < 5864062014805
         ·rw [if_pos c22] at H
          have LMc22 := Aside0.mk c22
          clear c22
          obtain ⟨y117, hy117⟩ : ∃ y_ : List (List Bool), y_ = (x3_1 ++ [x5_2]) := ⟨_, rfl⟩
          replace H : (calls_table.l0 k2 y117 (l0_0.length : Int) (wrap64 (x14_1 + 1)) l0_0) = some r := by first | (rw [hy117]; with_reducible exact H) | (have H2_ := (Option.bind_some _ _).symm.trans H; rw [hy117]; with_reducible exact H2_) | (have H2_ := (Option.bind_some _ _).symm.trans H; with_reducible exact H2_) | with_reducible exact H | (rw [hy117]; exact H) | exact H
          have Ny117 := Aside0.mk hy117
          clear hy117
          have H' := Aside0.mk H
          clear H
          obtain ⟨Ao24, co24, eo24⟩ := Kd.R_slice HO_5.out
          subst eo24
          go_wp2_with (first | ((with_reducible refine gate_builtin (b := .append) (xs := #[.tmp 33, .tmp 35]) rfl ?_); at_builtin; refine Kd.S_append (Kd.slice 4 Kd.bool) (w0 := w) w.heap.size rfl (.tmp 33) (.tmp 35) 52 49 (.slice none 0 0) 24 rfl Try.underlying52 info49 rfl (by decide) (by omega) u3 x3_1 x5_2 [.slice Ao24 x5_2.length co24] (fun _ => True) (fun k_ => some k_ = (.slice Ao24 x5_2.length co24 : Value).ownBlock) rfl rfl ?aP (fun k_ hk_ => ((Kd.R_mono (ok' := fun k_ => ((fun _ => True)) k_ ∧ some k_ ≠ (u3 : Value).ownBlock) (Kd.R_apart' (HO_5.out) (Kd.S_typed HO_3.out) (by decide)) (fun k_ hk => ⟨trivial, hk.2⟩))).1 k_ hk_.symm) ?aF ?aO ?aB ?aS ?aL ?_; (case aP => exact Kd.M_row (Kd.R_mono (Kd.R_tight rfl (Kd.R_mono (ok' := fun k_ => ((fun _ => True)) k_ ∧ some k_ ≠ (u3 : Value).ownBlock) (Kd.R_apart' (HO_5.out) (Kd.S_typed HO_3.out) (by decide)) (fun k_ hk => ⟨trivial, hk.2⟩))) (fun _ h_ => h_))); (case aB => exact (by repeat (first | (with_reducible first | exact HB.out | apply below_alloc | apply pw_below_drewN | apply below_drew1 | refine below_set ?_ GE108.out) | exact HB.out))); (case aF => exact (fun _ _ => trivial)); (case aO => exact (by (with_reducible repeat (first | apply Kd.S_alloc | apply Kd.S_drewN | apply Kd.S_drew)); exact Kd.S_mono HO_3.out (fun k_ hk => ⟨trivial, fun e_ => hk e_⟩))); (case aS => exact (below_size (by repeat (first | (with_reducible first | exact HB.out | apply below_alloc | apply pw_below_drewN | apply below_drew1 | refine below_set ?_ GE108.out) | exact HB.out)))); (case aL => have := LMc22.out; omega); intro v118 w23 ho hb hg hat; rw [← Ny117.out] at ho; have n0_ := Aside0.mk (Kd.R_over' (by (with_reducible repeat (first | apply Kd.R_alloc | apply Kd.R_drewN | apply Kd.R_drew)); exact HO_23.out) (Kd.S_typed (by (with_reducible repeat (first | apply Kd.S_alloc | apply Kd.S_drewN | apply Kd.S_drew)); exact HO_3.out)) (by decide) hg); have n1_ := Aside0.mk (blk_grown (g := gb108) (o := .cells #[.slice A0_0 l0_0.length c0_0] 24 (0, 0)) (by (with_reducible repeat (first | refine blk_drewN ?_ _ | refine blk_drew ?_ | refine blk_alloc ?_ _)); exact BK108.out) hg (Kd.S_ne HO_3.out BK108.out (by decide))); have n2_ := Aside0.mk (hb); have n3_ := Aside0.mk (ho); clear HO_23; clear BK108; clear HB; clear HO_3; clear HO_5; have HO_23 := n0_; have BK108 := n1_; have HB := n2_; have HO119 := n3_; clear n0_ n1_ n2_ n3_; clear ho hb hg hat))
          go_roundg k2
          case measure => have := HK1.out; have := HK2.out; omega
          case rel => exact ⟨(y117), (wrap64 (x14_1 + 1)), (by first | rfl | (simp; done) | (simp [*]; done)), H', ⟨by have := HK1.out; have := HK2.out; omega⟩, ⟨by (with_reducible repeat (first | apply Kd.S_alloc | apply Kd.S_drewN | apply Kd.S_drew)); exact HO119.out⟩, ⟨by (with_reducible repeat (first | refine blk_drewN ?_ _ | refine blk_drew ?_ | refine blk_alloc ?_ _)); exact BK108.out⟩, ⟨by repeat (first | (with_reducible first | exact HB.out | apply below_alloc | apply pw_below_drewN | apply below_drew1 | refine below_set ?_ GE108.out) | exact HB.out)⟩⟩
         ·rw [if_neg c22] at H
          exact absurd H (by simp)
     ·rw [if_neg c6] at H
      exact absurd H (by simp)
    ·rw [if_neg c5] at H
     exact absurd H (by simp)
   ·rw [if_neg c4] at H
    have c4b0 : decide (x14_1 < (l0_0.length : Int)) = false := decide_eq_false c4
    clear c4
    have H' := Aside0.mk H
    clear H
    obtain ⟨Ao25, co25, eo25⟩ := Kd.S_slice HO_3.out
    subst eo25
    go_wp2
    go_loopg [40] k1 (fun kq v40 w' => ∃ (x3_2 : List (List Bool)) (x40_2 : Int), v40 = .int .i64 x40_2 ∧ Aside0 (calls_table.l2 kq x3_2 (x3_1.length : Int) x40_2 = some r) ∧ Aside0 (kq ≤ k1) ∧ Aside0 (Kd.S (Kd.slice 4 Kd.bool) 49 w' w.heap.size (fun _ => True) (.slice Ao25 x3_1.length co25) x3_2) ∧ Aside0 (w'.heap[gb108]? = some (.cells #[(.slice A0_0 l0_0.length c0_0)] 24 (0, 0))) ∧ Aside0 (Below w.heap.size w w'))
    case atStart => exact ⟨(x3_1), (0), (by first | rfl | (simp; done) | (simp [*]; done)), H', ⟨Nat.le_refl _⟩, ⟨by (with_reducible repeat (first | apply Kd.S_alloc | apply Kd.S_drewN | apply Kd.S_drew)); exact HO_3.out⟩, ⟨by (with_reducible repeat (first | refine blk_drewN ?_ _ | refine blk_drew ?_ | refine blk_alloc ?_ _)); exact BK108.out⟩, ⟨by repeat (first | (with_reducible first | exact HB.out | apply below_alloc | apply pw_below_drewN | apply below_drew1 | refine below_set ?_ GE108.out) | exact HB.out)⟩⟩
    case round =>
     clear H'
     try clear c1
     try clear p1
     try clear q1
     try clear hx1
     try clear hf1
     try clear c2
     try clear p2
     try clear c4
     try clear c4b0
     try clear c5
     try clear c5b0
     try clear c5b1
     try clear c6
     try clear c6b0
     try clear c6b1
     try clear p6
     try clear c11
     try clear p11
     try clear q11
     try clear hx11
     try clear c14
     try clear c14b0
     try clear c15
     try clear c15b0
     try clear c16
     try clear c16b0
     try clear c17
     try clear c17b0
     try clear c18
     try clear c18b0
     try clear p19
     try clear q19
     try clear hx19
     try clear hf19
     try clear c22
     try clear hcz11_0
     try clear hcz3_0
     try clear hcz8_0
     try clear hfz11_0
     try clear hfz3_0
     try clear hfz8_0
     try clear hx115_0
     try clear hx19_0
     try clear p115
     try clear p19
     try clear p2
     try clear q115
     try clear q19
     obtain ⟨x3_2, x40_2, rfl, HA, HK2, HO_3, BK108, HB⟩ := hrel
     have hl3_2 := (Kd.S_reads' HO_3.out).1
     rw [hl3_2] at HO_3
     (try simp only [hl3_2])
     (try simp only [hl3_2] at BK108)
     cases gk with
     | zero => exact absurd HA.out (by simp [calls_table.l2])
     | succ k2 =>
      have H := HA.out
      clear HA
      simp only [calls_table.l2] at H
      by_cases c26 : x40_2 < (x3_1.length : Int)
      ·rw [if_pos c26] at H
       have c26b0 : decide (x40_2 < (x3_1.length : Int)) = true := decide_eq_true c26
       have c26b0z := c26b0
       (try simp only [hl3_2] at c26b0z)
       clear c26
       have H' := Aside0.mk H
       clear H
       go_wp2
       go_loopg [45] k2 (fun kq v45 w' => ∃ (x3_3 : List (List Bool)) (x45_3 : Int), v45 = .int .i64 x45_3 ∧ Aside0 (calls_table.l3 kq x3_3 x40_2 (x3_1.length : Int) x40_2 (x3_2.length : Int) x45_3 = some r) ∧ Aside0 (kq ≤ k2) ∧ Aside0 (Kd.S (Kd.slice 4 Kd.bool) 49 w' w.heap.size (fun _ => True) (.slice Ao25 x3_2.length co25) x3_3) ∧ Aside0 (w'.heap[gb108]? = some (.cells #[(.slice A0_0 l0_0.length c0_0)] 24 (0, 0))) ∧ Aside0 (Below w.heap.size w w'))
       case atStart => exact ⟨(x3_2), (0), (by first | rfl | (simp; done) | (simp [*]; done)), H', ⟨Nat.le_refl _⟩, ⟨by (try simp only [hl3_2]); (with_reducible repeat (first | apply Kd.S_alloc | apply Kd.S_drewN | apply Kd.S_drew)); exact HO_3.out⟩, ⟨by (try simp only [hl3_2]); (with_reducible repeat (first | refine blk_drewN ?_ _ | refine blk_drew ?_ | refine blk_alloc ?_ _)); exact BK108.out⟩, ⟨by repeat (first | (with_reducible first | exact HB.out | apply below_alloc | apply pw_below_drewN | apply below_drew1 | refine below_set ?_ GE108.out) | exact HB.out)⟩⟩
       case round =>
        clear H'
        try clear c1
        try clear p1
        try clear q1
        try clear hx1
        try clear hf1
        try clear c2
        try clear p2
        try clear c4
        try clear c4b0
        try clear c5
        try clear c5b0
        try clear c5b1
        try clear c6
        try clear c6b0
        try clear c6b1
        try clear p6
        try clear c11
        try clear p11
        try clear q11
        try clear hx11
        try clear c14
        try clear c14b0
        try clear c15
        try clear c15b0
        try clear c16
        try clear c16b0
        try clear c17
        try clear c17b0
        try clear c18
        try clear c18b0
        try clear p19
        try clear q19
        try clear hx19
        try clear hf19
        try clear c22
        try clear c26
        try clear c26b0
        try clear hcz11_0
        try clear hcz3_0
        try clear hcz8_0
        try clear hfz11_0
        try clear hfz3_0
        try clear hfz8_0
        try clear hx115_0
        try clear hx19_0
        try clear p1
        try clear p11
        try clear p115
        try clear p19
        try clear p2
        try clear p6
        try clear q1
        try clear q11
        try clear q115
        try clear q19
        obtain ⟨x3_3, x45_3, rfl, HA, HK3, HO_3, BK108, HB⟩ := hrel
        have hl3_3 := (Kd.S_reads' HO_3.out).1
        rw [hl3_3] at HO_3
        (try simp only [hl3_3])
        (try simp only [hl3_3] at BK108)
        cases gk with
        | zero => exact absurd HA.out (by simp [calls_table.l3])
        | succ k3 =>
         have H := HA.out
         clear HA
         simp only [calls_table.l3] at H
         by_cases c27 : x45_3 < (x3_2.length : Int)
         ·rw [if_pos c27] at H
          have c27b0 : decide (x45_3 < (x3_2.length : Int)) = true := decide_eq_true c27
          have c27b0z := c27b0
          (try simp only [hl3_2, hl3_3] at c27b0z)
          clear c27
          have H' := Aside0.mk H
          clear H
          go_wp2
          go_loopg [50] k3 (fun kq v50 w' => ∃ (x3_4 : List (List Bool)) (x50_4 : Int), v50 = .int .i64 x50_4 ∧ Aside0 (calls_table.l4 kq x3_4 x40_2 x45_3 (x3_1.length : Int) x40_2 (x3_2.length : Int) x45_3 (x3_3.length : Int) x50_4 = some r) ∧ Aside0 (kq ≤ k3) ∧ Aside0 (Kd.S (Kd.slice 4 Kd.bool) 49 w' w.heap.size (fun _ => True) (.slice Ao25 x3_3.length co25) x3_4) ∧ Aside0 (w'.heap[gb108]? = some (.cells #[(.slice A0_0 l0_0.length c0_0)] 24 (0, 0))) ∧ Aside0 (Below w.heap.size w w'))
          case atStart => exact ⟨(x3_3), (0), (by first | rfl | (simp; done) | (simp [*]; done)), H', ⟨Nat.le_refl _⟩, ⟨by (try simp only [hl3_2]); (try simp only [hl3_3]); (with_reducible repeat (first | apply Kd.S_alloc | apply Kd.S_drewN | apply Kd.S_drew)); exact HO_3.out⟩, ⟨by (try simp only [hl3_2]); (try simp only [hl3_3]); (with_reducible repeat (first | refine blk_drewN ?_ _ | refine blk_drew ?_ | refine blk_alloc ?_ _)); exact BK108.out⟩, ⟨by repeat (first | (with_reducible first | exact HB.out | apply below_alloc | apply pw_below_drewN | apply below_drew1 | refine below_set ?_ GE108.out) | exact HB.out)⟩⟩
          case round =>
           clear H'
           try clear c1
           try clear p1
           try clear q1
           try clear hx1
           try clear hf1
           try clear c2
           try clear p2
           try clear c4
           try clear c4b0
           try clear c5
           try clear c5b0
           try clear c5b1
           try clear c6
           try clear c6b0
           try clear c6b1
           try clear p6
           try clear c11
           try clear p11
           try clear q11
           try clear hx11
           try clear c14
           try clear c14b0
           try clear c15
           try clear c15b0
           try clear c16
           try clear c16b0
           try clear c17
           try clear c17b0
           try clear c18
           try clear c18b0
           try clear p19
           try clear q19
           try clear hx19
           try clear hf19
           try clear c22
           try clear c26
           try clear c26b0
           try clear c27
           try clear c27b0
           try clear hcz11_0
           try clear hcz3_0
           try clear hcz8_0
           try clear hfz11_0
           try clear hfz3_0
           try clear hfz8_0
           try clear hx115_0
           try clear hx19_0
           try clear p1
           try clear p11
           try clear p115
           try clear p19
           try clear p2
           try clear p6
           try clear q1
           try clear q11
           try clear q115
           try clear q19
           obtain ⟨x3_4, x50_4, rfl, HA, HK4, HO_3, BK108, HB⟩ := hrel
           have hl3_4 := (Kd.S_reads' HO_3.out).1
           rw [hl3_4] at HO_3
           (try simp only [hl3_4])
           (try simp only [hl3_4] at BK108)
           cases gk with
           | zero => exact absurd HA.out (by simp [calls_table.l4])
           | succ k4 =>
            have H := HA.out
            clear HA
            simp only [calls_table.l4] at H
            by_cases c28 : x50_4 < (x3_3.length : Int)
            ·rw [if_pos c28] at H
             have c28b0 : decide (x50_4 < (x3_3.length : Int)) = true := decide_eq_true c28
             have c28b0z := c28b0
             (try simp only [hl3_2, hl3_3, hl3_4] at c28b0z)
             clear c28
             by_cases c29 : 0 ≤ x45_3
             ·rw [if_pos c29] at H
              have c29b0 : decide (0 ≤ x45_3) = true := decide_eq_true c29
              clear c29
              by_cases c30 : x45_3 < (x3_4.length : Int)
              ·rw [if_pos c30] at H
               have c30b0 : decide (x45_3 < (x3_4.length : Int)) = true := decide_eq_true c30
               have c30b0z := c30b0
               (try simp only [hl3_2, hl3_3, hl3_4] at c30b0z)
               clear c30
               by_cases c31 : 0 ≤ x50_4
               ·rw [if_pos c31] at H
                have c31b0 : decide (0 ≤ x50_4) = true := decide_eq_true c31
                clear c31
                by_cases c32 : x50_4 < ((rd_L15 x3_4 x45_3).length : Int)
                ·rw [if_pos c32] at H
                 have c32b0 : decide (x50_4 < ((rd_L15 x3_4 x45_3).length : Int)) = true := decide_eq_true c32
                 have c32b0z := c32b0
                 (try simp only [hl3_2, hl3_3, hl3_4] at c32b0z)
                 clear c32
                 obtain ⟨bq33, hbq33⟩ : ∃ b_ : Bool, b_ = (rdOf false (rd_L15 x3_4 x45_3) x50_4) := ⟨_, rfl⟩
                 replace H : (if bq33 = true then (calls_table.l4 k4 (x3_4.set (x45_3 : Int).toNat ((rd_L15 x3_4 x45_3).set (x50_4 : Int).toNat true)) x40_2 x45_3 (x3_1.length : Int) x40_2 (x3_2.length : Int) x45_3 (x3_3.length : Int) (wrap64 (x50_4 + 1))) else (if 0 ≤ x40_2 then (if x40_2 < ((rd_L15 x3_4 x45_3).length : Int) then (if rdOf false (rd_L15 x3_4 x45_3) x40_2 = true then (if x40_2 < (x3_4.length : Int) then (if x50_4 < ((rd_L15 x3_4 x40_2).length : Int) then (calls_table.l4 k4 (x3_4.set (x45_3 : Int).toNat ((rd_L15 x3_4 x45_3).set (x50_4 : Int).toNat (rdOf false (rd_L15 x3_4 x40_2) x50_4))) x40_2 x45_3 (x3_1.length : Int) x40_2 (x3_2.length : Int) x45_3 (x3_3.length : Int) (wrap64 (x50_4 + 1))) else (none)) else (none)) else (calls_table.l4 k4 (x3_4.set (x45_3 : Int).toNat ((rd_L15 x3_4 x45_3).set (x50_4 : Int).toNat false)) x40_2 x45_3 (x3_1.length : Int) x40_2 (x3_2.length : Int) x45_3 (x3_3.length : Int) (wrap64 (x50_4 + 1)))) else (none)) else (none))) = some r := by rw [← hbq33] at H; exact H
                 have Nbq33 := Aside0.mk hbq33
                 clear hbq33
                 by_cases c34 : bq33 = true
                 ·subst c34
                  have H1 : (calls_table.l4 k4 (x3_4.set (x45_3 : Int).toNat ((rd_L15 x3_4 x45_3).set (x50_4 : Int).toNat true)) x40_2 x45_3 (x3_1.length : Int) x40_2 (x3_2.length : Int) x45_3 (x3_3.length : Int) (wrap64 (x50_4 + 1))) = some r := by rw [if_pos rfl] at H; exact H
                  clear H
                  have H := H1
                  clear H1
                  obtain ⟨y123, hy123⟩ : ∃ y_ : List Bool, y_ = ((rd_L15 x3_4 x45_3).set (x50_4 : Int).toNat true) := ⟨_, rfl⟩
                  replace H : (calls_table.l4 k4 (x3_4.set (x45_3 : Int).toNat y123) x40_2 x45_3 (x3_1.length : Int) x40_2 (x3_2.length : Int) x45_3 (x3_3.length : Int) (wrap64 (x50_4 + 1))) = some r := by first | (rw [hy123]; with_reducible exact H) | (have H2_ := (Option.bind_some _ _).symm.trans H; rw [hy123]; with_reducible exact H2_) | (have H2_ := (Option.bind_some _ _).symm.trans H; with_reducible exact H2_) | with_reducible exact H | (rw [hy123]; exact H) | exact H
                  have Ny123 := Aside0.mk hy123
                  clear hy123
                  obtain ⟨y125, hy125⟩ : ∃ y_ : List (List Bool), y_ = (x3_4.set (x45_3 : Int).toNat y123) := ⟨_, rfl⟩
                  replace H : (calls_table.l4 k4 y125 x40_2 x45_3 (x3_1.length : Int) x40_2 (x3_2.length : Int) x45_3 (x3_3.length : Int) (wrap64 (x50_4 + 1))) = some r := by first | (rw [hy125]; with_reducible exact H) | (have H2_ := (Option.bind_some _ _).symm.trans H; rw [hy125]; with_reducible exact H2_) | (have H2_ := (Option.bind_some _ _).symm.trans H; with_reducible exact H2_) | with_reducible exact H | (rw [hy125]; exact H) | exact H
                  have Ny125 := Aside0.mk hy125
                  clear hy125
                  have H' := Aside0.mk H
                  clear H
                  try go_wp2
                  have n0_ := Aside0.mk (Kd.S_drew HO_3.out)
                  have n1_ := Aside0.mk (blk_drew BK108.out)
                  have n2_ := Aside0.mk (below_drew1 HB.out)
                  clear HO_3
                  clear BK108
                  clear HB
                  have HO_3 := n0_
                  have BK108 := n1_
                  have HB := n2_
                  clear n0_ n1_ n2_
                  have p120 : 0 ≤ (x45_3 : Int) := of_decide_eq_true (by first | (with_reducible assumption) | assumption)
                  have q120 : x45_3 < (x3_4.length : Int) := of_decide_eq_true (by first | (with_reducible assumption) | assumption)
                  obtain ⟨ad120, A120_0, c120_0, e120, hx120_0, hl120_0, hi120_0⟩ := at_L15 (Kd.S_reads' HO_3.out).2.2 x45_3 p120 q120
                  cases e120
                  obtain ⟨ce120, hce120, hMe120, hcc120⟩ := Kd.S_get HO_3.out [] x45_3 p120 (by first | exact q120 | exact of_decide_eq_true (by first | (with_reducible assumption) | assumption) | (have e_ := (Kd.S_reads' HO_3.out).1; omega))
                  obtain ⟨ve120_0, rfl, ge120_0⟩ := hMe120
                  have hv120_0 := hcc120 0 _ rfl
                  rw [Nat.add_zero, show ((Kd.slice 4 Kd.bool)).sz = 1 from rfl, Nat.mul_one] at hv120_0
                  replace hv120_0 := Option.some.inj (hv120_0.symm.trans hx120_0)
                  rw [hv120_0] at ge120_0
                  have HL120_0 := Aside0.mk (show Kd.R Kd.bool 4 _ _ _ _ (rd_L15 x3_4 x45_3) from ge120_0)
                  clear hv120_0 ge120_0
                  have HX120_0 := Aside0.mk hx120_0
                  clear hcc120 hce120
                  have HR120_0 := Aside0.mk hi120_0
                  have HC120_0 := Aside0.mk hl120_0
                  clear hi120_0 hl120_0
                  replace p120 := eq_true p120
                  replace q120 := eq_true q120
                  have p121 : 0 ≤ (x45_3 : Int) := of_decide_eq_true (by first | (with_reducible assumption) | assumption)
                  have q121 : x45_3 < (x3_4.length : Int) := of_decide_eq_true (by first | (with_reducible assumption) | assumption)
                  obtain ⟨ad121, A121_0, c121_0, e121, hx121_0, hl121_0, hi121_0⟩ := at_L15 (Kd.S_reads' HO_3.out).2.2 x45_3 p121 q121
                  obtain rfl : ad120 = ad121 := (by injection e121)
                  obtain ⟨ce121, hce121, hMe121, hcc121⟩ := Kd.S_get HO_3.out [] x45_3 p121 (by first | exact q121 | exact of_decide_eq_true (by first | (with_reducible assumption) | assumption) | (have e_ := (Kd.S_reads' HO_3.out).1; omega))
                  obtain ⟨ve121_0, rfl, ge121_0⟩ := hMe121
                  have hv121_0 := hcc121 0 _ rfl
                  rw [Nat.add_zero, show ((Kd.slice 4 Kd.bool)).sz = 1 from rfl, Nat.mul_one] at hv121_0
                  replace hv121_0 := Option.some.inj (hv121_0.symm.trans hx121_0)
                  rw [hv121_0] at ge121_0
                  have HL121_0 := Aside0.mk (show Kd.R Kd.bool 4 _ _ _ _ (rd_L15 x3_4 x45_3) from ge121_0)
                  clear hv121_0 ge121_0
                  have HX121_0 := Aside0.mk hx121_0
                  clear hcc121 hce121
                  have HR121_0 := Aside0.mk hi121_0
                  have HC121_0 := Aside0.mk hl121_0
                  clear hi121_0 hl121_0
                  replace p121 := eq_true p121
                  replace q121 := eq_true q121
                  have ea_ := Option.some.inj (hx120_0.symm.trans hx121_0)
                  injection ea_ with ea_ en_ ec_
                  subst ea_
                  subst ec_
                  clear en_
                  have p122 : 0 ≤ (x50_4 : Int) := of_decide_eq_true (by first | (with_reducible assumption) | assumption)
                  have q122 : x50_4 < ((rd_L15 x3_4 x45_3).length : Int) := of_decide_eq_true (by first | (with_reducible assumption) | assumption)
                  obtain ⟨ad122, e122, hx122_0⟩ := Kd.at_bool (by repeat (first | (with_reducible exact HR121_0.out) | (with_reducible refine Kd.C_alloc ?_ _) | (with_reducible refine Kd.C_drewN ?_ _) | (with_reducible refine Kd.C_drew ?_) | exact HR121_0.out)) x50_4 p122 q122
                  (try rw [← Nbq33.out] at hx122_0)
                  cases e122
                  replace p122 := eq_true p122
                  replace q122 := eq_true q122
                  have p35 : 0 ≤ (x50_4 : Int) := of_decide_eq_true (by first | (with_reducible assumption) | assumption)
                  have q35 : (x50_4 : Int) < (((rd_L15 x3_4 x45_3).length : Int) : Int) := of_decide_eq_true (by first | (with_reducible assumption) | assumption)
                  obtain ⟨go35, co35, eo35, gb35, gl35, cl35, HG35⟩ := Kd.R_form HL120_0.out (by omega)
                  (first | cases eo35 | (injection eo35 with ea_ en_ ec_; (first | subst ea_ | (injection ea_ with ea_; subst ea_)); subst ec_; clear en_))
                  have GB35 := Aside0.mk gb35
                  have GG35 := Aside0.mk HG35
                  clear gb35 gl35 HG35
                  (first | simp only [add_plain] at hx122_0 | skip)
                  obtain ⟨hx35_0, hf35_0⟩ := Kd.R_celln false HL120_0.out (x50_4 : Int) p35 q35
                  replace p35 := eq_true p35
                  replace q35 := eq_true q35
                  have hq37 : (x45_3 : Int) < (x3_4.length : Int) := (by have h_ : (x45_3 : Int) < ((x3_4.length : Int) : Int) := of_decide_eq_true (by first | (with_reducible assumption) | assumption); first | exact h_ | (have e_ := (Kd.S_reads' HO_3.out).1; omega) | simpa only [List.length_set, List.length_set] using h_)
                  obtain ⟨oki37, ce37, hcl37, hM37, hcc37, hok37, hbk37⟩ := Kd.S_borrow HO_3.out [] (x45_3 : Int) (of_decide_eq_true (by first | (with_reducible assumption) | assumption)) hq37
                  obtain ⟨ve37_0, rfl, ge37_0⟩ := hM37
                  have hv37 := hcc37 0 _ rfl
                  rw [Nat.add_zero, show ((Kd.slice 4 Kd.bool)).sz = 1 from rfl, Nat.mul_one] at hv37
                  replace hv37 := Option.some.inj (hv37.symm.trans HX120_0.out)
                  subst hv37
                  clear hcc37 hcl37
                  replace ge37_0 := (show Kd.R Kd.bool 4 _ _ _ _ (rd_L15 x3_4 x45_3) from ge37_0)
                  have HP37 := Kd.R_putg ge37_0 (x50_4 : Int) true
                  rw [← Ny123.out] at HP37
                  have HS37 := hbk37 HP37.2 (fun k_ e_ => by injection e_ with e_; subst e_; exact ge37_0.1 _ rfl) (x' := y123) (Kd.M_row HP37.1)
                  rw [← Ny125.out] at HS37
                  have HQ37 := Aside0.mk HS37
                  clear HP37 HS37 hbk37 hok37
                  refine start_ (n := 32) (S := fun w' => w'.cell? (ad120.add (x45_3).toNat) = some (.slice (some ⟨go35, 0, none⟩) (rd_L15 x3_4 x45_3).length c120_0) ∧ w'.cell? (ad120.add (x45_3).toNat) = some (.slice (some ⟨go35, 0, none⟩) (rd_L15 x3_4 x45_3).length c120_0) ∧ w'.cell? ⟨go35, (x50_4).toNat, none⟩ = some (.bool true)) (ds := [31]) #[false, false, false, false, false, false, false, false, false, false, false, false, false, false, false, false, false, false, false, false, false, false, false, false, false, false, false, false, false, false, false, false] (by kernel_rfl) rfl rfl ⟨hx120_0, hx121_0, hx122_0⟩ (fun hHeld => ?_); refine with_tabW calls_table.tab22 calls_table.bits22 (fun HT_ HW_ => ?_)
                  generalize wr.drew = w36 at HO_3 BK108 HB GG35 HL120_0 HL121_0 HQ37 HR120_0 HR121_0 HX120_0 HX121_0 hf35_0 hx120_0 hx121_0 hx122_0 hx35_0 hHeld ⊢
                  refine pure_ (i := 0) (N := some 53) (v := ?_) (a' := ?_) #[true, false, false, false, false, false, false, false, false, false, false, false, false, false, false, false, false, false, false, false, false, false, false, false, false, false, false, false, false, false, false, false] rfl rfl (any_of HT_.out (by kernel_rfl)) (fun _ _ _ h => h) (Or.inl ⟨by rfl, ?_⟩) ?_ ?_
                  rotate_left
                  ·intro w'
                   go_simp
                   with_reducible rfl
                  rotate_left
                  ·simp only [Act.put, List.setIfInBounds_toArray, List.set_cons_zero, List.set_cons_succ, i64_w, i32_w]
                   rfl
                  refine pure_ (i := 1) (N := some 54) (v := ?_) (a' := ?_) #[true, true, false, false, false, false, false, false, false, false, false, false, false, false, false, false, false, false, false, false, false, false, false, false, false, false, false, false, false, false, false, false] rfl rfl (any_of HT_.out (by kernel_rfl)) (fun _ _ _ h => h) (Or.inl ⟨by rfl, ?_⟩) ?_ ?_
                  rotate_left
                  ·intro w'
                   go_simp
                   with_reducible rfl
                  rotate_left
                  ·simp only [Act.put, List.setIfInBounds_toArray, List.set_cons_zero, List.set_cons_succ, i64_w, i32_w]
                   rfl
                  refine pure_ (i := 2) (N := some 55) (v := ?_) (a' := ?_) #[true, true, true, false, false, false, false, false, false, false, false, false, false, false, false, false, false, false, false, false, false, false, false, false, false, false, false, false, false, false, false, false] rfl rfl (any_of HT_.out (by kernel_rfl)) (fun _ _ _ h => h) (Or.inl ⟨by rfl, ?_⟩) ?_ ?_
                  rotate_left
                  ·intro w'
                   go_simp
                   with_reducible rfl
                  rotate_left
                  ·simp only [Act.put, List.setIfInBounds_toArray, List.set_cons_zero, List.set_cons_succ, i64_w, i32_w]
                   rfl
                  refine pure_ (i := 4) (N := some 57) (v := ?_) (a' := ?_) #[true, true, true, false, true, false, false, false, false, false, false, false, false, false, false, false, false, false, false, false, false, false, false, false, false, false, false, false, false, false, false, false] rfl rfl (any_of HT_.out (by kernel_rfl)) (fun _ _ _ h => h) (Or.inl ⟨by rfl, ?_⟩) ?_ ?_
                  rotate_left
                  ·intro w'
                   go_simp
                   with_reducible rfl
                  rotate_left
                  ·simp only [Act.put, List.setIfInBounds_toArray, List.set_cons_zero, List.set_cons_succ, i64_w, i32_w]
                   rfl
                  refine pure_ (i := 5) (N := some 58) (v := ?_) (a' := ?_) #[true, true, true, false, true, true, false, false, false, false, false, false, false, false, false, false, false, false, false, false, false, false, false, false, false, false, false, false, false, false, false, false] rfl rfl (any_of HT_.out (by kernel_rfl)) (fun _ _ _ h => h) (Or.inl ⟨by rfl, ?_⟩) ?_ ?_
                  rotate_left
                  ·intro w'
                   go_simp
                   with_reducible rfl
                  rotate_left
                  ·simp only [Act.put, List.setIfInBounds_toArray, List.set_cons_zero, List.set_cons_succ, i64_w, i32_w]
                   rfl
                  refine pure_ (i := 6) (N := some 59) (v := ?_) (a' := ?_) #[true, true, true, false, true, true, true, false, false, false, false, false, false, false, false, false, false, false, false, false, false, false, false, false, false, false, false, false, false, false, false, false] rfl rfl (any_of HT_.out (by kernel_rfl)) (fun _ _ _ h => h) (Or.inl ⟨by rfl, ?_⟩) ?_ ?_
                  rotate_left
                  ·intro w'
                   go_simp
                   with_reducible rfl
                  rotate_left
                  ·simp only [Act.put, List.setIfInBounds_toArray, List.set_cons_zero, List.set_cons_succ, i64_w, i32_w]
                   rfl
                  refine pure_ (i := 7) (N := some 60) (v := ?_) (a' := ?_) #[true, true, true, false, true, true, true, true, false, false, false, false, false, false, false, false, false, false, false, false, false, false, false, false, false, false, false, false, false, false, false, false] rfl rfl (any_of HT_.out (by kernel_rfl)) (fun _ _ _ h => h) (Or.inl ⟨by rfl, ?_⟩) ?_ ?_
                  rotate_left
                  ·intro w'
                   go_simp
                   with_reducible rfl
                  rotate_left
                  ·simp only [Act.put, List.setIfInBounds_toArray, List.set_cons_zero, List.set_cons_succ, i64_w, i32_w]
                   rfl
                  refine pure_ (i := 9) (N := some 62) (v := ?_) (a' := ?_) #[true, true, true, false, true, true, true, true, false, true, false, false, false, false, false, false, false, false, false, false, false, false, false, false, false, false, false, false, false, false, false, false] rfl rfl (any_of HT_.out (by kernel_rfl)) (fun _ _ _ h => h) (Or.inl ⟨by rfl, ?_⟩) ?_ ?_
                  rotate_left
                  ·intro w'
                   go_simp
                   with_reducible rfl
                  rotate_left
                  ·simp only [Act.put, List.setIfInBounds_toArray, List.set_cons_zero, List.set_cons_succ, i64_w, i32_w]
                   rfl
                  refine take_ (i := 3) (N := some 56) (v := ?_) (a' := ?_) #[true, true, true, true, true, true, true, true, false, true, false, false, false, false, false, false, false, false, false, false, false, false, false, false, false, false, false, false, false, false, false, false] rfl rfl (take_ofW HT_.out HW_.out (by kernel_rfl)) (fun _ _ _ h => h) (Or.inl ⟨by rfl, ?_⟩) hHeld ?_ ?_
                  rotate_left
                  ·rintro w' ⟨s0, s1, s2⟩
                   go_simp
                   with_reducible rfl
                  rotate_left
                  ·simp only [Act.put, List.setIfInBounds_toArray, List.set_cons_zero, List.set_cons_succ, i64_w, i32_w]
                   rfl
                  refine take_ (i := 8) (N := some 61) (v := ?_) (a' := ?_) #[true, true, true, true, true, true, true, true, true, true, false, false, false, false, false, false, false, false, false, false, false, false, false, false, false, false, false, false, false, false, false, false] rfl rfl (take_ofW HT_.out HW_.out (by kernel_rfl)) (fun _ _ _ h => h) (Or.inl ⟨by rfl, ?_⟩) hHeld ?_ ?_
                  rotate_left
                  ·rintro w' ⟨s0, s1, s2⟩
                   go_simp
                   with_reducible rfl
                  rotate_left
                  ·simp only [Act.put, List.setIfInBounds_toArray, List.set_cons_zero, List.set_cons_succ, i64_w, i32_w]
                   rfl
                  refine pure_ (i := 10) (N := some 63) (v := ?_) (a' := ?_) #[true, true, true, true, true, true, true, true, true, true, true, false, false, false, false, false, false, false, false, false, false, false, false, false, false, false, false, false, false, false, false, false] rfl rfl (any_of HT_.out (by kernel_rfl)) (fun _ _ _ h => h) (Or.inl ⟨by rfl, ?_⟩) ?_ ?_
                  rotate_left
                  ·intro w'
                   go_simp
                   with_reducible rfl
                  rotate_left
                  ·simp only [Act.put, List.setIfInBounds_toArray, List.set_cons_zero, List.set_cons_succ, i64_w, i32_w]
                   rfl
                  refine take_ (i := 11) (N := some 64) (v := ?_) (a' := ?_) #[true, true, true, true, true, true, true, true, true, true, true, true, false, false, false, false, false, false, false, false, false, false, false, false, false, false, false, false, false, false, false, false] rfl rfl (take_ofW HT_.out HW_.out (by kernel_rfl)) (fun _ _ _ h => h) (Or.inl ⟨by rfl, ?_⟩) hHeld ?_ ?_
                  rotate_left
                  ·rintro w' ⟨s0, s1, s2⟩
                   go_simp
                   with_reducible rfl
                  rotate_left
                  ·simp only [Act.put, List.setIfInBounds_toArray, List.set_cons_zero, List.set_cons_succ, i64_w, i32_w]
                   rfl
                  refine pure_ (i := 12) (N := some 65) (v := ?_) (a' := ?_) #[true, true, true, true, true, true, true, true, true, true, true, true, true, false, false, false, false, false, false, false, false, false, false, false, false, false, false, false, false, false, false, false] rfl rfl (any_of HT_.out (by kernel_rfl)) (fun _ _ _ h => h) (Or.inl ⟨by rfl, ?_⟩) ?_ ?_
                  rotate_left
                  ·intro w'
                   go_simp
                   with_reducible rfl
                  rotate_left
                  ·simp only [Act.put, List.setIfInBounds_toArray, List.set_cons_zero, List.set_cons_succ, i64_w, i32_w]
                   rfl
                  refine pure_ (i := 13) (N := some 66) (v := undef) (a' := ?_) #[true, true, true, true, true, true, true, true, true, true, true, true, true, true, false, false, false, false, false, false, false, false, false, false, false, false, false, false, false, false, false, false] rfl rfl (any_of HT_.out (by kernel_rfl)) (fun _ _ _ h => h) (Or.inr ⟨by rfl, rfl⟩) ?_ ?_
                  rotate_left
                  ·simp only [Act.put, List.setIfInBounds_toArray, List.set_cons_zero, List.set_cons_succ, i64_w, i32_w]
                   rfl
                  refine pure_ (i := 14) (N := some 67) (v := undef) (a' := ?_) #[true, true, true, true, true, true, true, true, true, true, true, true, true, true, true, false, false, false, false, false, false, false, false, false, false, false, false, false, false, false, false, false] rfl rfl (any_of HT_.out (by kernel_rfl)) (fun _ _ _ h => h) (Or.inr ⟨by rfl, rfl⟩) ?_ ?_
                  rotate_left
                  ·simp only [Act.put, List.setIfInBounds_toArray, List.set_cons_zero, List.set_cons_succ, i64_w, i32_w]
                   rfl
                  refine pure_ (i := 15) (N := some 68) (v := undef) (a' := ?_) #[true, true, true, true, true, true, true, true, true, true, true, true, true, true, true, true, false, false, false, false, false, false, false, false, false, false, false, false, false, false, false, false] rfl rfl (any_of HT_.out (by kernel_rfl)) (fun _ _ _ h => h) (Or.inr ⟨by rfl, rfl⟩) ?_ ?_
                  rotate_left
                  ·simp only [Act.put, List.setIfInBounds_toArray, List.set_cons_zero, List.set_cons_succ, i64_w, i32_w]
                   rfl
                  refine pure_ (i := 16) (N := some 69) (v := undef) (a' := ?_) #[true, true, true, true, true, true, true, true, true, true, true, true, true, true, true, true, true, false, false, false, false, false, false, false, false, false, false, false, false, false, false, false] rfl rfl (any_of HT_.out (by kernel_rfl)) (fun _ _ _ h => h) (Or.inr ⟨by rfl, rfl⟩) ?_ ?_
                  rotate_left
                  ·simp only [Act.put, List.setIfInBounds_toArray, List.set_cons_zero, List.set_cons_succ, i64_w, i32_w]
                   rfl
                  refine pure_ (i := 17) (N := some 70) (v := undef) (a' := ?_) #[true, true, true, true, true, true, true, true, true, true, true, true, true, true, true, true, true, true, false, false, false, false, false, false, false, false, false, false, false, false, false, false] rfl rfl (any_of HT_.out (by kernel_rfl)) (fun _ _ _ h => h) (Or.inr ⟨by rfl, rfl⟩) ?_ ?_
                  rotate_left
                  ·simp only [Act.put, List.setIfInBounds_toArray, List.set_cons_zero, List.set_cons_succ, i64_w, i32_w]
                   rfl
                  refine pure_ (i := 18) (N := some 71) (v := undef) (a' := ?_) #[true, true, true, true, true, true, true, true, true, true, true, true, true, true, true, true, true, true, true, false, false, false, false, false, false, false, false, false, false, false, false, false] rfl rfl (any_of HT_.out (by kernel_rfl)) (fun _ _ _ h => h) (Or.inr ⟨by rfl, rfl⟩) ?_ ?_
                  rotate_left
                  ·simp only [Act.put, List.setIfInBounds_toArray, List.set_cons_zero, List.set_cons_succ, i64_w, i32_w]
                   rfl
                  refine pure_ (i := 19) (N := some 72) (v := undef) (a' := ?_) #[true, true, true, true, true, true, true, true, true, true, true, true, true, true, true, true, true, true, true, true, false, false, false, false, false, false, false, false, false, false, false, false] rfl rfl (any_of HT_.out (by kernel_rfl)) (fun _ _ _ h => h) (Or.inr ⟨by rfl, rfl⟩) ?_ ?_
                  rotate_left
                  ·simp only [Act.put, List.setIfInBounds_toArray, List.set_cons_zero, List.set_cons_succ, i64_w, i32_w]
                   rfl
                  refine pure_ (i := 20) (N := some 73) (v := undef) (a' := ?_) #[true, true, true, true, true, true, true, true, true, true, true, true, true, true, true, true, true, true, true, true, true, false, false, false, false, false, false, false, false, false, false, false] rfl rfl (any_of HT_.out (by kernel_rfl)) (fun _ _ _ h => h) (Or.inr ⟨by rfl, rfl⟩) ?_ ?_
                  rotate_left
                  ·simp only [Act.put, List.setIfInBounds_toArray, List.set_cons_zero, List.set_cons_succ, i64_w, i32_w]
                   rfl
                  refine pure_ (i := 21) (N := some 74) (v := undef) (a' := ?_) #[true, true, true, true, true, true, true, true, true, true, true, true, true, true, true, true, true, true, true, true, true, true, false, false, false, false, false, false, false, false, false, false] rfl rfl (any_of HT_.out (by kernel_rfl)) (fun _ _ _ h => h) (Or.inr ⟨by rfl, rfl⟩) ?_ ?_
                  rotate_left
                  ·simp only [Act.put, List.setIfInBounds_toArray, List.set_cons_zero, List.set_cons_succ, i64_w, i32_w]
                   rfl
                  refine pure_ (i := 22) (N := some 75) (v := undef) (a' := ?_) #[true, true, true, true, true, true, true, true, true, true, true, true, true, true, true, true, true, true, true, true, true, true, true, false, false, false, false, false, false, false, false, false] rfl rfl (any_of HT_.out (by kernel_rfl)) (fun _ _ _ h => h) (Or.inr ⟨by rfl, rfl⟩) ?_ ?_
                  rotate_left
                  ·simp only [Act.put, List.setIfInBounds_toArray, List.set_cons_zero, List.set_cons_succ, i64_w, i32_w]
                   rfl
                  refine pure_ (i := 23) (N := some 76) (v := undef) (a' := ?_) #[true, true, true, true, true, true, true, true, true, true, true, true, true, true, true, true, true, true, true, true, true, true, true, true, false, false, false, false, false, false, false, false] rfl rfl (any_of HT_.out (by kernel_rfl)) (fun _ _ _ h => h) (Or.inr ⟨by rfl, rfl⟩) ?_ ?_
                  rotate_left
                  ·simp only [Act.put, List.setIfInBounds_toArray, List.set_cons_zero, List.set_cons_succ, i64_w, i32_w]
                   rfl
                  refine pure_ (i := 24) (N := some 77) (v := undef) (a' := ?_) #[true, true, true, true, true, true, true, true, true, true, true, true, true, true, true, true, true, true, true, true, true, true, true, true, true, false, false, false, false, false, false, false] rfl rfl (any_of HT_.out (by kernel_rfl)) (fun _ _ _ h => h) (Or.inr ⟨by rfl, rfl⟩) ?_ ?_
                  rotate_left
                  ·simp only [Act.put, List.setIfInBounds_toArray, List.set_cons_zero, List.set_cons_succ, i64_w, i32_w]
                   rfl
                  refine pure_ (i := 25) (N := some 78) (v := undef) (a' := ?_) #[true, true, true, true, true, true, true, true, true, true, true, true, true, true, true, true, true, true, true, true, true, true, true, true, true, true, false, false, false, false, false, false] rfl rfl (any_of HT_.out (by kernel_rfl)) (fun _ _ _ h => h) (Or.inr ⟨by rfl, rfl⟩) ?_ ?_
                  rotate_left
                  ·simp only [Act.put, List.setIfInBounds_toArray, List.set_cons_zero, List.set_cons_succ, i64_w, i32_w]
                   rfl
                  refine pure_ (i := 26) (N := some 79) (v := undef) (a' := ?_) #[true, true, true, true, true, true, true, true, true, true, true, true, true, true, true, true, true, true, true, true, true, true, true, true, true, true, true, false, false, false, false, false] rfl rfl (any_of HT_.out (by kernel_rfl)) (fun _ _ _ h => h) (Or.inr ⟨by rfl, rfl⟩) ?_ ?_
                  rotate_left
                  ·simp only [Act.put, List.setIfInBounds_toArray, List.set_cons_zero, List.set_cons_succ, i64_w, i32_w]
                   rfl
                  refine pure_ (i := 27) (N := some 80) (v := undef) (a' := ?_) #[true, true, true, true, true, true, true, true, true, true, true, true, true, true, true, true, true, true, true, true, true, true, true, true, true, true, true, true, false, false, false, false] rfl rfl (any_of HT_.out (by kernel_rfl)) (fun _ _ _ h => h) (Or.inr ⟨by rfl, rfl⟩) ?_ ?_
                  rotate_left
                  ·simp only [Act.put, List.setIfInBounds_toArray, List.set_cons_zero, List.set_cons_succ, i64_w, i32_w]
                   rfl
                  refine pure_ (i := 28) (N := some 81) (v := undef) (a' := ?_) #[true, true, true, true, true, true, true, true, true, true, true, true, true, true, true, true, true, true, true, true, true, true, true, true, true, true, true, true, true, false, false, false] rfl rfl (any_of HT_.out (by kernel_rfl)) (fun _ _ _ h => h) (Or.inr ⟨by rfl, rfl⟩) ?_ ?_
                  rotate_left
                  ·simp only [Act.put, List.setIfInBounds_toArray, List.set_cons_zero, List.set_cons_succ, i64_w, i32_w]
                   rfl
                  refine pure_ (i := 29) (N := some 82) (v := ?_) (a' := ?_) #[true, true, true, true, true, true, true, true, true, true, true, true, true, true, true, true, true, true, true, true, true, true, true, true, true, true, true, true, true, true, false, false] rfl rfl (any_of HT_.out (by kernel_rfl)) (fun _ _ _ h => h) (Or.inl ⟨by rfl, ?_⟩) ?_ ?_
                  rotate_left
                  ·intro w'
                   go_simp
                   with_reducible rfl
                  rotate_left
                  ·simp only [Act.put, List.setIfInBounds_toArray, List.set_cons_zero, List.set_cons_succ, i64_w, i32_w]
                   rfl
                  refine pure_ (i := 30) (N := some 83) (v := ?_) (a' := ?_) #[true, true, true, true, true, true, true, true, true, true, true, true, true, true, true, true, true, true, true, true, true, true, true, true, true, true, true, true, true, true, true, false] rfl rfl (any_of HT_.out (by kernel_rfl)) (fun _ _ _ h => h) (Or.inl ⟨by rfl, ?_⟩) ?_ ?_
                  rotate_left
                  ·intro w'
                   go_simp
                   with_reducible rfl
                  rotate_left
                  ·simp only [Act.put, List.setIfInBounds_toArray, List.set_cons_zero, List.set_cons_succ, i64_w, i32_w]
                   rfl
                  refine last_ (i := 31) (N := none) #[true, true, true, true, true, true, true, true, true, true, true, true, true, true, true, true, true, true, true, true, true, true, true, true, true, true, true, true, true, true, true, true] rfl rfl (one_of HT_.out (by kernel_rfl)) (by decide) (fun K hK => ?_)
                  refine skip_ (w1 := ?_) (by rfl) rfl ?_ ?_
                  rotate_left
                  ·go_simp
                   rfl
                  refine hK.out _ _ ?_
                  clear hK K
                  refine done_ (done_of HT_.out (by kernel_rfl)) ?_
                  try go_wp2
                  (try simp only [← hl3_4])
                  go_roundg k4
                  case measure => have := HK1.out; have := HK2.out; have := HK3.out; have := HK4.out; omega
                  case rel => exact ⟨(y125), (wrap64 (x50_4 + 1)), (by first | rfl | (simp; done) | (simp [*]; done)), H', ⟨by have := HK1.out; have := HK2.out; have := HK3.out; have := HK4.out; omega⟩, ⟨by (try simp only [hl3_2]); (try simp only [hl3_3]); (try simp only [hl3_4]); (with_reducible repeat (first | apply Kd.S_alloc | apply Kd.S_drewN | apply Kd.S_drew)); exact HQ37.out⟩, ⟨by (try simp only [hl3_2]); (try simp only [hl3_3]); (try simp only [hl3_4]); (with_reducible repeat (first | refine blk_drewN ?_ _ | refine blk_drew ?_ | refine blk_alloc ?_ _)); refine blk_far ?_ (by have h_ := Kd.R_ne HL120_0.out BK108.out (by decide); intro e_; exact h_ (by rw [e_]; rfl)) _; (with_reducible repeat (first | refine blk_drewN ?_ _ | refine blk_drew ?_ | refine blk_alloc ?_ _)); exact BK108.out⟩, ⟨by repeat (first | (with_reducible first | exact HB.out | apply below_alloc | apply pw_below_drewN | apply below_drew1 | refine below_set ?_ GB35.out | refine below_set ?_ GE108.out) | exact HB.out)⟩⟩
                 ·replace c34 := Bool.eq_false_iff.mpr c34
                  subst c34
                  have H1 : (if 0 ≤ x40_2 then (if x40_2 < ((rd_L15 x3_4 x45_3).length : Int) then (if rdOf false (rd_L15 x3_4 x45_3) x40_2 = true then (if x40_2 < (x3_4.length : Int) then (if x50_4 < ((rd_L15 x3_4 x40_2).length : Int) then (calls_table.l4 k4 (x3_4.set (x45_3 : Int).toNat ((rd_L15 x3_4 x45_3).set (x50_4 : Int).toNat (rdOf false (rd_L15 x3_4 x40_2) x50_4))) x40_2 x45_3 (x3_1.length : Int) x40_2 (x3_2.length : Int) x45_3 (x3_3.length : Int) (wrap64 (x50_4 + 1))) else (none)) else (none)) else (calls_table.l4 k4 (x3_4.set (x45_3 : Int).toNat ((rd_L15 x3_4 x45_3).set (x50_4 : Int).toNat false)) x40_2 x45_3 (x3_1.length : Int) x40_2 (x3_2.length : Int) x45_3 (x3_3.length : Int) (wrap64 (x50_4 + 1)))) else (none)) else (none)) = some r := by rw [if_neg (show ¬ (false = true) by decide)] at H; exact H
                  clear H
                  have H := H1
                  clear H1
                  by_cases c39 : 0 ≤ x40_2
                  ·rw [if_pos c39] at H
                   have c39b0 : decide (0 ≤ x40_2) = true := decide_eq_true c39
                   clear c39
                   by_cases c40 : x40_2 < ((rd_L15 x3_4 x45_3).length : Int)
                   ·rw [if_pos c40] at H
                    have c40b0 : decide (x40_2 < ((rd_L15 x3_4 x45_3).length : Int)) = true := decide_eq_true c40
                    have c40b0z := c40b0
                    (try simp only [hl3_2, hl3_3, hl3_4] at c40b0z)
                    clear c40
                    obtain ⟨bq41, hbq41⟩ : ∃ b_ : Bool, b_ = (rdOf false (rd_L15 x3_4 x45_3) x40_2) := ⟨_, rfl⟩
                    replace H : (if bq41 = true then (if x40_2 < (x3_4.length : Int) then (if x50_4 < ((rd_L15 x3_4 x40_2).length : Int) then (calls_table.l4 k4 (x3_4.set (x45_3 : Int).toNat ((rd_L15 x3_4 x45_3).set (x50_4 : Int).toNat (rdOf false (rd_L15 x3_4 x40_2) x50_4))) x40_2 x45_3 (x3_1.length : Int) x40_2 (x3_2.length : Int) x45_3 (x3_3.length : Int) (wrap64 (x50_4 + 1))) else (none)) else (none)) else (calls_table.l4 k4 (x3_4.set (x45_3 : Int).toNat ((rd_L15 x3_4 x45_3).set (x50_4 : Int).toNat false)) x40_2 x45_3 (x3_1.length : Int) x40_2 (x3_2.length : Int) x45_3 (x3_3.length : Int) (wrap64 (x50_4 + 1)))) = some r := by rw [← hbq41] at H; exact H
                    have Nbq41 := Aside0.mk hbq41
                    clear hbq41
                    by_cases c42 : bq41 = true
                    ·subst c42
                     have H1 : (if x40_2 < (x3_4.length : Int) then (if x50_4 < ((rd_L15 x3_4 x40_2).length : Int) then (calls_table.l4 k4 (x3_4.set (x45_3 : Int).toNat ((rd_L15 x3_4 x45_3).set (x50_4 : Int).toNat (rdOf false (rd_L15 x3_4 x40_2) x50_4))) x40_2 x45_3 (x3_1.length : Int) x40_2 (x3_2.length : Int) x45_3 (x3_3.length : Int) (wrap64 (x50_4 + 1))) else (none)) else (none)) = some r := by rw [if_pos rfl] at H; exact H
                     clear H
                     have H := H1
                     clear H1
                     by_cases c43 : x40_2 < (x3_4.length : Int)
                     ·rw [if_pos c43] at H
                      have c43b0 : decide (x40_2 < (x3_4.length : Int)) = true := decide_eq_true c43
                      have c43b0z := c43b0
                      (try simp only [hl3_2, hl3_3, hl3_4] at c43b0z)
                      clear c43
                      by_cases c44 : x50_4 < ((rd_L15 x3_4 x40_2).length : Int)
                      ·rw [if_pos c44] at H
                       have c44b0 : decide (x50_4 < ((rd_L15 x3_4 x40_2).length : Int)) = true := decide_eq_true c44
                       have c44b0z := c44b0
                       (try simp only [hl3_2, hl3_3, hl3_4] at c44b0z)
                       clear c44
                       obtain ⟨y130, hy130⟩ : ∃ y_ : List Bool, y_ = ((rd_L15 x3_4 x45_3).set (x50_4 : Int).toNat (rdOf false (rd_L15 x3_4 x40_2) x50_4)) := ⟨_, rfl⟩
                       replace H : (calls_table.l4 k4 (x3_4.set (x45_3 : Int).toNat y130) x40_2 x45_3 (x3_1.length : Int) x40_2 (x3_2.length : Int) x45_3 (x3_3.length : Int) (wrap64 (x50_4 + 1))) = some r := by first | (rw [hy130]; with_reducible exact H) | (have H2_ := (Option.bind_some _ _).symm.trans H; rw [hy130]; with_reducible exact H2_) | (have H2_ := (Option.bind_some _ _).symm.trans H; with_reducible exact H2_) | with_reducible exact H | (rw [hy130]; exact H) | exact H
                       have Ny130 := Aside0.mk hy130
                       clear hy130
                       obtain ⟨y132, hy132⟩ : ∃ y_ : List (List Bool), y_ = (x3_4.set (x45_3 : Int).toNat y130) := ⟨_, rfl⟩
                       replace H : (calls_table.l4 k4 y132 x40_2 x45_3 (x3_1.length : Int) x40_2 (x3_2.length : Int) x45_3 (x3_3.length : Int) (wrap64 (x50_4 + 1))) = some r := by first | (rw [hy132]; with_reducible exact H) | (have H2_ := (Option.bind_some _ _).symm.trans H; rw [hy132]; with_reducible exact H2_) | (have H2_ := (Option.bind_some _ _).symm.trans H; with_reducible exact H2_) | with_reducible exact H | (rw [hy132]; exact H) | exact H
                       have Ny132 := Aside0.mk hy132
                       clear hy132
                       have H' := Aside0.mk H
                       clear H
                       try go_wp2
                       have n0_ := Aside0.mk (Kd.S_drew HO_3.out)
                       have n1_ := Aside0.mk (blk_drew BK108.out)
                       have n2_ := Aside0.mk (below_drew1 HB.out)
                       clear HO_3
                       clear BK108
                       clear HB
                       have HO_3 := n0_
                       have BK108 := n1_
                       have HB := n2_
                       clear n0_ n1_ n2_
                       have p120 : 0 ≤ (x45_3 : Int) := of_decide_eq_true (by first | (with_reducible assumption) | assumption)
                       have q120 : x45_3 < (x3_4.length : Int) := of_decide_eq_true (by first | (with_reducible assumption) | assumption)
                       obtain ⟨ad120, A120_0, c120_0, e120, hx120_0, hl120_0, hi120_0⟩ := at_L15 (Kd.S_reads' HO_3.out).2.2 x45_3 p120 q120
                       cases e120
                       obtain ⟨ce120, hce120, hMe120, hcc120⟩ := Kd.S_get HO_3.out [] x45_3 p120 (by first | exact q120 | exact of_decide_eq_true (by first | (with_reducible assumption) | assumption) | (have e_ := (Kd.S_reads' HO_3.out).1; omega))
                       obtain ⟨ve120_0, rfl, ge120_0⟩ := hMe120
                       have hv120_0 := hcc120 0 _ rfl
                       rw [Nat.add_zero, show ((Kd.slice 4 Kd.bool)).sz = 1 from rfl, Nat.mul_one] at hv120_0
                       replace hv120_0 := Option.some.inj (hv120_0.symm.trans hx120_0)
                       rw [hv120_0] at ge120_0
                       have HL120_0 := Aside0.mk (show Kd.R Kd.bool 4 _ _ _ _ (rd_L15 x3_4 x45_3) from ge120_0)
                       clear hv120_0 ge120_0
                       have HX120_0 := Aside0.mk hx120_0
                       clear hcc120 hce120
                       have HR120_0 := Aside0.mk hi120_0
                       have HC120_0 := Aside0.mk hl120_0
                       clear hi120_0 hl120_0
                       replace p120 := eq_true p120
                       replace q120 := eq_true q120
                       have p121 : 0 ≤ (x45_3 : Int) := of_decide_eq_true (by first | (with_reducible assumption) | assumption)
                       have q121 : x45_3 < (x3_4.length : Int) := of_decide_eq_true (by first | (with_reducible assumption) | assumption)
                       obtain ⟨ad121, A121_0, c121_0, e121, hx121_0, hl121_0, hi121_0⟩ := at_L15 (Kd.S_reads' HO_3.out).2.2 x45_3 p121 q121
                       obtain rfl : ad120 = ad121 := (by injection e121)
                       obtain ⟨ce121, hce121, hMe121, hcc121⟩ := Kd.S_get HO_3.out [] x45_3 p121 (by first | exact q121 | exact of_decide_eq_true (by first | (with_reducible assumption) | assumption) | (have e_ := (Kd.S_reads' HO_3.out).1; omega))
                       obtain ⟨ve121_0, rfl, ge121_0⟩ := hMe121
                       have hv121_0 := hcc121 0 _ rfl
                       rw [Nat.add_zero, show ((Kd.slice 4 Kd.bool)).sz = 1 from rfl, Nat.mul_one] at hv121_0
                       replace hv121_0 := Option.some.inj (hv121_0.symm.trans hx121_0)
                       rw [hv121_0] at ge121_0
                       have HL121_0 := Aside0.mk (show Kd.R Kd.bool 4 _ _ _ _ (rd_L15 x3_4 x45_3) from ge121_0)
                       clear hv121_0 ge121_0
                       have HX121_0 := Aside0.mk hx121_0
                       clear hcc121 hce121
                       have HR121_0 := Aside0.mk hi121_0
                       have HC121_0 := Aside0.mk hl121_0
                       clear hi121_0 hl121_0
                       replace p121 := eq_true p121
                       replace q121 := eq_true q121
                       have ea_ := Option.some.inj (hx120_0.symm.trans hx121_0)
                       injection ea_ with ea_ en_ ec_
                       subst ea_
                       subst ec_
                       clear en_
                       have p122 : 0 ≤ (x50_4 : Int) := of_decide_eq_true (by first | (with_reducible assumption) | assumption)
                       have q122 : x50_4 < ((rd_L15 x3_4 x45_3).length : Int) := of_decide_eq_true (by first | (with_reducible assumption) | assumption)
                       obtain ⟨ad122, e122, hx122_0⟩ := Kd.at_bool (by repeat (first | (with_reducible exact HR121_0.out) | (with_reducible refine Kd.C_alloc ?_ _) | (with_reducible refine Kd.C_drewN ?_ _) | (with_reducible refine Kd.C_drew ?_) | exact HR121_0.out)) x50_4 p122 q122
                       (try rw [← Nbq33.out] at hx122_0)
                       (try rw [← Nbq41.out] at hx122_0)
                       cases e122
                       replace p122 := eq_true p122
                       replace q122 := eq_true q122
                       have p126 : 0 ≤ (x45_3 : Int) := of_decide_eq_true (by first | (with_reducible assumption) | assumption)
                       have q126 : x45_3 < (x3_4.length : Int) := of_decide_eq_true (by first | (with_reducible assumption) | assumption)
                       obtain ⟨ad126, A126_0, c126_0, e126, hx126_0, hl126_0, hi126_0⟩ := at_L15 (Kd.S_reads' HO_3.out).2.2 x45_3 p126 q126
                       obtain rfl : ad120 = ad126 := (by injection e126)
                       obtain ⟨ce126, hce126, hMe126, hcc126⟩ := Kd.S_get HO_3.out [] x45_3 p126 (by first | exact q126 | exact of_decide_eq_true (by first | (with_reducible assumption) | assumption) | (have e_ := (Kd.S_reads' HO_3.out).1; omega))
                       obtain ⟨ve126_0, rfl, ge126_0⟩ := hMe126
                       have hv126_0 := hcc126 0 _ rfl
                       rw [Nat.add_zero, show ((Kd.slice 4 Kd.bool)).sz = 1 from rfl, Nat.mul_one] at hv126_0
                       replace hv126_0 := Option.some.inj (hv126_0.symm.trans hx126_0)
                       rw [hv126_0] at ge126_0
                       have HL126_0 := Aside0.mk (show Kd.R Kd.bool 4 _ _ _ _ (rd_L15 x3_4 x45_3) from ge126_0)
                       clear hv126_0 ge126_0
                       have HX126_0 := Aside0.mk hx126_0
                       clear hcc126 hce126
                       have HR126_0 := Aside0.mk hi126_0
                       have HC126_0 := Aside0.mk hl126_0
                       clear hi126_0 hl126_0
                       replace p126 := eq_true p126
                       replace q126 := eq_true q126
                       have ea_ := Option.some.inj (hx120_0.symm.trans hx126_0)
                       injection ea_ with ea_ en_ ec_
                       subst ea_
                       subst ec_
                       clear en_
                       have p127 : 0 ≤ (x40_2 : Int) := of_decide_eq_true (by first | (with_reducible assumption) | assumption)
                       have q127 : x40_2 < ((rd_L15 x3_4 x45_3).length : Int) := of_decide_eq_true (by first | (with_reducible assumption) | assumption)
                       obtain ⟨ad127, e127, hx127_0⟩ := Kd.at_bool (by repeat (first | (with_reducible exact HR126_0.out) | (with_reducible refine Kd.C_alloc ?_ _) | (with_reducible refine Kd.C_drewN ?_ _) | (with_reducible refine Kd.C_drew ?_) | exact HR126_0.out)) x40_2 p127 q127
                       (try rw [← Nbq33.out] at hx127_0)
                       (try rw [← Nbq41.out] at hx127_0)
                       cases e127
                       replace p127 := eq_true p127
                       replace q127 := eq_true q127
                       have p128 : 0 ≤ (x40_2 : Int) := of_decide_eq_true (by first | (with_reducible assumption) | assumption)
                       have q128 : x40_2 < (x3_4.length : Int) := of_decide_eq_true (by first | (with_reducible assumption) | assumption)
                       obtain ⟨ad128, A128_0, c128_0, e128, hx128_0, hl128_0, hi128_0⟩ := at_L15 (Kd.S_reads' HO_3.out).2.2 x40_2 p128 q128
                       obtain rfl : ad120 = ad128 := (by injection e128)
                       obtain ⟨ce128, hce128, hMe128, hcc128⟩ := Kd.S_get HO_3.out [] x40_2 p128 (by first | exact q128 | exact of_decide_eq_true (by first | (with_reducible assumption) | assumption) | (have e_ := (Kd.S_reads' HO_3.out).1; omega))
                       obtain ⟨ve128_0, rfl, ge128_0⟩ := hMe128
                       have hv128_0 := hcc128 0 _ rfl
                       rw [Nat.add_zero, show ((Kd.slice 4 Kd.bool)).sz = 1 from rfl, Nat.mul_one] at hv128_0
                       replace hv128_0 := Option.some.inj (hv128_0.symm.trans hx128_0)
                       rw [hv128_0] at ge128_0
                       have HL128_0 := Aside0.mk (show Kd.R Kd.bool 4 _ _ _ _ (rd_L15 x3_4 x40_2) from ge128_0)
                       clear hv128_0 ge128_0
                       have HX128_0 := Aside0.mk hx128_0
                       clear hcc128 hce128
                       have HR128_0 := Aside0.mk hi128_0
                       have HC128_0 := Aside0.mk hl128_0
                       clear hi128_0 hl128_0
                       replace p128 := eq_true p128
                       replace q128 := eq_true q128
                       have p129 : 0 ≤ (x50_4 : Int) := of_decide_eq_true (by first | (with_reducible assumption) | assumption)
                       have q129 : x50_4 < ((rd_L15 x3_4 x40_2).length : Int) := of_decide_eq_true (by first | (with_reducible assumption) | assumption)
                       obtain ⟨ad129, e129, hx129_0⟩ := Kd.at_bool (by repeat (first | (with_reducible exact HR128_0.out) | (with_reducible refine Kd.C_alloc ?_ _) | (with_reducible refine Kd.C_drewN ?_ _) | (with_reducible refine Kd.C_drew ?_) | exact HR128_0.out)) x50_4 p129 q129
                       (try rw [← Nbq33.out] at hx129_0)
                       (try rw [← Nbq41.out] at hx129_0)
                       cases e129
                       replace p129 := eq_true p129
                       replace q129 := eq_true q129
                       have p45 : 0 ≤ (x50_4 : Int) := of_decide_eq_true (by first | (with_reducible assumption) | assumption)
                       have q45 : (x50_4 : Int) < (((rd_L15 x3_4 x45_3).length : Int) : Int) := of_decide_eq_true (by first | (with_reducible assumption) | assumption)
                       obtain ⟨go45, co45, eo45, gb45, gl45, cl45, HG45⟩ := Kd.R_form HL120_0.out (by omega)
                       (first | cases eo45 | (injection eo45 with ea_ en_ ec_; (first | subst ea_ | (injection ea_ with ea_; subst ea_)); subst ec_; clear en_))
                       have GB45 := Aside0.mk gb45
                       have GG45 := Aside0.mk HG45
                       clear gb45 gl45 HG45
                       (first | simp only [add_plain] at hx127_0 | skip)
                       obtain ⟨hx45_0, hf45_0⟩ := Kd.R_celln false HL120_0.out (x50_4 : Int) p45 q45
                       replace p45 := eq_true p45
                       replace q45 := eq_true q45
                       have hq47 : (x45_3 : Int) < (x3_4.length : Int) := (by have h_ : (x45_3 : Int) < ((x3_4.length : Int) : Int) := of_decide_eq_true (by first | (with_reducible assumption) | assumption); first | exact h_ | (have e_ := (Kd.S_reads' HO_3.out).1; omega) | simpa only [List.length_set, List.length_set] using h_)
                       obtain ⟨oki47, ce47, hcl47, hM47, hcc47, hok47, hbk47⟩ := Kd.S_borrow HO_3.out [] (x45_3 : Int) (of_decide_eq_true (by first | (with_reducible assumption) | assumption)) hq47
                       obtain ⟨ve47_0, rfl, ge47_0⟩ := hM47
                       have hv47 := hcc47 0 _ rfl
                       rw [Nat.add_zero, show ((Kd.slice 4 Kd.bool)).sz = 1 from rfl, Nat.mul_one] at hv47
                       replace hv47 := Option.some.inj (hv47.symm.trans HX120_0.out)
                       subst hv47
                       clear hcc47 hcl47
                       replace ge47_0 := (show Kd.R Kd.bool 4 _ _ _ _ (rd_L15 x3_4 x45_3) from ge47_0)
                       have HP47 := Kd.R_putg ge47_0 (x50_4 : Int) (rdOf false (rd_L15 x3_4 x40_2) x50_4)
                       rw [← Ny130.out] at HP47
                       have HS47 := hbk47 HP47.2 (fun k_ e_ => by injection e_ with e_; subst e_; exact ge47_0.1 _ rfl) (x' := y130) (Kd.M_row HP47.1)
                       rw [← Ny132.out] at HS47
                       have HQ47 := Aside0.mk HS47
                       clear HP47 HS47 hbk47 hok47
                       (try simp only [add_plain] at hx122_0)
                       refine start_ (n := 32) (S := fun w' => w'.cell? (ad120.add (x45_3).toNat) = some (.slice (some ⟨go45, 0, none⟩) (rd_L15 x3_4 x45_3).length c120_0) ∧ w'.cell? (ad120.add (x45_3).toNat) = some (.slice (some ⟨go45, 0, none⟩) (rd_L15 x3_4 x45_3).length c120_0) ∧ w'.cell? ⟨go45, (x50_4).toNat, none⟩ = some (.bool false) ∧ w'.cell? (ad120.add (x45_3).toNat) = some (.slice (some ⟨go45, 0, none⟩) (rd_L15 x3_4 x45_3).length c120_0) ∧ w'.cell? ⟨go45, (x40_2).toNat, none⟩ = some (.bool true) ∧ w'.cell? (ad120.add (x40_2).toNat) = some (.slice (some ad129) (rd_L15 x3_4 x40_2).length c128_0) ∧ w'.cell? (ad129.add (x50_4).toNat) = some (.bool (rdOf false (rd_L15 x3_4 x40_2) x50_4))) (ds := [31]) #[false, false, false, false, false, false, false, false, false, false, false, false, false, false, false, false, false, false, false, false, false, false, false, false, false, false, false, false, false, false, false, false] (by kernel_rfl) rfl rfl ⟨hx120_0, hx121_0, hx122_0, hx126_0, hx127_0, hx128_0, hx129_0⟩ (fun hHeld => ?_); refine with_tabW calls_table.tab22 calls_table.bits22 (fun HT_ HW_ => ?_)
                       generalize wr.drew = w46 at HO_3 BK108 HB GG45 HL120_0 HL121_0 HL126_0 HL128_0 HQ47 HR120_0 HR121_0 HR126_0 HR128_0 HX120_0 HX121_0 HX126_0 HX128_0 hf45_0 hx120_0 hx121_0 hx122_0 hx126_0 hx127_0 hx128_0 hx129_0 hx45_0 hHeld ⊢
                       refine pure_ (i := 0) (N := some 53) (v := ?_) (a' := ?_) #[true, false, false, false, false, false, false, false, false, false, false, false, false, false, false, false, false, false, false, false, false, false, false, false, false, false, false, false, false, false, false, false] rfl rfl (any_of HT_.out (by kernel_rfl)) (fun _ _ _ h => h) (Or.inl ⟨by rfl, ?_⟩) ?_ ?_
                       rotate_left
                       ·intro w'
                        go_simp
                        with_reducible rfl
                       rotate_left
                       ·simp only [Act.put, List.setIfInBounds_toArray, List.set_cons_zero, List.set_cons_succ, i64_w, i32_w]
                        rfl
                       refine pure_ (i := 1) (N := some 54) (v := ?_) (a' := ?_) #[true, true, false, false, false, false, false, false, false, false, false, false, false, false, false, false, false, false, false, false, false, false, false, false, false, false, false, false, false, false, false, false] rfl rfl (any_of HT_.out (by kernel_rfl)) (fun _ _ _ h => h) (Or.inl ⟨by rfl, ?_⟩) ?_ ?_
                       rotate_left
                       ·intro w'
                        go_simp
                        with_reducible rfl
                       rotate_left
                       ·simp only [Act.put, List.setIfInBounds_toArray, List.set_cons_zero, List.set_cons_succ, i64_w, i32_w]
                        rfl
                       refine pure_ (i := 2) (N := some 55) (v := ?_) (a' := ?_) #[true, true, true, false, false, false, false, false, false, false, false, false, false, false, false, false, false, false, false, false, false, false, false, false, false, false, false, false, false, false, false, false] rfl rfl (any_of HT_.out (by kernel_rfl)) (fun _ _ _ h => h) (Or.inl ⟨by rfl, ?_⟩) ?_ ?_
                       rotate_left
                       ·intro w'
                        go_simp
                        with_reducible rfl
                       rotate_left
                       ·simp only [Act.put, List.setIfInBounds_toArray, List.set_cons_zero, List.set_cons_succ, i64_w, i32_w]
                        rfl
                       refine pure_ (i := 4) (N := some 57) (v := ?_) (a' := ?_) #[true, true, true, false, true, false, false, false, false, false, false, false, false, false, false, false, false, false, false, false, false, false, false, false, false, false, false, false, false, false, false, false] rfl rfl (any_of HT_.out (by kernel_rfl)) (fun _ _ _ h => h) (Or.inl ⟨by rfl, ?_⟩) ?_ ?_
                       rotate_left
                       ·intro w'
                        go_simp
                        with_reducible rfl
                       rotate_left
                       ·simp only [Act.put, List.setIfInBounds_toArray, List.set_cons_zero, List.set_cons_succ, i64_w, i32_w]
                        rfl
                       refine pure_ (i := 5) (N := some 58) (v := ?_) (a' := ?_) #[true, true, true, false, true, true, false, false, false, false, false, false, false, false, false, false, false, false, false, false, false, false, false, false, false, false, false, false, false, false, false, false] rfl rfl (any_of HT_.out (by kernel_rfl)) (fun _ _ _ h => h) (Or.inl ⟨by rfl, ?_⟩) ?_ ?_
                       rotate_left
                       ·intro w'
                        go_simp
                        with_reducible rfl
                       rotate_left
                       ·simp only [Act.put, List.setIfInBounds_toArray, List.set_cons_zero, List.set_cons_succ, i64_w, i32_w]
                        rfl
                       refine pure_ (i := 6) (N := some 59) (v := ?_) (a' := ?_) #[true, true, true, false, true, true, true, false, false, false, false, false, false, false, false, false, false, false, false, false, false, false, false, false, false, false, false, false, false, false, false, false] rfl rfl (any_of HT_.out (by kernel_rfl)) (fun _ _ _ h => h) (Or.inl ⟨by rfl, ?_⟩) ?_ ?_
                       rotate_left
                       ·intro w'
                        go_simp
                        with_reducible rfl
                       rotate_left
                       ·simp only [Act.put, List.setIfInBounds_toArray, List.set_cons_zero, List.set_cons_succ, i64_w, i32_w]
                        rfl
                       refine pure_ (i := 7) (N := some 60) (v := ?_) (a' := ?_) #[true, true, true, false, true, true, true, true, false, false, false, false, false, false, false, false, false, false, false, false, false, false, false, false, false, false, false, false, false, false, false, false] rfl rfl (any_of HT_.out (by kernel_rfl)) (fun _ _ _ h => h) (Or.inl ⟨by rfl, ?_⟩) ?_ ?_
                       rotate_left
                       ·intro w'
                        go_simp
                        with_reducible rfl
                       rotate_left
                       ·simp only [Act.put, List.setIfInBounds_toArray, List.set_cons_zero, List.set_cons_succ, i64_w, i32_w]
                        rfl
                       refine pure_ (i := 9) (N := some 62) (v := ?_) (a' := ?_) #[true, true, true, false, true, true, true, true, false, true, false, false, false, false, false, false, false, false, false, false, false, false, false, false, false, false, false, false, false, false, false, false] rfl rfl (any_of HT_.out (by kernel_rfl)) (fun _ _ _ h => h) (Or.inl ⟨by rfl, ?_⟩) ?_ ?_
                       rotate_left
                       ·intro w'
                        go_simp
                        with_reducible rfl
                       rotate_left
                       ·simp only [Act.put, List.setIfInBounds_toArray, List.set_cons_zero, List.set_cons_succ, i64_w, i32_w]
                        rfl
                       refine take_ (i := 3) (N := some 56) (v := ?_) (a' := ?_) #[true, true, true, true, true, true, true, true, false, true, false, false, false, false, false, false, false, false, false, false, false, false, false, false, false, false, false, false, false, false, false, false] rfl rfl (take_ofW HT_.out HW_.out (by kernel_rfl)) (fun _ _ _ h => h) (Or.inl ⟨by rfl, ?_⟩) hHeld ?_ ?_
                       rotate_left
                       ·rintro w' ⟨s0, s1, s2, s3, s4, s5, s6⟩
                        go_simp
                        with_reducible rfl
                       rotate_left
                       ·simp only [Act.put, List.setIfInBounds_toArray, List.set_cons_zero, List.set_cons_succ, i64_w, i32_w]
                        rfl
                       refine take_ (i := 8) (N := some 61) (v := ?_) (a' := ?_) #[true, true, true, true, true, true, true, true, true, true, false, false, false, false, false, false, false, false, false, false, false, false, false, false, false, false, false, false, false, false, false, false] rfl rfl (take_ofW HT_.out HW_.out (by kernel_rfl)) (fun _ _ _ h => h) (Or.inl ⟨by rfl, ?_⟩) hHeld ?_ ?_
                       rotate_left
                       ·rintro w' ⟨s0, s1, s2, s3, s4, s5, s6⟩
                        go_simp
                        with_reducible rfl
                       rotate_left
                       ·simp only [Act.put, List.setIfInBounds_toArray, List.set_cons_zero, List.set_cons_succ, i64_w, i32_w]
                        rfl
                       refine pure_ (i := 10) (N := some 63) (v := ?_) (a' := ?_) #[true, true, true, true, true, true, true, true, true, true, true, false, false, false, false, false, false, false, false, false, false, false, false, false, false, false, false, false, false, false, false, false] rfl rfl (any_of HT_.out (by kernel_rfl)) (fun _ _ _ h => h) (Or.inl ⟨by rfl, ?_⟩) ?_ ?_
                       rotate_left
                       ·intro w'
                        go_simp
                        with_reducible rfl
                       rotate_left
                       ·simp only [Act.put, List.setIfInBounds_toArray, List.set_cons_zero, List.set_cons_succ, i64_w, i32_w]
                        rfl
                       refine take_ (i := 11) (N := some 64) (v := ?_) (a' := ?_) #[true, true, true, true, true, true, true, true, true, true, true, true, false, false, false, false, false, false, false, false, false, false, false, false, false, false, false, false, false, false, false, false] rfl rfl (take_ofW HT_.out HW_.out (by kernel_rfl)) (fun _ _ _ h => h) (Or.inl ⟨by rfl, ?_⟩) hHeld ?_ ?_
                       rotate_left
                       ·rintro w' ⟨s0, s1, s2, s3, s4, s5, s6⟩
                        go_simp
                        with_reducible rfl
                       rotate_left
                       ·simp only [Act.put, List.setIfInBounds_toArray, List.set_cons_zero, List.set_cons_succ, i64_w, i32_w]
                        rfl
                       refine pure_ (i := 12) (N := some 65) (v := ?_) (a' := ?_) #[true, true, true, true, true, true, true, true, true, true, true, true, true, false, false, false, false, false, false, false, false, false, false, false, false, false, false, false, false, false, false, false] rfl rfl (any_of HT_.out (by kernel_rfl)) (fun _ _ _ h => h) (Or.inl ⟨by rfl, ?_⟩) ?_ ?_
                       rotate_left
                       ·intro w'
                        go_simp
                        with_reducible rfl
                       rotate_left
                       ·simp only [Act.put, List.setIfInBounds_toArray, List.set_cons_zero, List.set_cons_succ, i64_w, i32_w]
                        rfl
                       refine pure_ (i := 13) (N := some 66) (v := ?_) (a' := ?_) #[true, true, true, true, true, true, true, true, true, true, true, true, true, true, false, false, false, false, false, false, false, false, false, false, false, false, false, false, false, false, false, false] rfl rfl (any_of HT_.out (by kernel_rfl)) (fun _ _ _ h => h) (Or.inl ⟨by rfl, ?_⟩) ?_ ?_
                       rotate_left
                       ·intro w'
                        go_simp
                        with_reducible rfl
                       rotate_left
                       ·simp only [Act.put, List.setIfInBounds_toArray, List.set_cons_zero, List.set_cons_succ, i64_w, i32_w]
                        rfl
                       refine pure_ (i := 14) (N := some 67) (v := ?_) (a' := ?_) #[true, true, true, true, true, true, true, true, true, true, true, true, true, true, true, false, false, false, false, false, false, false, false, false, false, false, false, false, false, false, false, false] rfl rfl (any_of HT_.out (by kernel_rfl)) (fun _ _ _ h => h) (Or.inl ⟨by rfl, ?_⟩) ?_ ?_
                       rotate_left
                       ·intro w'
                        go_simp
                        with_reducible rfl
                       rotate_left
                       ·simp only [Act.put, List.setIfInBounds_toArray, List.set_cons_zero, List.set_cons_succ, i64_w, i32_w]
                        rfl
                       refine pure_ (i := 15) (N := some 68) (v := ?_) (a' := ?_) #[true, true, true, true, true, true, true, true, true, true, true, true, true, true, true, true, false, false, false, false, false, false, false, false, false, false, false, false, false, false, false, false] rfl rfl (any_of HT_.out (by kernel_rfl)) (fun _ _ _ h => h) (Or.inl ⟨by rfl, ?_⟩) ?_ ?_
                       rotate_left
                       ·intro w'
                        go_simp
                        with_reducible rfl
                       rotate_left
                       ·simp only [Act.put, List.setIfInBounds_toArray, List.set_cons_zero, List.set_cons_succ, i64_w, i32_w]
                        rfl
                       refine pure_ (i := 17) (N := some 70) (v := ?_) (a' := ?_) #[true, true, true, true, true, true, true, true, true, true, true, true, true, true, true, true, false, true, false, false, false, false, false, false, false, false, false, false, false, false, false, false] rfl rfl (any_of HT_.out (by kernel_rfl)) (fun _ _ _ h => h) (Or.inl ⟨by rfl, ?_⟩) ?_ ?_
                       rotate_left
                       ·intro w'
                        go_simp
                        with_reducible rfl
                       rotate_left
                       ·simp only [Act.put, List.setIfInBounds_toArray, List.set_cons_zero, List.set_cons_succ, i64_w, i32_w]
                        rfl
                       refine take_ (i := 16) (N := some 69) (v := ?_) (a' := ?_) #[true, true, true, true, true, true, true, true, true, true, true, true, true, true, true, true, true, true, false, false, false, false, false, false, false, false, false, false, false, false, false, false] rfl rfl (take_ofW HT_.out HW_.out (by kernel_rfl)) (fun _ _ _ h => h) (Or.inl ⟨by rfl, ?_⟩) hHeld ?_ ?_
                       rotate_left
                       ·rintro w' ⟨s0, s1, s2, s3, s4, s5, s6⟩
                        go_simp
                        with_reducible rfl
                       rotate_left
                       ·simp only [Act.put, List.setIfInBounds_toArray, List.set_cons_zero, List.set_cons_succ, i64_w, i32_w]
                        rfl
                       refine pure_ (i := 18) (N := some 71) (v := ?_) (a' := ?_) #[true, true, true, true, true, true, true, true, true, true, true, true, true, true, true, true, true, true, true, false, false, false, false, false, false, false, false, false, false, false, false, false] rfl rfl (any_of HT_.out (by kernel_rfl)) (fun _ _ _ h => h) (Or.inl ⟨by rfl, ?_⟩) ?_ ?_
                       rotate_left
                       ·intro w'
                        go_simp
                        with_reducible rfl
                       rotate_left
                       ·simp only [Act.put, List.setIfInBounds_toArray, List.set_cons_zero, List.set_cons_succ, i64_w, i32_w]
                        rfl
                       refine take_ (i := 19) (N := some 72) (v := ?_) (a' := ?_) #[true, true, true, true, true, true, true, true, true, true, true, true, true, true, true, true, true, true, true, true, false, false, false, false, false, false, false, false, false, false, false, false] rfl rfl (take_ofW HT_.out HW_.out (by kernel_rfl)) (fun _ _ _ h => h) (Or.inl ⟨by rfl, ?_⟩) hHeld ?_ ?_
                       rotate_left
                       ·rintro w' ⟨s0, s1, s2, s3, s4, s5, s6⟩
                        go_simp
                        with_reducible rfl
                       rotate_left
                       ·simp only [Act.put, List.setIfInBounds_toArray, List.set_cons_zero, List.set_cons_succ, i64_w, i32_w]
                        rfl
                       refine pure_ (i := 20) (N := some 73) (v := ?_) (a' := ?_) #[true, true, true, true, true, true, true, true, true, true, true, true, true, true, true, true, true, true, true, true, true, false, false, false, false, false, false, false, false, false, false, false] rfl rfl (any_of HT_.out (by kernel_rfl)) (fun _ _ _ h => h) (Or.inl ⟨by rfl, ?_⟩) ?_ ?_
                       rotate_left
                       ·intro w'
                        go_simp
                        with_reducible rfl
                       rotate_left
                       ·simp only [Act.put, List.setIfInBounds_toArray, List.set_cons_zero, List.set_cons_succ, i64_w, i32_w]
                        rfl
                       refine pure_ (i := 21) (N := some 74) (v := ?_) (a' := ?_) #[true, true, true, true, true, true, true, true, true, true, true, true, true, true, true, true, true, true, true, true, true, true, false, false, false, false, false, false, false, false, false, false] rfl rfl (any_of HT_.out (by kernel_rfl)) (fun _ _ _ h => h) (Or.inl ⟨by rfl, ?_⟩) ?_ ?_
                       rotate_left
                       ·intro w'
                        go_simp
                        with_reducible rfl
                       rotate_left
                       ·simp only [Act.put, List.setIfInBounds_toArray, List.set_cons_zero, List.set_cons_succ, i64_w, i32_w]
                        rfl
                       refine pure_ (i := 22) (N := some 75) (v := ?_) (a' := ?_) #[true, true, true, true, true, true, true, true, true, true, true, true, true, true, true, true, true, true, true, true, true, true, true, false, false, false, false, false, false, false, false, false] rfl rfl (any_of HT_.out (by kernel_rfl)) (fun _ _ _ h => h) (Or.inl ⟨by rfl, ?_⟩) ?_ ?_
                       rotate_left
                       ·intro w'
                        go_simp
                        with_reducible rfl
                       rotate_left
                       ·simp only [Act.put, List.setIfInBounds_toArray, List.set_cons_zero, List.set_cons_succ, i64_w, i32_w]
                        rfl
                       refine pure_ (i := 23) (N := some 76) (v := ?_) (a' := ?_) #[true, true, true, true, true, true, true, true, true, true, true, true, true, true, true, true, true, true, true, true, true, true, true, true, false, false, false, false, false, false, false, false] rfl rfl (any_of HT_.out (by kernel_rfl)) (fun _ _ _ h => h) (Or.inl ⟨by rfl, ?_⟩) ?_ ?_
                       rotate_left
                       ·intro w'
                        go_simp
                        with_reducible rfl
                       rotate_left
                       ·simp only [Act.put, List.setIfInBounds_toArray, List.set_cons_zero, List.set_cons_succ, i64_w, i32_w]
                        rfl
                       refine pure_ (i := 25) (N := some 78) (v := ?_) (a' := ?_) #[true, true, true, true, true, true, true, true, true, true, true, true, true, true, true, true, true, true, true, true, true, true, true, true, false, true, false, false, false, false, false, false] rfl rfl (any_of HT_.out (by kernel_rfl)) (fun _ _ _ h => h) (Or.inl ⟨by rfl, ?_⟩) ?_ ?_
                       rotate_left
                       ·intro w'
                        go_simp
                        with_reducible rfl
                       rotate_left
                       ·simp only [Act.put, List.setIfInBounds_toArray, List.set_cons_zero, List.set_cons_succ, i64_w, i32_w]
                        rfl
                       refine take_ (i := 24) (N := some 77) (v := ?_) (a' := ?_) #[true, true, true, true, true, true, true, true, true, true, true, true, true, true, true, true, true, true, true, true, true, true, true, true, true, true, false, false, false, false, false, false] rfl rfl (take_ofW HT_.out HW_.out (by kernel_rfl)) (fun _ _ _ h => h) (Or.inl ⟨by rfl, ?_⟩) hHeld ?_ ?_
                       rotate_left
                       ·rintro w' ⟨s0, s1, s2, s3, s4, s5, s6⟩
                        go_simp
                        with_reducible rfl
                       rotate_left
                       ·simp only [Act.put, List.setIfInBounds_toArray, List.set_cons_zero, List.set_cons_succ, i64_w, i32_w]
                        rfl
                       refine pure_ (i := 26) (N := some 79) (v := ?_) (a' := ?_) #[true, true, true, true, true, true, true, true, true, true, true, true, true, true, true, true, true, true, true, true, true, true, true, true, true, true, true, false, false, false, false, false] rfl rfl (any_of HT_.out (by kernel_rfl)) (fun _ _ _ h => h) (Or.inl ⟨by rfl, ?_⟩) ?_ ?_
                       rotate_left
                       ·intro w'
                        go_simp
                        with_reducible rfl
                       rotate_left
                       ·simp only [Act.put, List.setIfInBounds_toArray, List.set_cons_zero, List.set_cons_succ, i64_w, i32_w]
                        rfl
                       refine take_ (i := 27) (N := some 80) (v := ?_) (a' := ?_) #[true, true, true, true, true, true, true, true, true, true, true, true, true, true, true, true, true, true, true, true, true, true, true, true, true, true, true, true, false, false, false, false] rfl rfl (take_ofW HT_.out HW_.out (by kernel_rfl)) (fun _ _ _ h => h) (Or.inl ⟨by rfl, ?_⟩) hHeld ?_ ?_
                       rotate_left
                       ·rintro w' ⟨s0, s1, s2, s3, s4, s5, s6⟩
                        go_simp
                        with_reducible rfl
                       rotate_left
                       ·simp only [Act.put, List.setIfInBounds_toArray, List.set_cons_zero, List.set_cons_succ, i64_w, i32_w]
                        rfl
                       refine pure_ (i := 28) (N := some 81) (v := ?_) (a' := ?_) #[true, true, true, true, true, true, true, true, true, true, true, true, true, true, true, true, true, true, true, true, true, true, true, true, true, true, true, true, true, false, false, false] rfl rfl (any_of HT_.out (by kernel_rfl)) (fun _ _ _ h => h) (Or.inl ⟨by rfl, ?_⟩) ?_ ?_
                       rotate_left
                       ·intro w'
                        go_simp
                        with_reducible rfl
                       rotate_left
                       ·simp only [Act.put, List.setIfInBounds_toArray, List.set_cons_zero, List.set_cons_succ, i64_w, i32_w]
                        rfl
                       refine pure_ (i := 29) (N := some 82) (v := ?_) (a' := ?_) #[true, true, true, true, true, true, true, true, true, true, true, true, true, true, true, true, true, true, true, true, true, true, true, true, true, true, true, true, true, true, false, false] rfl rfl (any_of HT_.out (by kernel_rfl)) (fun _ _ _ h => h) (Or.inl ⟨by rfl, ?_⟩) ?_ ?_
                       rotate_left
                       ·intro w'
                        go_simp
                        with_reducible rfl
                       rotate_left
                       ·simp only [Act.put, List.setIfInBounds_toArray, List.set_cons_zero, List.set_cons_succ, i64_w, i32_w]
                        rfl
                       refine pure_ (i := 30) (N := some 83) (v := ?_) (a' := ?_) #[true, true, true, true, true, true, true, true, true, true, true, true, true, true, true, true, true, true, true, true, true, true, true, true, true, true, true, true, true, true, true, false] rfl rfl (any_of HT_.out (by kernel_rfl)) (fun _ _ _ h => h) (Or.inl ⟨by rfl, ?_⟩) ?_ ?_
                       rotate_left
                       ·intro w'
                        go_simp
                        with_reducible rfl
                       rotate_left
                       ·simp only [Act.put, List.setIfInBounds_toArray, List.set_cons_zero, List.set_cons_succ, i64_w, i32_w]
                        rfl
                       refine last_ (i := 31) (N := none) #[true, true, true, true, true, true, true, true, true, true, true, true, true, true, true, true, true, true, true, true, true, true, true, true, true, true, true, true, true, true, true, true] rfl rfl (one_of HT_.out (by kernel_rfl)) (by decide) (fun K hK => ?_)
                       refine skip_ (w1 := ?_) (by rfl) rfl ?_ ?_
                       rotate_left
                       ·go_simp
                        rfl
                       refine hK.out _ _ ?_
                       clear hK K
                       refine done_ (done_of HT_.out (by kernel_rfl)) ?_
                       try go_wp2
                       (try simp only [← hl3_4])
                       go_roundg k4
                       case measure => have := HK1.out; have := HK2.out; have := HK3.out; have := HK4.out; omega
                       case rel => exact ⟨(y132), (wrap64 (x50_4 + 1)), (by first | rfl | (simp; done) | (simp [*]; done)), H', ⟨by have := HK1.out; have := HK2.out; have := HK3.out; have := HK4.out; omega⟩, ⟨by (try simp only [hl3_2]); (try simp only [hl3_3]); (try simp only [hl3_4]); (with_reducible repeat (first | apply Kd.S_alloc | apply Kd.S_drewN | apply Kd.S_drew)); exact HQ47.out⟩, ⟨by (try simp only [hl3_2]); (try simp only [hl3_3]); (try simp only [hl3_4]); (with_reducible repeat (first | refine blk_drewN ?_ _ | refine blk_drew ?_ | refine blk_alloc ?_ _)); refine blk_far ?_ (by have h_ := Kd.R_ne HL120_0.out BK108.out (by decide); intro e_; exact h_ (by rw [e_]; rfl)) _; (with_reducible repeat (first | refine blk_drewN ?_ _ | refine blk_drew ?_ | refine blk_alloc ?_ _)); exact BK108.out⟩, ⟨by repeat (first | (with_reducible first | exact HB.out | apply below_alloc | apply pw_below_drewN | apply below_drew1 | refine below_set ?_ GB45.out | refine below_set ?_ GE108.out) | exact HB.out)⟩⟩
                      ·rw [if_neg c44] at H
                       exact absurd H (by simp)
                     ·rw [if_neg c43] at H
                      exact absurd H (by simp)
                    ·replace c42 := Bool.eq_false_iff.mpr c42
                     subst c42
                     have H1 : (calls_table.l4 k4 (x3_4.set (x45_3 : Int).toNat ((rd_L15 x3_4 x45_3).set (x50_4 : Int).toNat false)) x40_2 x45_3 (x3_1.length : Int) x40_2 (x3_2.length : Int) x45_3 (x3_3.length : Int) (wrap64 (x50_4 + 1))) = some r := by rw [if_neg (show ¬ (false = true) by decide)] at H; exact H
                     clear H
                     have H := H1
                     clear H1
                     obtain ⟨y133, hy133⟩ : ∃ y_ : List Bool, y_ = ((rd_L15 x3_4 x45_3).set (x50_4 : Int).toNat false) := ⟨_, rfl⟩
                     replace H : (calls_table.l4 k4 (x3_4.set (x45_3 : Int).toNat y133) x40_2 x45_3 (x3_1.length : Int) x40_2 (x3_2.length : Int) x45_3 (x3_3.length : Int) (wrap64 (x50_4 + 1))) = some r := by first | (rw [hy133]; with_reducible exact H) | (have H2_ := (Option.bind_some _ _).symm.trans H; rw [hy133]; with_reducible exact H2_) | (have H2_ := (Option.bind_some _ _).symm.trans H; with_reducible exact H2_) | with_reducible exact H | (rw [hy133]; exact H) | exact H
                     have Ny133 := Aside0.mk hy133
                     clear hy133
                     obtain ⟨y135, hy135⟩ : ∃ y_ : List (List Bool), y_ = (x3_4.set (x45_3 : Int).toNat y133) := ⟨_, rfl⟩
                     replace H : (calls_table.l4 k4 y135 x40_2 x45_3 (x3_1.length : Int) x40_2 (x3_2.length : Int) x45_3 (x3_3.length : Int) (wrap64 (x50_4 + 1))) = some r := by first | (rw [hy135]; with_reducible exact H) | (have H2_ := (Option.bind_some _ _).symm.trans H; rw [hy135]; with_reducible exact H2_) | (have H2_ := (Option.bind_some _ _).symm.trans H; with_reducible exact H2_) | with_reducible exact H | (rw [hy135]; exact H) | exact H
                     have Ny135 := Aside0.mk hy135
                     clear hy135
                     have H' := Aside0.mk H
                     clear H
                     try go_wp2
                     have n0_ := Aside0.mk (Kd.S_drew HO_3.out)
                     have n1_ := Aside0.mk (blk_drew BK108.out)
                     have n2_ := Aside0.mk (below_drew1 HB.out)
                     clear HO_3
                     clear BK108
                     clear HB
                     have HO_3 := n0_
                     have BK108 := n1_
                     have HB := n2_
                     clear n0_ n1_ n2_
                     have p120 : 0 ≤ (x45_3 : Int) := of_decide_eq_true (by first | (with_reducible assumption) | assumption)
                     have q120 : x45_3 < (x3_4.length : Int) := of_decide_eq_true (by first | (with_reducible assumption) | assumption)
                     obtain ⟨ad120, A120_0, c120_0, e120, hx120_0, hl120_0, hi120_0⟩ := at_L15 (Kd.S_reads' HO_3.out).2.2 x45_3 p120 q120
                     cases e120
                     obtain ⟨ce120, hce120, hMe120, hcc120⟩ := Kd.S_get HO_3.out [] x45_3 p120 (by first | exact q120 | exact of_decide_eq_true (by first | (with_reducible assumption) | assumption) | (have e_ := (Kd.S_reads' HO_3.out).1; omega))
                     obtain ⟨ve120_0, rfl, ge120_0⟩ := hMe120
                     have hv120_0 := hcc120 0 _ rfl
                     rw [Nat.add_zero, show ((Kd.slice 4 Kd.bool)).sz = 1 from rfl, Nat.mul_one] at hv120_0
                     replace hv120_0 := Option.some.inj (hv120_0.symm.trans hx120_0)
                     rw [hv120_0] at ge120_0
                     have HL120_0 := Aside0.mk (show Kd.R Kd.bool 4 _ _ _ _ (rd_L15 x3_4 x45_3) from ge120_0)
                     clear hv120_0 ge120_0
                     have HX120_0 := Aside0.mk hx120_0
                     clear hcc120 hce120
                     have HR120_0 := Aside0.mk hi120_0
                     have HC120_0 := Aside0.mk hl120_0
                     clear hi120_0 hl120_0
                     replace p120 := eq_true p120
                     replace q120 := eq_true q120
                     have p121 : 0 ≤ (x45_3 : Int) := of_decide_eq_true (by first | (with_reducible assumption) | assumption)
                     have q121 : x45_3 < (x3_4.length : Int) := of_decide_eq_true (by first | (with_reducible assumption) | assumption)
                     obtain ⟨ad121, A121_0, c121_0, e121, hx121_0, hl121_0, hi121_0⟩ := at_L15 (Kd.S_reads' HO_3.out).2.2 x45_3 p121 q121
                     obtain rfl : ad120 = ad121 := (by injection e121)
                     obtain ⟨ce121, hce121, hMe121, hcc121⟩ := Kd.S_get HO_3.out [] x45_3 p121 (by first | exact q121 | exact of_decide_eq_true (by first | (with_reducible assumption) | assumption) | (have e_ := (Kd.S_reads' HO_3.out).1; omega))
                     obtain ⟨ve121_0, rfl, ge121_0⟩ := hMe121
                     have hv121_0 := hcc121 0 _ rfl
                     rw [Nat.add_zero, show ((Kd.slice 4 Kd.bool)).sz = 1 from rfl, Nat.mul_one] at hv121_0
                     replace hv121_0 := Option.some.inj (hv121_0.symm.trans hx121_0)
                     rw [hv121_0] at ge121_0
                     have HL121_0 := Aside0.mk (show Kd.R Kd.bool 4 _ _ _ _ (rd_L15 x3_4 x45_3) from ge121_0)
                     clear hv121_0 ge121_0
                     have HX121_0 := Aside0.mk hx121_0
                     clear hcc121 hce121
                     have HR121_0 := Aside0.mk hi121_0
                     have HC121_0 := Aside0.mk hl121_0
                     clear hi121_0 hl121_0
                     replace p121 := eq_true p121
                     replace q121 := eq_true q121
                     have ea_ := Option.some.inj (hx120_0.symm.trans hx121_0)
                     injection ea_ with ea_ en_ ec_
                     subst ea_
                     subst ec_
                     clear en_
                     have p122 : 0 ≤ (x50_4 : Int) := of_decide_eq_true (by first | (with_reducible assumption) | assumption)
                     have q122 : x50_4 < ((rd_L15 x3_4 x45_3).length : Int) := of_decide_eq_true (by first | (with_reducible assumption) | assumption)
                     obtain ⟨ad122, e122, hx122_0⟩ := Kd.at_bool (by repeat (first | (with_reducible exact HR121_0.out) | (with_reducible refine Kd.C_alloc ?_ _) | (with_reducible refine Kd.C_drewN ?_ _) | (with_reducible refine Kd.C_drew ?_) | exact HR121_0.out)) x50_4 p122 q122
                     (try rw [← Nbq33.out] at hx122_0)
                     (try rw [← Nbq41.out] at hx122_0)
                     cases e122
                     replace p122 := eq_true p122
                     replace q122 := eq_true q122
                     have p126 : 0 ≤ (x45_3 : Int) := of_decide_eq_true (by first | (with_reducible assumption) | assumption)
                     have q126 : x45_3 < (x3_4.length : Int) := of_decide_eq_true (by first | (with_reducible assumption) | assumption)
                     obtain ⟨ad126, A126_0, c126_0, e126, hx126_0, hl126_0, hi126_0⟩ := at_L15 (Kd.S_reads' HO_3.out).2.2 x45_3 p126 q126
                     obtain rfl : ad120 = ad126 := (by injection e126)
                     obtain ⟨ce126, hce126, hMe126, hcc126⟩ := Kd.S_get HO_3.out [] x45_3 p126 (by first | exact q126 | exact of_decide_eq_true (by first | (with_reducible assumption) | assumption) | (have e_ := (Kd.S_reads' HO_3.out).1; omega))
                     obtain ⟨ve126_0, rfl, ge126_0⟩ := hMe126
                     have hv126_0 := hcc126 0 _ rfl
                     rw [Nat.add_zero, show ((Kd.slice 4 Kd.bool)).sz = 1 from rfl, Nat.mul_one] at hv126_0
                     replace hv126_0 := Option.some.inj (hv126_0.symm.trans hx126_0)
                     rw [hv126_0] at ge126_0
                     have HL126_0 := Aside0.mk (show Kd.R Kd.bool 4 _ _ _ _ (rd_L15 x3_4 x45_3) from ge126_0)
                     clear hv126_0 ge126_0
                     have HX126_0 := Aside0.mk hx126_0
                     clear hcc126 hce126
                     have HR126_0 := Aside0.mk hi126_0
                     have HC126_0 := Aside0.mk hl126_0
                     clear hi126_0 hl126_0
                     replace p126 := eq_true p126
                     replace q126 := eq_true q126
                     have ea_ := Option.some.inj (hx120_0.symm.trans hx126_0)
                     injection ea_ with ea_ en_ ec_
                     subst ea_
                     subst ec_
                     clear en_
                     have p127 : 0 ≤ (x40_2 : Int) := of_decide_eq_true (by first | (with_reducible assumption) | assumption)
                     have q127 : x40_2 < ((rd_L15 x3_4 x45_3).length : Int) := of_decide_eq_true (by first | (with_reducible assumption) | assumption)
                     obtain ⟨ad127, e127, hx127_0⟩ := Kd.at_bool (by repeat (first | (with_reducible exact HR126_0.out) | (with_reducible refine Kd.C_alloc ?_ _) | (with_reducible refine Kd.C_drewN ?_ _) | (with_reducible refine Kd.C_drew ?_) | exact HR126_0.out)) x40_2 p127 q127
                     (try rw [← Nbq33.out] at hx127_0)
                     (try rw [← Nbq41.out] at hx127_0)
                     cases e127
                     replace p127 := eq_true p127
                     replace q127 := eq_true q127
                     have p49 : 0 ≤ (x50_4 : Int) := of_decide_eq_true (by first | (with_reducible assumption) | assumption)
                     have q49 : (x50_4 : Int) < (((rd_L15 x3_4 x45_3).length : Int) : Int) := of_decide_eq_true (by first | (with_reducible assumption) | assumption)
                     obtain ⟨go49, co49, eo49, gb49, gl49, cl49, HG49⟩ := Kd.R_form HL120_0.out (by omega)
                     (first | cases eo49 | (injection eo49 with ea_ en_ ec_; (first | subst ea_ | (injection ea_ with ea_; subst ea_)); subst ec_; clear en_))
                     have GB49 := Aside0.mk gb49
                     have GG49 := Aside0.mk HG49
                     clear gb49 gl49 HG49
                     (first | simp only [add_plain] at hx127_0 | skip)
                     obtain ⟨hx49_0, hf49_0⟩ := Kd.R_celln false HL120_0.out (x50_4 : Int) p49 q49
                     replace p49 := eq_true p49
                     replace q49 := eq_true q49
                     have hq51 : (x45_3 : Int) < (x3_4.length : Int) := (by have h_ : (x45_3 : Int) < ((x3_4.length : Int) : Int) := of_decide_eq_true (by first | (with_reducible assumption) | assumption); first | exact h_ | (have e_ := (Kd.S_reads' HO_3.out).1; omega) | simpa only [List.length_set, List.length_set] using h_)
                     obtain ⟨oki51, ce51, hcl51, hM51, hcc51, hok51, hbk51⟩ := Kd.S_borrow HO_3.out [] (x45_3 : Int) (of_decide_eq_true (by first | (with_reducible assumption) | assumption)) hq51
                     obtain ⟨ve51_0, rfl, ge51_0⟩ := hM51
                     have hv51 := hcc51 0 _ rfl
                     rw [Nat.add_zero, show ((Kd.slice 4 Kd.bool)).sz = 1 from rfl, Nat.mul_one] at hv51
                     replace hv51 := Option.some.inj (hv51.symm.trans HX120_0.out)
                     subst hv51
                     clear hcc51 hcl51
                     replace ge51_0 := (show Kd.R Kd.bool 4 _ _ _ _ (rd_L15 x3_4 x45_3) from ge51_0)
                     have HP51 := Kd.R_putg ge51_0 (x50_4 : Int) false
                     rw [← Ny133.out] at HP51
                     have HS51 := hbk51 HP51.2 (fun k_ e_ => by injection e_ with e_; subst e_; exact ge51_0.1 _ rfl) (x' := y133) (Kd.M_row HP51.1)
                     rw [← Ny135.out] at HS51
                     have HQ51 := Aside0.mk HS51
                     clear HP51 HS51 hbk51 hok51
                     (try simp only [add_plain] at hx122_0)
                     refine start_ (n := 32) (S := fun w' => w'.cell? (ad120.add (x45_3).toNat) = some (.slice (some ⟨go49, 0, none⟩) (rd_L15 x3_4 x45_3).length c120_0) ∧ w'.cell? (ad120.add (x45_3).toNat) = some (.slice (some ⟨go49, 0, none⟩) (rd_L15 x3_4 x45_3).length c120_0) ∧ w'.cell? ⟨go49, (x50_4).toNat, none⟩ = some (.bool false) ∧ w'.cell? (ad120.add (x45_3).toNat) = some (.slice (some ⟨go49, 0, none⟩) (rd_L15 x3_4 x45_3).length c120_0) ∧ w'.cell? ⟨go49, (x40_2).toNat, none⟩ = some (.bool false)) (ds := [31]) #[false, false, false, false, false, false, false, false, false, false, false, false, false, false, false, false, false, false, false, false, false, false, false, false, false, false, false, false, false, false, false, false] (by kernel_rfl) rfl rfl ⟨hx120_0, hx121_0, hx122_0, hx126_0, hx127_0⟩ (fun hHeld => ?_); refine with_tabW calls_table.tab22 calls_table.bits22 (fun HT_ HW_ => ?_)
                     generalize wr.drew = w50 at HO_3 BK108 HB GG49 HL120_0 HL121_0 HL126_0 HQ51 HR120_0 HR121_0 HR126_0 HX120_0 HX121_0 HX126_0 hf49_0 hx120_0 hx121_0 hx122_0 hx126_0 hx127_0 hx49_0 hHeld ⊢
                     refine pure_ (i := 0) (N := some 53) (v := ?_) (a' := ?_) #[true, false, false, false, false, false, false, false, false, false, false, false, false, false, false, false, false, false, false, false, false, false, false, false, false, false, false, false, false, false, false, false] rfl rfl (any_of HT_.out (by kernel_rfl)) (fun _ _ _ h => h) (Or.inl ⟨by rfl, ?_⟩) ?_ ?_
                     rotate_left
                     ·intro w'
                      go_simp
                      with_reducible rfl
                     rotate_left
                     ·simp only [Act.put, List.setIfInBounds_toArray, List.set_cons_zero, List.set_cons_succ, i64_w, i32_w]
                      rfl
                     refine pure_ (i := 1) (N := some 54) (v := ?_) (a' := ?_) #[true, true, false, false, false, false, false, false, false, false, false, false, false, false, false, false, false, false, false, false, false, false, false, false, false, false, false, false, false, false, false, false] rfl rfl (any_of HT_.out (by kernel_rfl)) (fun _ _ _ h => h) (Or.inl ⟨by rfl, ?_⟩) ?_ ?_
                     rotate_left
                     ·intro w'
                      go_simp
                      with_reducible rfl
                     rotate_left
                     ·simp only [Act.put, List.setIfInBounds_toArray, List.set_cons_zero, List.set_cons_succ, i64_w, i32_w]
                      rfl
                     refine pure_ (i := 2) (N := some 55) (v := ?_) (a' := ?_) #[true, true, true, false, false, false, false, false, false, false, false, false, false, false, false, false, false, false, false, false, false, false, false, false, false, false, false, false, false, false, false, false] rfl rfl (any_of HT_.out (by kernel_rfl)) (fun _ _ _ h => h) (Or.inl ⟨by rfl, ?_⟩) ?_ ?_
                     rotate_left
                     ·intro w'
                      go_simp
                      with_reducible rfl
                     rotate_left
                     ·simp only [Act.put, List.setIfInBounds_toArray, List.set_cons_zero, List.set_cons_succ, i64_w, i32_w]
                      rfl
                     refine pure_ (i := 4) (N := some 57) (v := ?_) (a' := ?_) #[true, true, true, false, true, false, false, false, false, false, false, false, false, false, false, false, false, false, false, false, false, false, false, false, false, false, false, false, false, false, false, false] rfl rfl (any_of HT_.out (by kernel_rfl)) (fun _ _ _ h => h) (Or.inl ⟨by rfl, ?_⟩) ?_ ?_
                     rotate_left
                     ·intro w'
                      go_simp
                      with_reducible rfl
                     rotate_left
                     ·simp only [Act.put, List.setIfInBounds_toArray, List.set_cons_zero, List.set_cons_succ, i64_w, i32_w]
                      rfl
                     refine pure_ (i := 5) (N := some 58) (v := ?_) (a' := ?_) #[true, true, true, false, true, true, false, false, false, false, false, false, false, false, false, false, false, false, false, false, false, false, false, false, false, false, false, false, false, false, false, false] rfl rfl (any_of HT_.out (by kernel_rfl)) (fun _ _ _ h => h) (Or.inl ⟨by rfl, ?_⟩) ?_ ?_
                     rotate_left
                     ·intro w'
                      go_simp
                      with_reducible rfl
                     rotate_left
                     ·simp only [Act.put, List.setIfInBounds_toArray, List.set_cons_zero, List.set_cons_succ, i64_w, i32_w]
                      rfl
                     refine pure_ (i := 6) (N := some 59) (v := ?_) (a' := ?_) #[true, true, true, false, true, true, true, false, false, false, false, false, false, false, false, false, false, false, false, false, false, false, false, false, false, false, false, false, false, false, false, false] rfl rfl (any_of HT_.out (by kernel_rfl)) (fun _ _ _ h => h) (Or.inl ⟨by rfl, ?_⟩) ?_ ?_
                     rotate_left
                     ·intro w'
                      go_simp
                      with_reducible rfl
                     rotate_left
                     ·simp only [Act.put, List.setIfInBounds_toArray, List.set_cons_zero, List.set_cons_succ, i64_w, i32_w]
                      rfl
                     refine pure_ (i := 7) (N := some 60) (v := ?_) (a' := ?_) #[true, true, true, false, true, true, true, true, false, false, false, false, false, false, false, false, false, false, false, false, false, false, false, false, false, false, false, false, false, false, false, false] rfl rfl (any_of HT_.out (by kernel_rfl)) (fun _ _ _ h => h) (Or.inl ⟨by rfl, ?_⟩) ?_ ?_
                     rotate_left
                     ·intro w'
                      go_simp
                      with_reducible rfl
                     rotate_left
                     ·simp only [Act.put, List.setIfInBounds_toArray, List.set_cons_zero, List.set_cons_succ, i64_w, i32_w]
                      rfl
                     refine pure_ (i := 9) (N := some 62) (v := ?_) (a' := ?_) #[true, true, true, false, true, true, true, true, false, true, false, false, false, false, false, false, false, false, false, false, false, false, false, false, false, false, false, false, false, false, false, false] rfl rfl (any_of HT_.out (by kernel_rfl)) (fun _ _ _ h => h) (Or.inl ⟨by rfl, ?_⟩) ?_ ?_
                     rotate_left
                     ·intro w'
                      go_simp
                      with_reducible rfl
                     rotate_left
                     ·simp only [Act.put, List.setIfInBounds_toArray, List.set_cons_zero, List.set_cons_succ, i64_w, i32_w]
                      rfl
                     refine take_ (i := 3) (N := some 56) (v := ?_) (a' := ?_) #[true, true, true, true, true, true, true, true, false, true, false, false, false, false, false, false, false, false, false, false, false, false, false, false, false, false, false, false, false, false, false, false] rfl rfl (take_ofW HT_.out HW_.out (by kernel_rfl)) (fun _ _ _ h => h) (Or.inl ⟨by rfl, ?_⟩) hHeld ?_ ?_
                     rotate_left
                     ·rintro w' ⟨s0, s1, s2, s3, s4⟩
                      go_simp
                      with_reducible rfl
                     rotate_left
                     ·simp only [Act.put, List.setIfInBounds_toArray, List.set_cons_zero, List.set_cons_succ, i64_w, i32_w]
                      rfl
                     refine take_ (i := 8) (N := some 61) (v := ?_) (a' := ?_) #[true, true, true, true, true, true, true, true, true, true, false, false, false, false, false, false, false, false, false, false, false, false, false, false, false, false, false, false, false, false, false, false] rfl rfl (take_ofW HT_.out HW_.out (by kernel_rfl)) (fun _ _ _ h => h) (Or.inl ⟨by rfl, ?_⟩) hHeld ?_ ?_
                     rotate_left
                     ·rintro w' ⟨s0, s1, s2, s3, s4⟩
                      go_simp
                      with_reducible rfl
                     rotate_left
                     ·simp only [Act.put, List.setIfInBounds_toArray, List.set_cons_zero, List.set_cons_succ, i64_w, i32_w]
                      rfl
                     refine pure_ (i := 10) (N := some 63) (v := ?_) (a' := ?_) #[true, true, true, true, true, true, true, true, true, true, true, false, false, false, false, false, false, false, false, false, false, false, false, false, false, false, false, false, false, false, false, false] rfl rfl (any_of HT_.out (by kernel_rfl)) (fun _ _ _ h => h) (Or.inl ⟨by rfl, ?_⟩) ?_ ?_
                     rotate_left
                     ·intro w'
                      go_simp
                      with_reducible rfl
                     rotate_left
                     ·simp only [Act.put, List.setIfInBounds_toArray, List.set_cons_zero, List.set_cons_succ, i64_w, i32_w]
                      rfl
                     refine take_ (i := 11) (N := some 64) (v := ?_) (a' := ?_) #[true, true, true, true, true, true, true, true, true, true, true, true, false, false, false, false, false, false, false, false, false, false, false, false, false, false, false, false, false, false, false, false] rfl rfl (take_ofW HT_.out HW_.out (by kernel_rfl)) (fun _ _ _ h => h) (Or.inl ⟨by rfl, ?_⟩) hHeld ?_ ?_
                     rotate_left
                     ·rintro w' ⟨s0, s1, s2, s3, s4⟩
                      go_simp
                      with_reducible rfl
                     rotate_left
                     ·simp only [Act.put, List.setIfInBounds_toArray, List.set_cons_zero, List.set_cons_succ, i64_w, i32_w]
                      rfl
                     refine pure_ (i := 12) (N := some 65) (v := ?_) (a' := ?_) #[true, true, true, true, true, true, true, true, true, true, true, true, true, false, false, false, false, false, false, false, false, false, false, false, false, false, false, false, false, false, false, false] rfl rfl (any_of HT_.out (by kernel_rfl)) (fun _ _ _ h => h) (Or.inl ⟨by rfl, ?_⟩) ?_ ?_
                     rotate_left
                     ·intro w'
                      go_simp
                      with_reducible rfl
                     rotate_left
                     ·simp only [Act.put, List.setIfInBounds_toArray, List.set_cons_zero, List.set_cons_succ, i64_w, i32_w]
                      rfl
                     refine pure_ (i := 13) (N := some 66) (v := ?_) (a' := ?_) #[true, true, true, true, true, true, true, true, true, true, true, true, true, true, false, false, false, false, false, false, false, false, false, false, false, false, false, false, false, false, false, false] rfl rfl (any_of HT_.out (by kernel_rfl)) (fun _ _ _ h => h) (Or.inl ⟨by rfl, ?_⟩) ?_ ?_
                     rotate_left
                     ·intro w'
                      go_simp
                      with_reducible rfl
                     rotate_left
                     ·simp only [Act.put, List.setIfInBounds_toArray, List.set_cons_zero, List.set_cons_succ, i64_w, i32_w]
                      rfl
                     refine pure_ (i := 14) (N := some 67) (v := ?_) (a' := ?_) #[true, true, true, true, true, true, true, true, true, true, true, true, true, true, true, false, false, false, false, false, false, false, false, false, false, false, false, false, false, false, false, false] rfl rfl (any_of HT_.out (by kernel_rfl)) (fun _ _ _ h => h) (Or.inl ⟨by rfl, ?_⟩) ?_ ?_
                     rotate_left
                     ·intro w'
                      go_simp
                      with_reducible rfl
                     rotate_left
                     ·simp only [Act.put, List.setIfInBounds_toArray, List.set_cons_zero, List.set_cons_succ, i64_w, i32_w]
                      rfl
                     refine pure_ (i := 15) (N := some 68) (v := ?_) (a' := ?_) #[true, true, true, true, true, true, true, true, true, true, true, true, true, true, true, true, false, false, false, false, false, false, false, false, false, false, false, false, false, false, false, false] rfl rfl (any_of HT_.out (by kernel_rfl)) (fun _ _ _ h => h) (Or.inl ⟨by rfl, ?_⟩) ?_ ?_
                     rotate_left
                     ·intro w'
                      go_simp
                      with_reducible rfl
                     rotate_left
                     ·simp only [Act.put, List.setIfInBounds_toArray, List.set_cons_zero, List.set_cons_succ, i64_w, i32_w]
                      rfl
                     refine pure_ (i := 17) (N := some 70) (v := ?_) (a' := ?_) #[true, true, true, true, true, true, true, true, true, true, true, true, true, true, true, true, false, true, false, false, false, false, false, false, false, false, false, false, false, false, false, false] rfl rfl (any_of HT_.out (by kernel_rfl)) (fun _ _ _ h => h) (Or.inl ⟨by rfl, ?_⟩) ?_ ?_
                     rotate_left
                     ·intro w'
                      go_simp
                      with_reducible rfl
                     rotate_left
                     ·simp only [Act.put, List.setIfInBounds_toArray, List.set_cons_zero, List.set_cons_succ, i64_w, i32_w]
                      rfl
                     refine take_ (i := 16) (N := some 69) (v := ?_) (a' := ?_) #[true, true, true, true, true, true, true, true, true, true, true, true, true, true, true, true, true, true, false, false, false, false, false, false, false, false, false, false, false, false, false, false] rfl rfl (take_ofW HT_.out HW_.out (by kernel_rfl)) (fun _ _ _ h => h) (Or.inl ⟨by rfl, ?_⟩) hHeld ?_ ?_
                     rotate_left
                     ·rintro w' ⟨s0, s1, s2, s3, s4⟩
                      go_simp
                      with_reducible rfl
                     rotate_left
                     ·simp only [Act.put, List.setIfInBounds_toArray, List.set_cons_zero, List.set_cons_succ, i64_w, i32_w]
                      rfl
                     refine pure_ (i := 18) (N := some 71) (v := ?_) (a' := ?_) #[true, true, true, true, true, true, true, true, true, true, true, true, true, true, true, true, true, true, true, false, false, false, false, false, false, false, false, false, false, false, false, false] rfl rfl (any_of HT_.out (by kernel_rfl)) (fun _ _ _ h => h) (Or.inl ⟨by rfl, ?_⟩) ?_ ?_
                     rotate_left
                     ·intro w'
                      go_simp
                      with_reducible rfl
                     rotate_left
                     ·simp only [Act.put, List.setIfInBounds_toArray, List.set_cons_zero, List.set_cons_succ, i64_w, i32_w]
                      rfl
                     refine take_ (i := 19) (N := some 72) (v := ?_) (a' := ?_) #[true, true, true, true, true, true, true, true, true, true, true, true, true, true, true, true, true, true, true, true, false, false, false, false, false, false, false, false, false, false, false, false] rfl rfl (take_ofW HT_.out HW_.out (by kernel_rfl)) (fun _ _ _ h => h) (Or.inl ⟨by rfl, ?_⟩) hHeld ?_ ?_
                     rotate_left
                     ·rintro w' ⟨s0, s1, s2, s3, s4⟩
                      go_simp
                      with_reducible rfl
                     rotate_left
                     ·simp only [Act.put, List.setIfInBounds_toArray, List.set_cons_zero, List.set_cons_succ, i64_w, i32_w]
                      rfl
                     refine pure_ (i := 20) (N := some 73) (v := ?_) (a' := ?_) #[true, true, true, true, true, true, true, true, true, true, true, true, true, true, true, true, true, true, true, true, true, false, false, false, false, false, false, false, false, false, false, false] rfl rfl (any_of HT_.out (by kernel_rfl)) (fun _ _ _ h => h) (Or.inl ⟨by rfl, ?_⟩) ?_ ?_
                     rotate_left
                     ·intro w'
                      go_simp
                      with_reducible rfl
                     rotate_left
                     ·simp only [Act.put, List.setIfInBounds_toArray, List.set_cons_zero, List.set_cons_succ, i64_w, i32_w]
                      rfl
                     refine pure_ (i := 21) (N := some 74) (v := undef) (a' := ?_) #[true, true, true, true, true, true, true, true, true, true, true, true, true, true, true, true, true, true, true, true, true, true, false, false, false, false, false, false, false, false, false, false] rfl rfl (any_of HT_.out (by kernel_rfl)) (fun _ _ _ h => h) (Or.inr ⟨by rfl, rfl⟩) ?_ ?_
                     rotate_left
                     ·simp only [Act.put, List.setIfInBounds_toArray, List.set_cons_zero, List.set_cons_succ, i64_w, i32_w]
                      rfl
                     refine pure_ (i := 22) (N := some 75) (v := undef) (a' := ?_) #[true, true, true, true, true, true, true, true, true, true, true, true, true, true, true, true, true, true, true, true, true, true, true, false, false, false, false, false, false, false, false, false] rfl rfl (any_of HT_.out (by kernel_rfl)) (fun _ _ _ h => h) (Or.inr ⟨by rfl, rfl⟩) ?_ ?_
                     rotate_left
                     ·simp only [Act.put, List.setIfInBounds_toArray, List.set_cons_zero, List.set_cons_succ, i64_w, i32_w]
                      rfl
                     refine pure_ (i := 23) (N := some 76) (v := undef) (a' := ?_) #[true, true, true, true, true, true, true, true, true, true, true, true, true, true, true, true, true, true, true, true, true, true, true, true, false, false, false, false, false, false, false, false] rfl rfl (any_of HT_.out (by kernel_rfl)) (fun _ _ _ h => h) (Or.inr ⟨by rfl, rfl⟩) ?_ ?_
                     rotate_left
                     ·simp only [Act.put, List.setIfInBounds_toArray, List.set_cons_zero, List.set_cons_succ, i64_w, i32_w]
                      rfl
                     refine pure_ (i := 24) (N := some 77) (v := undef) (a' := ?_) #[true, true, true, true, true, true, true, true, true, true, true, true, true, true, true, true, true, true, true, true, true, true, true, true, true, false, false, false, false, false, false, false] rfl rfl (any_of HT_.out (by kernel_rfl)) (fun _ _ _ h => h) (Or.inr ⟨by rfl, rfl⟩) ?_ ?_
                     rotate_left
                     ·simp only [Act.put, List.setIfInBounds_toArray, List.set_cons_zero, List.set_cons_succ, i64_w, i32_w]
                      rfl
                     refine pure_ (i := 25) (N := some 78) (v := undef) (a' := ?_) #[true, true, true, true, true, true, true, true, true, true, true, true, true, true, true, true, true, true, true, true, true, true, true, true, true, true, false, false, false, false, false, false] rfl rfl (any_of HT_.out (by kernel_rfl)) (fun _ _ _ h => h) (Or.inr ⟨by rfl, rfl⟩) ?_ ?_
                     rotate_left
                     ·simp only [Act.put, List.setIfInBounds_toArray, List.set_cons_zero, List.set_cons_succ, i64_w, i32_w]
                      rfl
                     refine pure_ (i := 26) (N := some 79) (v := undef) (a' := ?_) #[true, true, true, true, true, true, true, true, true, true, true, true, true, true, true, true, true, true, true, true, true, true, true, true, true, true, true, false, false, false, false, false] rfl rfl (any_of HT_.out (by kernel_rfl)) (fun _ _ _ h => h) (Or.inr ⟨by rfl, rfl⟩) ?_ ?_
                     rotate_left
                     ·simp only [Act.put, List.setIfInBounds_toArray, List.set_cons_zero, List.set_cons_succ, i64_w, i32_w]
                      rfl
                     refine pure_ (i := 27) (N := some 80) (v := undef) (a' := ?_) #[true, true, true, true, true, true, true, true, true, true, true, true, true, true, true, true, true, true, true, true, true, true, true, true, true, true, true, true, false, false, false, false] rfl rfl (any_of HT_.out (by kernel_rfl)) (fun _ _ _ h => h) (Or.inr ⟨by rfl, rfl⟩) ?_ ?_
                     rotate_left
                     ·simp only [Act.put, List.setIfInBounds_toArray, List.set_cons_zero, List.set_cons_succ, i64_w, i32_w]
                      rfl
                     refine pure_ (i := 28) (N := some 81) (v := ?_) (a' := ?_) #[true, true, true, true, true, true, true, true, true, true, true, true, true, true, true, true, true, true, true, true, true, true, true, true, true, true, true, true, true, false, false, false] rfl rfl (any_of HT_.out (by kernel_rfl)) (fun _ _ _ h => h) (Or.inl ⟨by rfl, ?_⟩) ?_ ?_
                     rotate_left
                     ·intro w'
                      go_simp
                      with_reducible rfl
                     rotate_left
                     ·simp only [Act.put, List.setIfInBounds_toArray, List.set_cons_zero, List.set_cons_succ, i64_w, i32_w]
                      rfl
                     refine pure_ (i := 29) (N := some 82) (v := ?_) (a' := ?_) #[true, true, true, true, true, true, true, true, true, true, true, true, true, true, true, true, true, true, true, true, true, true, true, true, true, true, true, true, true, true, false, false] rfl rfl (any_of HT_.out (by kernel_rfl)) (fun _ _ _ h => h) (Or.inl ⟨by rfl, ?_⟩) ?_ ?_
                     rotate_left
                     ·intro w'
                      go_simp
                      with_reducible rfl
                     rotate_left
                     ·simp only [Act.put, List.setIfInBounds_toArray, List.set_cons_zero, List.set_cons_succ, i64_w, i32_w]
                      rfl
                     refine pure_ (i := 30) (N := some 83) (v := ?_) (a' := ?_) #[true, true, true, true, true, true, true, true, true, true, true, true, true, true, true, true, true, true, true, true, true, true, true, true, true, true, true, true, true, true, true, false] rfl rfl (any_of HT_.out (by kernel_rfl)) (fun _ _ _ h => h) (Or.inl ⟨by rfl, ?_⟩) ?_ ?_
                     rotate_left
                     ·intro w'
                      go_simp
                      with_reducible rfl
                     rotate_left
                     ·simp only [Act.put, List.setIfInBounds_toArray, List.set_cons_zero, List.set_cons_succ, i64_w, i32_w]
                      rfl
                     refine last_ (i := 31) (N := none) #[true, true, true, true, true, true, true, true, true, true, true, true, true, true, true, true, true, true, true, true, true, true, true, true, true, true, true, true, true, true, true, true] rfl rfl (one_of HT_.out (by kernel_rfl)) (by decide) (fun K hK => ?_)
                     refine skip_ (w1 := ?_) (by rfl) rfl ?_ ?_
                     rotate_left
                     ·go_simp
                      rfl
                     refine hK.out _ _ ?_
                     clear hK K
                     refine done_ (done_of HT_.out (by kernel_rfl)) ?_
                     try go_wp2
                     (try simp only [← hl3_4])
                     go_roundg k4
                     case measure => have := HK1.out; have := HK2.out; have := HK3.out; have := HK4.out; omega
                     case rel => exact ⟨(y135), (wrap64 (x50_4 + 1)), (by first | rfl | (simp; done) | (simp [*]; done)), H', ⟨by have := HK1.out; have := HK2.out; have := HK3.out; have := HK4.out; omega⟩, ⟨by (try simp only [hl3_2]); (try simp only [hl3_3]); (try simp only [hl3_4]); (with_reducible repeat (first | apply Kd.S_alloc | apply Kd.S_drewN | apply Kd.S_drew)); exact HQ51.out⟩, ⟨by (try simp only [hl3_2]); (try simp only [hl3_3]); (try simp only [hl3_4]); (with_reducible repeat (first | refine blk_drewN ?_ _ | refine blk_drew ?_ | refine blk_alloc ?_ _)); refine blk_far ?_ (by have h_ := Kd.R_ne HL120_0.out BK108.out (by decide); intro e_; exact h_ (by rw [e_]; rfl)) _; (with_reducible repeat (first | refine blk_drewN ?_ _ | refine blk_drew ?_ | refine blk_alloc ?_ _)); exact BK108.out⟩, ⟨by repeat (first | (with_reducible first | exact HB.out | apply below_alloc | apply pw_below_drewN | apply below_drew1 | refine below_set ?_ GB49.out | refine below_set ?_ GE108.out) | exact HB.out)⟩⟩
                   ·rw [if_neg c40] at H
                    exact absurd H (by simp)
                  ·rw [if_neg c39] at H
                   exact absurd H (by simp)
                ·rw [if_neg c32] at H
                 exact absurd H (by simp)
               ·rw [if_neg c31] at H
                exact absurd H (by simp)
              ·rw [if_neg c30] at H
               exact absurd H (by simp)
             ·rw [if_neg c29] at H
              exact absurd H (by simp)
            ·rw [if_neg c28] at H
             have c28b0 : decide (x50_4 < (x3_3.length : Int)) = false := decide_eq_false c28
             have c28b0z := c28b0
             (try simp only [hl3_2, hl3_3, hl3_4] at c28b0z)
             clear c28
             have H' := Aside0.mk H
             clear H
             go_wp2
             (try simp only [← hl3_3, ← hl3_4])
             go_roundg k4
             case measure => have := HK1.out; have := HK2.out; have := HK3.out; have := HK4.out; omega
             case rel => exact ⟨(x3_4), (wrap64 (x45_3 + 1)), (by first | rfl | (simp; done) | (simp [*]; done)), H', ⟨by have := HK1.out; have := HK2.out; have := HK3.out; have := HK4.out; omega⟩, ⟨by (try simp only [hl3_2]); (try simp only [hl3_3]); (try simp only [hl3_4]); (with_reducible repeat (first | apply Kd.S_alloc | apply Kd.S_drewN | apply Kd.S_drew)); exact HO_3.out⟩, ⟨by (try simp only [hl3_2]); (try simp only [hl3_3]); (try simp only [hl3_4]); (with_reducible repeat (first | refine blk_drewN ?_ _ | refine blk_drew ?_ | refine blk_alloc ?_ _)); exact BK108.out⟩, ⟨by repeat (first | (with_reducible first | exact HB.out | apply below_alloc | apply pw_below_drewN | apply below_drew1 | refine below_set ?_ GE108.out) | exact HB.out)⟩⟩
         ·rw [if_neg c27] at H
          have c27b0 : decide (x45_3 < (x3_2.length : Int)) = false := decide_eq_false c27
          have c27b0z := c27b0
          (try simp only [hl3_2, hl3_3] at c27b0z)
          clear c27
          have H' := Aside0.mk H
          clear H
          go_wp2
          (try simp only [← hl3_2, ← hl3_3])
          go_roundg k3
          case measure => have := HK1.out; have := HK2.out; have := HK3.out; omega
          case rel => exact ⟨(x3_3), (wrap64 (x40_2 + 1)), (by first | rfl | (simp; done) | (simp [*]; done)), H', ⟨by have := HK1.out; have := HK2.out; have := HK3.out; omega⟩, ⟨by (try simp only [hl3_2]); (try simp only [hl3_3]); (with_reducible repeat (first | apply Kd.S_alloc | apply Kd.S_drewN | apply Kd.S_drew)); exact HO_3.out⟩, ⟨by (try simp only [hl3_2]); (try simp only [hl3_3]); (with_reducible repeat (first | refine blk_drewN ?_ _ | refine blk_drew ?_ | refine blk_alloc ?_ _)); exact BK108.out⟩, ⟨by repeat (first | (with_reducible first | exact HB.out | apply below_alloc | apply pw_below_drewN | apply below_drew1 | refine below_set ?_ GE108.out) | exact HB.out)⟩⟩
      ·rw [if_neg c26] at H
       have c26b0 : decide (x40_2 < (x3_1.length : Int)) = false := decide_eq_false c26
       have c26b0z := c26b0
       (try simp only [hl3_2] at c26b0z)
       clear c26
       obtain rfl := Option.some.inj H
       go_wp2
       go_ret
       exact ⟨_, by first | rfl | (simp [errW_none, errW_some] <;> rfl) | (simp [*, errW_none, errW_some] <;> rfl), by (with_reducible repeat (first | apply Kd.S_alloc | apply Kd.S_drewN | apply Kd.S_drew)); exact HO_3.out, by repeat (first | (with_reducible first | exact HB.out | apply below_alloc | apply pw_below_drewN | apply below_drew1 | refine below_set ?_ GE108.out) | exact HB.out)⟩
end
end Go.Proofs.Ytjjcnbfmmhokeaa.X
namespace Go.Proofs.Ytjjcnbfmmhokeaa.X
open Go.RowKit Go.Proofs.YtjjcnbfmmhokeaaW.PrintWords Go.Proofs.YtjjcnbfmmhokeaaW.PrintLast Go.Proofs.YtjjcnbfmmhokeaaW.PrintMore
attribute [local go_sem] max2_int min2_int max_two min_two max_three min_three max_four min_four
set_option linter.all false
noncomputable section
def calls_Comes.f (k : Nat) (l0_0 : List (S33)) (a1 : Int) (a2 : Int) : Option (Bool) := if a1 < 0 then (some false) else (if a1 ≥ (l0_0.length : Int) then (some false) else (if a2 < 0 then (some false) else (if a2 ≥ (l0_0.length : Int) then (some false) else ((calls_table.f k l0_0).bind fun t137 => (if 0 ≤ a1 then (if a1 < (t137.length : Int) then (if 0 ≤ a2 then (if a2 < ((rd_L15 t137 a1).length : Int) then (some (rdOf false (rd_L15 t137 a1) a2)) else (none)) else (none)) else (none)) else (none))))))
theorem calls_Comes.mono : ∀ a0 a1 a2 k, LeO (calls_Comes.f k a0 a1 a2) (calls_Comes.f (k + 1) a0 a1 a2) := by
 intro a0 a1 a2 k
 unfold calls_Comes.f
 repeat' first
   | (with_reducible exact calls_table.mono _ _)
   | (with_reducible exact LeO.refl _)
   | (with_reducible exact LeO.none _)
   | (with_reducible refine LeO.ite ?_ ?_)
   | (with_reducible refine LeO.bind ?_ (fun _ => ?_))
   | exact calls_table.mono _ _
   | exact LeO.none _
   | refine LeO.ite ?_ ?_
   | refine LeO.bind ?_ (fun _ => ?_)
set_option maxHeartbeats 8000000 in
set_option maxRecDepth 100000 in
theorem calls_Comes.calls (k : Nat) (A0_0 : Option Addr) (c0_0 : Nat) (l0_0 : List (S33)) (a1 : Int) (a2 : Int) (r : Bool) (w : World) (hr0_0 : Kd.C k33 w A0_0 l0_0.length l0_0) (hc0_0 : l0_0.length ≤ c0_0) (h : calls_Comes.f k l0_0 a1 a2 = some r) :
  Calls Try.prog 9 #[.agg #[.slice A0_0 l0_0.length c0_0], .int .i64 a1, .int .i64 a2] w fun e w' => e = .returned (.bool r) ∧ Below w.heap.size w w' := by
 have hu24 := Try.underlying24
 have HR0_0 := Aside0.mk hr0_0
 have HC0_0 := Aside0.mk hc0_0
 clear hr0_0 hc0_0
 have HB := Aside0.mk (Below.refl w.heap.size w)
 have H : (if a1 < 0 then (some false) else (if a1 ≥ (l0_0.length : Int) then (some false) else (if a2 < 0 then (some false) else (if a2 ≥ (l0_0.length : Int) then (some false) else ((calls_table.f k l0_0).bind fun t137 => (if 0 ≤ a1 then (if a1 < (t137.length : Int) then (if 0 ≤ a2 then (if a2 < ((rd_L15 t137 a1).length : Int) then (some (rdOf false (rd_L15 t137 a1) a2)) else (none)) else (none)) else (none)) else (none))))))) = some r := h
 clear h
 by_cases c4 : a1 < 0
 ·rw [if_pos c4] at H
  have c4b0 : decide (a1 < 0) = true := decide_eq_true c4
  clear c4
  obtain rfl := Option.some.inj H
  go_enter Try.func9, Try.ntmps9
  go_wp2_with (first | ((with_reducible refine gate_dst (N := 3) rfl ?_); (try (refine gate_guard (by rfl) ?_; dsimp only)); refine box_event ?hg (N := 3) ?hd (cs := #[.slice A0_0 l0_0.length c0_0]) (t := 24) ?hr ?_; (case hd => rfl); (case hg => rfl); (case hr => first | (go_simp; done) | (go_simp; rfl)); intro gb136 hg w5 hbox hb; have n0_ := Aside0.mk (below_step (by repeat (first | (with_reducible first | exact HB.out | apply below_alloc | apply pw_below_drewN | apply below_drew1) | exact HB.out)) hb); have n1_ := Aside0.mk (hbox); have n2_ := Aside0.mk ((by rw [hg]; exact (below_size (by repeat (first | (with_reducible first | exact HB.out | apply below_alloc | apply pw_below_drewN | apply below_drew1) | exact HB.out))) : w.heap.size ≤ gb136)); have n3_ := Aside0.mk ((by rw [hg]; exact (below_size (by repeat (first | (with_reducible first | exact HB.out | apply below_alloc | apply pw_below_drewN | apply below_drew1) | exact HB.out))) : w.heap.size ≤ gb136)); clear HB; have HB := n0_; have BK136 := n1_; have GW136 := n2_; have GE136 := n3_; clear n0_ n1_ n2_ n3_; clear hb hbox hg))
  go_ret
  exact ⟨by first | rfl | (simp [errW_none, errW_some] <;> rfl) | (simp [*, errW_none, errW_some] <;> rfl), by repeat (first | (with_reducible first | exact HB.out | apply below_alloc | apply pw_below_drewN | apply below_drew1 | refine below_set ?_ GE136.out) | exact HB.out)⟩
 ·rw [if_neg c4] at H
  have c4b0 : decide (a1 < 0) = false := decide_eq_false c4
  clear c4
  by_cases c6 : a1 ≥ (l0_0.length : Int)
  ·rw [if_pos c6] at H
   have c6b0 : decide ((l0_0.length : Int) ≤ a1) = true := decide_eq_true c6
   clear c6
   obtain rfl := Option.some.inj H
   go_enter Try.func9, Try.ntmps9
   go_wp2_with (first | ((with_reducible refine gate_dst (N := 3) rfl ?_); (try (refine gate_guard (by rfl) ?_; dsimp only)); refine box_event ?hg (N := 3) ?hd (cs := #[.slice A0_0 l0_0.length c0_0]) (t := 24) ?hr ?_; (case hd => rfl); (case hg => rfl); (case hr => first | (go_simp; done) | (go_simp; rfl)); intro gb136 hg w7 hbox hb; have n0_ := Aside0.mk (below_step (by repeat (first | (with_reducible first | exact HB.out | apply below_alloc | apply pw_below_drewN | apply below_drew1) | exact HB.out)) hb); have n1_ := Aside0.mk (hbox); have n2_ := Aside0.mk ((by rw [hg]; exact (below_size (by repeat (first | (with_reducible first | exact HB.out | apply below_alloc | apply pw_below_drewN | apply below_drew1) | exact HB.out))) : w.heap.size ≤ gb136)); have n3_ := Aside0.mk ((by rw [hg]; exact (below_size (by repeat (first | (with_reducible first | exact HB.out | apply below_alloc | apply pw_below_drewN | apply below_drew1) | exact HB.out))) : w.heap.size ≤ gb136)); clear HB; have HB := n0_; have BK136 := n1_; have GW136 := n2_; have GE136 := n3_; clear n0_ n1_ n2_ n3_; clear hb hbox hg; have hcz8_0 : w7.cell? ⟨gb136, 0, none⟩ = some (.slice A0_0 l0_0.length c0_0) := (blk_cell BK136.out 0).trans rfl; have hfz8_0 := blk_frozen BK136.out 0))
   go_ret
   exact ⟨by first | rfl | (simp [errW_none, errW_some] <;> rfl) | (simp [*, errW_none, errW_some] <;> rfl), by repeat (first | (with_reducible first | exact HB.out | apply below_alloc | apply pw_below_drewN | apply below_drew1 | refine below_set ?_ GE136.out) | exact HB.out)⟩
  ·rw [if_neg c6] at H
   have c6b0 : decide ((l0_0.length : Int) ≤ a1) = false := decide_eq_false c6
   clear c6
   by_cases c9 : a2 < 0
   ·rw [if_pos c9] at H
    have c9b0 : decide (a2 < 0) = true := decide_eq_true c9
    clear c9
    obtain rfl := Option.some.inj H
    go_enter Try.func9, Try.ntmps9
    go_wp2_with (first | ((with_reducible refine gate_dst (N := 3) rfl ?_); (try (refine gate_guard (by rfl) ?_; dsimp only)); refine box_event ?hg (N := 3) ?hd (cs := #[.slice A0_0 l0_0.length c0_0]) (t := 24) ?hr ?_; (case hd => rfl); (case hg => rfl); (case hr => first | (go_simp; done) | (go_simp; rfl)); intro gb136 hg w10 hbox hb; have n0_ := Aside0.mk (below_step (by repeat (first | (with_reducible first | exact HB.out | apply below_alloc | apply pw_below_drewN | apply below_drew1) | exact HB.out)) hb); have n1_ := Aside0.mk (hbox); have n2_ := Aside0.mk ((by rw [hg]; exact (below_size (by repeat (first | (with_reducible first | exact HB.out | apply below_alloc | apply pw_below_drewN | apply below_drew1) | exact HB.out))) : w.heap.size ≤ gb136)); have n3_ := Aside0.mk ((by rw [hg]; exact (below_size (by repeat (first | (with_reducible first | exact HB.out | apply below_alloc | apply pw_below_drewN | apply below_drew1) | exact HB.out))) : w.heap.size ≤ gb136)); clear HB; have HB := n0_; have BK136 := n1_; have GW136 := n2_; have GE136 := n3_; clear n0_ n1_ n2_ n3_; clear hb hbox hg; have hcz11_0 : w10.cell? ⟨gb136, 0, none⟩ = some (.slice A0_0 l0_0.length c0_0) := (blk_cell BK136.out 0).trans rfl; have hfz11_0 := blk_frozen BK136.out 0))
    go_ret
    exact ⟨by first | rfl | (simp [errW_none, errW_some] <;> rfl) | (simp [*, errW_none, errW_some] <;> rfl), by repeat (first | (with_reducible first | exact HB.out | apply below_alloc | apply pw_below_drewN | apply below_drew1 | refine below_set ?_ GE136.out) | exact HB.out)⟩
   ·rw [if_neg c9] at H
    have c9b0 : decide (a2 < 0) = false := decide_eq_false c9
    clear c9
    by_cases c12 : a2 ≥ (l0_0.length : Int)
    ·rw [if_pos c12] at H
     have c12b0 : decide ((l0_0.length : Int) ≤ a2) = true := decide_eq_true c12
     clear c12
     obtain rfl := Option.some.inj H
     go_enter Try.func9, Try.ntmps9
     go_wp2_with (first | ((with_reducible refine gate_dst (N := 3) rfl ?_); (try (refine gate_guard (by rfl) ?_; dsimp only)); refine box_event ?hg (N := 3) ?hd (cs := #[.slice A0_0 l0_0.length c0_0]) (t := 24) ?hr ?_; (case hd => rfl); (case hg => rfl); (case hr => first | (go_simp; done) | (go_simp; rfl)); intro gb136 hg w13 hbox hb; have n0_ := Aside0.mk (below_step (by repeat (first | (with_reducible first | exact HB.out | apply below_alloc | apply pw_below_drewN | apply below_drew1) | exact HB.out)) hb); have n1_ := Aside0.mk (hbox); have n2_ := Aside0.mk ((by rw [hg]; exact (below_size (by repeat (first | (with_reducible first | exact HB.out | apply below_alloc | apply pw_below_drewN | apply below_drew1) | exact HB.out))) : w.heap.size ≤ gb136)); have n3_ := Aside0.mk ((by rw [hg]; exact (below_size (by repeat (first | (with_reducible first | exact HB.out | apply below_alloc | apply pw_below_drewN | apply below_drew1) | exact HB.out))) : w.heap.size ≤ gb136)); clear HB; have HB := n0_; have BK136 := n1_; have GW136 := n2_; have GE136 := n3_; clear n0_ n1_ n2_ n3_; clear hb hbox hg; have hcz14_0 : w13.cell? ⟨gb136, 0, none⟩ = some (.slice A0_0 l0_0.length c0_0) := (blk_cell BK136.out 0).trans rfl; have hfz14_0 := blk_frozen BK136.out 0))
     go_ret
     exact ⟨by first | rfl | (simp [errW_none, errW_some] <;> rfl) | (simp [*, errW_none, errW_some] <;> rfl), by repeat (first | (with_reducible first | exact HB.out | apply below_alloc | apply pw_below_drewN | apply below_drew1 | refine below_set ?_ GE136.out) | exact HB.out)⟩
    ·rw [if_neg c12] at H
     have c12b0 : decide ((l0_0.length : Int) ≤ a2) = false := decide_eq_false c12
     clear c12
     replace H := Option.bind_eq_some_iff.mp H
     obtain ⟨t137, A150, H⟩ := H
     replace H : (if 0 ≤ a1 then (if a1 < (t137.length : Int) then (if 0 ≤ a2 then (if a2 < ((rd_L15 t137 a1).length : Int) then (some (rdOf false (rd_L15 t137 a1) a2)) else (none)) else (none)) else (none)) else (none)) = some r := H
     have A15 := Aside0.mk A150
     clear A150
     by_cases c16 : 0 ≤ a1
     ·rw [if_pos c16] at H
      have c16b0 : decide (0 ≤ a1) = true := decide_eq_true c16
      clear c16
      by_cases c17 : a1 < (t137.length : Int)
      ·rw [if_pos c17] at H
       have c17b0 : decide (a1 < (t137.length : Int)) = true := decide_eq_true c17
       clear c17
       by_cases c18 : 0 ≤ a2
       ·rw [if_pos c18] at H
        have c18b0 : decide (0 ≤ a2) = true := decide_eq_true c18
        clear c18
        by_cases c19 : a2 < ((rd_L15 t137 a1).length : Int)
        ·rw [if_pos c19] at H
         have c19b0 : decide (a2 < ((rd_L15 t137 a1).length : Int)) = true := decide_eq_true c19
         clear c19
         obtain rfl := Option.some.inj H
         go_enter Try.func9, Try.ntmps9
         go_wp2_with (first | ((with_reducible refine gate_dst (N := 3) rfl ?_); (try (refine gate_guard (by rfl) ?_; dsimp only)); refine box_event ?hg (N := 3) ?hd (cs := #[.slice A0_0 l0_0.length c0_0]) (t := 24) ?hr ?_; (case hd => rfl); (case hg => rfl); (case hr => first | (go_simp; done) | (go_simp; rfl)); intro gb136 hg w20 hbox hb; have n0_ := Aside0.mk (below_step (by repeat (first | (with_reducible first | exact HB.out | apply below_alloc | apply pw_below_drewN | apply below_drew1) | exact HB.out)) hb); have n1_ := Aside0.mk (hbox); have n2_ := Aside0.mk ((by rw [hg]; exact (below_size (by repeat (first | (with_reducible first | exact HB.out | apply below_alloc | apply pw_below_drewN | apply below_drew1) | exact HB.out))) : w.heap.size ≤ gb136)); have n3_ := Aside0.mk ((by rw [hg]; exact (below_size (by repeat (first | (with_reducible first | exact HB.out | apply below_alloc | apply pw_below_drewN | apply below_drew1) | exact HB.out))) : w.heap.size ≤ gb136)); clear HB; have HB := n0_; have BK136 := n1_; have GW136 := n2_; have GE136 := n3_; clear n0_ n1_ n2_ n3_; clear hb hbox hg; have hcz21_0 : w20.cell? ⟨gb136, 0, none⟩ = some (.slice A0_0 l0_0.length c0_0) := (blk_cell BK136.out 0).trans rfl; have hfz21_0 := blk_frozen BK136.out 0) | ((with_reducible refine gate_callee (f := 18) rfl ?_); refine goesL_ (some 28) rfl rfl Try.func18 (by kernel_rfl) rfl #[.agg #[.slice A0_0 l0_0.length c0_0]] rfl (by (try simp only [List.map_toArray, List.map_cons, List.map_nil]); first | done | rfl | (simp only [List.length_drop, List.length_take]; rfl)) ?_; (with_reducible refine (calls_table.calls k _ _ l0_0 t137 _ ?side1 ?side2 A15.out).mono ?_); (case side1 => repeat (first | exact (Kd.C_below HR0_0.out HB.out) | (with_reducible refine Kd.C_alloc ?_ _) | (with_reducible refine Kd.C_drewN ?_ _) | (with_reducible refine Kd.C_drew ?_))); (case side2 => exact HC0_0.out); rintro e w22 ⟨v138, rfl, ho0, hb⟩; refine ⟨_, rfl, ?_⟩; have n0_ := Aside0.mk (Kd.S_lower ho0 (below_size (by repeat (first | (with_reducible first | exact HB.out | apply below_alloc | apply pw_below_drewN | apply below_drew1 | refine below_set ?_ GE136.out) | exact HB.out)))); have n1_ := Aside0.mk (blk_below (g := gb136) (o := .cells #[.slice A0_0 l0_0.length c0_0] 24 (0, 0)) (by (with_reducible repeat (first | refine blk_drewN ?_ _ | refine blk_drew ?_ | refine blk_alloc ?_ _)); exact BK136.out) hb); have n2_ := Aside0.mk (below_step (by repeat (first | (with_reducible first | exact HB.out | apply below_alloc | apply pw_below_drewN | apply below_drew1 | refine below_set ?_ GE136.out) | exact HB.out)) hb); clear BK136; clear HB; have HO139 := n0_; have BK136 := n1_; have HB := n2_; clear n0_ n1_ n2_; (try clear hb); (try clear hb2); (try clear hk); (try clear hi); (try clear ho0); obtain ⟨Ao23, co23, eo23⟩ := Kd.S_slice HO139.out; subst eo23; have p140 : 0 ≤ (a1 : Int) := of_decide_eq_true (by first | (with_reducible assumption) | assumption); have q140 : a1 < (t137.length : Int) := of_decide_eq_true (by first | (with_reducible assumption) | assumption); obtain ⟨ad140, A140_0, c140_0, e140, hx140_0, hl140_0, hi140_0⟩ := at_L15 (Kd.S_reads' HO139.out).2.2 a1 p140 q140; cases e140; obtain ⟨ce140, hce140, hMe140, hcc140⟩ := Kd.S_get HO139.out [] a1 p140 (by first | exact q140 | exact of_decide_eq_true (by first | (with_reducible assumption) | assumption) | (have e_ := (Kd.S_reads' HO139.out).1; omega)); obtain ⟨ve140_0, rfl, ge140_0⟩ := hMe140; have hv140_0 := hcc140 0 _ rfl; rw [Nat.add_zero, show ((Kd.slice 4 Kd.bool)).sz = 1 from rfl, Nat.mul_one] at hv140_0; replace hv140_0 := Option.some.inj (hv140_0.symm.trans hx140_0); rw [hv140_0] at ge140_0; have HL140_0 := Aside0.mk (show Kd.R Kd.bool 4 _ _ _ _ (rd_L15 t137 a1) from ge140_0); clear hv140_0 ge140_0; clear hcc140 hce140; have HR140_0 := Aside0.mk hi140_0; have HC140_0 := Aside0.mk hl140_0; clear hi140_0 hl140_0; replace p140 := eq_true p140; replace q140 := eq_true q140; have p141 : 0 ≤ (a2 : Int) := of_decide_eq_true (by first | (with_reducible assumption) | assumption); have q141 : a2 < ((rd_L15 t137 a1).length : Int) := of_decide_eq_true (by first | (with_reducible assumption) | assumption); obtain ⟨ad141, e141, hx141_0⟩ := Kd.at_bool (by repeat (first | (with_reducible exact HR140_0.out) | (with_reducible refine Kd.C_alloc ?_ _) | (with_reducible refine Kd.C_drewN ?_ _) | (with_reducible refine Kd.C_drew ?_) | exact HR140_0.out)) a2 p141 q141; cases e141; replace p141 := eq_true p141; replace q141 := eq_true q141))
         go_ret
         exact ⟨by first | rfl | (simp [errW_none, errW_some] <;> rfl) | (simp [*, errW_none, errW_some] <;> rfl), by repeat (first | (with_reducible first | exact HB.out | apply below_alloc | apply pw_below_drewN | apply below_drew1 | refine below_set ?_ GE136.out) | exact HB.out)⟩
        ·rw [if_neg c19] at H
         exact absurd H (by simp)
       ·rw [if_neg c18] at H
        exact absurd H (by simp)
      ·rw [if_neg c17] at H
       exact absurd H (by simp)
     ·rw [if_neg c16] at H
      exact absurd H (by simp)
end
end Go.Proofs.Ytjjcnbfmmhokeaa.X
namespace Go.Proofs.Ytjjcnbfmmhokeaa.X
open Go.RowKit Go.Proofs.YtjjcnbfmmhokeaaW.PrintWords Go.Proofs.YtjjcnbfmmhokeaaW.PrintLast Go.Proofs.YtjjcnbfmmhokeaaW.PrintMore
attribute [local go_sem] max2_int min2_int max_two min_two max_three min_three max_four min_four
set_option linter.all false
noncomputable section
def davitref07_Has.l0 : Nat → List Int → Int → Int → Option (Bool)
 | 0, _, _, _ => none
 | k + 1, x0, x1, x5 => if x5 < (x0.length : Int) then (if 0 ≤ x5 then (if (rd x0 x5) = x1 then (some true) else (davitref07_Has.l0 k x0 x1 (wrap64 (x5 + 1)))) else (none)) else (some false)
def davitref07_Has.f (k : Nat) (l0 : List Int) (a1 : Int) : Option (Bool) := davitref07_Has.l0 k l0 a1 0
theorem davitref07_Has.mono_l : ∀ k, (∀ y0 y1 y2, LeO (davitref07_Has.l0 k y0 y1 y2) (davitref07_Has.l0 (k + 1) y0 y1 y2))
 | 0 => fun _ _ _ r h => by simp [davitref07_Has.l0] at h
 | k + 1 => by
  have ih0 := davitref07_Has.mono_l k
  ·intro y0 y1 y2
   unfold davitref07_Has.l0
   repeat' first
   | (with_reducible exact ih0 _ _ _)
   | (with_reducible exact LeO.refl _)
   | (with_reducible exact LeO.none _)
   | (with_reducible refine LeO.ite ?_ ?_)
   | (with_reducible refine LeO.bind ?_ (fun _ => ?_))
   | exact ih0 _ _ _
   | exact LeO.none _
   | refine LeO.ite ?_ ?_
   | refine LeO.bind ?_ (fun _ => ?_)
theorem davitref07_Has.mono : ∀ a0 a1 k, LeO (davitref07_Has.f k a0 a1) (davitref07_Has.f (k + 1) a0 a1) := by
 intro a0 a1 k
 have ih0 := davitref07_Has.mono_l k
 unfold davitref07_Has.f
 repeat' first
   | (with_reducible exact ih0 _ _ _)
   | (with_reducible exact LeO.refl _)
   | (with_reducible exact LeO.none _)
   | (with_reducible refine LeO.ite ?_ ?_)
   | (with_reducible refine LeO.bind ?_ (fun _ => ?_))
   | exact ih0 _ _ _
   | exact LeO.none _
   | refine LeO.ite ?_ ?_
   | refine LeO.bind ?_ (fun _ => ?_)
set_option maxHeartbeats 8000000 in
set_option maxRecDepth 100000 in
theorem davitref07_Has.calls (k : Nat) (A0 : Option Addr) (c0 : Nat) (l0 : List Int) (a1 : Int) (r : Bool) (w : World) (hr0 : Kd.C (Kd.int .i64) w A0 l0.length l0) (hc0 : l0.length ≤ c0) (h : davitref07_Has.f k l0 a1 = some r) :
  Calls Try.prog 10 #[.slice A0 l0.length c0, .int .i64 a1] w fun e w' => e = .returned (.bool r) ∧ Drawn0 w w' := by
 have HR0 := Aside0.mk hr0
 have HC0 := Aside0.mk hc0
 clear hr0 hc0
 have H : (davitref07_Has.l0 k l0 a1 0) = some r := h
 clear h
 have H' := Aside0.mk H
 clear H
 go_enter Try.func10, Try.ntmps10
 go_wp2
 go_loopg [5] k (fun kq v5 w' => ∃ (x5_1 : Int), v5 = .int .i64 x5_1 ∧ Aside0 (davitref07_Has.l0 kq l0 a1 x5_1 = some r) ∧ Aside0 (kq ≤ k) ∧ Drawn0 w w')
 case atStart => exact ⟨(0), (by first | rfl | (simp; done) | (simp [*]; done)), H', ⟨Nat.le_refl _⟩, by repeat (first | exact Drawn0.refl _ | apply Drawn0.step)⟩
 case round =>
  clear H'
  try clear c1
  try clear p2
  obtain ⟨x5_1, rfl, HA, HK1, ⟨m1, rfl⟩⟩ := hrel
  cases gk with
  | zero => exact absurd HA.out (by simp [davitref07_Has.l0])
  | succ k1 =>
   have H := HA.out
   clear HA
   simp only [davitref07_Has.l0] at H
   by_cases c3 : x5_1 < (l0.length : Int)
   ·rw [if_pos c3] at H
    have c3b0 : decide (x5_1 < (l0.length : Int)) = true := decide_eq_true c3
    clear c3
    by_cases c4 : 0 ≤ x5_1
    ·rw [if_pos c4] at H
     have c4b0 : decide (0 ≤ x5_1) = true := decide_eq_true c4
     clear c4
     by_cases c5 : (rd l0 x5_1) = a1
     ·rw [if_pos c5] at H
      have c5b0 : ((rd l0 x5_1) == a1) = true := beq_iff_eq.mpr c5
      have c5b1 : ((rd l0 x5_1) != a1) = false := bne_eq_false_iff_eq.mpr c5
      clear c5
      obtain rfl := Option.some.inj H
      have p142 : 0 ≤ (x5_1 : Int) := of_decide_eq_true (by first | (with_reducible assumption) | assumption)
      have q142 : x5_1 < (l0.length : Int) := of_decide_eq_true (by first | (with_reducible assumption) | assumption)
      obtain ⟨ad142, e142, hx142_0⟩ := Kd.at_int HR0.out x5_1 p142 q142
      cases e142
      replace p142 := eq_true p142
      replace q142 := eq_true q142
      go_wp2
      go_ret
      exact ⟨by first | rfl | (simp; done) | (simp [*]; done), by repeat (first | exact Drawn0.refl _ | apply Drawn0.step)⟩
     ·rw [if_neg c5] at H
      have c5b0 : ((rd l0 x5_1) == a1) = false := beq_eq_false_iff_ne.mpr c5
      have c5b1 : ((rd l0 x5_1) != a1) = true := bne_iff_ne.mpr c5
      have H' := Aside0.mk H
      clear H
      have p142 : 0 ≤ (x5_1 : Int) := of_decide_eq_true (by first | (with_reducible assumption) | assumption)
      have q142 : x5_1 < (l0.length : Int) := of_decide_eq_true (by first | (with_reducible assumption) | assumption)
      obtain ⟨ad142, e142, hx142_0⟩ := Kd.at_int HR0.out x5_1 p142 q142
      cases e142
      replace p142 := eq_true p142
      replace q142 := eq_true q142
      go_wp2
      go_roundg k1
      case measure => have := HK1.out; omega
      case rel => exact ⟨(wrap64 (x5_1 + 1)), (by first | rfl | (simp; done) | (simp [*]; done)), H', ⟨by have := HK1.out; omega⟩, by repeat (first | exact Drawn0.refl _ | apply Drawn0.step)⟩
    ·rw [if_neg c4] at H
     exact absurd H (by simp)
   ·rw [if_neg c3] at H
    have c3b0 : decide (x5_1 < (l0.length : Int)) = false := decide_eq_false c3
    clear c3
    obtain rfl := Option.some.inj H
    go_wp2
    go_ret
    exact ⟨by first | rfl | (simp; done) | (simp [*]; done), by repeat (first | exact Drawn0.refl _ | apply Drawn0.step)⟩
end
end Go.Proofs.Ytjjcnbfmmhokeaa.X
namespace Go.Proofs.Ytjjcnbfmmhokeaa.X
open Go.RowKit Go.Proofs.YtjjcnbfmmhokeaaW.PrintWords Go.Proofs.YtjjcnbfmmhokeaaW.PrintLast Go.Proofs.YtjjcnbfmmhokeaaW.PrintMore
attribute [local go_sem] max2_int min2_int max_two min_two max_three min_three max_four min_four
set_option linter.all false
noncomputable section
def davitref02_Ints.l0 : Nat → List Int → List Int → Int → Option (Bool)
 | 0, _, _, _ => none
 | k + 1, x0, x1, x5 => if x5 < (x0.length : Int) then (if 0 ≤ x5 then (if x5 < (x1.length : Int) then (if (rd x0 x5) = (rd x1 x5) then (davitref02_Ints.l0 k x0 x1 (wrap64 (x5 + 1))) else (some false)) else (none)) else (none)) else (some true)
def davitref02_Ints.f (k : Nat) (l0 : List Int) (l1 : List Int) : Option (Bool) := if (l0.length : Int) = (l1.length : Int) then (davitref02_Ints.l0 k l0 l1 0) else (some false)
theorem davitref02_Ints.mono_l : ∀ k, (∀ y0 y1 y2, LeO (davitref02_Ints.l0 k y0 y1 y2) (davitref02_Ints.l0 (k + 1) y0 y1 y2))
 | 0 => fun _ _ _ r h => by simp [davitref02_Ints.l0] at h
 | k + 1 => by
  have ih0 := davitref02_Ints.mono_l k
  ·intro y0 y1 y2
   unfold davitref02_Ints.l0
   repeat' first
   | (with_reducible exact ih0 _ _ _)
   | (with_reducible exact LeO.refl _)
   | (with_reducible exact LeO.none _)
   | (with_reducible refine LeO.ite ?_ ?_)
   | (with_reducible refine LeO.bind ?_ (fun _ => ?_))
   | exact ih0 _ _ _
   | exact LeO.none _
   | refine LeO.ite ?_ ?_
   | refine LeO.bind ?_ (fun _ => ?_)
theorem davitref02_Ints.mono : ∀ a0 a1 k, LeO (davitref02_Ints.f k a0 a1) (davitref02_Ints.f (k + 1) a0 a1) := by
 intro a0 a1 k
 have ih0 := davitref02_Ints.mono_l k
 unfold davitref02_Ints.f
 repeat' first
   | (with_reducible exact ih0 _ _ _)
   | (with_reducible exact LeO.refl _)
   | (with_reducible exact LeO.none _)
   | (with_reducible refine LeO.ite ?_ ?_)
   | (with_reducible refine LeO.bind ?_ (fun _ => ?_))
   | exact ih0 _ _ _
   | exact LeO.none _
   | refine LeO.ite ?_ ?_
   | refine LeO.bind ?_ (fun _ => ?_)
set_option maxHeartbeats 8000000 in
set_option maxRecDepth 100000 in
theorem davitref02_Ints.calls (k : Nat) (A0 : Option Addr) (c0 : Nat) (l0 : List Int) (A1 : Option Addr) (c1 : Nat) (l1 : List Int) (r : Bool) (w : World) (hr0 : Kd.C (Kd.int .i64) w A0 l0.length l0) (hc0 : l0.length ≤ c0) (hr1 : Kd.C (Kd.int .i64) w A1 l1.length l1) (hc1 : l1.length ≤ c1) (h : davitref02_Ints.f k l0 l1 = some r) :
  Calls Try.prog 12 #[.slice A0 l0.length c0, .slice A1 l1.length c1] w fun e w' => e = .returned (.bool r) ∧ Drawn0 w w' := by
 have HR0 := Aside0.mk hr0
 have HC0 := Aside0.mk hc0
 clear hr0 hc0
 have HR1 := Aside0.mk hr1
 have HC1 := Aside0.mk hc1
 clear hr1 hc1
 have H : (if (l0.length : Int) = (l1.length : Int) then (davitref02_Ints.l0 k l0 l1 0) else (some false)) = some r := h
 clear h
 by_cases c3 : (l0.length : Int) = (l1.length : Int)
 ·rw [if_pos c3] at H
  have c3b0 : ((l0.length : Int) == (l1.length : Int)) = true := beq_iff_eq.mpr c3
  have c3b1 : ((l0.length : Int) != (l1.length : Int)) = false := bne_eq_false_iff_eq.mpr c3
  have c3b2 : (l0.length == l1.length) = true := by first | simpa using c3 | (simp at c3 ⊢; omega)
  clear c3
  have H' := Aside0.mk H
  clear H
  go_enter Try.func12, Try.ntmps12
  go_wp2
  repeat (go_quiet (fail); try go_wp2)
  go_loopg [5] k (fun kq v5 w' => ∃ (x5_1 : Int), v5 = .int .i64 x5_1 ∧ Aside0 (davitref02_Ints.l0 kq l0 l1 x5_1 = some r) ∧ Aside0 (kq ≤ k) ∧ Drawn0 w w')
  case atStart => exact ⟨(0), (by first | rfl | (simp; done) | (simp [*]; done)), H', ⟨Nat.le_refl _⟩, by repeat (first | exact Drawn0.refl _ | apply Drawn0.step)⟩
  case round =>
   clear H'
   try clear c1
   try clear p2
   try clear c3
   try clear c3b0
   try clear c3b1
   try clear c3b2
   obtain ⟨x5_1, rfl, HA, HK1, ⟨m1, rfl⟩⟩ := hrel
   cases gk with
   | zero => exact absurd HA.out (by simp [davitref02_Ints.l0])
   | succ k1 =>
    have H := HA.out
    clear HA
    simp only [davitref02_Ints.l0] at H
    by_cases c4 : x5_1 < (l0.length : Int)
    ·rw [if_pos c4] at H
     have c4b0 : decide (x5_1 < (l0.length : Int)) = true := decide_eq_true c4
     clear c4
     by_cases c5 : 0 ≤ x5_1
     ·rw [if_pos c5] at H
      have c5b0 : decide (0 ≤ x5_1) = true := decide_eq_true c5
      clear c5
      by_cases c6 : x5_1 < (l1.length : Int)
      ·rw [if_pos c6] at H
       have c6b0 : decide (x5_1 < (l1.length : Int)) = true := decide_eq_true c6
       clear c6
       by_cases c7 : (rd l0 x5_1) = (rd l1 x5_1)
       ·rw [if_pos c7] at H
        have c7b0 : ((rd l0 x5_1) == (rd l1 x5_1)) = true := beq_iff_eq.mpr c7
        have c7b1 : ((rd l0 x5_1) != (rd l1 x5_1)) = false := bne_eq_false_iff_eq.mpr c7
        clear c7
        have H' := Aside0.mk H
        clear H
        have p143 : 0 ≤ (x5_1 : Int) := of_decide_eq_true (by first | (with_reducible assumption) | assumption)
        have q143 : x5_1 < (l0.length : Int) := of_decide_eq_true (by first | (with_reducible assumption) | assumption)
        obtain ⟨ad143, e143, hx143_0⟩ := Kd.at_int HR0.out x5_1 p143 q143
        cases e143
        replace p143 := eq_true p143
        replace q143 := eq_true q143
        have p144 : 0 ≤ (x5_1 : Int) := of_decide_eq_true (by first | (with_reducible assumption) | assumption)
        have q144 : x5_1 < (l1.length : Int) := of_decide_eq_true (by first | (with_reducible assumption) | assumption)
        obtain ⟨ad144, e144, hx144_0⟩ := Kd.at_int HR1.out x5_1 p144 q144
        cases e144
        replace p144 := eq_true p144
        replace q144 := eq_true q144
        go_wp2
        repeat (go_quiet (fail); try go_wp2)
        go_roundg k1
        case measure => have := HK1.out; omega
        case rel => exact ⟨(wrap64 (x5_1 + 1)), (by first | rfl | (simp; done) | (simp [*]; done)), H', ⟨by have := HK1.out; omega⟩, by repeat (first | exact Drawn0.refl _ | apply Drawn0.step)⟩
       ·rw [if_neg c7] at H
        have c7b0 : ((rd l0 x5_1) == (rd l1 x5_1)) = false := beq_eq_false_iff_ne.mpr c7
        have c7b1 : ((rd l0 x5_1) != (rd l1 x5_1)) = true := bne_iff_ne.mpr c7
        obtain rfl := Option.some.inj H
        have p143 : 0 ≤ (x5_1 : Int) := of_decide_eq_true (by first | (with_reducible assumption) | assumption)
        have q143 : x5_1 < (l0.length : Int) := of_decide_eq_true (by first | (with_reducible assumption) | assumption)
        obtain ⟨ad143, e143, hx143_0⟩ := Kd.at_int HR0.out x5_1 p143 q143
        cases e143
        replace p143 := eq_true p143
        replace q143 := eq_true q143
        have p144 : 0 ≤ (x5_1 : Int) := of_decide_eq_true (by first | (with_reducible assumption) | assumption)
        have q144 : x5_1 < (l1.length : Int) := of_decide_eq_true (by first | (with_reducible assumption) | assumption)
        obtain ⟨ad144, e144, hx144_0⟩ := Kd.at_int HR1.out x5_1 p144 q144
        cases e144
        replace p144 := eq_true p144
        replace q144 := eq_true q144
        go_wp2
        repeat (go_quiet (fail); try go_wp2)
        go_ret
        exact ⟨by first | rfl | (simp; done) | (simp [*]; done), by repeat (first | exact Drawn0.refl _ | apply Drawn0.step)⟩
      ·rw [if_neg c6] at H
       exact absurd H (by simp)
     ·rw [if_neg c5] at H
      exact absurd H (by simp)
    ·rw [if_neg c4] at H
     have c4b0 : decide (x5_1 < (l0.length : Int)) = false := decide_eq_false c4
     clear c4
     obtain rfl := Option.some.inj H
     go_wp2
     repeat (go_quiet (fail); try go_wp2)
     go_ret
     exact ⟨by first | rfl | (simp; done) | (simp [*]; done), by repeat (first | exact Drawn0.refl _ | apply Drawn0.step)⟩
 ·rw [if_neg c3] at H
  have c3b0 : ((l0.length : Int) == (l1.length : Int)) = false := beq_eq_false_iff_ne.mpr c3
  have c3b1 : ((l0.length : Int) != (l1.length : Int)) = true := bne_iff_ne.mpr c3
  have c3b2 : (l0.length == l1.length) = false := by first | simpa using c3 | (simp at c3 ⊢; omega)
  obtain rfl := Option.some.inj H
  go_enter Try.func12, Try.ntmps12
  go_wp2
  repeat (go_quiet (fail); try go_wp2)
  go_ret
  exact ⟨by first | rfl | (simp; done) | (simp [*]; done), by repeat (first | exact Drawn0.refl _ | apply Drawn0.step)⟩
end
end Go.Proofs.Ytjjcnbfmmhokeaa.X
namespace Go.Proofs.Ytjjcnbfmmhokeaa.X
open Go.RowKit Go.Proofs.YtjjcnbfmmhokeaaW.PrintWords Go.Proofs.YtjjcnbfmmhokeaaW.PrintLast Go.Proofs.YtjjcnbfmmhokeaaW.PrintMore
attribute [local go_sem] max2_int min2_int max_two min_two max_three min_three max_four min_four
set_option linter.all false
noncomputable section
mutual
def davitref11_Calls.l0 : Nat → Int → Int → Int → Int → List (S44) → Option (Bool)
 | 0, _, _, _, _, _ => none
 | k + 1, x1, x5, x146000, x146001, x146002 => if x5 < (x146002.length : Int) then (davitref11_Calls.l1 k x1 x5 0 x146000 x146001 x146002) else (some false)
def davitref11_Calls.l1 : Nat → Int → Int → Int → Int → Int → List (S44) → Option (Bool)
 | 0, _, _, _, _, _, _ => none
 | k + 1, x1, x5, x6, x146000, x146001, x146002 => if 0 ≤ x5 then (if x5 < (x146002.length : Int) then (if x6 < (((rd_T44 x146002 x5).f2).length : Int) then (if 0 ≤ x6 then (if ((rd_T36 ((rd_T44 x146002 x5).f2) x6).f0) = 11 then (if ((rd_T36 ((rd_T44 x146002 x5).f2) x6).f5) = x1 then (some true) else (davitref11_Calls.l1 k x1 x5 (wrap64 (x6 + 1)) x146000 x146001 x146002)) else (davitref11_Calls.l1 k x1 x5 (wrap64 (x6 + 1)) x146000 x146001 x146002)) else (none)) else (if ((rd_T44 x146002 x5).f3.f0) = 4 then (if ((rd_T44 x146002 x5).f3.f3) = x1 then (some true) else (davitref11_Calls.l0 k x1 (wrap64 (x5 + 1)) x146000 x146001 x146002)) else (davitref11_Calls.l0 k x1 (wrap64 (x5 + 1)) x146000 x146001 x146002))) else (none)) else (none)
end
def davitref11_Calls.f (k : Nat) (a0_0 : Int) (a0_1 : Int) (l0_2 : List (S44)) (a1 : Int) : Option (Bool) := davitref11_Calls.l0 k a1 0 a0_0 a0_1 l0_2
theorem davitref11_Calls.mono_l : ∀ k, (∀ y0 y1 y2 y3 y4, LeO (davitref11_Calls.l0 k y0 y1 y2 y3 y4) (davitref11_Calls.l0 (k + 1) y0 y1 y2 y3 y4)) ∧ (∀ y0 y1 y2 y3 y4 y5, LeO (davitref11_Calls.l1 k y0 y1 y2 y3 y4 y5) (davitref11_Calls.l1 (k + 1) y0 y1 y2 y3 y4 y5))
 | 0 => ⟨fun _ _ _ _ _ r h => by simp [davitref11_Calls.l0] at h, fun _ _ _ _ _ _ r h => by simp [davitref11_Calls.l1] at h⟩
 | k + 1 => by
  obtain ⟨ih0, ih1⟩ := davitref11_Calls.mono_l k
  refine ⟨?_, ?_⟩
  ·intro y0 y1 y2 y3 y4
   unfold davitref11_Calls.l0
   repeat' first
   | (with_reducible exact ih0 _ _ _ _ _)
   | (with_reducible exact ih1 _ _ _ _ _ _)
   | (with_reducible exact LeO.refl _)
   | (with_reducible exact LeO.none _)
   | (with_reducible refine LeO.ite ?_ ?_)
   | (with_reducible refine LeO.bind ?_ (fun _ => ?_))
   | exact ih0 _ _ _ _ _
   | exact ih1 _ _ _ _ _ _
   | exact LeO.none _
   | refine LeO.ite ?_ ?_
   | refine LeO.bind ?_ (fun _ => ?_)
  ·intro y0 y1 y2 y3 y4 y5
   unfold davitref11_Calls.l1
   repeat' first
   | (with_reducible exact ih0 _ _ _ _ _)
   | (with_reducible exact ih1 _ _ _ _ _ _)
   | (with_reducible exact LeO.refl _)
   | (with_reducible exact LeO.none _)
   | (with_reducible refine LeO.ite ?_ ?_)
   | (with_reducible refine LeO.bind ?_ (fun _ => ?_))
   | exact ih0 _ _ _ _ _
   | exact ih1 _ _ _ _ _ _
   | exact LeO.none _
   | refine LeO.ite ?_ ?_
   | refine LeO.bind ?_ (fun _ => ?_)
theorem davitref11_Calls.mono : ∀ a0 a1 a2 a3 k, LeO (davitref11_Calls.f k a0 a1 a2 a3) (davitref11_Calls.f (k + 1) a0 a1 a2 a3) := by
 intro a0 a1 a2 a3 k
 obtain ⟨ih0, ih1⟩ := davitref11_Calls.mono_l k
 unfold davitref11_Calls.f
 repeat' first
   | (with_reducible exact ih0 _ _ _ _ _)
   | (with_reducible exact ih1 _ _ _ _ _ _)
   | (with_reducible exact LeO.refl _)
   | (with_reducible exact LeO.none _)
   | (with_reducible refine LeO.ite ?_ ?_)
   | (with_reducible refine LeO.bind ?_ (fun _ => ?_))
   | exact ih0 _ _ _ _ _
   | exact ih1 _ _ _ _ _ _
   | exact LeO.none _
   | refine LeO.ite ?_ ?_
   | refine LeO.bind ?_ (fun _ => ?_)
set_option maxHeartbeats 8000000 in
set_option maxRecDepth 100000 in
theorem davitref11_Calls.calls (k : Nat) (a0_0 : Int) (a0_1 : Int) (A0_2 : Option Addr) (c0_2 : Nat) (l0_2 : List (S44)) (a1 : Int) (r : Bool) (w : World) (hr0_2 : Kd.C k44 w A0_2 l0_2.length l0_2) (hc0_2 : l0_2.length ≤ c0_2) (h : davitref11_Calls.f k a0_0 a0_1 l0_2 a1 = some r) :
  Calls Try.prog 25 #[.agg #[.int .i64 a0_0, .int .i64 a0_1, .slice A0_2 l0_2.length c0_2], .int .i64 a1] w fun e w' => e = .returned (.bool r) ∧ Below w.heap.size w w' := by
 have hu33 := Try.underlying33
 have HR0_2 := Aside0.mk hr0_2
 have HC0_2 := Aside0.mk hc0_2
 clear hr0_2 hc0_2
 have HB := Aside0.mk (Below.refl w.heap.size w)
 have H : (davitref11_Calls.l0 k a1 0 a0_0 a0_1 l0_2) = some r := h
 clear h
 have H' := Aside0.mk H
 clear H
 go_enter Try.func25, Try.ntmps25
 go_wp2_with (first | ((with_reducible refine gate_dst (N := 2) rfl ?_); refine box_event ?hg (N := 2) ?hd (cs := #[.int .i64 a0_0, .int .i64 a0_1, .slice A0_2 l0_2.length c0_2]) (t := 33) ?hr ?_; (case hd => rfl); (case hg => rfl); (case hr => first | (go_simp; done) | (go_simp; rfl)); intro gb145 hg w3 hbox hb; have n0_ := Aside0.mk (below_step (by repeat (first | (with_reducible first | exact HB.out | apply below_alloc | apply pw_below_drewN | apply below_drew1) | exact HB.out)) hb); have n1_ := Aside0.mk (hbox); have n2_ := Aside0.mk ((by rw [hg]; exact (below_size (by repeat (first | (with_reducible first | exact HB.out | apply below_alloc | apply pw_below_drewN | apply below_drew1) | exact HB.out))) : w.heap.size ≤ gb145)); have n3_ := Aside0.mk ((by rw [hg]; exact (below_size (by repeat (first | (with_reducible first | exact HB.out | apply below_alloc | apply pw_below_drewN | apply below_drew1) | exact HB.out))) : w.heap.size ≤ gb145)); clear HB; have HB := n0_; have BK145 := n1_; have GW145 := n2_; have GE145 := n3_; clear n0_ n1_ n2_ n3_; clear hb hbox hg))
 go_loopg [5] k (fun kq v5 w' => ∃ (x5_1 : Int), v5 = .int .i64 x5_1 ∧ Aside0 (davitref11_Calls.l0 kq a1 x5_1 a0_0 a0_1 l0_2 = some r) ∧ Aside0 (kq ≤ k) ∧ Aside0 (w'.heap[gb145]? = some (.cells #[.int .i64 a0_0, .int .i64 a0_1, (.slice A0_2 l0_2.length c0_2)] 33 (0, 0))) ∧ Aside0 (Below w.heap.size w w'))
 case atStart => exact ⟨(0), (by first | rfl | (simp; done) | (simp [*]; done)), H', ⟨Nat.le_refl _⟩, ⟨by (with_reducible repeat (first | refine blk_drewN ?_ _ | refine blk_drew ?_ | refine blk_alloc ?_ _)); exact BK145.out⟩, ⟨by repeat (first | (with_reducible first | exact HB.out | apply below_alloc | apply pw_below_drewN | apply below_drew1 | refine below_set ?_ GE145.out) | exact HB.out)⟩⟩
 case round =>
  clear H'
  try clear c2
  try clear p2
  obtain ⟨x5_1, rfl, HA, HK1, BK145, HB⟩ := hrel
  cases gk with
  | zero => exact absurd HA.out (by simp [davitref11_Calls.l0])
  | succ k1 =>
   have H := HA.out
   clear HA
   simp only [davitref11_Calls.l0] at H
   by_cases c4 : x5_1 < (l0_2.length : Int)
   ·rw [if_pos c4] at H
    have c4b0 : decide (x5_1 < (l0_2.length : Int)) = true := decide_eq_true c4
    clear c4
    have H' := Aside0.mk H
    clear H
    have hcz5_0 : wr.cell? ⟨gb145, 0, none⟩ = some (.int .i64 a0_0) := (blk_cell BK145.out 0).trans rfl
    have hcz5_1 : wr.cell? ⟨gb145, 1, none⟩ = some (.int .i64 a0_1) := (blk_cell BK145.out 1).trans rfl
    have hcz5_2 : wr.cell? ⟨gb145, 2, none⟩ = some (.slice A0_2 l0_2.length c0_2) := (blk_cell BK145.out 2).trans rfl
    have hfz5_0 := blk_frozen BK145.out 0
    have hfz5_1 := blk_frozen BK145.out 1
    have hfz5_2 := blk_frozen BK145.out 2
    go_wp2
    go_loopg [6] k1 (fun kq v6 w' => ∃ (x6_2 : Int), v6 = .int .i64 x6_2 ∧ Aside0 (davitref11_Calls.l1 kq a1 x5_1 x6_2 a0_0 a0_1 l0_2 = some r) ∧ Aside0 (kq ≤ k1) ∧ Aside0 (w'.heap[gb145]? = some (.cells #[.int .i64 a0_0, .int .i64 a0_1, (.slice A0_2 l0_2.length c0_2)] 33 (0, 0))) ∧ Aside0 (Below w.heap.size w w'))
    case atStart => exact ⟨(0), (by first | rfl | (simp; done) | (simp [*]; done)), H', ⟨Nat.le_refl _⟩, ⟨by (with_reducible repeat (first | refine blk_drewN ?_ _ | refine blk_drew ?_ | refine blk_alloc ?_ _)); exact BK145.out⟩, ⟨by repeat (first | (with_reducible first | exact HB.out | apply below_alloc | apply pw_below_drewN | apply below_drew1 | refine below_set ?_ GE145.out) | exact HB.out)⟩⟩
    case round =>
     clear H'
     try clear c2
     try clear p2
     try clear c4
     try clear c4b0
     try clear hcz5_0
     try clear hcz5_1
     try clear hcz5_2
     try clear hfz5_0
     try clear hfz5_1
     try clear hfz5_2
     try clear p2
     obtain ⟨x6_2, rfl, HA, HK2, BK145, HB⟩ := hrel
     cases gk with
     | zero => exact absurd HA.out (by simp [davitref11_Calls.l1])
     | succ k2 =>
      have H := HA.out
      clear HA
      simp only [davitref11_Calls.l1] at H
      by_cases c6 : 0 ≤ x5_1
      ·rw [if_pos c6] at H
       have c6b0 : decide (0 ≤ x5_1) = true := decide_eq_true c6
       clear c6
       by_cases c7 : x5_1 < (l0_2.length : Int)
       ·rw [if_pos c7] at H
        have c7b0 : decide (x5_1 < (l0_2.length : Int)) = true := decide_eq_true c7
        clear c7
        by_cases c8 : x6_2 < (((rd_T44 l0_2 x5_1).f2).length : Int)
        ·rw [if_pos c8] at H
         have c8b0 : decide (x6_2 < (((rd_T44 l0_2 x5_1).f2).length : Int)) = true := decide_eq_true c8
         clear c8
         by_cases c9 : 0 ≤ x6_2
         ·rw [if_pos c9] at H
          have c9b0 : decide (0 ≤ x6_2) = true := decide_eq_true c9
          clear c9
          by_cases c10 : ((rd_T36 ((rd_T44 l0_2 x5_1).f2) x6_2).f0) = 11
          ·rw [if_pos c10] at H
           have c10b0 : (((rd_T36 ((rd_T44 l0_2 x5_1).f2) x6_2).f0) == 11) = true := beq_iff_eq.mpr c10
           have c10b1 : (((rd_T36 ((rd_T44 l0_2 x5_1).f2) x6_2).f0) != 11) = false := bne_eq_false_iff_eq.mpr c10
           clear c10
           by_cases c11 : ((rd_T36 ((rd_T44 l0_2 x5_1).f2) x6_2).f5) = a1
           ·rw [if_pos c11] at H
            have c11b0 : (((rd_T36 ((rd_T44 l0_2 x5_1).f2) x6_2).f5) == a1) = true := beq_iff_eq.mpr c11
            have c11b1 : (((rd_T36 ((rd_T44 l0_2 x5_1).f2) x6_2).f5) != a1) = false := bne_eq_false_iff_eq.mpr c11
            clear c11
            obtain rfl := Option.some.inj H
            have hcz12_0 : wr.cell? ⟨gb145, 0, none⟩ = some (.int .i64 a0_0) := (blk_cell BK145.out 0).trans rfl
            have hcz12_1 : wr.cell? ⟨gb145, 1, none⟩ = some (.int .i64 a0_1) := (blk_cell BK145.out 1).trans rfl
            have hcz12_2 : wr.cell? ⟨gb145, 2, none⟩ = some (.slice A0_2 l0_2.length c0_2) := (blk_cell BK145.out 2).trans rfl
            have hfz12_0 := blk_frozen BK145.out 0
            have hfz12_1 := blk_frozen BK145.out 1
            have hfz12_2 := blk_frozen BK145.out 2
            have p146 : 0 ≤ (x5_1 : Int) := of_decide_eq_true (by first | (with_reducible assumption) | assumption)
            have q146 : x5_1 < (l0_2.length : Int) := of_decide_eq_true (by first | (with_reducible assumption) | assumption)
            obtain ⟨ad146, A146_2, c146_2, A146_5, c146_5, A146_10, c146_10, e146, hx146_0, hx146_1, hx146_2, hx146_3, hx146_4, hx146_5, hx146_6, hx146_7, hx146_8, hx146_9, hx146_10, hx146_11, hx146_12, hx146_13, hl146_2, hi146_2, hl146_5, hi146_5, hl146_10, hi146_10⟩ := at_T44 HR0_2.out x5_1 p146 q146
            cases e146
            replace hx146_0 := (HB.out.cell (World.block_lt_of_cell? w _ hx146_0)).trans hx146_0
            replace hx146_1 := (HB.out.cell (World.block_lt_of_cell? w _ hx146_1)).trans hx146_1
            replace hx146_2 := (HB.out.cell (World.block_lt_of_cell? w _ hx146_2)).trans hx146_2
            replace hx146_3 := (HB.out.cell (World.block_lt_of_cell? w _ hx146_3)).trans hx146_3
            replace hx146_4 := (HB.out.cell (World.block_lt_of_cell? w _ hx146_4)).trans hx146_4
            replace hx146_5 := (HB.out.cell (World.block_lt_of_cell? w _ hx146_5)).trans hx146_5
            replace hx146_6 := (HB.out.cell (World.block_lt_of_cell? w _ hx146_6)).trans hx146_6
            replace hx146_7 := (HB.out.cell (World.block_lt_of_cell? w _ hx146_7)).trans hx146_7
            replace hx146_8 := (HB.out.cell (World.block_lt_of_cell? w _ hx146_8)).trans hx146_8
            replace hx146_9 := (HB.out.cell (World.block_lt_of_cell? w _ hx146_9)).trans hx146_9
            replace hx146_10 := (HB.out.cell (World.block_lt_of_cell? w _ hx146_10)).trans hx146_10
            replace hx146_11 := (HB.out.cell (World.block_lt_of_cell? w _ hx146_11)).trans hx146_11
            replace hx146_12 := (HB.out.cell (World.block_lt_of_cell? w _ hx146_12)).trans hx146_12
            replace hx146_13 := (HB.out.cell (World.block_lt_of_cell? w _ hx146_13)).trans hx146_13
            have HR146_2 := Aside0.mk hi146_2
            have HC146_2 := Aside0.mk hl146_2
            clear hi146_2 hl146_2
            have HR146_5 := Aside0.mk hi146_5
            have HC146_5 := Aside0.mk hl146_5
            clear hi146_5 hl146_5
            have HR146_10 := Aside0.mk hi146_10
            have HC146_10 := Aside0.mk hl146_10
            clear hi146_10 hl146_10
            replace p146 := eq_true p146
            replace q146 := eq_true q146
            have p147 : 0 ≤ (x5_1 : Int) := of_decide_eq_true (by first | (with_reducible assumption) | assumption)
            have q147 : x5_1 < (l0_2.length : Int) := of_decide_eq_true (by first | (with_reducible assumption) | assumption)
            obtain ⟨ad147, A147_2, c147_2, A147_5, c147_5, A147_10, c147_10, e147, hx147_0, hx147_1, hx147_2, hx147_3, hx147_4, hx147_5, hx147_6, hx147_7, hx147_8, hx147_9, hx147_10, hx147_11, hx147_12, hx147_13, hl147_2, hi147_2, hl147_5, hi147_5, hl147_10, hi147_10⟩ := at_T44 HR0_2.out x5_1 p147 q147
            obtain rfl : ad146 = ad147 := (by injection e147)
            replace hx147_0 := (HB.out.cell (World.block_lt_of_cell? w _ hx147_0)).trans hx147_0
            replace hx147_1 := (HB.out.cell (World.block_lt_of_cell? w _ hx147_1)).trans hx147_1
            replace hx147_2 := (HB.out.cell (World.block_lt_of_cell? w _ hx147_2)).trans hx147_2
            replace hx147_3 := (HB.out.cell (World.block_lt_of_cell? w _ hx147_3)).trans hx147_3
            replace hx147_4 := (HB.out.cell (World.block_lt_of_cell? w _ hx147_4)).trans hx147_4
            replace hx147_5 := (HB.out.cell (World.block_lt_of_cell? w _ hx147_5)).trans hx147_5
            replace hx147_6 := (HB.out.cell (World.block_lt_of_cell? w _ hx147_6)).trans hx147_6
            replace hx147_7 := (HB.out.cell (World.block_lt_of_cell? w _ hx147_7)).trans hx147_7
            replace hx147_8 := (HB.out.cell (World.block_lt_of_cell? w _ hx147_8)).trans hx147_8
            replace hx147_9 := (HB.out.cell (World.block_lt_of_cell? w _ hx147_9)).trans hx147_9
            replace hx147_10 := (HB.out.cell (World.block_lt_of_cell? w _ hx147_10)).trans hx147_10
            replace hx147_11 := (HB.out.cell (World.block_lt_of_cell? w _ hx147_11)).trans hx147_11
            replace hx147_12 := (HB.out.cell (World.block_lt_of_cell? w _ hx147_12)).trans hx147_12
            replace hx147_13 := (HB.out.cell (World.block_lt_of_cell? w _ hx147_13)).trans hx147_13
            have HR147_2 := Aside0.mk hi147_2
            have HC147_2 := Aside0.mk hl147_2
            clear hi147_2 hl147_2
            have HR147_5 := Aside0.mk hi147_5
            have HC147_5 := Aside0.mk hl147_5
            clear hi147_5 hl147_5
            have HR147_10 := Aside0.mk hi147_10
            have HC147_10 := Aside0.mk hl147_10
            clear hi147_10 hl147_10
            replace p147 := eq_true p147
            replace q147 := eq_true q147
            have ea_ := Option.some.inj (hx146_2.symm.trans hx147_2)
            injection ea_ with ea_ en_ ec_
            subst ea_
            subst ec_
            clear en_
            have ea_ := Option.some.inj (hx146_5.symm.trans hx147_5)
            injection ea_ with ea_ en_ ec_
            subst ea_
            subst ec_
            clear en_
            have ea_ := Option.some.inj (hx146_10.symm.trans hx147_10)
            injection ea_ with ea_ en_ ec_
            subst ea_
            subst ec_
            clear en_
            have p148 : 0 ≤ (x6_2 : Int) := of_decide_eq_true (by first | (with_reducible assumption) | assumption)
            have q148 : x6_2 < (((rd_T44 l0_2 x5_1).f2).length : Int) := of_decide_eq_true (by first | (with_reducible assumption) | assumption)
            obtain ⟨ad148, A148_6, c148_6, e148, hx148_0, hx148_1, hx148_2, hx148_3, hx148_4, hx148_5, hx148_6, hl148_6, hi148_6⟩ := at_T36 HR147_5.out x6_2 p148 q148
            cases e148
            replace hx148_0 := (HB.out.cell (World.block_lt_of_cell? w _ hx148_0)).trans hx148_0
            replace hx148_1 := (HB.out.cell (World.block_lt_of_cell? w _ hx148_1)).trans hx148_1
            replace hx148_2 := (HB.out.cell (World.block_lt_of_cell? w _ hx148_2)).trans hx148_2
            replace hx148_3 := (HB.out.cell (World.block_lt_of_cell? w _ hx148_3)).trans hx148_3
            replace hx148_4 := (HB.out.cell (World.block_lt_of_cell? w _ hx148_4)).trans hx148_4
            replace hx148_5 := (HB.out.cell (World.block_lt_of_cell? w _ hx148_5)).trans hx148_5
            replace hx148_6 := (HB.out.cell (World.block_lt_of_cell? w _ hx148_6)).trans hx148_6
            have HR148_6 := Aside0.mk hi148_6
            have HC148_6 := Aside0.mk hl148_6
            clear hi148_6 hl148_6
            replace p148 := eq_true p148
            replace q148 := eq_true q148
            have p149 : 0 ≤ (x5_1 : Int) := of_decide_eq_true (by first | (with_reducible assumption) | assumption)
            have q149 : x5_1 < (l0_2.length : Int) := of_decide_eq_true (by first | (with_reducible assumption) | assumption)
            obtain ⟨ad149, A149_2, c149_2, A149_5, c149_5, A149_10, c149_10, e149, hx149_0, hx149_1, hx149_2, hx149_3, hx149_4, hx149_5, hx149_6, hx149_7, hx149_8, hx149_9, hx149_10, hx149_11, hx149_12, hx149_13, hl149_2, hi149_2, hl149_5, hi149_5, hl149_10, hi149_10⟩ := at_T44 HR0_2.out x5_1 p149 q149
            obtain rfl : ad146 = ad149 := (by injection e149)
            replace hx149_0 := (HB.out.cell (World.block_lt_of_cell? w _ hx149_0)).trans hx149_0
            replace hx149_1 := (HB.out.cell (World.block_lt_of_cell? w _ hx149_1)).trans hx149_1
            replace hx149_2 := (HB.out.cell (World.block_lt_of_cell? w _ hx149_2)).trans hx149_2
            replace hx149_3 := (HB.out.cell (World.block_lt_of_cell? w _ hx149_3)).trans hx149_3
            replace hx149_4 := (HB.out.cell (World.block_lt_of_cell? w _ hx149_4)).trans hx149_4
            replace hx149_5 := (HB.out.cell (World.block_lt_of_cell? w _ hx149_5)).trans hx149_5
            replace hx149_6 := (HB.out.cell (World.block_lt_of_cell? w _ hx149_6)).trans hx149_6
            replace hx149_7 := (HB.out.cell (World.block_lt_of_cell? w _ hx149_7)).trans hx149_7
            replace hx149_8 := (HB.out.cell (World.block_lt_of_cell? w _ hx149_8)).trans hx149_8
            replace hx149_9 := (HB.out.cell (World.block_lt_of_cell? w _ hx149_9)).trans hx149_9
            replace hx149_10 := (HB.out.cell (World.block_lt_of_cell? w _ hx149_10)).trans hx149_10
            replace hx149_11 := (HB.out.cell (World.block_lt_of_cell? w _ hx149_11)).trans hx149_11
            replace hx149_12 := (HB.out.cell (World.block_lt_of_cell? w _ hx149_12)).trans hx149_12
            replace hx149_13 := (HB.out.cell (World.block_lt_of_cell? w _ hx149_13)).trans hx149_13
            have HR149_2 := Aside0.mk hi149_2
            have HC149_2 := Aside0.mk hl149_2
            clear hi149_2 hl149_2
            have HR149_5 := Aside0.mk hi149_5
            have HC149_5 := Aside0.mk hl149_5
            clear hi149_5 hl149_5
            have HR149_10 := Aside0.mk hi149_10
            have HC149_10 := Aside0.mk hl149_10
            clear hi149_10 hl149_10
            replace p149 := eq_true p149
            replace q149 := eq_true q149
            have ea_ := Option.some.inj (hx146_2.symm.trans hx149_2)
            injection ea_ with ea_ en_ ec_
            subst ea_
            subst ec_
            clear en_
            have ea_ := Option.some.inj (hx146_5.symm.trans hx149_5)
            injection ea_ with ea_ en_ ec_
            subst ea_
            subst ec_
            clear en_
            have ea_ := Option.some.inj (hx146_10.symm.trans hx149_10)
            injection ea_ with ea_ en_ ec_
            subst ea_
            subst ec_
            clear en_
            have p150 : 0 ≤ (x6_2 : Int) := of_decide_eq_true (by first | (with_reducible assumption) | assumption)
            have q150 : x6_2 < (((rd_T44 l0_2 x5_1).f2).length : Int) := of_decide_eq_true (by first | (with_reducible assumption) | assumption)
            obtain ⟨ad150, A150_6, c150_6, e150, hx150_0, hx150_1, hx150_2, hx150_3, hx150_4, hx150_5, hx150_6, hl150_6, hi150_6⟩ := at_T36 HR149_5.out x6_2 p150 q150
            cases e150
            replace hx150_0 := (HB.out.cell (World.block_lt_of_cell? w _ hx150_0)).trans hx150_0
            replace hx150_1 := (HB.out.cell (World.block_lt_of_cell? w _ hx150_1)).trans hx150_1
            replace hx150_2 := (HB.out.cell (World.block_lt_of_cell? w _ hx150_2)).trans hx150_2
            replace hx150_3 := (HB.out.cell (World.block_lt_of_cell? w _ hx150_3)).trans hx150_3
            replace hx150_4 := (HB.out.cell (World.block_lt_of_cell? w _ hx150_4)).trans hx150_4
            replace hx150_5 := (HB.out.cell (World.block_lt_of_cell? w _ hx150_5)).trans hx150_5
            replace hx150_6 := (HB.out.cell (World.block_lt_of_cell? w _ hx150_6)).trans hx150_6
            have HR150_6 := Aside0.mk hi150_6
            have HC150_6 := Aside0.mk hl150_6
            clear hi150_6 hl150_6
            replace p150 := eq_true p150
            replace q150 := eq_true q150
            go_wp2
            go_ret
            exact ⟨by first | rfl | (simp [errW_none, errW_some] <;> rfl) | (simp [*, errW_none, errW_some] <;> rfl), by repeat (first | (with_reducible first | exact HB.out | apply below_alloc | apply pw_below_drewN | apply below_drew1 | refine below_set ?_ GE145.out) | exact HB.out)⟩
           ·rw [if_neg c11] at H
            have c11b0 : (((rd_T36 ((rd_T44 l0_2 x5_1).f2) x6_2).f5) == a1) = false := beq_eq_false_iff_ne.mpr c11
            have c11b1 : (((rd_T36 ((rd_T44 l0_2 x5_1).f2) x6_2).f5) != a1) = true := bne_iff_ne.mpr c11
            have H' := Aside0.mk H
            clear H
            have hcz13_0 : wr.cell? ⟨gb145, 0, none⟩ = some (.int .i64 a0_0) := (blk_cell BK145.out 0).trans rfl
            have hcz13_1 : wr.cell? ⟨gb145, 1, none⟩ = some (.int .i64 a0_1) := (blk_cell BK145.out 1).trans rfl
            have hcz13_2 : wr.cell? ⟨gb145, 2, none⟩ = some (.slice A0_2 l0_2.length c0_2) := (blk_cell BK145.out 2).trans rfl
            have hfz13_0 := blk_frozen BK145.out 0
            have hfz13_1 := blk_frozen BK145.out 1
            have hfz13_2 := blk_frozen BK145.out 2
            have p146 : 0 ≤ (x5_1 : Int) := of_decide_eq_true (by first | (with_reducible assumption) | assumption)
            have q146 : x5_1 < (l0_2.length : Int) := of_decide_eq_true (by first | (with_reducible assumption) | assumption)
            obtain ⟨ad146, A146_2, c146_2, A146_5, c146_5, A146_10, c146_10, e146, hx146_0, hx146_1, hx146_2, hx146_3, hx146_4, hx146_5, hx146_6, hx146_7, hx146_8, hx146_9, hx146_10, hx146_11, hx146_12, hx146_13, hl146_2, hi146_2, hl146_5, hi146_5, hl146_10, hi146_10⟩ := at_T44 HR0_2.out x5_1 p146 q146
            cases e146
            replace hx146_0 := (HB.out.cell (World.block_lt_of_cell? w _ hx146_0)).trans hx146_0
            replace hx146_1 := (HB.out.cell (World.block_lt_of_cell? w _ hx146_1)).trans hx146_1
            replace hx146_2 := (HB.out.cell (World.block_lt_of_cell? w _ hx146_2)).trans hx146_2
            replace hx146_3 := (HB.out.cell (World.block_lt_of_cell? w _ hx146_3)).trans hx146_3
            replace hx146_4 := (HB.out.cell (World.block_lt_of_cell? w _ hx146_4)).trans hx146_4
            replace hx146_5 := (HB.out.cell (World.block_lt_of_cell? w _ hx146_5)).trans hx146_5
            replace hx146_6 := (HB.out.cell (World.block_lt_of_cell? w _ hx146_6)).trans hx146_6
            replace hx146_7 := (HB.out.cell (World.block_lt_of_cell? w _ hx146_7)).trans hx146_7
            replace hx146_8 := (HB.out.cell (World.block_lt_of_cell? w _ hx146_8)).trans hx146_8
            replace hx146_9 := (HB.out.cell (World.block_lt_of_cell? w _ hx146_9)).trans hx146_9
            replace hx146_10 := (HB.out.cell (World.block_lt_of_cell? w _ hx146_10)).trans hx146_10
            replace hx146_11 := (HB.out.cell (World.block_lt_of_cell? w _ hx146_11)).trans hx146_11
            replace hx146_12 := (HB.out.cell (World.block_lt_of_cell? w _ hx146_12)).trans hx146_12
            replace hx146_13 := (HB.out.cell (World.block_lt_of_cell? w _ hx146_13)).trans hx146_13
            have HR146_2 := Aside0.mk hi146_2
            have HC146_2 := Aside0.mk hl146_2
            clear hi146_2 hl146_2
            have HR146_5 := Aside0.mk hi146_5
            have HC146_5 := Aside0.mk hl146_5
            clear hi146_5 hl146_5
            have HR146_10 := Aside0.mk hi146_10
            have HC146_10 := Aside0.mk hl146_10
            clear hi146_10 hl146_10
            replace p146 := eq_true p146
            replace q146 := eq_true q146
            have p147 : 0 ≤ (x5_1 : Int) := of_decide_eq_true (by first | (with_reducible assumption) | assumption)
            have q147 : x5_1 < (l0_2.length : Int) := of_decide_eq_true (by first | (with_reducible assumption) | assumption)
            obtain ⟨ad147, A147_2, c147_2, A147_5, c147_5, A147_10, c147_10, e147, hx147_0, hx147_1, hx147_2, hx147_3, hx147_4, hx147_5, hx147_6, hx147_7, hx147_8, hx147_9, hx147_10, hx147_11, hx147_12, hx147_13, hl147_2, hi147_2, hl147_5, hi147_5, hl147_10, hi147_10⟩ := at_T44 HR0_2.out x5_1 p147 q147
            obtain rfl : ad146 = ad147 := (by injection e147)
            replace hx147_0 := (HB.out.cell (World.block_lt_of_cell? w _ hx147_0)).trans hx147_0
            replace hx147_1 := (HB.out.cell (World.block_lt_of_cell? w _ hx147_1)).trans hx147_1
            replace hx147_2 := (HB.out.cell (World.block_lt_of_cell? w _ hx147_2)).trans hx147_2
            replace hx147_3 := (HB.out.cell (World.block_lt_of_cell? w _ hx147_3)).trans hx147_3
            replace hx147_4 := (HB.out.cell (World.block_lt_of_cell? w _ hx147_4)).trans hx147_4
            replace hx147_5 := (HB.out.cell (World.block_lt_of_cell? w _ hx147_5)).trans hx147_5
            replace hx147_6 := (HB.out.cell (World.block_lt_of_cell? w _ hx147_6)).trans hx147_6
            replace hx147_7 := (HB.out.cell (World.block_lt_of_cell? w _ hx147_7)).trans hx147_7
            replace hx147_8 := (HB.out.cell (World.block_lt_of_cell? w _ hx147_8)).trans hx147_8
            replace hx147_9 := (HB.out.cell (World.block_lt_of_cell? w _ hx147_9)).trans hx147_9
            replace hx147_10 := (HB.out.cell (World.block_lt_of_cell? w _ hx147_10)).trans hx147_10
            replace hx147_11 := (HB.out.cell (World.block_lt_of_cell? w _ hx147_11)).trans hx147_11
            replace hx147_12 := (HB.out.cell (World.block_lt_of_cell? w _ hx147_12)).trans hx147_12
            replace hx147_13 := (HB.out.cell (World.block_lt_of_cell? w _ hx147_13)).trans hx147_13
            have HR147_2 := Aside0.mk hi147_2
            have HC147_2 := Aside0.mk hl147_2
            clear hi147_2 hl147_2
            have HR147_5 := Aside0.mk hi147_5
            have HC147_5 := Aside0.mk hl147_5
            clear hi147_5 hl147_5
            have HR147_10 := Aside0.mk hi147_10
            have HC147_10 := Aside0.mk hl147_10
            clear hi147_10 hl147_10
            replace p147 := eq_true p147
            replace q147 := eq_true q147
            have ea_ := Option.some.inj (hx146_2.symm.trans hx147_2)
            injection ea_ with ea_ en_ ec_
            subst ea_
            subst ec_
            clear en_
            have ea_ := Option.some.inj (hx146_5.symm.trans hx147_5)
            injection ea_ with ea_ en_ ec_
            subst ea_
            subst ec_
            clear en_
            have ea_ := Option.some.inj (hx146_10.symm.trans hx147_10)
            injection ea_ with ea_ en_ ec_
            subst ea_
            subst ec_
            clear en_
            have p148 : 0 ≤ (x6_2 : Int) := of_decide_eq_true (by first | (with_reducible assumption) | assumption)
            have q148 : x6_2 < (((rd_T44 l0_2 x5_1).f2).length : Int) := of_decide_eq_true (by first | (with_reducible assumption) | assumption)
            obtain ⟨ad148, A148_6, c148_6, e148, hx148_0, hx148_1, hx148_2, hx148_3, hx148_4, hx148_5, hx148_6, hl148_6, hi148_6⟩ := at_T36 HR147_5.out x6_2 p148 q148
            cases e148
            replace hx148_0 := (HB.out.cell (World.block_lt_of_cell? w _ hx148_0)).trans hx148_0
            replace hx148_1 := (HB.out.cell (World.block_lt_of_cell? w _ hx148_1)).trans hx148_1
            replace hx148_2 := (HB.out.cell (World.block_lt_of_cell? w _ hx148_2)).trans hx148_2
            replace hx148_3 := (HB.out.cell (World.block_lt_of_cell? w _ hx148_3)).trans hx148_3
            replace hx148_4 := (HB.out.cell (World.block_lt_of_cell? w _ hx148_4)).trans hx148_4
            replace hx148_5 := (HB.out.cell (World.block_lt_of_cell? w _ hx148_5)).trans hx148_5
            replace hx148_6 := (HB.out.cell (World.block_lt_of_cell? w _ hx148_6)).trans hx148_6
            have HR148_6 := Aside0.mk hi148_6
            have HC148_6 := Aside0.mk hl148_6
            clear hi148_6 hl148_6
            replace p148 := eq_true p148
            replace q148 := eq_true q148
            have p149 : 0 ≤ (x5_1 : Int) := of_decide_eq_true (by first | (with_reducible assumption) | assumption)
            have q149 : x5_1 < (l0_2.length : Int) := of_decide_eq_true (by first | (with_reducible assumption) | assumption)
            obtain ⟨ad149, A149_2, c149_2, A149_5, c149_5, A149_10, c149_10, e149, hx149_0, hx149_1, hx149_2, hx149_3, hx149_4, hx149_5, hx149_6, hx149_7, hx149_8, hx149_9, hx149_10, hx149_11, hx149_12, hx149_13, hl149_2, hi149_2, hl149_5, hi149_5, hl149_10, hi149_10⟩ := at_T44 HR0_2.out x5_1 p149 q149
            obtain rfl : ad146 = ad149 := (by injection e149)
            replace hx149_0 := (HB.out.cell (World.block_lt_of_cell? w _ hx149_0)).trans hx149_0
            replace hx149_1 := (HB.out.cell (World.block_lt_of_cell? w _ hx149_1)).trans hx149_1
            replace hx149_2 := (HB.out.cell (World.block_lt_of_cell? w _ hx149_2)).trans hx149_2
            replace hx149_3 := (HB.out.cell (World.block_lt_of_cell? w _ hx149_3)).trans hx149_3
            replace hx149_4 := (HB.out.cell (World.block_lt_of_cell? w _ hx149_4)).trans hx149_4
            replace hx149_5 := (HB.out.cell (World.block_lt_of_cell? w _ hx149_5)).trans hx149_5
            replace hx149_6 := (HB.out.cell (World.block_lt_of_cell? w _ hx149_6)).trans hx149_6
            replace hx149_7 := (HB.out.cell (World.block_lt_of_cell? w _ hx149_7)).trans hx149_7
            replace hx149_8 := (HB.out.cell (World.block_lt_of_cell? w _ hx149_8)).trans hx149_8
            replace hx149_9 := (HB.out.cell (World.block_lt_of_cell? w _ hx149_9)).trans hx149_9
            replace hx149_10 := (HB.out.cell (World.block_lt_of_cell? w _ hx149_10)).trans hx149_10
            replace hx149_11 := (HB.out.cell (World.block_lt_of_cell? w _ hx149_11)).trans hx149_11
            replace hx149_12 := (HB.out.cell (World.block_lt_of_cell? w _ hx149_12)).trans hx149_12
            replace hx149_13 := (HB.out.cell (World.block_lt_of_cell? w _ hx149_13)).trans hx149_13
            have HR149_2 := Aside0.mk hi149_2
            have HC149_2 := Aside0.mk hl149_2
            clear hi149_2 hl149_2
            have HR149_5 := Aside0.mk hi149_5
            have HC149_5 := Aside0.mk hl149_5
            clear hi149_5 hl149_5
            have HR149_10 := Aside0.mk hi149_10
            have HC149_10 := Aside0.mk hl149_10
            clear hi149_10 hl149_10
            replace p149 := eq_true p149
            replace q149 := eq_true q149
            have ea_ := Option.some.inj (hx146_2.symm.trans hx149_2)
            injection ea_ with ea_ en_ ec_
            subst ea_
            subst ec_
            clear en_
            have ea_ := Option.some.inj (hx146_5.symm.trans hx149_5)
            injection ea_ with ea_ en_ ec_
            subst ea_
            subst ec_
            clear en_
            have ea_ := Option.some.inj (hx146_10.symm.trans hx149_10)
            injection ea_ with ea_ en_ ec_
            subst ea_
            subst ec_
            clear en_
            have p150 : 0 ≤ (x6_2 : Int) := of_decide_eq_true (by first | (with_reducible assumption) | assumption)
            have q150 : x6_2 < (((rd_T44 l0_2 x5_1).f2).length : Int) := of_decide_eq_true (by first | (with_reducible assumption) | assumption)
            obtain ⟨ad150, A150_6, c150_6, e150, hx150_0, hx150_1, hx150_2, hx150_3, hx150_4, hx150_5, hx150_6, hl150_6, hi150_6⟩ := at_T36 HR149_5.out x6_2 p150 q150
            cases e150
            replace hx150_0 := (HB.out.cell (World.block_lt_of_cell? w _ hx150_0)).trans hx150_0
            replace hx150_1 := (HB.out.cell (World.block_lt_of_cell? w _ hx150_1)).trans hx150_1
            replace hx150_2 := (HB.out.cell (World.block_lt_of_cell? w _ hx150_2)).trans hx150_2
            replace hx150_3 := (HB.out.cell (World.block_lt_of_cell? w _ hx150_3)).trans hx150_3
            replace hx150_4 := (HB.out.cell (World.block_lt_of_cell? w _ hx150_4)).trans hx150_4
            replace hx150_5 := (HB.out.cell (World.block_lt_of_cell? w _ hx150_5)).trans hx150_5
            replace hx150_6 := (HB.out.cell (World.block_lt_of_cell? w _ hx150_6)).trans hx150_6
            have HR150_6 := Aside0.mk hi150_6
            have HC150_6 := Aside0.mk hl150_6
            clear hi150_6 hl150_6
            replace p150 := eq_true p150
            replace q150 := eq_true q150
            go_wp2
            go_roundg k2
            case measure => have := HK1.out; have := HK2.out; omega
            case rel => exact ⟨(wrap64 (x6_2 + 1)), (by first | rfl | (simp; done) | (simp [*]; done)), H', ⟨by have := HK1.out; have := HK2.out; omega⟩, ⟨by (with_reducible repeat (first | refine blk_drewN ?_ _ | refine blk_drew ?_ | refine blk_alloc ?_ _)); exact BK145.out⟩, ⟨by repeat (first | (with_reducible first | exact HB.out | apply below_alloc | apply pw_below_drewN | apply below_drew1 | refine below_set ?_ GE145.out) | exact HB.out)⟩⟩
          ·rw [if_neg c10] at H
           have c10b0 : (((rd_T36 ((rd_T44 l0_2 x5_1).f2) x6_2).f0) == 11) = false := beq_eq_false_iff_ne.mpr c10
           have c10b1 : (((rd_T36 ((rd_T44 l0_2 x5_1).f2) x6_2).f0) != 11) = true := bne_iff_ne.mpr c10
           have H' := Aside0.mk H
           clear H
           have hcz14_0 : wr.cell? ⟨gb145, 0, none⟩ = some (.int .i64 a0_0) := (blk_cell BK145.out 0).trans rfl
           have hcz14_1 : wr.cell? ⟨gb145, 1, none⟩ = some (.int .i64 a0_1) := (blk_cell BK145.out 1).trans rfl
           have hcz14_2 : wr.cell? ⟨gb145, 2, none⟩ = some (.slice A0_2 l0_2.length c0_2) := (blk_cell BK145.out 2).trans rfl
           have hfz14_0 := blk_frozen BK145.out 0
           have hfz14_1 := blk_frozen BK145.out 1
           have hfz14_2 := blk_frozen BK145.out 2
           have p146 : 0 ≤ (x5_1 : Int) := of_decide_eq_true (by first | (with_reducible assumption) | assumption)
           have q146 : x5_1 < (l0_2.length : Int) := of_decide_eq_true (by first | (with_reducible assumption) | assumption)
           obtain ⟨ad146, A146_2, c146_2, A146_5, c146_5, A146_10, c146_10, e146, hx146_0, hx146_1, hx146_2, hx146_3, hx146_4, hx146_5, hx146_6, hx146_7, hx146_8, hx146_9, hx146_10, hx146_11, hx146_12, hx146_13, hl146_2, hi146_2, hl146_5, hi146_5, hl146_10, hi146_10⟩ := at_T44 HR0_2.out x5_1 p146 q146
           cases e146
           replace hx146_0 := (HB.out.cell (World.block_lt_of_cell? w _ hx146_0)).trans hx146_0
           replace hx146_1 := (HB.out.cell (World.block_lt_of_cell? w _ hx146_1)).trans hx146_1
           replace hx146_2 := (HB.out.cell (World.block_lt_of_cell? w _ hx146_2)).trans hx146_2
           replace hx146_3 := (HB.out.cell (World.block_lt_of_cell? w _ hx146_3)).trans hx146_3
           replace hx146_4 := (HB.out.cell (World.block_lt_of_cell? w _ hx146_4)).trans hx146_4
           replace hx146_5 := (HB.out.cell (World.block_lt_of_cell? w _ hx146_5)).trans hx146_5
           replace hx146_6 := (HB.out.cell (World.block_lt_of_cell? w _ hx146_6)).trans hx146_6
           replace hx146_7 := (HB.out.cell (World.block_lt_of_cell? w _ hx146_7)).trans hx146_7
           replace hx146_8 := (HB.out.cell (World.block_lt_of_cell? w _ hx146_8)).trans hx146_8
           replace hx146_9 := (HB.out.cell (World.block_lt_of_cell? w _ hx146_9)).trans hx146_9
           replace hx146_10 := (HB.out.cell (World.block_lt_of_cell? w _ hx146_10)).trans hx146_10
           replace hx146_11 := (HB.out.cell (World.block_lt_of_cell? w _ hx146_11)).trans hx146_11
           replace hx146_12 := (HB.out.cell (World.block_lt_of_cell? w _ hx146_12)).trans hx146_12
           replace hx146_13 := (HB.out.cell (World.block_lt_of_cell? w _ hx146_13)).trans hx146_13
           have HR146_2 := Aside0.mk hi146_2
           have HC146_2 := Aside0.mk hl146_2
           clear hi146_2 hl146_2
           have HR146_5 := Aside0.mk hi146_5
           have HC146_5 := Aside0.mk hl146_5
           clear hi146_5 hl146_5
           have HR146_10 := Aside0.mk hi146_10
           have HC146_10 := Aside0.mk hl146_10
           clear hi146_10 hl146_10
           replace p146 := eq_true p146
           replace q146 := eq_true q146
           have p147 : 0 ≤ (x5_1 : Int) := of_decide_eq_true (by first | (with_reducible assumption) | assumption)
           have q147 : x5_1 < (l0_2.length : Int) := of_decide_eq_true (by first | (with_reducible assumption) | assumption)
           obtain ⟨ad147, A147_2, c147_2, A147_5, c147_5, A147_10, c147_10, e147, hx147_0, hx147_1, hx147_2, hx147_3, hx147_4, hx147_5, hx147_6, hx147_7, hx147_8, hx147_9, hx147_10, hx147_11, hx147_12, hx147_13, hl147_2, hi147_2, hl147_5, hi147_5, hl147_10, hi147_10⟩ := at_T44 HR0_2.out x5_1 p147 q147
           obtain rfl : ad146 = ad147 := (by injection e147)
           replace hx147_0 := (HB.out.cell (World.block_lt_of_cell? w _ hx147_0)).trans hx147_0
           replace hx147_1 := (HB.out.cell (World.block_lt_of_cell? w _ hx147_1)).trans hx147_1
           replace hx147_2 := (HB.out.cell (World.block_lt_of_cell? w _ hx147_2)).trans hx147_2
           replace hx147_3 := (HB.out.cell (World.block_lt_of_cell? w _ hx147_3)).trans hx147_3
           replace hx147_4 := (HB.out.cell (World.block_lt_of_cell? w _ hx147_4)).trans hx147_4
           replace hx147_5 := (HB.out.cell (World.block_lt_of_cell? w _ hx147_5)).trans hx147_5
           replace hx147_6 := (HB.out.cell (World.block_lt_of_cell? w _ hx147_6)).trans hx147_6
           replace hx147_7 := (HB.out.cell (World.block_lt_of_cell? w _ hx147_7)).trans hx147_7
           replace hx147_8 := (HB.out.cell (World.block_lt_of_cell? w _ hx147_8)).trans hx147_8
           replace hx147_9 := (HB.out.cell (World.block_lt_of_cell? w _ hx147_9)).trans hx147_9
           replace hx147_10 := (HB.out.cell (World.block_lt_of_cell? w _ hx147_10)).trans hx147_10
           replace hx147_11 := (HB.out.cell (World.block_lt_of_cell? w _ hx147_11)).trans hx147_11
           replace hx147_12 := (HB.out.cell (World.block_lt_of_cell? w _ hx147_12)).trans hx147_12
           replace hx147_13 := (HB.out.cell (World.block_lt_of_cell? w _ hx147_13)).trans hx147_13
           have HR147_2 := Aside0.mk hi147_2
           have HC147_2 := Aside0.mk hl147_2
           clear hi147_2 hl147_2
           have HR147_5 := Aside0.mk hi147_5
           have HC147_5 := Aside0.mk hl147_5
           clear hi147_5 hl147_5
           have HR147_10 := Aside0.mk hi147_10
           have HC147_10 := Aside0.mk hl147_10
           clear hi147_10 hl147_10
           replace p147 := eq_true p147
           replace q147 := eq_true q147
           have ea_ := Option.some.inj (hx146_2.symm.trans hx147_2)
           injection ea_ with ea_ en_ ec_
           subst ea_
           subst ec_
           clear en_
           have ea_ := Option.some.inj (hx146_5.symm.trans hx147_5)
           injection ea_ with ea_ en_ ec_
           subst ea_
           subst ec_
           clear en_
           have ea_ := Option.some.inj (hx146_10.symm.trans hx147_10)
           injection ea_ with ea_ en_ ec_
           subst ea_
           subst ec_
           clear en_
           have p148 : 0 ≤ (x6_2 : Int) := of_decide_eq_true (by first | (with_reducible assumption) | assumption)
           have q148 : x6_2 < (((rd_T44 l0_2 x5_1).f2).length : Int) := of_decide_eq_true (by first | (with_reducible assumption) | assumption)
           obtain ⟨ad148, A148_6, c148_6, e148, hx148_0, hx148_1, hx148_2, hx148_3, hx148_4, hx148_5, hx148_6, hl148_6, hi148_6⟩ := at_T36 HR147_5.out x6_2 p148 q148
           cases e148
           replace hx148_0 := (HB.out.cell (World.block_lt_of_cell? w _ hx148_0)).trans hx148_0
           replace hx148_1 := (HB.out.cell (World.block_lt_of_cell? w _ hx148_1)).trans hx148_1
           replace hx148_2 := (HB.out.cell (World.block_lt_of_cell? w _ hx148_2)).trans hx148_2
           replace hx148_3 := (HB.out.cell (World.block_lt_of_cell? w _ hx148_3)).trans hx148_3
           replace hx148_4 := (HB.out.cell (World.block_lt_of_cell? w _ hx148_4)).trans hx148_4
           replace hx148_5 := (HB.out.cell (World.block_lt_of_cell? w _ hx148_5)).trans hx148_5
           replace hx148_6 := (HB.out.cell (World.block_lt_of_cell? w _ hx148_6)).trans hx148_6
           have HR148_6 := Aside0.mk hi148_6
           have HC148_6 := Aside0.mk hl148_6
           clear hi148_6 hl148_6
           replace p148 := eq_true p148
           replace q148 := eq_true q148
           go_wp2
           go_roundg k2
           case measure => have := HK1.out; have := HK2.out; omega
           case rel => exact ⟨(wrap64 (x6_2 + 1)), (by first | rfl | (simp; done) | (simp [*]; done)), H', ⟨by have := HK1.out; have := HK2.out; omega⟩, ⟨by (with_reducible repeat (first | refine blk_drewN ?_ _ | refine blk_drew ?_ | refine blk_alloc ?_ _)); exact BK145.out⟩, ⟨by repeat (first | (with_reducible first | exact HB.out | apply below_alloc | apply pw_below_drewN | apply below_drew1 | refine below_set ?_ GE145.out) | exact HB.out)⟩⟩
         ·rw [if_neg c9] at H
          exact absurd H (by simp)
        ·rw [if_neg c8] at H
         have c8b0 : decide (x6_2 < (((rd_T44 l0_2 x5_1).f2).length : Int)) = false := decide_eq_false c8
         clear c8
         by_cases c15 : ((rd_T44 l0_2 x5_1).f3.f0) = 4
         ·rw [if_pos c15] at H
          have c15b0 : (((rd_T44 l0_2 x5_1).f3.f0) == 4) = true := beq_iff_eq.mpr c15
          have c15b1 : (((rd_T44 l0_2 x5_1).f3.f0) != 4) = false := bne_eq_false_iff_eq.mpr c15
          clear c15
          by_cases c16 : ((rd_T44 l0_2 x5_1).f3.f3) = a1
          ·rw [if_pos c16] at H
           have c16b0 : (((rd_T44 l0_2 x5_1).f3.f3) == a1) = true := beq_iff_eq.mpr c16
           have c16b1 : (((rd_T44 l0_2 x5_1).f3.f3) != a1) = false := bne_eq_false_iff_eq.mpr c16
           clear c16
           obtain rfl := Option.some.inj H
           have hcz17_0 : wr.cell? ⟨gb145, 0, none⟩ = some (.int .i64 a0_0) := (blk_cell BK145.out 0).trans rfl
           have hcz17_1 : wr.cell? ⟨gb145, 1, none⟩ = some (.int .i64 a0_1) := (blk_cell BK145.out 1).trans rfl
           have hcz17_2 : wr.cell? ⟨gb145, 2, none⟩ = some (.slice A0_2 l0_2.length c0_2) := (blk_cell BK145.out 2).trans rfl
           have hfz17_0 := blk_frozen BK145.out 0
           have hfz17_1 := blk_frozen BK145.out 1
           have hfz17_2 := blk_frozen BK145.out 2
           have p146 : 0 ≤ (x5_1 : Int) := of_decide_eq_true (by first | (with_reducible assumption) | assumption)
           have q146 : x5_1 < (l0_2.length : Int) := of_decide_eq_true (by first | (with_reducible assumption) | assumption)
           obtain ⟨ad146, A146_2, c146_2, A146_5, c146_5, A146_10, c146_10, e146, hx146_0, hx146_1, hx146_2, hx146_3, hx146_4, hx146_5, hx146_6, hx146_7, hx146_8, hx146_9, hx146_10, hx146_11, hx146_12, hx146_13, hl146_2, hi146_2, hl146_5, hi146_5, hl146_10, hi146_10⟩ := at_T44 HR0_2.out x5_1 p146 q146
           cases e146
           replace hx146_0 := (HB.out.cell (World.block_lt_of_cell? w _ hx146_0)).trans hx146_0
           replace hx146_1 := (HB.out.cell (World.block_lt_of_cell? w _ hx146_1)).trans hx146_1
           replace hx146_2 := (HB.out.cell (World.block_lt_of_cell? w _ hx146_2)).trans hx146_2
           replace hx146_3 := (HB.out.cell (World.block_lt_of_cell? w _ hx146_3)).trans hx146_3
           replace hx146_4 := (HB.out.cell (World.block_lt_of_cell? w _ hx146_4)).trans hx146_4
           replace hx146_5 := (HB.out.cell (World.block_lt_of_cell? w _ hx146_5)).trans hx146_5
           replace hx146_6 := (HB.out.cell (World.block_lt_of_cell? w _ hx146_6)).trans hx146_6
           replace hx146_7 := (HB.out.cell (World.block_lt_of_cell? w _ hx146_7)).trans hx146_7
           replace hx146_8 := (HB.out.cell (World.block_lt_of_cell? w _ hx146_8)).trans hx146_8
           replace hx146_9 := (HB.out.cell (World.block_lt_of_cell? w _ hx146_9)).trans hx146_9
           replace hx146_10 := (HB.out.cell (World.block_lt_of_cell? w _ hx146_10)).trans hx146_10
           replace hx146_11 := (HB.out.cell (World.block_lt_of_cell? w _ hx146_11)).trans hx146_11
           replace hx146_12 := (HB.out.cell (World.block_lt_of_cell? w _ hx146_12)).trans hx146_12
           replace hx146_13 := (HB.out.cell (World.block_lt_of_cell? w _ hx146_13)).trans hx146_13
           have HR146_2 := Aside0.mk hi146_2
           have HC146_2 := Aside0.mk hl146_2
           clear hi146_2 hl146_2
           have HR146_5 := Aside0.mk hi146_5
           have HC146_5 := Aside0.mk hl146_5
           clear hi146_5 hl146_5
           have HR146_10 := Aside0.mk hi146_10
           have HC146_10 := Aside0.mk hl146_10
           clear hi146_10 hl146_10
           replace p146 := eq_true p146
           replace q146 := eq_true q146
           have p151 : 0 ≤ (x5_1 : Int) := of_decide_eq_true (by first | (with_reducible assumption) | assumption)
           have q151 : x5_1 < (l0_2.length : Int) := of_decide_eq_true (by first | (with_reducible assumption) | assumption)
           obtain ⟨ad151, A151_2, c151_2, A151_5, c151_5, A151_10, c151_10, e151, hx151_0, hx151_1, hx151_2, hx151_3, hx151_4, hx151_5, hx151_6, hx151_7, hx151_8, hx151_9, hx151_10, hx151_11, hx151_12, hx151_13, hl151_2, hi151_2, hl151_5, hi151_5, hl151_10, hi151_10⟩ := at_T44 HR0_2.out x5_1 p151 q151
           obtain rfl : ad146 = ad151 := (by injection e151)
           replace hx151_0 := (HB.out.cell (World.block_lt_of_cell? w _ hx151_0)).trans hx151_0
           replace hx151_1 := (HB.out.cell (World.block_lt_of_cell? w _ hx151_1)).trans hx151_1
           replace hx151_2 := (HB.out.cell (World.block_lt_of_cell? w _ hx151_2)).trans hx151_2
           replace hx151_3 := (HB.out.cell (World.block_lt_of_cell? w _ hx151_3)).trans hx151_3
           replace hx151_4 := (HB.out.cell (World.block_lt_of_cell? w _ hx151_4)).trans hx151_4
           replace hx151_5 := (HB.out.cell (World.block_lt_of_cell? w _ hx151_5)).trans hx151_5
           replace hx151_6 := (HB.out.cell (World.block_lt_of_cell? w _ hx151_6)).trans hx151_6
           replace hx151_7 := (HB.out.cell (World.block_lt_of_cell? w _ hx151_7)).trans hx151_7
           replace hx151_8 := (HB.out.cell (World.block_lt_of_cell? w _ hx151_8)).trans hx151_8
           replace hx151_9 := (HB.out.cell (World.block_lt_of_cell? w _ hx151_9)).trans hx151_9
           replace hx151_10 := (HB.out.cell (World.block_lt_of_cell? w _ hx151_10)).trans hx151_10
           replace hx151_11 := (HB.out.cell (World.block_lt_of_cell? w _ hx151_11)).trans hx151_11
           replace hx151_12 := (HB.out.cell (World.block_lt_of_cell? w _ hx151_12)).trans hx151_12
           replace hx151_13 := (HB.out.cell (World.block_lt_of_cell? w _ hx151_13)).trans hx151_13
           have HR151_2 := Aside0.mk hi151_2
           have HC151_2 := Aside0.mk hl151_2
           clear hi151_2 hl151_2
           have HR151_5 := Aside0.mk hi151_5
           have HC151_5 := Aside0.mk hl151_5
           clear hi151_5 hl151_5
           have HR151_10 := Aside0.mk hi151_10
           have HC151_10 := Aside0.mk hl151_10
           clear hi151_10 hl151_10
           replace p151 := eq_true p151
           replace q151 := eq_true q151
           have ea_ := Option.some.inj (hx146_2.symm.trans hx151_2)
           injection ea_ with ea_ en_ ec_
           subst ea_
           subst ec_
           clear en_
           have ea_ := Option.some.inj (hx146_5.symm.trans hx151_5)
           injection ea_ with ea_ en_ ec_
           subst ea_
           subst ec_
           clear en_
           have ea_ := Option.some.inj (hx146_10.symm.trans hx151_10)
           injection ea_ with ea_ en_ ec_
           subst ea_
           subst ec_
           clear en_
           have p152 : 0 ≤ (x5_1 : Int) := of_decide_eq_true (by first | (with_reducible assumption) | assumption)
           have q152 : x5_1 < (l0_2.length : Int) := of_decide_eq_true (by first | (with_reducible assumption) | assumption)
           obtain ⟨ad152, A152_2, c152_2, A152_5, c152_5, A152_10, c152_10, e152, hx152_0, hx152_1, hx152_2, hx152_3, hx152_4, hx152_5, hx152_6, hx152_7, hx152_8, hx152_9, hx152_10, hx152_11, hx152_12, hx152_13, hl152_2, hi152_2, hl152_5, hi152_5, hl152_10, hi152_10⟩ := at_T44 HR0_2.out x5_1 p152 q152
           obtain rfl : ad146 = ad152 := (by injection e152)
           replace hx152_0 := (HB.out.cell (World.block_lt_of_cell? w _ hx152_0)).trans hx152_0
           replace hx152_1 := (HB.out.cell (World.block_lt_of_cell? w _ hx152_1)).trans hx152_1
           replace hx152_2 := (HB.out.cell (World.block_lt_of_cell? w _ hx152_2)).trans hx152_2
           replace hx152_3 := (HB.out.cell (World.block_lt_of_cell? w _ hx152_3)).trans hx152_3
           replace hx152_4 := (HB.out.cell (World.block_lt_of_cell? w _ hx152_4)).trans hx152_4
           replace hx152_5 := (HB.out.cell (World.block_lt_of_cell? w _ hx152_5)).trans hx152_5
           replace hx152_6 := (HB.out.cell (World.block_lt_of_cell? w _ hx152_6)).trans hx152_6
           replace hx152_7 := (HB.out.cell (World.block_lt_of_cell? w _ hx152_7)).trans hx152_7
           replace hx152_8 := (HB.out.cell (World.block_lt_of_cell? w _ hx152_8)).trans hx152_8
           replace hx152_9 := (HB.out.cell (World.block_lt_of_cell? w _ hx152_9)).trans hx152_9
           replace hx152_10 := (HB.out.cell (World.block_lt_of_cell? w _ hx152_10)).trans hx152_10
           replace hx152_11 := (HB.out.cell (World.block_lt_of_cell? w _ hx152_11)).trans hx152_11
           replace hx152_12 := (HB.out.cell (World.block_lt_of_cell? w _ hx152_12)).trans hx152_12
           replace hx152_13 := (HB.out.cell (World.block_lt_of_cell? w _ hx152_13)).trans hx152_13
           have HR152_2 := Aside0.mk hi152_2
           have HC152_2 := Aside0.mk hl152_2
           clear hi152_2 hl152_2
           have HR152_5 := Aside0.mk hi152_5
           have HC152_5 := Aside0.mk hl152_5
           clear hi152_5 hl152_5
           have HR152_10 := Aside0.mk hi152_10
           have HC152_10 := Aside0.mk hl152_10
           clear hi152_10 hl152_10
           replace p152 := eq_true p152
           replace q152 := eq_true q152
           have ea_ := Option.some.inj (hx146_2.symm.trans hx152_2)
           injection ea_ with ea_ en_ ec_
           subst ea_
           subst ec_
           clear en_
           have ea_ := Option.some.inj (hx146_5.symm.trans hx152_5)
           injection ea_ with ea_ en_ ec_
           subst ea_
           subst ec_
           clear en_
           have ea_ := Option.some.inj (hx146_10.symm.trans hx152_10)
           injection ea_ with ea_ en_ ec_
           subst ea_
           subst ec_
           clear en_
           go_wp2
           go_ret
           exact ⟨by first | rfl | (simp [errW_none, errW_some] <;> rfl) | (simp [*, errW_none, errW_some] <;> rfl), by repeat (first | (with_reducible first | exact HB.out | apply below_alloc | apply pw_below_drewN | apply below_drew1 | refine below_set ?_ GE145.out) | exact HB.out)⟩
          ·rw [if_neg c16] at H
           have c16b0 : (((rd_T44 l0_2 x5_1).f3.f3) == a1) = false := beq_eq_false_iff_ne.mpr c16
           have c16b1 : (((rd_T44 l0_2 x5_1).f3.f3) != a1) = true := bne_iff_ne.mpr c16
           have H' := Aside0.mk H
           clear H
           have hcz18_0 : wr.cell? ⟨gb145, 0, none⟩ = some (.int .i64 a0_0) := (blk_cell BK145.out 0).trans rfl
           have hcz18_1 : wr.cell? ⟨gb145, 1, none⟩ = some (.int .i64 a0_1) := (blk_cell BK145.out 1).trans rfl
           have hcz18_2 : wr.cell? ⟨gb145, 2, none⟩ = some (.slice A0_2 l0_2.length c0_2) := (blk_cell BK145.out 2).trans rfl
           have hfz18_0 := blk_frozen BK145.out 0
           have hfz18_1 := blk_frozen BK145.out 1
           have hfz18_2 := blk_frozen BK145.out 2
           have p146 : 0 ≤ (x5_1 : Int) := of_decide_eq_true (by first | (with_reducible assumption) | assumption)
           have q146 : x5_1 < (l0_2.length : Int) := of_decide_eq_true (by first | (with_reducible assumption) | assumption)
           obtain ⟨ad146, A146_2, c146_2, A146_5, c146_5, A146_10, c146_10, e146, hx146_0, hx146_1, hx146_2, hx146_3, hx146_4, hx146_5, hx146_6, hx146_7, hx146_8, hx146_9, hx146_10, hx146_11, hx146_12, hx146_13, hl146_2, hi146_2, hl146_5, hi146_5, hl146_10, hi146_10⟩ := at_T44 HR0_2.out x5_1 p146 q146
           cases e146
           replace hx146_0 := (HB.out.cell (World.block_lt_of_cell? w _ hx146_0)).trans hx146_0
           replace hx146_1 := (HB.out.cell (World.block_lt_of_cell? w _ hx146_1)).trans hx146_1
           replace hx146_2 := (HB.out.cell (World.block_lt_of_cell? w _ hx146_2)).trans hx146_2
           replace hx146_3 := (HB.out.cell (World.block_lt_of_cell? w _ hx146_3)).trans hx146_3
           replace hx146_4 := (HB.out.cell (World.block_lt_of_cell? w _ hx146_4)).trans hx146_4
           replace hx146_5 := (HB.out.cell (World.block_lt_of_cell? w _ hx146_5)).trans hx146_5
           replace hx146_6 := (HB.out.cell (World.block_lt_of_cell? w _ hx146_6)).trans hx146_6
           replace hx146_7 := (HB.out.cell (World.block_lt_of_cell? w _ hx146_7)).trans hx146_7
           replace hx146_8 := (HB.out.cell (World.block_lt_of_cell? w _ hx146_8)).trans hx146_8
           replace hx146_9 := (HB.out.cell (World.block_lt_of_cell? w _ hx146_9)).trans hx146_9
           replace hx146_10 := (HB.out.cell (World.block_lt_of_cell? w _ hx146_10)).trans hx146_10
           replace hx146_11 := (HB.out.cell (World.block_lt_of_cell? w _ hx146_11)).trans hx146_11
           replace hx146_12 := (HB.out.cell (World.block_lt_of_cell? w _ hx146_12)).trans hx146_12
           replace hx146_13 := (HB.out.cell (World.block_lt_of_cell? w _ hx146_13)).trans hx146_13
           have HR146_2 := Aside0.mk hi146_2
           have HC146_2 := Aside0.mk hl146_2
           clear hi146_2 hl146_2
           have HR146_5 := Aside0.mk hi146_5
           have HC146_5 := Aside0.mk hl146_5
           clear hi146_5 hl146_5
           have HR146_10 := Aside0.mk hi146_10
           have HC146_10 := Aside0.mk hl146_10
           clear hi146_10 hl146_10
           replace p146 := eq_true p146
           replace q146 := eq_true q146
           have p151 : 0 ≤ (x5_1 : Int) := of_decide_eq_true (by first | (with_reducible assumption) | assumption)
           have q151 : x5_1 < (l0_2.length : Int) := of_decide_eq_true (by first | (with_reducible assumption) | assumption)
           obtain ⟨ad151, A151_2, c151_2, A151_5, c151_5, A151_10, c151_10, e151, hx151_0, hx151_1, hx151_2, hx151_3, hx151_4, hx151_5, hx151_6, hx151_7, hx151_8, hx151_9, hx151_10, hx151_11, hx151_12, hx151_13, hl151_2, hi151_2, hl151_5, hi151_5, hl151_10, hi151_10⟩ := at_T44 HR0_2.out x5_1 p151 q151
           obtain rfl : ad146 = ad151 := (by injection e151)
           replace hx151_0 := (HB.out.cell (World.block_lt_of_cell? w _ hx151_0)).trans hx151_0
           replace hx151_1 := (HB.out.cell (World.block_lt_of_cell? w _ hx151_1)).trans hx151_1
           replace hx151_2 := (HB.out.cell (World.block_lt_of_cell? w _ hx151_2)).trans hx151_2
           replace hx151_3 := (HB.out.cell (World.block_lt_of_cell? w _ hx151_3)).trans hx151_3
           replace hx151_4 := (HB.out.cell (World.block_lt_of_cell? w _ hx151_4)).trans hx151_4
           replace hx151_5 := (HB.out.cell (World.block_lt_of_cell? w _ hx151_5)).trans hx151_5
           replace hx151_6 := (HB.out.cell (World.block_lt_of_cell? w _ hx151_6)).trans hx151_6
           replace hx151_7 := (HB.out.cell (World.block_lt_of_cell? w _ hx151_7)).trans hx151_7
           replace hx151_8 := (HB.out.cell (World.block_lt_of_cell? w _ hx151_8)).trans hx151_8
           replace hx151_9 := (HB.out.cell (World.block_lt_of_cell? w _ hx151_9)).trans hx151_9
           replace hx151_10 := (HB.out.cell (World.block_lt_of_cell? w _ hx151_10)).trans hx151_10
           replace hx151_11 := (HB.out.cell (World.block_lt_of_cell? w _ hx151_11)).trans hx151_11
           replace hx151_12 := (HB.out.cell (World.block_lt_of_cell? w _ hx151_12)).trans hx151_12
           replace hx151_13 := (HB.out.cell (World.block_lt_of_cell? w _ hx151_13)).trans hx151_13
           have HR151_2 := Aside0.mk hi151_2
           have HC151_2 := Aside0.mk hl151_2
           clear hi151_2 hl151_2
           have HR151_5 := Aside0.mk hi151_5
           have HC151_5 := Aside0.mk hl151_5
           clear hi151_5 hl151_5
           have HR151_10 := Aside0.mk hi151_10
           have HC151_10 := Aside0.mk hl151_10
           clear hi151_10 hl151_10
           replace p151 := eq_true p151
           replace q151 := eq_true q151
           have ea_ := Option.some.inj (hx146_2.symm.trans hx151_2)
           injection ea_ with ea_ en_ ec_
           subst ea_
           subst ec_
           clear en_
           have ea_ := Option.some.inj (hx146_5.symm.trans hx151_5)
           injection ea_ with ea_ en_ ec_
           subst ea_
           subst ec_
           clear en_
           have ea_ := Option.some.inj (hx146_10.symm.trans hx151_10)
           injection ea_ with ea_ en_ ec_
           subst ea_
           subst ec_
           clear en_
           have p152 : 0 ≤ (x5_1 : Int) := of_decide_eq_true (by first | (with_reducible assumption) | assumption)
           have q152 : x5_1 < (l0_2.length : Int) := of_decide_eq_true (by first | (with_reducible assumption) | assumption)
           obtain ⟨ad152, A152_2, c152_2, A152_5, c152_5, A152_10, c152_10, e152, hx152_0, hx152_1, hx152_2, hx152_3, hx152_4, hx152_5, hx152_6, hx152_7, hx152_8, hx152_9, hx152_10, hx152_11, hx152_12, hx152_13, hl152_2, hi152_2, hl152_5, hi152_5, hl152_10, hi152_10⟩ := at_T44 HR0_2.out x5_1 p152 q152
           obtain rfl : ad146 = ad152 := (by injection e152)
           replace hx152_0 := (HB.out.cell (World.block_lt_of_cell? w _ hx152_0)).trans hx152_0
           replace hx152_1 := (HB.out.cell (World.block_lt_of_cell? w _ hx152_1)).trans hx152_1
           replace hx152_2 := (HB.out.cell (World.block_lt_of_cell? w _ hx152_2)).trans hx152_2
           replace hx152_3 := (HB.out.cell (World.block_lt_of_cell? w _ hx152_3)).trans hx152_3
           replace hx152_4 := (HB.out.cell (World.block_lt_of_cell? w _ hx152_4)).trans hx152_4
           replace hx152_5 := (HB.out.cell (World.block_lt_of_cell? w _ hx152_5)).trans hx152_5
           replace hx152_6 := (HB.out.cell (World.block_lt_of_cell? w _ hx152_6)).trans hx152_6
           replace hx152_7 := (HB.out.cell (World.block_lt_of_cell? w _ hx152_7)).trans hx152_7
           replace hx152_8 := (HB.out.cell (World.block_lt_of_cell? w _ hx152_8)).trans hx152_8
           replace hx152_9 := (HB.out.cell (World.block_lt_of_cell? w _ hx152_9)).trans hx152_9
           replace hx152_10 := (HB.out.cell (World.block_lt_of_cell? w _ hx152_10)).trans hx152_10
           replace hx152_11 := (HB.out.cell (World.block_lt_of_cell? w _ hx152_11)).trans hx152_11
           replace hx152_12 := (HB.out.cell (World.block_lt_of_cell? w _ hx152_12)).trans hx152_12
           replace hx152_13 := (HB.out.cell (World.block_lt_of_cell? w _ hx152_13)).trans hx152_13
           have HR152_2 := Aside0.mk hi152_2
           have HC152_2 := Aside0.mk hl152_2
           clear hi152_2 hl152_2
           have HR152_5 := Aside0.mk hi152_5
           have HC152_5 := Aside0.mk hl152_5
           clear hi152_5 hl152_5
           have HR152_10 := Aside0.mk hi152_10
           have HC152_10 := Aside0.mk hl152_10
           clear hi152_10 hl152_10
           replace p152 := eq_true p152
           replace q152 := eq_true q152
           have ea_ := Option.some.inj (hx146_2.symm.trans hx152_2)
           injection ea_ with ea_ en_ ec_
           subst ea_
           subst ec_
           clear en_
           have ea_ := Option.some.inj (hx146_5.symm.trans hx152_5)
           injection ea_ with ea_ en_ ec_
           subst ea_
           subst ec_
           clear en_
           have ea_ := Option.some.inj (hx146_10.symm.trans hx152_10)
           injection ea_ with ea_ en_ ec_
           subst ea_
           subst ec_
           clear en_
           go_wp2
           go_roundg k2
           case measure => have := HK1.out; have := HK2.out; omega
           case rel => exact ⟨(wrap64 (x5_1 + 1)), (by first | rfl | (simp; done) | (simp [*]; done)), H', ⟨by have := HK1.out; have := HK2.out; omega⟩, ⟨by (with_reducible repeat (first | refine blk_drewN ?_ _ | refine blk_drew ?_ | refine blk_alloc ?_ _)); exact BK145.out⟩, ⟨by repeat (first | (with_reducible first | exact HB.out | apply below_alloc | apply pw_below_drewN | apply below_drew1 | refine below_set ?_ GE145.out) | exact HB.out)⟩⟩
         ·rw [if_neg c15] at H
          have c15b0 : (((rd_T44 l0_2 x5_1).f3.f0) == 4) = false := beq_eq_false_iff_ne.mpr c15
          have c15b1 : (((rd_T44 l0_2 x5_1).f3.f0) != 4) = true := bne_iff_ne.mpr c15
          have H' := Aside0.mk H
          clear H
          have hcz19_0 : wr.cell? ⟨gb145, 0, none⟩ = some (.int .i64 a0_0) := (blk_cell BK145.out 0).trans rfl
          have hcz19_1 : wr.cell? ⟨gb145, 1, none⟩ = some (.int .i64 a0_1) := (blk_cell BK145.out 1).trans rfl
          have hcz19_2 : wr.cell? ⟨gb145, 2, none⟩ = some (.slice A0_2 l0_2.length c0_2) := (blk_cell BK145.out 2).trans rfl
          have hfz19_0 := blk_frozen BK145.out 0
          have hfz19_1 := blk_frozen BK145.out 1
          have hfz19_2 := blk_frozen BK145.out 2
          have p146 : 0 ≤ (x5_1 : Int) := of_decide_eq_true (by first | (with_reducible assumption) | assumption)
          have q146 : x5_1 < (l0_2.length : Int) := of_decide_eq_true (by first | (with_reducible assumption) | assumption)
          obtain ⟨ad146, A146_2, c146_2, A146_5, c146_5, A146_10, c146_10, e146, hx146_0, hx146_1, hx146_2, hx146_3, hx146_4, hx146_5, hx146_6, hx146_7, hx146_8, hx146_9, hx146_10, hx146_11, hx146_12, hx146_13, hl146_2, hi146_2, hl146_5, hi146_5, hl146_10, hi146_10⟩ := at_T44 HR0_2.out x5_1 p146 q146
          cases e146
          replace hx146_0 := (HB.out.cell (World.block_lt_of_cell? w _ hx146_0)).trans hx146_0
          replace hx146_1 := (HB.out.cell (World.block_lt_of_cell? w _ hx146_1)).trans hx146_1
          replace hx146_2 := (HB.out.cell (World.block_lt_of_cell? w _ hx146_2)).trans hx146_2
          replace hx146_3 := (HB.out.cell (World.block_lt_of_cell? w _ hx146_3)).trans hx146_3
          replace hx146_4 := (HB.out.cell (World.block_lt_of_cell? w _ hx146_4)).trans hx146_4
          replace hx146_5 := (HB.out.cell (World.block_lt_of_cell? w _ hx146_5)).trans hx146_5
          replace hx146_6 := (HB.out.cell (World.block_lt_of_cell? w _ hx146_6)).trans hx146_6
          replace hx146_7 := (HB.out.cell (World.block_lt_of_cell? w _ hx146_7)).trans hx146_7
          replace hx146_8 := (HB.out.cell (World.block_lt_of_cell? w _ hx146_8)).trans hx146_8
          replace hx146_9 := (HB.out.cell (World.block_lt_of_cell? w _ hx146_9)).trans hx146_9
          replace hx146_10 := (HB.out.cell (World.block_lt_of_cell? w _ hx146_10)).trans hx146_10
          replace hx146_11 := (HB.out.cell (World.block_lt_of_cell? w _ hx146_11)).trans hx146_11
          replace hx146_12 := (HB.out.cell (World.block_lt_of_cell? w _ hx146_12)).trans hx146_12
          replace hx146_13 := (HB.out.cell (World.block_lt_of_cell? w _ hx146_13)).trans hx146_13
          have HR146_2 := Aside0.mk hi146_2
          have HC146_2 := Aside0.mk hl146_2
          clear hi146_2 hl146_2
          have HR146_5 := Aside0.mk hi146_5
          have HC146_5 := Aside0.mk hl146_5
          clear hi146_5 hl146_5
          have HR146_10 := Aside0.mk hi146_10
          have HC146_10 := Aside0.mk hl146_10
          clear hi146_10 hl146_10
          replace p146 := eq_true p146
          replace q146 := eq_true q146
          have p151 : 0 ≤ (x5_1 : Int) := of_decide_eq_true (by first | (with_reducible assumption) | assumption)
          have q151 : x5_1 < (l0_2.length : Int) := of_decide_eq_true (by first | (with_reducible assumption) | assumption)
          obtain ⟨ad151, A151_2, c151_2, A151_5, c151_5, A151_10, c151_10, e151, hx151_0, hx151_1, hx151_2, hx151_3, hx151_4, hx151_5, hx151_6, hx151_7, hx151_8, hx151_9, hx151_10, hx151_11, hx151_12, hx151_13, hl151_2, hi151_2, hl151_5, hi151_5, hl151_10, hi151_10⟩ := at_T44 HR0_2.out x5_1 p151 q151
          obtain rfl : ad146 = ad151 := (by injection e151)
          replace hx151_0 := (HB.out.cell (World.block_lt_of_cell? w _ hx151_0)).trans hx151_0
          replace hx151_1 := (HB.out.cell (World.block_lt_of_cell? w _ hx151_1)).trans hx151_1
          replace hx151_2 := (HB.out.cell (World.block_lt_of_cell? w _ hx151_2)).trans hx151_2
          replace hx151_3 := (HB.out.cell (World.block_lt_of_cell? w _ hx151_3)).trans hx151_3
          replace hx151_4 := (HB.out.cell (World.block_lt_of_cell? w _ hx151_4)).trans hx151_4
          replace hx151_5 := (HB.out.cell (World.block_lt_of_cell? w _ hx151_5)).trans hx151_5
          replace hx151_6 := (HB.out.cell (World.block_lt_of_cell? w _ hx151_6)).trans hx151_6
          replace hx151_7 := (HB.out.cell (World.block_lt_of_cell? w _ hx151_7)).trans hx151_7
          replace hx151_8 := (HB.out.cell (World.block_lt_of_cell? w _ hx151_8)).trans hx151_8
          replace hx151_9 := (HB.out.cell (World.block_lt_of_cell? w _ hx151_9)).trans hx151_9
          replace hx151_10 := (HB.out.cell (World.block_lt_of_cell? w _ hx151_10)).trans hx151_10
          replace hx151_11 := (HB.out.cell (World.block_lt_of_cell? w _ hx151_11)).trans hx151_11
          replace hx151_12 := (HB.out.cell (World.block_lt_of_cell? w _ hx151_12)).trans hx151_12
          replace hx151_13 := (HB.out.cell (World.block_lt_of_cell? w _ hx151_13)).trans hx151_13
          have HR151_2 := Aside0.mk hi151_2
          have HC151_2 := Aside0.mk hl151_2
          clear hi151_2 hl151_2
          have HR151_5 := Aside0.mk hi151_5
          have HC151_5 := Aside0.mk hl151_5
          clear hi151_5 hl151_5
          have HR151_10 := Aside0.mk hi151_10
          have HC151_10 := Aside0.mk hl151_10
          clear hi151_10 hl151_10
          replace p151 := eq_true p151
          replace q151 := eq_true q151
          have ea_ := Option.some.inj (hx146_2.symm.trans hx151_2)
          injection ea_ with ea_ en_ ec_
          subst ea_
          subst ec_
          clear en_
          have ea_ := Option.some.inj (hx146_5.symm.trans hx151_5)
          injection ea_ with ea_ en_ ec_
          subst ea_
          subst ec_
          clear en_
          have ea_ := Option.some.inj (hx146_10.symm.trans hx151_10)
          injection ea_ with ea_ en_ ec_
          subst ea_
          subst ec_
          clear en_
          go_wp2
          go_roundg k2
          case measure => have := HK1.out; have := HK2.out; omega
          case rel => exact ⟨(wrap64 (x5_1 + 1)), (by first | rfl | (simp; done) | (simp [*]; done)), H', ⟨by have := HK1.out; have := HK2.out; omega⟩, ⟨by (with_reducible repeat (first | refine blk_drewN ?_ _ | refine blk_drew ?_ | refine blk_alloc ?_ _)); exact BK145.out⟩, ⟨by repeat (first | (with_reducible first | exact HB.out | apply below_alloc | apply pw_below_drewN | apply below_drew1 | refine below_set ?_ GE145.out) | exact HB.out)⟩⟩
       ·rw [if_neg c7] at H
        exact absurd H (by simp)
      ·rw [if_neg c6] at H
       exact absurd H (by simp)
   ·rw [if_neg c4] at H
    have c4b0 : decide (x5_1 < (l0_2.length : Int)) = false := decide_eq_false c4
    clear c4
    obtain rfl := Option.some.inj H
    have hcz20_0 : wr.cell? ⟨gb145, 0, none⟩ = some (.int .i64 a0_0) := (blk_cell BK145.out 0).trans rfl
    have hcz20_1 : wr.cell? ⟨gb145, 1, none⟩ = some (.int .i64 a0_1) := (blk_cell BK145.out 1).trans rfl
    have hcz20_2 : wr.cell? ⟨gb145, 2, none⟩ = some (.slice A0_2 l0_2.length c0_2) := (blk_cell BK145.out 2).trans rfl
    have hfz20_0 := blk_frozen BK145.out 0
    have hfz20_1 := blk_frozen BK145.out 1
    have hfz20_2 := blk_frozen BK145.out 2
    go_wp2
    go_ret
    exact ⟨by first | rfl | (simp [errW_none, errW_some] <;> rfl) | (simp [*, errW_none, errW_some] <;> rfl), by repeat (first | (with_reducible first | exact HB.out | apply below_alloc | apply pw_below_drewN | apply below_drew1 | refine below_set ?_ GE145.out) | exact HB.out)⟩
end
end Go.Proofs.Ytjjcnbfmmhokeaa.X
namespace Go.Proofs.Ytjjcnbfmmhokeaa.X
open Go.RowKit Go.Proofs.YtjjcnbfmmhokeaaW.PrintWords Go.Proofs.YtjjcnbfmmhokeaaW.PrintLast Go.Proofs.YtjjcnbfmmhokeaaW.PrintMore
attribute [local go_sem] max2_int min2_int max_two min_two max_three min_three max_four min_four
set_option linter.all false
noncomputable section
def davitref11_Of.l0 : Nat → Int → List Int → Int → List (S33) → Option (List Int)
 | 0, _, _, _, _ => none
 | k + 1, x1, x5, x6, x154000 => if x6 < (x154000.length : Int) then (if x1 ≥ 0 then (if x1 < (x154000.length : Int) then (if 0 ≤ x1 then ((davitref11_Calls.f k ((rd_T33 x154000 x1).f0) ((rd_T33 x154000 x1).f1) ((rd_T33 x154000 x1).f2) x6).bind fun t155 => (if t155 = true then (if x5.length < 17592186044416 then (davitref11_Of.l0 k x1 (x5 ++ [x6]) (wrap64 (x6 + 1)) x154000) else (none)) else (davitref11_Of.l0 k x1 x5 (wrap64 (x6 + 1)) x154000))) else (none)) else (davitref11_Of.l0 k x1 x5 (wrap64 (x6 + 1)) x154000)) else (davitref11_Of.l0 k x1 x5 (wrap64 (x6 + 1)) x154000)) else (some x5)
def davitref11_Of.f (k : Nat) (l0_0 : List (S33)) (a1 : Int) : Option (List Int) := davitref11_Of.l0 k a1 ([] : List Int) 0 l0_0
theorem davitref11_Of.mono_l : ∀ k, (∀ y0 y1 y2 y3, LeO (davitref11_Of.l0 k y0 y1 y2 y3) (davitref11_Of.l0 (k + 1) y0 y1 y2 y3))
 | 0 => fun _ _ _ _ r h => by simp [davitref11_Of.l0] at h
 | k + 1 => by
  have ih0 := davitref11_Of.mono_l k
  ·intro y0 y1 y2 y3
   unfold davitref11_Of.l0
   repeat' first
   | (with_reducible exact ih0 _ _ _ _)
   | (with_reducible exact davitref11_Calls.mono _ _ _ _ _)
   | (with_reducible exact LeO.refl _)
   | (with_reducible exact LeO.none _)
   | (with_reducible refine LeO.ite ?_ ?_)
   | (with_reducible refine LeO.bind ?_ (fun _ => ?_))
   | exact ih0 _ _ _ _
   | exact davitref11_Calls.mono _ _ _ _ _
   | exact LeO.none _
   | refine LeO.ite ?_ ?_
   | refine LeO.bind ?_ (fun _ => ?_)
theorem davitref11_Of.mono : ∀ a0 a1 k, LeO (davitref11_Of.f k a0 a1) (davitref11_Of.f (k + 1) a0 a1) := by
 intro a0 a1 k
 have ih0 := davitref11_Of.mono_l k
 unfold davitref11_Of.f
 repeat' first
   | (with_reducible exact ih0 _ _ _ _)
   | (with_reducible exact davitref11_Calls.mono _ _ _ _ _)
   | (with_reducible exact LeO.refl _)
   | (with_reducible exact LeO.none _)
   | (with_reducible refine LeO.ite ?_ ?_)
   | (with_reducible refine LeO.bind ?_ (fun _ => ?_))
   | exact ih0 _ _ _ _
   | exact davitref11_Calls.mono _ _ _ _ _
   | exact LeO.none _
   | refine LeO.ite ?_ ?_
   | refine LeO.bind ?_ (fun _ => ?_)
set_option maxHeartbeats 8000000 in
set_option maxRecDepth 100000 in
theorem davitref11_Of.calls (k : Nat) (A0_0 : Option Addr) (c0_0 : Nat) (l0_0 : List (S33)) (a1 : Int) (r : List Int) (w : World) (hr0_0 : Kd.C k33 w A0_0 l0_0.length l0_0) (hc0_0 : l0_0.length ≤ c0_0) (h : davitref11_Of.f k l0_0 a1 = some r) :
  Calls Try.prog 13 #[.agg #[.slice A0_0 l0_0.length c0_0], .int .i64 a1] w fun e w' => ∃ v0_ : Value, e = .returned (v0_) ∧ Kd.R (Kd.int .i64) 3 w' w.heap.size (fun _ => True) v0_ r ∧ Below w.heap.size w w' := by
 have hu24 := Try.underlying24
 have hu33 := Try.underlying33
 have HR0_0 := Aside0.mk hr0_0
 have HC0_0 := Aside0.mk hc0_0
 clear hr0_0 hc0_0
 have HB := Aside0.mk (Below.refl w.heap.size w)
 have H : (davitref11_Of.l0 k a1 ([] : List Int) 0 l0_0) = some r := h
 clear h
 have H' := Aside0.mk H
 clear H
 go_enter Try.func13, Try.ntmps13
 go_wp2_with (first | ((with_reducible refine gate_dst (N := 2) rfl ?_); (try (refine gate_guard (by rfl) ?_; dsimp only)); refine box_event ?hg (N := 2) ?hd (cs := #[.slice A0_0 l0_0.length c0_0]) (t := 24) ?hr ?_; (case hd => rfl); (case hg => rfl); (case hr => first | (go_simp; done) | (go_simp; rfl)); intro gb153 hg w3 hbox hb; have n0_ := Aside0.mk (below_step (by repeat (first | (with_reducible first | exact HB.out | apply below_alloc | apply pw_below_drewN | apply below_drew1) | exact HB.out)) hb); have n1_ := Aside0.mk (hbox); have n2_ := Aside0.mk ((by rw [hg]; exact (below_size (by repeat (first | (with_reducible first | exact HB.out | apply below_alloc | apply pw_below_drewN | apply below_drew1) | exact HB.out))) : w.heap.size ≤ gb153)); have n3_ := Aside0.mk ((by rw [hg]; exact (below_size (by repeat (first | (with_reducible first | exact HB.out | apply below_alloc | apply pw_below_drewN | apply below_drew1) | exact HB.out))) : w.heap.size ≤ gb153)); clear HB; have HB := n0_; have BK153 := n1_; have GW153 := n2_; have GE153 := n3_; clear n0_ n1_ n2_ n3_; clear hb hbox hg))
 go_loopg [5, 6] k (fun kq v5 v6 w' => ∃ (x5_1 : List Int) (x6_1 : Int), v6 = .int .i64 x6_1 ∧ Aside0 (davitref11_Of.l0 kq a1 x5_1 x6_1 l0_0 = some r) ∧ Aside0 (kq ≤ k) ∧ Aside0 (Kd.R (Kd.int .i64) 3 w' w.heap.size (fun _ => True) v5 x5_1) ∧ Aside0 (w'.heap[gb153]? = some (.cells #[(.slice A0_0 l0_0.length c0_0)] 24 (0, 0))) ∧ Aside0 (Below w.heap.size w w'))
 case atStart => exact ⟨(([] : List Int)), (0), (by first | rfl | (simp; done) | (simp [*]; done)), H', ⟨Nat.le_refl _⟩, ⟨by first | exact Kd.R_nil _ _ _ _ _ | exact Kd.N_nil _ _ _ _ _ | exact Kd.V_nil _ _ _ _ _ | exact Kd.Q_nil _ _ _ _ _ | exact Kd.S_nil _ _ _ _ _⟩, ⟨by (with_reducible repeat (first | refine blk_drewN ?_ _ | refine blk_drew ?_ | refine blk_alloc ?_ _)); exact BK153.out⟩, ⟨by repeat (first | (with_reducible first | exact HB.out | apply below_alloc | apply pw_below_drewN | apply below_drew1 | refine below_set ?_ GE153.out) | exact HB.out)⟩⟩
 case round =>
  clear H'
  try clear c1
  try clear p2
  obtain ⟨x5_1, x6_1, rfl, HA, HK1, HO_5, BK153, HB⟩ := hrel
  cases gk with
  | zero => exact absurd HA.out (by simp [davitref11_Of.l0])
  | succ k1 =>
   have H := HA.out
   clear HA
   simp only [davitref11_Of.l0] at H
   by_cases c4 : x6_1 < (l0_0.length : Int)
   ·rw [if_pos c4] at H
    have c4b0 : decide (x6_1 < (l0_0.length : Int)) = true := decide_eq_true c4
    clear c4
    by_cases c5 : a1 ≥ 0
    ·rw [if_pos c5] at H
     have c5b0 : decide (0 ≤ a1) = true := decide_eq_true c5
     clear c5
     by_cases c6 : a1 < (l0_0.length : Int)
     ·rw [if_pos c6] at H
      have c6b0 : decide (a1 < (l0_0.length : Int)) = true := decide_eq_true c6
      clear c6
      by_cases c7 : 0 ≤ a1
      ·rw [if_pos c7] at H
       have c7b0 : decide (0 ≤ a1) = true := decide_eq_true c7
       clear c7
       replace H := Option.bind_eq_some_iff.mp H
       obtain ⟨t155, A80, H⟩ := H
       replace H : (if t155 = true then (if x5_1.length < 17592186044416 then (davitref11_Of.l0 k1 a1 (x5_1 ++ [x6_1]) (wrap64 (x6_1 + 1)) l0_0) else (none)) else (davitref11_Of.l0 k1 a1 x5_1 (wrap64 (x6_1 + 1)) l0_0)) = some r := H
       have A8 := Aside0.mk A80
       clear A80
       by_cases c9 : t155 = true
       ·subst c9
        have H1 : (if x5_1.length < 17592186044416 then (davitref11_Of.l0 k1 a1 (x5_1 ++ [x6_1]) (wrap64 (x6_1 + 1)) l0_0) else (none)) = some r := by rw [if_pos rfl] at H; exact H
        clear H
        have H := H1
        clear H1
        by_cases c10 : x5_1.length < 17592186044416
        ·rw [if_pos c10] at H
         have LMc10 := Aside0.mk c10
         clear c10
         obtain ⟨y156, hy156⟩ : ∃ y_ : List Int, y_ = (x5_1 ++ [x6_1]) := ⟨_, rfl⟩
         replace H : (davitref11_Of.l0 k1 a1 y156 (wrap64 (x6_1 + 1)) l0_0) = some r := by first | (rw [hy156]; with_reducible exact H) | (have H2_ := (Option.bind_some _ _).symm.trans H; rw [hy156]; with_reducible exact H2_) | (have H2_ := (Option.bind_some _ _).symm.trans H; with_reducible exact H2_) | with_reducible exact H | (rw [hy156]; exact H) | exact H
         have Ny156 := Aside0.mk hy156
         clear hy156
         have H' := Aside0.mk H
         clear H
         have hcz11_0 : wr.cell? ⟨gb153, 0, none⟩ = some (.slice A0_0 l0_0.length c0_0) := (blk_cell BK153.out 0).trans rfl
         have hfz11_0 := blk_frozen BK153.out 0
         have p154 : 0 ≤ (a1 : Int) := of_decide_eq_true (by first | (with_reducible assumption) | assumption)
         have q154 : a1 < (l0_0.length : Int) := of_decide_eq_true (by first | (with_reducible assumption) | assumption)
         obtain ⟨ad154, A154_2, c154_2, e154, hx154_0, hx154_1, hx154_2, hl154_2, hi154_2⟩ := at_T33 HR0_0.out a1 p154 q154
         cases e154
         replace hx154_0 := (HB.out.cell (World.block_lt_of_cell? w _ hx154_0)).trans hx154_0
         replace hx154_1 := (HB.out.cell (World.block_lt_of_cell? w _ hx154_1)).trans hx154_1
         replace hx154_2 := (HB.out.cell (World.block_lt_of_cell? w _ hx154_2)).trans hx154_2
         have HR154_2 := Aside0.mk hi154_2
         have HC154_2 := Aside0.mk hl154_2
         clear hi154_2 hl154_2
         replace p154 := eq_true p154
         replace q154 := eq_true q154
         go_wp2_with (first | (go_at_call 25; (with_reducible refine (davitref11_Calls.calls k1 ((rd_T33 l0_0 a1).f0) ((rd_T33 l0_0 a1).f1) _ _ ((rd_T33 l0_0 a1).f2) x6_1 true _ ?side1 ?side2 A8.out).mono ?_); (case side1 => repeat (first | exact (Kd.C_below HR154_2.out HB.out) | (with_reducible refine Kd.C_alloc ?_ _) | (with_reducible refine Kd.C_drewN ?_ _) | (with_reducible refine Kd.C_drew ?_))); (case side2 => exact HC154_2.out); rintro e w12 ⟨rfl, hb⟩; have n0_ := Aside0.mk (Kd.R_below (by (with_reducible repeat (first | apply Kd.R_alloc | apply Kd.R_drewN | apply Kd.R_drew)); exact HO_5.out) hb); have n1_ := Aside0.mk (blk_below (g := gb153) (o := .cells #[.slice (some ad154) l0_0.length c0_0] 24 (0, 0)) (by (with_reducible repeat (first | refine blk_drewN ?_ _ | refine blk_drew ?_ | refine blk_alloc ?_ _)); exact BK153.out) hb); have n2_ := Aside0.mk (below_step (by repeat (first | (with_reducible first | exact HB.out | apply below_alloc | apply pw_below_drewN | apply below_drew1 | refine below_set ?_ GE153.out) | exact HB.out)) hb); clear HO_5; clear BK153; clear HB; have HO_5 := n0_; have BK153 := n1_; have HB := n2_; clear n0_ n1_ n2_; (try clear hb); (try clear hb2); (try clear hk); (try clear hi)) | ((with_reducible refine gate_builtin (b := .append) (xs := #[.tmp 32, .tmp 34]) rfl ?_); (try (refine gate_guard (by rfl) ?_; dsimp only)); at_builtin; refine Kd.R_append (Kd.int .i64) (w0 := w) w.heap.size rfl (.tmp 32) (.tmp 34) 29 3 (.int .i64 0) 8 rfl Try.underlying29 info3 rfl (by decide) (by omega) u5 x5_1 x6_1 [.int .i64 x6_1] (fun _ => True) (fun _ => False) rfl rfl ?aP (fun _ hk => hk.elim) ?aF ?aO ?aB ?aS ?aL ?_; (case aP => exact rfl); (case aB => exact (by repeat (first | (with_reducible first | exact HB.out | apply below_alloc | apply pw_below_drewN | apply below_drew1 | refine below_set ?_ GE153.out) | exact HB.out))); (case aF => exact (fun _ _ => trivial)); (case aO => exact (by (with_reducible repeat (first | apply Kd.R_alloc | apply Kd.R_drewN | apply Kd.R_drew)); exact HO_5.out)); (case aS => exact (below_size (by repeat (first | (with_reducible first | exact HB.out | apply below_alloc | apply pw_below_drewN | apply below_drew1 | refine below_set ?_ GE153.out) | exact HB.out)))); (case aL => have := LMc10.out; omega); intro v157 w13 ho hb hg hat; rw [← Ny156.out] at ho; have n0_ := Aside0.mk (blk_grown (g := gb153) (o := .cells #[.slice (some ad154) l0_0.length c0_0] 24 (0, 0)) (by (with_reducible repeat (first | refine blk_drewN ?_ _ | refine blk_drew ?_ | refine blk_alloc ?_ _)); exact BK153.out) hg (Kd.R_ne HO_5.out BK153.out (by decide))); have n1_ := Aside0.mk (hb); have n2_ := Aside0.mk (ho); clear BK153; clear HB; clear HO_5; have BK153 := n0_; have HB := n1_; have HO158 := n2_; clear n0_ n1_ n2_; clear ho hb hg hat))
         go_roundg k1
         case measure => have := HK1.out; omega
         case rel => exact ⟨(y156), (wrap64 (x6_1 + 1)), (by first | rfl | (simp; done) | (simp [*]; done)), H', ⟨by have := HK1.out; omega⟩, ⟨by (with_reducible repeat (first | apply Kd.R_alloc | apply Kd.R_drewN | apply Kd.R_drew)); exact HO158.out⟩, ⟨by (with_reducible repeat (first | refine blk_drewN ?_ _ | refine blk_drew ?_ | refine blk_alloc ?_ _)); exact BK153.out⟩, ⟨by repeat (first | (with_reducible first | exact HB.out | apply below_alloc | apply pw_below_drewN | apply below_drew1 | refine below_set ?_ GE153.out) | exact HB.out)⟩⟩
        ·rw [if_neg c10] at H
         exact absurd H (by simp)
       ·replace c9 := Bool.eq_false_iff.mpr c9
        subst c9
        have H1 : (davitref11_Of.l0 k1 a1 x5_1 (wrap64 (x6_1 + 1)) l0_0) = some r := by rw [if_neg (show ¬ (false = true) by decide)] at H; exact H
        clear H
        have H := H1
        clear H1
        have H' := Aside0.mk H
        clear H
        have hcz14_0 : wr.cell? ⟨gb153, 0, none⟩ = some (.slice A0_0 l0_0.length c0_0) := (blk_cell BK153.out 0).trans rfl
        have hfz14_0 := blk_frozen BK153.out 0
        have p154 : 0 ≤ (a1 : Int) := of_decide_eq_true (by first | (with_reducible assumption) | assumption)
        have q154 : a1 < (l0_0.length : Int) := of_decide_eq_true (by first | (with_reducible assumption) | assumption)
        obtain ⟨ad154, A154_2, c154_2, e154, hx154_0, hx154_1, hx154_2, hl154_2, hi154_2⟩ := at_T33 HR0_0.out a1 p154 q154
        cases e154
        replace hx154_0 := (HB.out.cell (World.block_lt_of_cell? w _ hx154_0)).trans hx154_0
        replace hx154_1 := (HB.out.cell (World.block_lt_of_cell? w _ hx154_1)).trans hx154_1
        replace hx154_2 := (HB.out.cell (World.block_lt_of_cell? w _ hx154_2)).trans hx154_2
        have HR154_2 := Aside0.mk hi154_2
        have HC154_2 := Aside0.mk hl154_2
        clear hi154_2 hl154_2
        replace p154 := eq_true p154
        replace q154 := eq_true q154
        go_wp2_with (first | (go_at_call 25; (with_reducible refine (davitref11_Calls.calls k1 ((rd_T33 l0_0 a1).f0) ((rd_T33 l0_0 a1).f1) _ _ ((rd_T33 l0_0 a1).f2) x6_1 false _ ?side1 ?side2 A8.out).mono ?_); (case side1 => repeat (first | exact (Kd.C_below HR154_2.out HB.out) | (with_reducible refine Kd.C_alloc ?_ _) | (with_reducible refine Kd.C_drewN ?_ _) | (with_reducible refine Kd.C_drew ?_))); (case side2 => exact HC154_2.out); rintro e w15 ⟨rfl, hb⟩; have n0_ := Aside0.mk (Kd.R_below (by (with_reducible repeat (first | apply Kd.R_alloc | apply Kd.R_drewN | apply Kd.R_drew)); exact HO_5.out) hb); have n1_ := Aside0.mk (blk_below (g := gb153) (o := .cells #[.slice (some ad154) l0_0.length c0_0] 24 (0, 0)) (by (with_reducible repeat (first | refine blk_drewN ?_ _ | refine blk_drew ?_ | refine blk_alloc ?_ _)); exact BK153.out) hb); have n2_ := Aside0.mk (below_step (by repeat (first | (with_reducible first | exact HB.out | apply below_alloc | apply pw_below_drewN | apply below_drew1 | refine below_set ?_ GE153.out) | exact HB.out)) hb); clear HO_5; clear BK153; clear HB; have HO_5 := n0_; have BK153 := n1_; have HB := n2_; clear n0_ n1_ n2_; (try clear hb); (try clear hb2); (try clear hk); (try clear hi)))
        go_roundg k1
        case measure => have := HK1.out; omega
        case rel => exact ⟨(x5_1), (wrap64 (x6_1 + 1)), (by first | rfl | (simp; done) | (simp [*]; done)), H', ⟨by have := HK1.out; omega⟩, ⟨by (with_reducible repeat (first | apply Kd.R_alloc | apply Kd.R_drewN | apply Kd.R_drew)); exact HO_5.out⟩, ⟨by (with_reducible repeat (first | refine blk_drewN ?_ _ | refine blk_drew ?_ | refine blk_alloc ?_ _)); exact BK153.out⟩, ⟨by repeat (first | (with_reducible first | exact HB.out | apply below_alloc | apply pw_below_drewN | apply below_drew1 | refine below_set ?_ GE153.out) | exact HB.out)⟩⟩
      ·rw [if_neg c7] at H
       exact absurd H (by simp)
     ·rw [if_neg c6] at H
      have c6b0 : decide (a1 < (l0_0.length : Int)) = false := decide_eq_false c6
      clear c6
      have H' := Aside0.mk H
      clear H
      have hcz16_0 : wr.cell? ⟨gb153, 0, none⟩ = some (.slice A0_0 l0_0.length c0_0) := (blk_cell BK153.out 0).trans rfl
      have hfz16_0 := blk_frozen BK153.out 0
      go_wp2
      go_roundg k1
      case measure => have := HK1.out; omega
      case rel => exact ⟨(x5_1), (wrap64 (x6_1 + 1)), (by first | rfl | (simp; done) | (simp [*]; done)), H', ⟨by have := HK1.out; omega⟩, ⟨by (with_reducible repeat (first | apply Kd.R_alloc | apply Kd.R_drewN | apply Kd.R_drew)); exact HO_5.out⟩, ⟨by (with_reducible repeat (first | refine blk_drewN ?_ _ | refine blk_drew ?_ | refine blk_alloc ?_ _)); exact BK153.out⟩, ⟨by repeat (first | (with_reducible first | exact HB.out | apply below_alloc | apply pw_below_drewN | apply below_drew1 | refine below_set ?_ GE153.out) | exact HB.out)⟩⟩
    ·rw [if_neg c5] at H
     have c5b0 : decide (0 ≤ a1) = false := decide_eq_false c5
     clear c5
     have H' := Aside0.mk H
     clear H
     have hcz17_0 : wr.cell? ⟨gb153, 0, none⟩ = some (.slice A0_0 l0_0.length c0_0) := (blk_cell BK153.out 0).trans rfl
     have hfz17_0 := blk_frozen BK153.out 0
     go_wp2
     go_roundg k1
     case measure => have := HK1.out; omega
     case rel => exact ⟨(x5_1), (wrap64 (x6_1 + 1)), (by first | rfl | (simp; done) | (simp [*]; done)), H', ⟨by have := HK1.out; omega⟩, ⟨by (with_reducible repeat (first | apply Kd.R_alloc | apply Kd.R_drewN | apply Kd.R_drew)); exact HO_5.out⟩, ⟨by (with_reducible repeat (first | refine blk_drewN ?_ _ | refine blk_drew ?_ | refine blk_alloc ?_ _)); exact BK153.out⟩, ⟨by repeat (first | (with_reducible first | exact HB.out | apply below_alloc | apply pw_below_drewN | apply below_drew1 | refine below_set ?_ GE153.out) | exact HB.out)⟩⟩
   ·rw [if_neg c4] at H
    have c4b0 : decide (x6_1 < (l0_0.length : Int)) = false := decide_eq_false c4
    clear c4
    obtain rfl := Option.some.inj H
    have hcz18_0 : wr.cell? ⟨gb153, 0, none⟩ = some (.slice A0_0 l0_0.length c0_0) := (blk_cell BK153.out 0).trans rfl
    have hfz18_0 := blk_frozen BK153.out 0
    go_wp2
    go_ret
    exact ⟨_, by first | rfl | (simp [errW_none, errW_some] <;> rfl) | (simp [*, errW_none, errW_some] <;> rfl), by (with_reducible repeat (first | apply Kd.R_alloc | apply Kd.R_drewN | apply Kd.R_drew)); exact HO_5.out, by repeat (first | (with_reducible first | exact HB.out | apply below_alloc | apply pw_below_drewN | apply below_drew1 | refine below_set ?_ GE153.out) | exact HB.out)⟩
end
end Go.Proofs.Ytjjcnbfmmhokeaa.X
