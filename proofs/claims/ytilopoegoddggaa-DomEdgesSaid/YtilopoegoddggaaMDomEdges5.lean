/- Part 6 of the proof of the statement DomEdges: the words of the walks, the walks through the functions that it reaches, and the plain laws of what they compute. -/
import Derived.Test.YtilopoegoddggaaMDomEdges4
import Derived.Deep.Slices
import Derived.Lib.SmallJoins
import Derived.ChangeArms
import Derived.Test.YtilopoegoddggaaRows
import Derived.WalkKit
import Derived.ProofKit
import Derived.OpenShut
import Derived.ShutString
import Derived.ChangeOld
import Derived.Below
import Derived.SizedLaws
import Derived.Carry
namespace Go.Proofs.Ytilopoegoddggaa.X
open Go.RowKit Go.Proofs.YtilopoegoddggaaW.PrintWords Go.Proofs.YtilopoegoddggaaW.PrintLast Go.Proofs.YtilopoegoddggaaW.PrintMore
attribute [local go_sem] max2_int min2_int max_two min_two max_three min_three max_four min_four
set_option linter.all false
noncomputable section
def davitref07_Reached.f (k : Nat) (a0_0 : Int) (a0_1 : Int) (l0_2 : List (S50)) : Option (List Bool) := (davitref07_Without.f k a0_0 a0_1 l0_2 (-1)).bind fun t183 => (some t183)
theorem davitref07_Reached.mono : ∀ a0 a1 a2 k, LeO (davitref07_Reached.f k a0 a1 a2) (davitref07_Reached.f (k + 1) a0 a1 a2) := by
 intro a0 a1 a2 k
 unfold davitref07_Reached.f
 repeat' first
   | (with_reducible exact davitref07_Without.mono _ _ _ _ _)
   | (with_reducible exact LeO.refl _)
   | (with_reducible exact LeO.none _)
   | (with_reducible refine LeO.ite ?_ ?_)
   | (with_reducible refine LeO.bind ?_ (fun _ => ?_))
   | exact davitref07_Without.mono _ _ _ _ _
   | exact LeO.none _
   | refine LeO.ite ?_ ?_
   | refine LeO.bind ?_ (fun _ => ?_)
set_option maxHeartbeats 8000000 in
set_option maxRecDepth 100000 in
theorem davitref07_Reached.calls (k : Nat) (a0_0 : Int) (a0_1 : Int) (A0_2 : Option Addr) (c0_2 : Nat) (l0_2 : List (S50)) (r : List Bool) (w : World) (hr0_2 : Kd.C k50 w A0_2 l0_2.length l0_2) (hc0_2 : l0_2.length ≤ c0_2) (h : davitref07_Reached.f k a0_0 a0_1 l0_2 = some r) :
  Calls Try.prog 29 #[.agg #[.int .i64 a0_0, .int .i64 a0_1, .slice A0_2 l0_2.length c0_2]] w fun e w' => ∃ v0_ : Value, e = .returned (v0_) ∧ Kd.R Kd.bool 4 w' w.heap.size (fun _ => True) v0_ r ∧ Below w.heap.size w w' := by
 have hu24 := Try.underlying24
 have HR0_2 := Aside0.mk hr0_2
 have HC0_2 := Aside0.mk hc0_2
 clear hr0_2 hc0_2
 have HB := Aside0.mk (Below.refl w.heap.size w)
 have H : ((davitref07_Without.f k a0_0 a0_1 l0_2 (-1)).bind fun t183 => (some t183)) = some r := h
 clear h
 replace H := Option.bind_eq_some_iff.mp H
 obtain ⟨t183, A20, H⟩ := H
 replace H : (some t183) = some r := H
 have A2 := Aside0.mk A20
 clear A20
 obtain rfl := Option.some.inj H
 go_enter Try.func29, Try.ntmps29
 go_wp2_with (first | ((with_reducible refine gate_dst (N := 1) rfl ?_); refine box_event ?hg (N := 1) ?hd (cs := #[.int .i64 a0_0, .int .i64 a0_1, .slice A0_2 l0_2.length c0_2]) (t := 24) ?hr ?_; (case hd => rfl); (case hg => rfl); (case hr => first | (go_simp; done) | (go_simp; rfl)); intro gb182 hg w3 hbox hb; have n0_ := Aside0.mk (below_step (by repeat (first | (with_reducible first | exact HB.out | apply below_alloc | apply pw_below_drewN | apply below_drew1) | exact HB.out)) hb); have n1_ := Aside0.mk (hbox); have n2_ := Aside0.mk ((by rw [hg]; exact (below_size (by repeat (first | (with_reducible first | exact HB.out | apply below_alloc | apply pw_below_drewN | apply below_drew1) | exact HB.out))) : w.heap.size ≤ gb182)); have n3_ := Aside0.mk ((by rw [hg]; exact (below_size (by repeat (first | (with_reducible first | exact HB.out | apply below_alloc | apply pw_below_drewN | apply below_drew1) | exact HB.out))) : w.heap.size ≤ gb182)); clear HB; have HB := n0_; have BK182 := n1_; have GW182 := n2_; have GE182 := n3_; clear n0_ n1_ n2_ n3_; clear hb hbox hg; have hcz4_0 : w3.cell? ⟨gb182, 0, none⟩ = some (.int .i64 a0_0) := (blk_cell BK182.out 0).trans rfl; have hcz4_1 : w3.cell? ⟨gb182, 1, none⟩ = some (.int .i64 a0_1) := (blk_cell BK182.out 1).trans rfl; have hcz4_2 : w3.cell? ⟨gb182, 2, none⟩ = some (.slice A0_2 l0_2.length c0_2) := (blk_cell BK182.out 2).trans rfl; have hfz4_0 := blk_frozen BK182.out 0; have hfz4_1 := blk_frozen BK182.out 1; have hfz4_2 := blk_frozen BK182.out 2) | ((with_reducible refine gate_callee (f := 30) rfl ?_); refine goesL_ (some 4) rfl rfl Try.func30 (by kernel_rfl) rfl #[.agg #[.int .i64 a0_0, .int .i64 a0_1, .slice A0_2 l0_2.length c0_2], .int .i64 (-1)] rfl (by (try simp only [List.map_toArray, List.map_cons, List.map_nil]); first | done | rfl | (simp only [List.length_drop, List.length_take]; rfl)) ?_; (with_reducible refine (davitref07_Without.calls k a0_0 a0_1 _ _ l0_2 (-1) t183 _ ?side1 ?side2 A2.out).mono ?_); (case side1 => repeat (first | exact (Kd.C_below HR0_2.out HB.out) | (with_reducible refine Kd.C_alloc ?_ _) | (with_reducible refine Kd.C_drewN ?_ _) | (with_reducible refine Kd.C_drew ?_))); (case side2 => exact HC0_2.out); rintro e w5 ⟨v184, rfl, ho0, hb⟩; refine ⟨_, rfl, ?_⟩; have n0_ := Aside0.mk (Kd.R_lower ho0 (below_size (by repeat (first | (with_reducible first | exact HB.out | apply below_alloc | apply pw_below_drewN | apply below_drew1 | refine below_set ?_ GE182.out) | exact HB.out)))); have n1_ := Aside0.mk (blk_below (g := gb182) (o := .cells #[.int .i64 a0_0, .int .i64 a0_1, .slice A0_2 l0_2.length c0_2] 24 (0, 0)) (by (with_reducible repeat (first | refine blk_drewN ?_ _ | refine blk_drew ?_ | refine blk_alloc ?_ _)); exact BK182.out) hb); have n2_ := Aside0.mk (below_step (by repeat (first | (with_reducible first | exact HB.out | apply below_alloc | apply pw_below_drewN | apply below_drew1 | refine below_set ?_ GE182.out) | exact HB.out)) hb); clear BK182; clear HB; have HO185 := n0_; have BK182 := n1_; have HB := n2_; clear n0_ n1_ n2_; (try clear hb); (try clear hb2); (try clear hk); (try clear hi); (try clear ho0)))
 go_ret
 exact ⟨_, by first | rfl | (simp [errW_none, errW_some] <;> rfl) | (simp [*, errW_none, errW_some] <;> rfl), by (with_reducible repeat (first | apply Kd.R_alloc | apply Kd.R_drewN | apply Kd.R_drew)); exact HO185.out, by repeat (first | (with_reducible first | exact HB.out | apply below_alloc | apply pw_below_drewN | apply below_drew1 | refine below_set ?_ GE182.out) | exact HB.out)⟩
end
end Go.Proofs.Ytilopoegoddggaa.X
namespace Go.Proofs.Ytilopoegoddggaa.X
open Go.RowKit Go.Proofs.YtilopoegoddggaaW.PrintWords Go.Proofs.YtilopoegoddggaaW.PrintLast Go.Proofs.YtilopoegoddggaaW.PrintMore
attribute [local go_sem] max2_int min2_int max_two min_two max_three min_three max_four min_four
set_option linter.all false
noncomputable section
mutual
def davitref08_All.l0 : Nat → List Bool → List (List Bool) → Int → Int → Int → List (S50) → Option ((List (List Bool)))
 | 0, _, _, _, _, _, _ => none
 | k + 1, x3, x4, x5, x187000, x187001, x187002 => if x5 < (x187002.length : Int) then ((davitref07_Without.f k x187000 x187001 x187002 x5).bind fun t190 => (if 0 ≤ (x187002.length : Int) then (if ((x187002.length : Int) : Int).toNat ≤ 281474976710656 then (davitref08_All.l1 k x3 x4 x5 t190 (List.replicate ((x187002.length : Int) : Int).toNat false) 0 x187000 x187001 x187002) else (none)) else (none))) else (some x4)
def davitref08_All.l1 : Nat → List Bool → List (List Bool) → Int → List Bool → List Bool → Int → Int → Int → List (S50) → Option ((List (List Bool)))
 | 0, _, _, _, _, _, _, _, _, _ => none
 | k + 1, x3, x4, x5, x6, x7, x8, x187000, x187001, x187002 => if x8 < (x187002.length : Int) then (if 0 ≤ x8 then (if x8 < (x3.length : Int) then (if rdOf false x3 x8 = true then (if x5 = x8 then (if x8 < (x7.length : Int) then (davitref08_All.l1 k x3 x4 x5 x6 (x7.set (x8 : Int).toNat true) (wrap64 (x8 + 1)) x187000 x187001 x187002) else (none)) else (if x8 < (x6.length : Int) then (if x8 < (x7.length : Int) then (davitref08_All.l1 k x3 x4 x5 x6 (x7.set (x8 : Int).toNat (!(rdOf false x6 x8))) (wrap64 (x8 + 1)) x187000 x187001 x187002) else (none)) else (none))) else (if x8 < (x7.length : Int) then (davitref08_All.l1 k x3 x4 x5 x6 (x7.set (x8 : Int).toNat false) (wrap64 (x8 + 1)) x187000 x187001 x187002) else (none))) else (none)) else (none)) else (if x4.length < 5864062014805 then (davitref08_All.l0 k x3 (x4 ++ [x7]) (wrap64 (x5 + 1)) x187000 x187001 x187002) else (none))
end
def davitref08_All.f (k : Nat) (a0_0 : Int) (a0_1 : Int) (l0_2 : List (S50)) : Option ((List (List Bool))) := (davitref07_Reached.f k a0_0 a0_1 l0_2).bind fun t187 => (davitref08_All.l0 k t187 ([] : List (List Bool)) 0 a0_0 a0_1 l0_2)
theorem davitref08_All.mono_l : ∀ k, (∀ y0 y1 y2 y3 y4 y5, LeO (davitref08_All.l0 k y0 y1 y2 y3 y4 y5) (davitref08_All.l0 (k + 1) y0 y1 y2 y3 y4 y5)) ∧ (∀ y0 y1 y2 y3 y4 y5 y6 y7 y8, LeO (davitref08_All.l1 k y0 y1 y2 y3 y4 y5 y6 y7 y8) (davitref08_All.l1 (k + 1) y0 y1 y2 y3 y4 y5 y6 y7 y8))
 | 0 => ⟨fun _ _ _ _ _ _ r h => by simp [davitref08_All.l0] at h, fun _ _ _ _ _ _ _ _ _ r h => by simp [davitref08_All.l1] at h⟩
 | k + 1 => by
  obtain ⟨ih0, ih1⟩ := davitref08_All.mono_l k
  refine ⟨?_, ?_⟩
  ·intro y0 y1 y2 y3 y4 y5
   unfold davitref08_All.l0
   repeat' first
   | (with_reducible exact ih0 _ _ _ _ _ _)
   | (with_reducible exact ih1 _ _ _ _ _ _ _ _ _)
   | (with_reducible exact davitref07_Reached.mono _ _ _ _)
   | (with_reducible exact davitref07_Without.mono _ _ _ _ _)
   | (with_reducible exact LeO.refl _)
   | (with_reducible exact LeO.none _)
   | (with_reducible refine LeO.ite ?_ ?_)
   | (with_reducible refine LeO.bind ?_ (fun _ => ?_))
   | exact ih0 _ _ _ _ _ _
   | exact ih1 _ _ _ _ _ _ _ _ _
   | exact davitref07_Reached.mono _ _ _ _
   | exact davitref07_Without.mono _ _ _ _ _
   | exact LeO.none _
   | refine LeO.ite ?_ ?_
   | refine LeO.bind ?_ (fun _ => ?_)
  ·intro y0 y1 y2 y3 y4 y5 y6 y7 y8
   unfold davitref08_All.l1
   repeat' first
   | (with_reducible exact ih0 _ _ _ _ _ _)
   | (with_reducible exact ih1 _ _ _ _ _ _ _ _ _)
   | (with_reducible exact davitref07_Reached.mono _ _ _ _)
   | (with_reducible exact davitref07_Without.mono _ _ _ _ _)
   | (with_reducible exact LeO.refl _)
   | (with_reducible exact LeO.none _)
   | (with_reducible refine LeO.ite ?_ ?_)
   | (with_reducible refine LeO.bind ?_ (fun _ => ?_))
   | exact ih0 _ _ _ _ _ _
   | exact ih1 _ _ _ _ _ _ _ _ _
   | exact davitref07_Reached.mono _ _ _ _
   | exact davitref07_Without.mono _ _ _ _ _
   | exact LeO.none _
   | refine LeO.ite ?_ ?_
   | refine LeO.bind ?_ (fun _ => ?_)
theorem davitref08_All.mono : ∀ a0 a1 a2 k, LeO (davitref08_All.f k a0 a1 a2) (davitref08_All.f (k + 1) a0 a1 a2) := by
 intro a0 a1 a2 k
 obtain ⟨ih0, ih1⟩ := davitref08_All.mono_l k
 unfold davitref08_All.f
 repeat' first
   | (with_reducible exact ih0 _ _ _ _ _ _)
   | (with_reducible exact ih1 _ _ _ _ _ _ _ _ _)
   | (with_reducible exact davitref07_Reached.mono _ _ _ _)
   | (with_reducible exact davitref07_Without.mono _ _ _ _ _)
   | (with_reducible exact LeO.refl _)
   | (with_reducible exact LeO.none _)
   | (with_reducible refine LeO.ite ?_ ?_)
   | (with_reducible refine LeO.bind ?_ (fun _ => ?_))
   | exact ih0 _ _ _ _ _ _
   | exact ih1 _ _ _ _ _ _ _ _ _
   | exact davitref07_Reached.mono _ _ _ _
   | exact davitref07_Without.mono _ _ _ _ _
   | exact LeO.none _
   | refine LeO.ite ?_ ?_
   | refine LeO.bind ?_ (fun _ => ?_)
set_option maxHeartbeats 8000000 in
set_option maxRecDepth 100000 in
theorem davitref08_All.calls (k : Nat) (a0_0 : Int) (a0_1 : Int) (A0_2 : Option Addr) (c0_2 : Nat) (l0_2 : List (S50)) (r : List (List Bool)) (w : World) (hr0_2 : Kd.C k50 w A0_2 l0_2.length l0_2) (hc0_2 : l0_2.length ≤ c0_2) (h : davitref08_All.f k a0_0 a0_1 l0_2 = some r) :
  Calls Try.prog 28 #[.agg #[.int .i64 a0_0, .int .i64 a0_1, .slice A0_2 l0_2.length c0_2]] w fun e w' => ∃ v0_ : Value, e = .returned (v0_) ∧ Kd.S (Kd.slice 4 Kd.bool) 32 w' w.heap.size (fun _ => True) v0_ r ∧ Below w.heap.size w w' := by
 have hu24 := Try.underlying24
 have HR0_2 := Aside0.mk hr0_2
 have HC0_2 := Aside0.mk hc0_2
 clear hr0_2 hc0_2
 have HB := Aside0.mk (Below.refl w.heap.size w)
 have H : ((davitref07_Reached.f k a0_0 a0_1 l0_2).bind fun t187 => (davitref08_All.l0 k t187 ([] : List (List Bool)) 0 a0_0 a0_1 l0_2)) = some r := h
 clear h
 replace H := Option.bind_eq_some_iff.mp H
 obtain ⟨t187, A20, H⟩ := H
 replace H : (davitref08_All.l0 k t187 ([] : List (List Bool)) 0 a0_0 a0_1 l0_2) = some r := H
 have A2 := Aside0.mk A20
 clear A20
 have H' := Aside0.mk H
 clear H
 go_enter Try.func28, Try.ntmps28
 go_wp2_with (first | ((with_reducible refine gate_dst (N := 1) rfl ?_); refine box_event ?hg (N := 1) ?hd (cs := #[.int .i64 a0_0, .int .i64 a0_1, .slice A0_2 l0_2.length c0_2]) (t := 24) ?hr ?_; (case hd => rfl); (case hg => rfl); (case hr => first | (go_simp; done) | (go_simp; rfl)); intro gb186 hg w3 hbox hb; have n0_ := Aside0.mk (below_step (by repeat (first | (with_reducible first | exact HB.out | apply below_alloc | apply pw_below_drewN | apply below_drew1) | exact HB.out)) hb); have n1_ := Aside0.mk (hbox); have n2_ := Aside0.mk ((by rw [hg]; exact (below_size (by repeat (first | (with_reducible first | exact HB.out | apply below_alloc | apply pw_below_drewN | apply below_drew1) | exact HB.out))) : w.heap.size ≤ gb186)); have n3_ := Aside0.mk ((by rw [hg]; exact (below_size (by repeat (first | (with_reducible first | exact HB.out | apply below_alloc | apply pw_below_drewN | apply below_drew1) | exact HB.out))) : w.heap.size ≤ gb186)); clear HB; have HB := n0_; have BK186 := n1_; have GW186 := n2_; have GE186 := n3_; clear n0_ n1_ n2_ n3_; clear hb hbox hg; have hcz4_0 : w3.cell? ⟨gb186, 0, none⟩ = some (.int .i64 a0_0) := (blk_cell BK186.out 0).trans rfl; have hcz4_1 : w3.cell? ⟨gb186, 1, none⟩ = some (.int .i64 a0_1) := (blk_cell BK186.out 1).trans rfl; have hcz4_2 : w3.cell? ⟨gb186, 2, none⟩ = some (.slice A0_2 l0_2.length c0_2) := (blk_cell BK186.out 2).trans rfl; have hfz4_0 := blk_frozen BK186.out 0; have hfz4_1 := blk_frozen BK186.out 1; have hfz4_2 := blk_frozen BK186.out 2) | ((with_reducible refine gate_callee (f := 29) rfl ?_); refine goesL_ (some 10) rfl rfl Try.func29 (by kernel_rfl) rfl #[.agg #[.int .i64 a0_0, .int .i64 a0_1, .slice A0_2 l0_2.length c0_2]] rfl (by (try simp only [List.map_toArray, List.map_cons, List.map_nil]); first | done | rfl | (simp only [List.length_drop, List.length_take]; rfl)) ?_; (with_reducible refine (davitref07_Reached.calls k a0_0 a0_1 _ _ l0_2 t187 _ ?side1 ?side2 A2.out).mono ?_); (case side1 => repeat (first | exact (Kd.C_below HR0_2.out HB.out) | (with_reducible refine Kd.C_alloc ?_ _) | (with_reducible refine Kd.C_drewN ?_ _) | (with_reducible refine Kd.C_drew ?_))); (case side2 => exact HC0_2.out); rintro e w5 ⟨v188, rfl, ho0, hb⟩; refine ⟨_, rfl, ?_⟩; have n0_ := Aside0.mk (Kd.R_lower ho0 (below_size (by repeat (first | (with_reducible first | exact HB.out | apply below_alloc | apply pw_below_drewN | apply below_drew1 | refine below_set ?_ GE186.out) | exact HB.out)))); have n1_ := Aside0.mk (blk_below (g := gb186) (o := .cells #[.int .i64 a0_0, .int .i64 a0_1, .slice A0_2 l0_2.length c0_2] 24 (0, 0)) (by (with_reducible repeat (first | refine blk_drewN ?_ _ | refine blk_drew ?_ | refine blk_alloc ?_ _)); exact BK186.out) hb); have n2_ := Aside0.mk (below_step (by repeat (first | (with_reducible first | exact HB.out | apply below_alloc | apply pw_below_drewN | apply below_drew1 | refine below_set ?_ GE186.out) | exact HB.out)) hb); clear BK186; clear HB; have HO189 := n0_; have BK186 := n1_; have HB := n2_; clear n0_ n1_ n2_; (try clear hb); (try clear hb2); (try clear hk); (try clear hi); (try clear ho0)))
 go_loopg [4, 5] k (fun kq v4 v5 w' => ∃ (x3_1 : List Bool) (x4_1 : List (List Bool)) (x5_1 : Int), v5 = .int .i64 x5_1 ∧ Aside0 (davitref08_All.l0 kq x3_1 x4_1 x5_1 a0_0 a0_1 l0_2 = some r) ∧ Aside0 (kq ≤ k) ∧ Aside0 (Kd.R Kd.bool 4 w' w.heap.size (fun _ => True) v188 x3_1) ∧ Aside0 (Kd.S (Kd.slice 4 Kd.bool) 32 w' w.heap.size (fun k_ => some k_ ≠ (v188 : Value).ownBlock) v4 x4_1) ∧ Aside0 (w'.heap[gb186]? = some (.cells #[.int .i64 a0_0, .int .i64 a0_1, (.slice A0_2 l0_2.length c0_2)] 24 (0, 0))) ∧ Aside0 (Below w.heap.size w w'))
 case atStart => exact ⟨(t187), (([] : List (List Bool))), (0), (by first | rfl | (simp; done) | (simp [*]; done)), H', ⟨Nat.le_refl _⟩, ⟨by (with_reducible repeat (first | apply Kd.R_alloc | apply Kd.R_drewN | apply Kd.R_drew)); exact HO189.out⟩, ⟨by first | exact Kd.S_nil _ _ _ _ _ | exact Kd.N_nil _ _ _ _ _ | exact Kd.V_nil _ _ _ _ _ | exact Kd.Q_nil _ _ _ _ _ | exact Kd.R_nil _ _ _ _ _⟩, ⟨by (with_reducible repeat (first | refine blk_drewN ?_ _ | refine blk_drew ?_ | refine blk_alloc ?_ _)); exact BK186.out⟩, ⟨by repeat (first | (with_reducible first | exact HB.out | apply below_alloc | apply pw_below_drewN | apply below_drew1 | refine below_set ?_ GE186.out) | exact HB.out)⟩⟩
 case round =>
  clear H'
  try clear c2
  try clear p2
  try clear hcz4_0
  try clear hcz4_1
  try clear hcz4_2
  try clear hfz4_0
  try clear hfz4_1
  try clear hfz4_2
  obtain ⟨x3_1, x4_1, x5_1, rfl, HA, HK1, HO_3, HO_4, BK186, HB⟩ := hrel
  cases gk with
  | zero => exact absurd HA.out (by simp [davitref08_All.l0])
  | succ k1 =>
   have H := HA.out
   clear HA
   simp only [davitref08_All.l0] at H
   by_cases c6 : x5_1 < (l0_2.length : Int)
   ·rw [if_pos c6] at H
    have c6b0 : decide (x5_1 < (l0_2.length : Int)) = true := decide_eq_true c6
    clear c6
    replace H := Option.bind_eq_some_iff.mp H
    obtain ⟨t190, A70, H⟩ := H
    replace H : (if 0 ≤ (l0_2.length : Int) then (if ((l0_2.length : Int) : Int).toNat ≤ 281474976710656 then (davitref08_All.l1 k1 x3_1 x4_1 x5_1 t190 (List.replicate ((l0_2.length : Int) : Int).toNat false) 0 a0_0 a0_1 l0_2) else (none)) else (none)) = some r := H
    have A7 := Aside0.mk A70
    clear A70
    by_cases c8 : 0 ≤ (l0_2.length : Int)
    ·rw [if_pos c8] at H
     have c8b0 := eq_true c8
     have c8b1 : decide (0 ≤ (l0_2.length : Int)) = true := decide_eq_true c8
     clear c8
     by_cases c9 : ((l0_2.length : Int) : Int).toNat ≤ 281474976710656
     ·rw [if_pos c9] at H
      have c9b0 := eq_true c9
      have c9b1 : decide (((l0_2.length : Int) : Int).toNat ≤ 281474976710656) = true := decide_eq_true c9
      clear c9
      obtain ⟨y193, hy193⟩ : ∃ y_ : List Bool, y_ = (List.replicate ((l0_2.length : Int) : Int).toNat false) := ⟨_, rfl⟩
      replace H : (davitref08_All.l1 k1 x3_1 x4_1 x5_1 t190 y193 0 a0_0 a0_1 l0_2) = some r := by first | (rw [hy193]; with_reducible exact H) | (have H2_ := (Option.bind_some _ _).symm.trans H; rw [hy193]; with_reducible exact H2_) | (have H2_ := (Option.bind_some _ _).symm.trans H; with_reducible exact H2_) | with_reducible exact H | (rw [hy193]; exact H) | exact H
      have Ny193 := Aside0.mk hy193
      clear hy193
      have H' := Aside0.mk H
      clear H
      have hcz10_0 : wr.cell? ⟨gb186, 0, none⟩ = some (.int .i64 a0_0) := (blk_cell BK186.out 0).trans rfl
      have hcz10_1 : wr.cell? ⟨gb186, 1, none⟩ = some (.int .i64 a0_1) := (blk_cell BK186.out 1).trans rfl
      have hcz10_2 : wr.cell? ⟨gb186, 2, none⟩ = some (.slice A0_2 l0_2.length c0_2) := (blk_cell BK186.out 2).trans rfl
      have hfz10_0 := blk_frozen BK186.out 0
      have hfz10_1 := blk_frozen BK186.out 1
      have hfz10_2 := blk_frozen BK186.out 2
      go_wp2_with (first | ((with_reducible refine gate_callee (f := 30) rfl ?_); refine goesL_ (some 20) rfl rfl Try.func30 (by kernel_rfl) rfl #[.agg #[.int .i64 a0_0, .int .i64 a0_1, .slice A0_2 l0_2.length c0_2], .int .i64 x5_1] rfl (by (try simp only [List.map_toArray, List.map_cons, List.map_nil]); first | done | rfl | (simp only [List.length_drop, List.length_take]; rfl)) ?_; (with_reducible refine (davitref07_Without.calls k1 a0_0 a0_1 _ _ l0_2 x5_1 t190 _ ?side1 ?side2 A7.out).mono ?_); (case side1 => repeat (first | exact (Kd.C_below HR0_2.out HB.out) | (with_reducible refine Kd.C_alloc ?_ _) | (with_reducible refine Kd.C_drewN ?_ _) | (with_reducible refine Kd.C_drew ?_))); (case side2 => exact HC0_2.out); rintro e w11 ⟨v191, rfl, ho0, hb⟩; refine ⟨_, rfl, ?_⟩; have n0_ := Aside0.mk (Kd.R_elder' (by (with_reducible repeat (first | apply Kd.R_alloc | apply Kd.R_drewN | apply Kd.R_drew)); exact HO_3.out) (Kd.R_base ho0) hb); have n1_ := Aside0.mk (Kd.S_elder' (by (with_reducible repeat (first | apply Kd.S_alloc | apply Kd.S_drewN | apply Kd.S_drew)); exact HO_4.out) (Kd.R_base ho0) hb); have n2_ := Aside0.mk (Kd.R_lower (Kd.R_new' ho0 (Kd.R_lt (by (with_reducible repeat (first | apply Kd.R_alloc | apply Kd.R_drewN | apply Kd.R_drew)); exact HO_3.out))) (below_size (by repeat (first | (with_reducible first | exact HB.out | apply below_alloc | apply pw_below_drewN | apply below_drew1 | refine below_set ?_ GE186.out) | exact HB.out)))); have n3_ := Aside0.mk (blk_below (g := gb186) (o := .cells #[.int .i64 a0_0, .int .i64 a0_1, .slice A0_2 l0_2.length c0_2] 24 (0, 0)) (by (with_reducible repeat (first | refine blk_drewN ?_ _ | refine blk_drew ?_ | refine blk_alloc ?_ _)); exact BK186.out) hb); have n4_ := Aside0.mk (below_step (by repeat (first | (with_reducible first | exact HB.out | apply below_alloc | apply pw_below_drewN | apply below_drew1 | refine below_set ?_ GE186.out) | exact HB.out)) hb); clear HO_3; clear HO_4; clear BK186; clear HB; have HO_3 := n0_; have HO_4 := n1_; have HO192 := n2_; have BK186 := n3_; have HB := n4_; clear n0_ n1_ n2_ n3_ n4_; (try clear hb); (try clear hb2); (try clear hk); (try clear hi); (try clear ho0); have hcz12_0 : w11.cell? ⟨gb186, 0, none⟩ = some (.int .i64 a0_0) := (blk_cell BK186.out 0).trans rfl; have hcz12_1 : w11.cell? ⟨gb186, 1, none⟩ = some (.int .i64 a0_1) := (blk_cell BK186.out 1).trans rfl; have hcz12_2 : w11.cell? ⟨gb186, 2, none⟩ = some (.slice A0_2 l0_2.length c0_2) := (blk_cell BK186.out 2).trans rfl; have hfz12_0 := blk_frozen BK186.out 0; have hfz12_1 := blk_frozen BK186.out 1; have hfz12_2 := blk_frozen BK186.out 2) | ((with_reducible refine gate_dst (N := 24) rfl ?_); refine Kd.R_make Kd.bool _ 4 rfl (N := 24) rfl 32 _ _ rfl (l0_2.length : Int) rfl rfl Try.underlying32 (.bool false) 1 info4 rfl (by decide) (by omega) false (ok := fun _ => True) (okp := fun _ => True) rfl (fun _ hk => hk) trivial (of_decide_eq_true (by first | (with_reducible assumption) | assumption)) (Nat.le_trans (Nat.mul_le_mul_right _ (of_decide_eq_true (by first | (with_reducible assumption) | assumption) : (l0_2.length : Int).toNat ≤ 281474976710656)) (by omega)) (Below.refl _ _) (Nat.le_refl _) ?_; intro v194 w13 ho14 hb hg_ hnew_; clear hg_ hnew_; (first | rw [← Ny193.out] at ho14 | (simp only [Int.reduceToNat] at ho14; rw [← Ny193.out] at ho14)); have n0_ := Aside0.mk (Kd.R_elder' (by (with_reducible repeat (first | apply Kd.R_alloc | apply Kd.R_drewN | apply Kd.R_drew)); exact HO_3.out) (Kd.R_base ho14) hb); have n1_ := Aside0.mk (Kd.S_elder' (by (with_reducible repeat (first | apply Kd.S_alloc | apply Kd.S_drewN | apply Kd.S_drew)); exact HO_4.out) (Kd.R_base ho14) hb); have n2_ := Aside0.mk (Kd.R_elder' (by (with_reducible repeat (first | apply Kd.R_alloc | apply Kd.R_drewN | apply Kd.R_drew)); exact HO192.out) (Kd.R_base ho14) hb); have n3_ := Aside0.mk (Kd.R_lower (Kd.R_new' (Kd.R_new' ho14 (Kd.R_lt (by (with_reducible repeat (first | apply Kd.R_alloc | apply Kd.R_drewN | apply Kd.R_drew)); exact HO_3.out))) (Kd.R_lt (by (with_reducible repeat (first | apply Kd.R_alloc | apply Kd.R_drewN | apply Kd.R_drew)); exact HO192.out))) (below_size (by repeat (first | (with_reducible first | exact HB.out | apply below_alloc | apply pw_below_drewN | apply below_drew1 | refine below_set ?_ GE186.out) | exact HB.out)))); have n4_ := Aside0.mk (blk_below (g := gb186) (o := .cells #[.int .i64 a0_0, .int .i64 a0_1, .slice A0_2 l0_2.length c0_2] 24 (0, 0)) (by (with_reducible repeat (first | refine blk_drewN ?_ _ | refine blk_drew ?_ | refine blk_alloc ?_ _)); exact BK186.out) hb); have n5_ := Aside0.mk (below_step (by repeat (first | (with_reducible first | exact HB.out | apply below_alloc | apply pw_below_drewN | apply below_drew1 | refine below_set ?_ GE186.out) | exact HB.out)) hb); clear HO_3; clear HO_4; clear HO192; clear BK186; clear HB; have HO_3 := n0_; have HO_4 := n1_; have HO192 := n2_; have HO195 := n3_; have BK186 := n4_; have HB := n5_; clear n0_ n1_ n2_ n3_ n4_ n5_; clear hb ho14))
      go_loopg [8] k1 (fun kq v8 w' => ∃ (x7_2 : List Bool) (x8_2 : Int), v8 = .int .i64 x8_2 ∧ Aside0 (davitref08_All.l1 kq x3_1 x4_1 x5_1 t190 x7_2 x8_2 a0_0 a0_1 l0_2 = some r) ∧ Aside0 (kq ≤ k1) ∧ Aside0 (Kd.R Kd.bool 4 w' w.heap.size (fun k_ => some k_ ≠ (v191 : Value).ownBlock ∧ some k_ ≠ (v194 : Value).ownBlock) v188 x3_1) ∧ Aside0 (Kd.S (Kd.slice 4 Kd.bool) 32 w' w.heap.size (fun k_ => some k_ ≠ (v188 : Value).ownBlock ∧ some k_ ≠ (v191 : Value).ownBlock ∧ some k_ ≠ (v194 : Value).ownBlock) u4 x4_1) ∧ Aside0 (Kd.R Kd.bool 4 w' w.heap.size (fun k_ => some k_ ≠ (v188 : Value).ownBlock ∧ some k_ ≠ (v194 : Value).ownBlock) v191 t190) ∧ Aside0 (Kd.R Kd.bool 4 w' w.heap.size (fun k_ => some k_ ≠ (v188 : Value).ownBlock ∧ some k_ ≠ (v191 : Value).ownBlock) v194 x7_2) ∧ Aside0 (w'.heap[gb186]? = some (.cells #[.int .i64 a0_0, .int .i64 a0_1, (.slice A0_2 l0_2.length c0_2)] 24 (0, 0))) ∧ Aside0 (Below w.heap.size w w'))
      case atStart => exact ⟨(y193), (0), (by first | rfl | (simp; done) | (simp [*]; done)), H', ⟨Nat.le_refl _⟩, ⟨by (with_reducible repeat (first | apply Kd.R_alloc | apply Kd.R_drewN | apply Kd.R_drew)); exact Kd.R_mono HO_3.out (fun _ hk => ⟨hk.1.2, hk.2⟩)⟩, ⟨by (with_reducible repeat (first | apply Kd.S_alloc | apply Kd.S_drewN | apply Kd.S_drew)); exact Kd.S_mono HO_4.out (fun _ hk => ⟨hk.1.1, ⟨hk.1.2, hk.2⟩⟩)⟩, ⟨by (with_reducible repeat (first | apply Kd.R_alloc | apply Kd.R_drewN | apply Kd.R_drew)); exact Kd.R_mono HO192.out (fun _ hk => ⟨hk.1.2, hk.2⟩)⟩, ⟨by (with_reducible repeat (first | apply Kd.R_alloc | apply Kd.R_drewN | apply Kd.R_drew)); exact Kd.R_mono HO195.out (fun _ hk => ⟨hk.1.2, hk.2⟩)⟩, ⟨by (with_reducible repeat (first | refine blk_drewN ?_ _ | refine blk_drew ?_ | refine blk_alloc ?_ _)); exact BK186.out⟩, ⟨by repeat (first | (with_reducible first | exact HB.out | apply below_alloc | apply pw_below_drewN | apply below_drew1 | refine below_set ?_ GE186.out) | exact HB.out)⟩⟩
      case round =>
       clear H'
       try clear c2
       try clear p2
       try clear c3
       try clear c6
       try clear c6b0
       try clear c8
       try clear c8b0
       try clear c8b1
       try clear c9
       try clear c9b0
       try clear c9b1
       try clear hcz10_0
       try clear hcz10_1
       try clear hcz10_2
       try clear hcz12_0
       try clear hcz12_1
       try clear hcz12_2
       try clear hcz4_0
       try clear hcz4_1
       try clear hcz4_2
       try clear hfz10_0
       try clear hfz10_1
       try clear hfz10_2
       try clear hfz12_0
       try clear hfz12_1
       try clear hfz12_2
       try clear hfz4_0
       try clear hfz4_1
       try clear hfz4_2
       try clear p2
       obtain ⟨x7_2, x8_2, rfl, HA, HK2, HO_3, HO_4, HO_6, HO_7, BK186, HB⟩ := hrel
       cases gk with
       | zero => exact absurd HA.out (by simp [davitref08_All.l1])
       | succ k2 =>
        have H := HA.out
        clear HA
        simp only [davitref08_All.l1] at H
        by_cases c15 : x8_2 < (l0_2.length : Int)
        ·rw [if_pos c15] at H
         have c15b0 : decide (x8_2 < (l0_2.length : Int)) = true := decide_eq_true c15
         clear c15
         by_cases c16 : 0 ≤ x8_2
         ·rw [if_pos c16] at H
          have c16b0 : decide (0 ≤ x8_2) = true := decide_eq_true c16
          clear c16
          by_cases c17 : x8_2 < (x3_1.length : Int)
          ·rw [if_pos c17] at H
           have c17b0 : decide (x8_2 < (x3_1.length : Int)) = true := decide_eq_true c17
           clear c17
           obtain ⟨bq18, hbq18⟩ : ∃ b_ : Bool, b_ = (rdOf false x3_1 x8_2) := ⟨_, rfl⟩
           replace H : (if bq18 = true then (if x5_1 = x8_2 then (if x8_2 < (x7_2.length : Int) then (davitref08_All.l1 k2 x3_1 x4_1 x5_1 t190 (x7_2.set (x8_2 : Int).toNat true) (wrap64 (x8_2 + 1)) a0_0 a0_1 l0_2) else (none)) else (if x8_2 < (t190.length : Int) then (if x8_2 < (x7_2.length : Int) then (davitref08_All.l1 k2 x3_1 x4_1 x5_1 t190 (x7_2.set (x8_2 : Int).toNat (!(rdOf false t190 x8_2))) (wrap64 (x8_2 + 1)) a0_0 a0_1 l0_2) else (none)) else (none))) else (if x8_2 < (x7_2.length : Int) then (davitref08_All.l1 k2 x3_1 x4_1 x5_1 t190 (x7_2.set (x8_2 : Int).toNat false) (wrap64 (x8_2 + 1)) a0_0 a0_1 l0_2) else (none))) = some r := by rw [← hbq18] at H; exact H
           have Nbq18 := Aside0.mk hbq18
           clear hbq18
           by_cases c19 : bq18 = true
           ·subst c19
            have H1 : (if x5_1 = x8_2 then (if x8_2 < (x7_2.length : Int) then (davitref08_All.l1 k2 x3_1 x4_1 x5_1 t190 (x7_2.set (x8_2 : Int).toNat true) (wrap64 (x8_2 + 1)) a0_0 a0_1 l0_2) else (none)) else (if x8_2 < (t190.length : Int) then (if x8_2 < (x7_2.length : Int) then (davitref08_All.l1 k2 x3_1 x4_1 x5_1 t190 (x7_2.set (x8_2 : Int).toNat (!(rdOf false t190 x8_2))) (wrap64 (x8_2 + 1)) a0_0 a0_1 l0_2) else (none)) else (none))) = some r := by rw [if_pos rfl] at H; exact H
            clear H
            have H := H1
            clear H1
            by_cases c20 : x5_1 = x8_2
            ·rw [if_pos c20] at H
             have c20b0 : (x5_1 == x8_2) = true := beq_iff_eq.mpr c20
             have c20b1 : (x5_1 != x8_2) = false := bne_eq_false_iff_eq.mpr c20
             clear c20
             by_cases c21 : x8_2 < (x7_2.length : Int)
             ·rw [if_pos c21] at H
              have c21b0 : decide (x8_2 < (x7_2.length : Int)) = true := decide_eq_true c21
              clear c21
              obtain ⟨y197, hy197⟩ : ∃ y_ : List Bool, y_ = (x7_2.set (x8_2 : Int).toNat true) := ⟨_, rfl⟩
              replace H : (davitref08_All.l1 k2 x3_1 x4_1 x5_1 t190 y197 (wrap64 (x8_2 + 1)) a0_0 a0_1 l0_2) = some r := by first | (rw [hy197]; with_reducible exact H) | (have H2_ := (Option.bind_some _ _).symm.trans H; rw [hy197]; with_reducible exact H2_) | (have H2_ := (Option.bind_some _ _).symm.trans H; with_reducible exact H2_) | with_reducible exact H | (rw [hy197]; exact H) | exact H
              have Ny197 := Aside0.mk hy197
              clear hy197
              have H' := Aside0.mk H
              clear H
              have hcz23_0 : wr.cell? ⟨gb186, 0, none⟩ = some (.int .i64 a0_0) := (blk_cell BK186.out 0).trans rfl
              have hcz23_1 : wr.cell? ⟨gb186, 1, none⟩ = some (.int .i64 a0_1) := (blk_cell BK186.out 1).trans rfl
              have hcz23_2 : wr.cell? ⟨gb186, 2, none⟩ = some (.slice A0_2 l0_2.length c0_2) := (blk_cell BK186.out 2).trans rfl
              have hfz23_0 := blk_frozen BK186.out 0
              have hfz23_1 := blk_frozen BK186.out 1
              have hfz23_2 := blk_frozen BK186.out 2
              obtain ⟨Ao24, co24, eo24⟩ := Kd.R_slice HO_3.out
              subst eo24
              have p196 : 0 ≤ (x8_2 : Int) := of_decide_eq_true (by first | (with_reducible assumption) | assumption)
              have q196 : x8_2 < (x3_1.length : Int) := of_decide_eq_true (by first | (with_reducible assumption) | assumption)
              obtain ⟨ad196, e196, hx196_0⟩ := Kd.at_bool (Kd.R_reads' HO_3.out).2.2 x8_2 p196 q196
              (try rw [← Nbq18.out] at hx196_0)
              cases e196
              replace p196 := eq_true p196
              replace q196 := eq_true q196
              have p22 : 0 ≤ (x8_2 : Int) := of_decide_eq_true (by first | (with_reducible assumption) | assumption)
              have q22 : (x8_2 : Int) < ((x7_2.length : Int) : Int) := of_decide_eq_true (by first | (with_reducible assumption) | assumption)
              obtain ⟨go22, co22, eo22, gb22, gl22, cl22, HG22⟩ := Kd.R_form HO_7.out (by omega)
              (first | cases eo22 | (injection eo22 with ea_ en_ ec_; (first | subst ea_ | (injection ea_ with ea_; subst ea_)); subst ec_; clear en_))
              have GB22 := Aside0.mk gb22
              have GG22 := Aside0.mk HG22
              clear gb22 gl22 HG22
              obtain ⟨hx22_0, hf22_0⟩ := Kd.R_celln false HO_7.out (x8_2 : Int) p22 q22
              replace p22 := eq_true p22
              replace q22 := eq_true q22
              have HP25 := Kd.R_putg HO_7.out (x8_2 : Int) true
              go_wp2_with (first | ((with_reducible refine gate_store (t := 4) (p := 50) rfl ?_); refine store_event (t := 4) (p := 50) (v := ?vo_w26) (w1 := (wr.setCell ⟨go22, (x8_2 : Int).toNat, none⟩ (.bool true))) ?hg ?ho ?hn ?hr ?_; (case ho => rfl); (case hg => rfl); (case hn => rfl); (case hr => first | (go_simp; done) | (go_simp; rfl)); intro w26 hw; have hg : wr.grownBy w26 (some go22) := (by rw [hw]; exact HP25.2); have hp_ : Kd.R Kd.bool 4 w26 w.heap.size (fun k_ => some k_ ≠ (.slice (some ad196) x3_1.length co24 : Value).ownBlock ∧ some k_ ≠ (v191 : Value).ownBlock) (.slice (some ⟨go22, 0, none⟩) x7_2.length co22) y197 := (by rw [hw, Ny197.out]; exact HP25.1); clear HP25; have n0_ := Aside0.mk (Kd.R_after (v := (.slice (some ⟨go22, 0, none⟩) x7_2.length co22)) (v1 := (.slice (some ⟨go22, 0, none⟩) x7_2.length co22)) (ok := (fun k_ => some k_ ≠ (v191 : Value).ownBlock)) (by (with_reducible repeat (first | apply Kd.R_alloc | apply Kd.R_drewN | apply Kd.R_drew)); exact HO_3.out) hg (.inl rfl)); have n1_ := Aside0.mk (Kd.S_after (v := (.slice (some ⟨go22, 0, none⟩) x7_2.length co22)) (v1 := (.slice (some ⟨go22, 0, none⟩) x7_2.length co22)) (ok := (fun k_ => some k_ ≠ (.slice (some ad196) x3_1.length co24 : Value).ownBlock ∧ some k_ ≠ (v191 : Value).ownBlock)) (by (with_reducible repeat (first | apply Kd.S_alloc | apply Kd.S_drewN | apply Kd.S_drew)); exact Kd.S_mono HO_4.out (fun _ hk => ⟨⟨hk.1, hk.2.1⟩, hk.2.2⟩)) hg (.inl rfl)); have n2_ := Aside0.mk (Kd.R_after (v := (.slice (some ⟨go22, 0, none⟩) x7_2.length co22)) (v1 := (.slice (some ⟨go22, 0, none⟩) x7_2.length co22)) (ok := (fun k_ => some k_ ≠ (.slice (some ad196) x3_1.length co24 : Value).ownBlock)) (by (with_reducible repeat (first | apply Kd.R_alloc | apply Kd.R_drewN | apply Kd.R_drew)); exact HO_6.out) hg (.inl rfl)); have n3_ := Aside0.mk (hp_); have n4_ := Aside0.mk (blk_grown (g := gb186) (o := .cells #[.int .i64 a0_0, .int .i64 a0_1, .slice A0_2 l0_2.length c0_2] 24 (0, 0)) (by (with_reducible repeat (first | refine blk_drewN ?_ _ | refine blk_drew ?_ | refine blk_alloc ?_ _)); exact BK186.out) hg (Kd.R_ne HO_7.out BK186.out (by decide))); have n5_ := Aside0.mk ((by rw [hw]; exact below_set (HB.out) GB22.out : Below w.heap.size w w26)); clear HO_3; clear HO_4; clear HO_6; clear HO_7; clear BK186; clear HB; have HO_3 := n0_; have HO_4 := n1_; have HO_6 := n2_; have HO_7 := n3_; have BK186 := n4_; have HB := n5_; clear n0_ n1_ n2_ n3_ n4_ n5_; clear hg hw hp_))
              go_roundg k2
              case measure => have := HK1.out; have := HK2.out; omega
              case rel => exact ⟨(y197), (wrap64 (x8_2 + 1)), (by first | rfl | (simp; done) | (simp [*]; done)), H', ⟨by have := HK1.out; have := HK2.out; omega⟩, ⟨by (with_reducible repeat (first | apply Kd.R_alloc | apply Kd.R_drewN | apply Kd.R_drew)); exact HO_3.out⟩, ⟨by (with_reducible repeat (first | apply Kd.S_alloc | apply Kd.S_drewN | apply Kd.S_drew)); exact Kd.S_mono HO_4.out (fun _ hk => ⟨hk.1.1, ⟨hk.1.2, hk.2⟩⟩)⟩, ⟨by (with_reducible repeat (first | apply Kd.R_alloc | apply Kd.R_drewN | apply Kd.R_drew)); exact HO_6.out⟩, ⟨by (with_reducible repeat (first | apply Kd.R_alloc | apply Kd.R_drewN | apply Kd.R_drew)); exact HO_7.out⟩, ⟨by (with_reducible repeat (first | refine blk_drewN ?_ _ | refine blk_drew ?_ | refine blk_alloc ?_ _)); exact BK186.out⟩, ⟨by repeat (first | (with_reducible first | exact HB.out | apply below_alloc | apply pw_below_drewN | apply below_drew1 | refine below_set ?_ GE186.out) | exact HB.out)⟩⟩
             ·rw [if_neg c21] at H
              exact absurd H (by simp)
            ·rw [if_neg c20] at H
             have c20b0 : (x5_1 == x8_2) = false := beq_eq_false_iff_ne.mpr c20
             have c20b1 : (x5_1 != x8_2) = true := bne_iff_ne.mpr c20
             by_cases c27 : x8_2 < (t190.length : Int)
             ·rw [if_pos c27] at H
              have c27b0 : decide (x8_2 < (t190.length : Int)) = true := decide_eq_true c27
              clear c27
              by_cases c28 : x8_2 < (x7_2.length : Int)
              ·rw [if_pos c28] at H
               have c28b0 : decide (x8_2 < (x7_2.length : Int)) = true := decide_eq_true c28
               clear c28
               obtain ⟨y199, hy199⟩ : ∃ y_ : List Bool, y_ = (x7_2.set (x8_2 : Int).toNat (!(rdOf false t190 x8_2))) := ⟨_, rfl⟩
               replace H : (davitref08_All.l1 k2 x3_1 x4_1 x5_1 t190 y199 (wrap64 (x8_2 + 1)) a0_0 a0_1 l0_2) = some r := by first | (rw [hy199]; with_reducible exact H) | (have H2_ := (Option.bind_some _ _).symm.trans H; rw [hy199]; with_reducible exact H2_) | (have H2_ := (Option.bind_some _ _).symm.trans H; with_reducible exact H2_) | with_reducible exact H | (rw [hy199]; exact H) | exact H
               have Ny199 := Aside0.mk hy199
               clear hy199
               have H' := Aside0.mk H
               clear H
               have hcz30_0 : wr.cell? ⟨gb186, 0, none⟩ = some (.int .i64 a0_0) := (blk_cell BK186.out 0).trans rfl
               have hcz30_1 : wr.cell? ⟨gb186, 1, none⟩ = some (.int .i64 a0_1) := (blk_cell BK186.out 1).trans rfl
               have hcz30_2 : wr.cell? ⟨gb186, 2, none⟩ = some (.slice A0_2 l0_2.length c0_2) := (blk_cell BK186.out 2).trans rfl
               have hfz30_0 := blk_frozen BK186.out 0
               have hfz30_1 := blk_frozen BK186.out 1
               have hfz30_2 := blk_frozen BK186.out 2
               obtain ⟨Ao31, co31, eo31⟩ := Kd.R_slice HO_3.out
               subst eo31
               have p196 : 0 ≤ (x8_2 : Int) := of_decide_eq_true (by first | (with_reducible assumption) | assumption)
               have q196 : x8_2 < (x3_1.length : Int) := of_decide_eq_true (by first | (with_reducible assumption) | assumption)
               obtain ⟨ad196, e196, hx196_0⟩ := Kd.at_bool (Kd.R_reads' HO_3.out).2.2 x8_2 p196 q196
               (try rw [← Nbq18.out] at hx196_0)
               cases e196
               replace p196 := eq_true p196
               replace q196 := eq_true q196
               obtain ⟨Ao32, co32, eo32⟩ := Kd.R_slice HO_6.out
               subst eo32
               have p198 : 0 ≤ (x8_2 : Int) := of_decide_eq_true (by first | (with_reducible assumption) | assumption)
               have q198 : x8_2 < (t190.length : Int) := of_decide_eq_true (by first | (with_reducible assumption) | assumption)
               obtain ⟨ad198, e198, hx198_0⟩ := Kd.at_bool (Kd.R_reads' HO_6.out).2.2 x8_2 p198 q198
               (try rw [← Nbq18.out] at hx198_0)
               cases e198
               replace p198 := eq_true p198
               replace q198 := eq_true q198
               have p29 : 0 ≤ (x8_2 : Int) := of_decide_eq_true (by first | (with_reducible assumption) | assumption)
               have q29 : (x8_2 : Int) < ((x7_2.length : Int) : Int) := of_decide_eq_true (by first | (with_reducible assumption) | assumption)
               obtain ⟨go29, co29, eo29, gb29, gl29, cl29, HG29⟩ := Kd.R_form HO_7.out (by omega)
               (first | cases eo29 | (injection eo29 with ea_ en_ ec_; (first | subst ea_ | (injection ea_ with ea_; subst ea_)); subst ec_; clear en_))
               have GB29 := Aside0.mk gb29
               have GG29 := Aside0.mk HG29
               clear gb29 gl29 HG29
               obtain ⟨hx29_0, hf29_0⟩ := Kd.R_celln false HO_7.out (x8_2 : Int) p29 q29
               replace p29 := eq_true p29
               replace q29 := eq_true q29
               have HP33 := Kd.R_putg HO_7.out (x8_2 : Int) (!(rdOf false t190 x8_2))
               go_wp2_with (first | ((with_reducible refine gate_store (t := 4) (p := 50) rfl ?_); refine store_event (t := 4) (p := 50) (v := ?vo_w34) (w1 := (wr.setCell ⟨go29, (x8_2 : Int).toNat, none⟩ (.bool (!(rdOf false t190 x8_2))))) ?hg ?ho ?hn ?hr ?_; (case ho => rfl); (case hg => rfl); (case hn => rfl); (case hr => first | (go_simp; done) | (go_simp; rfl)); intro w34 hw; have hg : wr.grownBy w34 (some go29) := (by rw [hw]; exact HP33.2); have hp_ : Kd.R Kd.bool 4 w34 w.heap.size (fun k_ => some k_ ≠ (.slice (some ad196) x3_1.length co31 : Value).ownBlock ∧ some k_ ≠ (.slice (some ad198) t190.length co32 : Value).ownBlock) (.slice (some ⟨go29, 0, none⟩) x7_2.length co29) y199 := (by rw [hw, Ny199.out]; exact HP33.1); clear HP33; have n0_ := Aside0.mk (Kd.R_after (v := (.slice (some ⟨go29, 0, none⟩) x7_2.length co29)) (v1 := (.slice (some ⟨go29, 0, none⟩) x7_2.length co29)) (ok := (fun k_ => some k_ ≠ (.slice (some ad198) t190.length co32 : Value).ownBlock)) (by (with_reducible repeat (first | apply Kd.R_alloc | apply Kd.R_drewN | apply Kd.R_drew)); exact HO_3.out) hg (.inl rfl)); have n1_ := Aside0.mk (Kd.S_after (v := (.slice (some ⟨go29, 0, none⟩) x7_2.length co29)) (v1 := (.slice (some ⟨go29, 0, none⟩) x7_2.length co29)) (ok := (fun k_ => some k_ ≠ (.slice (some ad196) x3_1.length co31 : Value).ownBlock ∧ some k_ ≠ (.slice (some ad198) t190.length co32 : Value).ownBlock)) (by (with_reducible repeat (first | apply Kd.S_alloc | apply Kd.S_drewN | apply Kd.S_drew)); exact Kd.S_mono HO_4.out (fun _ hk => ⟨⟨hk.1, hk.2.1⟩, hk.2.2⟩)) hg (.inl rfl)); have n2_ := Aside0.mk (Kd.R_after (v := (.slice (some ⟨go29, 0, none⟩) x7_2.length co29)) (v1 := (.slice (some ⟨go29, 0, none⟩) x7_2.length co29)) (ok := (fun k_ => some k_ ≠ (.slice (some ad196) x3_1.length co31 : Value).ownBlock)) (by (with_reducible repeat (first | apply Kd.R_alloc | apply Kd.R_drewN | apply Kd.R_drew)); exact HO_6.out) hg (.inl rfl)); have n3_ := Aside0.mk (hp_); have n4_ := Aside0.mk (blk_grown (g := gb186) (o := .cells #[.int .i64 a0_0, .int .i64 a0_1, .slice A0_2 l0_2.length c0_2] 24 (0, 0)) (by (with_reducible repeat (first | refine blk_drewN ?_ _ | refine blk_drew ?_ | refine blk_alloc ?_ _)); exact BK186.out) hg (Kd.R_ne HO_7.out BK186.out (by decide))); have n5_ := Aside0.mk ((by rw [hw]; exact below_set (HB.out) GB29.out : Below w.heap.size w w34)); clear HO_3; clear HO_4; clear HO_6; clear HO_7; clear BK186; clear HB; have HO_3 := n0_; have HO_4 := n1_; have HO_6 := n2_; have HO_7 := n3_; have BK186 := n4_; have HB := n5_; clear n0_ n1_ n2_ n3_ n4_ n5_; clear hg hw hp_))
               go_roundg k2
               case measure => have := HK1.out; have := HK2.out; omega
               case rel => exact ⟨(y199), (wrap64 (x8_2 + 1)), (by first | rfl | (simp; done) | (simp [*]; done)), H', ⟨by have := HK1.out; have := HK2.out; omega⟩, ⟨by (with_reducible repeat (first | apply Kd.R_alloc | apply Kd.R_drewN | apply Kd.R_drew)); exact HO_3.out⟩, ⟨by (with_reducible repeat (first | apply Kd.S_alloc | apply Kd.S_drewN | apply Kd.S_drew)); exact Kd.S_mono HO_4.out (fun _ hk => ⟨hk.1.1, ⟨hk.1.2, hk.2⟩⟩)⟩, ⟨by (with_reducible repeat (first | apply Kd.R_alloc | apply Kd.R_drewN | apply Kd.R_drew)); exact HO_6.out⟩, ⟨by (with_reducible repeat (first | apply Kd.R_alloc | apply Kd.R_drewN | apply Kd.R_drew)); exact HO_7.out⟩, ⟨by (with_reducible repeat (first | refine blk_drewN ?_ _ | refine blk_drew ?_ | refine blk_alloc ?_ _)); exact BK186.out⟩, ⟨by repeat (first | (with_reducible first | exact HB.out | apply below_alloc | apply pw_below_drewN | apply below_drew1 | refine below_set ?_ GE186.out) | exact HB.out)⟩⟩
              ·rw [if_neg c28] at H
               exact absurd H (by simp)
             ·rw [if_neg c27] at H
              exact absurd H (by simp)
           ·replace c19 := Bool.eq_false_iff.mpr c19
            subst c19
            have H1 : (if x8_2 < (x7_2.length : Int) then (davitref08_All.l1 k2 x3_1 x4_1 x5_1 t190 (x7_2.set (x8_2 : Int).toNat false) (wrap64 (x8_2 + 1)) a0_0 a0_1 l0_2) else (none)) = some r := by rw [if_neg (show ¬ (false = true) by decide)] at H; exact H
            clear H
            have H := H1
            clear H1
            by_cases c35 : x8_2 < (x7_2.length : Int)
            ·rw [if_pos c35] at H
             have c35b0 : decide (x8_2 < (x7_2.length : Int)) = true := decide_eq_true c35
             clear c35
             obtain ⟨y200, hy200⟩ : ∃ y_ : List Bool, y_ = (x7_2.set (x8_2 : Int).toNat false) := ⟨_, rfl⟩
             replace H : (davitref08_All.l1 k2 x3_1 x4_1 x5_1 t190 y200 (wrap64 (x8_2 + 1)) a0_0 a0_1 l0_2) = some r := by first | (rw [hy200]; with_reducible exact H) | (have H2_ := (Option.bind_some _ _).symm.trans H; rw [hy200]; with_reducible exact H2_) | (have H2_ := (Option.bind_some _ _).symm.trans H; with_reducible exact H2_) | with_reducible exact H | (rw [hy200]; exact H) | exact H
             have Ny200 := Aside0.mk hy200
             clear hy200
             have H' := Aside0.mk H
             clear H
             have hcz37_0 : wr.cell? ⟨gb186, 0, none⟩ = some (.int .i64 a0_0) := (blk_cell BK186.out 0).trans rfl
             have hcz37_1 : wr.cell? ⟨gb186, 1, none⟩ = some (.int .i64 a0_1) := (blk_cell BK186.out 1).trans rfl
             have hcz37_2 : wr.cell? ⟨gb186, 2, none⟩ = some (.slice A0_2 l0_2.length c0_2) := (blk_cell BK186.out 2).trans rfl
             have hfz37_0 := blk_frozen BK186.out 0
             have hfz37_1 := blk_frozen BK186.out 1
             have hfz37_2 := blk_frozen BK186.out 2
             obtain ⟨Ao38, co38, eo38⟩ := Kd.R_slice HO_3.out
             subst eo38
             have p196 : 0 ≤ (x8_2 : Int) := of_decide_eq_true (by first | (with_reducible assumption) | assumption)
             have q196 : x8_2 < (x3_1.length : Int) := of_decide_eq_true (by first | (with_reducible assumption) | assumption)
             obtain ⟨ad196, e196, hx196_0⟩ := Kd.at_bool (Kd.R_reads' HO_3.out).2.2 x8_2 p196 q196
             (try rw [← Nbq18.out] at hx196_0)
             cases e196
             replace p196 := eq_true p196
             replace q196 := eq_true q196
             have p36 : 0 ≤ (x8_2 : Int) := of_decide_eq_true (by first | (with_reducible assumption) | assumption)
             have q36 : (x8_2 : Int) < ((x7_2.length : Int) : Int) := of_decide_eq_true (by first | (with_reducible assumption) | assumption)
             obtain ⟨go36, co36, eo36, gb36, gl36, cl36, HG36⟩ := Kd.R_form HO_7.out (by omega)
             (first | cases eo36 | (injection eo36 with ea_ en_ ec_; (first | subst ea_ | (injection ea_ with ea_; subst ea_)); subst ec_; clear en_))
             have GB36 := Aside0.mk gb36
             have GG36 := Aside0.mk HG36
             clear gb36 gl36 HG36
             obtain ⟨hx36_0, hf36_0⟩ := Kd.R_celln false HO_7.out (x8_2 : Int) p36 q36
             replace p36 := eq_true p36
             replace q36 := eq_true q36
             have HP39 := Kd.R_putg HO_7.out (x8_2 : Int) false
             go_wp2_with (first | ((with_reducible refine gate_store (t := 4) (p := 50) rfl ?_); refine store_event (t := 4) (p := 50) (v := ?vo_w40) (w1 := (wr.setCell ⟨go36, (x8_2 : Int).toNat, none⟩ (.bool false))) ?hg ?ho ?hn ?hr ?_; (case ho => rfl); (case hg => rfl); (case hn => rfl); (case hr => first | (go_simp; done) | (go_simp; rfl)); intro w40 hw; have hg : wr.grownBy w40 (some go36) := (by rw [hw]; exact HP39.2); have hp_ : Kd.R Kd.bool 4 w40 w.heap.size (fun k_ => some k_ ≠ (.slice (some ad196) x3_1.length co38 : Value).ownBlock ∧ some k_ ≠ (v191 : Value).ownBlock) (.slice (some ⟨go36, 0, none⟩) x7_2.length co36) y200 := (by rw [hw, Ny200.out]; exact HP39.1); clear HP39; have n0_ := Aside0.mk (Kd.R_after (v := (.slice (some ⟨go36, 0, none⟩) x7_2.length co36)) (v1 := (.slice (some ⟨go36, 0, none⟩) x7_2.length co36)) (ok := (fun k_ => some k_ ≠ (v191 : Value).ownBlock)) (by (with_reducible repeat (first | apply Kd.R_alloc | apply Kd.R_drewN | apply Kd.R_drew)); exact HO_3.out) hg (.inl rfl)); have n1_ := Aside0.mk (Kd.S_after (v := (.slice (some ⟨go36, 0, none⟩) x7_2.length co36)) (v1 := (.slice (some ⟨go36, 0, none⟩) x7_2.length co36)) (ok := (fun k_ => some k_ ≠ (.slice (some ad196) x3_1.length co38 : Value).ownBlock ∧ some k_ ≠ (v191 : Value).ownBlock)) (by (with_reducible repeat (first | apply Kd.S_alloc | apply Kd.S_drewN | apply Kd.S_drew)); exact Kd.S_mono HO_4.out (fun _ hk => ⟨⟨hk.1, hk.2.1⟩, hk.2.2⟩)) hg (.inl rfl)); have n2_ := Aside0.mk (Kd.R_after (v := (.slice (some ⟨go36, 0, none⟩) x7_2.length co36)) (v1 := (.slice (some ⟨go36, 0, none⟩) x7_2.length co36)) (ok := (fun k_ => some k_ ≠ (.slice (some ad196) x3_1.length co38 : Value).ownBlock)) (by (with_reducible repeat (first | apply Kd.R_alloc | apply Kd.R_drewN | apply Kd.R_drew)); exact HO_6.out) hg (.inl rfl)); have n3_ := Aside0.mk (hp_); have n4_ := Aside0.mk (blk_grown (g := gb186) (o := .cells #[.int .i64 a0_0, .int .i64 a0_1, .slice A0_2 l0_2.length c0_2] 24 (0, 0)) (by (with_reducible repeat (first | refine blk_drewN ?_ _ | refine blk_drew ?_ | refine blk_alloc ?_ _)); exact BK186.out) hg (Kd.R_ne HO_7.out BK186.out (by decide))); have n5_ := Aside0.mk ((by rw [hw]; exact below_set (HB.out) GB36.out : Below w.heap.size w w40)); clear HO_3; clear HO_4; clear HO_6; clear HO_7; clear BK186; clear HB; have HO_3 := n0_; have HO_4 := n1_; have HO_6 := n2_; have HO_7 := n3_; have BK186 := n4_; have HB := n5_; clear n0_ n1_ n2_ n3_ n4_ n5_; clear hg hw hp_))
             go_roundg k2
             case measure => have := HK1.out; have := HK2.out; omega
             case rel => exact ⟨(y200), (wrap64 (x8_2 + 1)), (by first | rfl | (simp; done) | (simp [*]; done)), H', ⟨by have := HK1.out; have := HK2.out; omega⟩, ⟨by (with_reducible repeat (first | apply Kd.R_alloc | apply Kd.R_drewN | apply Kd.R_drew)); exact HO_3.out⟩, ⟨by (with_reducible repeat (first | apply Kd.S_alloc | apply Kd.S_drewN | apply Kd.S_drew)); exact Kd.S_mono HO_4.out (fun _ hk => ⟨hk.1.1, ⟨hk.1.2, hk.2⟩⟩)⟩, ⟨by (with_reducible repeat (first | apply Kd.R_alloc | apply Kd.R_drewN | apply Kd.R_drew)); exact HO_6.out⟩, ⟨by (with_reducible repeat (first | apply Kd.R_alloc | apply Kd.R_drewN | apply Kd.R_drew)); exact HO_7.out⟩, ⟨by (with_reducible repeat (first | refine blk_drewN ?_ _ | refine blk_drew ?_ | refine blk_alloc ?_ _)); exact BK186.out⟩, ⟨by repeat (first | (with_reducible first | exact HB.out | apply below_alloc | apply pw_below_drewN | apply below_drew1 | refine below_set ?_ GE186.out) | exact HB.out)⟩⟩
            ·rw [if_neg c35] at H
             exact absurd H (by simp)
          ·rw [if_neg c17] at H
           exact absurd H (by simp)
         ·rw [if_neg c16] at H
          exact absurd H (by simp)
        ·rw [if_neg c15] at H
         have c15b0 : decide (x8_2 < (l0_2.length : Int)) = false := decide_eq_false c15
         clear c15
         by_cases c41 : x4_1.length < 5864062014805
         ·rw [if_pos c41] at H
          have LMc41 := Aside0.mk c41
          clear c41
          obtain ⟨y201, hy201⟩ : ∃ y_ : List (List Bool), y_ = (x4_1 ++ [x7_2]) := ⟨_, rfl⟩
          replace H : (davitref08_All.l0 k2 x3_1 y201 (wrap64 (x5_1 + 1)) a0_0 a0_1 l0_2) = some r := by first | (rw [hy201]; with_reducible exact H) | (have H2_ := (Option.bind_some _ _).symm.trans H; rw [hy201]; with_reducible exact H2_) | (have H2_ := (Option.bind_some _ _).symm.trans H; with_reducible exact H2_) | with_reducible exact H | (rw [hy201]; exact H) | exact H
          have Ny201 := Aside0.mk hy201
          clear hy201
          have H' := Aside0.mk H
          clear H
          have hcz42_0 : wr.cell? ⟨gb186, 0, none⟩ = some (.int .i64 a0_0) := (blk_cell BK186.out 0).trans rfl
          have hcz42_1 : wr.cell? ⟨gb186, 1, none⟩ = some (.int .i64 a0_1) := (blk_cell BK186.out 1).trans rfl
          have hcz42_2 : wr.cell? ⟨gb186, 2, none⟩ = some (.slice A0_2 l0_2.length c0_2) := (blk_cell BK186.out 2).trans rfl
          have hfz42_0 := blk_frozen BK186.out 0
          have hfz42_1 := blk_frozen BK186.out 1
          have hfz42_2 := blk_frozen BK186.out 2
          obtain ⟨Ao44, co44, eo44⟩ := Kd.R_slice HO_7.out
          subst eo44
          go_wp2_with (first | ((with_reducible refine gate_builtin (b := .append) (xs := #[.tmp 51, .tmp 53]) rfl ?_); at_builtin; refine Kd.S_append (Kd.slice 4 Kd.bool) (w0 := w) w.heap.size rfl (.tmp 51) (.tmp 53) 56 32 (.slice none 0 0) 24 rfl Try.underlying56 info32 rfl (by decide) (by omega) u4 x4_1 x7_2 [.slice Ao44 x7_2.length co44] (fun k_ => some k_ ≠ (v188 : Value).ownBlock ∧ some k_ ≠ (v191 : Value).ownBlock) (fun k_ => some k_ = (.slice Ao44 x7_2.length co44 : Value).ownBlock) rfl rfl ?aP (fun k_ hk_ => ((Kd.R_mono (ok' := fun k_ => ((fun k_ => some k_ ≠ (v188 : Value).ownBlock ∧ some k_ ≠ (v191 : Value).ownBlock)) k_ ∧ some k_ ≠ (u4 : Value).ownBlock) (Kd.R_apart' (HO_7.out) (Kd.S_typed HO_4.out) (by decide)) (fun k_ hk => ⟨⟨hk.1.1, hk.1.2⟩, hk.2⟩))).1 k_ hk_.symm) ?aF ?aO ?aB ?aS ?aL ?_; (case aP => exact Kd.M_row (Kd.R_mono (Kd.R_tight rfl (Kd.R_mono (ok' := fun k_ => ((fun k_ => some k_ ≠ (v188 : Value).ownBlock ∧ some k_ ≠ (v191 : Value).ownBlock)) k_ ∧ some k_ ≠ (u4 : Value).ownBlock) (Kd.R_apart' (HO_7.out) (Kd.S_typed HO_4.out) (by decide)) (fun k_ hk => ⟨⟨hk.1.1, hk.1.2⟩, hk.2⟩))) (fun _ h_ => h_))); (case aB => exact (by repeat (first | (with_reducible first | exact HB.out | apply below_alloc | apply pw_below_drewN | apply below_drew1 | refine below_set ?_ GE186.out) | exact HB.out))); (case aF => exact (fun k_ hk => ⟨Kd.fresh' (Kd.R_lt (by (with_reducible repeat (first | apply Kd.R_alloc | apply Kd.R_drewN | apply Kd.R_drew)); exact HO_3.out)) k_ hk, Kd.fresh' (Kd.R_lt (by (with_reducible repeat (first | apply Kd.R_alloc | apply Kd.R_drewN | apply Kd.R_drew)); exact HO_6.out)) k_ hk⟩)); (case aO => exact (by (with_reducible repeat (first | apply Kd.S_alloc | apply Kd.S_drewN | apply Kd.S_drew)); exact Kd.S_mono HO_4.out (fun k_ hk => ⟨⟨hk.1, hk.2.1⟩, fun e_ => hk.2.2 e_⟩))); (case aS => exact (below_size (by repeat (first | (with_reducible first | exact HB.out | apply below_alloc | apply pw_below_drewN | apply below_drew1 | refine below_set ?_ GE186.out) | exact HB.out)))); (case aL => have := LMc41.out; omega); intro v202 w43 ho hb hg hat; rw [← Ny201.out] at ho; have n0_ := Aside0.mk (Kd.R_over' (by (with_reducible repeat (first | apply Kd.R_alloc | apply Kd.R_drewN | apply Kd.R_drew)); exact HO_3.out) (Kd.S_typed (by (with_reducible repeat (first | apply Kd.S_alloc | apply Kd.S_drewN | apply Kd.S_drew)); exact HO_4.out)) (by decide) hg); have n1_ := Aside0.mk (Kd.R_over' (by (with_reducible repeat (first | apply Kd.R_alloc | apply Kd.R_drewN | apply Kd.R_drew)); exact HO_6.out) (Kd.S_typed (by (with_reducible repeat (first | apply Kd.S_alloc | apply Kd.S_drewN | apply Kd.S_drew)); exact HO_4.out)) (by decide) hg); have n2_ := Aside0.mk (blk_grown (g := gb186) (o := .cells #[.int .i64 a0_0, .int .i64 a0_1, .slice A0_2 l0_2.length c0_2] 24 (0, 0)) (by (with_reducible repeat (first | refine blk_drewN ?_ _ | refine blk_drew ?_ | refine blk_alloc ?_ _)); exact BK186.out) hg (Kd.S_ne HO_4.out BK186.out (by decide))); have n3_ := Aside0.mk (hb); have n4_ := Aside0.mk (ho); clear HO_3; clear HO_6; clear BK186; clear HB; clear HO_4; clear HO_7; have HO_3 := n0_; have HO_6 := n1_; have BK186 := n2_; have HB := n3_; have HO203 := n4_; clear n0_ n1_ n2_ n3_ n4_; clear ho hb hg hat))
          go_roundg k2
          case measure => have := HK1.out; have := HK2.out; omega
          case rel => exact ⟨(x3_1), (y201), (wrap64 (x5_1 + 1)), (by first | rfl | (simp; done) | (simp [*]; done)), H', ⟨by have := HK1.out; have := HK2.out; omega⟩, ⟨by (with_reducible repeat (first | apply Kd.R_alloc | apply Kd.R_drewN | apply Kd.R_drew)); exact Kd.R_mono HO_3.out (fun _ hk => trivial)⟩, ⟨by (with_reducible repeat (first | apply Kd.S_alloc | apply Kd.S_drewN | apply Kd.S_drew)); exact Kd.S_mono HO203.out (fun _ hk => hk.1)⟩, ⟨by (with_reducible repeat (first | refine blk_drewN ?_ _ | refine blk_drew ?_ | refine blk_alloc ?_ _)); exact BK186.out⟩, ⟨by repeat (first | (with_reducible first | exact HB.out | apply below_alloc | apply pw_below_drewN | apply below_drew1 | refine below_set ?_ GE186.out) | exact HB.out)⟩⟩
         ·rw [if_neg c41] at H
          exact absurd H (by simp)
     ·rw [if_neg c9] at H
      exact absurd H (by simp)
    ·rw [if_neg c8] at H
     exact absurd H (by simp)
   ·rw [if_neg c6] at H
    have c6b0 : decide (x5_1 < (l0_2.length : Int)) = false := decide_eq_false c6
    clear c6
    obtain rfl := Option.some.inj H
    have hcz45_0 : wr.cell? ⟨gb186, 0, none⟩ = some (.int .i64 a0_0) := (blk_cell BK186.out 0).trans rfl
    have hcz45_1 : wr.cell? ⟨gb186, 1, none⟩ = some (.int .i64 a0_1) := (blk_cell BK186.out 1).trans rfl
    have hcz45_2 : wr.cell? ⟨gb186, 2, none⟩ = some (.slice A0_2 l0_2.length c0_2) := (blk_cell BK186.out 2).trans rfl
    have hfz45_0 := blk_frozen BK186.out 0
    have hfz45_1 := blk_frozen BK186.out 1
    have hfz45_2 := blk_frozen BK186.out 2
    go_wp2
    go_ret
    exact ⟨_, by first | rfl | (simp [errW_none, errW_some] <;> rfl) | (simp [*, errW_none, errW_some] <;> rfl), by (with_reducible repeat (first | apply Kd.S_alloc | apply Kd.S_drewN | apply Kd.S_drew)); exact Kd.S_mono HO_4.out (fun _ hk => trivial), by repeat (first | (with_reducible first | exact HB.out | apply below_alloc | apply pw_below_drewN | apply below_drew1 | refine below_set ?_ GE186.out) | exact HB.out)⟩
end
end Go.Proofs.Ytilopoegoddggaa.X
namespace Go.Proofs.Ytilopoegoddggaa.X
open Go.RowKit Go.Proofs.YtilopoegoddggaaW.PrintWords Go.Proofs.YtilopoegoddggaaW.PrintLast Go.Proofs.YtilopoegoddggaaW.PrintMore
attribute [local go_sem] max2_int min2_int max_two min_two max_three min_three max_four min_four
set_option linter.all false
noncomputable section
mutual
def davitref08_Over.l0 : Nat → List (List Bool) → List Int → Int → Option (List Int)
 | 0, _, _, _ => none
 | k + 1, x3, x4, x5 => if x5 < (x3.length : Int) then (davitref08_Over.l1 k x3 x4 x5 (-1) 0) else (some x4)
def davitref08_Over.l1 : Nat → List (List Bool) → List Int → Int → Int → Int → Option (List Int)
 | 0, _, _, _, _, _ => none
 | k + 1, x3, x4, x5, x6, x7 => if x7 < (x3.length : Int) then (if x7 = x5 then (davitref08_Over.j2 k x3 x4 x5 x6 x7 true) else (if 0 ≤ x7 then (if 0 ≤ x5 then (if x5 < ((rd_L12 x3 x7).length : Int) then (davitref08_Over.j2 k x3 x4 x5 x6 x7 (!(rdOf false (rd_L12 x3 x7) x5))) else (none)) else (none)) else (none))) else (if x4.length < 17592186044416 then (davitref08_Over.l0 k x3 (x4 ++ [x6]) (wrap64 (x5 + 1))) else (none))
def davitref08_Over.j2 : Nat → List (List Bool) → List Int → Int → Int → Int → Bool → Option (List Int)
 | 0, _, _, _, _, _, _ => none
 | k + 1, x3, x4, x5, x6, x7, x36 => if x36 = true then (davitref08_Over.l1 k x3 x4 x5 x6 (wrap64 (x7 + 1))) else (davitref08_Over.l2 k x3 x4 x5 x6 x7 true 0)
def davitref08_Over.l2 : Nat → List (List Bool) → List Int → Int → Int → Int → Bool → Int → Option (List Int)
 | 0, _, _, _, _, _, _, _ => none
 | k + 1, x3, x4, x5, x6, x7, x8, x9 => if x9 < (x3.length : Int) then (if x9 = x5 then (davitref08_Over.l2 k x3 x4 x5 x6 x7 x8 (wrap64 (x9 + 1))) else (if 0 ≤ x9 then (if 0 ≤ x5 then (if x5 < ((rd_L12 x3 x9).length : Int) then (if rdOf false (rd_L12 x3 x9) x5 = true then (if 0 ≤ x7 then (if x7 < ((rd_L12 x3 x9).length : Int) then (if (rdOf false (rd_L12 x3 x9) x7 = true) then (davitref08_Over.l2 k x3 x4 x5 x6 x7 x8 (wrap64 (x9 + 1))) else (davitref08_Over.l2 k x3 x4 x5 x6 x7 false (wrap64 (x9 + 1)))) else (none)) else (none)) else (davitref08_Over.l2 k x3 x4 x5 x6 x7 x8 (wrap64 (x9 + 1)))) else (none)) else (none)) else (none))) else (if x8 = true then (davitref08_Over.l1 k x3 x4 x5 x7 (wrap64 (x7 + 1))) else (davitref08_Over.l1 k x3 x4 x5 x6 (wrap64 (x7 + 1))))
end
def davitref08_Over.f (k : Nat) (a0_0 : Int) (a0_1 : Int) (l0_2 : List (S50)) : Option (List Int) := (davitref08_All.f k a0_0 a0_1 l0_2).bind fun t205 => (davitref08_Over.l0 k t205 ([] : List Int) 0)
theorem davitref08_Over.mono_l : ∀ k, (∀ y0 y1 y2, LeO (davitref08_Over.l0 k y0 y1 y2) (davitref08_Over.l0 (k + 1) y0 y1 y2)) ∧ (∀ y0 y1 y2 y3 y4, LeO (davitref08_Over.l1 k y0 y1 y2 y3 y4) (davitref08_Over.l1 (k + 1) y0 y1 y2 y3 y4)) ∧ (∀ y0 y1 y2 y3 y4 y5, LeO (davitref08_Over.j2 k y0 y1 y2 y3 y4 y5) (davitref08_Over.j2 (k + 1) y0 y1 y2 y3 y4 y5)) ∧ (∀ y0 y1 y2 y3 y4 y5 y6, LeO (davitref08_Over.l2 k y0 y1 y2 y3 y4 y5 y6) (davitref08_Over.l2 (k + 1) y0 y1 y2 y3 y4 y5 y6))
 | 0 => ⟨fun _ _ _ r h => by simp [davitref08_Over.l0] at h, fun _ _ _ _ _ r h => by simp [davitref08_Over.l1] at h, fun _ _ _ _ _ _ r h => by simp [davitref08_Over.j2] at h, fun _ _ _ _ _ _ _ r h => by simp [davitref08_Over.l2] at h⟩
 | k + 1 => by
  obtain ⟨ih0, ih1, ih2, ih3⟩ := davitref08_Over.mono_l k
  refine ⟨?_, ?_, ?_, ?_⟩
  ·intro y0 y1 y2
   unfold davitref08_Over.l0
   repeat' first
   | (with_reducible exact ih0 _ _ _)
   | (with_reducible exact ih1 _ _ _ _ _)
   | (with_reducible exact ih2 _ _ _ _ _ _)
   | (with_reducible exact ih3 _ _ _ _ _ _ _)
   | (with_reducible exact davitref08_All.mono _ _ _ _)
   | (with_reducible exact LeO.refl _)
   | (with_reducible exact LeO.none _)
   | (with_reducible refine LeO.ite ?_ ?_)
   | (with_reducible refine LeO.bind ?_ (fun _ => ?_))
   | exact ih0 _ _ _
   | exact ih1 _ _ _ _ _
   | exact ih2 _ _ _ _ _ _
   | exact ih3 _ _ _ _ _ _ _
   | exact davitref08_All.mono _ _ _ _
   | exact LeO.none _
   | refine LeO.ite ?_ ?_
   | refine LeO.bind ?_ (fun _ => ?_)
  ·intro y0 y1 y2 y3 y4
   unfold davitref08_Over.l1
   repeat' first
   | (with_reducible exact ih0 _ _ _)
   | (with_reducible exact ih1 _ _ _ _ _)
   | (with_reducible exact ih2 _ _ _ _ _ _)
   | (with_reducible exact ih3 _ _ _ _ _ _ _)
   | (with_reducible exact davitref08_All.mono _ _ _ _)
   | (with_reducible exact LeO.refl _)
   | (with_reducible exact LeO.none _)
   | (with_reducible refine LeO.ite ?_ ?_)
   | (with_reducible refine LeO.bind ?_ (fun _ => ?_))
   | exact ih0 _ _ _
   | exact ih1 _ _ _ _ _
   | exact ih2 _ _ _ _ _ _
   | exact ih3 _ _ _ _ _ _ _
   | exact davitref08_All.mono _ _ _ _
   | exact LeO.none _
   | refine LeO.ite ?_ ?_
   | refine LeO.bind ?_ (fun _ => ?_)
  ·intro y0 y1 y2 y3 y4 y5
   unfold davitref08_Over.j2
   repeat' first
   | (with_reducible exact ih0 _ _ _)
   | (with_reducible exact ih1 _ _ _ _ _)
   | (with_reducible exact ih2 _ _ _ _ _ _)
   | (with_reducible exact ih3 _ _ _ _ _ _ _)
   | (with_reducible exact davitref08_All.mono _ _ _ _)
   | (with_reducible exact LeO.refl _)
   | (with_reducible exact LeO.none _)
   | (with_reducible refine LeO.ite ?_ ?_)
   | (with_reducible refine LeO.bind ?_ (fun _ => ?_))
   | exact ih0 _ _ _
   | exact ih1 _ _ _ _ _
   | exact ih2 _ _ _ _ _ _
   | exact ih3 _ _ _ _ _ _ _
   | exact davitref08_All.mono _ _ _ _
   | exact LeO.none _
   | refine LeO.ite ?_ ?_
   | refine LeO.bind ?_ (fun _ => ?_)
  ·intro y0 y1 y2 y3 y4 y5 y6
   unfold davitref08_Over.l2
   repeat' first
   | (with_reducible exact ih0 _ _ _)
   | (with_reducible exact ih1 _ _ _ _ _)
   | (with_reducible exact ih2 _ _ _ _ _ _)
   | (with_reducible exact ih3 _ _ _ _ _ _ _)
   | (with_reducible exact davitref08_All.mono _ _ _ _)
   | (with_reducible exact LeO.refl _)
   | (with_reducible exact LeO.none _)
   | (with_reducible refine LeO.ite ?_ ?_)
   | (with_reducible refine LeO.bind ?_ (fun _ => ?_))
   | exact ih0 _ _ _
   | exact ih1 _ _ _ _ _
   | exact ih2 _ _ _ _ _ _
   | exact ih3 _ _ _ _ _ _ _
   | exact davitref08_All.mono _ _ _ _
   | exact LeO.none _
   | refine LeO.ite ?_ ?_
   | refine LeO.bind ?_ (fun _ => ?_)
theorem davitref08_Over.mono : ∀ a0 a1 a2 k, LeO (davitref08_Over.f k a0 a1 a2) (davitref08_Over.f (k + 1) a0 a1 a2) := by
 intro a0 a1 a2 k
 obtain ⟨ih0, ih1, ih2, ih3⟩ := davitref08_Over.mono_l k
 unfold davitref08_Over.f
 repeat' first
   | (with_reducible exact ih0 _ _ _)
   | (with_reducible exact ih1 _ _ _ _ _)
   | (with_reducible exact ih2 _ _ _ _ _ _)
   | (with_reducible exact ih3 _ _ _ _ _ _ _)
   | (with_reducible exact davitref08_All.mono _ _ _ _)
   | (with_reducible exact LeO.refl _)
   | (with_reducible exact LeO.none _)
   | (with_reducible refine LeO.ite ?_ ?_)
   | (with_reducible refine LeO.bind ?_ (fun _ => ?_))
   | exact ih0 _ _ _
   | exact ih1 _ _ _ _ _
   | exact ih2 _ _ _ _ _ _
   | exact ih3 _ _ _ _ _ _ _
   | exact davitref08_All.mono _ _ _ _
   | exact LeO.none _
   | refine LeO.ite ?_ ?_
   | refine LeO.bind ?_ (fun _ => ?_)
set_option maxHeartbeats 8000000 in
set_option maxRecDepth 100000 in
theorem davitref08_Over.calls (k : Nat) (a0_0 : Int) (a0_1 : Int) (A0_2 : Option Addr) (c0_2 : Nat) (l0_2 : List (S50)) (r : List Int) (w : World) (hr0_2 : Kd.C k50 w A0_2 l0_2.length l0_2) (hc0_2 : l0_2.length ≤ c0_2) (h : davitref08_Over.f k a0_0 a0_1 l0_2 = some r) :
  Calls Try.prog 14 #[.agg #[.int .i64 a0_0, .int .i64 a0_1, .slice A0_2 l0_2.length c0_2]] w fun e w' => ∃ v0_ : Value, e = .returned (v0_) ∧ Kd.R (Kd.int .i64) 3 w' w.heap.size (fun _ => True) v0_ r ∧ Below w.heap.size w w' := by
 have hu24 := Try.underlying24
 have HR0_2 := Aside0.mk hr0_2
 have HC0_2 := Aside0.mk hc0_2
 clear hr0_2 hc0_2
 have HB := Aside0.mk (Below.refl w.heap.size w)
 have H : ((davitref08_All.f k a0_0 a0_1 l0_2).bind fun t205 => (davitref08_Over.l0 k t205 ([] : List Int) 0)) = some r := h
 clear h
 replace H := Option.bind_eq_some_iff.mp H
 obtain ⟨t205, A20, H⟩ := H
 replace H : (davitref08_Over.l0 k t205 ([] : List Int) 0) = some r := H
 have A2 := Aside0.mk A20
 clear A20
 have H' := Aside0.mk H
 clear H
 go_enter Try.func14, Try.ntmps14
 go_wp2_with (first | ((with_reducible refine gate_dst (N := 1) rfl ?_); refine box_event ?hg (N := 1) ?hd (cs := #[.int .i64 a0_0, .int .i64 a0_1, .slice A0_2 l0_2.length c0_2]) (t := 24) ?hr ?_; (case hd => rfl); (case hg => rfl); (case hr => first | (go_simp; done) | (go_simp; rfl)); intro gb204 hg w3 hbox hb; have n0_ := Aside0.mk (below_step (by repeat (first | (with_reducible first | exact HB.out | apply below_alloc | apply pw_below_drewN | apply below_drew1) | exact HB.out)) hb); have n1_ := Aside0.mk (hbox); have n2_ := Aside0.mk ((by rw [hg]; exact (below_size (by repeat (first | (with_reducible first | exact HB.out | apply below_alloc | apply pw_below_drewN | apply below_drew1) | exact HB.out))) : w.heap.size ≤ gb204)); have n3_ := Aside0.mk ((by rw [hg]; exact (below_size (by repeat (first | (with_reducible first | exact HB.out | apply below_alloc | apply pw_below_drewN | apply below_drew1) | exact HB.out))) : w.heap.size ≤ gb204)); clear HB; have HB := n0_; have BK204 := n1_; have GW204 := n2_; have GE204 := n3_; clear n0_ n1_ n2_ n3_; clear hb hbox hg; have hcz4_0 : w3.cell? ⟨gb204, 0, none⟩ = some (.int .i64 a0_0) := (blk_cell BK204.out 0).trans rfl; have hcz4_1 : w3.cell? ⟨gb204, 1, none⟩ = some (.int .i64 a0_1) := (blk_cell BK204.out 1).trans rfl; have hcz4_2 : w3.cell? ⟨gb204, 2, none⟩ = some (.slice A0_2 l0_2.length c0_2) := (blk_cell BK204.out 2).trans rfl; have hfz4_0 := blk_frozen BK204.out 0; have hfz4_1 := blk_frozen BK204.out 1; have hfz4_2 := blk_frozen BK204.out 2) | ((with_reducible refine gate_callee (f := 28) rfl ?_); refine goesL_ (some 11) rfl rfl Try.func28 (by kernel_rfl) rfl #[.agg #[.int .i64 a0_0, .int .i64 a0_1, .slice A0_2 l0_2.length c0_2]] rfl (by (try simp only [List.map_toArray, List.map_cons, List.map_nil]); first | done | rfl | (simp only [List.length_drop, List.length_take]; rfl)) ?_; (with_reducible refine (davitref08_All.calls k a0_0 a0_1 _ _ l0_2 t205 _ ?side1 ?side2 A2.out).mono ?_); (case side1 => repeat (first | exact (Kd.C_below HR0_2.out HB.out) | (with_reducible refine Kd.C_alloc ?_ _) | (with_reducible refine Kd.C_drewN ?_ _) | (with_reducible refine Kd.C_drew ?_))); (case side2 => exact HC0_2.out); rintro e w5 ⟨v206, rfl, ho0, hb⟩; refine ⟨_, rfl, ?_⟩; have n0_ := Aside0.mk (Kd.S_lower ho0 (below_size (by repeat (first | (with_reducible first | exact HB.out | apply below_alloc | apply pw_below_drewN | apply below_drew1 | refine below_set ?_ GE204.out) | exact HB.out)))); have n1_ := Aside0.mk (blk_below (g := gb204) (o := .cells #[.int .i64 a0_0, .int .i64 a0_1, .slice A0_2 l0_2.length c0_2] 24 (0, 0)) (by (with_reducible repeat (first | refine blk_drewN ?_ _ | refine blk_drew ?_ | refine blk_alloc ?_ _)); exact BK204.out) hb); have n2_ := Aside0.mk (below_step (by repeat (first | (with_reducible first | exact HB.out | apply below_alloc | apply pw_below_drewN | apply below_drew1 | refine below_set ?_ GE204.out) | exact HB.out)) hb); clear BK204; clear HB; have HO207 := n0_; have BK204 := n1_; have HB := n2_; clear n0_ n1_ n2_; (try clear hb); (try clear hb2); (try clear hk); (try clear hi); (try clear ho0)))
 go_loopg [4, 5] k (fun kq v4 v5 w' => ∃ (x4_1 : List Int) (x5_1 : Int), v5 = .int .i64 x5_1 ∧ Aside0 (davitref08_Over.l0 kq t205 x4_1 x5_1 = some r) ∧ Aside0 (kq ≤ k) ∧ Aside0 (Kd.S (Kd.slice 4 Kd.bool) 32 w' w.heap.size (fun _ => True) v206 t205) ∧ Aside0 (Kd.R (Kd.int .i64) 3 w' w.heap.size (fun _ => True) v4 x4_1) ∧ Aside0 (w'.heap[gb204]? = some (.cells #[.int .i64 a0_0, .int .i64 a0_1, (.slice A0_2 l0_2.length c0_2)] 24 (0, 0))) ∧ Aside0 (Below w.heap.size w w'))
 case atStart => exact ⟨(([] : List Int)), (0), (by first | rfl | (simp; done) | (simp [*]; done)), H', ⟨Nat.le_refl _⟩, ⟨by (with_reducible repeat (first | apply Kd.S_alloc | apply Kd.S_drewN | apply Kd.S_drew)); exact HO207.out⟩, ⟨by first | exact Kd.R_nil _ _ _ _ _ | exact Kd.N_nil _ _ _ _ _ | exact Kd.V_nil _ _ _ _ _ | exact Kd.Q_nil _ _ _ _ _ | exact Kd.S_nil _ _ _ _ _⟩, ⟨by (with_reducible repeat (first | refine blk_drewN ?_ _ | refine blk_drew ?_ | refine blk_alloc ?_ _)); exact BK204.out⟩, ⟨by repeat (first | (with_reducible first | exact HB.out | apply below_alloc | apply pw_below_drewN | apply below_drew1 | refine below_set ?_ GE204.out) | exact HB.out)⟩⟩
 case round =>
  clear H'
  try clear c1
  try clear c2
  try clear p2
  try clear hcz4_0
  try clear hcz4_1
  try clear hcz4_2
  try clear hfz4_0
  try clear hfz4_1
  try clear hfz4_2
  obtain ⟨x4_1, x5_1, rfl, HA, HK1, HO_3, HO_4, BK204, HB⟩ := hrel
  cases gk with
  | zero => exact absurd HA.out (by simp [davitref08_Over.l0])
  | succ k1 =>
   have H := HA.out
   clear HA
   simp only [davitref08_Over.l0] at H
   by_cases c6 : x5_1 < (t205.length : Int)
   ·rw [if_pos c6] at H
    have c6b0 : decide (x5_1 < (t205.length : Int)) = true := decide_eq_true c6
    clear c6
    have H' := Aside0.mk H
    clear H
    obtain ⟨Ao7, co7, eo7⟩ := Kd.S_slice HO_3.out
    subst eo7
    go_wp2
    go_loopg [6, 7] k1 (fun kq v6 v7 w' => ∃ (x6_2 : Int) (x7_2 : Int), v6 = .int .i64 x6_2 ∧ v7 = .int .i64 x7_2 ∧ Aside0 (davitref08_Over.l1 kq t205 x4_1 x5_1 x6_2 x7_2 = some r) ∧ Aside0 (kq ≤ k1) ∧ Aside0 (Kd.S (Kd.slice 4 Kd.bool) 32 w' w.heap.size (fun _ => True) (.slice Ao7 t205.length co7) t205) ∧ Aside0 (Kd.R (Kd.int .i64) 3 w' w.heap.size (fun _ => True) u4 x4_1) ∧ Aside0 (w'.heap[gb204]? = some (.cells #[.int .i64 a0_0, .int .i64 a0_1, (.slice A0_2 l0_2.length c0_2)] 24 (0, 0))) ∧ Aside0 (Below w.heap.size w w'))
    case atStart => exact ⟨((-1)), (0), (by first | rfl | (simp; done) | (simp [*]; done)), (by first | rfl | (simp; done) | (simp [*]; done)), H', ⟨Nat.le_refl _⟩, ⟨by (with_reducible repeat (first | apply Kd.S_alloc | apply Kd.S_drewN | apply Kd.S_drew)); exact HO_3.out⟩, ⟨by (with_reducible repeat (first | apply Kd.R_alloc | apply Kd.R_drewN | apply Kd.R_drew)); exact HO_4.out⟩, ⟨by (with_reducible repeat (first | refine blk_drewN ?_ _ | refine blk_drew ?_ | refine blk_alloc ?_ _)); exact BK204.out⟩, ⟨by repeat (first | (with_reducible first | exact HB.out | apply below_alloc | apply pw_below_drewN | apply below_drew1 | refine below_set ?_ GE204.out) | exact HB.out)⟩⟩
    case round =>
     clear H'
     try clear c1
     try clear c2
     try clear p2
     try clear c6
     try clear c6b0
     try clear hcz4_0
     try clear hcz4_1
     try clear hcz4_2
     try clear hfz4_0
     try clear hfz4_1
     try clear hfz4_2
     try clear p2
     obtain ⟨x6_2, x7_2, rfl, rfl, HA, HK2, HO_3, HO_4, BK204, HB⟩ := hrel
     cases gk with
     | zero => exact absurd HA.out (by simp [davitref08_Over.l1])
     | succ k2 =>
      have H := HA.out
      clear HA
      simp only [davitref08_Over.l1] at H
      by_cases c8 : x7_2 < (t205.length : Int)
      ·rw [if_pos c8] at H
       have c8b0 : decide (x7_2 < (t205.length : Int)) = true := decide_eq_true c8
       clear c8
       have HC9 := Aside0.mk H
       clear H
       go_upto_region 10 with (fail)
       go_cut [36] (fun v36 wc => ∃ (kq : Nat) (x36_8 : Bool), v36 = .bool x36_8 ∧ Aside0 (davitref08_Over.j2 kq t205 x4_1 x5_1 x6_2 x7_2 x36_8 = some r) ∧ Aside0 (kq ≤ k2) ∧ Aside0 (Kd.S (Kd.slice 4 Kd.bool) 32 wc w.heap.size (fun _ => True) (.slice Ao7 t205.length co7) t205) ∧ Aside0 (Kd.R (Kd.int .i64) 3 wc w.heap.size (fun _ => True) u4 x4_1) ∧ Aside0 (wc.heap[gb204]? = some (.cells #[.int .i64 a0_0, .int .i64 a0_1, (.slice A0_2 l0_2.length c0_2)] 24 (0, 0))) ∧ Aside0 (Below w.heap.size w wc))
       case first =>
        have H := HC9.out
        clear HC9
        by_cases c10 : x7_2 = x5_1
        ·rw [if_pos c10] at H
         have c10b0 : (x7_2 == x5_1) = true := beq_iff_eq.mpr c10
         have c10b1 : (x7_2 != x5_1) = false := bne_eq_false_iff_eq.mpr c10
         clear c10
         (first | rw [c10b0] | (simp only [i64_w, i32_w]; rw [c10b0]) | skip)
         have H' := Aside0.mk H
         clear H
         go_wp2
         go_meet
         case rel => exact ⟨_, (true), (by first | rfl | (simp; done) | (simp [*]; done)), H', ⟨by have := HK1.out; have := HK2.out; first | omega | exact Nat.le_refl _⟩, ⟨by (with_reducible repeat (first | apply Kd.S_alloc | apply Kd.S_drewN | apply Kd.S_drew)); exact HO_3.out⟩, ⟨by (with_reducible repeat (first | apply Kd.R_alloc | apply Kd.R_drewN | apply Kd.R_drew)); exact HO_4.out⟩, ⟨by (with_reducible repeat (first | refine blk_drewN ?_ _ | refine blk_drew ?_ | refine blk_alloc ?_ _)); exact BK204.out⟩, ⟨by repeat (first | (with_reducible first | exact HB.out | apply below_alloc | apply pw_below_drewN | apply below_drew1 | refine below_set ?_ GE204.out) | exact HB.out)⟩⟩
        ·rw [if_neg c10] at H
         have c10b0 : (x7_2 == x5_1) = false := beq_eq_false_iff_ne.mpr c10
         have c10b1 : (x7_2 != x5_1) = true := bne_iff_ne.mpr c10
         (first | rw [c10b0] | (simp only [i64_w, i32_w]; rw [c10b0]) | skip)
         by_cases c11 : 0 ≤ x7_2
         ·rw [if_pos c11] at H
          have c11b0 : decide (0 ≤ x7_2) = true := decide_eq_true c11
          clear c11
          by_cases c12 : 0 ≤ x5_1
          ·rw [if_pos c12] at H
           have c12b0 : decide (0 ≤ x5_1) = true := decide_eq_true c12
           clear c12
           by_cases c13 : x5_1 < ((rd_L12 t205 x7_2).length : Int)
           ·rw [if_pos c13] at H
            have c13b0 : decide (x5_1 < ((rd_L12 t205 x7_2).length : Int)) = true := decide_eq_true c13
            clear c13
            have H' := Aside0.mk H
            clear H
            have p211 : 0 ≤ (x7_2 : Int) := of_decide_eq_true (by first | (with_reducible assumption) | assumption)
            have q211 : x7_2 < (t205.length : Int) := of_decide_eq_true (by first | (with_reducible assumption) | assumption)
            obtain ⟨ad211, A211_0, c211_0, e211, hx211_0, hl211_0, hi211_0⟩ := at_L12 (Kd.S_reads' HO_3.out).2.2 x7_2 p211 q211
            cases e211
            obtain ⟨ce211, hce211, hMe211, hcc211⟩ := Kd.S_get HO_3.out [] x7_2 p211 (by first | exact q211 | exact of_decide_eq_true (by first | (with_reducible assumption) | assumption) | (have e_ := (Kd.S_reads' HO_3.out).1; omega))
            obtain ⟨ve211_0, rfl, ge211_0⟩ := hMe211
            have hv211_0 := hcc211 0 _ rfl
            rw [Nat.add_zero, show ((Kd.slice 4 Kd.bool)).sz = 1 from rfl, Nat.mul_one] at hv211_0
            replace hv211_0 := Option.some.inj (hv211_0.symm.trans hx211_0)
            rw [hv211_0] at ge211_0
            have HL211_0 := Aside0.mk (show Kd.R Kd.bool 4 _ _ _ _ (rd_L12 t205 x7_2) from ge211_0)
            clear hv211_0 ge211_0
            clear hcc211 hce211
            have HR211_0 := Aside0.mk hi211_0
            have HC211_0 := Aside0.mk hl211_0
            clear hi211_0 hl211_0
            replace p211 := eq_true p211
            replace q211 := eq_true q211
            have p212 : 0 ≤ (x5_1 : Int) := of_decide_eq_true (by first | (with_reducible assumption) | assumption)
            have q212 : x5_1 < ((rd_L12 t205 x7_2).length : Int) := of_decide_eq_true (by first | (with_reducible assumption) | assumption)
            obtain ⟨ad212, e212, hx212_0⟩ := Kd.at_bool (by repeat (first | (with_reducible exact HR211_0.out) | (with_reducible refine Kd.C_alloc ?_ _) | (with_reducible refine Kd.C_drewN ?_ _) | (with_reducible refine Kd.C_drew ?_) | exact HR211_0.out)) x5_1 p212 q212
            cases e212
            replace p212 := eq_true p212
            replace q212 := eq_true q212
            go_wp2
            go_meet
            case rel => exact ⟨_, (!(rdOf false (rd_L12 t205 x7_2) x5_1)), (by first | rfl | (simp; done) | (simp [*]; done)), H', ⟨by have := HK1.out; have := HK2.out; first | omega | exact Nat.le_refl _⟩, ⟨by (with_reducible repeat (first | apply Kd.S_alloc | apply Kd.S_drewN | apply Kd.S_drew)); exact HO_3.out⟩, ⟨by (with_reducible repeat (first | apply Kd.R_alloc | apply Kd.R_drewN | apply Kd.R_drew)); exact HO_4.out⟩, ⟨by (with_reducible repeat (first | refine blk_drewN ?_ _ | refine blk_drew ?_ | refine blk_alloc ?_ _)); exact BK204.out⟩, ⟨by repeat (first | (with_reducible first | exact HB.out | apply below_alloc | apply pw_below_drewN | apply below_drew1 | refine below_set ?_ GE204.out) | exact HB.out)⟩⟩
           ·rw [if_neg c13] at H
            exact absurd H (by simp)
          ·rw [if_neg c12] at H
           exact absurd H (by simp)
         ·rw [if_neg c11] at H
          exact absurd H (by simp)
       case rest =>
        clear HC9
        try clear c1
        try clear c2
        try clear p2
        try clear q2
        try clear hx2
        try clear c6
        try clear c6b0
        try clear c8
        try clear c8b0
        try clear c10
        try clear c10b0
        try clear c10b1
        try clear c11
        try clear c11b0
        try clear c12
        try clear c12b0
        try clear c13
        try clear c13b0
        try clear hcz4_0
        try clear hcz4_1
        try clear hcz4_2
        try clear hfz4_0
        try clear hfz4_1
        try clear hfz4_2
        try clear hx211_0
        try clear hx212_0
        try clear p2
        try clear p211
        try clear p212
        try clear q211
        try clear q212
        obtain ⟨kq, x36_8, rfl, HA, HJ8, HO_3, HO_4, BK204, HB⟩ := hcut
        cases kq with
        | zero => exact absurd HA.out (by simp [davitref08_Over.j2])
        | succ kj8 =>
         have H := HA.out
         clear HA
         simp only [davitref08_Over.j2] at H
         by_cases c14 : x36_8 = true
         ·subst c14
          have H1 : (davitref08_Over.l1 kj8 t205 x4_1 x5_1 x6_2 (wrap64 (x7_2 + 1))) = some r := by rw [if_pos rfl] at H; exact H
          clear H
          have H := H1
          clear H1
          have H' := Aside0.mk H
          clear H
          go_wp2
          go_roundg kj8
          case measure => have := HK1.out; have := HK2.out; have := HJ8.out; omega
          case rel => exact ⟨(x6_2), (wrap64 (x7_2 + 1)), (by first | rfl | (simp; done) | (simp [*]; done)), (by first | rfl | (simp; done) | (simp [*]; done)), H', ⟨by have := HK1.out; have := HK2.out; have := HJ8.out; omega⟩, ⟨by (with_reducible repeat (first | apply Kd.S_alloc | apply Kd.S_drewN | apply Kd.S_drew)); exact HO_3.out⟩, ⟨by (with_reducible repeat (first | apply Kd.R_alloc | apply Kd.R_drewN | apply Kd.R_drew)); exact HO_4.out⟩, ⟨by (with_reducible repeat (first | refine blk_drewN ?_ _ | refine blk_drew ?_ | refine blk_alloc ?_ _)); exact BK204.out⟩, ⟨by repeat (first | (with_reducible first | exact HB.out | apply below_alloc | apply pw_below_drewN | apply below_drew1 | refine below_set ?_ GE204.out) | exact HB.out)⟩⟩
         ·replace c14 := Bool.eq_false_iff.mpr c14
          subst c14
          have H1 : (davitref08_Over.l2 kj8 t205 x4_1 x5_1 x6_2 x7_2 true 0) = some r := by rw [if_neg (show ¬ (false = true) by decide)] at H; exact H
          clear H
          have H := H1
          clear H1
          have H' := Aside0.mk H
          clear H
          go_wp2
          go_loopg [8, 9] kj8 (fun kq v8 v9 w' => ∃ (x8_4 : Bool) (x9_4 : Int), v8 = .bool x8_4 ∧ v9 = .int .i64 x9_4 ∧ Aside0 (davitref08_Over.l2 kq t205 x4_1 x5_1 x6_2 x7_2 x8_4 x9_4 = some r) ∧ Aside0 (kq ≤ kj8) ∧ Aside0 (Kd.S (Kd.slice 4 Kd.bool) 32 w' w.heap.size (fun _ => True) (.slice Ao7 t205.length co7) t205) ∧ Aside0 (Kd.R (Kd.int .i64) 3 w' w.heap.size (fun _ => True) u4 x4_1) ∧ Aside0 (w'.heap[gb204]? = some (.cells #[.int .i64 a0_0, .int .i64 a0_1, (.slice A0_2 l0_2.length c0_2)] 24 (0, 0))) ∧ Aside0 (Below w.heap.size w w'))
          case atStart => exact ⟨(true), (0), (by first | rfl | (simp; done) | (simp [*]; done)), (by first | rfl | (simp; done) | (simp [*]; done)), H', ⟨Nat.le_refl _⟩, ⟨by (with_reducible repeat (first | apply Kd.S_alloc | apply Kd.S_drewN | apply Kd.S_drew)); exact HO_3.out⟩, ⟨by (with_reducible repeat (first | apply Kd.R_alloc | apply Kd.R_drewN | apply Kd.R_drew)); exact HO_4.out⟩, ⟨by (with_reducible repeat (first | refine blk_drewN ?_ _ | refine blk_drew ?_ | refine blk_alloc ?_ _)); exact BK204.out⟩, ⟨by repeat (first | (with_reducible first | exact HB.out | apply below_alloc | apply pw_below_drewN | apply below_drew1 | refine below_set ?_ GE204.out) | exact HB.out)⟩⟩
          case round =>
           clear H'
           try clear c1
           try clear c2
           try clear p2
           try clear q2
           try clear hx2
           try clear c6
           try clear c6b0
           try clear p6
           try clear c8
           try clear c8b0
           try clear c10
           try clear c10b0
           try clear c10b1
           try clear c11
           try clear c11b0
           try clear c12
           try clear c12b0
           try clear c13
           try clear c13b0
           try clear c14
           try clear hcz4_0
           try clear hcz4_1
           try clear hcz4_2
           try clear hfz4_0
           try clear hfz4_1
           try clear hfz4_2
           try clear hx211_0
           try clear hx212_0
           try clear p2
           try clear p211
           try clear p212
           try clear q2
           try clear q211
           try clear q212
           obtain ⟨x8_4, x9_4, rfl, rfl, HA, HK4, HO_3, HO_4, BK204, HB⟩ := hrel
           cases gk with
           | zero => exact absurd HA.out (by simp [davitref08_Over.l2])
           | succ k4 =>
            have H := HA.out
            clear HA
            simp only [davitref08_Over.l2] at H
            by_cases c15 : x9_4 < (t205.length : Int)
            ·rw [if_pos c15] at H
             have c15b0 : decide (x9_4 < (t205.length : Int)) = true := decide_eq_true c15
             clear c15
             by_cases c16 : x9_4 = x5_1
             ·rw [if_pos c16] at H
              have c16b0 : (x9_4 == x5_1) = true := beq_iff_eq.mpr c16
              have c16b1 : (x9_4 != x5_1) = false := bne_eq_false_iff_eq.mpr c16
              clear c16
              have H' := Aside0.mk H
              clear H
              go_wp2
              go_roundg k4
              case measure => have := HK1.out; have := HK2.out; have := HJ8.out; have := HK4.out; omega
              case rel => exact ⟨(x8_4), (wrap64 (x9_4 + 1)), (by first | rfl | (simp; done) | (simp [*]; done)), (by first | rfl | (simp; done) | (simp [*]; done)), H', ⟨by have := HK1.out; have := HK2.out; have := HJ8.out; have := HK4.out; omega⟩, ⟨by (with_reducible repeat (first | apply Kd.S_alloc | apply Kd.S_drewN | apply Kd.S_drew)); exact HO_3.out⟩, ⟨by (with_reducible repeat (first | apply Kd.R_alloc | apply Kd.R_drewN | apply Kd.R_drew)); exact HO_4.out⟩, ⟨by (with_reducible repeat (first | refine blk_drewN ?_ _ | refine blk_drew ?_ | refine blk_alloc ?_ _)); exact BK204.out⟩, ⟨by repeat (first | (with_reducible first | exact HB.out | apply below_alloc | apply pw_below_drewN | apply below_drew1 | refine below_set ?_ GE204.out) | exact HB.out)⟩⟩
             ·rw [if_neg c16] at H
              have c16b0 : (x9_4 == x5_1) = false := beq_eq_false_iff_ne.mpr c16
              have c16b1 : (x9_4 != x5_1) = true := bne_iff_ne.mpr c16
              by_cases c17 : 0 ≤ x9_4
              ·rw [if_pos c17] at H
               have c17b0 : decide (0 ≤ x9_4) = true := decide_eq_true c17
               clear c17
               by_cases c18 : 0 ≤ x5_1
               ·rw [if_pos c18] at H
                have c18b0 : decide (0 ≤ x5_1) = true := decide_eq_true c18
                clear c18
                by_cases c19 : x5_1 < ((rd_L12 t205 x9_4).length : Int)
                ·rw [if_pos c19] at H
                 have c19b0 : decide (x5_1 < ((rd_L12 t205 x9_4).length : Int)) = true := decide_eq_true c19
                 clear c19
                 obtain ⟨bq20, hbq20⟩ : ∃ b_ : Bool, b_ = (rdOf false (rd_L12 t205 x9_4) x5_1) := ⟨_, rfl⟩
                 replace H : (if bq20 = true then (if 0 ≤ x7_2 then (if x7_2 < ((rd_L12 t205 x9_4).length : Int) then (if (rdOf false (rd_L12 t205 x9_4) x7_2 = true) then (davitref08_Over.l2 k4 t205 x4_1 x5_1 x6_2 x7_2 x8_4 (wrap64 (x9_4 + 1))) else (davitref08_Over.l2 k4 t205 x4_1 x5_1 x6_2 x7_2 false (wrap64 (x9_4 + 1)))) else (none)) else (none)) else (davitref08_Over.l2 k4 t205 x4_1 x5_1 x6_2 x7_2 x8_4 (wrap64 (x9_4 + 1)))) = some r := by rw [← hbq20] at H; exact H
                 have Nbq20 := Aside0.mk hbq20
                 clear hbq20
                 by_cases c21 : bq20 = true
                 ·subst c21
                  have H1 : (if 0 ≤ x7_2 then (if x7_2 < ((rd_L12 t205 x9_4).length : Int) then (if (rdOf false (rd_L12 t205 x9_4) x7_2 = true) then (davitref08_Over.l2 k4 t205 x4_1 x5_1 x6_2 x7_2 x8_4 (wrap64 (x9_4 + 1))) else (davitref08_Over.l2 k4 t205 x4_1 x5_1 x6_2 x7_2 false (wrap64 (x9_4 + 1)))) else (none)) else (none)) = some r := by rw [if_pos rfl] at H; exact H
                  clear H
                  have H := H1
                  clear H1
                  by_cases c22 : 0 ≤ x7_2
                  ·rw [if_pos c22] at H
                   have c22b0 : decide (0 ≤ x7_2) = true := decide_eq_true c22
                   clear c22
                   by_cases c23 : x7_2 < ((rd_L12 t205 x9_4).length : Int)
                   ·rw [if_pos c23] at H
                    have c23b0 : decide (x7_2 < ((rd_L12 t205 x9_4).length : Int)) = true := decide_eq_true c23
                    clear c23
                    obtain ⟨bq24, hbq24⟩ : ∃ b_ : Bool, b_ = (rdOf false (rd_L12 t205 x9_4) x7_2) := ⟨_, rfl⟩
                    replace H : (if (bq24 = true) then (davitref08_Over.l2 k4 t205 x4_1 x5_1 x6_2 x7_2 x8_4 (wrap64 (x9_4 + 1))) else (davitref08_Over.l2 k4 t205 x4_1 x5_1 x6_2 x7_2 false (wrap64 (x9_4 + 1)))) = some r := by rw [← hbq24] at H; exact H
                    have Nbq24 := Aside0.mk hbq24
                    clear hbq24
                    by_cases c25 : (bq24 = true)
                    ·subst c25
                     have H1 : (davitref08_Over.l2 k4 t205 x4_1 x5_1 x6_2 x7_2 x8_4 (wrap64 (x9_4 + 1))) = some r := by rw [if_pos rfl] at H; exact H
                     clear H
                     have H := H1
                     clear H1
                     have H' := Aside0.mk H
                     clear H
                     have p213 : 0 ≤ (x9_4 : Int) := of_decide_eq_true (by first | (with_reducible assumption) | assumption)
                     have q213 : x9_4 < (t205.length : Int) := of_decide_eq_true (by first | (with_reducible assumption) | assumption)
                     obtain ⟨ad213, A213_0, c213_0, e213, hx213_0, hl213_0, hi213_0⟩ := at_L12 (Kd.S_reads' HO_3.out).2.2 x9_4 p213 q213
                     cases e213
                     obtain ⟨ce213, hce213, hMe213, hcc213⟩ := Kd.S_get HO_3.out [] x9_4 p213 (by first | exact q213 | exact of_decide_eq_true (by first | (with_reducible assumption) | assumption) | (have e_ := (Kd.S_reads' HO_3.out).1; omega))
                     obtain ⟨ve213_0, rfl, ge213_0⟩ := hMe213
                     have hv213_0 := hcc213 0 _ rfl
                     rw [Nat.add_zero, show ((Kd.slice 4 Kd.bool)).sz = 1 from rfl, Nat.mul_one] at hv213_0
                     replace hv213_0 := Option.some.inj (hv213_0.symm.trans hx213_0)
                     rw [hv213_0] at ge213_0
                     have HL213_0 := Aside0.mk (show Kd.R Kd.bool 4 _ _ _ _ (rd_L12 t205 x9_4) from ge213_0)
                     clear hv213_0 ge213_0
                     clear hcc213 hce213
                     have HR213_0 := Aside0.mk hi213_0
                     have HC213_0 := Aside0.mk hl213_0
                     clear hi213_0 hl213_0
                     replace p213 := eq_true p213
                     replace q213 := eq_true q213
                     have p214 : 0 ≤ (x5_1 : Int) := of_decide_eq_true (by first | (with_reducible assumption) | assumption)
                     have q214 : x5_1 < ((rd_L12 t205 x9_4).length : Int) := of_decide_eq_true (by first | (with_reducible assumption) | assumption)
                     obtain ⟨ad214, e214, hx214_0⟩ := Kd.at_bool (by repeat (first | (with_reducible exact HR213_0.out) | (with_reducible refine Kd.C_alloc ?_ _) | (with_reducible refine Kd.C_drewN ?_ _) | (with_reducible refine Kd.C_drew ?_) | exact HR213_0.out)) x5_1 p214 q214
                     (try rw [← Nbq20.out] at hx214_0)
                     (try rw [← Nbq24.out] at hx214_0)
                     cases e214
                     replace p214 := eq_true p214
                     replace q214 := eq_true q214
                     have p215 : 0 ≤ (x9_4 : Int) := of_decide_eq_true (by first | (with_reducible assumption) | assumption)
                     have q215 : x9_4 < (t205.length : Int) := of_decide_eq_true (by first | (with_reducible assumption) | assumption)
                     obtain ⟨ad215, A215_0, c215_0, e215, hx215_0, hl215_0, hi215_0⟩ := at_L12 (Kd.S_reads' HO_3.out).2.2 x9_4 p215 q215
                     obtain rfl : ad213 = ad215 := (by injection e215)
                     obtain ⟨ce215, hce215, hMe215, hcc215⟩ := Kd.S_get HO_3.out [] x9_4 p215 (by first | exact q215 | exact of_decide_eq_true (by first | (with_reducible assumption) | assumption) | (have e_ := (Kd.S_reads' HO_3.out).1; omega))
                     obtain ⟨ve215_0, rfl, ge215_0⟩ := hMe215
                     have hv215_0 := hcc215 0 _ rfl
                     rw [Nat.add_zero, show ((Kd.slice 4 Kd.bool)).sz = 1 from rfl, Nat.mul_one] at hv215_0
                     replace hv215_0 := Option.some.inj (hv215_0.symm.trans hx215_0)
                     rw [hv215_0] at ge215_0
                     have HL215_0 := Aside0.mk (show Kd.R Kd.bool 4 _ _ _ _ (rd_L12 t205 x9_4) from ge215_0)
                     clear hv215_0 ge215_0
                     clear hcc215 hce215
                     have HR215_0 := Aside0.mk hi215_0
                     have HC215_0 := Aside0.mk hl215_0
                     clear hi215_0 hl215_0
                     replace p215 := eq_true p215
                     replace q215 := eq_true q215
                     have ea_ := Option.some.inj (hx213_0.symm.trans hx215_0)
                     injection ea_ with ea_ en_ ec_
                     subst ea_
                     subst ec_
                     clear en_
                     have p216 : 0 ≤ (x7_2 : Int) := of_decide_eq_true (by first | (with_reducible assumption) | assumption)
                     have q216 : x7_2 < ((rd_L12 t205 x9_4).length : Int) := of_decide_eq_true (by first | (with_reducible assumption) | assumption)
                     obtain ⟨ad216, e216, hx216_0⟩ := Kd.at_bool (by repeat (first | (with_reducible exact HR215_0.out) | (with_reducible refine Kd.C_alloc ?_ _) | (with_reducible refine Kd.C_drewN ?_ _) | (with_reducible refine Kd.C_drew ?_) | exact HR215_0.out)) x7_2 p216 q216
                     (try rw [← Nbq20.out] at hx216_0)
                     (try rw [← Nbq24.out] at hx216_0)
                     cases e216
                     replace p216 := eq_true p216
                     replace q216 := eq_true q216
                     go_wp2
                     go_roundg k4
                     case measure => have := HK1.out; have := HK2.out; have := HJ8.out; have := HK4.out; omega
                     case rel => exact ⟨(x8_4), (wrap64 (x9_4 + 1)), (by first | rfl | (simp; done) | (simp [*]; done)), (by first | rfl | (simp; done) | (simp [*]; done)), H', ⟨by have := HK1.out; have := HK2.out; have := HJ8.out; have := HK4.out; omega⟩, ⟨by (with_reducible repeat (first | apply Kd.S_alloc | apply Kd.S_drewN | apply Kd.S_drew)); exact HO_3.out⟩, ⟨by (with_reducible repeat (first | apply Kd.R_alloc | apply Kd.R_drewN | apply Kd.R_drew)); exact HO_4.out⟩, ⟨by (with_reducible repeat (first | refine blk_drewN ?_ _ | refine blk_drew ?_ | refine blk_alloc ?_ _)); exact BK204.out⟩, ⟨by repeat (first | (with_reducible first | exact HB.out | apply below_alloc | apply pw_below_drewN | apply below_drew1 | refine below_set ?_ GE204.out) | exact HB.out)⟩⟩
                    ·replace c25 := Bool.eq_false_iff.mpr c25
                     subst c25
                     have H1 : (davitref08_Over.l2 k4 t205 x4_1 x5_1 x6_2 x7_2 false (wrap64 (x9_4 + 1))) = some r := by rw [if_neg (show ¬ (false = true) by decide)] at H; exact H
                     clear H
                     have H := H1
                     clear H1
                     have H' := Aside0.mk H
                     clear H
                     have p213 : 0 ≤ (x9_4 : Int) := of_decide_eq_true (by first | (with_reducible assumption) | assumption)
                     have q213 : x9_4 < (t205.length : Int) := of_decide_eq_true (by first | (with_reducible assumption) | assumption)
                     obtain ⟨ad213, A213_0, c213_0, e213, hx213_0, hl213_0, hi213_0⟩ := at_L12 (Kd.S_reads' HO_3.out).2.2 x9_4 p213 q213
                     cases e213
                     obtain ⟨ce213, hce213, hMe213, hcc213⟩ := Kd.S_get HO_3.out [] x9_4 p213 (by first | exact q213 | exact of_decide_eq_true (by first | (with_reducible assumption) | assumption) | (have e_ := (Kd.S_reads' HO_3.out).1; omega))
                     obtain ⟨ve213_0, rfl, ge213_0⟩ := hMe213
                     have hv213_0 := hcc213 0 _ rfl
                     rw [Nat.add_zero, show ((Kd.slice 4 Kd.bool)).sz = 1 from rfl, Nat.mul_one] at hv213_0
                     replace hv213_0 := Option.some.inj (hv213_0.symm.trans hx213_0)
                     rw [hv213_0] at ge213_0
                     have HL213_0 := Aside0.mk (show Kd.R Kd.bool 4 _ _ _ _ (rd_L12 t205 x9_4) from ge213_0)
                     clear hv213_0 ge213_0
                     clear hcc213 hce213
                     have HR213_0 := Aside0.mk hi213_0
                     have HC213_0 := Aside0.mk hl213_0
                     clear hi213_0 hl213_0
                     replace p213 := eq_true p213
                     replace q213 := eq_true q213
                     have p214 : 0 ≤ (x5_1 : Int) := of_decide_eq_true (by first | (with_reducible assumption) | assumption)
                     have q214 : x5_1 < ((rd_L12 t205 x9_4).length : Int) := of_decide_eq_true (by first | (with_reducible assumption) | assumption)
                     obtain ⟨ad214, e214, hx214_0⟩ := Kd.at_bool (by repeat (first | (with_reducible exact HR213_0.out) | (with_reducible refine Kd.C_alloc ?_ _) | (with_reducible refine Kd.C_drewN ?_ _) | (with_reducible refine Kd.C_drew ?_) | exact HR213_0.out)) x5_1 p214 q214
                     (try rw [← Nbq20.out] at hx214_0)
                     (try rw [← Nbq24.out] at hx214_0)
                     cases e214
                     replace p214 := eq_true p214
                     replace q214 := eq_true q214
                     have p215 : 0 ≤ (x9_4 : Int) := of_decide_eq_true (by first | (with_reducible assumption) | assumption)
                     have q215 : x9_4 < (t205.length : Int) := of_decide_eq_true (by first | (with_reducible assumption) | assumption)
                     obtain ⟨ad215, A215_0, c215_0, e215, hx215_0, hl215_0, hi215_0⟩ := at_L12 (Kd.S_reads' HO_3.out).2.2 x9_4 p215 q215
                     obtain rfl : ad213 = ad215 := (by injection e215)
                     obtain ⟨ce215, hce215, hMe215, hcc215⟩ := Kd.S_get HO_3.out [] x9_4 p215 (by first | exact q215 | exact of_decide_eq_true (by first | (with_reducible assumption) | assumption) | (have e_ := (Kd.S_reads' HO_3.out).1; omega))
                     obtain ⟨ve215_0, rfl, ge215_0⟩ := hMe215
                     have hv215_0 := hcc215 0 _ rfl
                     rw [Nat.add_zero, show ((Kd.slice 4 Kd.bool)).sz = 1 from rfl, Nat.mul_one] at hv215_0
                     replace hv215_0 := Option.some.inj (hv215_0.symm.trans hx215_0)
                     rw [hv215_0] at ge215_0
                     have HL215_0 := Aside0.mk (show Kd.R Kd.bool 4 _ _ _ _ (rd_L12 t205 x9_4) from ge215_0)
                     clear hv215_0 ge215_0
                     clear hcc215 hce215
                     have HR215_0 := Aside0.mk hi215_0
                     have HC215_0 := Aside0.mk hl215_0
                     clear hi215_0 hl215_0
                     replace p215 := eq_true p215
                     replace q215 := eq_true q215
                     have ea_ := Option.some.inj (hx213_0.symm.trans hx215_0)
                     injection ea_ with ea_ en_ ec_
                     subst ea_
                     subst ec_
                     clear en_
                     have p216 : 0 ≤ (x7_2 : Int) := of_decide_eq_true (by first | (with_reducible assumption) | assumption)
                     have q216 : x7_2 < ((rd_L12 t205 x9_4).length : Int) := of_decide_eq_true (by first | (with_reducible assumption) | assumption)
                     obtain ⟨ad216, e216, hx216_0⟩ := Kd.at_bool (by repeat (first | (with_reducible exact HR215_0.out) | (with_reducible refine Kd.C_alloc ?_ _) | (with_reducible refine Kd.C_drewN ?_ _) | (with_reducible refine Kd.C_drew ?_) | exact HR215_0.out)) x7_2 p216 q216
                     (try rw [← Nbq20.out] at hx216_0)
                     (try rw [← Nbq24.out] at hx216_0)
                     cases e216
                     replace p216 := eq_true p216
                     replace q216 := eq_true q216
                     go_wp2
                     go_roundg k4
                     case measure => have := HK1.out; have := HK2.out; have := HJ8.out; have := HK4.out; omega
                     case rel => exact ⟨(false), (wrap64 (x9_4 + 1)), (by first | rfl | (simp; done) | (simp [*]; done)), (by first | rfl | (simp; done) | (simp [*]; done)), H', ⟨by have := HK1.out; have := HK2.out; have := HJ8.out; have := HK4.out; omega⟩, ⟨by (with_reducible repeat (first | apply Kd.S_alloc | apply Kd.S_drewN | apply Kd.S_drew)); exact HO_3.out⟩, ⟨by (with_reducible repeat (first | apply Kd.R_alloc | apply Kd.R_drewN | apply Kd.R_drew)); exact HO_4.out⟩, ⟨by (with_reducible repeat (first | refine blk_drewN ?_ _ | refine blk_drew ?_ | refine blk_alloc ?_ _)); exact BK204.out⟩, ⟨by repeat (first | (with_reducible first | exact HB.out | apply below_alloc | apply pw_below_drewN | apply below_drew1 | refine below_set ?_ GE204.out) | exact HB.out)⟩⟩
                   ·rw [if_neg c23] at H
                    exact absurd H (by simp)
                  ·rw [if_neg c22] at H
                   exact absurd H (by simp)
                 ·replace c21 := Bool.eq_false_iff.mpr c21
                  subst c21
                  have H1 : (davitref08_Over.l2 k4 t205 x4_1 x5_1 x6_2 x7_2 x8_4 (wrap64 (x9_4 + 1))) = some r := by rw [if_neg (show ¬ (false = true) by decide)] at H; exact H
                  clear H
                  have H := H1
                  clear H1
                  have H' := Aside0.mk H
                  clear H
                  have p213 : 0 ≤ (x9_4 : Int) := of_decide_eq_true (by first | (with_reducible assumption) | assumption)
                  have q213 : x9_4 < (t205.length : Int) := of_decide_eq_true (by first | (with_reducible assumption) | assumption)
                  obtain ⟨ad213, A213_0, c213_0, e213, hx213_0, hl213_0, hi213_0⟩ := at_L12 (Kd.S_reads' HO_3.out).2.2 x9_4 p213 q213
                  cases e213
                  obtain ⟨ce213, hce213, hMe213, hcc213⟩ := Kd.S_get HO_3.out [] x9_4 p213 (by first | exact q213 | exact of_decide_eq_true (by first | (with_reducible assumption) | assumption) | (have e_ := (Kd.S_reads' HO_3.out).1; omega))
                  obtain ⟨ve213_0, rfl, ge213_0⟩ := hMe213
                  have hv213_0 := hcc213 0 _ rfl
                  rw [Nat.add_zero, show ((Kd.slice 4 Kd.bool)).sz = 1 from rfl, Nat.mul_one] at hv213_0
                  replace hv213_0 := Option.some.inj (hv213_0.symm.trans hx213_0)
                  rw [hv213_0] at ge213_0
                  have HL213_0 := Aside0.mk (show Kd.R Kd.bool 4 _ _ _ _ (rd_L12 t205 x9_4) from ge213_0)
                  clear hv213_0 ge213_0
                  clear hcc213 hce213
                  have HR213_0 := Aside0.mk hi213_0
                  have HC213_0 := Aside0.mk hl213_0
                  clear hi213_0 hl213_0
                  replace p213 := eq_true p213
                  replace q213 := eq_true q213
                  have p214 : 0 ≤ (x5_1 : Int) := of_decide_eq_true (by first | (with_reducible assumption) | assumption)
                  have q214 : x5_1 < ((rd_L12 t205 x9_4).length : Int) := of_decide_eq_true (by first | (with_reducible assumption) | assumption)
                  obtain ⟨ad214, e214, hx214_0⟩ := Kd.at_bool (by repeat (first | (with_reducible exact HR213_0.out) | (with_reducible refine Kd.C_alloc ?_ _) | (with_reducible refine Kd.C_drewN ?_ _) | (with_reducible refine Kd.C_drew ?_) | exact HR213_0.out)) x5_1 p214 q214
                  (try rw [← Nbq20.out] at hx214_0)
                  cases e214
                  replace p214 := eq_true p214
                  replace q214 := eq_true q214
                  go_wp2
                  go_roundg k4
                  case measure => have := HK1.out; have := HK2.out; have := HJ8.out; have := HK4.out; omega
                  case rel => exact ⟨(x8_4), (wrap64 (x9_4 + 1)), (by first | rfl | (simp; done) | (simp [*]; done)), (by first | rfl | (simp; done) | (simp [*]; done)), H', ⟨by have := HK1.out; have := HK2.out; have := HJ8.out; have := HK4.out; omega⟩, ⟨by (with_reducible repeat (first | apply Kd.S_alloc | apply Kd.S_drewN | apply Kd.S_drew)); exact HO_3.out⟩, ⟨by (with_reducible repeat (first | apply Kd.R_alloc | apply Kd.R_drewN | apply Kd.R_drew)); exact HO_4.out⟩, ⟨by (with_reducible repeat (first | refine blk_drewN ?_ _ | refine blk_drew ?_ | refine blk_alloc ?_ _)); exact BK204.out⟩, ⟨by repeat (first | (with_reducible first | exact HB.out | apply below_alloc | apply pw_below_drewN | apply below_drew1 | refine below_set ?_ GE204.out) | exact HB.out)⟩⟩
                ·rw [if_neg c19] at H
                 exact absurd H (by simp)
               ·rw [if_neg c18] at H
                exact absurd H (by simp)
              ·rw [if_neg c17] at H
               exact absurd H (by simp)
            ·rw [if_neg c15] at H
             have c15b0 : decide (x9_4 < (t205.length : Int)) = false := decide_eq_false c15
             clear c15
             by_cases c26 : x8_4 = true
             ·subst c26
              have H1 : (davitref08_Over.l1 k4 t205 x4_1 x5_1 x7_2 (wrap64 (x7_2 + 1))) = some r := by rw [if_pos rfl] at H; exact H
              clear H
              have H := H1
              clear H1
              have H' := Aside0.mk H
              clear H
              go_wp2
              go_roundg k4
              case measure => have := HK1.out; have := HK2.out; have := HJ8.out; have := HK4.out; omega
              case rel => exact ⟨(x7_2), (wrap64 (x7_2 + 1)), (by first | rfl | (simp; done) | (simp [*]; done)), (by first | rfl | (simp; done) | (simp [*]; done)), H', ⟨by have := HK1.out; have := HK2.out; have := HJ8.out; have := HK4.out; omega⟩, ⟨by (with_reducible repeat (first | apply Kd.S_alloc | apply Kd.S_drewN | apply Kd.S_drew)); exact HO_3.out⟩, ⟨by (with_reducible repeat (first | apply Kd.R_alloc | apply Kd.R_drewN | apply Kd.R_drew)); exact HO_4.out⟩, ⟨by (with_reducible repeat (first | refine blk_drewN ?_ _ | refine blk_drew ?_ | refine blk_alloc ?_ _)); exact BK204.out⟩, ⟨by repeat (first | (with_reducible first | exact HB.out | apply below_alloc | apply pw_below_drewN | apply below_drew1 | refine below_set ?_ GE204.out) | exact HB.out)⟩⟩
             ·replace c26 := Bool.eq_false_iff.mpr c26
              subst c26
              have H1 : (davitref08_Over.l1 k4 t205 x4_1 x5_1 x6_2 (wrap64 (x7_2 + 1))) = some r := by rw [if_neg (show ¬ (false = true) by decide)] at H; exact H
              clear H
              have H := H1
              clear H1
              have H' := Aside0.mk H
              clear H
              go_wp2
              go_roundg k4
              case measure => have := HK1.out; have := HK2.out; have := HJ8.out; have := HK4.out; omega
              case rel => exact ⟨(x6_2), (wrap64 (x7_2 + 1)), (by first | rfl | (simp; done) | (simp [*]; done)), (by first | rfl | (simp; done) | (simp [*]; done)), H', ⟨by have := HK1.out; have := HK2.out; have := HJ8.out; have := HK4.out; omega⟩, ⟨by (with_reducible repeat (first | apply Kd.S_alloc | apply Kd.S_drewN | apply Kd.S_drew)); exact HO_3.out⟩, ⟨by (with_reducible repeat (first | apply Kd.R_alloc | apply Kd.R_drewN | apply Kd.R_drew)); exact HO_4.out⟩, ⟨by (with_reducible repeat (first | refine blk_drewN ?_ _ | refine blk_drew ?_ | refine blk_alloc ?_ _)); exact BK204.out⟩, ⟨by repeat (first | (with_reducible first | exact HB.out | apply below_alloc | apply pw_below_drewN | apply below_drew1 | refine below_set ?_ GE204.out) | exact HB.out)⟩⟩
      ·rw [if_neg c8] at H
       have c8b0 : decide (x7_2 < (t205.length : Int)) = false := decide_eq_false c8
       clear c8
       by_cases c27 : x4_1.length < 17592186044416
       ·rw [if_pos c27] at H
        have LMc27 := Aside0.mk c27
        clear c27
        obtain ⟨y208, hy208⟩ : ∃ y_ : List Int, y_ = (x4_1 ++ [x6_2]) := ⟨_, rfl⟩
        replace H : (davitref08_Over.l0 k2 t205 y208 (wrap64 (x5_1 + 1))) = some r := by first | (rw [hy208]; with_reducible exact H) | (have H2_ := (Option.bind_some _ _).symm.trans H; rw [hy208]; with_reducible exact H2_) | (have H2_ := (Option.bind_some _ _).symm.trans H; with_reducible exact H2_) | with_reducible exact H | (rw [hy208]; exact H) | exact H
        have Ny208 := Aside0.mk hy208
        clear hy208
        have H' := Aside0.mk H
        clear H
        go_wp2_with (first | ((with_reducible refine gate_builtin (b := .append) (xs := #[.tmp 67, .tmp 69]) rfl ?_); at_builtin; refine Kd.R_append (Kd.int .i64) (w0 := w) w.heap.size rfl (.tmp 67) (.tmp 69) 27 3 (.int .i64 0) 8 rfl Try.underlying27 info3 rfl (by decide) (by omega) u4 x4_1 x6_2 [.int .i64 x6_2] (fun _ => True) (fun _ => False) rfl rfl ?aP (fun _ hk => hk.elim) ?aF ?aO ?aB ?aS ?aL ?_; (case aP => exact rfl); (case aB => exact (by repeat (first | (with_reducible first | exact HB.out | apply below_alloc | apply pw_below_drewN | apply below_drew1 | refine below_set ?_ GE204.out) | exact HB.out))); (case aF => exact (fun _ _ => trivial)); (case aO => exact (by (with_reducible repeat (first | apply Kd.R_alloc | apply Kd.R_drewN | apply Kd.R_drew)); exact HO_4.out)); (case aS => exact (below_size (by repeat (first | (with_reducible first | exact HB.out | apply below_alloc | apply pw_below_drewN | apply below_drew1 | refine below_set ?_ GE204.out) | exact HB.out)))); (case aL => have := LMc27.out; omega); intro v209 w28 ho hb hg hat; rw [← Ny208.out] at ho; have n0_ := Aside0.mk (Kd.S_over' (by (with_reducible repeat (first | apply Kd.S_alloc | apply Kd.S_drewN | apply Kd.S_drew)); exact HO_3.out) (Kd.R_typed (by (with_reducible repeat (first | apply Kd.R_alloc | apply Kd.R_drewN | apply Kd.R_drew)); exact HO_4.out)) (by decide) hg); have n1_ := Aside0.mk (blk_grown (g := gb204) (o := .cells #[.int .i64 a0_0, .int .i64 a0_1, .slice A0_2 l0_2.length c0_2] 24 (0, 0)) (by (with_reducible repeat (first | refine blk_drewN ?_ _ | refine blk_drew ?_ | refine blk_alloc ?_ _)); exact BK204.out) hg (Kd.R_ne HO_4.out BK204.out (by decide))); have n2_ := Aside0.mk (hb); have n3_ := Aside0.mk (ho); clear HO_3; clear BK204; clear HB; clear HO_4; have HO_3 := n0_; have BK204 := n1_; have HB := n2_; have HO210 := n3_; clear n0_ n1_ n2_ n3_; clear ho hb hg hat))
        go_roundg k2
        case measure => have := HK1.out; have := HK2.out; omega
        case rel => exact ⟨(y208), (wrap64 (x5_1 + 1)), (by first | rfl | (simp; done) | (simp [*]; done)), H', ⟨by have := HK1.out; have := HK2.out; omega⟩, ⟨by (with_reducible repeat (first | apply Kd.S_alloc | apply Kd.S_drewN | apply Kd.S_drew)); exact HO_3.out⟩, ⟨by (with_reducible repeat (first | apply Kd.R_alloc | apply Kd.R_drewN | apply Kd.R_drew)); exact HO210.out⟩, ⟨by (with_reducible repeat (first | refine blk_drewN ?_ _ | refine blk_drew ?_ | refine blk_alloc ?_ _)); exact BK204.out⟩, ⟨by repeat (first | (with_reducible first | exact HB.out | apply below_alloc | apply pw_below_drewN | apply below_drew1 | refine below_set ?_ GE204.out) | exact HB.out)⟩⟩
       ·rw [if_neg c27] at H
        exact absurd H (by simp)
   ·rw [if_neg c6] at H
    have c6b0 : decide (x5_1 < (t205.length : Int)) = false := decide_eq_false c6
    clear c6
    obtain rfl := Option.some.inj H
    obtain ⟨Ao29, co29, eo29⟩ := Kd.S_slice HO_3.out
    subst eo29
    go_wp2
    go_ret
    exact ⟨_, by first | rfl | (simp [errW_none, errW_some] <;> rfl) | (simp [*, errW_none, errW_some] <;> rfl), by (with_reducible repeat (first | apply Kd.R_alloc | apply Kd.R_drewN | apply Kd.R_drew)); exact HO_4.out, by repeat (first | (with_reducible first | exact HB.out | apply below_alloc | apply pw_below_drewN | apply below_drew1 | refine below_set ?_ GE204.out) | exact HB.out)⟩
end
end Go.Proofs.Ytilopoegoddggaa.X
namespace Go.Proofs.Ytilopoegoddggaa.X
open Go.RowKit Go.Proofs.YtilopoegoddggaaW.PrintWords Go.Proofs.YtilopoegoddggaaW.PrintLast Go.Proofs.YtilopoegoddggaaW.PrintMore
attribute [local go_sem] max2_int min2_int max_two min_two max_three min_three max_four min_four
set_option linter.all false
noncomputable section
def davitref08_Is.f (k : Nat) (a0_0 : Int) (a0_1 : Int) (l0_2 : List (S50)) (a1 : Int) (a2 : Int) : Option (Bool) := if a1 < 0 then (some false) else (if a1 ≥ (l0_2.length : Int) then (some false) else (if a2 < 0 then (some false) else (if a2 ≥ (l0_2.length : Int) then (some false) else ((davitref07_Reached.f k a0_0 a0_1 l0_2).bind fun t218 => (if 0 ≤ a2 then (if a2 < (t218.length : Int) then (if rdOf false t218 a2 = true then (if a1 = a2 then (some true) else ((davitref07_Without.f k a0_0 a0_1 l0_2 a1).bind fun t222 => (if a2 < (t222.length : Int) then (some (!(rdOf false t222 a2))) else (none)))) else (some false)) else (none)) else (none))))))
theorem davitref08_Is.mono : ∀ a0 a1 a2 a3 a4 k, LeO (davitref08_Is.f k a0 a1 a2 a3 a4) (davitref08_Is.f (k + 1) a0 a1 a2 a3 a4) := by
 intro a0 a1 a2 a3 a4 k
 unfold davitref08_Is.f
 repeat' first
   | (with_reducible exact davitref07_Reached.mono _ _ _ _)
   | (with_reducible exact davitref07_Without.mono _ _ _ _ _)
   | (with_reducible exact LeO.refl _)
   | (with_reducible exact LeO.none _)
   | (with_reducible refine LeO.ite ?_ ?_)
   | (with_reducible refine LeO.bind ?_ (fun _ => ?_))
   | exact davitref07_Reached.mono _ _ _ _
   | exact davitref07_Without.mono _ _ _ _ _
   | exact LeO.none _
   | refine LeO.ite ?_ ?_
   | refine LeO.bind ?_ (fun _ => ?_)
set_option maxHeartbeats 8000000 in
set_option maxRecDepth 100000 in
theorem davitref08_Is.calls (k : Nat) (a0_0 : Int) (a0_1 : Int) (A0_2 : Option Addr) (c0_2 : Nat) (l0_2 : List (S50)) (a1 : Int) (a2 : Int) (r : Bool) (w : World) (hr0_2 : Kd.C k50 w A0_2 l0_2.length l0_2) (hc0_2 : l0_2.length ≤ c0_2) (h : davitref08_Is.f k a0_0 a0_1 l0_2 a1 a2 = some r) :
  Calls Try.prog 16 #[.agg #[.int .i64 a0_0, .int .i64 a0_1, .slice A0_2 l0_2.length c0_2], .int .i64 a1, .int .i64 a2] w fun e w' => e = .returned (.bool r) ∧ Below w.heap.size w w' := by
 have hu24 := Try.underlying24
 have HR0_2 := Aside0.mk hr0_2
 have HC0_2 := Aside0.mk hc0_2
 clear hr0_2 hc0_2
 have HB := Aside0.mk (Below.refl w.heap.size w)
 have H : (if a1 < 0 then (some false) else (if a1 ≥ (l0_2.length : Int) then (some false) else (if a2 < 0 then (some false) else (if a2 ≥ (l0_2.length : Int) then (some false) else ((davitref07_Reached.f k a0_0 a0_1 l0_2).bind fun t218 => (if 0 ≤ a2 then (if a2 < (t218.length : Int) then (if rdOf false t218 a2 = true then (if a1 = a2 then (some true) else ((davitref07_Without.f k a0_0 a0_1 l0_2 a1).bind fun t222 => (if a2 < (t222.length : Int) then (some (!(rdOf false t222 a2))) else (none)))) else (some false)) else (none)) else (none))))))) = some r := h
 clear h
 by_cases c4 : a1 < 0
 ·rw [if_pos c4] at H
  have c4b0 : decide (a1 < 0) = true := decide_eq_true c4
  clear c4
  obtain rfl := Option.some.inj H
  go_enter Try.func16, Try.ntmps16
  go_wp2_with (first | ((with_reducible refine gate_dst (N := 3) rfl ?_); (try (refine gate_guard (by rfl) ?_; dsimp only)); refine box_event ?hg (N := 3) ?hd (cs := #[.int .i64 a0_0, .int .i64 a0_1, .slice A0_2 l0_2.length c0_2]) (t := 24) ?hr ?_; (case hd => rfl); (case hg => rfl); (case hr => first | (go_simp; done) | (go_simp; rfl)); intro gb217 hg w5 hbox hb; have n0_ := Aside0.mk (below_step (by repeat (first | (with_reducible first | exact HB.out | apply below_alloc | apply pw_below_drewN | apply below_drew1) | exact HB.out)) hb); have n1_ := Aside0.mk (hbox); have n2_ := Aside0.mk ((by rw [hg]; exact (below_size (by repeat (first | (with_reducible first | exact HB.out | apply below_alloc | apply pw_below_drewN | apply below_drew1) | exact HB.out))) : w.heap.size ≤ gb217)); have n3_ := Aside0.mk ((by rw [hg]; exact (below_size (by repeat (first | (with_reducible first | exact HB.out | apply below_alloc | apply pw_below_drewN | apply below_drew1) | exact HB.out))) : w.heap.size ≤ gb217)); clear HB; have HB := n0_; have BK217 := n1_; have GW217 := n2_; have GE217 := n3_; clear n0_ n1_ n2_ n3_; clear hb hbox hg))
  go_ret
  exact ⟨by first | rfl | (simp [errW_none, errW_some] <;> rfl) | (simp [*, errW_none, errW_some] <;> rfl), by repeat (first | (with_reducible first | exact HB.out | apply below_alloc | apply pw_below_drewN | apply below_drew1 | refine below_set ?_ GE217.out) | exact HB.out)⟩
 ·rw [if_neg c4] at H
  have c4b0 : decide (a1 < 0) = false := decide_eq_false c4
  clear c4
  by_cases c6 : a1 ≥ (l0_2.length : Int)
  ·rw [if_pos c6] at H
   have c6b0 : decide ((l0_2.length : Int) ≤ a1) = true := decide_eq_true c6
   clear c6
   obtain rfl := Option.some.inj H
   go_enter Try.func16, Try.ntmps16
   go_wp2_with (first | ((with_reducible refine gate_dst (N := 3) rfl ?_); (try (refine gate_guard (by rfl) ?_; dsimp only)); refine box_event ?hg (N := 3) ?hd (cs := #[.int .i64 a0_0, .int .i64 a0_1, .slice A0_2 l0_2.length c0_2]) (t := 24) ?hr ?_; (case hd => rfl); (case hg => rfl); (case hr => first | (go_simp; done) | (go_simp; rfl)); intro gb217 hg w7 hbox hb; have n0_ := Aside0.mk (below_step (by repeat (first | (with_reducible first | exact HB.out | apply below_alloc | apply pw_below_drewN | apply below_drew1) | exact HB.out)) hb); have n1_ := Aside0.mk (hbox); have n2_ := Aside0.mk ((by rw [hg]; exact (below_size (by repeat (first | (with_reducible first | exact HB.out | apply below_alloc | apply pw_below_drewN | apply below_drew1) | exact HB.out))) : w.heap.size ≤ gb217)); have n3_ := Aside0.mk ((by rw [hg]; exact (below_size (by repeat (first | (with_reducible first | exact HB.out | apply below_alloc | apply pw_below_drewN | apply below_drew1) | exact HB.out))) : w.heap.size ≤ gb217)); clear HB; have HB := n0_; have BK217 := n1_; have GW217 := n2_; have GE217 := n3_; clear n0_ n1_ n2_ n3_; clear hb hbox hg; have hcz8_0 : w7.cell? ⟨gb217, 0, none⟩ = some (.int .i64 a0_0) := (blk_cell BK217.out 0).trans rfl; have hcz8_1 : w7.cell? ⟨gb217, 1, none⟩ = some (.int .i64 a0_1) := (blk_cell BK217.out 1).trans rfl; have hcz8_2 : w7.cell? ⟨gb217, 2, none⟩ = some (.slice A0_2 l0_2.length c0_2) := (blk_cell BK217.out 2).trans rfl; have hfz8_0 := blk_frozen BK217.out 0; have hfz8_1 := blk_frozen BK217.out 1; have hfz8_2 := blk_frozen BK217.out 2))
   go_ret
   exact ⟨by first | rfl | (simp [errW_none, errW_some] <;> rfl) | (simp [*, errW_none, errW_some] <;> rfl), by repeat (first | (with_reducible first | exact HB.out | apply below_alloc | apply pw_below_drewN | apply below_drew1 | refine below_set ?_ GE217.out) | exact HB.out)⟩
  ·rw [if_neg c6] at H
   have c6b0 : decide ((l0_2.length : Int) ≤ a1) = false := decide_eq_false c6
   clear c6
   by_cases c9 : a2 < 0
   ·rw [if_pos c9] at H
    have c9b0 : decide (a2 < 0) = true := decide_eq_true c9
    clear c9
    obtain rfl := Option.some.inj H
    go_enter Try.func16, Try.ntmps16
    go_wp2_with (first | ((with_reducible refine gate_dst (N := 3) rfl ?_); (try (refine gate_guard (by rfl) ?_; dsimp only)); refine box_event ?hg (N := 3) ?hd (cs := #[.int .i64 a0_0, .int .i64 a0_1, .slice A0_2 l0_2.length c0_2]) (t := 24) ?hr ?_; (case hd => rfl); (case hg => rfl); (case hr => first | (go_simp; done) | (go_simp; rfl)); intro gb217 hg w10 hbox hb; have n0_ := Aside0.mk (below_step (by repeat (first | (with_reducible first | exact HB.out | apply below_alloc | apply pw_below_drewN | apply below_drew1) | exact HB.out)) hb); have n1_ := Aside0.mk (hbox); have n2_ := Aside0.mk ((by rw [hg]; exact (below_size (by repeat (first | (with_reducible first | exact HB.out | apply below_alloc | apply pw_below_drewN | apply below_drew1) | exact HB.out))) : w.heap.size ≤ gb217)); have n3_ := Aside0.mk ((by rw [hg]; exact (below_size (by repeat (first | (with_reducible first | exact HB.out | apply below_alloc | apply pw_below_drewN | apply below_drew1) | exact HB.out))) : w.heap.size ≤ gb217)); clear HB; have HB := n0_; have BK217 := n1_; have GW217 := n2_; have GE217 := n3_; clear n0_ n1_ n2_ n3_; clear hb hbox hg; have hcz11_0 : w10.cell? ⟨gb217, 0, none⟩ = some (.int .i64 a0_0) := (blk_cell BK217.out 0).trans rfl; have hcz11_1 : w10.cell? ⟨gb217, 1, none⟩ = some (.int .i64 a0_1) := (blk_cell BK217.out 1).trans rfl; have hcz11_2 : w10.cell? ⟨gb217, 2, none⟩ = some (.slice A0_2 l0_2.length c0_2) := (blk_cell BK217.out 2).trans rfl; have hfz11_0 := blk_frozen BK217.out 0; have hfz11_1 := blk_frozen BK217.out 1; have hfz11_2 := blk_frozen BK217.out 2))
    go_ret
    exact ⟨by first | rfl | (simp [errW_none, errW_some] <;> rfl) | (simp [*, errW_none, errW_some] <;> rfl), by repeat (first | (with_reducible first | exact HB.out | apply below_alloc | apply pw_below_drewN | apply below_drew1 | refine below_set ?_ GE217.out) | exact HB.out)⟩
   ·rw [if_neg c9] at H
    have c9b0 : decide (a2 < 0) = false := decide_eq_false c9
    clear c9
    by_cases c12 : a2 ≥ (l0_2.length : Int)
    ·rw [if_pos c12] at H
     have c12b0 : decide ((l0_2.length : Int) ≤ a2) = true := decide_eq_true c12
     clear c12
     obtain rfl := Option.some.inj H
     go_enter Try.func16, Try.ntmps16
     go_wp2_with (first | ((with_reducible refine gate_dst (N := 3) rfl ?_); (try (refine gate_guard (by rfl) ?_; dsimp only)); refine box_event ?hg (N := 3) ?hd (cs := #[.int .i64 a0_0, .int .i64 a0_1, .slice A0_2 l0_2.length c0_2]) (t := 24) ?hr ?_; (case hd => rfl); (case hg => rfl); (case hr => first | (go_simp; done) | (go_simp; rfl)); intro gb217 hg w13 hbox hb; have n0_ := Aside0.mk (below_step (by repeat (first | (with_reducible first | exact HB.out | apply below_alloc | apply pw_below_drewN | apply below_drew1) | exact HB.out)) hb); have n1_ := Aside0.mk (hbox); have n2_ := Aside0.mk ((by rw [hg]; exact (below_size (by repeat (first | (with_reducible first | exact HB.out | apply below_alloc | apply pw_below_drewN | apply below_drew1) | exact HB.out))) : w.heap.size ≤ gb217)); have n3_ := Aside0.mk ((by rw [hg]; exact (below_size (by repeat (first | (with_reducible first | exact HB.out | apply below_alloc | apply pw_below_drewN | apply below_drew1) | exact HB.out))) : w.heap.size ≤ gb217)); clear HB; have HB := n0_; have BK217 := n1_; have GW217 := n2_; have GE217 := n3_; clear n0_ n1_ n2_ n3_; clear hb hbox hg; have hcz14_0 : w13.cell? ⟨gb217, 0, none⟩ = some (.int .i64 a0_0) := (blk_cell BK217.out 0).trans rfl; have hcz14_1 : w13.cell? ⟨gb217, 1, none⟩ = some (.int .i64 a0_1) := (blk_cell BK217.out 1).trans rfl; have hcz14_2 : w13.cell? ⟨gb217, 2, none⟩ = some (.slice A0_2 l0_2.length c0_2) := (blk_cell BK217.out 2).trans rfl; have hfz14_0 := blk_frozen BK217.out 0; have hfz14_1 := blk_frozen BK217.out 1; have hfz14_2 := blk_frozen BK217.out 2))
     go_ret
     exact ⟨by first | rfl | (simp [errW_none, errW_some] <;> rfl) | (simp [*, errW_none, errW_some] <;> rfl), by repeat (first | (with_reducible first | exact HB.out | apply below_alloc | apply pw_below_drewN | apply below_drew1 | refine below_set ?_ GE217.out) | exact HB.out)⟩
    ·rw [if_neg c12] at H
     have c12b0 : decide ((l0_2.length : Int) ≤ a2) = false := decide_eq_false c12
     clear c12
     replace H := Option.bind_eq_some_iff.mp H
     obtain ⟨t218, A150, H⟩ := H
     replace H : (if 0 ≤ a2 then (if a2 < (t218.length : Int) then (if rdOf false t218 a2 = true then (if a1 = a2 then (some true) else ((davitref07_Without.f k a0_0 a0_1 l0_2 a1).bind fun t222 => (if a2 < (t222.length : Int) then (some (!(rdOf false t222 a2))) else (none)))) else (some false)) else (none)) else (none)) = some r := H
     have A15 := Aside0.mk A150
     clear A150
     by_cases c16 : 0 ≤ a2
     ·rw [if_pos c16] at H
      have c16b0 : decide (0 ≤ a2) = true := decide_eq_true c16
      clear c16
      by_cases c17 : a2 < (t218.length : Int)
      ·rw [if_pos c17] at H
       have c17b0 : decide (a2 < (t218.length : Int)) = true := decide_eq_true c17
       clear c17
       obtain ⟨bq18, hbq18⟩ : ∃ b_ : Bool, b_ = (rdOf false t218 a2) := ⟨_, rfl⟩
       replace H : (if bq18 = true then (if a1 = a2 then (some true) else ((davitref07_Without.f k a0_0 a0_1 l0_2 a1).bind fun t222 => (if a2 < (t222.length : Int) then (some (!(rdOf false t222 a2))) else (none)))) else (some false)) = some r := by rw [← hbq18] at H; exact H
       have Nbq18 := Aside0.mk hbq18
       clear hbq18
       by_cases c19 : bq18 = true
       ·subst c19
        have H1 : (if a1 = a2 then (some true) else ((davitref07_Without.f k a0_0 a0_1 l0_2 a1).bind fun t222 => (if a2 < (t222.length : Int) then (some (!(rdOf false t222 a2))) else (none)))) = some r := by rw [if_pos rfl] at H; exact H
        clear H
        have H := H1
        clear H1
        by_cases c20 : a1 = a2
        ·rw [if_pos c20] at H
         have c20b0 : (a1 == a2) = true := beq_iff_eq.mpr c20
         have c20b1 : (a1 != a2) = false := bne_eq_false_iff_eq.mpr c20
         clear c20
         obtain rfl := Option.some.inj H
         go_enter Try.func16, Try.ntmps16
         go_wp2_with (first | ((with_reducible refine gate_dst (N := 3) rfl ?_); (try (refine gate_guard (by rfl) ?_; dsimp only)); refine box_event ?hg (N := 3) ?hd (cs := #[.int .i64 a0_0, .int .i64 a0_1, .slice A0_2 l0_2.length c0_2]) (t := 24) ?hr ?_; (case hd => rfl); (case hg => rfl); (case hr => first | (go_simp; done) | (go_simp; rfl)); intro gb217 hg w21 hbox hb; have n0_ := Aside0.mk (below_step (by repeat (first | (with_reducible first | exact HB.out | apply below_alloc | apply pw_below_drewN | apply below_drew1) | exact HB.out)) hb); have n1_ := Aside0.mk (hbox); have n2_ := Aside0.mk ((by rw [hg]; exact (below_size (by repeat (first | (with_reducible first | exact HB.out | apply below_alloc | apply pw_below_drewN | apply below_drew1) | exact HB.out))) : w.heap.size ≤ gb217)); have n3_ := Aside0.mk ((by rw [hg]; exact (below_size (by repeat (first | (with_reducible first | exact HB.out | apply below_alloc | apply pw_below_drewN | apply below_drew1) | exact HB.out))) : w.heap.size ≤ gb217)); clear HB; have HB := n0_; have BK217 := n1_; have GW217 := n2_; have GE217 := n3_; clear n0_ n1_ n2_ n3_; clear hb hbox hg; have hcz22_0 : w21.cell? ⟨gb217, 0, none⟩ = some (.int .i64 a0_0) := (blk_cell BK217.out 0).trans rfl; have hcz22_1 : w21.cell? ⟨gb217, 1, none⟩ = some (.int .i64 a0_1) := (blk_cell BK217.out 1).trans rfl; have hcz22_2 : w21.cell? ⟨gb217, 2, none⟩ = some (.slice A0_2 l0_2.length c0_2) := (blk_cell BK217.out 2).trans rfl; have hfz22_0 := blk_frozen BK217.out 0; have hfz22_1 := blk_frozen BK217.out 1; have hfz22_2 := blk_frozen BK217.out 2) | (go_at_call 29; (with_reducible refine (davitref07_Reached.calls k a0_0 a0_1 _ _ l0_2 t218 _ ?side1 ?side2 A15.out).mono ?_); (case side1 => repeat (first | exact (Kd.C_below HR0_2.out HB.out) | (with_reducible refine Kd.C_alloc ?_ _) | (with_reducible refine Kd.C_drewN ?_ _) | (with_reducible refine Kd.C_drew ?_))); (case side2 => exact HC0_2.out); rintro e w23 ⟨v219, rfl, ho0, hb⟩; have n0_ := Aside0.mk (Kd.R_lower ho0 (below_size (by repeat (first | (with_reducible first | exact HB.out | apply below_alloc | apply pw_below_drewN | apply below_drew1 | refine below_set ?_ GE217.out) | exact HB.out)))); have n1_ := Aside0.mk (blk_below (g := gb217) (o := .cells #[.int .i64 a0_0, .int .i64 a0_1, .slice A0_2 l0_2.length c0_2] 24 (0, 0)) (by (with_reducible repeat (first | refine blk_drewN ?_ _ | refine blk_drew ?_ | refine blk_alloc ?_ _)); exact BK217.out) hb); have n2_ := Aside0.mk (below_step (by repeat (first | (with_reducible first | exact HB.out | apply below_alloc | apply pw_below_drewN | apply below_drew1 | refine below_set ?_ GE217.out) | exact HB.out)) hb); clear BK217; clear HB; have HO220 := n0_; have BK217 := n1_; have HB := n2_; clear n0_ n1_ n2_; (try clear hb); (try clear hb2); (try clear hk); (try clear hi); (try clear ho0); obtain ⟨Ao24, co24, eo24⟩ := Kd.R_slice HO220.out; subst eo24; have p221 : 0 ≤ (a2 : Int) := of_decide_eq_true (by first | (with_reducible assumption) | assumption); have q221 : a2 < (t218.length : Int) := of_decide_eq_true (by first | (with_reducible assumption) | assumption); obtain ⟨ad221, e221, hx221_0⟩ := Kd.at_bool (Kd.R_reads' HO220.out).2.2 a2 p221 q221; (try rw [← Nbq18.out] at hx221_0); cases e221; replace p221 := eq_true p221; replace q221 := eq_true q221))
         go_ret
         exact ⟨by first | rfl | (simp [errW_none, errW_some] <;> rfl) | (simp [*, errW_none, errW_some] <;> rfl), by repeat (first | (with_reducible first | exact HB.out | apply below_alloc | apply pw_below_drewN | apply below_drew1 | refine below_set ?_ GE217.out) | exact HB.out)⟩
        ·rw [if_neg c20] at H
         have c20b0 : (a1 == a2) = false := beq_eq_false_iff_ne.mpr c20
         have c20b1 : (a1 != a2) = true := bne_iff_ne.mpr c20
         replace H := Option.bind_eq_some_iff.mp H
         obtain ⟨t222, A250, H⟩ := H
         replace H : (if a2 < (t222.length : Int) then (some (!(rdOf false t222 a2))) else (none)) = some r := H
         have A25 := Aside0.mk A250
         clear A250
         by_cases c26 : a2 < (t222.length : Int)
         ·rw [if_pos c26] at H
          have c26b0 : decide (a2 < (t222.length : Int)) = true := decide_eq_true c26
          clear c26
          obtain rfl := Option.some.inj H
          go_enter Try.func16, Try.ntmps16
          go_wp2_with (first | ((with_reducible refine gate_dst (N := 3) rfl ?_); (try (refine gate_guard (by rfl) ?_; dsimp only)); refine box_event ?hg (N := 3) ?hd (cs := #[.int .i64 a0_0, .int .i64 a0_1, .slice A0_2 l0_2.length c0_2]) (t := 24) ?hr ?_; (case hd => rfl); (case hg => rfl); (case hr => first | (go_simp; done) | (go_simp; rfl)); intro gb217 hg w27 hbox hb; have n0_ := Aside0.mk (below_step (by repeat (first | (with_reducible first | exact HB.out | apply below_alloc | apply pw_below_drewN | apply below_drew1) | exact HB.out)) hb); have n1_ := Aside0.mk (hbox); have n2_ := Aside0.mk ((by rw [hg]; exact (below_size (by repeat (first | (with_reducible first | exact HB.out | apply below_alloc | apply pw_below_drewN | apply below_drew1) | exact HB.out))) : w.heap.size ≤ gb217)); have n3_ := Aside0.mk ((by rw [hg]; exact (below_size (by repeat (first | (with_reducible first | exact HB.out | apply below_alloc | apply pw_below_drewN | apply below_drew1) | exact HB.out))) : w.heap.size ≤ gb217)); clear HB; have HB := n0_; have BK217 := n1_; have GW217 := n2_; have GE217 := n3_; clear n0_ n1_ n2_ n3_; clear hb hbox hg; have hcz28_0 : w27.cell? ⟨gb217, 0, none⟩ = some (.int .i64 a0_0) := (blk_cell BK217.out 0).trans rfl; have hcz28_1 : w27.cell? ⟨gb217, 1, none⟩ = some (.int .i64 a0_1) := (blk_cell BK217.out 1).trans rfl; have hcz28_2 : w27.cell? ⟨gb217, 2, none⟩ = some (.slice A0_2 l0_2.length c0_2) := (blk_cell BK217.out 2).trans rfl; have hfz28_0 := blk_frozen BK217.out 0; have hfz28_1 := blk_frozen BK217.out 1; have hfz28_2 := blk_frozen BK217.out 2) | (go_at_call 29; (with_reducible refine (davitref07_Reached.calls k a0_0 a0_1 _ _ l0_2 t218 _ ?side1 ?side2 A15.out).mono ?_); (case side1 => repeat (first | exact (Kd.C_below HR0_2.out HB.out) | (with_reducible refine Kd.C_alloc ?_ _) | (with_reducible refine Kd.C_drewN ?_ _) | (with_reducible refine Kd.C_drew ?_))); (case side2 => exact HC0_2.out); rintro e w29 ⟨v219, rfl, ho0, hb⟩; have n0_ := Aside0.mk (Kd.R_lower ho0 (below_size (by repeat (first | (with_reducible first | exact HB.out | apply below_alloc | apply pw_below_drewN | apply below_drew1 | refine below_set ?_ GE217.out) | exact HB.out)))); have n1_ := Aside0.mk (blk_below (g := gb217) (o := .cells #[.int .i64 a0_0, .int .i64 a0_1, .slice A0_2 l0_2.length c0_2] 24 (0, 0)) (by (with_reducible repeat (first | refine blk_drewN ?_ _ | refine blk_drew ?_ | refine blk_alloc ?_ _)); exact BK217.out) hb); have n2_ := Aside0.mk (below_step (by repeat (first | (with_reducible first | exact HB.out | apply below_alloc | apply pw_below_drewN | apply below_drew1 | refine below_set ?_ GE217.out) | exact HB.out)) hb); clear BK217; clear HB; have HO220 := n0_; have BK217 := n1_; have HB := n2_; clear n0_ n1_ n2_; (try clear hb); (try clear hb2); (try clear hk); (try clear hi); (try clear ho0); obtain ⟨Ao30, co30, eo30⟩ := Kd.R_slice HO220.out; subst eo30; have p221 : 0 ≤ (a2 : Int) := of_decide_eq_true (by first | (with_reducible assumption) | assumption); have q221 : a2 < (t218.length : Int) := of_decide_eq_true (by first | (with_reducible assumption) | assumption); obtain ⟨ad221, e221, hx221_0⟩ := Kd.at_bool (Kd.R_reads' HO220.out).2.2 a2 p221 q221; (try rw [← Nbq18.out] at hx221_0); cases e221; replace p221 := eq_true p221; replace q221 := eq_true q221; have hcz31_0 : w29.cell? ⟨gb217, 0, none⟩ = some (.int .i64 a0_0) := (blk_cell BK217.out 0).trans rfl; have hcz31_1 : w29.cell? ⟨gb217, 1, none⟩ = some (.int .i64 a0_1) := (blk_cell BK217.out 1).trans rfl; have hcz31_2 : w29.cell? ⟨gb217, 2, none⟩ = some (.slice A0_2 l0_2.length c0_2) := (blk_cell BK217.out 2).trans rfl; have hfz31_0 := blk_frozen BK217.out 0; have hfz31_1 := blk_frozen BK217.out 1; have hfz31_2 := blk_frozen BK217.out 2) | (go_at_call 30; (with_reducible refine (davitref07_Without.calls k a0_0 a0_1 _ _ l0_2 a1 t222 _ ?side1 ?side2 A25.out).mono ?_); (case side1 => repeat (first | exact (Kd.C_below HR0_2.out HB.out) | (with_reducible refine Kd.C_alloc ?_ _) | (with_reducible refine Kd.C_drewN ?_ _) | (with_reducible refine Kd.C_drew ?_))); (case side2 => exact HC0_2.out); rintro e w32 ⟨v223, rfl, ho0, hb⟩; have n0_ := Aside0.mk (Kd.R_elder' (by (with_reducible repeat (first | apply Kd.R_alloc | apply Kd.R_drewN | apply Kd.R_drew)); exact HO220.out) (Kd.R_base ho0) hb); have n1_ := Aside0.mk (Kd.R_lower (Kd.R_new' ho0 (Kd.R_lt (by (with_reducible repeat (first | apply Kd.R_alloc | apply Kd.R_drewN | apply Kd.R_drew)); exact HO220.out))) (below_size (by repeat (first | (with_reducible first | exact HB.out | apply below_alloc | apply pw_below_drewN | apply below_drew1 | refine below_set ?_ GE217.out) | exact HB.out)))); have n2_ := Aside0.mk (blk_below (g := gb217) (o := .cells #[.int .i64 a0_0, .int .i64 a0_1, .slice A0_2 l0_2.length c0_2] 24 (0, 0)) (by (with_reducible repeat (first | refine blk_drewN ?_ _ | refine blk_drew ?_ | refine blk_alloc ?_ _)); exact BK217.out) hb); have n3_ := Aside0.mk (below_step (by repeat (first | (with_reducible first | exact HB.out | apply below_alloc | apply pw_below_drewN | apply below_drew1 | refine below_set ?_ GE217.out) | exact HB.out)) hb); clear HO220; clear BK217; clear HB; have HO220 := n0_; have HO224 := n1_; have BK217 := n2_; have HB := n3_; clear n0_ n1_ n2_ n3_; (try clear hb); (try clear hb2); (try clear hk); (try clear hi); (try clear ho0); obtain ⟨Ao33, co33, eo33⟩ := Kd.R_slice HO224.out; subst eo33; have p225 : 0 ≤ (a2 : Int) := of_decide_eq_true (by first | (with_reducible assumption) | assumption); have q225 : a2 < (t222.length : Int) := of_decide_eq_true (by first | (with_reducible assumption) | assumption); obtain ⟨ad225, e225, hx225_0⟩ := Kd.at_bool (Kd.R_reads' HO224.out).2.2 a2 p225 q225; (try rw [← Nbq18.out] at hx225_0); cases e225; replace p225 := eq_true p225; replace q225 := eq_true q225))
          go_ret
          exact ⟨by first | rfl | (simp [errW_none, errW_some] <;> rfl) | (simp [*, errW_none, errW_some] <;> rfl), by repeat (first | (with_reducible first | exact HB.out | apply below_alloc | apply pw_below_drewN | apply below_drew1 | refine below_set ?_ GE217.out) | exact HB.out)⟩
         ·rw [if_neg c26] at H
          exact absurd H (by simp)
       ·replace c19 := Bool.eq_false_iff.mpr c19
        subst c19
        have H1 : (some false) = some r := by rw [if_neg (show ¬ (false = true) by decide)] at H; exact H
        clear H
        have H := H1
        clear H1
        obtain rfl := Option.some.inj H
        go_enter Try.func16, Try.ntmps16
        go_wp2_with (first | ((with_reducible refine gate_dst (N := 3) rfl ?_); (try (refine gate_guard (by rfl) ?_; dsimp only)); refine box_event ?hg (N := 3) ?hd (cs := #[.int .i64 a0_0, .int .i64 a0_1, .slice A0_2 l0_2.length c0_2]) (t := 24) ?hr ?_; (case hd => rfl); (case hg => rfl); (case hr => first | (go_simp; done) | (go_simp; rfl)); intro gb217 hg w34 hbox hb; have n0_ := Aside0.mk (below_step (by repeat (first | (with_reducible first | exact HB.out | apply below_alloc | apply pw_below_drewN | apply below_drew1) | exact HB.out)) hb); have n1_ := Aside0.mk (hbox); have n2_ := Aside0.mk ((by rw [hg]; exact (below_size (by repeat (first | (with_reducible first | exact HB.out | apply below_alloc | apply pw_below_drewN | apply below_drew1) | exact HB.out))) : w.heap.size ≤ gb217)); have n3_ := Aside0.mk ((by rw [hg]; exact (below_size (by repeat (first | (with_reducible first | exact HB.out | apply below_alloc | apply pw_below_drewN | apply below_drew1) | exact HB.out))) : w.heap.size ≤ gb217)); clear HB; have HB := n0_; have BK217 := n1_; have GW217 := n2_; have GE217 := n3_; clear n0_ n1_ n2_ n3_; clear hb hbox hg; have hcz35_0 : w34.cell? ⟨gb217, 0, none⟩ = some (.int .i64 a0_0) := (blk_cell BK217.out 0).trans rfl; have hcz35_1 : w34.cell? ⟨gb217, 1, none⟩ = some (.int .i64 a0_1) := (blk_cell BK217.out 1).trans rfl; have hcz35_2 : w34.cell? ⟨gb217, 2, none⟩ = some (.slice A0_2 l0_2.length c0_2) := (blk_cell BK217.out 2).trans rfl; have hfz35_0 := blk_frozen BK217.out 0; have hfz35_1 := blk_frozen BK217.out 1; have hfz35_2 := blk_frozen BK217.out 2) | (go_at_call 29; (with_reducible refine (davitref07_Reached.calls k a0_0 a0_1 _ _ l0_2 t218 _ ?side1 ?side2 A15.out).mono ?_); (case side1 => repeat (first | exact (Kd.C_below HR0_2.out HB.out) | (with_reducible refine Kd.C_alloc ?_ _) | (with_reducible refine Kd.C_drewN ?_ _) | (with_reducible refine Kd.C_drew ?_))); (case side2 => exact HC0_2.out); rintro e w36 ⟨v219, rfl, ho0, hb⟩; have n0_ := Aside0.mk (Kd.R_lower ho0 (below_size (by repeat (first | (with_reducible first | exact HB.out | apply below_alloc | apply pw_below_drewN | apply below_drew1 | refine below_set ?_ GE217.out) | exact HB.out)))); have n1_ := Aside0.mk (blk_below (g := gb217) (o := .cells #[.int .i64 a0_0, .int .i64 a0_1, .slice A0_2 l0_2.length c0_2] 24 (0, 0)) (by (with_reducible repeat (first | refine blk_drewN ?_ _ | refine blk_drew ?_ | refine blk_alloc ?_ _)); exact BK217.out) hb); have n2_ := Aside0.mk (below_step (by repeat (first | (with_reducible first | exact HB.out | apply below_alloc | apply pw_below_drewN | apply below_drew1 | refine below_set ?_ GE217.out) | exact HB.out)) hb); clear BK217; clear HB; have HO220 := n0_; have BK217 := n1_; have HB := n2_; clear n0_ n1_ n2_; (try clear hb); (try clear hb2); (try clear hk); (try clear hi); (try clear ho0); obtain ⟨Ao37, co37, eo37⟩ := Kd.R_slice HO220.out; subst eo37; have p221 : 0 ≤ (a2 : Int) := of_decide_eq_true (by first | (with_reducible assumption) | assumption); have q221 : a2 < (t218.length : Int) := of_decide_eq_true (by first | (with_reducible assumption) | assumption); obtain ⟨ad221, e221, hx221_0⟩ := Kd.at_bool (Kd.R_reads' HO220.out).2.2 a2 p221 q221; (try rw [← Nbq18.out] at hx221_0); cases e221; replace p221 := eq_true p221; replace q221 := eq_true q221))
        go_ret
        exact ⟨by first | rfl | (simp [errW_none, errW_some] <;> rfl) | (simp [*, errW_none, errW_some] <;> rfl), by repeat (first | (with_reducible first | exact HB.out | apply below_alloc | apply pw_below_drewN | apply below_drew1 | refine below_set ?_ GE217.out) | exact HB.out)⟩
      ·rw [if_neg c17] at H
       exact absurd H (by simp)
     ·rw [if_neg c16] at H
      exact absurd H (by simp)
end
end Go.Proofs.Ytilopoegoddggaa.X
namespace Go.Proofs.Ytilopoegoddggaa.X
open Go.RowKit Go.Proofs.YtilopoegoddggaaW.PrintWords Go.Proofs.YtilopoegoddggaaW.PrintLast Go.Proofs.YtilopoegoddggaaW.PrintMore
open Go.Proofs.Ytilopoegoddggaa.G
set_option linter.all false
theorem refnext_l0 (a0 a1 : Int) (bs : List S50) (l : List Int) (hl : l.length ≤ 3) : ∀ (d : Nat) (i : Int) (out : List Int), 0 ≤ i → i + d = l.length → out.length ≤ i.toNat →
  Evt (fun k => davitref07_Next.l0 k l out i a0 a1 bs) (out ++ (l.drop i.toNat).filter fun k => isB bs.length k)
 | 0, i, out, h0, h1, h2 => by
  refine Evt.succ ?_
  simp only [davitref07_Next.l0, if_neg (show ¬ i < (l.length : Int) by omega)]
  rw [List.drop_eq_nil_of_le (by omega), List.filter_nil, List.append_nil]
  exact Evt.pure _
 | d + 1, i, out, h0, h1, h2 => by
  have hlt : i < (l.length : Int) := by omega
  rw [rd_get h0 hlt]
  refine Evt.succ ?_
  simp only [davitref07_Next.l0, if_pos hlt, if_pos h0, wrap64_small (i + 1) (by omega) (by omega), if_pos (show out.length < 17592186044416 by omega)]
  by_cases e1 : rd l i ≥ 0
  ·by_cases e2 : rd l i < (bs.length : Int)
   ·simp only [if_pos e1, if_pos e2]
    have := refnext_l0 a0 a1 bs l hl d (i + 1) (out ++ [rd l i]) (by omega) (by omega) (by simp; omega)
    rw [List.filter_cons, if_pos ((isB_iff _ _).2 ⟨e1, e2⟩)]
    rw [List.append_assoc] at this
    exact this
   ·simp only [if_pos e1, if_neg e2]
    have := refnext_l0 a0 a1 bs l hl d (i + 1) out (by omega) (by omega) (by omega)
    rw [List.filter_cons, if_neg (fun h => e2 ((isB_iff _ _).1 h).2)]
    exact this
  ·simp only [if_neg e1]
   have := refnext_l0 a0 a1 bs l hl d (i + 1) out (by omega) (by omega) (by omega)
   rw [List.filter_cons, if_neg (fun h => e1 ((isB_iff _ _).1 h).1)]
   exact this
theorem refnext_ev (a0 a1 : Int) (bs : List S50) (n : Int) : Evt (fun k => davitref07_Next.f k a0 a1 bs n) (nextL bs n) := by
 have hoff : isB bs.length n = false → Evt (fun k => davitref07_Next.j0 k n true a0 a1 bs) (nextL bs n) := fun h => by
  refine Evt.succ ?_
  simp only [davitref07_Next.j0, if_pos, nextL, h, if_neg Bool.false_ne_true]
  exact Evt.pure _
 unfold davitref07_Next.f
 by_cases h1 : n < 0
 ·simp only [if_pos h1]
  exact hoff (by simp [isB]; omega)
 ·by_cases h2 : n ≥ (bs.length : Int)
  ·simp only [if_neg h1, decide_eq_true h2]
   exact hoff (by simp [isB]; omega)
  ·have hb : isB bs.length n = true := (isB_iff _ _).2 ⟨by omega, by omega⟩
   simp only [if_neg h1, decide_eq_false h2, nextL, hb, if_pos]
   have key : ∀ l : List Int, l = allL (rd_T50 bs n) → Evt (fun k => davitref07_Next.l0 k l [] 0 a0 a1 bs) ((allL (rd_T50 bs n)).filter fun k => isB bs.length k) := fun l e => by
    subst e
    have := refnext_l0 a0 a1 bs _ (allL_len (rd_T50 bs n)) _ 0 [] (by omega) (Int.zero_add _) (by simp)
    simpa using this
   refine Evt.succ ?_
   simp only [davitref07_Next.j0, if_neg Bool.false_ne_true, if_pos (show 0 ≤ n by omega), if_pos (show n < (bs.length : Int) by omega)]
   by_cases k2 : (rd_T50 bs n).f3.f0 = 2
   ·simp only [if_pos k2]
    refine Evt.succ ?_
    simp only [davitref07_Next.j1, if_pos, List.length_nil, if_pos (show 0 < 17592186044416 by omega)]
    refine Evt.succ ?_
    simp only [davitref07_Next.j2, k2, if_neg (show ¬ (2 : Int) = 3 by omega)]
    refine Evt.succ ?_
    simp only [davitref07_Next.j3, if_neg (show ¬ (2 : Int) = 4 by omega)]
    refine Evt.succ ?_
    simp only [davitref07_Next.j4]
    exact key _ (by simp [allL, goalsL, k2])
   ·by_cases k3 : (rd_T50 bs n).f3.f0 = 3
    ·simp only [if_neg k2, if_pos k3]
     refine Evt.succ ?_
     simp only [davitref07_Next.j1, if_pos, List.length_nil, if_pos (show 0 < 17592186044416 by omega)]
     refine Evt.succ ?_
     simp only [davitref07_Next.j2, k3, if_pos]
     simp only [List.nil_append, List.length_cons, List.length_nil, if_pos (show 0 + 1 < 17592186044416 by omega)]
     refine Evt.succ ?_
     simp only [davitref07_Next.j3, if_neg (show ¬ (3 : Int) = 4 by omega)]
     refine Evt.succ ?_
     simp only [davitref07_Next.j4]
     exact key _ (by simp [allL, goalsL, k3])
    ·simp only [if_neg k2, if_neg k3]
     by_cases k4 : (rd_T50 bs n).f3.f0 = 4
     ·simp only [k4]
      refine Evt.succ ?_
      simp only [davitref07_Next.j1, beq_self_eq_true, if_pos, List.length_nil, if_pos (show 0 < 17592186044416 by omega)]
      refine Evt.succ ?_
      simp only [davitref07_Next.j2, if_neg (show ¬ (4 : Int) = 3 by omega)]
      refine Evt.succ ?_
      simp only [davitref07_Next.j3, if_pos, List.nil_append, List.length_cons, List.length_nil, if_pos (show 0 + 1 < 17592186044416 by omega)]
      refine Evt.succ ?_
      simp only [davitref07_Next.j4]
      exact key _ (by simp [allL, goalsL, k4])
     ·refine Evt.succ ?_
      simp only [davitref07_Next.j1, show ((rd_T50 bs n).f3.f0 == 4) = false by simp [k4], if_neg Bool.false_ne_true]
      refine Evt.succ ?_
      simp only [davitref07_Next.j2, if_neg k3]
      refine Evt.succ ?_
      simp only [davitref07_Next.j3, if_neg k4]
      refine Evt.succ ?_
      simp only [davitref07_Next.j4]
      exact key _ (by simp [allL, goalsL, k2, k3, k4])
open Classical in
noncomputable def lst (P : Int → Prop) (N : Nat) : List Bool := (upTo N).map fun i => decide (P i)
theorem lst_len (P : Int → Prop) (N : Nat) : (lst P N).length = N := by simp [lst, upTo_len]
theorem upTo_get {N : Nat} {i : Nat} (h : i < N) : (upTo N)[i]? = some (i : Int) := by
 simp [upTo, List.getElem?_map, List.getElem?_range h]
open Classical in
theorem lst_rd (P : Int → Prop) {N : Nat} {i : Int} (h0 : 0 ≤ i) (h1 : i < N) : rdOf false (lst P N) i = decide (P i) := by
 unfold rdOf lst
 rw [List.getD_eq_getElem?_getD, List.getElem?_map, upTo_get (show i.toNat < N by omega)]
 simp only [Option.map_some, Option.getD_some]
 rw [show ((i.toNat : Nat) : Int) = i by omega]
open Classical in
theorem lst_eq {P : Int → Prop} {N : Nat} {s : List Bool} (hl : s.length = N) (h : ∀ i : Int, 0 ≤ i → i < N → (rdOf false s i = true ↔ P i)) : s = lst P N := by
 refine List.ext_getElem (by rw [hl, lst_len]) fun j h1 h2 => ?_
 have e1 : rdOf false s (j : Int) = s[j] := by unfold rdOf; simp [List.getD_eq_getElem?_getD, List.getElem?_eq_getElem h1]
 have e2 : rdOf false (lst P N) (j : Int) = (lst P N)[j] := by unfold rdOf; simp [List.getD_eq_getElem?_getD, List.getElem?_eq_getElem h2]
 have := h j (by omega) (by omega)
 rw [← e1, ← e2, lst_rd P (by omega) (by omega)]
 by_cases hp : P j
 ·rw [this.2 hp, decide_eq_true hp]
 ·rw [decide_eq_false hp]
  cases hb : rdOf false s (j : Int) with
  | false => rfl
  | true => exact absurd (this.1 hb) hp
section
variable {bs : List S50} {no : Int} (a0 a1 : Int)
structure Snd (bs : List S50) (P : Int → Prop) (s : List Bool) : Prop where
 len : s.length = bs.length
 snd : ∀ i : Int, 0 ≤ i → i < bs.length → rdOf false s i = true → P i
theorem Snd.set {P : Int → Prop} {s : List Bool} (h : Snd bs P s) {b : Int} (h0 : 0 ≤ b) (h1 : b < bs.length) (hp : P b) : Snd bs P (s.set b.toNat true) := by
 refine ⟨by rw [List.length_set]; exact h.len, fun i a c hi => ?_⟩
 rw [rdOf_set s b i true h0 (by have := h.len; omega) a] at hi
 by_cases e : i = b
 ·exact e ▸ hp
 ·rw [if_neg e] at hi; exact h.snd i a c hi
abbrev RW (bs : List S50) (no : Int) : Int → Prop := Rch bs.length (nextL bs) no
theorem without_l2 (hl : bs.length ≤ 1000) (R : List Bool) (c0 : Nat) (i : Int) (hi : 0 ≤ i) (hi1 : i < bs.length)
  (K : ∀ s more, Snd bs (RW bs no) s → rdOf false s 0 = true → (more = false → ∀ j : Int, 0 ≤ j → j < i + 1 → rdOf false s j = true → ∀ b ∈ nextL bs j, b ≠ no → rdOf false s b = true) → s.count false ≤ c0 → (more = true → s.count false < c0) → Evt (fun k => davitref07_Without.l1 k no s more (i + 1) a0 a1 bs) R) :
  ∀ (d : Nat) (p : Int) (s : List Bool) (more : Bool), 0 ≤ p → p + d = (nextL bs i).length → Snd bs (RW bs no) s → rdOf false s 0 = true →
   (more = false → ∀ j : Int, 0 ≤ j → j < i → rdOf false s j = true → ∀ b ∈ nextL bs j, b ≠ no → rdOf false s b = true) → (more = false → rdOf false s i = true → ∀ b ∈ (nextL bs i).take p.toNat, b ≠ no → rdOf false s b = true) → s.count false ≤ c0 → (more = true → s.count false < c0) →
   Evt (fun k => davitref07_Without.l2 k no s more i (nextL bs i) p a0 a1 bs) R
 | 0, p, s, more, h0, h1, hs, hz, hc, ht, hn, hm => by
  refine Evt.succ ?_
  simp only [davitref07_Without.l2, if_neg (show ¬ p < ((nextL bs i).length : Int) by omega), wrap64_small (i + 1) (by omega) (by omega)]
  refine K s more hs hz (fun e j j0 j1 hj b hb hbn => ?_) hn hm
  by_cases e' : j = i
  ·subst e'
   exact ht e hj b (by rw [List.take_of_length_le (by omega)]; exact hb) hbn
  ·exact hc e j j0 (by omega) hj b hb hbn
 | d + 1, p, s, more, h0, h1, hs, hz, hc, ht, hn, hm => by
  have hlt : p < ((nextL bs i).length : Int) := by omega
  have h3 := next_len bs i
  have hw := wrap64_small (p + 1) (by omega) (by omega)
  have hlen := hs.len
  have hmem := rd_mem h0 hlt
  have hv := (next_edges bs _ _ hmem).2
  have htk : (nextL bs i).take (p + 1).toNat = (nextL bs i).take p.toNat ++ [rd (nextL bs i) p] := by
   rw [show (p + 1).toNat = p.toNat + 1 by omega]
   exact take_one _ _ 0 (by omega)
  refine Evt.succ ?_
  cases hsi : rdOf false s i with
  | false =>
   simp only [davitref07_Without.l2, if_pos hlt, if_pos hi, if_pos (show i < (s.length : Int) by omega), hsi, if_neg Bool.false_ne_true, hw]
   exact without_l2 hl R c0 i hi hi1 K d (p + 1) s more (by omega) (by omega) hs hz hc (fun e h => by rw [hsi] at h; cases h) hn hm
  | true =>
   simp only [davitref07_Without.l2, if_pos hlt, if_pos hi, if_pos (show i < (s.length : Int) by omega), hsi, if_pos, if_pos h0, hw]
   by_cases e1 : rd (nextL bs i) p = no
   ·simp only [if_pos e1]
    exact without_l2 hl R c0 i hi hi1 K d (p + 1) s more (by omega) (by omega) hs hz hc (fun e h b hb hbn => by
     rw [htk] at hb
     rcases List.mem_append.1 hb with hb | hb
     ·exact ht e h b hb hbn
     ·exact absurd ((List.mem_singleton.1 hb).trans e1) hbn) hn hm
   ·simp only [if_neg e1, if_pos hv.1, if_pos (show rd (nextL bs i) p < (s.length : Int) by omega)]
    cases hsb : rdOf false s (rd (nextL bs i) p) with
    | true =>
     simp only [if_pos]
     exact without_l2 hl R c0 i hi hi1 K d (p + 1) s more (by omega) (by omega) hs hz hc (fun e h b hb hbn => by
      rw [htk] at hb
      rcases List.mem_append.1 hb with hb | hb
      ·exact ht e h b hb hbn
      ·rw [List.mem_singleton.1 hb]; exact hsb) hn hm
    | false =>
     simp only [if_neg Bool.false_ne_true]
     have hcn := count_unseen s _ hv.1 (by omega) hsb
     refine without_l2 hl R c0 i hi hi1 K d (p + 1) _ true (by omega) (by omega) (hs.set hv.1 hv.2 (.step (hs.snd i hi hi1 hsi) hmem e1)) ?_ (by simp) (by simp) (by omega) (fun _ => by omega)
     rw [rdOf_set s _ 0 true hv.1 (by omega) (by omega)]
     split
     ·rfl
     ·exact hz
theorem without_l1 (hl : bs.length ≤ 1000) (R : List Bool) (c0 : Nat)
  (K : ∀ s more, Snd bs (RW bs no) s → rdOf false s 0 = true → (more = false → ∀ j : Int, 0 ≤ j → j < bs.length → rdOf false s j = true → ∀ b ∈ nextL bs j, b ≠ no → rdOf false s b = true) → (more = true → s.count false < c0) → Evt (fun k => davitref07_Without.l0 k no s more a0 a1 bs) R) :
  ∀ (d : Nat) (i : Int) (s : List Bool) (more : Bool), 0 ≤ i → i + d = bs.length → Snd bs (RW bs no) s → rdOf false s 0 = true →
   (more = false → ∀ j : Int, 0 ≤ j → j < i → rdOf false s j = true → ∀ b ∈ nextL bs j, b ≠ no → rdOf false s b = true) → s.count false ≤ c0 → (more = true → s.count false < c0) →
   Evt (fun k => davitref07_Without.l1 k no s more i a0 a1 bs) R
 | 0, i, s, more, h0, h1, hs, hz, hc, hn, hm => by
  have hlen := hs.len
  refine Evt.succ ?_
  simp only [davitref07_Without.l1, if_neg (show ¬ i < (s.length : Int) by omega)]
  exact K s more hs hz (fun e j j0 j1 => hc e j j0 (by omega)) hm
 | d + 1, i, s, more, h0, h1, hs, hz, hc, hn, hm => by
  have hlen := hs.len
  refine Evt.succ ?_
  simp only [davitref07_Without.l1, if_pos (show i < (s.length : Int) by omega)]
  refine Evt.bind (refnext_ev a0 a1 bs i) ?_
  exact without_l2 a0 a1 hl R c0 i h0 (by omega) (fun s' more' q1 q2 q3 q4 q5 => without_l1 hl R c0 K d (i + 1) s' more' (by omega) (by omega) q1 q2 q3 q4 q5) _ 0 s more (by omega) (by rw [Int.zero_add]) hs hz hc (by simp) hn hm
theorem without_l0 (hl : bs.length ≤ 1000) : ∀ (c : Nat) (s : List Bool), Snd bs (RW bs no) s → rdOf false s 0 = true → s.count false ≤ c → Evt (fun k => davitref07_Without.l0 k no s true a0 a1 bs) (lst (RW bs no) bs.length) := by
 intro c
 induction c using Nat.strongRecOn with
 | ind c ih =>
  intro s hs hz hc
  refine Evt.succ ?_
  simp only [davitref07_Without.l0, if_pos]
  refine without_l1 a0 a1 hl _ c (fun s' more' q1 q2 q3 q4 => ?_) bs.length 0 s false (by omega) (by omega) hs hz (fun _ j j0 j1 => by omega) hc (by simp)
  cases more' with
  | true => exact ih _ (q4 rfl) s' q1 q2 (Nat.le_refl _)
  | false =>
   refine Evt.succ ?_
   simp only [davitref07_Without.l0, if_neg Bool.false_ne_true]
   rw [show s' = lst (RW bs no) bs.length from lst_eq q1.len fun i i0 i1 => ⟨q1.snd i i0 i1, fun h => ?_⟩]
   ·exact Evt.pure _
   ·induction h with
    | zero _ _ => exact q2
    | step ha hb hne ihh =>
     have hv := next_edges bs _ _ hb
     exact q3 rfl _ hv.1.1 hv.1.2 (ihh hv.1.1 hv.1.2) _ hb hne
theorem without_ev (hl : bs.length ≤ 1000) (no : Int) : Evt (fun k => davitref07_Without.f k a0 a1 bs no) (lst (RW bs no) bs.length) := by
 unfold davitref07_Without.f
 simp only [if_pos (show 0 ≤ (bs.length : Int) by omega), Int.toNat_natCast, if_pos (show bs.length ≤ 281474976710656 by omega), Option.bind_some, List.length_replicate]
 have hrep : ∀ i : Int, rdOf false (List.replicate bs.length false) i = false := by
  intro m
  unfold rdOf
  rw [List.getD_eq_getElem?_getD]
  by_cases h : m.toNat < bs.length
  ·rw [List.getElem?_replicate, if_pos h]; rfl
  ·rw [List.getElem?_replicate, if_neg h]; rfl
 have hoff : (∀ i, ¬ RW bs no i) → Evt (fun k => davitref07_Without.j0 k no (List.replicate bs.length false) true a0 a1 bs) (lst (RW bs no) bs.length) := fun h => by
  refine Evt.succ ?_
  simp only [davitref07_Without.j0, if_pos]
  rw [show List.replicate bs.length false = lst (RW bs no) bs.length from lst_eq (by simp) fun i i0 i1 => by rw [hrep i]; simp [h i]]
  exact Evt.pure _
 by_cases h0 : bs.length = 0
 ·simp only [if_pos (show (bs.length : Int) = 0 by omega)]
  exact hoff fun i h => by have := h.inV (next_edges bs); omega
 ·simp only [if_neg (show ¬ (bs.length : Int) = 0 by omega)]
  by_cases e : no = 0
  ·simp only [show (no == 0) = true by simp [e]]
   exact hoff fun i h => by subst e; exact no_rch0 h
  ·simp only [show (no == 0) = false by simp [e]]
   refine Evt.succ ?_
   simp only [davitref07_Without.j0, if_neg Bool.false_ne_true, List.length_replicate, if_pos (show 0 < (bs.length : Int) by omega)]
   refine without_l0 a0 a1 hl _ _ (Snd.set ⟨by simp, fun i _ _ h => by rw [hrep i] at h; cases h⟩ (by omega) (by omega) (.zero (by omega) (fun h => e h.symm))) ?_ (Nat.le_refl _)
   have := rdOf_set (List.replicate bs.length false) 0 0 true (by omega) (by simp; omega) (by omega)
   rw [this, if_pos rfl]
theorem refreached_ev (hl : bs.length ≤ 1000) : Evt (fun k => davitref07_Reached.f k a0 a1 bs) (lst (RR bs) bs.length) := by
 unfold davitref07_Reached.f
 exact Evt.bind (without_ev a0 a1 hl (-1)) (Evt.pure _)
open Classical in
theorem refis_ev (hl : bs.length ≤ 1000) (a b : Int) : Evt (fun k => davitref08_Is.f k a0 a1 bs a b) (decide (DD bs a b)) := by
 have hoff : ¬ DD bs a b → Evt (fun _ => some false) (decide (DD bs a b)) := fun h => by
  rw [decide_eq_false h]
  exact Evt.pure _
 unfold davitref08_Is.f
 by_cases h1 : a < 0
 ·simp only [if_pos h1]
  exact hoff fun h => by have := h.2.1; omega
 simp only [if_neg h1]
 by_cases h2 : a ≥ (bs.length : Int)
 ·simp only [if_pos h2]
  exact hoff fun h => by have := h.2.1; omega
 simp only [if_neg h2]
 by_cases h3 : b < 0
 ·simp only [if_pos h3]
  exact hoff fun h => by have := h.1.inV (next_edges bs); omega
 simp only [if_neg h3]
 by_cases h4 : b ≥ (bs.length : Int)
 ·simp only [if_pos h4]
  exact hoff fun h => by have := h.1.inV (next_edges bs); omega
 simp only [if_neg h4]
 refine Evt.bind (refreached_ev a0 a1 hl) ?_
 simp only [if_pos (show 0 ≤ b by omega), lst_len, if_pos (show b < (bs.length : Int) by omega), lst_rd (RR bs) (show 0 ≤ b by omega) (show b < (bs.length : Int) by omega)]
 by_cases hb : RR bs b
 ·simp only [decide_eq_true hb, if_pos]
  by_cases e : a = b
  ·simp only [if_pos e]
   rw [decide_eq_true (show DD bs a b by rw [e]; exact Dom.refl (next_edges bs) hb)]
   exact Evt.pure _
  ·simp only [if_neg e]
   refine Evt.bind (without_ev a0 a1 hl a) ?_
   simp only [lst_len, if_pos (show b < (bs.length : Int) by omega), lst_rd (RW bs a) (show 0 ≤ b by omega) (show b < (bs.length : Int) by omega)]
   rw [show decide (DD bs a b) = !decide (RW bs a b) by
    by_cases hw : RW bs a b
    ·rw [decide_eq_true hw, decide_eq_false (fun h : DD bs a b => h.2.2.elim e (fun h => h hw))]; rfl
    ·rw [decide_eq_false hw, decide_eq_true (show DD bs a b from ⟨hb, ⟨by omega, by omega⟩, .inr hw⟩)]; rfl]
   exact Evt.pure _
 ·simp only [decide_eq_false hb, if_neg Bool.false_ne_true]
  exact hoff fun h => hb h.1
end
end Go.Proofs.Ytilopoegoddggaa.X
namespace Go.Proofs.Ytilopoegoddggaa.X
open Go.RowKit Go.Proofs.YtilopoegoddggaaW.PrintWords Go.Proofs.YtilopoegoddggaaW.PrintLast Go.Proofs.YtilopoegoddggaaW.PrintMore
attribute [local go_sem] max2_int min2_int max_two min_two max_three min_three max_four min_four
set_option linter.all false
noncomputable section
mutual
def davitref08_Edge.l0 : Nat → Int → List (List Bool) → List Int → Int → Int → Int → List (S50) → Option (List Int)
 | 0, _, _, _, _, _, _, _ => none
 | k + 1, x1, x5, x6, x7, x228000, x228001, x228002 => if x7 < (x5.length : Int) then (davitref08_Edge.l1 k x1 x5 x6 x7 false 0 x228000 x228001 x228002) else (some x6)
def davitref08_Edge.l1 : Nat → Int → List (List Bool) → List Int → Int → Bool → Int → Int → Int → List (S50) → Option (List Int)
 | 0, _, _, _, _, _, _, _, _, _ => none
 | k + 1, x1, x5, x6, x7, x8, x9, x228000, x228001, x228002 => if x9 < (x5.length : Int) then (if x1 ≥ 0 then (if x1 < (x5.length : Int) then (if 0 ≤ x1 then (if 0 ≤ x9 then (if x9 < ((rd_L12 x5 x1).length : Int) then (if rdOf false (rd_L12 x5 x1) x9 = true then ((davitref07_Next.f k x228000 x228001 x228002 x9).bind fun t241 => ((davitref07_Has.f k t241 x7).bind fun t244 => (if t244 = true then (davitref08_Edge.l1 k x1 x5 x6 x7 true (wrap64 (x9 + 1)) x228000 x228001 x228002) else (davitref08_Edge.l1 k x1 x5 x6 x7 x8 (wrap64 (x9 + 1)) x228000 x228001 x228002)))) else (davitref08_Edge.l1 k x1 x5 x6 x7 x8 (wrap64 (x9 + 1)) x228000 x228001 x228002)) else (none)) else (none)) else (none)) else (davitref08_Edge.l1 k x1 x5 x6 x7 x8 (wrap64 (x9 + 1)) x228000 x228001 x228002)) else (davitref08_Edge.l1 k x1 x5 x6 x7 x8 (wrap64 (x9 + 1)) x228000 x228001 x228002)) else (if x8 = true then (if x7 = x1 then (if x6.length < 17592186044416 then (davitref08_Edge.l0 k x1 x5 (x6 ++ [x7]) (wrap64 (x7 + 1)) x228000 x228001 x228002) else (none)) else (if 0 ≤ x1 then (if x1 < (x5.length : Int) then (if 0 ≤ x7 then (if x7 < ((rd_L12 x5 x1).length : Int) then (if (rdOf false (rd_L12 x5 x1) x7 = true) then (davitref08_Edge.l0 k x1 x5 x6 (wrap64 (x7 + 1)) x228000 x228001 x228002) else (if x6.length < 17592186044416 then (davitref08_Edge.l0 k x1 x5 (x6 ++ [x7]) (wrap64 (x7 + 1)) x228000 x228001 x228002) else (none))) else (none)) else (none)) else (none)) else (none))) else (davitref08_Edge.l0 k x1 x5 x6 (wrap64 (x7 + 1)) x228000 x228001 x228002))
end
def davitref08_Edge.f (k : Nat) (a0_0 : Int) (a0_1 : Int) (l0_2 : List (S50)) (a1 : Int) : Option (List Int) := (davitref08_All.f k a0_0 a0_1 l0_2).bind fun t228 => (davitref08_Edge.l0 k a1 t228 ([] : List Int) 0 a0_0 a0_1 l0_2)
theorem davitref08_Edge.mono_l : ∀ k, (∀ y0 y1 y2 y3 y4 y5 y6, LeO (davitref08_Edge.l0 k y0 y1 y2 y3 y4 y5 y6) (davitref08_Edge.l0 (k + 1) y0 y1 y2 y3 y4 y5 y6)) ∧ (∀ y0 y1 y2 y3 y4 y5 y6 y7 y8, LeO (davitref08_Edge.l1 k y0 y1 y2 y3 y4 y5 y6 y7 y8) (davitref08_Edge.l1 (k + 1) y0 y1 y2 y3 y4 y5 y6 y7 y8))
 | 0 => ⟨fun _ _ _ _ _ _ _ r h => by simp [davitref08_Edge.l0] at h, fun _ _ _ _ _ _ _ _ _ r h => by simp [davitref08_Edge.l1] at h⟩
 | k + 1 => by
  obtain ⟨ih0, ih1⟩ := davitref08_Edge.mono_l k
  refine ⟨?_, ?_⟩
  ·intro y0 y1 y2 y3 y4 y5 y6
   unfold davitref08_Edge.l0
   repeat' first
   | (with_reducible exact ih0 _ _ _ _ _ _ _)
   | (with_reducible exact ih1 _ _ _ _ _ _ _ _ _)
   | (with_reducible exact davitref07_Has.mono _ _ _)
   | (with_reducible exact davitref07_Next.mono _ _ _ _ _)
   | (with_reducible exact davitref08_All.mono _ _ _ _)
   | (with_reducible exact LeO.refl _)
   | (with_reducible exact LeO.none _)
   | (with_reducible refine LeO.ite ?_ ?_)
   | (with_reducible refine LeO.bind ?_ (fun _ => ?_))
   | exact ih0 _ _ _ _ _ _ _
   | exact ih1 _ _ _ _ _ _ _ _ _
   | exact davitref07_Has.mono _ _ _
   | exact davitref07_Next.mono _ _ _ _ _
   | exact davitref08_All.mono _ _ _ _
   | exact LeO.none _
   | refine LeO.ite ?_ ?_
   | refine LeO.bind ?_ (fun _ => ?_)
  ·intro y0 y1 y2 y3 y4 y5 y6 y7 y8
   unfold davitref08_Edge.l1
   repeat' first
   | (with_reducible exact ih0 _ _ _ _ _ _ _)
   | (with_reducible exact ih1 _ _ _ _ _ _ _ _ _)
   | (with_reducible exact davitref07_Has.mono _ _ _)
   | (with_reducible exact davitref07_Next.mono _ _ _ _ _)
   | (with_reducible exact davitref08_All.mono _ _ _ _)
   | (with_reducible exact LeO.refl _)
   | (with_reducible exact LeO.none _)
   | (with_reducible refine LeO.ite ?_ ?_)
   | (with_reducible refine LeO.bind ?_ (fun _ => ?_))
   | exact ih0 _ _ _ _ _ _ _
   | exact ih1 _ _ _ _ _ _ _ _ _
   | exact davitref07_Has.mono _ _ _
   | exact davitref07_Next.mono _ _ _ _ _
   | exact davitref08_All.mono _ _ _ _
   | exact LeO.none _
   | refine LeO.ite ?_ ?_
   | refine LeO.bind ?_ (fun _ => ?_)
theorem davitref08_Edge.mono : ∀ a0 a1 a2 a3 k, LeO (davitref08_Edge.f k a0 a1 a2 a3) (davitref08_Edge.f (k + 1) a0 a1 a2 a3) := by
 intro a0 a1 a2 a3 k
 obtain ⟨ih0, ih1⟩ := davitref08_Edge.mono_l k
 unfold davitref08_Edge.f
 repeat' first
   | (with_reducible exact ih0 _ _ _ _ _ _ _)
   | (with_reducible exact ih1 _ _ _ _ _ _ _ _ _)
   | (with_reducible exact davitref07_Has.mono _ _ _)
   | (with_reducible exact davitref07_Next.mono _ _ _ _ _)
   | (with_reducible exact davitref08_All.mono _ _ _ _)
   | (with_reducible exact LeO.refl _)
   | (with_reducible exact LeO.none _)
   | (with_reducible refine LeO.ite ?_ ?_)
   | (with_reducible refine LeO.bind ?_ (fun _ => ?_))
   | exact ih0 _ _ _ _ _ _ _
   | exact ih1 _ _ _ _ _ _ _ _ _
   | exact davitref07_Has.mono _ _ _
   | exact davitref07_Next.mono _ _ _ _ _
   | exact davitref08_All.mono _ _ _ _
   | exact LeO.none _
   | refine LeO.ite ?_ ?_
   | refine LeO.bind ?_ (fun _ => ?_)
set_option maxHeartbeats 8000000 in
set_option maxRecDepth 100000 in
theorem davitref08_Edge.calls (k : Nat) (a0_0 : Int) (a0_1 : Int) (A0_2 : Option Addr) (c0_2 : Nat) (l0_2 : List (S50)) (a1 : Int) (r : List Int) (w : World) (hr0_2 : Kd.C k50 w A0_2 l0_2.length l0_2) (hc0_2 : l0_2.length ≤ c0_2) (h : davitref08_Edge.f k a0_0 a0_1 l0_2 a1 = some r) :
  Calls Try.prog 18 #[.agg #[.int .i64 a0_0, .int .i64 a0_1, .slice A0_2 l0_2.length c0_2], .int .i64 a1] w fun e w' => ∃ v0_ : Value, e = .returned (v0_) ∧ Kd.R (Kd.int .i64) 3 w' w.heap.size (fun _ => True) v0_ r ∧ Below w.heap.size w w' := by
 have hu24 := Try.underlying24
 have HR0_2 := Aside0.mk hr0_2
 have HC0_2 := Aside0.mk hc0_2
 clear hr0_2 hc0_2
 have HB := Aside0.mk (Below.refl w.heap.size w)
 have H : ((davitref08_All.f k a0_0 a0_1 l0_2).bind fun t228 => (davitref08_Edge.l0 k a1 t228 ([] : List Int) 0 a0_0 a0_1 l0_2)) = some r := h
 clear h
 replace H := Option.bind_eq_some_iff.mp H
 obtain ⟨t228, A30, H⟩ := H
 replace H : (davitref08_Edge.l0 k a1 t228 ([] : List Int) 0 a0_0 a0_1 l0_2) = some r := H
 have A3 := Aside0.mk A30
 clear A30
 have H' := Aside0.mk H
 clear H
 go_enter Try.func18, Try.ntmps18
 go_wp2_with (first | ((with_reducible refine gate_dst (N := 2) rfl ?_); (try (refine gate_guard (by rfl) ?_; dsimp only)); refine box_event ?hg (N := 2) ?hd (cs := #[.int .i64 a0_0, .int .i64 a0_1, .slice A0_2 l0_2.length c0_2]) (t := 24) ?hr ?_; (case hd => rfl); (case hg => rfl); (case hr => first | (go_simp; done) | (go_simp; rfl)); intro gb227 hg w4 hbox hb; have n0_ := Aside0.mk (below_step (by repeat (first | (with_reducible first | exact HB.out | apply below_alloc | apply pw_below_drewN | apply below_drew1) | exact HB.out)) hb); have n1_ := Aside0.mk (hbox); have n2_ := Aside0.mk ((by rw [hg]; exact (below_size (by repeat (first | (with_reducible first | exact HB.out | apply below_alloc | apply pw_below_drewN | apply below_drew1) | exact HB.out))) : w.heap.size ≤ gb227)); have n3_ := Aside0.mk ((by rw [hg]; exact (below_size (by repeat (first | (with_reducible first | exact HB.out | apply below_alloc | apply pw_below_drewN | apply below_drew1) | exact HB.out))) : w.heap.size ≤ gb227)); clear HB; have HB := n0_; have BK227 := n1_; have GW227 := n2_; have GE227 := n3_; clear n0_ n1_ n2_ n3_; clear hb hbox hg; have hcz5_0 : w4.cell? ⟨gb227, 0, none⟩ = some (.int .i64 a0_0) := (blk_cell BK227.out 0).trans rfl; have hcz5_1 : w4.cell? ⟨gb227, 1, none⟩ = some (.int .i64 a0_1) := (blk_cell BK227.out 1).trans rfl; have hcz5_2 : w4.cell? ⟨gb227, 2, none⟩ = some (.slice A0_2 l0_2.length c0_2) := (blk_cell BK227.out 2).trans rfl; have hfz5_0 := blk_frozen BK227.out 0; have hfz5_1 := blk_frozen BK227.out 1; have hfz5_2 := blk_frozen BK227.out 2) | ((with_reducible refine gate_callee (f := 28) rfl ?_); refine goesL_ (some 11) rfl rfl Try.func28 (by kernel_rfl) rfl #[.agg #[.int .i64 a0_0, .int .i64 a0_1, .slice A0_2 l0_2.length c0_2]] rfl (by (try simp only [List.map_toArray, List.map_cons, List.map_nil]); first | done | rfl | (simp only [List.length_drop, List.length_take]; rfl)) ?_; (with_reducible refine (davitref08_All.calls k a0_0 a0_1 _ _ l0_2 t228 _ ?side1 ?side2 A3.out).mono ?_); (case side1 => repeat (first | exact (Kd.C_below HR0_2.out HB.out) | (with_reducible refine Kd.C_alloc ?_ _) | (with_reducible refine Kd.C_drewN ?_ _) | (with_reducible refine Kd.C_drew ?_))); (case side2 => exact HC0_2.out); rintro e w6 ⟨v229, rfl, ho0, hb⟩; refine ⟨_, rfl, ?_⟩; have n0_ := Aside0.mk (Kd.S_lower ho0 (below_size (by repeat (first | (with_reducible first | exact HB.out | apply below_alloc | apply pw_below_drewN | apply below_drew1 | refine below_set ?_ GE227.out) | exact HB.out)))); have n1_ := Aside0.mk (blk_below (g := gb227) (o := .cells #[.int .i64 a0_0, .int .i64 a0_1, .slice A0_2 l0_2.length c0_2] 24 (0, 0)) (by (with_reducible repeat (first | refine blk_drewN ?_ _ | refine blk_drew ?_ | refine blk_alloc ?_ _)); exact BK227.out) hb); have n2_ := Aside0.mk (below_step (by repeat (first | (with_reducible first | exact HB.out | apply below_alloc | apply pw_below_drewN | apply below_drew1 | refine below_set ?_ GE227.out) | exact HB.out)) hb); clear BK227; clear HB; have HO230 := n0_; have BK227 := n1_; have HB := n2_; clear n0_ n1_ n2_; (try clear hb); (try clear hb2); (try clear hk); (try clear hi); (try clear ho0)))
 go_loopg [6, 7] k (fun kq v6 v7 w' => ∃ (x6_1 : List Int) (x7_1 : Int), v7 = .int .i64 x7_1 ∧ Aside0 (davitref08_Edge.l0 kq a1 t228 x6_1 x7_1 a0_0 a0_1 l0_2 = some r) ∧ Aside0 (kq ≤ k) ∧ Aside0 (Kd.S (Kd.slice 4 Kd.bool) 32 w' w.heap.size (fun _ => True) v229 t228) ∧ Aside0 (Kd.R (Kd.int .i64) 3 w' w.heap.size (fun _ => True) v6 x6_1) ∧ Aside0 (w'.heap[gb227]? = some (.cells #[.int .i64 a0_0, .int .i64 a0_1, (.slice A0_2 l0_2.length c0_2)] 24 (0, 0))) ∧ Aside0 (Below w.heap.size w w'))
 case atStart => exact ⟨(([] : List Int)), (0), (by first | rfl | (simp; done) | (simp [*]; done)), H', ⟨Nat.le_refl _⟩, ⟨by (with_reducible repeat (first | apply Kd.S_alloc | apply Kd.S_drewN | apply Kd.S_drew)); exact HO230.out⟩, ⟨by first | exact Kd.R_nil _ _ _ _ _ | exact Kd.N_nil _ _ _ _ _ | exact Kd.V_nil _ _ _ _ _ | exact Kd.Q_nil _ _ _ _ _ | exact Kd.S_nil _ _ _ _ _⟩, ⟨by (with_reducible repeat (first | refine blk_drewN ?_ _ | refine blk_drew ?_ | refine blk_alloc ?_ _)); exact BK227.out⟩, ⟨by repeat (first | (with_reducible first | exact HB.out | apply below_alloc | apply pw_below_drewN | apply below_drew1 | refine below_set ?_ GE227.out) | exact HB.out)⟩⟩
 case round =>
  clear H'
  try clear c1
  try clear c2
  try clear p2
  try clear hcz5_0
  try clear hcz5_1
  try clear hcz5_2
  try clear hfz5_0
  try clear hfz5_1
  try clear hfz5_2
  obtain ⟨x6_1, x7_1, rfl, HA, HK1, HO_5, HO_6, BK227, HB⟩ := hrel
  cases gk with
  | zero => exact absurd HA.out (by simp [davitref08_Edge.l0])
  | succ k1 =>
   have H := HA.out
   clear HA
   simp only [davitref08_Edge.l0] at H
   by_cases c7 : x7_1 < (t228.length : Int)
   ·rw [if_pos c7] at H
    have c7b0 : decide (x7_1 < (t228.length : Int)) = true := decide_eq_true c7
    clear c7
    have H' := Aside0.mk H
    clear H
    obtain ⟨Ao8, co8, eo8⟩ := Kd.S_slice HO_5.out
    subst eo8
    go_wp2
    go_loopg [8, 9] k1 (fun kq v8 v9 w' => ∃ (x8_2 : Bool) (x9_2 : Int), v8 = .bool x8_2 ∧ v9 = .int .i64 x9_2 ∧ Aside0 (davitref08_Edge.l1 kq a1 t228 x6_1 x7_1 x8_2 x9_2 a0_0 a0_1 l0_2 = some r) ∧ Aside0 (kq ≤ k1) ∧ Aside0 (Kd.S (Kd.slice 4 Kd.bool) 32 w' w.heap.size (fun _ => True) (.slice Ao8 t228.length co8) t228) ∧ Aside0 (Kd.R (Kd.int .i64) 3 w' w.heap.size (fun _ => True) u6 x6_1) ∧ Aside0 (w'.heap[gb227]? = some (.cells #[.int .i64 a0_0, .int .i64 a0_1, (.slice A0_2 l0_2.length c0_2)] 24 (0, 0))) ∧ Aside0 (Below w.heap.size w w'))
    case atStart => exact ⟨(false), (0), (by first | rfl | (simp; done) | (simp [*]; done)), (by first | rfl | (simp; done) | (simp [*]; done)), H', ⟨Nat.le_refl _⟩, ⟨by (with_reducible repeat (first | apply Kd.S_alloc | apply Kd.S_drewN | apply Kd.S_drew)); exact HO_5.out⟩, ⟨by (with_reducible repeat (first | apply Kd.R_alloc | apply Kd.R_drewN | apply Kd.R_drew)); exact HO_6.out⟩, ⟨by (with_reducible repeat (first | refine blk_drewN ?_ _ | refine blk_drew ?_ | refine blk_alloc ?_ _)); exact BK227.out⟩, ⟨by repeat (first | (with_reducible first | exact HB.out | apply below_alloc | apply pw_below_drewN | apply below_drew1 | refine below_set ?_ GE227.out) | exact HB.out)⟩⟩
    case round =>
     clear H'
     try clear c1
     try clear c2
     try clear p2
     try clear c7
     try clear c7b0
     try clear hcz5_0
     try clear hcz5_1
     try clear hcz5_2
     try clear hfz5_0
     try clear hfz5_1
     try clear hfz5_2
     try clear p2
     obtain ⟨x8_2, x9_2, rfl, rfl, HA, HK2, HO_5, HO_6, BK227, HB⟩ := hrel
     cases gk with
     | zero => exact absurd HA.out (by simp [davitref08_Edge.l1])
     | succ k2 =>
      have H := HA.out
      clear HA
      simp only [davitref08_Edge.l1] at H
      by_cases c9 : x9_2 < (t228.length : Int)
      ·rw [if_pos c9] at H
       have c9b0 : decide (x9_2 < (t228.length : Int)) = true := decide_eq_true c9
       clear c9
       by_cases c10 : a1 ≥ 0
       ·rw [if_pos c10] at H
        have c10b0 : decide (0 ≤ a1) = true := decide_eq_true c10
        clear c10
        by_cases c11 : a1 < (t228.length : Int)
        ·rw [if_pos c11] at H
         have c11b0 : decide (a1 < (t228.length : Int)) = true := decide_eq_true c11
         clear c11
         by_cases c12 : 0 ≤ a1
         ·rw [if_pos c12] at H
          have c12b0 : decide (0 ≤ a1) = true := decide_eq_true c12
          clear c12
          by_cases c13 : 0 ≤ x9_2
          ·rw [if_pos c13] at H
           have c13b0 : decide (0 ≤ x9_2) = true := decide_eq_true c13
           clear c13
           by_cases c14 : x9_2 < ((rd_L12 t228 a1).length : Int)
           ·rw [if_pos c14] at H
            have c14b0 : decide (x9_2 < ((rd_L12 t228 a1).length : Int)) = true := decide_eq_true c14
            clear c14
            obtain ⟨bq15, hbq15⟩ : ∃ b_ : Bool, b_ = (rdOf false (rd_L12 t228 a1) x9_2) := ⟨_, rfl⟩
            replace H : (if bq15 = true then ((davitref07_Next.f k2 a0_0 a0_1 l0_2 x9_2).bind fun t241 => ((davitref07_Has.f k2 t241 x7_1).bind fun t244 => (if t244 = true then (davitref08_Edge.l1 k2 a1 t228 x6_1 x7_1 true (wrap64 (x9_2 + 1)) a0_0 a0_1 l0_2) else (davitref08_Edge.l1 k2 a1 t228 x6_1 x7_1 x8_2 (wrap64 (x9_2 + 1)) a0_0 a0_1 l0_2)))) else (davitref08_Edge.l1 k2 a1 t228 x6_1 x7_1 x8_2 (wrap64 (x9_2 + 1)) a0_0 a0_1 l0_2)) = some r := by rw [← hbq15] at H; exact H
            have Nbq15 := Aside0.mk hbq15
            clear hbq15
            by_cases c16 : bq15 = true
            ·subst c16
             have H1 : ((davitref07_Next.f k2 a0_0 a0_1 l0_2 x9_2).bind fun t241 => ((davitref07_Has.f k2 t241 x7_1).bind fun t244 => (if t244 = true then (davitref08_Edge.l1 k2 a1 t228 x6_1 x7_1 true (wrap64 (x9_2 + 1)) a0_0 a0_1 l0_2) else (davitref08_Edge.l1 k2 a1 t228 x6_1 x7_1 x8_2 (wrap64 (x9_2 + 1)) a0_0 a0_1 l0_2)))) = some r := by rw [if_pos rfl] at H; exact H
             clear H
             have H := H1
             clear H1
             replace H := Option.bind_eq_some_iff.mp H
             obtain ⟨t241, A170, H⟩ := H
             replace H : ((davitref07_Has.f k2 t241 x7_1).bind fun t244 => (if t244 = true then (davitref08_Edge.l1 k2 a1 t228 x6_1 x7_1 true (wrap64 (x9_2 + 1)) a0_0 a0_1 l0_2) else (davitref08_Edge.l1 k2 a1 t228 x6_1 x7_1 x8_2 (wrap64 (x9_2 + 1)) a0_0 a0_1 l0_2))) = some r := H
             have A17 := Aside0.mk A170
             clear A170
             replace H := Option.bind_eq_some_iff.mp H
             obtain ⟨t244, A180, H⟩ := H
             replace H : (if t244 = true then (davitref08_Edge.l1 k2 a1 t228 x6_1 x7_1 true (wrap64 (x9_2 + 1)) a0_0 a0_1 l0_2) else (davitref08_Edge.l1 k2 a1 t228 x6_1 x7_1 x8_2 (wrap64 (x9_2 + 1)) a0_0 a0_1 l0_2)) = some r := H
             have A18 := Aside0.mk A180
             clear A180
             by_cases c19 : t244 = true
             ·subst c19
              have H1 : (davitref08_Edge.l1 k2 a1 t228 x6_1 x7_1 true (wrap64 (x9_2 + 1)) a0_0 a0_1 l0_2) = some r := by rw [if_pos rfl] at H; exact H
              clear H
              have H := H1
              clear H1
              have H' := Aside0.mk H
              clear H
              have p239 : 0 ≤ (a1 : Int) := of_decide_eq_true (by first | (with_reducible assumption) | assumption)
              have q239 : a1 < (t228.length : Int) := of_decide_eq_true (by first | (with_reducible assumption) | assumption)
              obtain ⟨ad239, A239_0, c239_0, e239, hx239_0, hl239_0, hi239_0⟩ := at_L12 (Kd.S_reads' HO_5.out).2.2 a1 p239 q239
              cases e239
              obtain ⟨ce239, hce239, hMe239, hcc239⟩ := Kd.S_get HO_5.out [] a1 p239 (by first | exact q239 | exact of_decide_eq_true (by first | (with_reducible assumption) | assumption) | (have e_ := (Kd.S_reads' HO_5.out).1; omega))
              obtain ⟨ve239_0, rfl, ge239_0⟩ := hMe239
              have hv239_0 := hcc239 0 _ rfl
              rw [Nat.add_zero, show ((Kd.slice 4 Kd.bool)).sz = 1 from rfl, Nat.mul_one] at hv239_0
              replace hv239_0 := Option.some.inj (hv239_0.symm.trans hx239_0)
              rw [hv239_0] at ge239_0
              have HL239_0 := Aside0.mk (show Kd.R Kd.bool 4 _ _ _ _ (rd_L12 t228 a1) from ge239_0)
              clear hv239_0 ge239_0
              clear hcc239 hce239
              have HR239_0 := Aside0.mk hi239_0
              have HC239_0 := Aside0.mk hl239_0
              clear hi239_0 hl239_0
              replace p239 := eq_true p239
              replace q239 := eq_true q239
              have p240 : 0 ≤ (x9_2 : Int) := of_decide_eq_true (by first | (with_reducible assumption) | assumption)
              have q240 : x9_2 < ((rd_L12 t228 a1).length : Int) := of_decide_eq_true (by first | (with_reducible assumption) | assumption)
              obtain ⟨ad240, e240, hx240_0⟩ := Kd.at_bool (by repeat (first | (with_reducible exact HR239_0.out) | (with_reducible refine Kd.C_alloc ?_ _) | (with_reducible refine Kd.C_drewN ?_ _) | (with_reducible refine Kd.C_drew ?_) | exact HR239_0.out)) x9_2 p240 q240
              (try rw [← Nbq15.out] at hx240_0)
              cases e240
              replace p240 := eq_true p240
              replace q240 := eq_true q240
              have hcz20_0 : wr.cell? ⟨gb227, 0, none⟩ = some (.int .i64 a0_0) := (blk_cell BK227.out 0).trans rfl
              have hcz20_1 : wr.cell? ⟨gb227, 1, none⟩ = some (.int .i64 a0_1) := (blk_cell BK227.out 1).trans rfl
              have hcz20_2 : wr.cell? ⟨gb227, 2, none⟩ = some (.slice A0_2 l0_2.length c0_2) := (blk_cell BK227.out 2).trans rfl
              have hfz20_0 := blk_frozen BK227.out 0
              have hfz20_1 := blk_frozen BK227.out 1
              have hfz20_2 := blk_frozen BK227.out 2
              go_wp2_with (first | (go_at_call 33; (with_reducible refine (davitref07_Next.calls k2 a0_0 a0_1 _ _ l0_2 x9_2 t241 _ ?side1 ?side2 A17.out).mono ?_); (case side1 => repeat (first | exact (Kd.C_below HR0_2.out HB.out) | (with_reducible refine Kd.C_alloc ?_ _) | (with_reducible refine Kd.C_drewN ?_ _) | (with_reducible refine Kd.C_drew ?_))); (case side2 => exact HC0_2.out); rintro e w21 ⟨v242, rfl, ho0, hb⟩; have n0_ := Aside0.mk (Kd.S_below (by (with_reducible repeat (first | apply Kd.S_alloc | apply Kd.S_drewN | apply Kd.S_drew)); exact HO_5.out) hb); have n1_ := Aside0.mk (Kd.R_elder' (by (with_reducible repeat (first | apply Kd.R_alloc | apply Kd.R_drewN | apply Kd.R_drew)); exact HO_6.out) (Kd.R_base ho0) hb); have n2_ := Aside0.mk (Kd.R_below (by (with_reducible repeat (first | apply Kd.R_alloc | apply Kd.R_drewN | apply Kd.R_drew)); exact HL239_0.out) hb); have n3_ := Aside0.mk (Kd.R_lower (Kd.R_new' ho0 (Kd.R_lt (by (with_reducible repeat (first | apply Kd.R_alloc | apply Kd.R_drewN | apply Kd.R_drew)); exact HO_6.out))) (below_size (by repeat (first | (with_reducible first | exact HB.out | apply below_alloc | apply pw_below_drewN | apply below_drew1 | refine below_set ?_ GE227.out) | exact HB.out)))); have n4_ := Aside0.mk (blk_below (g := gb227) (o := .cells #[.int .i64 a0_0, .int .i64 a0_1, .slice A0_2 l0_2.length c0_2] 24 (0, 0)) (by (with_reducible repeat (first | refine blk_drewN ?_ _ | refine blk_drew ?_ | refine blk_alloc ?_ _)); exact BK227.out) hb); have n5_ := Aside0.mk (Kd.C_below (by repeat (first | (with_reducible exact HR239_0.out) | (with_reducible refine Kd.C_alloc ?_ _) | (with_reducible refine Kd.C_drewN ?_ _) | (with_reducible refine Kd.C_drew ?_) | exact HR239_0.out)) hb); have n6_ := Aside0.mk (below_step (by repeat (first | (with_reducible first | exact HB.out | apply below_alloc | apply pw_below_drewN | apply below_drew1 | refine below_set ?_ GE227.out) | exact HB.out)) hb); clear HO_5; clear HO_6; clear HL239_0; clear BK227; clear HR239_0; clear HB; have HO_5 := n0_; have HO_6 := n1_; have HL239_0 := n2_; have HO243 := n3_; have BK227 := n4_; have HR239_0 := n5_; have HB := n6_; clear n0_ n1_ n2_ n3_ n4_ n5_ n6_; (try clear hb); (try clear hb2); (try clear hk); (try clear hi); (try clear ho0); obtain ⟨Ao22, co22, eo22⟩ := Kd.R_slice HO243.out; subst eo22) | (go_at_call 21; (with_reducible refine (davitref07_Has.calls k2 _ _ t241 x7_1 true _ ?side1 ?side2 A18.out).mono ?_); (case side1 => repeat (first | exact (Kd.R_reads' HO243.out).2.2 | (with_reducible refine Kd.C_alloc ?_ _) | (with_reducible refine Kd.C_drewN ?_ _) | (with_reducible refine Kd.C_drew ?_))); (case side2 => exact (Kd.R_reads' HO243.out).2.1); rintro e w' ⟨rfl, ⟨nd, rfl⟩⟩))
              go_roundg k2
              case measure => have := HK1.out; have := HK2.out; omega
              case rel => exact ⟨(true), (wrap64 (x9_2 + 1)), (by first | rfl | (simp; done) | (simp [*]; done)), (by first | rfl | (simp; done) | (simp [*]; done)), H', ⟨by have := HK1.out; have := HK2.out; omega⟩, ⟨by (with_reducible repeat (first | apply Kd.S_alloc | apply Kd.S_drewN | apply Kd.S_drew)); exact HO_5.out⟩, ⟨by (with_reducible repeat (first | apply Kd.R_alloc | apply Kd.R_drewN | apply Kd.R_drew)); exact Kd.R_mono HO_6.out (fun _ hk => trivial)⟩, ⟨by (with_reducible repeat (first | refine blk_drewN ?_ _ | refine blk_drew ?_ | refine blk_alloc ?_ _)); exact BK227.out⟩, ⟨by repeat (first | (with_reducible first | exact HB.out | apply below_alloc | apply pw_below_drewN | apply below_drew1 | refine below_set ?_ GE227.out) | exact HB.out)⟩⟩
             ·replace c19 := Bool.eq_false_iff.mpr c19
              subst c19
              have H1 : (davitref08_Edge.l1 k2 a1 t228 x6_1 x7_1 x8_2 (wrap64 (x9_2 + 1)) a0_0 a0_1 l0_2) = some r := by rw [if_neg (show ¬ (false = true) by decide)] at H; exact H
              clear H
              have H := H1
              clear H1
              have H' := Aside0.mk H
              clear H
              have p239 : 0 ≤ (a1 : Int) := of_decide_eq_true (by first | (with_reducible assumption) | assumption)
              have q239 : a1 < (t228.length : Int) := of_decide_eq_true (by first | (with_reducible assumption) | assumption)
              obtain ⟨ad239, A239_0, c239_0, e239, hx239_0, hl239_0, hi239_0⟩ := at_L12 (Kd.S_reads' HO_5.out).2.2 a1 p239 q239
              cases e239
              obtain ⟨ce239, hce239, hMe239, hcc239⟩ := Kd.S_get HO_5.out [] a1 p239 (by first | exact q239 | exact of_decide_eq_true (by first | (with_reducible assumption) | assumption) | (have e_ := (Kd.S_reads' HO_5.out).1; omega))
              obtain ⟨ve239_0, rfl, ge239_0⟩ := hMe239
              have hv239_0 := hcc239 0 _ rfl
              rw [Nat.add_zero, show ((Kd.slice 4 Kd.bool)).sz = 1 from rfl, Nat.mul_one] at hv239_0
              replace hv239_0 := Option.some.inj (hv239_0.symm.trans hx239_0)
              rw [hv239_0] at ge239_0
              have HL239_0 := Aside0.mk (show Kd.R Kd.bool 4 _ _ _ _ (rd_L12 t228 a1) from ge239_0)
              clear hv239_0 ge239_0
              clear hcc239 hce239
              have HR239_0 := Aside0.mk hi239_0
              have HC239_0 := Aside0.mk hl239_0
              clear hi239_0 hl239_0
              replace p239 := eq_true p239
              replace q239 := eq_true q239
              have p240 : 0 ≤ (x9_2 : Int) := of_decide_eq_true (by first | (with_reducible assumption) | assumption)
              have q240 : x9_2 < ((rd_L12 t228 a1).length : Int) := of_decide_eq_true (by first | (with_reducible assumption) | assumption)
              obtain ⟨ad240, e240, hx240_0⟩ := Kd.at_bool (by repeat (first | (with_reducible exact HR239_0.out) | (with_reducible refine Kd.C_alloc ?_ _) | (with_reducible refine Kd.C_drewN ?_ _) | (with_reducible refine Kd.C_drew ?_) | exact HR239_0.out)) x9_2 p240 q240
              (try rw [← Nbq15.out] at hx240_0)
              cases e240
              replace p240 := eq_true p240
              replace q240 := eq_true q240
              have hcz23_0 : wr.cell? ⟨gb227, 0, none⟩ = some (.int .i64 a0_0) := (blk_cell BK227.out 0).trans rfl
              have hcz23_1 : wr.cell? ⟨gb227, 1, none⟩ = some (.int .i64 a0_1) := (blk_cell BK227.out 1).trans rfl
              have hcz23_2 : wr.cell? ⟨gb227, 2, none⟩ = some (.slice A0_2 l0_2.length c0_2) := (blk_cell BK227.out 2).trans rfl
              have hfz23_0 := blk_frozen BK227.out 0
              have hfz23_1 := blk_frozen BK227.out 1
              have hfz23_2 := blk_frozen BK227.out 2
              go_wp2_with (first | (go_at_call 33; (with_reducible refine (davitref07_Next.calls k2 a0_0 a0_1 _ _ l0_2 x9_2 t241 _ ?side1 ?side2 A17.out).mono ?_); (case side1 => repeat (first | exact (Kd.C_below HR0_2.out HB.out) | (with_reducible refine Kd.C_alloc ?_ _) | (with_reducible refine Kd.C_drewN ?_ _) | (with_reducible refine Kd.C_drew ?_))); (case side2 => exact HC0_2.out); rintro e w24 ⟨v242, rfl, ho0, hb⟩; have n0_ := Aside0.mk (Kd.S_below (by (with_reducible repeat (first | apply Kd.S_alloc | apply Kd.S_drewN | apply Kd.S_drew)); exact HO_5.out) hb); have n1_ := Aside0.mk (Kd.R_elder' (by (with_reducible repeat (first | apply Kd.R_alloc | apply Kd.R_drewN | apply Kd.R_drew)); exact HO_6.out) (Kd.R_base ho0) hb); have n2_ := Aside0.mk (Kd.R_below (by (with_reducible repeat (first | apply Kd.R_alloc | apply Kd.R_drewN | apply Kd.R_drew)); exact HL239_0.out) hb); have n3_ := Aside0.mk (Kd.R_lower (Kd.R_new' ho0 (Kd.R_lt (by (with_reducible repeat (first | apply Kd.R_alloc | apply Kd.R_drewN | apply Kd.R_drew)); exact HO_6.out))) (below_size (by repeat (first | (with_reducible first | exact HB.out | apply below_alloc | apply pw_below_drewN | apply below_drew1 | refine below_set ?_ GE227.out) | exact HB.out)))); have n4_ := Aside0.mk (blk_below (g := gb227) (o := .cells #[.int .i64 a0_0, .int .i64 a0_1, .slice A0_2 l0_2.length c0_2] 24 (0, 0)) (by (with_reducible repeat (first | refine blk_drewN ?_ _ | refine blk_drew ?_ | refine blk_alloc ?_ _)); exact BK227.out) hb); have n5_ := Aside0.mk (Kd.C_below (by repeat (first | (with_reducible exact HR239_0.out) | (with_reducible refine Kd.C_alloc ?_ _) | (with_reducible refine Kd.C_drewN ?_ _) | (with_reducible refine Kd.C_drew ?_) | exact HR239_0.out)) hb); have n6_ := Aside0.mk (below_step (by repeat (first | (with_reducible first | exact HB.out | apply below_alloc | apply pw_below_drewN | apply below_drew1 | refine below_set ?_ GE227.out) | exact HB.out)) hb); clear HO_5; clear HO_6; clear HL239_0; clear BK227; clear HR239_0; clear HB; have HO_5 := n0_; have HO_6 := n1_; have HL239_0 := n2_; have HO243 := n3_; have BK227 := n4_; have HR239_0 := n5_; have HB := n6_; clear n0_ n1_ n2_ n3_ n4_ n5_ n6_; (try clear hb); (try clear hb2); (try clear hk); (try clear hi); (try clear ho0); obtain ⟨Ao25, co25, eo25⟩ := Kd.R_slice HO243.out; subst eo25) | (go_at_call 21; (with_reducible refine (davitref07_Has.calls k2 _ _ t241 x7_1 false _ ?side1 ?side2 A18.out).mono ?_); (case side1 => repeat (first | exact (Kd.R_reads' HO243.out).2.2 | (with_reducible refine Kd.C_alloc ?_ _) | (with_reducible refine Kd.C_drewN ?_ _) | (with_reducible refine Kd.C_drew ?_))); (case side2 => exact (Kd.R_reads' HO243.out).2.1); rintro e w' ⟨rfl, ⟨nd, rfl⟩⟩))
              go_roundg k2
              case measure => have := HK1.out; have := HK2.out; omega
              case rel => exact ⟨(x8_2), (wrap64 (x9_2 + 1)), (by first | rfl | (simp; done) | (simp [*]; done)), (by first | rfl | (simp; done) | (simp [*]; done)), H', ⟨by have := HK1.out; have := HK2.out; omega⟩, ⟨by (with_reducible repeat (first | apply Kd.S_alloc | apply Kd.S_drewN | apply Kd.S_drew)); exact HO_5.out⟩, ⟨by (with_reducible repeat (first | apply Kd.R_alloc | apply Kd.R_drewN | apply Kd.R_drew)); exact Kd.R_mono HO_6.out (fun _ hk => trivial)⟩, ⟨by (with_reducible repeat (first | refine blk_drewN ?_ _ | refine blk_drew ?_ | refine blk_alloc ?_ _)); exact BK227.out⟩, ⟨by repeat (first | (with_reducible first | exact HB.out | apply below_alloc | apply pw_below_drewN | apply below_drew1 | refine below_set ?_ GE227.out) | exact HB.out)⟩⟩
            ·replace c16 := Bool.eq_false_iff.mpr c16
             subst c16
             have H1 : (davitref08_Edge.l1 k2 a1 t228 x6_1 x7_1 x8_2 (wrap64 (x9_2 + 1)) a0_0 a0_1 l0_2) = some r := by rw [if_neg (show ¬ (false = true) by decide)] at H; exact H
             clear H
             have H := H1
             clear H1
             have H' := Aside0.mk H
             clear H
             have p239 : 0 ≤ (a1 : Int) := of_decide_eq_true (by first | (with_reducible assumption) | assumption)
             have q239 : a1 < (t228.length : Int) := of_decide_eq_true (by first | (with_reducible assumption) | assumption)
             obtain ⟨ad239, A239_0, c239_0, e239, hx239_0, hl239_0, hi239_0⟩ := at_L12 (Kd.S_reads' HO_5.out).2.2 a1 p239 q239
             cases e239
             obtain ⟨ce239, hce239, hMe239, hcc239⟩ := Kd.S_get HO_5.out [] a1 p239 (by first | exact q239 | exact of_decide_eq_true (by first | (with_reducible assumption) | assumption) | (have e_ := (Kd.S_reads' HO_5.out).1; omega))
             obtain ⟨ve239_0, rfl, ge239_0⟩ := hMe239
             have hv239_0 := hcc239 0 _ rfl
             rw [Nat.add_zero, show ((Kd.slice 4 Kd.bool)).sz = 1 from rfl, Nat.mul_one] at hv239_0
             replace hv239_0 := Option.some.inj (hv239_0.symm.trans hx239_0)
             rw [hv239_0] at ge239_0
             have HL239_0 := Aside0.mk (show Kd.R Kd.bool 4 _ _ _ _ (rd_L12 t228 a1) from ge239_0)
             clear hv239_0 ge239_0
             clear hcc239 hce239
             have HR239_0 := Aside0.mk hi239_0
             have HC239_0 := Aside0.mk hl239_0
             clear hi239_0 hl239_0
             replace p239 := eq_true p239
             replace q239 := eq_true q239
             have p240 : 0 ≤ (x9_2 : Int) := of_decide_eq_true (by first | (with_reducible assumption) | assumption)
             have q240 : x9_2 < ((rd_L12 t228 a1).length : Int) := of_decide_eq_true (by first | (with_reducible assumption) | assumption)
             obtain ⟨ad240, e240, hx240_0⟩ := Kd.at_bool (by repeat (first | (with_reducible exact HR239_0.out) | (with_reducible refine Kd.C_alloc ?_ _) | (with_reducible refine Kd.C_drewN ?_ _) | (with_reducible refine Kd.C_drew ?_) | exact HR239_0.out)) x9_2 p240 q240
             (try rw [← Nbq15.out] at hx240_0)
             cases e240
             replace p240 := eq_true p240
             replace q240 := eq_true q240
             go_wp2
             go_roundg k2
             case measure => have := HK1.out; have := HK2.out; omega
             case rel => exact ⟨(x8_2), (wrap64 (x9_2 + 1)), (by first | rfl | (simp; done) | (simp [*]; done)), (by first | rfl | (simp; done) | (simp [*]; done)), H', ⟨by have := HK1.out; have := HK2.out; omega⟩, ⟨by (with_reducible repeat (first | apply Kd.S_alloc | apply Kd.S_drewN | apply Kd.S_drew)); exact HO_5.out⟩, ⟨by (with_reducible repeat (first | apply Kd.R_alloc | apply Kd.R_drewN | apply Kd.R_drew)); exact HO_6.out⟩, ⟨by (with_reducible repeat (first | refine blk_drewN ?_ _ | refine blk_drew ?_ | refine blk_alloc ?_ _)); exact BK227.out⟩, ⟨by repeat (first | (with_reducible first | exact HB.out | apply below_alloc | apply pw_below_drewN | apply below_drew1 | refine below_set ?_ GE227.out) | exact HB.out)⟩⟩
           ·rw [if_neg c14] at H
            exact absurd H (by simp)
          ·rw [if_neg c13] at H
           exact absurd H (by simp)
         ·rw [if_neg c12] at H
          exact absurd H (by simp)
        ·rw [if_neg c11] at H
         have c11b0 : decide (a1 < (t228.length : Int)) = false := decide_eq_false c11
         clear c11
         have H' := Aside0.mk H
         clear H
         go_wp2
         go_roundg k2
         case measure => have := HK1.out; have := HK2.out; omega
         case rel => exact ⟨(x8_2), (wrap64 (x9_2 + 1)), (by first | rfl | (simp; done) | (simp [*]; done)), (by first | rfl | (simp; done) | (simp [*]; done)), H', ⟨by have := HK1.out; have := HK2.out; omega⟩, ⟨by (with_reducible repeat (first | apply Kd.S_alloc | apply Kd.S_drewN | apply Kd.S_drew)); exact HO_5.out⟩, ⟨by (with_reducible repeat (first | apply Kd.R_alloc | apply Kd.R_drewN | apply Kd.R_drew)); exact HO_6.out⟩, ⟨by (with_reducible repeat (first | refine blk_drewN ?_ _ | refine blk_drew ?_ | refine blk_alloc ?_ _)); exact BK227.out⟩, ⟨by repeat (first | (with_reducible first | exact HB.out | apply below_alloc | apply pw_below_drewN | apply below_drew1 | refine below_set ?_ GE227.out) | exact HB.out)⟩⟩
       ·rw [if_neg c10] at H
        have c10b0 : decide (0 ≤ a1) = false := decide_eq_false c10
        clear c10
        have H' := Aside0.mk H
        clear H
        go_wp2
        go_roundg k2
        case measure => have := HK1.out; have := HK2.out; omega
        case rel => exact ⟨(x8_2), (wrap64 (x9_2 + 1)), (by first | rfl | (simp; done) | (simp [*]; done)), (by first | rfl | (simp; done) | (simp [*]; done)), H', ⟨by have := HK1.out; have := HK2.out; omega⟩, ⟨by (with_reducible repeat (first | apply Kd.S_alloc | apply Kd.S_drewN | apply Kd.S_drew)); exact HO_5.out⟩, ⟨by (with_reducible repeat (first | apply Kd.R_alloc | apply Kd.R_drewN | apply Kd.R_drew)); exact HO_6.out⟩, ⟨by (with_reducible repeat (first | refine blk_drewN ?_ _ | refine blk_drew ?_ | refine blk_alloc ?_ _)); exact BK227.out⟩, ⟨by repeat (first | (with_reducible first | exact HB.out | apply below_alloc | apply pw_below_drewN | apply below_drew1 | refine below_set ?_ GE227.out) | exact HB.out)⟩⟩
      ·rw [if_neg c9] at H
       have c9b0 : decide (x9_2 < (t228.length : Int)) = false := decide_eq_false c9
       clear c9
       by_cases c26 : x8_2 = true
       ·subst c26
        have H1 : (if x7_1 = a1 then (if x6_1.length < 17592186044416 then (davitref08_Edge.l0 k2 a1 t228 (x6_1 ++ [x7_1]) (wrap64 (x7_1 + 1)) a0_0 a0_1 l0_2) else (none)) else (if 0 ≤ a1 then (if a1 < (t228.length : Int) then (if 0 ≤ x7_1 then (if x7_1 < ((rd_L12 t228 a1).length : Int) then (if (rdOf false (rd_L12 t228 a1) x7_1 = true) then (davitref08_Edge.l0 k2 a1 t228 x6_1 (wrap64 (x7_1 + 1)) a0_0 a0_1 l0_2) else (if x6_1.length < 17592186044416 then (davitref08_Edge.l0 k2 a1 t228 (x6_1 ++ [x7_1]) (wrap64 (x7_1 + 1)) a0_0 a0_1 l0_2) else (none))) else (none)) else (none)) else (none)) else (none))) = some r := by rw [if_pos rfl] at H; exact H
        clear H
        have H := H1
        clear H1
        by_cases c27 : x7_1 = a1
        ·rw [if_pos c27] at H
         have c27b0 : (x7_1 == a1) = true := beq_iff_eq.mpr c27
         have c27b1 : (x7_1 != a1) = false := bne_eq_false_iff_eq.mpr c27
         clear c27
         by_cases c28 : x6_1.length < 17592186044416
         ·rw [if_pos c28] at H
          have LMc28 := Aside0.mk c28
          clear c28
          obtain ⟨y231, hy231⟩ : ∃ y_ : List Int, y_ = (x6_1 ++ [x7_1]) := ⟨_, rfl⟩
          replace H : (davitref08_Edge.l0 k2 a1 t228 y231 (wrap64 (x7_1 + 1)) a0_0 a0_1 l0_2) = some r := by first | (rw [hy231]; with_reducible exact H) | (have H2_ := (Option.bind_some _ _).symm.trans H; rw [hy231]; with_reducible exact H2_) | (have H2_ := (Option.bind_some _ _).symm.trans H; with_reducible exact H2_) | with_reducible exact H | (rw [hy231]; exact H) | exact H
          have Ny231 := Aside0.mk hy231
          clear hy231
          have H' := Aside0.mk H
          clear H
          go_wp2_with (first | ((with_reducible refine gate_builtin (b := .append) (xs := #[.tmp 64, .tmp 66]) rfl ?_); (try (refine gate_guard (by rfl) ?_; dsimp only)); at_builtin; refine Kd.R_append (Kd.int .i64) (w0 := w) w.heap.size rfl (.tmp 64) (.tmp 66) 27 3 (.int .i64 0) 8 rfl Try.underlying27 info3 rfl (by decide) (by omega) u6 x6_1 x7_1 [.int .i64 x7_1] (fun _ => True) (fun _ => False) rfl rfl ?aP (fun _ hk => hk.elim) ?aF ?aO ?aB ?aS ?aL ?_; (case aP => exact rfl); (case aB => exact (by repeat (first | (with_reducible first | exact HB.out | apply below_alloc | apply pw_below_drewN | apply below_drew1 | refine below_set ?_ GE227.out) | exact HB.out))); (case aF => exact (fun _ _ => trivial)); (case aO => exact (by (with_reducible repeat (first | apply Kd.R_alloc | apply Kd.R_drewN | apply Kd.R_drew)); exact HO_6.out)); (case aS => exact (below_size (by repeat (first | (with_reducible first | exact HB.out | apply below_alloc | apply pw_below_drewN | apply below_drew1 | refine below_set ?_ GE227.out) | exact HB.out)))); (case aL => have := LMc28.out; omega); intro v232 w29 ho hb hg hat; rw [← Ny231.out] at ho; have n0_ := Aside0.mk (Kd.S_over' (by (with_reducible repeat (first | apply Kd.S_alloc | apply Kd.S_drewN | apply Kd.S_drew)); exact HO_5.out) (Kd.R_typed (by (with_reducible repeat (first | apply Kd.R_alloc | apply Kd.R_drewN | apply Kd.R_drew)); exact HO_6.out)) (by decide) hg); have n1_ := Aside0.mk (blk_grown (g := gb227) (o := .cells #[.int .i64 a0_0, .int .i64 a0_1, .slice A0_2 l0_2.length c0_2] 24 (0, 0)) (by (with_reducible repeat (first | refine blk_drewN ?_ _ | refine blk_drew ?_ | refine blk_alloc ?_ _)); exact BK227.out) hg (Kd.R_ne HO_6.out BK227.out (by decide))); have n2_ := Aside0.mk (hb); have n3_ := Aside0.mk (ho); clear HO_5; clear BK227; clear HB; clear HO_6; have HO_5 := n0_; have BK227 := n1_; have HB := n2_; have HO233 := n3_; clear n0_ n1_ n2_ n3_; clear ho hb hg hat))
          go_roundg k2
          case measure => have := HK1.out; have := HK2.out; omega
          case rel => exact ⟨(y231), (wrap64 (x7_1 + 1)), (by first | rfl | (simp; done) | (simp [*]; done)), H', ⟨by have := HK1.out; have := HK2.out; omega⟩, ⟨by (with_reducible repeat (first | apply Kd.S_alloc | apply Kd.S_drewN | apply Kd.S_drew)); exact HO_5.out⟩, ⟨by (with_reducible repeat (first | apply Kd.R_alloc | apply Kd.R_drewN | apply Kd.R_drew)); exact HO233.out⟩, ⟨by (with_reducible repeat (first | refine blk_drewN ?_ _ | refine blk_drew ?_ | refine blk_alloc ?_ _)); exact BK227.out⟩, ⟨by repeat (first | (with_reducible first | exact HB.out | apply below_alloc | apply pw_below_drewN | apply below_drew1 | refine below_set ?_ GE227.out) | exact HB.out)⟩⟩
         ·rw [if_neg c28] at H
          exact absurd H (by simp)
        ·rw [if_neg c27] at H
         have c27b0 : (x7_1 == a1) = false := beq_eq_false_iff_ne.mpr c27
         have c27b1 : (x7_1 != a1) = true := bne_iff_ne.mpr c27
         by_cases c30 : 0 ≤ a1
         ·rw [if_pos c30] at H
          have c30b0 : decide (0 ≤ a1) = true := decide_eq_true c30
          clear c30
          by_cases c31 : a1 < (t228.length : Int)
          ·rw [if_pos c31] at H
           have c31b0 : decide (a1 < (t228.length : Int)) = true := decide_eq_true c31
           clear c31
           by_cases c32 : 0 ≤ x7_1
           ·rw [if_pos c32] at H
            have c32b0 : decide (0 ≤ x7_1) = true := decide_eq_true c32
            clear c32
            by_cases c33 : x7_1 < ((rd_L12 t228 a1).length : Int)
            ·rw [if_pos c33] at H
             have c33b0 : decide (x7_1 < ((rd_L12 t228 a1).length : Int)) = true := decide_eq_true c33
             clear c33
             obtain ⟨bq34, hbq34⟩ : ∃ b_ : Bool, b_ = (rdOf false (rd_L12 t228 a1) x7_1) := ⟨_, rfl⟩
             replace H : (if (bq34 = true) then (davitref08_Edge.l0 k2 a1 t228 x6_1 (wrap64 (x7_1 + 1)) a0_0 a0_1 l0_2) else (if x6_1.length < 17592186044416 then (davitref08_Edge.l0 k2 a1 t228 (x6_1 ++ [x7_1]) (wrap64 (x7_1 + 1)) a0_0 a0_1 l0_2) else (none))) = some r := by rw [← hbq34] at H; exact H
             have Nbq34 := Aside0.mk hbq34
             clear hbq34
             by_cases c35 : (bq34 = true)
             ·subst c35
              have H1 : (davitref08_Edge.l0 k2 a1 t228 x6_1 (wrap64 (x7_1 + 1)) a0_0 a0_1 l0_2) = some r := by rw [if_pos rfl] at H; exact H
              clear H
              have H := H1
              clear H1
              have H' := Aside0.mk H
              clear H
              have p234 : 0 ≤ (a1 : Int) := of_decide_eq_true (by first | (with_reducible assumption) | assumption)
              have q234 : a1 < (t228.length : Int) := of_decide_eq_true (by first | (with_reducible assumption) | assumption)
              obtain ⟨ad234, A234_0, c234_0, e234, hx234_0, hl234_0, hi234_0⟩ := at_L12 (Kd.S_reads' HO_5.out).2.2 a1 p234 q234
              cases e234
              obtain ⟨ce234, hce234, hMe234, hcc234⟩ := Kd.S_get HO_5.out [] a1 p234 (by first | exact q234 | exact of_decide_eq_true (by first | (with_reducible assumption) | assumption) | (have e_ := (Kd.S_reads' HO_5.out).1; omega))
              obtain ⟨ve234_0, rfl, ge234_0⟩ := hMe234
              have hv234_0 := hcc234 0 _ rfl
              rw [Nat.add_zero, show ((Kd.slice 4 Kd.bool)).sz = 1 from rfl, Nat.mul_one] at hv234_0
              replace hv234_0 := Option.some.inj (hv234_0.symm.trans hx234_0)
              rw [hv234_0] at ge234_0
              have HL234_0 := Aside0.mk (show Kd.R Kd.bool 4 _ _ _ _ (rd_L12 t228 a1) from ge234_0)
              clear hv234_0 ge234_0
              clear hcc234 hce234
              have HR234_0 := Aside0.mk hi234_0
              have HC234_0 := Aside0.mk hl234_0
              clear hi234_0 hl234_0
              replace p234 := eq_true p234
              replace q234 := eq_true q234
              have p235 : 0 ≤ (x7_1 : Int) := of_decide_eq_true (by first | (with_reducible assumption) | assumption)
              have q235 : x7_1 < ((rd_L12 t228 a1).length : Int) := of_decide_eq_true (by first | (with_reducible assumption) | assumption)
              obtain ⟨ad235, e235, hx235_0⟩ := Kd.at_bool (by repeat (first | (with_reducible exact HR234_0.out) | (with_reducible refine Kd.C_alloc ?_ _) | (with_reducible refine Kd.C_drewN ?_ _) | (with_reducible refine Kd.C_drew ?_) | exact HR234_0.out)) x7_1 p235 q235
              (try rw [← Nbq34.out] at hx235_0)
              cases e235
              replace p235 := eq_true p235
              replace q235 := eq_true q235
              go_wp2
              go_roundg k2
              case measure => have := HK1.out; have := HK2.out; omega
              case rel => exact ⟨(x6_1), (wrap64 (x7_1 + 1)), (by first | rfl | (simp; done) | (simp [*]; done)), H', ⟨by have := HK1.out; have := HK2.out; omega⟩, ⟨by (with_reducible repeat (first | apply Kd.S_alloc | apply Kd.S_drewN | apply Kd.S_drew)); exact HO_5.out⟩, ⟨by (with_reducible repeat (first | apply Kd.R_alloc | apply Kd.R_drewN | apply Kd.R_drew)); exact HO_6.out⟩, ⟨by (with_reducible repeat (first | refine blk_drewN ?_ _ | refine blk_drew ?_ | refine blk_alloc ?_ _)); exact BK227.out⟩, ⟨by repeat (first | (with_reducible first | exact HB.out | apply below_alloc | apply pw_below_drewN | apply below_drew1 | refine below_set ?_ GE227.out) | exact HB.out)⟩⟩
             ·replace c35 := Bool.eq_false_iff.mpr c35
              subst c35
              have H1 : (if x6_1.length < 17592186044416 then (davitref08_Edge.l0 k2 a1 t228 (x6_1 ++ [x7_1]) (wrap64 (x7_1 + 1)) a0_0 a0_1 l0_2) else (none)) = some r := by rw [if_neg (show ¬ (false = true) by decide)] at H; exact H
              clear H
              have H := H1
              clear H1
              by_cases c36 : x6_1.length < 17592186044416
              ·rw [if_pos c36] at H
               have LMc36 := Aside0.mk c36
               clear c36
               obtain ⟨y236, hy236⟩ : ∃ y_ : List Int, y_ = (x6_1 ++ [x7_1]) := ⟨_, rfl⟩
               replace H : (davitref08_Edge.l0 k2 a1 t228 y236 (wrap64 (x7_1 + 1)) a0_0 a0_1 l0_2) = some r := by first | (rw [hy236]; with_reducible exact H) | (have H2_ := (Option.bind_some _ _).symm.trans H; rw [hy236]; with_reducible exact H2_) | (have H2_ := (Option.bind_some _ _).symm.trans H; with_reducible exact H2_) | with_reducible exact H | (rw [hy236]; exact H) | exact H
               have Ny236 := Aside0.mk hy236
               clear hy236
               have H' := Aside0.mk H
               clear H
               have p234 : 0 ≤ (a1 : Int) := of_decide_eq_true (by first | (with_reducible assumption) | assumption)
               have q234 : a1 < (t228.length : Int) := of_decide_eq_true (by first | (with_reducible assumption) | assumption)
               obtain ⟨ad234, A234_0, c234_0, e234, hx234_0, hl234_0, hi234_0⟩ := at_L12 (Kd.S_reads' HO_5.out).2.2 a1 p234 q234
               cases e234
               obtain ⟨ce234, hce234, hMe234, hcc234⟩ := Kd.S_get HO_5.out [] a1 p234 (by first | exact q234 | exact of_decide_eq_true (by first | (with_reducible assumption) | assumption) | (have e_ := (Kd.S_reads' HO_5.out).1; omega))
               obtain ⟨ve234_0, rfl, ge234_0⟩ := hMe234
               have hv234_0 := hcc234 0 _ rfl
               rw [Nat.add_zero, show ((Kd.slice 4 Kd.bool)).sz = 1 from rfl, Nat.mul_one] at hv234_0
               replace hv234_0 := Option.some.inj (hv234_0.symm.trans hx234_0)
               rw [hv234_0] at ge234_0
               have HL234_0 := Aside0.mk (show Kd.R Kd.bool 4 _ _ _ _ (rd_L12 t228 a1) from ge234_0)
               clear hv234_0 ge234_0
               clear hcc234 hce234
               have HR234_0 := Aside0.mk hi234_0
               have HC234_0 := Aside0.mk hl234_0
               clear hi234_0 hl234_0
               replace p234 := eq_true p234
               replace q234 := eq_true q234
               have p235 : 0 ≤ (x7_1 : Int) := of_decide_eq_true (by first | (with_reducible assumption) | assumption)
               have q235 : x7_1 < ((rd_L12 t228 a1).length : Int) := of_decide_eq_true (by first | (with_reducible assumption) | assumption)
               obtain ⟨ad235, e235, hx235_0⟩ := Kd.at_bool (by repeat (first | (with_reducible exact HR234_0.out) | (with_reducible refine Kd.C_alloc ?_ _) | (with_reducible refine Kd.C_drewN ?_ _) | (with_reducible refine Kd.C_drew ?_) | exact HR234_0.out)) x7_1 p235 q235
               (try rw [← Nbq34.out] at hx235_0)
               cases e235
               replace p235 := eq_true p235
               replace q235 := eq_true q235
               go_wp2_with (first | ((with_reducible refine gate_builtin (b := .append) (xs := #[.tmp 64, .tmp 66]) rfl ?_); (try (refine gate_guard (by rfl) ?_; dsimp only)); at_builtin; refine Kd.R_append (Kd.int .i64) (w0 := w) w.heap.size rfl (.tmp 64) (.tmp 66) 27 3 (.int .i64 0) 8 rfl Try.underlying27 info3 rfl (by decide) (by omega) u6 x6_1 x7_1 [.int .i64 x7_1] (fun _ => True) (fun _ => False) rfl rfl ?aP (fun _ hk => hk.elim) ?aF ?aO ?aB ?aS ?aL ?_; (case aP => exact rfl); (case aB => exact (by repeat (first | (with_reducible first | exact HB.out | apply below_alloc | apply pw_below_drewN | apply below_drew1 | refine below_set ?_ GE227.out) | exact HB.out))); (case aF => exact (fun _ _ => trivial)); (case aO => exact (by (with_reducible repeat (first | apply Kd.R_alloc | apply Kd.R_drewN | apply Kd.R_drew)); exact HO_6.out)); (case aS => exact (below_size (by repeat (first | (with_reducible first | exact HB.out | apply below_alloc | apply pw_below_drewN | apply below_drew1 | refine below_set ?_ GE227.out) | exact HB.out)))); (case aL => have := LMc36.out; omega); intro v237 w37 ho hb hg hat; rw [← Ny236.out] at ho; have n0_ := Aside0.mk (Kd.S_over' (by (with_reducible repeat (first | apply Kd.S_alloc | apply Kd.S_drewN | apply Kd.S_drew)); exact HO_5.out) (Kd.R_typed (by (with_reducible repeat (first | apply Kd.R_alloc | apply Kd.R_drewN | apply Kd.R_drew)); exact HO_6.out)) (by decide) hg); have n1_ := Aside0.mk (blk_grown (g := gb227) (o := .cells #[.int .i64 a0_0, .int .i64 a0_1, .slice A0_2 l0_2.length c0_2] 24 (0, 0)) (by (with_reducible repeat (first | refine blk_drewN ?_ _ | refine blk_drew ?_ | refine blk_alloc ?_ _)); exact BK227.out) hg (Kd.R_ne HO_6.out BK227.out (by decide))); have n2_ := Aside0.mk (Kd.R_over' (by (with_reducible repeat (first | apply Kd.R_alloc | apply Kd.R_drewN | apply Kd.R_drew)); exact HL234_0.out) (Kd.R_typed (by (with_reducible repeat (first | apply Kd.R_alloc | apply Kd.R_drewN | apply Kd.R_drew)); exact HO_6.out)) (by decide) hg); have n3_ := Aside0.mk (hb); have n4_ := Aside0.mk (ho); clear HO_5; clear BK227; clear HL234_0; clear HB; clear HO_6; have HO_5 := n0_; have BK227 := n1_; have HL234_0 := n2_; have HB := n3_; have HO238 := n4_; clear n0_ n1_ n2_ n3_ n4_; clear ho hb hg hat))
               go_roundg k2
               case measure => have := HK1.out; have := HK2.out; omega
               case rel => exact ⟨(y236), (wrap64 (x7_1 + 1)), (by first | rfl | (simp; done) | (simp [*]; done)), H', ⟨by have := HK1.out; have := HK2.out; omega⟩, ⟨by (with_reducible repeat (first | apply Kd.S_alloc | apply Kd.S_drewN | apply Kd.S_drew)); exact HO_5.out⟩, ⟨by (with_reducible repeat (first | apply Kd.R_alloc | apply Kd.R_drewN | apply Kd.R_drew)); exact HO238.out⟩, ⟨by (with_reducible repeat (first | refine blk_drewN ?_ _ | refine blk_drew ?_ | refine blk_alloc ?_ _)); exact BK227.out⟩, ⟨by repeat (first | (with_reducible first | exact HB.out | apply below_alloc | apply pw_below_drewN | apply below_drew1 | refine below_set ?_ GE227.out) | exact HB.out)⟩⟩
              ·rw [if_neg c36] at H
               exact absurd H (by simp)
            ·rw [if_neg c33] at H
             exact absurd H (by simp)
           ·rw [if_neg c32] at H
            exact absurd H (by simp)
          ·rw [if_neg c31] at H
           exact absurd H (by simp)
         ·rw [if_neg c30] at H
          exact absurd H (by simp)
       ·replace c26 := Bool.eq_false_iff.mpr c26
        subst c26
        have H1 : (davitref08_Edge.l0 k2 a1 t228 x6_1 (wrap64 (x7_1 + 1)) a0_0 a0_1 l0_2) = some r := by rw [if_neg (show ¬ (false = true) by decide)] at H; exact H
        clear H
        have H := H1
        clear H1
        have H' := Aside0.mk H
        clear H
        go_wp2
        go_roundg k2
        case measure => have := HK1.out; have := HK2.out; omega
        case rel => exact ⟨(x6_1), (wrap64 (x7_1 + 1)), (by first | rfl | (simp; done) | (simp [*]; done)), H', ⟨by have := HK1.out; have := HK2.out; omega⟩, ⟨by (with_reducible repeat (first | apply Kd.S_alloc | apply Kd.S_drewN | apply Kd.S_drew)); exact HO_5.out⟩, ⟨by (with_reducible repeat (first | apply Kd.R_alloc | apply Kd.R_drewN | apply Kd.R_drew)); exact HO_6.out⟩, ⟨by (with_reducible repeat (first | refine blk_drewN ?_ _ | refine blk_drew ?_ | refine blk_alloc ?_ _)); exact BK227.out⟩, ⟨by repeat (first | (with_reducible first | exact HB.out | apply below_alloc | apply pw_below_drewN | apply below_drew1 | refine below_set ?_ GE227.out) | exact HB.out)⟩⟩
   ·rw [if_neg c7] at H
    have c7b0 : decide (x7_1 < (t228.length : Int)) = false := decide_eq_false c7
    clear c7
    obtain rfl := Option.some.inj H
    obtain ⟨Ao38, co38, eo38⟩ := Kd.S_slice HO_5.out
    subst eo38
    go_wp2
    go_ret
    exact ⟨_, by first | rfl | (simp [errW_none, errW_some] <;> rfl) | (simp [*, errW_none, errW_some] <;> rfl), by (with_reducible repeat (first | apply Kd.R_alloc | apply Kd.R_drewN | apply Kd.R_drew)); exact HO_6.out, by repeat (first | (with_reducible first | exact HB.out | apply below_alloc | apply pw_below_drewN | apply below_drew1 | refine below_set ?_ GE227.out) | exact HB.out)⟩
end
end Go.Proofs.Ytilopoegoddggaa.X
namespace Go.Proofs.Ytilopoegoddggaa.X
open Go.RowKit Go.Proofs.YtilopoegoddggaaW.PrintWords Go.Proofs.YtilopoegoddggaaW.PrintLast Go.Proofs.YtilopoegoddggaaW.PrintMore
open Go.Proofs.Ytilopoegoddggaa.G
open Classical
set_option linter.all false
noncomputable def allT (bs : List S50) : List (List Bool) := (upTo bs.length).map fun a => lst (DD bs a) bs.length
theorem allT_len (bs : List S50) : (allT bs).length = bs.length := by simp [allT, upTo_len]
theorem allT_rd (bs : List S50) {a : Int} (h0 : 0 ≤ a) (h1 : a < bs.length) : rd_L12 (allT bs) a = lst (DD bs a) bs.length := by
 unfold rd_L12 allT
 rw [List.getD_eq_getElem?_getD, List.getElem?_map, upTo_get (show a.toNat < bs.length by omega)]
 simp only [Option.map_some, Option.getD_some]
 rw [show ((a.toNat : Nat) : Int) = a by omega]
section
variable {bs : List S50} (a0 a1 : Int)
theorem all_l1 (hl : bs.length ≤ 1000) (R : List (List Bool)) (out : List (List Bool)) (ho : out.length ≤ 1000) (a : Int) (ha : 0 ≤ a ∧ a < bs.length)
  (K : Evt (fun k => davitref08_All.l0 k (lst (RR bs) bs.length) (out ++ [lst (DD bs a) bs.length]) (a + 1) a0 a1 bs) R) :
  ∀ (d : Nat) (i : Int) (row : List Bool), 0 ≤ i → i + d = bs.length → row.length = bs.length → (∀ j : Int, 0 ≤ j → j < i → (rdOf false row j = true ↔ DD bs a j)) →
   Evt (fun k => davitref08_All.l1 k (lst (RR bs) bs.length) out a (lst (RW bs a) bs.length) row i a0 a1 bs) R
 | 0, i, row, h0, h1, hr, hj => by
  refine Evt.succ ?_
  simp only [davitref08_All.l1, if_neg (show ¬ i < (bs.length : Int) by omega), if_pos (show out.length < 5864062014805 by omega), wrap64_small (a + 1) (by omega) (by omega)]
  rw [show row = lst (DD bs a) bs.length from lst_eq hr fun j j0 j1 => hj j j0 (by omega)]
  exact K
 | d + 1, i, row, h0, h1, hr, hj => by
  have hi : i < (bs.length : Int) := by omega
  refine Evt.succ ?_
  have step : ∀ b : Bool, (b = true ↔ DD bs a i) → Evt (fun k => davitref08_All.l1 k (lst (RR bs) bs.length) out a (lst (RW bs a) bs.length) (row.set i.toNat b) (i + 1) a0 a1 bs) R := fun b hb => by
   refine all_l1 hl R out ho a ha K d (i + 1) _ (by omega) (by omega) (by rw [List.length_set]; exact hr) fun j j0 j1 => ?_
   rw [rdOf_set row i j b h0 (by omega) j0]
   by_cases e : j = i
   ·rw [if_pos e, e]; exact hb
   ·rw [if_neg e]; exact hj j j0 (by omega)
  simp only [davitref08_All.l1, if_pos hi, if_pos h0, lst_len, hr, lst_rd (RR bs) h0 hi, lst_rd (RW bs a) h0 hi, wrap64_small (i + 1) (by omega) (by omega)]
  by_cases hR : RR bs i
  ·simp only [decide_eq_true hR, if_pos]
   by_cases e : a = i
   ·simp only [if_pos e]
    exact step true ⟨fun _ => by rw [e]; exact Dom.refl (next_edges bs) hR, fun _ => rfl⟩
   ·simp only [if_neg e]
    refine step _ ?_
    by_cases hw : RW bs a i
    ·rw [decide_eq_true hw]
     exact ⟨fun h => (by simp at h), fun h => absurd hw (h.2.2.resolve_left e)⟩
    ·rw [decide_eq_false hw]
     exact ⟨fun _ => ⟨hR, by omega, .inr hw⟩, fun _ => rfl⟩
  ·simp only [decide_eq_false hR, if_neg Bool.false_ne_true]
   exact step false ⟨fun h => (by cases h), fun h => absurd h.1 hR⟩
theorem all_l0 (hl : bs.length ≤ 1000) : ∀ (d : Nat) (a : Int), 0 ≤ a → a + d = bs.length → Evt (fun k => davitref08_All.l0 k (lst (RR bs) bs.length) ((upTo a.toNat).map fun a => lst (DD bs a) bs.length) a a0 a1 bs) (allT bs)
 | 0, a, h0, h1 => by
  refine Evt.succ ?_
  simp only [davitref08_All.l0, if_neg (show ¬ a < (bs.length : Int) by omega)]
  rw [show a.toNat = bs.length by omega]
  exact Evt.pure _
 | d + 1, a, h0, h1 => by
  have ha : a < (bs.length : Int) := by omega
  refine Evt.succ ?_
  simp only [davitref08_All.l0, if_pos ha]
  refine Evt.bind (without_ev a0 a1 hl a) ?_
  simp only [if_pos (show 0 ≤ (bs.length : Int) by omega), Int.toNat_natCast, if_pos (show bs.length ≤ 281474976710656 by omega)]
  refine all_l1 a0 a1 hl _ _ (by simp [upTo_len]; omega) a ⟨h0, ha⟩ ?_ bs.length 0 _ (by omega) (by omega) (by simp) (fun j j0 j1 => by omega)
  have := all_l0 hl d (a + 1) (by omega) (by omega)
  rw [show (a + 1).toNat = a.toNat + 1 by omega, upTo_succ, List.map_append, List.map_cons, List.map_nil, show ((a.toNat : Nat) : Int) = a by omega] at this
  exact this
theorem refall_ev (hl : bs.length ≤ 1000) : Evt (fun k => davitref08_All.f k a0 a1 bs) (allT bs) := by
 unfold davitref08_All.f
 exact Evt.bind (refreached_ev a0 a1 hl) (all_l0 a0 a1 hl bs.length 0 (by omega) (by omega))
def IsNext (bs : List S50) (a b : Int) : Prop := a ≠ b ∧ DD bs a b ∧ ∀ c : Int, 0 ≤ c → c < bs.length → c ≠ b → DD bs c b → DD bs c a
theorem isNext_iff {r : List Int} {place o : Int → Int} (H : OverOk bs r place o) {a b : Int} : IsNext bs a b ↔ RR bs b ∧ b ≠ 0 ∧ a = o b := by
 constructor
 ·rintro ⟨h1, h2, h3⟩
  have hb := h2.1
  have b0 : b ≠ 0 := fun e => by subst e; exact h1 h2.at_zero
  refine ⟨hb, b0, ?_⟩
  obtain ⟨u1, u2, u3⟩ := H.tree.up b hb b0 (H.done b hb)
  have ho : Anc o (o b) b := .up b0 (.refl _)
  have hov := u1.inV (next_edges bs)
  have h4 := h3 (o b) hov.1 hov.2 (fun e => by rw [e] at u3; omega) ((H.anc _ b hb).1 ho)
  have h5 := ((H.anc a b hb).2 h2).cases_ne h1
  have hra : RR bs a := h4.1
  exact (H.tree.antisymm ((H.anc _ a hra).2 h4) h5.2 hra (H.done a hra)).symm
 ·rintro ⟨hb, b0, rfl⟩
  obtain ⟨u1, u2, u3⟩ := H.tree.up b hb b0 (H.done b hb)
  refine ⟨fun e => by rw [e] at u3; omega, (H.anc _ b hb).1 (.up b0 (.refl _)), fun c _ _ hc hd => ?_⟩
  exact (H.anc c _ u1).1 (((H.anc c b hb).2 hd).cases_ne hc).2
theorem rover_l2 (hl : bs.length ≤ 1000) (R : List Int) (out : List Int) (a b x6 : Int) (ha : 0 ≤ a ∧ a < bs.length) (hb : 0 ≤ b ∧ b < bs.length)
  (K : Evt (fun k => davitref08_Over.l1 k (allT bs) out b (if (∀ c : Int, 0 ≤ c → c < bs.length → c ≠ b → DD bs c b → DD bs c a) then a else x6) (a + 1)) R) :
  ∀ (d : Nat) (i : Int) (last : Bool), 0 ≤ i → i + d = bs.length → (last = true ↔ ∀ c : Int, 0 ≤ c → c < i → c ≠ b → DD bs c b → DD bs c a) → Evt (fun k => davitref08_Over.l2 k (allT bs) out b x6 a last i) R
 | 0, i, last, h0, h1, hx => by
  refine Evt.succ ?_
  have e : i = bs.length := by omega
  simp only [davitref08_Over.l2, allT_len, if_neg (show ¬ i < (bs.length : Int) by omega), wrap64_small (a + 1) (by omega) (by omega)]
  rw [e] at hx
  by_cases hc : last = true
  ·rw [if_pos (hx.1 hc)] at K
   simp only [if_pos hc]
   exact K
  ·rw [if_neg (fun h => hc (hx.2 h))] at K
   simp only [if_neg hc]
   exact K
 | d + 1, i, last, h0, h1, hx => by
  have hi : i < (bs.length : Int) := by omega
  refine Evt.succ ?_
  simp only [davitref08_Over.l2, allT_len, if_pos hi, if_pos h0, if_pos hb.1, allT_rd bs h0 hi, lst_len, if_pos hb.2, lst_rd _ hb.1 hb.2, lst_rd _ ha.1 ha.2, if_pos ha.1, if_pos ha.2, wrap64_small (i + 1) (by omega) (by omega)]
  by_cases e : i = b
  ·simp only [if_pos e]
   refine rover_l2 hl R out a b x6 ha hb K d (i + 1) last (by omega) (by omega) (hx.trans ⟨fun h c c0 c1 c2 => h c c0 (by omega) c2, fun h c c0 c1 => h c c0 (by omega)⟩)
  ·simp only [if_neg e]
   by_cases h2 : DD bs i b
   ·simp only [decide_eq_true h2, if_pos]
    by_cases h3 : DD bs i a
    ·simp only [decide_eq_true h3, if_pos]
     refine rover_l2 hl R out a b x6 ha hb K d (i + 1) last (by omega) (by omega) (hx.trans ⟨fun h c c0 c1 c2 c3 => ?_, fun h c c0 c1 => h c c0 (by omega)⟩)
     by_cases ec : c = i
     ·rw [ec]; exact h3
     ·exact h c c0 (by omega) c2 c3
    ·simp only [decide_eq_false h3, if_neg Bool.false_ne_true]
     exact rover_l2 hl R out a b x6 ha hb K d (i + 1) false (by omega) (by omega) ⟨fun h => (by cases h), fun h => absurd (h i h0 (by omega) e h2) h3⟩
   ·simp only [decide_eq_false h2, if_neg Bool.false_ne_true]
    refine rover_l2 hl R out a b x6 ha hb K d (i + 1) last (by omega) (by omega) (hx.trans ⟨fun h c c0 c1 c2 c3 => ?_, fun h c c0 c1 => h c c0 (by omega)⟩)
    by_cases ec : c = i
    ·rw [ec] at c3; exact absurd c3 h2
    ·exact h c c0 (by omega) c2 c3
theorem rover_l1 (hl : bs.length ≤ 1000) {r : List Int} {place o : Int → Int} (H : OverOk bs r place o) (R : List Int) (out : List Int) (hout : out.length ≤ 1000) (b : Int) (hb : 0 ≤ b ∧ b < bs.length)
  (K : Evt (fun k => davitref08_Over.l0 k (allT bs) (out ++ [rd r b]) (b + 1)) R) :
  ∀ (d : Nat) (i : Int) (x6 : Int), 0 ≤ i → i + d = bs.length → ((x6 = -1 ∧ ∀ a : Int, 0 ≤ a → a < i → ¬ IsNext bs a b) ∨ IsNext bs x6 b) → Evt (fun k => davitref08_Over.l1 k (allT bs) out b x6 i) R
 | 0, i, x6, h0, h1, hx => by
  refine Evt.succ ?_
  simp only [davitref08_Over.l1, allT_len, if_neg (show ¬ i < (bs.length : Int) by omega), if_pos (show out.length < 17592186044416 by omega), wrap64_small (b + 1) (by omega) (by omega)]
  have : x6 = rd r b := by
   rw [H.rd b hb.1 hb.2]
   rcases hx with ⟨hx, hn⟩ | hx
   ·by_cases b0 : b = 0
    ·rw [if_pos b0, hx]
    ·rw [if_neg b0]
     by_cases hR : RR bs b
     ·have hv := (H.tree.up b hR b0 (H.done b hR)).1.inV (next_edges bs)
      exact absurd ((isNext_iff H).2 ⟨hR, b0, rfl⟩) (hn (o b) hv.1 (by omega))
     ·rw [hx, H.tree.neg b hb.1 hb.2 hR]
   ·obtain ⟨q1, q2, q3⟩ := (isNext_iff H).1 hx
    rw [if_neg q2]; exact q3
  rw [this]
  exact K
 | d + 1, i, x6, h0, h1, hx => by
  have hi : i < (bs.length : Int) := by omega
  have skip : ¬ IsNext bs i b → Evt (fun k => davitref08_Over.l1 k (allT bs) out b x6 (i + 1)) R := fun hn => by
   refine rover_l1 hl H R out hout b hb K d (i + 1) x6 (by omega) (by omega) (hx.imp (fun h => ⟨h.1, fun a a0 a1 => ?_⟩) id)
   by_cases e : a = i
   ·rw [e]; exact hn
   ·exact h.2 a a0 (by omega)
  refine Evt.succ ?_
  simp only [davitref08_Over.l1, allT_len, if_pos hi, if_pos h0, if_pos hb.1, allT_rd bs h0 hi, lst_len, if_pos hb.2, lst_rd _ hb.1 hb.2]
  by_cases e : i = b
  ·simp only [if_pos e]
   refine Evt.succ ?_
   simp only [davitref08_Over.j2, if_pos, wrap64_small (i + 1) (by omega) (by omega)]
   exact skip fun h => h.1 e
  ·simp only [if_neg e]
   refine Evt.succ ?_
   by_cases h2 : DD bs i b
   ·simp only [davitref08_Over.j2, decide_eq_true h2, Bool.not_true, if_neg Bool.false_ne_true]
    refine rover_l2 hl R out i b x6 ⟨h0, hi⟩ hb ?_ bs.length 0 true (by omega) (by omega) ⟨fun _ c c0 c1 => by omega, fun _ => rfl⟩
    by_cases h3 : ∀ c : Int, 0 ≤ c → c < bs.length → c ≠ b → DD bs c b → DD bs c i
    ·rw [if_pos h3]
     exact rover_l1 hl H R out hout b hb K d (i + 1) i (by omega) (by omega) (.inr ⟨e, h2, h3⟩)
    ·rw [if_neg h3]
     exact skip fun h => h3 h.2.2
   ·simp only [davitref08_Over.j2, decide_eq_false h2, Bool.not_false, if_pos, wrap64_small (i + 1) (by omega) (by omega)]
    exact skip fun h => h2 h.2.1
theorem rover_l0 (hl : bs.length ≤ 1000) {r : List Int} {place o : Int → Int} (H : OverOk bs r place o) : ∀ (d : Nat) (b : Int), 0 ≤ b → b + d = bs.length → Evt (fun k => davitref08_Over.l0 k (allT bs) (r.take b.toNat) b) r
 | 0, b, h0, h1 => by
  refine Evt.succ ?_
  simp only [davitref08_Over.l0, allT_len, if_neg (show ¬ b < (bs.length : Int) by omega)]
  rw [List.take_of_length_le (by have := H.len; omega)]
  exact Evt.pure _
 | d + 1, b, h0, h1 => by
  have hb : b < (bs.length : Int) := by omega
  refine Evt.succ ?_
  simp only [davitref08_Over.l0, allT_len, if_pos hb]
  refine rover_l1 hl H r _ (by have := H.len; simp; omega) b ⟨h0, hb⟩ ?_ bs.length 0 (-1) (by omega) (by omega) (.inl ⟨rfl, fun a a0 a1 => by omega⟩)
  have := rover_l0 hl H d (b + 1) (by omega) (by omega)
  rw [show (b + 1).toNat = b.toNat + 1 by omega, take_one r b.toNat 0 (by have := H.len; omega)] at this
  exact this
theorem refover_ev (hl : bs.length ≤ 1000) {r : List Int} {place o : Int → Int} (H : OverOk bs r place o) : Evt (fun k => davitref08_Over.f k a0 a1 bs) r := by
 unfold davitref08_Over.f
 exact Evt.bind (refall_ev a0 a1 hl) (by simpa using rover_l0 hl H bs.length 0 (by omega) (by omega))
end
end Go.Proofs.Ytilopoegoddggaa.X
namespace Go.Proofs.Ytilopoegoddggaa.X
open Go.RowKit Go.Proofs.YtilopoegoddggaaW.PrintWords Go.Proofs.YtilopoegoddggaaW.PrintLast Go.Proofs.YtilopoegoddggaaW.PrintMore
open Go.Proofs.Ytilopoegoddggaa.G
open Classical
set_option linter.all false
theorem strict_ext : ∀ (l l' : List Int), l.Pairwise (· < ·) → l'.Pairwise (· < ·) → (∀ x, x ∈ l ↔ x ∈ l') → l = l'
 | [], [], _, _, _ => rfl
 | [], y :: l', _, _, h => absurd ((h y).2 (List.mem_cons_self ..)) (by simp)
 | x :: l, [], _, _, h => absurd ((h x).1 (List.mem_cons_self ..)) (by simp)
 | x :: l, y :: l', h1, h2, h => by
  obtain ⟨a1, a2⟩ := List.pairwise_cons.1 h1
  obtain ⟨b1, b2⟩ := List.pairwise_cons.1 h2
  have e : x = y := by
   rcases List.mem_cons.1 ((h x).1 (List.mem_cons_self ..)) with e | e
   ·exact e
   ·rcases List.mem_cons.1 ((h y).2 (List.mem_cons_self ..)) with e' | e'
    ·exact e'.symm
    ·have := a1 y e'; have := b1 x e; omega
  subst e
  congr 1
  refine strict_ext l l' a2 b2 fun z => ⟨fun hz => ?_, fun hz => ?_⟩
  ·rcases List.mem_cons.1 ((h z).1 (List.mem_cons_of_mem _ hz)) with e | e
   ·have := a1 z hz; omega
   ·exact e
  ·rcases List.mem_cons.1 ((h z).2 (List.mem_cons_of_mem _ hz)) with e | e
   ·have := b1 z hz; omega
   ·exact e
theorem upTo_strict : ∀ n, (upTo n).Pairwise (· < ·)
 | 0 => by simp [upTo]
 | n + 1 => by
  rw [upTo_succ]
  refine List.pairwise_append.2 ⟨upTo_strict n, by simp, fun a ha b hb => ?_⟩
  rw [List.mem_singleton.1 hb]
  exact (mem_upTo.1 ha).2
theorem compact_up (d : Array Int) (hs : ∀ i j, i ≤ j → j < d.size → d[i]! ≤ d[j]!) : ∀ m, m ≤ d.size →
  (Lib.compactUpTo d m).Pairwise (· < ·) ∧ (∀ x ∈ Lib.compactUpTo d m, ∃ j, j < m ∧ x = d[j]!) ∧ (∀ j, j < m → d[j]! ∈ Lib.compactUpTo d m)
 | 0, _ => by simp [Lib.compactUpTo]
 | m + 1, hm => by
  obtain ⟨h1, h2, h3⟩ := compact_up d hs m (by omega)
  rw [Lib.compactUpTo_succ]
  by_cases hk : Lib.keeps d m = true
  ·rw [if_pos hk]
   refine ⟨List.pairwise_append.2 ⟨h1, by simp, fun a ha b hb => ?_⟩, fun x hx => ?_, fun j hj => ?_⟩
   ·rw [List.mem_singleton.1 hb]
    obtain ⟨j, hj, rfl⟩ := h2 a ha
    have q1 := hs j (m - 1) (by omega) (by omega)
    have q2 := hs (m - 1) m (by omega) (by omega)
    have q3 : d[m]! ≠ d[m - 1]! := by
     intro e
     rw [Lib.keeps_neg (by omega) e] at hk
     cases hk
    omega
   ·rcases List.mem_append.1 hx with hx | hx
    ·obtain ⟨j, hj, e⟩ := h2 x hx
     exact ⟨j, by omega, e⟩
    ·exact ⟨m, by omega, List.mem_singleton.1 hx⟩
   ·by_cases e : j = m
    ·exact List.mem_append_right _ (by rw [e]; simp)
    ·exact List.mem_append_left _ (h3 j (by omega))
  ·rw [if_neg hk, List.append_nil]
   refine ⟨h1, fun x hx => ?_, fun j hj => ?_⟩
   ·obtain ⟨j, hj, e⟩ := h2 x hx
    exact ⟨j, by omega, e⟩
   ·by_cases e : j = m
    ·subst e
     have q : j ≠ 0 ∧ d[j]! = d[j - 1]! := by
      unfold Lib.keeps at hk
      simpa using hk
     rw [q.2]
     exact h3 (j - 1) (by omega)
    ·exact h3 j (by omega)
theorem sorted_compact (l : List Int) : (Lib.compact (l.mergeSort fun x y => decide (x ≤ y))).Pairwise (· < ·) ∧ ∀ x, x ∈ Lib.compact (l.mergeSort fun x y => decide (x ≤ y)) ↔ x ∈ l := by
 have hp := List.pairwise_mergeSort (le := fun x y : Int => decide (x ≤ y)) (fun a b c h1 h2 => by simp at h1 h2 ⊢; omega) (fun a b => by simp; omega) l
 generalize hz : (l.mergeSort fun x y => decide (x ≤ y)) = zs at hp ⊢
 have hm : ∀ x, x ∈ zs ↔ x ∈ l := fun x => by rw [← hz]; exact List.mem_mergeSort
 have hget : ∀ j (h : j < zs.length), zs.toArray[j]! = zs[j] := fun j h => by simp [getElem!_pos, h]
 have hs : ∀ i j, i ≤ j → j < zs.toArray.size → zs.toArray[i]! ≤ zs.toArray[j]! := fun i j hij hj => by
  have hj' : j < zs.length := by simpa using hj
  rw [hget j hj', hget i (by omega)]
  by_cases e : i = j
  ·subst e; exact Int.le_refl _
  ·have := List.pairwise_iff_getElem.1 hp i j (by omega) hj' (by omega)
   simpa using this
 obtain ⟨h1, h2, h3⟩ := compact_up zs.toArray hs zs.length (by simp)
 refine ⟨h1, fun x => (⟨fun hx => ?_, fun hx => ?_⟩ : _ ↔ x ∈ zs).trans (hm x)⟩
 ·obtain ⟨j, hj, rfl⟩ := h2 x hx
  rw [hget j hj]; exact List.getElem_mem hj
 ·obtain ⟨j, hj, rfl⟩ := List.getElem_of_mem hx
  have := h3 j hj
  rw [hget j hj] at this
  exact this
section
variable {bs : List S50} (a0 a1 : Int)
def IsEdge (bs : List S50) (n k : Int) : Prop := (∃ b, DD bs n b ∧ k ∈ nextL bs b) ∧ (k = n ∨ ¬ DD bs n k)
noncomputable def edgeL (bs : List S50) (n : Int) : List Int := (upTo bs.length).filter fun k => decide (IsEdge bs n k)
theorem mem_edge {n k : Int} : k ∈ edgeL bs n ↔ IsEdge bs n k := by
 unfold edgeL
 rw [List.mem_filter, mem_upTo, decide_eq_true_eq]
 exact ⟨fun h => h.2, fun h => ⟨by obtain ⟨b, _, hb⟩ := h.1; exact (next_edges bs _ _ hb).2, h⟩⟩
theorem edge_len (n : Int) : (edgeL bs n).length ≤ bs.length := by
 unfold edgeL
 exact Nat.le_trans (List.length_filter_le _ _) (by rw [upTo_len]; exact Nat.le_refl _)
theorem redge_l1 (hl : bs.length ≤ 1000) (n : Int) (R : List Int) (out : List Int) (hout : out.length ≤ 1000) (k : Int) (hk : 0 ≤ k ∧ k < bs.length)
  (K : Evt (fun f => davitref08_Edge.l0 f n (allT bs) (out ++ (if IsEdge bs n k then [k] else [])) (k + 1) a0 a1 bs) R) :
  ∀ (d : Nat) (i : Int) (found : Bool), 0 ≤ i → i + d = bs.length → (found = true ↔ ∃ b, b < i ∧ DD bs n b ∧ k ∈ nextL bs b) → Evt (fun f => davitref08_Edge.l1 f n (allT bs) out k found i a0 a1 bs) R
 | 0, i, found, h0, h1, hx => by
  have hw := wrap64_small (k + 1) (by omega) (by omega)
  have hE : found = true ↔ ∃ b, DD bs n b ∧ k ∈ nextL bs b := hx.trans ⟨fun ⟨b, _, h⟩ => ⟨b, h⟩, fun ⟨b, h⟩ => ⟨b, by have := (next_edges bs _ _ h.2).1; omega, h⟩⟩
  refine Evt.succ ?_
  simp only [davitref08_Edge.l1, allT_len, if_neg (show ¬ i < (bs.length : Int) by omega), hw, if_pos (show out.length < 17592186044416 by omega)]
  cases hf : found with
  | false =>
   simp only [if_neg Bool.false_ne_true]
   rw [if_neg (fun h => by rw [hE.2 h.1] at hf; cases hf), List.append_nil] at K
   exact K
  | true =>
   have hb := hE.1 hf
   obtain ⟨b, hb1, hb2⟩ := hb
   have hn := hb1.2.1
   simp only [if_pos]
   by_cases e : k = n
   ·simp only [if_pos e]
    rw [if_pos (show IsEdge bs n k from ⟨⟨b, hb1, hb2⟩, .inl e⟩)] at K
    exact K
   ·simp only [if_neg e, if_pos hn.1, if_pos hn.2, if_pos hk.1, allT_rd bs hn.1 hn.2, lst_len, if_pos hk.2, lst_rd _ hk.1 hk.2]
    by_cases h2 : DD bs n k
    ·simp only [decide_eq_true h2, if_pos]
     rw [if_neg (fun h => h.2.elim e (fun h => h h2)), List.append_nil] at K
     exact K
    ·simp only [decide_eq_false h2, if_neg Bool.false_ne_true]
     rw [if_pos (show IsEdge bs n k from ⟨⟨b, hb1, hb2⟩, .inr h2⟩)] at K
     exact K
 | d + 1, i, found, h0, h1, hx => by
  have hi : i < (bs.length : Int) := by omega
  have hw := wrap64_small (i + 1) (by omega) (by omega)
  have skip : ¬ (DD bs n i ∧ k ∈ nextL bs i) → Evt (fun f => davitref08_Edge.l1 f n (allT bs) out k found (i + 1) a0 a1 bs) R := fun hn =>
   redge_l1 hl n R out hout k hk K d (i + 1) found (by omega) (by omega) (hx.trans ⟨fun ⟨b, q, h⟩ => ⟨b, by omega, h⟩, fun ⟨b, q, h⟩ => ⟨b, by
    have : b ≠ i := fun e => hn (e ▸ h)
    omega, h⟩⟩)
  refine Evt.succ ?_
  simp only [davitref08_Edge.l1, allT_len, if_pos hi, hw]
  by_cases n0 : n ≥ 0
  ·by_cases n1 : n < (bs.length : Int)
   ·simp only [if_pos n0, if_pos n1, if_pos (show 0 ≤ n from n0), if_pos h0, allT_rd bs n0 n1, lst_len, if_pos hi, lst_rd _ h0 hi]
    by_cases h2 : DD bs n i
    ·simp only [decide_eq_true h2, if_pos]
     refine Evt.bind (refnext_ev a0 a1 bs i) (Evt.bind (has_ev _ _ (by have := next_len bs i; omega)) ?_)
     by_cases h3 : k ∈ nextL bs i
     ·simp only [decide_eq_true h3, if_pos]
      exact redge_l1 hl n R out hout k hk K d (i + 1) true (by omega) (by omega) ⟨fun _ => ⟨i, by omega, h2, h3⟩, fun _ => rfl⟩
     ·simp only [decide_eq_false h3, if_neg Bool.false_ne_true]
      exact skip fun h => h3 h.2
    ·simp only [decide_eq_false h2, if_neg Bool.false_ne_true]
     exact skip fun h => h2 h.1
   ·simp only [if_pos n0, if_neg n1]
    exact skip fun h => n1 h.1.2.1.2
  ·simp only [if_neg n0]
   exact skip fun h => n0 h.1.2.1.1
theorem redge_l0 (hl : bs.length ≤ 1000) (n : Int) : ∀ (d : Nat) (k : Int), 0 ≤ k → k + d = bs.length → Evt (fun f => davitref08_Edge.l0 f n (allT bs) ((upTo k.toNat).filter fun k => decide (IsEdge bs n k)) k a0 a1 bs) (edgeL bs n)
 | 0, k, h0, h1 => by
  refine Evt.succ ?_
  simp only [davitref08_Edge.l0, allT_len, if_neg (show ¬ k < (bs.length : Int) by omega)]
  rw [show k.toNat = bs.length by omega]
  exact Evt.pure _
 | d + 1, k, h0, h1 => by
  have hk : k < (bs.length : Int) := by omega
  refine Evt.succ ?_
  simp only [davitref08_Edge.l0, allT_len, if_pos hk]
  refine redge_l1 a0 a1 hl n _ _ (Nat.le_trans (List.length_filter_le _ _) (by rw [upTo_len]; omega)) k ⟨h0, hk⟩ ?_ bs.length 0 false (by omega) (by omega) ⟨fun h => (by cases h), fun ⟨b, q, h, h'⟩ => by have := (next_edges bs _ _ h').1; omega⟩
  have := redge_l0 hl n d (k + 1) (by omega) (by omega)
  rw [show (k + 1).toNat = k.toNat + 1 by omega, upTo_succ, List.filter_append, show ((k.toNat : Nat) : Int) = k by omega] at this
  rw [show (if IsEdge bs n k then [k] else []) = List.filter (fun k => decide (IsEdge bs n k)) [k] by
   by_cases h : IsEdge bs n k <;> simp [h]]
  exact this
theorem refedge_ev (hl : bs.length ≤ 1000) (n : Int) : Evt (fun f => davitref08_Edge.f f a0 a1 bs n) (edgeL bs n) := by
 unfold davitref08_Edge.f
 exact Evt.bind (refall_ev a0 a1 hl) (redge_l0 a0 a1 hl n bs.length 0 (by omega) (by omega))
theorem edge_l1 (hl : bs.length ≤ 1000) (n : Int) (R : List Int) (b : Int) (hb : 0 ≤ b ∧ b < bs.length)
  (K : ∀ out, out.length ≤ 3 * (b.toNat + 1) → (∀ k, k ∈ out ↔ (∃ x, x < b + 1 ∧ DD bs n x ∧ k ∈ nextL bs x) ∧ (k = n ∨ ¬ DD bs n k)) → Evt (fun f => dom_Edge.l0 f n out bs.length (b + 1) a0 a1 bs) R) (hd : DD bs n b) :
  ∀ (d : Nat) (i : Int) (out : List Int), 0 ≤ i → i + d = (nextL bs b).length → out.length ≤ 3 * b.toNat + i.toNat →
   (∀ k, k ∈ out ↔ ((∃ x, x < b ∧ DD bs n x ∧ k ∈ nextL bs x) ∨ k ∈ (nextL bs b).take i.toNat) ∧ (k = n ∨ ¬ DD bs n k)) → Evt (fun f => dom_Edge.l1 f n out bs.length b (nextL bs b) (nextL bs b).length i a0 a1 bs) R
 | 0, i, out, h0, h1, ho, hx => by
  have h3 := next_len bs b
  refine Evt.succ ?_
  simp only [dom_Edge.l1, if_neg (show ¬ i < ((nextL bs b).length : Int) by omega), wrap64_small (b + 1) (by omega) (by omega)]
  refine K out (by omega) fun k => (hx k).trans (and_congr_left fun _ => ?_)
  rw [List.take_of_length_le (by omega)]
  constructor
  ·rintro (⟨x, q, h⟩ | h)
   ·exact ⟨x, by omega, h⟩
   ·exact ⟨b, by omega, hd, h⟩
  ·rintro ⟨x, q, h⟩
   by_cases e : x = b
   ·exact .inr (e ▸ h.2)
   ·exact .inl ⟨x, by omega, h⟩
 | d + 1, i, out, h0, h1, ho, hx => by
  have h3 := next_len bs b
  have hi : i < ((nextL bs b).length : Int) := by omega
  have hw := wrap64_small (i + 1) (by omega) (by omega)
  have htk : (nextL bs b).take (i + 1).toNat = (nextL bs b).take i.toNat ++ [rd (nextL bs b) i] := by
   rw [show (i + 1).toNat = i.toNat + 1 by omega]
   exact take_one _ _ 0 (by omega)
  have add : (rd (nextL bs b) i = n ∨ ¬ DD bs n (rd (nextL bs b) i)) → Evt (fun f => dom_Edge.l1 f n (out ++ [rd (nextL bs b) i]) bs.length b (nextL bs b) (nextL bs b).length (i + 1) a0 a1 bs) R := fun hq => by
   refine edge_l1 hl n R b hb K hd d (i + 1) _ (by omega) (by omega) (by simp; omega) fun k => ?_
   rw [List.mem_append, hx k, htk, List.mem_append, List.mem_singleton]
   constructor
   ·rintro (⟨h, h'⟩ | h)
    ·exact ⟨h.imp id .inl, h'⟩
    ·exact ⟨.inr (.inr h), by rw [h]; exact hq⟩
   ·rintro ⟨h | h | h, h'⟩
    ·exact .inl ⟨.inl h, h'⟩
    ·exact .inl ⟨.inr h, h'⟩
    ·exact .inr h
  refine Evt.succ ?_
  simp only [dom_Edge.l1, if_pos hi, if_pos h0, hw, if_pos (show out.length < 17592186044416 by omega)]
  by_cases e : rd (nextL bs b) i = n
  ·simp only [if_pos e]
   have := add (.inl e)
   exact this
  ·simp only [if_neg e]
   refine Evt.bind (is_ev a0 a1 bs hl n (rd (nextL bs b) i)) ?_
   by_cases h2 : DD bs n (rd (nextL bs b) i)
   ·simp only [decide_eq_true h2, if_pos]
    refine edge_l1 hl n R b hb K hd d (i + 1) _ (by omega) (by omega) (by omega) fun k => ?_
    rw [hx k, htk, List.mem_append, List.mem_singleton]
    constructor
    ·rintro ⟨h, h'⟩
     exact ⟨h.imp id .inl, h'⟩
    ·rintro ⟨h | h | h, h'⟩
     ·exact ⟨.inl h, h'⟩
     ·exact ⟨.inr h, h'⟩
     ·rw [h] at h'; exact absurd h' (by simp [e, h2])
   ·simp only [decide_eq_false h2, if_neg Bool.false_ne_true]
    exact add (.inr h2)
theorem edge_l0 (hl : bs.length ≤ 1000) (n : Int) : ∀ (d : Nat) (b : Int) (out : List Int), 0 ≤ b → b + d = bs.length → out.length ≤ 3 * b.toNat → (∀ k, k ∈ out ↔ (∃ x, x < b ∧ DD bs n x ∧ k ∈ nextL bs x) ∧ (k = n ∨ ¬ DD bs n k)) →
  Evt (fun f => dom_Edge.l0 f n out bs.length b a0 a1 bs) (edgeL bs n)
 | 0, b, out, h0, h1, ho, hx => by
  refine Evt.succ ?_
  simp only [dom_Edge.l0, if_neg (show ¬ b < (bs.length : Int) by omega), slices_Sort_int_int.f, slices_Compact_int_int.f, if_pos (show out.length ≤ 1000000 by omega), Option.bind_some, List.length_mergeSort]
  obtain ⟨c1, c2⟩ := sorted_compact out
  rw [show edgeL bs n = Lib.compact (out.mergeSort fun x y => decide (x ≤ y)) from strict_ext _ _ ((upTo_strict _).filter _) c1 fun k => by
   rw [mem_edge, c2 k, hx k]
   exact and_congr_left fun _ => ⟨fun ⟨b', h⟩ => ⟨b', by have := (next_edges bs _ _ h.2).1; omega, h⟩, fun ⟨b', _, h⟩ => ⟨b', h⟩⟩]
  exact Evt.pure _
 | d + 1, b, out, h0, h1, ho, hx => by
  have hb : b < (bs.length : Int) := by omega
  refine Evt.succ ?_
  simp only [dom_Edge.l0, if_pos hb, flow_Next.f, Option.bind_some, wrap64_small (b + 1) (by omega) (by omega)]
  refine Evt.bind (is_ev a0 a1 bs hl n b) ?_
  by_cases h2 : DD bs n b
  ·simp only [decide_eq_true h2, if_pos]
   exact edge_l1 a0 a1 hl n _ b ⟨h0, hb⟩ (fun out' q1 q2 => edge_l0 hl n d (b + 1) out' (by omega) (by omega) (by omega) q2) h2 _ 0 out (by omega) (by rw [Int.zero_add]) (by omega) (fun k => by rw [hx k]; simp)
  ·simp only [decide_eq_false h2, if_neg Bool.false_ne_true]
   refine edge_l0 hl n d (b + 1) out (by omega) (by omega) (by omega) fun k => (hx k).trans (and_congr_left fun _ => ⟨fun ⟨x, q, h⟩ => ⟨x, by omega, h⟩, fun ⟨x, q, h⟩ => ⟨x, ?_, h⟩⟩)
   have : x ≠ b := fun e => h2 (e ▸ h.1)
   omega
theorem edge_ev (hl : bs.length ≤ 1000) (n : Int) : Evt (fun f => dom_Edge.f f a0 a1 bs n) (edgeL bs n) := by
 unfold dom_Edge.f
 exact edge_l0 a0 a1 hl n bs.length 0 [] (by omega) (by omega) (by simp) fun k => ⟨fun h => (by simp at h), fun ⟨⟨x, q, h⟩, _⟩ => by have := (next_edges bs _ _ h.2).1; omega⟩
end
end Go.Proofs.Ytilopoegoddggaa.X
namespace Go.Proofs.Ytilopoegoddggaa.X
open Go.RowKit Go.Proofs.YtilopoegoddggaaW.PrintWords Go.Proofs.YtilopoegoddggaaW.PrintLast Go.Proofs.YtilopoegoddggaaW.PrintMore
open Go.Proofs.Ytilopoegoddggaa.G
open Classical
set_option linter.all false
theorem Evt.at {α : Type} {g : Nat → Option α} {r q : α} (h : Evt g r) (hm : ∀ k, LeO (g k) (g (k + 1))) {k : Nat} (hq : g k = some q) : r = q := by
 obtain ⟨K, hK⟩ := h
 have h1 := more_rounds hm k (K - k) q hq
 by_cases hk : K ≤ k
 ·rw [hK k hk] at hq; exact Option.some.inj hq
 ·rw [hK (k + (K - k)) (by omega)] at h1
  exact Option.some.inj h1
theorem over0 (a0 a1 : Int) (bs : List S50) (h : bs.length = 0) : dom_Over.f a0 a1 bs = some [] ∧ Evt (fun k => davitref08_Over.f k a0 a1 bs) [] := by
 have hb : bs = [] := List.eq_nil_of_length_eq_zero h
 subst hb
 refine ⟨?_, ?_⟩
 ·unfold dom_Over.f
  rw [if_pos (by simp)]
  exact anyK_ev ⟨0, fun k _ => rfl⟩ (grownO_mono a0 a1 [])
 ·unfold davitref08_Over.f
  refine Evt.bind (refall_ev a0 a1 (bs := []) (by simp)) ?_
  refine Evt.succ ?_
  simp only [davitref08_Over.l0, allT_len, if_neg (show ¬ (0 : Int) < (([] : List S50).length : Int) by simp)]
  exact Evt.pure _
theorem over_both (a0 a1 : Int) (bs : List S50) (hl : bs.length ≤ 1000) : ∃ r, dom_Over.f a0 a1 bs = some r ∧ r.length = bs.length ∧ Evt (fun k => davitref08_Over.f k a0 a1 bs) r := by
 by_cases h : bs.length = 0
 ·exact ⟨[], (over0 a0 a1 bs h).1, by simp [h], (over0 a0 a1 bs h).2⟩
 ·obtain ⟨r, place, o, e, H⟩ := over_ok a0 a1 bs hl (by omega)
  exact ⟨r, e, H.len, refover_ev a0 a1 hl H⟩
def wakeB : List S50 := [(⟨false, (⟨0, ([] : List Int), false, false⟩ : S47), ([] : List (S117)), (⟨3, 0, 0, 0, ([] : List Int), 1, 2, 0⟩ : S44)⟩ : S50), (⟨false, (⟨0, ([] : List Int), false, false⟩ : S47), ([] : List (S117)), (⟨2, 0, 0, 0, ([] : List Int), 3, 0, 0⟩ : S44)⟩ : S50), (⟨false, (⟨0, ([] : List Int), false, false⟩ : S47), ([] : List (S117)), (⟨2, 0, 0, 0, ([] : List Int), 3, 0, 0⟩ : S44)⟩ : S50), (⟨false, (⟨0, ([] : List Int), false, false⟩ : S47), ([] : List (S117)), (⟨1, 0, 0, 0, ([] : List Int), 0, 0, 0⟩ : S44)⟩ : S50)]
set_option maxRecDepth 100000 in
theorem wake_over : davitref08_Over.f 200 0 1 wakeB = some [-1, 0, 0, 0] := by kernel_rfl
set_option maxRecDepth 100000 in
theorem wake_edge : davitref08_Edge.f 200 0 1 wakeB 1 = some [3] := by kernel_rfl
set_option maxRecDepth 100000 in
theorem wake_is : davitref08_Is.f 200 0 1 wakeB 0 3 = some true ∧ davitref08_Is.f 200 0 1 wakeB 1 3 = some false := ⟨by kernel_rfl, by kernel_rfl⟩
theorem awake08 : Evt (fun k => davitlaw08_awake.f k) true := by
 have hl : wakeB.length ≤ 1000 := by decide
 have hl4 : wakeB.length = 4 := rfl
 obtain ⟨r, e, hr, hr2⟩ := over_both 0 1 wakeB hl
 obtain rfl := Evt.at hr2 (davitref08_Over.mono _ _ _) wake_over
 have he := Evt.at (refedge_ev 0 1 hl 1) (davitref08_Edge.mono _ _ _ _) wake_edge
 have hi1 := Evt.at (refis_ev 0 1 hl 0 3) (davitref08_Is.mono _ _ _ _ _) wake_is.1
 have hi2 := Evt.at (refis_ev 0 1 hl 1 3) (davitref08_Is.mono _ _ _ _ _) wake_is.2
 unfold davitlaw08_awake.f
 simp only [Option.bind_some]
 change Evt (fun k => (dom_Over.f 0 1 wakeB).bind fun t134 => ((davitref02_Ints.f k t134 (([(-1), 0, 0, 0] : List Int))).bind fun t140 => (if t140 = true then ((dom_Edge.f k 0 1 wakeB 1).bind fun t141 => ((davitref02_Ints.f k t141 (([3] : List Int))).bind fun t147 => (if t147 = true then ((dom_Is.f k 0 1 wakeB 0 3).bind fun t148 => (if t148 = true then ((dom_Is.f k 0 1 wakeB 1 3).bind fun t149 => (some (!t149))) else (some false))) else (some false)))) else (some false)))) true
 simp only [e, Option.bind_some]
 refine Evt.bind (ints_ev _ _ (by simp)) ?_
 simp only [decide_true, if_pos]
 refine Evt.bind (edge_ev 0 1 hl 1) ?_
 rw [he]
 refine Evt.bind (ints_ev _ _ (by simp)) ?_
 simp only [decide_true, if_pos]
 refine Evt.bind (is_ev 0 1 wakeB hl 0 3) ?_
 rw [hi1]
 simp only [if_pos]
 refine Evt.bind (is_ev 0 1 wakeB hl 1 3) ?_
 rw [hi2]
 exact Evt.pure _
end Go.Proofs.Ytilopoegoddggaa.X
namespace Go.Proofs.Ytilopoegoddggaa.X
open Go.RowKit Go.Proofs.YtilopoegoddggaaW.PrintWords Go.Proofs.YtilopoegoddggaaW.PrintLast Go.Proofs.YtilopoegoddggaaW.PrintMore
open Go.Proofs.Ytilopoegoddggaa.G
open Classical
set_option linter.all false
section
variable {bs : List S50} (a0 a1 : Int)
theorem over_sign {r : List Int} {place o : Int → Int} (H : OverOk bs r place o) {n : Int} (h0 : 0 ≤ n) (h1 : n < bs.length) : 0 ≤ rd r n ↔ RR bs n ∧ n ≠ 0 := by
 rw [H.rd n h0 h1]
 by_cases e : n = 0
 ·rw [if_pos e]; exact ⟨fun h => by omega, fun h => absurd e h.2⟩
 ·rw [if_neg e]
  refine ⟨fun h => ⟨?_, e⟩, fun h => H.done n h.1⟩
  by_cases hR : RR bs n
  ·exact hR
  ·have := H.tree.neg n h0 h1 hR; omega
theorem edges_l2 (hl : bs.length ≤ 1000) (r : List Int) (seen : List Bool) (n b : Int) (hb : 0 ≤ b ∧ b < bs.length)
  (K : Evt (fun k => davitlaw08_DomEdges.l1 k r seen n (edgeL bs n) (b + 1) a0 a1 bs) true) :
  ∀ (d : Nat) (i : Int), 0 ≤ i → i + d = (nextL bs b).length → Evt (fun k => davitlaw08_DomEdges.l2 k r seen n (edgeL bs n) b (nextL bs b) i a0 a1 bs) true
 | 0, i, h0, h1 => by
  refine Evt.succ ?_
  simp only [davitlaw08_DomEdges.l2, if_neg (show ¬ i < ((nextL bs b).length : Int) by omega), wrap64_small (b + 1) (by omega) (by omega)]
  exact K
 | d + 1, i, h0, h1 => by
  have hi : i < ((nextL bs b).length : Int) := by omega
  have h3 := next_len bs b
  have hmem := rd_mem h0 hi
  have ih := edges_l2 hl r seen n b hb K d (i + 1) (by omega) (by omega)
  have hel := edge_len (bs := bs) n
  refine Evt.succ ?_
  simp only [davitlaw08_DomEdges.l2, if_pos hi, wrap64_small (i + 1) (by omega) (by omega)]
  refine Evt.bind (is_ev a0 a1 bs hl n b) ?_
  by_cases hd : DD bs n b
  ·simp only [decide_eq_true hd, if_pos, if_pos h0]
   by_cases e : rd (nextL bs b) i = n
   ·simp only [if_pos e]
    refine Evt.bind (has_ev _ _ (by omega)) ?_
    have q : rd (nextL bs b) i ∈ edgeL bs n := mem_edge.2 ⟨⟨b, hd, hmem⟩, .inl e⟩
    simp only [decide_eq_true q, if_pos]
    exact ih
   ·simp only [if_neg e]
    refine Evt.bind (is_ev a0 a1 bs hl n _) ?_
    by_cases h2 : DD bs n (rd (nextL bs b) i)
    ·simp only [decide_eq_true h2, if_pos]
     exact ih
    ·simp only [decide_eq_false h2, if_neg Bool.false_ne_true]
     refine Evt.bind (has_ev _ _ (by omega)) ?_
     have q : rd (nextL bs b) i ∈ edgeL bs n := mem_edge.2 ⟨⟨b, hd, hmem⟩, .inr h2⟩
     simp only [decide_eq_true q, if_pos]
     exact ih
  ·simp only [decide_eq_false hd, if_neg Bool.false_ne_true]
   exact ih
theorem edges_l1 (hl : bs.length ≤ 1000) {r : List Int} {place o : Int → Int} (H : OverOk bs r place o) (seen : List Bool) (n : Int) (hn : 0 ≤ n ∧ n < bs.length)
  (K : Evt (fun k => davitlaw08_DomEdges.l0 k r seen (n + 1) a0 a1 bs) true) :
  ∀ (d : Nat) (b : Int), 0 ≤ b → b + d = bs.length → Evt (fun k => davitlaw08_DomEdges.l1 k r seen n (edgeL bs n) b a0 a1 bs) true
 | 0, b, h0, h1 => by
  have hlen := H.len
  refine Evt.succ ?_
  simp only [davitlaw08_DomEdges.l1, if_neg (show ¬ b < (bs.length : Int) by omega), if_pos hn.1, hlen, if_pos hn.2, wrap64_small (n + 1) (by omega) (by omega)]
  by_cases hs : rd r n ≥ 0
  ·obtain ⟨hR, n0⟩ := (over_sign H hn.1 hn.2).1 hs
   have he : rd r n = o n := by rw [H.rd n hn.1 hn.2, if_neg n0]
   simp only [if_pos hs]
   refine Evt.bind (is_ev a0 a1 bs hl _ n) ?_
   have q : DD bs (rd r n) n := by rw [he]; exact (H.anc _ n hR).1 (.up n0 (.refl _))
   simp only [decide_eq_true q, if_pos]
   exact K
  ·simp only [if_neg hs]
   exact K
 | d + 1, b, h0, h1 => by
  have hlen := H.len
  have hb : b < (bs.length : Int) := by omega
  have go : Evt (fun k => davitlaw08_DomEdges.j3 k r seen n (edgeL bs n) b false a0 a1 bs) true := by
   refine Evt.succ ?_
   simp only [davitlaw08_DomEdges.j3, if_neg Bool.false_ne_true, flow_Next.f, Option.bind_some]
   exact edges_l2 a0 a1 hl r seen n b ⟨h0, hb⟩ (edges_l1 hl H seen n hn K d (b + 1) (by omega) (by omega)) _ 0 (by omega) (Int.zero_add _)
  refine Evt.succ ?_
  simp only [davitlaw08_DomEdges.l1, if_pos hb, if_pos hn.1, hlen, if_pos hn.2]
  by_cases hs : rd r n ≥ 0
  ·obtain ⟨hR, n0⟩ := (over_sign H hn.1 hn.2).1 hs
   have he : rd r n = o n := by rw [H.rd n hn.1 hn.2, if_neg n0]
   obtain ⟨u1, _, _⟩ := H.tree.up n hR n0 (H.done n hR)
   simp only [if_pos hs]
   by_cases e : b = n
   ·simp only [if_pos e]
    exact go
   ·simp only [if_neg e]
    refine Evt.bind (is_ev a0 a1 bs hl b n) ?_
    by_cases hd : DD bs b n
    ·simp only [decide_eq_true hd, if_pos]
     refine Evt.bind (is_ev a0 a1 bs hl b _) ?_
     have q : DD bs b (rd r n) := by rw [he]; exact (H.anc _ _ u1).1 (((H.anc _ _ hR).2 hd).cases_ne e).2
     simp only [decide_eq_true q, Bool.not_true]
     exact go
    ·simp only [decide_eq_false hd, if_neg Bool.false_ne_true]
     exact go
  ·simp only [if_neg hs]
   exact go
theorem edges_l0 (hl : bs.length ≤ 1000) {r : List Int} {place o : Int → Int} (H : OverOk bs r place o) (seen : List Bool) (hs : seen.length = bs.length) (hr : ∀ m : Int, 0 ≤ m → m < bs.length → (rdOf false seen m = true ↔ RR bs m)) :
  ∀ (d : Nat) (n : Int), 0 ≤ n → n + d = bs.length → Evt (fun k => davitlaw08_DomEdges.l0 k r seen n a0 a1 bs) true
 | 0, n, h0, h1 => by
  refine Evt.succ ?_
  simp only [davitlaw08_DomEdges.l0, if_neg (show ¬ n < (bs.length : Int) by omega)]
  exact Evt.pure _
 | d + 1, n, h0, h1 => by
  have hlen := H.len
  have hn : n < (bs.length : Int) := by omega
  have go : Evt (fun k => davitlaw08_DomEdges.j1 k r seen n false a0 a1 bs) true := by
   refine Evt.succ ?_
   simp only [davitlaw08_DomEdges.j1, if_neg Bool.false_ne_true]
   refine Evt.bind (edge_ev a0 a1 hl n) ?_
   exact edges_l1 a0 a1 hl H seen n ⟨h0, hn⟩ (edges_l0 hl H seen hs hr d (n + 1) (by omega) (by omega)) bs.length 0 (by omega) (by omega)
  have sg := over_sign H h0 hn
  have hrn := hr n h0 hn
  refine Evt.succ ?_
  simp only [davitlaw08_DomEdges.l0, if_pos hn, if_pos h0, hlen, hs]
  cases hb : rdOf false seen n with
  | true =>
   have hR := hrn.1 hb
   simp only [if_pos]
   have : (decide (rd r n ≥ 0) != decide (n > 0)) = false := by
    rw [show decide (rd r n ≥ 0) = decide (n > 0) from decide_eq_decide.2 ⟨fun h => by have := (sg.1 h).2; omega, fun h => sg.2 ⟨hR, by omega⟩⟩]
    simp
   rw [this]
   exact go
  | false =>
   simp only [if_neg Bool.false_ne_true]
   have : (decide (rd r n ≥ 0) != false) = false := by
    rw [decide_eq_false (fun h => by rw [hrn.2 (sg.1 h).1] at hb; cases hb)]
    rfl
   rw [this]
   exact go
end
theorem domEdges_pure (a0 a1 : Int) (bs : List S50) : ∃ k, davitlaw08_DomEdges.f k a0 a1 bs = some true := by
 refine Evt.ex (g := fun k => davitlaw08_DomEdges.f k a0 a1 bs) ?_
 unfold davitlaw08_DomEdges.f
 refine Evt.bind awake08 ?_
 simp only [if_pos]
 by_cases h30 : (bs.length : Int) > 30
 ·simp only [if_pos h30]
  exact Evt.pure _
 ·have hl : bs.length ≤ 1000 := by omega
  simp only [if_neg h30]
  obtain ⟨seen, es, hs, hr⟩ := reached_ok a0 a1 bs hl
  by_cases h : bs.length = 0
  ·simp only [(over0 a0 a1 bs h).1, es, Option.bind_some, List.length_nil, h, if_pos]
   refine Evt.succ ?_
   simp only [davitlaw08_DomEdges.l0, h, if_neg (show ¬ (0 : Int) < ((0 : Nat) : Int) by simp)]
   exact Evt.pure _
  ·obtain ⟨r, place, o, e, H⟩ := over_ok a0 a1 bs hl (by omega)
   simp only [e, es, Option.bind_some, H.len, if_pos]
   exact edges_l0 a0 a1 hl H seen hs hr bs.length 0 (by omega) (by omega)
end Go.Proofs.Ytilopoegoddggaa.X
namespace Go.Proofs.Ytilopoegoddggaa.Pure
open Go.RowKit Go.Proofs.Ytilopoegoddggaa.X
theorem DomEdges (a0 a1 : Int) (l : List S50) : ∃ k, davitlaw08_DomEdges.f k a0 a1 l = some true := domEdges_pure a0 a1 l
end Go.Proofs.Ytilopoegoddggaa.Pure
namespace Go.Proofs.Ytilopoegoddggaa.X
open Go.RowKit Go.Proofs.YtilopoegoddggaaW.PrintWords Go.Proofs.YtilopoegoddggaaW.PrintLast Go.Proofs.YtilopoegoddggaaW.PrintMore
set_option linter.all false
def Opens {α : Type} (d : Kd α) (t : TypeId) : Prop := ∀ (H : Type) (enc : TypeId × Value → H) (w : World) (fuel : Nat) (cs : List Value) (x : DataW H × List MemPlace),
 DataW.trod enc Try.prog w 0 (fun _ => true) true fuel t cs = some x → ∃ a, d.K w a cs
theorem Opens.int {k : IntKind} {t : TypeId} (ht : Try.prog.underlying t = some (.int k)) : Opens (Kd.int k) t := fun H enc w fuel cs x h => by
 obtain ⟨n, rfl, _⟩ := DataW.trod_int ht h
 exact ⟨n, rfl⟩
theorem Opens.bool {t : TypeId} (ht : Try.prog.underlying t = some .bool) : Opens Kd.bool t := fun H enc w fuel cs x h => by
 obtain ⟨n, rfl, _⟩ := DataW.trod_bool ht h
 exact ⟨n, rfl⟩
theorem Opens.slice {α : Type} {d : Kd α} {t e : TypeId} (e' : Nat) (ht : Try.prog.underlying t = some (.slice e)) (hd : Opens d e) (hs : d.sz = Try.prog.cellsOf e) : Opens (Kd.slice e' d) t := fun H enc w fuel cs x h => by
 rcases Go.Deep.open_slice ht h with ⟨rfl, _⟩ | ⟨a, len, cap, m, n, D, Pl, rfl, _, hl, hm, hmm, _, hx⟩
 ·exact ⟨[], none, 0, rfl, Nat.le_refl _, ⟨rfl, by simp, fun h => absurd h (by simp)⟩⟩
 ·have hlm : len ≤ m := by rw [hmm]; split <;> omega
  have key : ∀ j, j ≤ len → ∃ xs : List α, xs.length = j ∧ ∀ i p, xs[i]? = some p → ∃ c, c.length = d.sz ∧ d.K w p c ∧ ∀ q u, c[q]? = some u → w.cell? (a.add (i * d.sz + q)) = some u := by
   intro j
   induction j with
   | zero => exact fun _ => ⟨[], rfl, fun i p h => by simp at h⟩
   | succ j ih =>
    intro hj
    obtain ⟨xs, h1, h2⟩ := ih (by omega)
    obtain ⟨cs', h3, h4⟩ := hx j (by omega)
    obtain ⟨p, hp⟩ := hd H enc w n cs' _ h4
    obtain ⟨_, h5, h6⟩ := World.cells?_some h3
    refine ⟨xs ++ [p], by simp [h1], fun i q hq => ?_⟩
    by_cases hi : i < j
    ·rw [List.getElem?_append_left (by omega)] at hq
     exact h2 i q hq
    ·have hi' : i = j := by
      have := (List.getElem?_eq_some_iff.1 hq).1
      simp [h1] at this; omega
     subst hi'
     rw [List.getElem?_append_right (by omega), h1, Nat.sub_self] at hq
     simp at hq
     subst hq
     refine ⟨cs', by rw [h5, hs], hp, fun z u hz => ?_⟩
     have hzl := (List.getElem?_eq_some_iff.1 hz).1
     have := h6 z (by omega)
     rw [Go.Deep.add_add, ← hs] at this
     rw [this, hz]
  obtain ⟨xs, h1, h2⟩ := key len (Nat.le_refl _)
  have hmx : maxLen ≤ 9223372036854775807 := by decide
  exact ⟨xs, some a, cap, by rw [h1], by rw [h1]; exact hl, ⟨rfl, by omega, fun _ => ⟨a, rfl, h2⟩⟩⟩
theorem Opens.iso {α β : Type} {d : Kd α} {t : TypeId} (f : β → α) (g : α → β) (hg : ∀ y, f (g y) = y) (h : Opens d t) : Opens (Kd.iso d f) t := fun H enc w fuel cs x hx => by
 obtain ⟨a, ha⟩ := h H enc w fuel cs x hx
 exact ⟨g a, show d.K w (f (g a)) cs by rw [hg]; exact ha⟩
def OpensF {α : Type} (d : Kd α) (fs : List Field) (off : Nat) : Prop := ∀ (H : Type) (enc : TypeId × Value → H) (w : World) (n : Nat) (cs : List Value), cs.length = off + d.sz →
 (∀ f ∈ fs, ∃ y, DataW.trod enc Try.prog w 0 (fun _ => true) true n f.type ((cs.drop f.offset).take (Try.prog.cellsOf f.type)) = some y) → ∃ a, d.K w a (cs.drop off)
theorem OpensF.one {α : Type} {d : Kd α} {f : Field} {off : Nat} (ho : f.offset = off) (hd : Opens d f.type) (hs : Try.prog.cellsOf f.type = d.sz) : OpensF d [f] off := fun H enc w n cs hl h => by
 obtain ⟨y, hy⟩ := h f (List.mem_cons_self ..)
 rw [ho, hs, List.take_of_length_le (by rw [List.length_drop]; omega)] at hy
 exact hd H enc w n _ _ hy
theorem OpensF.cons {α β : Type} {d : Kd α} {d2 : Kd β} {f : Field} {fs : List Field} {off : Nat} (ho : f.offset = off) (hd : Opens d f.type) (hs : Try.prog.cellsOf f.type = d.sz) (h2 : OpensF d2 fs (off + d.sz)) : OpensF (Kd.pair d d2) (f :: fs) off := fun H enc w n cs hl h => by
 obtain ⟨y, hy⟩ := h f (List.mem_cons_self ..)
 rw [ho, hs] at hy
 obtain ⟨a, ha⟩ := hd H enc w n _ _ hy
 have hl' : cs.length = off + (d.sz + d2.sz) := hl
 obtain ⟨b, hb⟩ := h2 H enc w n cs (by omega) fun g hg => h g (List.mem_cons_of_mem _ hg)
 refine ⟨(a, b), _, _, ?_, ha, hb⟩
 rw [show cs.drop (off + d.sz) = (cs.drop off).drop d.sz by rw [List.drop_drop], List.take_append_drop]
theorem Opens.struct {α : Type} {d : Kd α} {t : TypeId} {fs : Array Field} (ht : Try.prog.underlying t = some (.struct fs)) (hs : Try.prog.cellsOf t = d.sz) (h : OpensF d fs.toList 0) : Opens d t := fun H enc w fuel cs x hx => by
 obtain ⟨xs, n, _, _, hl, hlen, hf⟩ := DataW.trod_struct ht hx
 have := h H enc w n cs (by omega) fun f hm => by
  obtain ⟨i, hi, e⟩ := List.getElem_of_mem hm
  have hi' : i < fs.size := by simpa using hi
  have := hf i f (by rw [← e]; simp [hi'])
  rw [this, List.getElem?_eq_getElem (by omega)]
  exact ⟨_, rfl⟩
 simpa using this
end Go.Proofs.Ytilopoegoddggaa.X
namespace Go.Proofs.Ytilopoegoddggaa.X
open Go.RowKit Go.Proofs.YtilopoegoddggaaW.PrintWords Go.Proofs.YtilopoegoddggaaW.PrintLast Go.Proofs.YtilopoegoddggaaW.PrintMore
set_option linter.all false
set_option maxRecDepth 100000
theorem oInt : Opens (Kd.int .i64) 3 := Opens.int Try.underlying3
theorem oBool : Opens Kd.bool 4 := Opens.bool Try.underlying4
theorem oInts : Opens (Kd.slice 3 (Kd.int .i64)) 27 := Opens.slice 3 Try.underlying27 oInt (by kernel_rfl)
theorem oWords : Opens (Kd.slice 115 (Kd.int .u16)) 45 := Opens.slice 115 (t := 45) (e := 115) (by kernel_rfl) (Opens.int (by kernel_rfl)) (by kernel_rfl)
theorem o47 : Opens k47 47 := Opens.iso _ (fun y => ⟨y.1, y.2.1, y.2.2.1, y.2.2.2⟩) (fun _ => rfl) (Opens.struct Try.underlying47 (by kernel_rfl)
 (.cons rfl oInt (by kernel_rfl) (.cons rfl oWords (by kernel_rfl) (.cons rfl oBool (by kernel_rfl) (.one rfl oBool (by kernel_rfl))))))
theorem o117 : Opens k117 117 := Opens.iso _ (fun y => ⟨y.1, y.2.1, y.2.2.1, y.2.2.2.1, y.2.2.2.2.1, y.2.2.2.2.2.1, y.2.2.2.2.2.2⟩) (fun _ => rfl) (Opens.struct Try.underlying117 (by kernel_rfl)
 (.cons rfl oInt (by kernel_rfl) (.cons rfl oInt (by kernel_rfl) (.cons rfl oInt (by kernel_rfl) (.cons rfl oInt (by kernel_rfl) (.cons rfl (Opens.int (by kernel_rfl)) (by kernel_rfl) (.cons rfl oInt (by kernel_rfl) (.one rfl oInts (by kernel_rfl)))))))))
theorem o44 : Opens k44 44 := Opens.iso _ (fun y => ⟨y.1, y.2.1, y.2.2.1, y.2.2.2.1, y.2.2.2.2.1, y.2.2.2.2.2.1, y.2.2.2.2.2.2.1, y.2.2.2.2.2.2.2⟩) (fun _ => rfl) (Opens.struct Try.underlying44 (by kernel_rfl)
 (.cons rfl oInt (by kernel_rfl) (.cons rfl oInt (by kernel_rfl) (.cons rfl oInt (by kernel_rfl) (.cons rfl oInt (by kernel_rfl) (.cons rfl oInts (by kernel_rfl) (.cons rfl oInt (by kernel_rfl) (.cons rfl oInt (by kernel_rfl) (.one rfl oInt (by kernel_rfl))))))))))
theorem o50 : Opens k50 50 := Opens.iso _ (fun y => ⟨y.1, y.2.1, y.2.2.1, y.2.2.2⟩) (fun _ => rfl) (Opens.struct Try.underlying50 (by kernel_rfl)
 (.cons rfl oBool (by kernel_rfl) (.cons rfl o47 (by kernel_rfl) (.cons rfl (Opens.slice 117 (t := 48) (e := 117) (by kernel_rfl) o117 (by kernel_rfl)) (by kernel_rfl) (.one rfl o44 (by kernel_rfl))))))
theorem oBlocks : Opens (Kd.slice 50 k50) 22 := Opens.slice 50 Try.underlying22 o50 (by kernel_rfl)
theorem open_func {H : Type} {enc : TypeId × Value → H} {W : World} {r : Reach} {b0 : Nat} {v : Value} {d : DataW H} {p : List MemPlace} (hv : Value.okWide Try.prog W r b0 24 v) (h : DataW.Trod enc Try.prog W 0 (fun _ => true) true 24 v d p) :
  ∃ (a0 a1 : Int) (A : Option Addr) (c : Nat) (l : List S50), v = .agg #[.int .i64 a0, .int .i64 a1, .slice A l.length c] ∧ Kd.C k50 W A l.length l ∧ l.length ≤ c := by
 obtain ⟨v0, v1, v2, y0, y1, y2, n, rfl, _, _, h0, h1, h2⟩ := Go.Joins.open_agg3 (t := 24) Try.underlying24 (by kernel_rfl) (by kernel_rfl) hv h
 obtain ⟨a0, e0⟩ := oInt H enc W n _ _ h0
 obtain ⟨a1, e1⟩ := oInt H enc W n _ _ h1
 obtain ⟨l, A, c, e2, hc, hC⟩ := oBlocks H enc W n _ _ h2
 cases e0; cases e1; cases e2
 exact ⟨a0, a1, A, c, l, rfl, hC, hc⟩
end Go.Proofs.Ytilopoegoddggaa.X
namespace Go.Proofs.Ytilopoegoddggaa.domEdges
open Go.ChangeShapes Go.WideShapes Go.ChangeAt Go.RowKit Go.Proofs.Ytilopoegoddggaa.X Go.Proofs.YtilopoegoddggaaW.PrintWords
set_option linter.all false
theorem own : ownKnob Try.prog.godebug = none := by kernel_rfl
theorem laidOut : laidOutB Try.prog = true := by kernel_rfl
set_option maxRecDepth 100000 in
theorem lifted (os : Os) (started : os.Started) (H : Type) (enc : TypeId × Value → H) :
  ReturnsInHanded {} Try.checked os 5 .any (Rows.domEdgesSpec.pre6 enc Try.prog Try.f5 Rows.domEdgesRow.domain false) (Rows.domEdgesSpec.post enc Try.prog Try.f5 false true false false) := by
 refine returnsInHanded_of_change_sized (C := Try.checked) own started (by kernel_rfl) Try.func5
  (ChangeSpec.witness6 (enc := enc) (C := Try.checked) false ⟨#[], #[.agg #[.int .i64 0, .int .i64 0, .slice none 0 0]], []⟩ 8 (by kernel_rfl) (by kernel_rfl) (by kernel_rfl) (by kernel_rfl)) ?_
 intro W base args ds gs before hval0 hW hcnd hsz0 _
 have hval : ∀ (j : Nat) t v, Try.f5.params[j]? = some t → args[j]? = some v → Value.okWide Try.prog W .any base t v := hval0
 have hW' := hW
 obtain ⟨p, q, hA0, hV, rfl, hfz, hnd⟩ := hW
 have hA : DataW.TrodAll enc Try.prog W 0 (fun _ => true) true Try.f5.params.toList args.toList ds p := hA0
 rw [Try.params5] at hA hval
 obtain ⟨v0, vs0, d0, ds0, p0, q0, hargs, rfl, rfl, h0, r0⟩ := trodAll_cons hA
 obtain ⟨rfl, rfl, rfl⟩ := trodAll_nil r0
 obtain rfl : args = #[v0] := by cases args; simp_all
 obtain ⟨rfl, rfl⟩ := trodVars_none hV
 have k0 := h0
 have lt0 : ∀ x ∈ p0, x.block < W.heap.size := by obtain ⟨m, hm⟩ := k0; exact DataW.trod_lt m _ _ _ hm
 obtain ⟨a0_0, a0_1, A0, c0, l0, rfl, hr0, hc0⟩ := open_func (hval 0 24 v0 rfl rfl) h0
 clear hA0 hval0 hsz0
 obtain ⟨k, hk⟩ := Pure.DomEdges a0_0 a0_1 l0
 refine (davitlaw08_DomEdges.calls k a0_0 a0_1 A0 c0 l0 true W hr0 hc0 hk).mono fun e W' ⟨he, bel⟩ => ?_
 subst he
 exact ⟨_, rfl, _, _, _, [], _, [], hW', trodAll_mk1 (shut_bool Try.underlying4 _), (trodAll_cons_mk (Below.trod laidOut (by kernel_rfl) (of_decide_eq_true (by kernel_rfl)) k0 bel lt0) trodAll_mk0), rfl, bel.frame _, fun h => by cases h⟩
theorem over : Rows.domEdgesRow.holds Try.pinned (OpenSpec.ofChange Rows.domEdgesSpec) :=
 OpenClaim.holds_of_wide 5 Try.f5 rfl rfl rfl rfl rfl rfl rfl ⟨rfl, rfl, rfl, rfl, rfl⟩ rfl rfl rfl rfl rfl (by kernel_rfl) Try.func5 (by kernel_rfl)
  (of_decide_eq_true (by kernel_rfl)) (by unfold Func.isWrapper; first | (rw [if_pos (by decide +kernel)]; kernel_rfl) | (rw [if_neg (by decide +kernel)]; exact ⟨rfl, rfl⟩))
  (fun os started H enc _ => lifted os started H enc)
theorem proved : Rows.DomEdgesSaid := over
#print axioms proved
end Go.Proofs.Ytilopoegoddggaa.domEdges
namespace Go.Proofs.Ytilopoegoddggaa
theorem domEdges_holds : Rows.DomEdgesSaid := domEdges.proved
end Go.Proofs.Ytilopoegoddggaa
