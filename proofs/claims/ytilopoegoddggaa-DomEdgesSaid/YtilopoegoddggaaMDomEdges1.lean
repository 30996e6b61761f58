/- Part 2 of the proof of the statement DomEdges: the words of the walks, the walks through the functions that it reaches, and the plain laws of what they compute. -/
import Derived.Test.YtilopoegoddggaaMDomEdges0
import Derived.Shelf.Sort.Plain
import Derived.Ground.Names2Prog
import Derived.Shelf.Slices.CompactI
import Derived.Shelf.Slices.In.SortNone
import Derived.Test.YtilopoegoddggaaProg
import Derived.Sort.OwnSortedInts
namespace Go.Proofs.Ytilopoegoddggaa.X
open Go.RowKit Go.Proofs.YtilopoegoddggaaW.PrintWords Go.Proofs.YtilopoegoddggaaW.PrintLast Go.Proofs.YtilopoegoddggaaW.PrintMore
attribute [local go_sem] max2_int min2_int max_two min_two max_three min_three max_four min_four
set_option linter.all false
noncomputable section
def flow_Before.l0 : Nat → Int → List Int → Int → Int → Int → Int → List (S50) → Option (List Int)
 | 0, _, _, _, _, _, _, _ => none
 | k + 1, x1, x5, x9, x10, x428000, x428001, x428002 => if x10 < x9 then ((flow_Next.f x428000 x428001 x428002 x10).bind fun t428 => ((slices_Contains_int_int.f k t428 x1).bind fun t431 => (if t431 = true then (if x5.length < 17592186044416 then (flow_Before.l0 k x1 (x5 ++ [x10]) x9 (wrap64 (x10 + 1)) x428000 x428001 x428002) else (none)) else (flow_Before.l0 k x1 x5 x9 (wrap64 (x10 + 1)) x428000 x428001 x428002)))) else (some x5)
def flow_Before.f (k : Nat) (a0_0 : Int) (a0_1 : Int) (l0_2 : List (S50)) (a1 : Int) : Option (List Int) := flow_Before.l0 k a1 ([] : List Int) (l0_2.length : Int) 0 a0_0 a0_1 l0_2
theorem flow_Before.mono_l : ∀ k, (∀ y0 y1 y2 y3 y4 y5 y6, LeO (flow_Before.l0 k y0 y1 y2 y3 y4 y5 y6) (flow_Before.l0 (k + 1) y0 y1 y2 y3 y4 y5 y6))
 | 0 => fun _ _ _ _ _ _ _ r h => by simp [flow_Before.l0] at h
 | k + 1 => by
  have ih0 := flow_Before.mono_l k
  ·intro y0 y1 y2 y3 y4 y5 y6
   unfold flow_Before.l0
   repeat' first
   | (with_reducible exact ih0 _ _ _ _ _ _ _)
   | (with_reducible exact slices_Contains_int_int.mono _ _ _)
   | (with_reducible exact LeO.refl _)
   | (with_reducible exact LeO.none _)
   | (with_reducible refine LeO.ite ?_ ?_)
   | (with_reducible refine LeO.bind ?_ (fun _ => ?_))
   | exact ih0 _ _ _ _ _ _ _
   | exact slices_Contains_int_int.mono _ _ _
   | exact LeO.none _
   | refine LeO.ite ?_ ?_
   | refine LeO.bind ?_ (fun _ => ?_)
theorem flow_Before.mono : ∀ a0 a1 a2 a3 k, LeO (flow_Before.f k a0 a1 a2 a3) (flow_Before.f (k + 1) a0 a1 a2 a3) := by
 intro a0 a1 a2 a3 k
 have ih0 := flow_Before.mono_l k
 unfold flow_Before.f
 repeat' first
   | (with_reducible exact ih0 _ _ _ _ _ _ _)
   | (with_reducible exact slices_Contains_int_int.mono _ _ _)
   | (with_reducible exact LeO.refl _)
   | (with_reducible exact LeO.none _)
   | (with_reducible refine LeO.ite ?_ ?_)
   | (with_reducible refine LeO.bind ?_ (fun _ => ?_))
   | exact ih0 _ _ _ _ _ _ _
   | exact slices_Contains_int_int.mono _ _ _
   | exact LeO.none _
   | refine LeO.ite ?_ ?_
   | refine LeO.bind ?_ (fun _ => ?_)
set_option maxHeartbeats 8000000 in
set_option maxRecDepth 100000 in
theorem flow_Before.calls (k : Nat) (a0_0 : Int) (a0_1 : Int) (A0_2 : Option Addr) (c0_2 : Nat) (l0_2 : List (S50)) (a1 : Int) (r : List Int) (w : World) (hr0_2 : Kd.C k50 w A0_2 l0_2.length l0_2) (hc0_2 : l0_2.length ≤ c0_2) (h : flow_Before.f k a0_0 a0_1 l0_2 a1 = some r) :
  Calls Try.prog 26 #[.agg #[.int .i64 a0_0, .int .i64 a0_1, .slice A0_2 l0_2.length c0_2], .int .i64 a1] w fun e w' => ∃ v0_ : Value, e = .returned (v0_) ∧ Kd.R (Kd.int .i64) 3 w' w.heap.size (fun _ => True) v0_ r ∧ Below w.heap.size w w' := by
 have hu24 := Try.underlying24
 have HR0_2 := Aside0.mk hr0_2
 have HC0_2 := Aside0.mk hc0_2
 clear hr0_2 hc0_2
 have HB := Aside0.mk (Below.refl w.heap.size w)
 have H : (flow_Before.l0 k a1 ([] : List Int) (l0_2.length : Int) 0 a0_0 a0_1 l0_2) = some r := h
 clear h
 have H' := Aside0.mk H
 clear H
 go_enter Try.func26, Try.ntmps26
 go_wp2_with (first | ((with_reducible refine gate_dst (N := 2) rfl ?_); refine box_event ?hg (N := 2) ?hd (cs := #[.int .i64 a0_0, .int .i64 a0_1, .slice A0_2 l0_2.length c0_2]) (t := 24) ?hr ?_; (case hd => rfl); (case hg => rfl); (case hr => first | (go_simp; done) | (go_simp; rfl)); intro gb427 hg w3 hbox hb; have n0_ := Aside0.mk (below_step (by repeat (first | (with_reducible first | exact HB.out | apply below_alloc | apply pw_below_drewN | apply below_drew1) | exact HB.out)) hb); have n1_ := Aside0.mk (hbox); have n2_ := Aside0.mk ((by rw [hg]; exact (below_size (by repeat (first | (with_reducible first | exact HB.out | apply below_alloc | apply pw_below_drewN | apply below_drew1) | exact HB.out))) : w.heap.size ≤ gb427)); have n3_ := Aside0.mk ((by rw [hg]; exact (below_size (by repeat (first | (with_reducible first | exact HB.out | apply below_alloc | apply pw_below_drewN | apply below_drew1) | exact HB.out))) : w.heap.size ≤ gb427)); clear HB; have HB := n0_; have BK427 := n1_; have GW427 := n2_; have GE427 := n3_; clear n0_ n1_ n2_ n3_; clear hb hbox hg; have hcz4_0 : w3.cell? ⟨gb427, 0, none⟩ = some (.int .i64 a0_0) := (blk_cell BK427.out 0).trans rfl; have hcz4_1 : w3.cell? ⟨gb427, 1, none⟩ = some (.int .i64 a0_1) := (blk_cell BK427.out 1).trans rfl; have hcz4_2 : w3.cell? ⟨gb427, 2, none⟩ = some (.slice A0_2 l0_2.length c0_2) := (blk_cell BK427.out 2).trans rfl; have hfz4_0 := blk_frozen BK427.out 0; have hfz4_1 := blk_frozen BK427.out 1; have hfz4_2 := blk_frozen BK427.out 2))
 go_loopg [5, 10] k (fun kq v5 v10 w' => ∃ (x5_1 : List Int) (x10_1 : Int), v10 = .int .i64 x10_1 ∧ Aside0 (flow_Before.l0 kq a1 x5_1 (l0_2.length : Int) x10_1 a0_0 a0_1 l0_2 = some r) ∧ Aside0 (kq ≤ k) ∧ Aside0 (Kd.R (Kd.int .i64) 3 w' w.heap.size (fun _ => True) v5 x5_1) ∧ Aside0 (w'.heap[gb427]? = some (.cells #[.int .i64 a0_0, .int .i64 a0_1, (.slice A0_2 l0_2.length c0_2)] 24 (0, 0))) ∧ Aside0 (Below w.heap.size w w'))
 case atStart => exact ⟨(([] : List Int)), (0), (by first | rfl | (simp; done) | (simp [*]; done)), H', ⟨Nat.le_refl _⟩, ⟨by first | exact Kd.R_nil _ _ _ _ _ | exact Kd.N_nil _ _ _ _ _ | exact Kd.V_nil _ _ _ _ _ | exact Kd.Q_nil _ _ _ _ _ | exact Kd.S_nil _ _ _ _ _⟩, ⟨by (with_reducible repeat (first | refine blk_drewN ?_ _ | refine blk_drew ?_ | refine blk_alloc ?_ _)); exact BK427.out⟩, ⟨by repeat (first | (with_reducible first | exact HB.out | apply below_alloc | apply pw_below_drewN | apply below_drew1 | refine below_set ?_ GE427.out) | exact HB.out)⟩⟩
 case round =>
  clear H'
  try clear c2
  try clear p2
  try clear hcz4_0
  try clear hcz4_1
  try clear hcz4_2
  try clear hfz4_0
  try clear hfz4_1
  try clear hfz4_2
  obtain ⟨x5_1, x10_1, rfl, HA, HK1, HO_5, BK427, HB⟩ := hrel
  cases gk with
  | zero => exact absurd HA.out (by simp [flow_Before.l0])
  | succ k1 =>
   have H := HA.out
   clear HA
   simp only [flow_Before.l0] at H
   by_cases c5 : x10_1 < (l0_2.length : Int)
   ·rw [if_pos c5] at H
    have c5b0 : decide (x10_1 < (l0_2.length : Int)) = true := decide_eq_true c5
    clear c5
    replace H := Option.bind_eq_some_iff.mp H
    obtain ⟨t428, A60, H⟩ := H
    replace H : ((slices_Contains_int_int.f k1 t428 a1).bind fun t431 => (if t431 = true then (if x5_1.length < 17592186044416 then (flow_Before.l0 k1 a1 (x5_1 ++ [x10_1]) (l0_2.length : Int) (wrap64 (x10_1 + 1)) a0_0 a0_1 l0_2) else (none)) else (flow_Before.l0 k1 a1 x5_1 (l0_2.length : Int) (wrap64 (x10_1 + 1)) a0_0 a0_1 l0_2))) = some r := H
    have A6 := Aside0.mk A60
    clear A60
    replace H := Option.bind_eq_some_iff.mp H
    obtain ⟨t431, A70, H⟩ := H
    replace H : (if t431 = true then (if x5_1.length < 17592186044416 then (flow_Before.l0 k1 a1 (x5_1 ++ [x10_1]) (l0_2.length : Int) (wrap64 (x10_1 + 1)) a0_0 a0_1 l0_2) else (none)) else (flow_Before.l0 k1 a1 x5_1 (l0_2.length : Int) (wrap64 (x10_1 + 1)) a0_0 a0_1 l0_2)) = some r := H
    have A7 := Aside0.mk A70
    clear A70
    by_cases c8 : t431 = true
    ·subst c8
     have H1 : (if x5_1.length < 17592186044416 then (flow_Before.l0 k1 a1 (x5_1 ++ [x10_1]) (l0_2.length : Int) (wrap64 (x10_1 + 1)) a0_0 a0_1 l0_2) else (none)) = some r := by rw [if_pos rfl] at H; exact H
     clear H
     have H := H1
     clear H1
     by_cases c9 : x5_1.length < 17592186044416
     ·rw [if_pos c9] at H
      have LMc9 := Aside0.mk c9
      clear c9
      obtain ⟨y432, hy432⟩ : ∃ y_ : List Int, y_ = (x5_1 ++ [x10_1]) := ⟨_, rfl⟩
      replace H : (flow_Before.l0 k1 a1 y432 (l0_2.length : Int) (wrap64 (x10_1 + 1)) a0_0 a0_1 l0_2) = some r := by first | (rw [hy432]; with_reducible exact H) | (have H2_ := (Option.bind_some _ _).symm.trans H; rw [hy432]; with_reducible exact H2_) | (have H2_ := (Option.bind_some _ _).symm.trans H; with_reducible exact H2_) | with_reducible exact H | (rw [hy432]; exact H) | exact H
      have Ny432 := Aside0.mk hy432
      clear hy432
      have H' := Aside0.mk H
      clear H
      have hcz10_0 : wr.cell? ⟨gb427, 0, none⟩ = some (.int .i64 a0_0) := (blk_cell BK427.out 0).trans rfl
      have hcz10_1 : wr.cell? ⟨gb427, 1, none⟩ = some (.int .i64 a0_1) := (blk_cell BK427.out 1).trans rfl
      have hcz10_2 : wr.cell? ⟨gb427, 2, none⟩ = some (.slice A0_2 l0_2.length c0_2) := (blk_cell BK427.out 2).trans rfl
      have hfz10_0 := blk_frozen BK427.out 0
      have hfz10_1 := blk_frozen BK427.out 1
      have hfz10_2 := blk_frozen BK427.out 2
      go_wp2_with (first | ((with_reducible refine gate_callee (f := 20) rfl ?_); refine goesL_ (some 15) rfl rfl Try.func20 (by kernel_rfl) rfl #[.agg #[.int .i64 a0_0, .int .i64 a0_1, .slice A0_2 l0_2.length c0_2], .int .i64 x10_1] rfl (by (try simp only [List.map_toArray, List.map_cons, List.map_nil]); first | done | rfl | (simp only [List.length_drop, List.length_take]; rfl)) ?_; (with_reducible refine (flow_Next.calls a0_0 a0_1 _ _ l0_2 x10_1 t428 _ ?side1 ?side2 A6.out).mono ?_); (case side1 => repeat (first | exact (Kd.C_below HR0_2.out HB.out) | (with_reducible refine Kd.C_alloc ?_ _) | (with_reducible refine Kd.C_drewN ?_ _) | (with_reducible refine Kd.C_drew ?_))); (case side2 => exact HC0_2.out); rintro e w11 ⟨v429, rfl, ho0, hb⟩; refine ⟨_, rfl, ?_⟩; have n0_ := Aside0.mk (Kd.R_elder' (by (with_reducible repeat (first | apply Kd.R_alloc | apply Kd.R_drewN | apply Kd.R_drew)); exact HO_5.out) (Kd.R_base ho0) hb); have n1_ := Aside0.mk (Kd.R_lower (Kd.R_new' ho0 (Kd.R_lt (by (with_reducible repeat (first | apply Kd.R_alloc | apply Kd.R_drewN | apply Kd.R_drew)); exact HO_5.out))) (below_size (by repeat (first | (with_reducible first | exact HB.out | apply below_alloc | apply pw_below_drewN | apply below_drew1 | refine below_set ?_ GE427.out) | exact HB.out)))); have n2_ := Aside0.mk (blk_below (g := gb427) (o := .cells #[.int .i64 a0_0, .int .i64 a0_1, .slice A0_2 l0_2.length c0_2] 24 (0, 0)) (by (with_reducible repeat (first | refine blk_drewN ?_ _ | refine blk_drew ?_ | refine blk_alloc ?_ _)); exact BK427.out) hb); have n3_ := Aside0.mk (below_step (by repeat (first | (with_reducible first | exact HB.out | apply below_alloc | apply pw_below_drewN | apply below_drew1 | refine below_set ?_ GE427.out) | exact HB.out)) hb); clear HO_5; clear BK427; clear HB; have HO_5 := n0_; have HO430 := n1_; have BK427 := n2_; have HB := n3_; clear n0_ n1_ n2_ n3_; (try clear hb); (try clear hb2); (try clear hk); (try clear hi); (try clear ho0); obtain ⟨Ao12, co12, eo12⟩ := Kd.R_slice HO430.out; subst eo12) | ((with_reducible refine gate_callee (f := 43) rfl ?_); refine goesL_ (some 17) rfl rfl Try.func43 (by kernel_rfl) rfl #[.slice Ao12 t428.length co12, .int .i64 a1] rfl (by (try simp only [List.map_toArray, List.map_cons, List.map_nil]); first | done | rfl | (simp only [List.length_drop, List.length_take]; rfl)) ?_; (with_reducible refine (slices_Contains_int_int.calls k1 _ _ t428 a1 true _ ?side1 ?side2 A7.out).mono ?_); (case side1 => repeat (first | exact (Kd.R_reads' HO430.out).2.2 | (with_reducible refine Kd.C_alloc ?_ _) | (with_reducible refine Kd.C_drewN ?_ _) | (with_reducible refine Kd.C_drew ?_))); (case side2 => exact (Kd.R_reads' HO430.out).2.1); rintro e w' ⟨rfl, ⟨nd, rfl⟩⟩; refine ⟨_, rfl, ?_⟩) | ((with_reducible refine gate_builtin (b := .append) (xs := #[.tmp 18, .tmp 20]) rfl ?_); at_builtin; refine Kd.R_append (Kd.int .i64) (w0 := w) w.heap.size rfl (.tmp 18) (.tmp 20) 27 3 (.int .i64 0) 8 rfl Try.underlying27 info3 rfl (by decide) (by omega) u5 x5_1 x10_1 [.int .i64 x10_1] (fun k_ => some k_ ≠ (.slice Ao12 t428.length co12 : Value).ownBlock) (fun _ => False) rfl rfl ?aP (fun _ hk => hk.elim) ?aF ?aO ?aB ?aS ?aL ?_; (case aP => exact rfl); (case aB => exact (by repeat (first | (with_reducible first | exact HB.out | apply below_alloc | apply pw_below_drewN | apply below_drew1 | refine below_set ?_ GE427.out) | exact HB.out))); (case aF => exact (fun k_ hk => Kd.fresh' (Kd.R_lt (by (with_reducible repeat (first | apply Kd.R_alloc | apply Kd.R_drewN | apply Kd.R_drew)); exact HO430.out)) k_ hk)); (case aO => exact (by (with_reducible repeat (first | apply Kd.R_alloc | apply Kd.R_drewN | apply Kd.R_drew)); exact Kd.R_mono HO_5.out (fun _ hk => hk.2))); (case aS => exact (below_size (by repeat (first | (with_reducible first | exact HB.out | apply below_alloc | apply pw_below_drewN | apply below_drew1 | refine below_set ?_ GE427.out) | exact HB.out)))); (case aL => have := LMc9.out; omega); intro v433 w13 ho hb hg hat; rw [← Ny432.out] at ho; have n0_ := Aside0.mk (blk_grown (g := gb427) (o := .cells #[.int .i64 a0_0, .int .i64 a0_1, .slice A0_2 l0_2.length c0_2] 24 (0, 0)) (by (with_reducible repeat (first | refine blk_drewN ?_ _ | refine blk_drew ?_ | refine blk_alloc ?_ _)); exact BK427.out) hg (Kd.R_ne HO_5.out BK427.out (by decide))); have n1_ := Aside0.mk (Kd.R_after (ok := (fun _ => True)) (by (with_reducible repeat (first | apply Kd.R_alloc | apply Kd.R_drewN | apply Kd.R_drew)); exact HO430.out) hg hat); have n2_ := Aside0.mk (hb); have n3_ := Aside0.mk (ho); clear BK427; clear HO430; clear HB; clear HO_5; have BK427 := n0_; have HO430 := n1_; have HB := n2_; have HO434 := n3_; clear n0_ n1_ n2_ n3_; clear ho hb hg hat))
      go_roundg k1
      case measure => have := HK1.out; omega
      case rel => exact ⟨(y432), (wrap64 (x10_1 + 1)), (by first | rfl | (simp; done) | (simp [*]; done)), H', ⟨by have := HK1.out; omega⟩, ⟨by (with_reducible repeat (first | apply Kd.R_alloc | apply Kd.R_drewN | apply Kd.R_drew)); exact Kd.R_mono HO434.out (fun _ hk => trivial)⟩, ⟨by (with_reducible repeat (first | refine blk_drewN ?_ _ | refine blk_drew ?_ | refine blk_alloc ?_ _)); exact BK427.out⟩, ⟨by repeat (first | (with_reducible first | exact HB.out | apply below_alloc | apply pw_below_drewN | apply below_drew1 | refine below_set ?_ GE427.out) | exact HB.out)⟩⟩
     ·rw [if_neg c9] at H
      exact absurd H (by simp)
    ·replace c8 := Bool.eq_false_iff.mpr c8
     subst c8
     have H1 : (flow_Before.l0 k1 a1 x5_1 (l0_2.length : Int) (wrap64 (x10_1 + 1)) a0_0 a0_1 l0_2) = some r := by rw [if_neg (show ¬ (false = true) by decide)] at H; exact H
     clear H
     have H := H1
     clear H1
     have H' := Aside0.mk H
     clear H
     have hcz14_0 : wr.cell? ⟨gb427, 0, none⟩ = some (.int .i64 a0_0) := (blk_cell BK427.out 0).trans rfl
     have hcz14_1 : wr.cell? ⟨gb427, 1, none⟩ = some (.int .i64 a0_1) := (blk_cell BK427.out 1).trans rfl
     have hcz14_2 : wr.cell? ⟨gb427, 2, none⟩ = some (.slice A0_2 l0_2.length c0_2) := (blk_cell BK427.out 2).trans rfl
     have hfz14_0 := blk_frozen BK427.out 0
     have hfz14_1 := blk_frozen BK427.out 1
     have hfz14_2 := blk_frozen BK427.out 2
     go_wp2_with (first | ((with_reducible refine gate_callee (f := 20) rfl ?_); refine goesL_ (some 15) rfl rfl Try.func20 (by kernel_rfl) rfl #[.agg #[.int .i64 a0_0, .int .i64 a0_1, .slice A0_2 l0_2.length c0_2], .int .i64 x10_1] rfl (by (try simp only [List.map_toArray, List.map_cons, List.map_nil]); first | done | rfl | (simp only [List.length_drop, List.length_take]; rfl)) ?_; (with_reducible refine (flow_Next.calls a0_0 a0_1 _ _ l0_2 x10_1 t428 _ ?side1 ?side2 A6.out).mono ?_); (case side1 => repeat (first | exact (Kd.C_below HR0_2.out HB.out) | (with_reducible refine Kd.C_alloc ?_ _) | (with_reducible refine Kd.C_drewN ?_ _) | (with_reducible refine Kd.C_drew ?_))); (case side2 => exact HC0_2.out); rintro e w15 ⟨v429, rfl, ho0, hb⟩; refine ⟨_, rfl, ?_⟩; have n0_ := Aside0.mk (Kd.R_elder' (by (with_reducible repeat (first | apply Kd.R_alloc | apply Kd.R_drewN | apply Kd.R_drew)); exact HO_5.out) (Kd.R_base ho0) hb); have n1_ := Aside0.mk (Kd.R_lower (Kd.R_new' ho0 (Kd.R_lt (by (with_reducible repeat (first | apply Kd.R_alloc | apply Kd.R_drewN | apply Kd.R_drew)); exact HO_5.out))) (below_size (by repeat (first | (with_reducible first | exact HB.out | apply below_alloc | apply pw_below_drewN | apply below_drew1 | refine below_set ?_ GE427.out) | exact HB.out)))); have n2_ := Aside0.mk (blk_below (g := gb427) (o := .cells #[.int .i64 a0_0, .int .i64 a0_1, .slice A0_2 l0_2.length c0_2] 24 (0, 0)) (by (with_reducible repeat (first | refine blk_drewN ?_ _ | refine blk_drew ?_ | refine blk_alloc ?_ _)); exact BK427.out) hb); have n3_ := Aside0.mk (below_step (by repeat (first | (with_reducible first | exact HB.out | apply below_alloc | apply pw_below_drewN | apply below_drew1 | refine below_set ?_ GE427.out) | exact HB.out)) hb); clear HO_5; clear BK427; clear HB; have HO_5 := n0_; have HO430 := n1_; have BK427 := n2_; have HB := n3_; clear n0_ n1_ n2_ n3_; (try clear hb); (try clear hb2); (try clear hk); (try clear hi); (try clear ho0); obtain ⟨Ao16, co16, eo16⟩ := Kd.R_slice HO430.out; subst eo16) | ((with_reducible refine gate_callee (f := 43) rfl ?_); refine goesL_ (some 17) rfl rfl Try.func43 (by kernel_rfl) rfl #[.slice Ao16 t428.length co16, .int .i64 a1] rfl (by (try simp only [List.map_toArray, List.map_cons, List.map_nil]); first | done | rfl | (simp only [List.length_drop, List.length_take]; rfl)) ?_; (with_reducible refine (slices_Contains_int_int.calls k1 _ _ t428 a1 false _ ?side1 ?side2 A7.out).mono ?_); (case side1 => repeat (first | exact (Kd.R_reads' HO430.out).2.2 | (with_reducible refine Kd.C_alloc ?_ _) | (with_reducible refine Kd.C_drewN ?_ _) | (with_reducible refine Kd.C_drew ?_))); (case side2 => exact (Kd.R_reads' HO430.out).2.1); rintro e w' ⟨rfl, ⟨nd, rfl⟩⟩; refine ⟨_, rfl, ?_⟩))
     go_roundg k1
     case measure => have := HK1.out; omega
     case rel => exact ⟨(x5_1), (wrap64 (x10_1 + 1)), (by first | rfl | (simp; done) | (simp [*]; done)), H', ⟨by have := HK1.out; omega⟩, ⟨by (with_reducible repeat (first | apply Kd.R_alloc | apply Kd.R_drewN | apply Kd.R_drew)); exact Kd.R_mono HO_5.out (fun _ hk => trivial)⟩, ⟨by (with_reducible repeat (first | refine blk_drewN ?_ _ | refine blk_drew ?_ | refine blk_alloc ?_ _)); exact BK427.out⟩, ⟨by repeat (first | (with_reducible first | exact HB.out | apply below_alloc | apply pw_below_drewN | apply below_drew1 | refine below_set ?_ GE427.out) | exact HB.out)⟩⟩
   ·rw [if_neg c5] at H
    have c5b0 : decide (x10_1 < (l0_2.length : Int)) = false := decide_eq_false c5
    clear c5
    obtain rfl := Option.some.inj H
    go_wp2
    go_ret
    exact ⟨_, by first | rfl | (simp [errW_none, errW_some] <;> rfl) | (simp [*, errW_none, errW_some] <;> rfl), by (with_reducible repeat (first | apply Kd.R_alloc | apply Kd.R_drewN | apply Kd.R_drew)); exact HO_5.out, by repeat (first | (with_reducible first | exact HB.out | apply below_alloc | apply pw_below_drewN | apply below_drew1 | refine below_set ?_ GE427.out) | exact HB.out)⟩
end
end Go.Proofs.Ytilopoegoddggaa.X
namespace Go.Proofs.Ytilopoegoddggaa.X
open Go.Shelf Go.RowKit Go.Proofs.YtilopoegoddggaaW.PrintWords Go.Proofs.YtilopoegoddggaaW.PrintLast Go.Proofs.YtilopoegoddggaaW.PrintMore
set_option linter.all false
def placeO : List Int → Int → List Int → Option (List Int)
 | [], _, p => some p
 | n :: r, i, p => if inL p n then placeO r (i + 1) (p.set n.toNat i) else none
def bestO (over place : List Int) (k : Nat) : List Int → Int → Option Int
 | [], b => some b
 | p :: r, b => if inL over p then (if rd over p < 0 then bestO over place k r b else if b < 0 then bestO over place k r p else (meetO over place k 0 p b).bind fun m => bestO over place k r m) else none
def rowO (a0 a1 : Int) (bs : List S50) (place : List Int) (k : Nat) : List Int → List Int → Bool → Option (List Int × Bool)
 | [], over, more => some (over, more)
 | n :: r, over, more => (flow_Before.f k a0 a1 bs n).bind fun ps => (bestO over place k ps (-1)).bind fun best => if inL over n then rowO a0 a1 bs place k r (over.set n.toNat best) (more || (rd over n != best)) else none
def roundsO (a0 a1 : Int) (bs : List S50) (place : List Int) (k : Nat) (ns : List Int) : Nat → List Int → Option (List Int)
 | 0, _ => none
 | j + 1, over => (rowO a0 a1 bs place k ns over false).bind fun q => if q.2 = true then roundsO a0 a1 bs place k ns j q.1 else some q.1
def grownO (a0 a1 : Int) (bs : List S50) (k : Nat) : Option (List Int) :=
 (flow_Order.f a0 a1 bs).bind fun order => (placeO order 0 (List.replicate bs.length 0)).bind fun place =>
  if order.length = 0 then some (List.replicate bs.length (-1))
  else if 0 < bs.length then (roundsO a0 a1 bs place k (order.drop 1) k ((List.replicate bs.length (-1 : Int)).set 0 0)).bind fun over => if 0 < over.length then some (over.set 0 (-1)) else none
  else none
structure GS (base : Nat) (W : World) (gb gt go gp : Nat) (a0 a1 : Int) (A : Option Addr) (n c : Nat) (over place : List Int) : Prop where
 bf : W.heap[gb]? = some (.cells #[.int .i64 a0, .int .i64 a1, .slice A n c] 24 (0, 0))
 bt : W.heap[gt]? = some (.cells #[.slice (some ⟨go, 0, none⟩) n n, .slice (some ⟨gp, 0, none⟩) n n] 53 (0, 0))
 ro : Kd.R (Kd.int .i64) 3 W base (fun k => k = go) (.slice (some ⟨go, 0, none⟩) n n) over
 rp : Kd.R (Kd.int .i64) 3 W base (fun k => k = gp) (.slice (some ⟨gp, 0, none⟩) n n) place
 ne : go ≠ gp
 ge : base ≤ gt
theorem GS.below {base : Nat} {W W' : World} {gb gt go gp : Nat} {a0 a1 : Int} {A : Option Addr} {n c : Nat} {over place : List Int} (h : GS base W gb gt go gp a0 a1 A n c over place) (hb : Below W.heap.size W W') : GS base W' gb gt go gp a0 a1 A n c over place :=
 ⟨blk_below h.bf hb, blk_below h.bt hb, Kd.R_below h.ro hb, Kd.R_below h.rp hb, h.ne, h.ge⟩
theorem GS.lenO {base : Nat} {W : World} {gb gt go gp : Nat} {a0 a1 : Int} {A : Option Addr} {n c : Nat} {over place : List Int} (h : GS base W gb gt go gp a0 a1 A n c over place) : over.length = n := (Kd.R_reads' h.ro).1.symm
theorem GS.lenP {base : Nat} {W : World} {gb gt go gp : Nat} {a0 a1 : Int} {A : Option Addr} {n c : Nat} {over place : List Int} (h : GS base W gb gt go gp a0 a1 A n c over place) : place.length = n := (Kd.R_reads' h.rp).1.symm
theorem GS.gbO {base : Nat} {W : World} {gb gt go gp : Nat} {a0 a1 : Int} {A : Option Addr} {n c : Nat} {over place : List Int} (h : GS base W gb gt go gp a0 a1 A n c over place) : base ≤ go := Kd.R_base h.ro go (by simp [Value.ownBlock])
theorem GS.gbP {base : Nat} {W : World} {gb gt go gp : Nat} {a0 a1 : Int} {A : Option Addr} {n c : Nat} {over place : List Int} (h : GS base W gb gt go gp a0 a1 A n c over place) : base ≤ gp := Kd.R_base h.rp gp (by simp [Value.ownBlock])
theorem GS.ltO {base : Nat} {W : World} {gb gt go gp : Nat} {a0 a1 : Int} {A : Option Addr} {n c : Nat} {over place : List Int} (h : GS base W gb gt go gp a0 a1 A n c over place) : go < W.heap.size := Kd.R_lt h.ro go (by simp [Value.ownBlock])
theorem GS.ltP {base : Nat} {W : World} {gb gt go gp : Nat} {a0 a1 : Int} {A : Option Addr} {n c : Nat} {over place : List Int} (h : GS base W gb gt go gp a0 a1 A n c over place) : gp < W.heap.size := Kd.R_lt h.rp gp (by simp [Value.ownBlock])
theorem GS.setO {base : Nat} {W : World} {gb gt go gp : Nat} {a0 a1 : Int} {A : Option Addr} {n c : Nat} {over place : List Int} (h : GS base W gb gt go gp a0 a1 A n c over place) (i x : Int) :
  GS base (W.setCell ⟨go, i.toNat, none⟩ (.int .i64 x)) gb gt go gp a0 a1 A n c (over.set i.toNat x) place := by
 have hp := Kd.R_putg h.ro i x
 exact ⟨blk_grown h.bf hp.2 (Kd.R_ne h.ro h.bf (by decide)), blk_grown h.bt hp.2 (Kd.R_ne h.ro h.bt (by decide)), hp.1, Kd.R_far h.rp (fun k hk => by rw [hk]; exact fun e => h.ne e.symm) _, h.ne, h.ge⟩
theorem GS.setP {base : Nat} {W : World} {gb gt go gp : Nat} {a0 a1 : Int} {A : Option Addr} {n c : Nat} {over place : List Int} (h : GS base W gb gt go gp a0 a1 A n c over place) (i x : Int) :
  GS base (W.setCell ⟨gp, i.toNat, none⟩ (.int .i64 x)) gb gt go gp a0 a1 A n c over (place.set i.toNat x) := by
 have hp := Kd.R_putg h.rp i x
 exact ⟨blk_grown h.bf hp.2 (Kd.R_ne h.rp h.bf (by decide)), blk_grown h.bt hp.2 (Kd.R_ne h.rp h.bt (by decide)), Kd.R_far h.ro (fun k hk => by rw [hk]; exact h.ne) _, hp.1, h.ne, h.ge⟩
theorem GS.draw {base : Nat} {W : World} {gb gt go gp : Nat} {a0 a1 : Int} {A : Option Addr} {n c : Nat} {over place : List Int} (h : GS base W gb gt go gp a0 a1 A n c over place) (m : Nat) : GS base (W.drewN m) gb gt go gp a0 a1 A n c over place := h.below (pw_below_drewN (Below.refl _ _) m)
theorem GS.c0 {base : Nat} {W : World} {gb gt go gp : Nat} {a0 a1 : Int} {A : Option Addr} {n c : Nat} {over place : List Int} (h : GS base W gb gt go gp a0 a1 A n c over place) : W.cell? ⟨gt, 0, none⟩ = some (.slice (some ⟨go, 0, none⟩) n n) := (blk_cell h.bt 0).trans rfl
theorem GS.c1 {base : Nat} {W : World} {gb gt go gp : Nat} {a0 a1 : Int} {A : Option Addr} {n c : Nat} {over place : List Int} (h : GS base W gb gt go gp a0 a1 A n c over place) : W.cell? ⟨gt, 1, none⟩ = some (.slice (some ⟨gp, 0, none⟩) n n) := (blk_cell h.bt 1).trans rfl
theorem GS.f0 {base : Nat} {W : World} {gb gt go gp : Nat} {a0 a1 : Int} {A : Option Addr} {n c : Nat} {over place : List Int} (h : GS base W gb gt go gp a0 a1 A n c over place) : W.cell? ⟨gb, 0, none⟩ = some (.int .i64 a0) := (blk_cell h.bf 0).trans rfl
theorem GS.f1 {base : Nat} {W : World} {gb gt go gp : Nat} {a0 a1 : Int} {A : Option Addr} {n c : Nat} {over place : List Int} (h : GS base W gb gt go gp a0 a1 A n c over place) : W.cell? ⟨gb, 1, none⟩ = some (.int .i64 a1) := (blk_cell h.bf 1).trans rfl
theorem GS.f2 {base : Nat} {W : World} {gb gt go gp : Nat} {a0 a1 : Int} {A : Option Addr} {n c : Nat} {over place : List Int} (h : GS base W gb gt go gp a0 a1 A n c over place) : W.cell? ⟨gb, 2, none⟩ = some (.slice A n c) := (blk_cell h.bf 2).trans rfl
theorem GS.rdO {base : Nat} {W : World} {gb gt go gp : Nat} {a0 a1 : Int} {A : Option Addr} {n c : Nat} {over place : List Int} (h : GS base W gb gt go gp a0 a1 A n c over place) (i : Int) (h0 : 0 ≤ i) (h1 : i < n) : W.cell? ⟨go, i.toNat, none⟩ = some (.int .i64 (rd over i)) ∧ W.frozen? ⟨go, i.toNat, none⟩ = false := Kd.R_celln (0 : Int) h.ro i h0 h1
theorem GS.rdP {base : Nat} {W : World} {gb gt go gp : Nat} {a0 a1 : Int} {A : Option Addr} {n c : Nat} {over place : List Int} (h : GS base W gb gt go gp a0 a1 A n c over place) (i : Int) (h0 : 0 ≤ i) (h1 : i < n) : W.cell? ⟨gp, i.toNat, none⟩ = some (.int .i64 (rd place i)) ∧ W.frozen? ⟨gp, i.toNat, none⟩ = false := Kd.R_celln (0 : Int) h.rp i h0 h1
theorem fill_step (n : Nat) (x : Int) (h0 : 0 ≤ x) (h1 : x < n) : (List.replicate x.toNat (-1 : Int) ++ List.replicate (n - x.toNat) 0).set x.toNat (-1) = List.replicate (x + 1).toNat (-1) ++ List.replicate (n - (x + 1).toNat) 0 := by
 obtain ⟨m, hm⟩ : ∃ m, n - x.toNat = m + 1 := ⟨n - x.toNat - 1, by omega⟩
 have e1 : (x + 1).toNat = x.toNat + 1 := by omega
 have e2 : n - (x.toNat + 1) = m := by omega
 rw [hm, e1, e2, List.replicate_succ, List.replicate_succ']
 have := set_app (List.replicate x.toNat (-1 : Int)) 0 (-1) (List.replicate m 0)
 rw [List.length_replicate] at this
 rw [this]; simp
end Go.Proofs.Ytilopoegoddggaa.X
namespace Go.Proofs.Ytilopoegoddggaa.X
open Go.Shelf Go.RowKit Go.Proofs.YtilopoegoddggaaW.PrintWords Go.Proofs.YtilopoegoddggaaW.PrintLast Go.Proofs.YtilopoegoddggaaW.PrintMore
set_option linter.all false
def GrownPost (a0 a1 : Int) (A : Option Addr) (n c : Nat) (r : List Int) (w : World) (e : Ending) (w' : World) : Prop :=
 ∃ gb gt go gp place, e = .returned (.pointer (some ⟨gt, 0, none⟩)) ∧ GS w.heap.size w' gb gt go gp a0 a1 A n c r place ∧ Below w.heap.size w w'
set_option maxHeartbeats 16000000 in
set_option maxRecDepth 100000 in
theorem grown_calls (a0 a1 : Int) (A : Option Addr) (c : Nat) (bs : List S50) (k : Nat) (r : List Int) (w : World) (hr : Kd.C k50 w A bs.length bs) (hc : bs.length ≤ c) (hl : bs.length ≤ 1000) (h : grownO a0 a1 bs k = some r) :
  Calls Try.prog 27 #[.agg #[.int .i64 a0, .int .i64 a1, .slice A bs.length c]] w (GrownPost a0 a1 A bs.length c r w) := by
 have HR := Aside0.mk hr
 have HE := Aside0.mk h
 clear hr h
 have hu24 := Try.underlying24
 have hu53 := Try.underlying53
 have hmk := print_make_of (P := Try.prog) 27 3 (.int .i64 0) 8 Try.underlying27 info3 rfl (by decide) bs.length (by omega)
 go_enter Try.func27, Try.ntmps27
 go_upto_region 1 with (first | ((with_reducible refine gate_dst (N := 1) rfl ?_); refine box_event ?hg (N := 1) ?hd (cs := #[.int .i64 a0, .int .i64 a1, .slice A bs.length c]) (t := 24) ?hr ?_; (case hd => rfl); (case hg => rfl); (case hr => first | (go_simp; done) | (go_simp; rfl)); intro gb hg w4 hbox hb; have BK := Aside0.mk hbox; have HB := Aside0.mk hb; have GE := Aside0.mk (show w.heap.size ≤ gb by omega); clear hbox hb hg; have hcz0 : w4.cell? ⟨gb, 0, none⟩ = some (.int .i64 a0) := (blk_cell BK.out 0).trans rfl; have hcz1 : w4.cell? ⟨gb, 1, none⟩ = some (.int .i64 a1) := (blk_cell BK.out 1).trans rfl; have hcz2 : w4.cell? ⟨gb, 2, none⟩ = some (.slice A bs.length c) := (blk_cell BK.out 2).trans rfl))
 have ha0 := fun o : Obj => pw_cell_below (below_alloc (Below.refl w4.heap.size w4) o) hcz0
 have ha1 := fun o : Obj => pw_cell_below (below_alloc (Below.refl w4.heap.size w4) o) hcz1
 have ha2 := fun o : Obj => pw_cell_below (below_alloc (Below.refl w4.heap.size w4) o) hcz2
 go_cut [3] (fun v3 wc => ∃ gt go gp : Nat, v3 = .pointer (some ⟨gt, 0, none⟩) ∧ Aside0 (GS w.heap.size wc gb gt go gp a0 a1 A bs.length c (List.replicate bs.length 0) (List.replicate bs.length 0)) ∧ Aside0 (Below w.heap.size w wc))
 case first =>
  go_region
  all_goals
   go_wp2
   go_meet
   case rel =>
    have hsz1 : ∀ o : Obj, (w4.alloc o).heap.size = w4.heap.size + 1 := fun o => by simp
    have hsz2 : ∀ o o' : Obj, ((w4.alloc o).alloc o').heap.size = w4.heap.size + 2 := fun o o' => by simp
    have hge := below_size HB.out
    have r1 : ∀ o : Obj, Kd.R (Kd.int .i64) 3 ((w4.alloc (.cells (madeCells #[.int .i64 0] bs.length) 3)).alloc o) w.heap.size (fun k => k = w4.heap.size) (.slice (some ⟨w4.heap.size, 0, none⟩) bs.length bs.length) (List.replicate bs.length 0) := fun o =>
     Kd.R_alloc (Kd.R_of_own (enc := Value.int .i64) (own_made_of' (d := (0 : Int)) w4 w.heap.size 3 bs.length hge (by omega)) (fun k hk => by simpa [Value.ownBlock] using hk.symm)) _
    have r2 : ∀ o : Obj, Kd.R (Kd.int .i64) 3 ((w4.alloc o).alloc (.cells (madeCells #[.int .i64 0] bs.length) 3)) w.heap.size (fun k => k = w4.heap.size + 1) (.slice (some ⟨w4.heap.size + 1, 0, none⟩) bs.length bs.length) (List.replicate bs.length 0) := fun o => by
     have := Kd.R_of_own (enc := Value.int .i64) (h1 := fun _ => rfl) (ok := fun k => k = w4.heap.size + 1) (own_made_of' (d := (0 : Int)) (w4.alloc o) w.heap.size 3 bs.length (by rw [hsz1]; omega) (by omega)) (fun k hk => by rw [hsz1] at hk; simpa [Value.ownBlock] using hk.symm)
     rwa [hsz1] at this
    first
     | exact ⟨_, w4.heap.size, w4.heap.size + 1, rfl, ⟨⟨blk_below BK.out (below_drew (below_alloc (below_alloc (below_alloc (Below.refl _ _) _) _) _)), (by rw [show w4.heap.size + 1 + 1 = ((w4.alloc (.cells (madeCells #[.int .i64 0] bs.length) 3)).alloc (.cells (madeCells #[.int .i64 0] bs.length) 3)).heap.size from (hsz2 _ _).symm]; exact blk_new _ _), Kd.R_drew (Kd.R_alloc (r1 _) _), Kd.R_drew (Kd.R_alloc (r2 _) _), by omega, by omega⟩⟩, ⟨below_drew (below_alloc (below_alloc (below_alloc HB.out _) _) _)⟩⟩
     | exact ⟨_, w4.heap.size + 1, w4.heap.size, rfl, ⟨⟨blk_below BK.out (below_drew (below_alloc (below_alloc (below_alloc (Below.refl _ _) _) _) _)), (by rw [show w4.heap.size + 1 + 1 = ((w4.alloc (.cells (madeCells #[.int .i64 0] bs.length) 3)).alloc (.cells (madeCells #[.int .i64 0] bs.length) 3)).heap.size from (hsz2 _ _).symm]; exact blk_new _ _), Kd.R_drew (Kd.R_alloc (r2 _) _), Kd.R_drew (Kd.R_alloc (r1 _) _), by omega, by omega⟩⟩, ⟨below_drew (below_alloc (below_alloc (below_alloc HB.out _) _) _)⟩⟩
 case rest =>
  clear ha0 ha1 ha2 hcz0 hcz1 hcz2 hmk BK GE HB
  obtain ⟨gt, go, gp, rfl, HS, HB⟩ := hcut
  have hc0 := HS.out.c0
  go_wp2
  clear hc0
  go_loopg [29] bs.length (fun gg s29 wr => ∃ x : Int, s29 = .int .i64 x ∧ Aside0 (0 ≤ x ∧ x ≤ bs.length ∧ bs.length - x ≤ gg) ∧ Aside0 (GS w.heap.size wr gb gt go gp a0 a1 A bs.length c (List.replicate x.toNat (-1) ++ List.replicate (bs.length - x.toNat) 0) (List.replicate bs.length 0)) ∧ Aside0 (Below w.heap.size w wr))
  case atStart => exact ⟨0, rfl, ⟨by omega⟩, ⟨by simpa using HS.out⟩, HB⟩
  case round =>
   clear HS HB
   obtain ⟨x, rfl, HX, HS, HB⟩ := hrel
   obtain ⟨x0, x1, xg⟩ := HX.out
   by_cases hlt : x < (bs.length : Int)
   ·have hd : decide (x < (bs.length : Int)) = true := decide_eq_true hlt
    have hc0 := HS.out.c0
    obtain ⟨hx, hf⟩ := HS.out.rdO x x0 hlt
    have p0 := eq_true x0
    have q0 := eq_true hlt
    have HN := Aside0.mk hlt
    clear x0 hlt x1 xg
    go_wp2
    go_roundg (bs.length - (x.toNat + 1))
    case measure => have := HX.out; have := HN.out; omega
    case rel =>
     have hw : wrap64 (x + 1) = x + 1 := wrap64_small _ (by have := HX.out; omega) (by have := HN.out; omega)
     refine ⟨x + 1, by rw [hw], ⟨by have := HX.out; have := HN.out; omega⟩, ⟨?_⟩, ⟨below_set HB.out HS.out.gbO⟩⟩
     have := HS.out.setO x (-1)
     rwa [fill_step bs.length x HX.out.1 HN.out] at this
   ·have hd : decide (x < (bs.length : Int)) = false := decide_eq_false hlt
    have hxe : x.toNat = bs.length := by omega
    rw [hxe] at HS
    simp only [Nat.sub_self, List.replicate_zero, List.append_nil] at HS
    clear x0 hlt x1 xg hxe HX
    have hf0 := HS.out.f0
    have hf1 := HS.out.f1
    have hf2 := HS.out.f2
    have hE := HE.out
    unfold grownO at hE
    cases ho : flow_Order.f a0 a1 bs with
    | none => rw [ho] at hE; cases hE
    | some order =>
    rw [ho, Option.bind_some] at hE
    cases hpl : placeO order 0 (List.replicate bs.length 0) with
    | none => rw [hpl] at hE; cases hE
    | some place =>
    rw [hpl, Option.bind_some] at hE
    have HO := Aside0.mk ho
    have HP := Aside0.mk hpl
    have HE2 := Aside0.mk hE
    clear ho hpl hE HE
    go_wp2_with (go_at_call 44; refine (flow_Order.calls a0 a1 A c bs order _ (Kd.C_below HR.out HB.out) hc HO.out).mono ?_; rintro e w7 ⟨v5, rfl, ho, hb⟩; obtain ⟨A5, c5, rfl, hc5, hC5⟩ := Kd.R_reads ho; have hm5 := hC5.2.1; have HV := Aside0.mk (show Kd.R (Kd.int .i64) 3 w7 w.heap.size (fun q => q ≠ go ∧ q ≠ gp) (.slice A5 order.length c5) order from Kd.R_lower (Kd.R_mono (Kd.R_bound ho) (fun q hq => ⟨fun e => by have := HS.out.ltO; have := hq.2.1; omega, fun e => by have := HS.out.ltP; have := hq.2.1; omega⟩)) (below_size HB.out)); have HS7 := Aside0.mk (HS.out.below hb); have HB7 := Aside0.mk (below_step HB.out hb); clear ho hb hC5 hf0 hf1 hf2 hd)
    have HP7 := Aside0.mk (show placeO (order.drop (0 : Int).toNat) 0 (List.replicate bs.length 0) = some place from by simpa using HP.out)
    clear HP HS HB
    go_loopg [43] order.length (fun gg s43 wr => ∃ (x : Int) (pl : List Int), s43 = .int .i64 x ∧ Aside0 (0 ≤ x ∧ x ≤ order.length ∧ order.length - x ≤ gg) ∧ Aside0 (placeO (order.drop x.toNat) x pl = some place) ∧ Aside0 (GS w.heap.size wr gb gt go gp a0 a1 A bs.length c (List.replicate bs.length (-1)) pl) ∧ Aside0 (Kd.R (Kd.int .i64) 3 wr w.heap.size (fun q => q ≠ go ∧ q ≠ gp) (.slice A5 order.length c5) order) ∧ Aside0 (Below w.heap.size w wr))
    case atStart => exact ⟨0, _, rfl, ⟨by omega⟩, HP7, HS7, HV, HB7⟩
    case round =>
     clear HS7 HB7 HV HP7
     obtain ⟨x, pl, rfl, HX, HP, HS, HV, HB⟩ := hrel
     obtain ⟨x0, x1, xg⟩ := HX.out
     by_cases hlt : x < (order.length : Int)
     ·have hd : decide (x < (order.length : Int)) = true := decide_eq_true hlt
      obtain ⟨ad, e1, hx⟩ := Kd.at_int (Kd.R_reads' HV.out).2.2 x x0 hlt
      cases e1
      have hF := HP.out
      rw [List.drop_eq_getElem_cons (show x.toNat < order.length by omega), placeO] at hF
      have hel : order[x.toNat]'(by omega) = rd order x := by simp [rd, List.getD_eq_getElem?_getD, List.getElem?_eq_getElem (show x.toNat < order.length by omega)]
      rw [hel] at hF
      by_cases hin : inL pl (rd order x)
      ·rw [if_pos hin] at hF
       obtain ⟨p2, q2⟩ := hin
       rw [HS.out.lenP] at q2
       have hc1 := HS.out.c1
       obtain ⟨hy, hf⟩ := HS.out.rdP (rd order x) p2 q2
       have HF := Aside0.mk hF
       have HN := Aside0.mk (And.intro hlt (And.intro p2 q2))
       have p0' := eq_true x0
       have q0' := eq_true hlt
       have p2' := eq_true p2
       have q2' := eq_true q2
       clear hF hel x0 hlt p2 q2 x1 xg
       go_wp2
       go_roundg (order.length - (x.toNat + 1))
       case measure => have := HX.out; have := HN.out; omega
       case rel =>
        have hw : wrap64 (x + 1) = x + 1 := wrap64_small _ (by have := HX.out; omega) (by have := HN.out; omega)
        refine ⟨x + 1, pl.set (rd order x).toNat x, by rw [hw], ⟨by have := HX.out; have := HN.out; omega⟩, ⟨?_⟩, ⟨HS.out.setP _ _⟩, ⟨Kd.R_far HV.out (fun q hq => hq.2) _⟩, ⟨below_set HB.out HS.out.gbP⟩⟩
        rw [show (x + 1).toNat = x.toNat + 1 by have := HX.out; omega]
        exact HF.out
      ·rw [if_neg hin] at hF; cases hF
     ·have hd : decide (x < (order.length : Int)) = false := decide_eq_false hlt
      have hF := HP.out
      rw [List.drop_eq_nil_of_le (by omega), placeO] at hF
      obtain rfl := Option.some.inj hF
      have hE := HE2.out
      clear x0 hlt x1 xg HX HP hF
      by_cases h0 : order.length = 0
      ·rw [if_pos h0] at hE
       have HQ := Aside0.mk (Option.some.inj hE)
       have hd2 : ((order.length : Int) == 0) = true := beq_iff_eq.mpr (by omega)
       have hd3 : (order.length == 0) = true := beq_iff_eq.mpr h0
       clear hE h0
       go_wp2
       go_ret
       exact ⟨gb, gt, go, gp, pl, rfl, by rw [← HQ.out]; exact HS.out, HB.out⟩
      ·rw [if_neg h0] at hE
       by_cases hb0 : 0 < bs.length
       ·rw [if_pos hb0] at hE
        have hd2 : ((order.length : Int) == 0) = false := beq_eq_false_iff_ne.mpr (by omega)
        have hd3 : (order.length == 0) = false := beq_eq_false_iff_ne.mpr h0
        cases hrs : roundsO a0 a1 bs pl k (order.drop 1) k ((List.replicate bs.length (-1 : Int)).set 0 0) with
        | none => rw [hrs] at hE; cases hE
        | some ov =>
        rw [hrs, Option.bind_some] at hE
        have HE3 := Aside0.mk hE
        have HRS := Aside0.mk hrs
        have H0 := Aside0.mk (And.intro h0 hb0)
        have hc0 := HS.out.c0
        obtain ⟨hy, hf⟩ := HS.out.rdO 0 (by omega) (by omega)
        have q9 : ((0 : Int) < (bs.length : Int)) = True := eq_true (by omega)
        have q8 : (0 < bs.length) = True := eq_true hb0
        rw [show (0 : Int).toNat = 0 from rfl] at hy hf
        have HS9 := Aside0.mk (show GS w.heap.size (wr.setCell ⟨go, 0, none⟩ (.int .i64 0)) gb gt go gp a0 a1 A bs.length c ((List.replicate bs.length (-1 : Int)).set 0 0) pl from HS.out.setO 0 0)
        have HB9 := Aside0.mk (below_set (j := 0) (v := .int .i64 0) HB.out HS.out.gbO)
        have HV9 := Aside0.mk (Kd.R_far (p := ⟨go, 0, none⟩) HV.out (fun q hq => hq.1) (.int .i64 0))
        clear hE hrs h0 hb0 HE2
        go_wp2
        obtain ⟨i0, hi0, hzz⟩ := Option.map_eq_some_iff.1 info3
        have hsz0 : i0.size = 1 := by simp only [Prod.mk.injEq] at hzz; exact hzz.2.1
        obtain ⟨A6, hcut, HA6⟩ : ∃ A6 : Option Addr, (∀ W : World, (Instr.slice 27 (.slice A5 order.length c5) (some (.int .i64 1)) none none).run Try.prog W = .ok (.slice A6 (order.drop 1).length (c5 - 1)) W) ∧ Aside0 (∀ W : World, Kd.C (Kd.int .i64) W A5 order.length order → Kd.C (Kd.int .i64) W A6 (order.drop 1).length (order.drop 1)) := by
         refine ⟨_, fun W => ?_, ⟨fun W hC => Kd.C_drop hC (by have := H0.out; omega) hc5⟩⟩
         have := cut_from (P := Try.prog) 27 3 .i64 Try.underlying27 hi0 1 hsz0 A5 order.length c5 1 (by omega) (by have := H0.out; omega) W
         rw [List.length_drop]
         exact this
        clear hzz hsz0 hi0
        obtain ⟨tl, htl⟩ : ∃ tl, order.drop 1 = tl := ⟨_, rfl⟩
        rw [htl] at hcut HA6 HRS
        have htlm : tl.length ≤ 9223372036854775807 := by rw [← htl, List.length_drop]; omega
        have HTL := Aside0.mk htl
        clear htl q9 q8 hy hf hc0 hd2 hd3 hd HB HS HV
        go_loopg [8] k (fun gg s8 wr => ∃ (more : Bool) (o : List Int), s8 = .bool more ∧ Aside0 (more = true → roundsO a0 a1 bs pl k tl gg o = some ov) ∧ Aside0 (more = false → o = ov) ∧ Aside0 (GS w.heap.size wr gb gt go gp a0 a1 A bs.length c o pl) ∧ Aside0 (Kd.R (Kd.int .i64) 3 wr w.heap.size (fun q => q ≠ go ∧ q ≠ gp) (.slice A5 order.length c5) order) ∧ Aside0 (Below w.heap.size w wr))
        case atStart => exact ⟨true, _, rfl, ⟨fun _ => HRS.out⟩, ⟨fun h => by cases h⟩, HS9, HV9, HB9⟩
        case round =>
         clear HS9 HV9 HB9 HRS
         obtain ⟨more, o, rfl, HM1, HM0, HS, HV, HB⟩ := hrel
         cases more with
         | false =>
          have ho := HM0.out rfl
          subst ho
          have hE := HE3.out
          have hlo := HS.out.lenO
          rw [if_pos (by have := H0.out; omega)] at hE
          have HQ := Aside0.mk (Option.some.inj hE)
          have hc0 := HS.out.c0
          obtain ⟨hy, hf⟩ := HS.out.rdO 0 (by omega) (by have := H0.out; omega)
          rw [show (0 : Int).toNat = 0 from rfl] at hy hf
          have q9 : ((0 : Int) < (bs.length : Int)) = True := eq_true (by have := H0.out; omega)
          have q8 : (0 < bs.length) = True := eq_true H0.out.2
          have HS9 := Aside0.mk (show GS w.heap.size (wr.setCell ⟨go, 0, none⟩ (.int .i64 (-1))) gb gt go gp a0 a1 A bs.length c (o.set 0 (-1)) pl from HS.out.setO 0 (-1))
          have HB9 := Aside0.mk (below_set (j := 0) (v := .int .i64 (-1)) HB.out HS.out.gbO)
          clear hE hlo
          go_wp2
          go_ret
          exact ⟨gb, gt, go, gp, pl, rfl, by rw [← HQ.out]; exact HS9.out, HB9.out⟩
         | true =>
          cases gk with
          | zero => exact absurd (HM1.out rfl) (by simp [roundsO])
          | succ j =>
          have hM := HM1.out rfl
          rw [roundsO] at hM
          cases hrow : rowO a0 a1 bs pl k tl o false with
          | none => rw [hrow] at hM; cases hM
          | some q =>
          obtain ⟨o2, m2⟩ := q
          rw [hrow, Option.bind_some] at hM
          have HM2 := Aside0.mk hM
          have HROW := Aside0.mk hrow
          clear hM hrow HM1 HM0
          go_wp2
          go_loopg [8, 69] tl.length (fun gg s8 s69 wr => ∃ (x : Int) (more : Bool) (o : List Int), s8 = .bool more ∧ s69 = .int .i64 x ∧ Aside0 (0 ≤ x ∧ x ≤ tl.length ∧ tl.length - x ≤ gg) ∧ Aside0 (rowO a0 a1 bs pl k (tl.drop x.toNat) o more = some (o2, m2)) ∧ Aside0 (GS w.heap.size wr gb gt go gp a0 a1 A bs.length c o pl) ∧ Aside0 (Kd.R (Kd.int .i64) 3 wr w.heap.size (fun q => q ≠ go ∧ q ≠ gp) (.slice A5 order.length c5) order) ∧ Aside0 (Below w.heap.size w wr))
          case atStart => exact ⟨0, false, o, rfl, rfl, ⟨by omega⟩, HROW, HS, HV, HB⟩
          case round =>
           clear HS HV HB HROW
           obtain ⟨x, more, o, rfl, rfl, HX, HROW, HS, HV, HB⟩ := hrel
           obtain ⟨x0, x1, xg⟩ := HX.out
           by_cases hlt : x < (tl.length : Int)
           ·have hd : decide (x < (tl.length : Int)) = true := decide_eq_true hlt
            obtain ⟨ad, e1, hx⟩ := Kd.at_int (HA6.out wr (Kd.R_reads' HV.out).2.2) x x0 hlt
            cases e1
            have hF := HROW.out
            rw [List.drop_eq_getElem_cons (show x.toNat < tl.length by omega), rowO] at hF
            have hel : tl[x.toNat]'(by omega) = rd tl x := by simp [rd, List.getD_eq_getElem?_getD, List.getElem?_eq_getElem (show x.toNat < tl.length by omega)]
            rw [hel] at hF
            cases hbe : flow_Before.f k a0 a1 bs (rd tl x) with
            | none => rw [hbe] at hF; cases hF
            | some ps =>
            rw [hbe, Option.bind_some] at hF
            cases hbst : bestO o pl k ps (-1) with
            | none => rw [hbst] at hF; cases hF
            | some best =>
            rw [hbst, Option.bind_some] at hF
            by_cases hin : inL o (rd tl x)
            ·rw [if_pos hin] at hF
             obtain ⟨p2, q2⟩ := hin
             rw [HS.out.lenO] at q2
             have HF := Aside0.mk hF
             have HBE := Aside0.mk hbe
             have HBST := Aside0.mk hbst
             have HN := Aside0.mk (And.intro hlt (And.intro p2 q2))
             have hf0 := HS.out.f0
             have hf1 := HS.out.f1
             have hf2 := HS.out.f2
             have p0' := eq_true x0
             have q0' := eq_true hlt
             have p2' := eq_true p2
             have q2' := eq_true q2
             clear hF hel hbe hbst x0 hlt p2 q2 x1 xg HROW
             go_wp2_with (go_at_call 26; refine (flow_Before.calls k a0 a1 A c bs (rd tl x) ps _ (Kd.C_below HR.out HB.out) hc HBE.out).mono ?_; rintro e w8 ⟨v75, rfl, ho, hb⟩; obtain ⟨A7, c7, rfl, hc7, hC7⟩ := Kd.R_reads ho; have hm7 := hC7.2.1; have H7 := Aside0.mk hC7; have n0_ := Aside0.mk (HS.out.below hb); have n1_ := Aside0.mk (Kd.R_below HV.out hb); have n2_ := Aside0.mk (below_step HB.out hb); clear HS HV HB hf0 hf1 hf2 ho hb hC7 hx; have HS := n0_; have HV := n1_; have HB := n2_; clear n0_ n1_ n2_)
             clear hd
             go_loopg [11, 77] ps.length (fun gg s11 s77 wr => ∃ (y b : Int), s11 = .int .i64 b ∧ s77 = .int .i64 y ∧ Aside0 (0 ≤ y ∧ y ≤ ps.length ∧ ps.length - y ≤ gg) ∧ Aside0 (bestO o pl k (ps.drop y.toNat) b = some best) ∧ Drawn0 w8 wr)
             case atStart => exact ⟨0, -1, rfl, rfl, ⟨by omega⟩, HBST, Drawn0.refl _⟩
             case round =>
              clear HBST
              obtain ⟨y, b, rfl, rfl, HY, HBST, ⟨m5, rfl⟩⟩ := hrel
              obtain ⟨y0, y1, yg⟩ := HY.out
              by_cases hlt : y < (ps.length : Int)
              ·have hd : decide (y < (ps.length : Int)) = true := decide_eq_true hlt
               obtain ⟨ad7, e1, hx⟩ := Kd.at_int H7.out y y0 hlt
               cases e1
               have hG := HBST.out
               rw [List.drop_eq_getElem_cons (show y.toNat < ps.length by omega), bestO] at hG
               have hel : ps[y.toNat]'(by omega) = rd ps y := by simp [rd, List.getD_eq_getElem?_getD, List.getElem?_eq_getElem (show y.toNat < ps.length by omega)]
               rw [hel] at hG
               by_cases hin : inL o (rd ps y)
               ·rw [if_pos hin] at hG
                obtain ⟨p3, q3⟩ := hin
                rw [HS.out.lenO] at q3
                have hc0 := HS.out.c0
                obtain ⟨hz, _⟩ := HS.out.rdO (rd ps y) p3 q3
                have HNY := Aside0.mk hlt
                have p0'' := eq_true y0
                have q0'' := eq_true hlt
                have p3' := eq_true p3
                have q3' := eq_true q3
                have hwy := Aside0.mk (wrap64_small (y + 1) (by omega) (by omega))
                have hty := Aside0.mk (show (y + 1).toNat = y.toNat + 1 by omega)
                clear hel y0 hlt p3 q3 y1 yg
                by_cases hneg : rd o (rd ps y) < 0
                ·rw [if_pos hneg] at hG
                 have HG := Aside0.mk hG
                 have hd2 : decide (rd o (rd ps y) < 0) = true := decide_eq_true hneg
                 clear hG hneg
                 go_wp2
                 go_roundg (ps.length - (y.toNat + 1))
                 case measure => have := HY.out; have := HNY.out; omega
                 case rel => exact ⟨y + 1, b, rfl, by rw [hwy.out], ⟨by have := HY.out; have := HNY.out; omega⟩, ⟨by rw [hty.out]; exact HG.out⟩, by repeat (first | exact Drawn0.refl _ | apply Drawn0.step)⟩
                ·rw [if_neg hneg] at hG
                 have hd2 : decide (rd o (rd ps y) < 0) = false := decide_eq_false hneg
                 by_cases hbn : b < 0
                 ·rw [if_pos hbn] at hG
                  have HG := Aside0.mk hG
                  have hd3 : decide (b < 0) = true := decide_eq_true hbn
                  clear hG hneg hbn
                  go_wp2
                  go_roundg (ps.length - (y.toNat + 1))
                  case measure => have := HY.out; have := HNY.out; omega
                  case rel => exact ⟨y + 1, rd ps y, rfl, by rw [hwy.out], ⟨by have := HY.out; have := HNY.out; omega⟩, ⟨by rw [hty.out]; exact HG.out⟩, by repeat (first | exact Drawn0.refl _ | apply Drawn0.step)⟩
                 ·rw [if_neg hbn] at hG
                  cases hme : meetO o pl k 0 (rd ps y) b with
                  | none => rw [hme] at hG; cases hG
                  | some mr =>
                  rw [hme, Option.bind_some] at hG
                  have HG := Aside0.mk hG
                  have HME := Aside0.mk hme
                  have hd3 : decide (b < 0) = false := decide_eq_false hbn
                  have HC := Aside0.mk (meet_calls o pl k (rd ps y) b mr gt (some ⟨go, 0, none⟩) (some ⟨gp, 0, none⟩) bs.length bs.length (w8.drewN m5) (by rw [HS.out.lenO, HS.out.lenP]; exact (HS.out.draw m5).bt) (by have := Kd.R_reads' (HS.out.draw m5).ro; exact this.2.2) (by have := Kd.R_reads' (HS.out.draw m5).rp; exact this.2.2) HME.out)
                  clear hG hneg hbn hme
                  go_wp2_with (go_at_call 45; refine HC.out.mono ?_; rintro e w9 ⟨rfl, ⟨md, rfl⟩⟩)
                  go_roundg (ps.length - (y.toNat + 1))
                  case measure => have := HY.out; have := HNY.out; omega
                  case rel => exact ⟨y + 1, mr, rfl, by rw [hwy.out], ⟨by have := HY.out; have := HNY.out; omega⟩, ⟨by rw [hty.out]; exact HG.out⟩, by repeat (first | exact Drawn0.refl _ | apply Drawn0.step)⟩
               ·rw [if_neg hin] at hG; cases hG
              ·have hd : decide (y < (ps.length : Int)) = false := decide_eq_false hlt
               have hG := HBST.out
               rw [List.drop_eq_nil_of_le (by omega), bestO] at hG
               obtain rfl := Option.some.inj hG
               have hc0 := HS.out.c0
               obtain ⟨hz, hfz⟩ := HS.out.rdO (rd tl x) HN.out.2.1 HN.out.2.2
               have hwx := Aside0.mk (wrap64_small (x + 1) (by have := HX.out; omega) (by have := HX.out; have := HN.out; omega))
               have htx := Aside0.mk (show (x + 1).toNat = x.toNat + 1 by have := HX.out; omega)
               have HS9 := Aside0.mk ((HS.out.draw m5).setO (rd tl x) b)
               have HB9 := Aside0.mk (below_set (j := (rd tl x).toNat) (v := .int .i64 b) (pw_below_drewN HB.out m5) HS.out.gbO)
               have HV9 := Aside0.mk (Kd.R_far (p := ⟨go, (rd tl x).toNat, none⟩) (Kd.R_drewN HV.out m5) (fun q hq => hq.1) (.int .i64 b))
               clear hG y0 hlt y1 yg HBST HY
               cases more with
               | true =>
                go_wp2
                go_roundg (tl.length - (x.toNat + 1))
                case measure => have := HX.out; have := HN.out; omega
                case rel => exact ⟨x + 1, true, o.set (rd tl x).toNat b, rfl, by rw [hwx.out], ⟨by have := HX.out; have := HN.out; omega⟩, ⟨by rw [htx.out]; exact HF.out⟩, HS9, HV9, HB9⟩
               | false =>
                go_wp2
                go_roundg (tl.length - (x.toNat + 1))
                case measure => have := HX.out; have := HN.out; omega
                case rel => exact ⟨x + 1, (rd o (rd tl x) != b), o.set (rd tl x).toNat b, rfl, by rw [hwx.out], ⟨by have := HX.out; have := HN.out; omega⟩, ⟨by rw [htx.out]; exact HF.out⟩, HS9, HV9, HB9⟩
            ·rw [if_neg hin] at hF; cases hF
           ·have hd : decide (x < (tl.length : Int)) = false := decide_eq_false hlt
            have hF := HROW.out
            rw [List.drop_eq_nil_of_le (by omega), rowO] at hF
            obtain ⟨rfl, rfl⟩ := Prod.mk.inj (Option.some.inj hF)
            clear hF x0 hlt x1 xg HROW HX
            go_wp2
            go_roundg j
            case measure => omega
            case rel => exact ⟨more, o, rfl, ⟨fun h => by have := HM2.out; rwa [if_pos h] at this⟩, ⟨fun h => by have := HM2.out; rw [if_neg (by simp [h])] at this; exact Option.some.inj this⟩, HS, HV, HB⟩
       ·rw [if_neg hb0] at hE; cases hE
noncomputable def anyK {α : Type} (g : Nat → Option α) : Option α := open Classical in if h : ∃ r, ∃ k, g k = some r then some (Classical.choose h) else none
theorem anyK_some {α : Type} {g : Nat → Option α} {r : α} (h : anyK g = some r) : ∃ k, g k = some r := by
 unfold anyK at h
 split at h
 ·rename_i hh
  obtain rfl := Option.some.inj h
  exact Classical.choose_spec hh
 ·cases h
theorem anyK_eq {α : Type} {g : Nat → Option α} {r : α} (h : ∃ k, g k = some r) (hu : ∀ k q, g k = some q → q = r) : anyK g = some r := by
 unfold anyK
 rw [dif_pos (show ∃ r, ∃ k, g k = some r from ⟨r, h⟩)]
 obtain ⟨k, hk⟩ := Classical.choose_spec (show ∃ r, ∃ k, g k = some r from ⟨r, h⟩)
 rw [hu k _ hk]
noncomputable def dom_Over.f (a0_0 : Int) (a0_1 : Int) (l0_2 : List S50) : Option (List Int) :=
 if l0_2.length ≤ 1000 then anyK (fun k => grownO a0_0 a0_1 l0_2 k) else none
set_option maxHeartbeats 8000000 in
set_option maxRecDepth 100000 in
theorem dom_Over.calls (a0_0 : Int) (a0_1 : Int) (A0_2 : Option Addr) (c0_2 : Nat) (l0_2 : List S50) (r : List Int) (w : World) (hr0_2 : Kd.C k50 w A0_2 l0_2.length l0_2) (hc0_2 : l0_2.length ≤ c0_2) (h : dom_Over.f a0_0 a0_1 l0_2 = some r) :
  Calls Try.prog 13 #[.agg #[.int .i64 a0_0, .int .i64 a0_1, .slice A0_2 l0_2.length c0_2]] w fun e w' => ∃ v0_ : Value, e = .returned (v0_) ∧ Kd.R (Kd.int .i64) 3 w' w.heap.size (fun _ => True) v0_ r ∧ Below w.heap.size w w' := by
 unfold dom_Over.f at h
 by_cases hl : l0_2.length ≤ 1000
 ·rw [if_pos hl] at h
  obtain ⟨k, hk⟩ := anyK_some h
  have HE := Aside0.mk hk
  have HR := Aside0.mk hr0_2
  clear h hk hr0_2
  have hu24 := Try.underlying24
  have hu53 := Try.underlying53
  go_enter Try.func13, Try.ntmps13
  go_wp2_with (first | ((with_reducible refine gate_dst (N := 1) rfl ?_); refine box_event ?hg (N := 1) ?hd (cs := #[.int .i64 a0_0, .int .i64 a0_1, .slice A0_2 l0_2.length c0_2]) (t := 24) ?hr ?_; (case hd => rfl); (case hg => rfl); (case hr => first | (go_simp; done) | (go_simp; rfl)); intro gb hg w4 hbox hb; have BK := Aside0.mk hbox; have HB := Aside0.mk hb; clear hbox hb hg; have hcz0 : w4.cell? ⟨gb, 0, none⟩ = some (.int .i64 a0_0) := (blk_cell BK.out 0).trans rfl; have hcz1 : w4.cell? ⟨gb, 1, none⟩ = some (.int .i64 a0_1) := (blk_cell BK.out 1).trans rfl; have hcz2 : w4.cell? ⟨gb, 2, none⟩ = some (.slice A0_2 l0_2.length c0_2) := (blk_cell BK.out 2).trans rfl) | (go_at_call 27; refine (grown_calls a0_0 a0_1 A0_2 c0_2 l0_2 k r w4 (Kd.C_below HR.out HB.out) hc0_2 hl HE.out).mono ?_; rintro e w5 ⟨gb2, gt, go, gp, place, rfl, hS, hb⟩; have HS := Aside0.mk hS; have HB5 := Aside0.mk (below_step HB.out hb); have hz0 : w5.cell? ⟨gt, 0, none⟩ = some (.slice (some ⟨go, 0, none⟩) l0_2.length l0_2.length) := HS.out.c0; clear hS hb))
  go_ret
  exact ⟨_, rfl, Kd.R_mono (Kd.R_lower HS.out.ro (below_size HB.out)) (fun _ _ => trivial), HB5.out⟩
 ·rw [if_neg hl] at h; cases h
end Go.Proofs.Ytilopoegoddggaa.X
namespace Go.Proofs.Ytilopoegoddggaa.X
open Go.RowKit Go.Proofs.YtilopoegoddggaaW.PrintWords Go.Proofs.YtilopoegoddggaaW.PrintLast Go.Proofs.YtilopoegoddggaaW.PrintMore
attribute [local go_sem] max2_int min2_int max_two min_two max_three min_three max_four min_four
set_option linter.all false
noncomputable section
mutual
def dom_Is.j0 : Nat → Int → Int → Bool → Int → Int → List (S50) → Option (Bool)
 | 0, _, _, _, _, _, _ => none
 | k + 1, x1, x2, x35, x104000, x104001, x104002 => if x35 = true then (some false) else ((dom_Over.f x104000 x104001 x104002).bind fun t108 => (dom_Is.l0 k x1 x2 t108))
def dom_Is.l0 : Nat → Int → Int → List Int → Option (Bool)
 | 0, _, _, _ => none
 | k + 1, x1, x2, x7 => if x2 = x1 then (some (x2 == x1)) else (if x2 ≥ 0 then (if 0 ≤ x2 then (if x2 < (x7.length : Int) then (dom_Is.l0 k x1 (rd x7 x2) x7) else (none)) else (none)) else (some (x2 == x1)))
end
def dom_Is.f (k : Nat) (a0_0 : Int) (a0_1 : Int) (l0_2 : List (S50)) (a1 : Int) (a2 : Int) : Option (Bool) := if a1 < 0 then (dom_Is.j0 k a1 a2 true a0_0 a0_1 l0_2) else (if a1 ≥ (l0_2.length : Int) then (dom_Is.j0 k a1 a2 true a0_0 a0_1 l0_2) else (if a2 < 0 then (dom_Is.j0 k a1 a2 true a0_0 a0_1 l0_2) else (if a2 ≥ (l0_2.length : Int) then (dom_Is.j0 k a1 a2 true a0_0 a0_1 l0_2) else ((flow_Reached.f a0_0 a0_1 l0_2).bind fun t104 => (if 0 ≤ a2 then (if a2 < (t104.length : Int) then (dom_Is.j0 k a1 a2 (!(rdOf false t104 a2)) a0_0 a0_1 l0_2) else (none)) else (none))))))
theorem dom_Is.mono_l : ∀ k, (∀ y0 y1 y2 y3 y4 y5, LeO (dom_Is.j0 k y0 y1 y2 y3 y4 y5) (dom_Is.j0 (k + 1) y0 y1 y2 y3 y4 y5)) ∧ (∀ y0 y1 y2, LeO (dom_Is.l0 k y0 y1 y2) (dom_Is.l0 (k + 1) y0 y1 y2))
 | 0 => ⟨fun _ _ _ _ _ _ r h => by simp [dom_Is.j0] at h, fun _ _ _ r h => by simp [dom_Is.l0] at h⟩
 | k + 1 => by
  obtain ⟨ih0, ih1⟩ := dom_Is.mono_l k
  refine ⟨?_, ?_⟩
  ·intro y0 y1 y2 y3 y4 y5
   unfold dom_Is.j0
   repeat' first
   | (with_reducible exact ih0 _ _ _ _ _ _)
   | (with_reducible exact ih1 _ _ _)
   | (with_reducible exact LeO.refl _)
   | (with_reducible exact LeO.none _)
   | (with_reducible refine LeO.ite ?_ ?_)
   | (with_reducible refine LeO.bind ?_ (fun _ => ?_))
   | exact ih0 _ _ _ _ _ _
   | exact ih1 _ _ _
   | exact LeO.none _
   | refine LeO.ite ?_ ?_
   | refine LeO.bind ?_ (fun _ => ?_)
  ·intro y0 y1 y2
   unfold dom_Is.l0
   repeat' first
   | (with_reducible exact ih0 _ _ _ _ _ _)
   | (with_reducible exact ih1 _ _ _)
   | (with_reducible exact LeO.refl _)
   | (with_reducible exact LeO.none _)
   | (with_reducible refine LeO.ite ?_ ?_)
   | (with_reducible refine LeO.bind ?_ (fun _ => ?_))
   | exact ih0 _ _ _ _ _ _
   | exact ih1 _ _ _
   | exact LeO.none _
   | refine LeO.ite ?_ ?_
   | refine LeO.bind ?_ (fun _ => ?_)
theorem dom_Is.mono : ∀ a0 a1 a2 a3 a4 k, LeO (dom_Is.f k a0 a1 a2 a3 a4) (dom_Is.f (k + 1) a0 a1 a2 a3 a4) := by
 intro a0 a1 a2 a3 a4 k
 obtain ⟨ih0, ih1⟩ := dom_Is.mono_l k
 unfold dom_Is.f
 repeat' first
   | (with_reducible exact ih0 _ _ _ _ _ _)
   | (with_reducible exact ih1 _ _ _)
   | (with_reducible exact LeO.refl _)
   | (with_reducible exact LeO.none _)
   | (with_reducible refine LeO.ite ?_ ?_)
   | (with_reducible refine LeO.bind ?_ (fun _ => ?_))
   | exact ih0 _ _ _ _ _ _
   | exact ih1 _ _ _
   | exact LeO.none _
   | refine LeO.ite ?_ ?_
   | refine LeO.bind ?_ (fun _ => ?_)
set_option maxHeartbeats 8000000 in
set_option maxRecDepth 100000 in
theorem dom_Is.calls (k : Nat) (a0_0 : Int) (a0_1 : Int) (A0_2 : Option Addr) (c0_2 : Nat) (l0_2 : List (S50)) (a1 : Int) (a2 : Int) (r : Bool) (w : World) (hr0_2 : Kd.C k50 w A0_2 l0_2.length l0_2) (hc0_2 : l0_2.length ≤ c0_2) (h : dom_Is.f k a0_0 a0_1 l0_2 a1 a2 = some r) :
  Calls Try.prog 15 #[.agg #[.int .i64 a0_0, .int .i64 a0_1, .slice A0_2 l0_2.length c0_2], .int .i64 a1, .int .i64 a2] w fun e w' => e = .returned (.bool r) ∧ Below w.heap.size w w' := by
 have hu24 := Try.underlying24
 have HR0_2 := Aside0.mk hr0_2
 have HC0_2 := Aside0.mk hc0_2
 clear hr0_2 hc0_2
 have HB := Aside0.mk (Below.refl w.heap.size w)
 have H : (if a1 < 0 then (dom_Is.j0 k a1 a2 true a0_0 a0_1 l0_2) else (if a1 ≥ (l0_2.length : Int) then (dom_Is.j0 k a1 a2 true a0_0 a0_1 l0_2) else (if a2 < 0 then (dom_Is.j0 k a1 a2 true a0_0 a0_1 l0_2) else (if a2 ≥ (l0_2.length : Int) then (dom_Is.j0 k a1 a2 true a0_0 a0_1 l0_2) else ((flow_Reached.f a0_0 a0_1 l0_2).bind fun t104 => (if 0 ≤ a2 then (if a2 < (t104.length : Int) then (dom_Is.j0 k a1 a2 (!(rdOf false t104 a2)) a0_0 a0_1 l0_2) else (none)) else (none))))))) = some r := h
 clear h
 have HC4 := Aside0.mk H
 clear H
 go_enter Try.func15, Try.ntmps15
 go_upto_region 1 with (first | ((with_reducible refine gate_dst (N := 3) rfl ?_); (try (refine gate_guard (by rfl) ?_; dsimp only)); refine box_event ?hg (N := 3) ?hd (cs := #[.int .i64 a0_0, .int .i64 a0_1, .slice A0_2 l0_2.length c0_2]) (t := 24) ?hr ?_; (case hd => rfl); (case hg => rfl); (case hr => first | (go_simp; done) | (go_simp; rfl)); intro gb103 hg w5 hbox hb; have n0_ := Aside0.mk (below_step (by repeat (first | (with_reducible first | exact HB.out | apply below_alloc | apply pw_below_drewN | apply below_drew1) | exact HB.out)) hb); have n1_ := Aside0.mk (hbox); have n2_ := Aside0.mk ((by rw [hg]; exact (below_size (by repeat (first | (with_reducible first | exact HB.out | apply below_alloc | apply pw_below_drewN | apply below_drew1) | exact HB.out))) : w.heap.size ≤ gb103)); have n3_ := Aside0.mk ((by rw [hg]; exact (below_size (by repeat (first | (with_reducible first | exact HB.out | apply below_alloc | apply pw_below_drewN | apply below_drew1) | exact HB.out))) : w.heap.size ≤ gb103)); clear HB; have HB := n0_; have BK103 := n1_; have GW103 := n2_; have GE103 := n3_; clear n0_ n1_ n2_ n3_; clear hb hbox hg))
 (try simp only [Act.put, List.setIfInBounds_toArray, List.set_cons_zero, List.set_cons_succ])
 go_cut [35] (fun v35 wc => ∃ (kq : Nat) (x35_3 : Bool), v35 = .bool x35_3 ∧ Aside0 (dom_Is.j0 kq a1 a2 x35_3 a0_0 a0_1 l0_2 = some r) ∧ Aside0 (kq ≤ k) ∧ Aside0 (wc.heap[gb103]? = some (.cells #[.int .i64 a0_0, .int .i64 a0_1, (.slice A0_2 l0_2.length c0_2)] 24 (0, 0))) ∧ Aside0 (Below w.heap.size w wc))
 case first =>
  have H := HC4.out
  clear HC4
  by_cases c6 : a1 < 0
  ·rw [if_pos c6] at H
   have c6b0 : decide (a1 < 0) = true := decide_eq_true c6
   clear c6
   (first | rw [c6b0] | (simp only [i64_w, i32_w]; rw [c6b0]) | skip)
   have H' := Aside0.mk H
   clear H
   go_wp2
   go_meet
   case rel => exact ⟨_, (true), (by first | rfl | (simp; done) | (simp [*]; done)), H', ⟨by first | omega | exact Nat.le_refl _⟩, ⟨by (with_reducible repeat (first | refine blk_drewN ?_ _ | refine blk_drew ?_ | refine blk_alloc ?_ _)); exact BK103.out⟩, ⟨by repeat (first | (with_reducible first | exact HB.out | apply below_alloc | apply pw_below_drewN | apply below_drew1 | refine below_set ?_ GE103.out) | exact HB.out)⟩⟩
  ·rw [if_neg c6] at H
   have c6b0 : decide (a1 < 0) = false := decide_eq_false c6
   clear c6
   (first | rw [c6b0] | (simp only [i64_w, i32_w]; rw [c6b0]) | skip)
   by_cases c7 : a1 ≥ (l0_2.length : Int)
   ·rw [if_pos c7] at H
    have c7b0 : decide ((l0_2.length : Int) ≤ a1) = true := decide_eq_true c7
    clear c7
    have H' := Aside0.mk H
    clear H
    have hcz8_0 : w5.cell? ⟨gb103, 0, none⟩ = some (.int .i64 a0_0) := (blk_cell BK103.out 0).trans rfl
    have hcz8_1 : w5.cell? ⟨gb103, 1, none⟩ = some (.int .i64 a0_1) := (blk_cell BK103.out 1).trans rfl
    have hcz8_2 : w5.cell? ⟨gb103, 2, none⟩ = some (.slice A0_2 l0_2.length c0_2) := (blk_cell BK103.out 2).trans rfl
    have hfz8_0 := blk_frozen BK103.out 0
    have hfz8_1 := blk_frozen BK103.out 1
    have hfz8_2 := blk_frozen BK103.out 2
    go_wp2
    go_meet
    case rel => exact ⟨_, (true), (by first | rfl | (simp; done) | (simp [*]; done)), H', ⟨by first | omega | exact Nat.le_refl _⟩, ⟨by (with_reducible repeat (first | refine blk_drewN ?_ _ | refine blk_drew ?_ | refine blk_alloc ?_ _)); exact BK103.out⟩, ⟨by repeat (first | (with_reducible first | exact HB.out | apply below_alloc | apply pw_below_drewN | apply below_drew1 | refine below_set ?_ GE103.out) | exact HB.out)⟩⟩
   ·rw [if_neg c7] at H
    have c7b0 : decide ((l0_2.length : Int) ≤ a1) = false := decide_eq_false c7
    clear c7
    by_cases c9 : a2 < 0
    ·rw [if_pos c9] at H
     have c9b0 : decide (a2 < 0) = true := decide_eq_true c9
     clear c9
     have H' := Aside0.mk H
     clear H
     have hcz10_0 : w5.cell? ⟨gb103, 0, none⟩ = some (.int .i64 a0_0) := (blk_cell BK103.out 0).trans rfl
     have hcz10_1 : w5.cell? ⟨gb103, 1, none⟩ = some (.int .i64 a0_1) := (blk_cell BK103.out 1).trans rfl
     have hcz10_2 : w5.cell? ⟨gb103, 2, none⟩ = some (.slice A0_2 l0_2.length c0_2) := (blk_cell BK103.out 2).trans rfl
     have hfz10_0 := blk_frozen BK103.out 0
     have hfz10_1 := blk_frozen BK103.out 1
     have hfz10_2 := blk_frozen BK103.out 2
     go_wp2
     go_meet
     case rel => exact ⟨_, (true), (by first | rfl | (simp; done) | (simp [*]; done)), H', ⟨by first | omega | exact Nat.le_refl _⟩, ⟨by (with_reducible repeat (first | refine blk_drewN ?_ _ | refine blk_drew ?_ | refine blk_alloc ?_ _)); exact BK103.out⟩, ⟨by repeat (first | (with_reducible first | exact HB.out | apply below_alloc | apply pw_below_drewN | apply below_drew1 | refine below_set ?_ GE103.out) | exact HB.out)⟩⟩
    ·rw [if_neg c9] at H
     have c9b0 : decide (a2 < 0) = false := decide_eq_false c9
     clear c9
     by_cases c11 : a2 ≥ (l0_2.length : Int)
     ·rw [if_pos c11] at H
      have c11b0 : decide ((l0_2.length : Int) ≤ a2) = true := decide_eq_true c11
      clear c11
      have H' := Aside0.mk H
      clear H
      have hcz12_0 : w5.cell? ⟨gb103, 0, none⟩ = some (.int .i64 a0_0) := (blk_cell BK103.out 0).trans rfl
      have hcz12_1 : w5.cell? ⟨gb103, 1, none⟩ = some (.int .i64 a0_1) := (blk_cell BK103.out 1).trans rfl
      have hcz12_2 : w5.cell? ⟨gb103, 2, none⟩ = some (.slice A0_2 l0_2.length c0_2) := (blk_cell BK103.out 2).trans rfl
      have hfz12_0 := blk_frozen BK103.out 0
      have hfz12_1 := blk_frozen BK103.out 1
      have hfz12_2 := blk_frozen BK103.out 2
      go_wp2
      go_meet
      case rel => exact ⟨_, (true), (by first | rfl | (simp; done) | (simp [*]; done)), H', ⟨by first | omega | exact Nat.le_refl _⟩, ⟨by (with_reducible repeat (first | refine blk_drewN ?_ _ | refine blk_drew ?_ | refine blk_alloc ?_ _)); exact BK103.out⟩, ⟨by repeat (first | (with_reducible first | exact HB.out | apply below_alloc | apply pw_below_drewN | apply below_drew1 | refine below_set ?_ GE103.out) | exact HB.out)⟩⟩
     ·rw [if_neg c11] at H
      have c11b0 : decide ((l0_2.length : Int) ≤ a2) = false := decide_eq_false c11
      clear c11
      replace H := Option.bind_eq_some_iff.mp H
      obtain ⟨t104, A130, H⟩ := H
      replace H : (if 0 ≤ a2 then (if a2 < (t104.length : Int) then (dom_Is.j0 k a1 a2 (!(rdOf false t104 a2)) a0_0 a0_1 l0_2) else (none)) else (none)) = some r := H
      have A13 := Aside0.mk A130
      clear A130
      by_cases c14 : 0 ≤ a2
      ·rw [if_pos c14] at H
       have c14b0 : decide (0 ≤ a2) = true := decide_eq_true c14
       clear c14
       by_cases c15 : a2 < (t104.length : Int)
       ·rw [if_pos c15] at H
        have c15b0 : decide (a2 < (t104.length : Int)) = true := decide_eq_true c15
        clear c15
        have H' := Aside0.mk H
        clear H
        have hcz16_0 : w5.cell? ⟨gb103, 0, none⟩ = some (.int .i64 a0_0) := (blk_cell BK103.out 0).trans rfl
        have hcz16_1 : w5.cell? ⟨gb103, 1, none⟩ = some (.int .i64 a0_1) := (blk_cell BK103.out 1).trans rfl
        have hcz16_2 : w5.cell? ⟨gb103, 2, none⟩ = some (.slice A0_2 l0_2.length c0_2) := (blk_cell BK103.out 2).trans rfl
        have hfz16_0 := blk_frozen BK103.out 0
        have hfz16_1 := blk_frozen BK103.out 1
        have hfz16_2 := blk_frozen BK103.out 2
        go_wp2_with (first | (go_at_call 19; (with_reducible refine (flow_Reached.calls a0_0 a0_1 _ _ l0_2 t104 _ ?side1 ?side2 A13.out).mono ?_); (case side1 => repeat (first | exact (Kd.C_below HR0_2.out HB.out) | (with_reducible refine Kd.C_alloc ?_ _) | (with_reducible refine Kd.C_drewN ?_ _) | (with_reducible refine Kd.C_drew ?_))); (case side2 => exact HC0_2.out); rintro e w17 ⟨v105, rfl, ho0, hb⟩; have n0_ := Aside0.mk (Kd.R_lower ho0 (below_size (by repeat (first | (with_reducible first | exact HB.out | apply below_alloc | apply pw_below_drewN | apply below_drew1 | refine below_set ?_ GE103.out) | exact HB.out)))); have n1_ := Aside0.mk (blk_below (g := gb103) (o := .cells #[.int .i64 a0_0, .int .i64 a0_1, .slice A0_2 l0_2.length c0_2] 24 (0, 0)) (by (with_reducible repeat (first | refine blk_drewN ?_ _ | refine blk_drew ?_ | refine blk_alloc ?_ _)); exact BK103.out) hb); have n2_ := Aside0.mk (below_step (by repeat (first | (with_reducible first | exact HB.out | apply below_alloc | apply pw_below_drewN | apply below_drew1 | refine below_set ?_ GE103.out) | exact HB.out)) hb); clear BK103; clear HB; have HO106 := n0_; have BK103 := n1_; have HB := n2_; clear n0_ n1_ n2_; (try clear hb); (try clear hb2); (try clear hk); (try clear hi); (try clear ho0); obtain ⟨Ao18, co18, eo18⟩ := Kd.R_slice HO106.out; subst eo18; have p107 : 0 ≤ (a2 : Int) := of_decide_eq_true (by first | (with_reducible assumption) | assumption); have q107 : a2 < (t104.length : Int) := of_decide_eq_true (by first | (with_reducible assumption) | assumption); obtain ⟨ad107, e107, hx107_0⟩ := Kd.at_bool (Kd.R_reads' HO106.out).2.2 a2 p107 q107; cases e107; replace p107 := eq_true p107; replace q107 := eq_true q107))
        go_meet
        case rel => exact ⟨_, (!(rdOf false t104 a2)), (by first | rfl | (simp; done) | (simp [*]; done)), H', ⟨by first | omega | exact Nat.le_refl _⟩, ⟨by (with_reducible repeat (first | refine blk_drewN ?_ _ | refine blk_drew ?_ | refine blk_alloc ?_ _)); exact BK103.out⟩, ⟨by repeat (first | (with_reducible first | exact HB.out | apply below_alloc | apply pw_below_drewN | apply below_drew1 | refine below_set ?_ GE103.out) | exact HB.out)⟩⟩
       ·rw [if_neg c15] at H
        exact absurd H (by simp)
      ·rw [if_neg c14] at H
       exact absurd H (by simp)
 case rest =>
  clear HC4
  try clear c1
  try clear p1
  try clear q1
  try clear hx1
  try clear p2
  try clear c6
  try clear c6b0
  try clear c7
  try clear c7b0
  try clear c9
  try clear c9b0
  try clear p10
  try clear q10
  try clear hx10
  try clear c11
  try clear c11b0
  try clear c14
  try clear c14b0
  try clear c15
  try clear c15b0
  try clear hcz10_0
  try clear hcz10_1
  try clear hcz10_2
  try clear hcz12_0
  try clear hcz12_1
  try clear hcz12_2
  try clear hcz16_0
  try clear hcz16_1
  try clear hcz16_2
  try clear hcz8_0
  try clear hcz8_1
  try clear hcz8_2
  try clear hfz10_0
  try clear hfz10_1
  try clear hfz10_2
  try clear hfz12_0
  try clear hfz12_1
  try clear hfz12_2
  try clear hfz16_0
  try clear hfz16_1
  try clear hfz16_2
  try clear hfz8_0
  try clear hfz8_1
  try clear hfz8_2
  try clear hx107_0
  try clear p107
  try clear q107
  obtain ⟨kq, x35_3, rfl, HA, HJ3, BK103, HB⟩ := hcut
  cases kq with
  | zero => exact absurd HA.out (by simp [dom_Is.j0])
  | succ kj3 =>
   have H := HA.out
   clear HA
   simp only [dom_Is.j0] at H
   by_cases c19 : x35_3 = true
   ·subst c19
    have H1 : (some false) = some r := by rw [if_pos rfl] at H; exact H
    clear H
    have H := H1
    clear H1
    obtain rfl := Option.some.inj H
    go_wp2
    go_ret
    exact ⟨by first | rfl | (simp [errW_none, errW_some] <;> rfl) | (simp [*, errW_none, errW_some] <;> rfl), by repeat (first | (with_reducible first | exact HB.out | apply below_alloc | apply pw_below_drewN | apply below_drew1 | refine below_set ?_ GE103.out) | exact HB.out)⟩
   ·replace c19 := Bool.eq_false_iff.mpr c19
    subst c19
    have H1 : ((dom_Over.f a0_0 a0_1 l0_2).bind fun t108 => (dom_Is.l0 kj3 a1 a2 t108)) = some r := by rw [if_neg (show ¬ (false = true) by decide)] at H; exact H
    clear H
    have H := H1
    clear H1
    replace H := Option.bind_eq_some_iff.mp H
    obtain ⟨t108, A200, H⟩ := H
    replace H : (dom_Is.l0 kj3 a1 a2 t108) = some r := H
    have A20 := Aside0.mk A200
    clear A200
    have H' := Aside0.mk H
    clear H
    have hcz21_0 : wc.cell? ⟨gb103, 0, none⟩ = some (.int .i64 a0_0) := (blk_cell BK103.out 0).trans rfl
    have hcz21_1 : wc.cell? ⟨gb103, 1, none⟩ = some (.int .i64 a0_1) := (blk_cell BK103.out 1).trans rfl
    have hcz21_2 : wc.cell? ⟨gb103, 2, none⟩ = some (.slice A0_2 l0_2.length c0_2) := (blk_cell BK103.out 2).trans rfl
    have hfz21_0 := blk_frozen BK103.out 0
    have hfz21_1 := blk_frozen BK103.out 1
    have hfz21_2 := blk_frozen BK103.out 2
    go_wp2_with (first | ((with_reducible refine gate_callee (f := 13) rfl ?_); refine goesL_ (some 37) rfl rfl Try.func13 (by kernel_rfl) rfl #[.agg #[.int .i64 a0_0, .int .i64 a0_1, .slice A0_2 l0_2.length c0_2]] rfl (by (try simp only [List.map_toArray, List.map_cons, List.map_nil]); first | done | rfl | (simp only [List.length_drop, List.length_take]; rfl)) ?_; (with_reducible refine (dom_Over.calls a0_0 a0_1 _ _ l0_2 t108 _ ?side1 ?side2 A20.out).mono ?_); (case side1 => repeat (first | exact (Kd.C_below HR0_2.out HB.out) | (with_reducible refine Kd.C_alloc ?_ _) | (with_reducible refine Kd.C_drewN ?_ _) | (with_reducible refine Kd.C_drew ?_))); (case side2 => exact HC0_2.out); rintro e w22 ⟨v109, rfl, ho0, hb⟩; refine ⟨_, rfl, ?_⟩; have n0_ := Aside0.mk (Kd.R_lower ho0 (below_size (by repeat (first | (with_reducible first | exact HB.out | apply below_alloc | apply pw_below_drewN | apply below_drew1 | refine below_set ?_ GE103.out) | exact HB.out)))); have n1_ := Aside0.mk (blk_below (g := gb103) (o := .cells #[.int .i64 a0_0, .int .i64 a0_1, .slice A0_2 l0_2.length c0_2] 24 (0, 0)) (by (with_reducible repeat (first | refine blk_drewN ?_ _ | refine blk_drew ?_ | refine blk_alloc ?_ _)); exact BK103.out) hb); have n2_ := Aside0.mk (below_step (by repeat (first | (with_reducible first | exact HB.out | apply below_alloc | apply pw_below_drewN | apply below_drew1 | refine below_set ?_ GE103.out) | exact HB.out)) hb); clear BK103; clear HB; have HO110 := n0_; have BK103 := n1_; have HB := n2_; clear n0_ n1_ n2_; (try clear hb); (try clear hb2); (try clear hk); (try clear hi); (try clear ho0)))
    go_loopg [2] kj3 (fun kq v2 w' => ∃ (x2_2 : Int), v2 = .int .i64 x2_2 ∧ Aside0 (dom_Is.l0 kq a1 x2_2 t108 = some r) ∧ Aside0 (kq ≤ kj3) ∧ Aside0 (Kd.R (Kd.int .i64) 3 w' w.heap.size (fun _ => True) v109 t108) ∧ Aside0 (w'.heap[gb103]? = some (.cells #[.int .i64 a0_0, .int .i64 a0_1, (.slice A0_2 l0_2.length c0_2)] 24 (0, 0))) ∧ Aside0 (Below w.heap.size w w'))
    case atStart => exact ⟨(a2), (by first | rfl | (simp; done) | (simp [*]; done)), H', ⟨Nat.le_refl _⟩, ⟨by (with_reducible repeat (first | apply Kd.R_alloc | apply Kd.R_drewN | apply Kd.R_drew)); exact HO110.out⟩, ⟨by (with_reducible repeat (first | refine blk_drewN ?_ _ | refine blk_drew ?_ | refine blk_alloc ?_ _)); exact BK103.out⟩, ⟨by repeat (first | (with_reducible first | exact HB.out | apply below_alloc | apply pw_below_drewN | apply below_drew1 | refine below_set ?_ GE103.out) | exact HB.out)⟩⟩
    case round =>
     clear H'
     try clear c1
     try clear p1
     try clear q1
     try clear hx1
     try clear p2
     try clear c6
     try clear c6b0
     try clear c7
     try clear c7b0
     try clear c9
     try clear c9b0
     try clear p10
     try clear q10
     try clear hx10
     try clear c11
     try clear c11b0
     try clear c13
     try clear c14
     try clear c14b0
     try clear c15
     try clear c15b0
     try clear c19
     try clear hcz10_0
     try clear hcz10_1
     try clear hcz10_2
     try clear hcz12_0
     try clear hcz12_1
     try clear hcz12_2
     try clear hcz16_0
     try clear hcz16_1
     try clear hcz16_2
     try clear hcz21_0
     try clear hcz21_1
     try clear hcz21_2
     try clear hcz8_0
     try clear hcz8_1
     try clear hcz8_2
     try clear hfz10_0
     try clear hfz10_1
     try clear hfz10_2
     try clear hfz12_0
     try clear hfz12_1
     try clear hfz12_2
     try clear hfz16_0
     try clear hfz16_1
     try clear hfz16_2
     try clear hfz21_0
     try clear hfz21_1
     try clear hfz21_2
     try clear hfz8_0
     try clear hfz8_1
     try clear hfz8_2
     try clear hx107_0
     try clear p1
     try clear p10
     try clear p107
     try clear p2
     try clear q1
     try clear q10
     try clear q107
     obtain ⟨x2_2, rfl, HA, HK2, HO_7, BK103, HB⟩ := hrel
     cases gk with
     | zero => exact absurd HA.out (by simp [dom_Is.l0])
     | succ k2 =>
      have H := HA.out
      clear HA
      simp only [dom_Is.l0] at H
      by_cases c23 : x2_2 = a1
      ·rw [if_pos c23] at H
       have c23b0 : (x2_2 == a1) = true := beq_iff_eq.mpr c23
       have c23b1 : (x2_2 != a1) = false := bne_eq_false_iff_eq.mpr c23
       clear c23
       obtain rfl := Option.some.inj H
       go_wp2
       go_ret
       exact ⟨by first | rfl | (simp [errW_none, errW_some] <;> rfl) | (simp [*, errW_none, errW_some] <;> rfl), by repeat (first | (with_reducible first | exact HB.out | apply below_alloc | apply pw_below_drewN | apply below_drew1 | refine below_set ?_ GE103.out) | exact HB.out)⟩
      ·rw [if_neg c23] at H
       have c23b0 : (x2_2 == a1) = false := beq_eq_false_iff_ne.mpr c23
       have c23b1 : (x2_2 != a1) = true := bne_iff_ne.mpr c23
       by_cases c24 : x2_2 ≥ 0
       ·rw [if_pos c24] at H
        have c24b0 : decide (0 ≤ x2_2) = true := decide_eq_true c24
        clear c24
        by_cases c25 : 0 ≤ x2_2
        ·rw [if_pos c25] at H
         have c25b0 : decide (0 ≤ x2_2) = true := decide_eq_true c25
         clear c25
         by_cases c26 : x2_2 < (t108.length : Int)
         ·rw [if_pos c26] at H
          have c26b0 : decide (x2_2 < (t108.length : Int)) = true := decide_eq_true c26
          clear c26
          have H' := Aside0.mk H
          clear H
          obtain ⟨Ao27, co27, eo27⟩ := Kd.R_slice HO_7.out
          subst eo27
          have p111 : 0 ≤ (x2_2 : Int) := of_decide_eq_true (by first | (with_reducible assumption) | assumption)
          have q111 : x2_2 < (t108.length : Int) := of_decide_eq_true (by first | (with_reducible assumption) | assumption)
          obtain ⟨ad111, e111, hx111_0⟩ := Kd.at_int (Kd.R_reads' HO_7.out).2.2 x2_2 p111 q111
          cases e111
          replace p111 := eq_true p111
          replace q111 := eq_true q111
          go_wp2
          go_roundg k2
          case measure => have := HJ3.out; have := HK2.out; omega
          case rel => exact ⟨(rd t108 x2_2), (by first | rfl | (simp; done) | (simp [*]; done)), H', ⟨by have := HJ3.out; have := HK2.out; omega⟩, ⟨by (with_reducible repeat (first | apply Kd.R_alloc | apply Kd.R_drewN | apply Kd.R_drew)); exact HO_7.out⟩, ⟨by (with_reducible repeat (first | refine blk_drewN ?_ _ | refine blk_drew ?_ | refine blk_alloc ?_ _)); exact BK103.out⟩, ⟨by repeat (first | (with_reducible first | exact HB.out | apply below_alloc | apply pw_below_drewN | apply below_drew1 | refine below_set ?_ GE103.out) | exact HB.out)⟩⟩
         ·rw [if_neg c26] at H
          exact absurd H (by simp)
        ·rw [if_neg c25] at H
         exact absurd H (by simp)
       ·rw [if_neg c24] at H
        have c24b0 : decide (0 ≤ x2_2) = false := decide_eq_false c24
        clear c24
        obtain rfl := Option.some.inj H
        go_wp2
        go_ret
        exact ⟨by first | rfl | (simp [errW_none, errW_some] <;> rfl) | (simp [*, errW_none, errW_some] <;> rfl), by repeat (first | (with_reducible first | exact HB.out | apply below_alloc | apply pw_below_drewN | apply below_drew1 | refine below_set ?_ GE103.out) | exact HB.out)⟩
end
end Go.Proofs.Ytilopoegoddggaa.X
namespace Go.Proofs
open Go.Shelf
def Try.lays189_ren : Go.Shelf.Ren := ⟨fun | 189 => 31 | 125 => 47 | 257 => 46 | 128 => 62 | 129 => 63 | 294 => 53 | 295 => 54 | 296 => 55 | 297 => 56 | 298 => 57 | 299 => 58 | 216 => 59 | 300 => 60 | 301 => 61 | 328 => 64 | 329 => 65 | 330 => 66 | 331 => 67 | 332 => 68 | 215 => 69 | 343 => 70 | n => n, fun | 28 => 27 | 3 => 3 | 46 => 73 | 0 => 0 | 51 => 88 | 53 => 90 | 4 => 4 | 183 => 80 | 182 => 79 | 131 => 85 | 5 => 5 | 9 => 9 | 218 => 91 | 222 => 95 | 228 => 97 | 229 => 98 | n => n, fun | n => n⟩
theorem Try.lays189 : Go.Proofs.Lays.n189 Try.prog Try.lays189_ren := {
 mixed := by kernel_rfl
 f125 := Try.func47.trans (congrArg some (by kernel_rfl))
 f128 := Try.func62.trans (congrArg some (by kernel_rfl))
 f129 := Try.func63.trans (congrArg some (by kernel_rfl))
 f189 := Try.func31.trans (congrArg some (by kernel_rfl))
 f215 := Try.func69.trans (congrArg some (by kernel_rfl))
 f216 := Try.func59.trans (congrArg some (by kernel_rfl))
 f257 := Try.func46.trans (congrArg some (by kernel_rfl))
 f294 := Try.func53.trans (congrArg some (by kernel_rfl))
 f295 := Try.func54.trans (congrArg some (by kernel_rfl))
 f296 := Try.func55.trans (congrArg some (by kernel_rfl))
 f297 := Try.func56.trans (congrArg some (by kernel_rfl))
 f298 := Try.func57.trans (congrArg some (by kernel_rfl))
 f299 := Try.func58.trans (congrArg some (by kernel_rfl))
 f300 := Try.func60.trans (congrArg some (by kernel_rfl))
 f301 := Try.func61.trans (congrArg some (by kernel_rfl))
 f328 := Try.func64.trans (congrArg some (by kernel_rfl))
 f329 := Try.func65.trans (congrArg some (by kernel_rfl))
 f330 := Try.func66.trans (congrArg some (by kernel_rfl))
 f331 := Try.func67.trans (congrArg some (by kernel_rfl))
 f332 := Try.func68.trans (congrArg some (by kernel_rfl))
 f343 := Try.func70.trans (congrArg some (by kernel_rfl))
 t0 := Try.underlying0
 a0 := Try.isAgg0
 z0 := Try.sizeOf0
 v0 := Try.zeroValue0
 t3 := Try.underlying3
 a3 := Try.isAgg3
 z3 := Try.sizeOf3
 v3 := Try.zeroValue3
 t4 := Try.underlying4
 a4 := Try.isAgg4
 z4 := Try.sizeOf4
 v4 := Try.zeroValue4
 t5 := Try.underlying5
 a5 := Try.isAgg5
 z5 := Try.sizeOf5
 v5 := Try.zeroValue5
 t9 := Try.underlying9
 a9 := Try.isAgg9
 z9 := Try.sizeOf9
 v9 := Try.zeroValue9
 t28 := Try.underlying27
 a28 := Try.isAgg27
 z28 := Try.sizeOf27
 v28 := Try.zeroValue27
 t46 := Try.underlying73
 a46 := Try.isAgg73
 z46 := Try.sizeOf73
 v46 := Try.zeroValue73
 t51 := Try.underlying88
 a51 := Try.isAgg88
 z51 := Try.sizeOf88
 v51 := Try.zeroValue88
 t53 := Try.underlying90
 a53 := Try.isAgg90
 z53 := Try.sizeOf90
 v53 := Try.zeroValue90
 t131 := Try.underlying85
 a131 := Try.isAgg85
 z131 := Try.sizeOf85
 v131 := Try.zeroValue85
 t182 := Try.underlying79
 a182 := Try.isAgg79
 z182 := Try.sizeOf79
 v182 := Try.zeroValue79
 t183 := Try.underlying80
 a183 := Try.isAgg80
 z183 := Try.sizeOf80
 v183 := Try.zeroValue80
 t218 := Try.underlying91
 a218 := Try.isAgg91
 z218 := Try.sizeOf91
 v218 := Try.zeroValue91
 t222 := Try.underlying95
 a222 := Try.isAgg95
 z222 := Try.sizeOf95
 v222 := Try.zeroValue95
 t228 := Try.underlying97
 a228 := Try.isAgg97
 z228 := Try.sizeOf97
 v228 := Try.zeroValue97
 t229 := Try.underlying98
 a229 := Try.isAgg98
 z229 := Try.sizeOf98
 v229 := Try.zeroValue98 }
open Go.Sort Go.RowKit in
theorem Try.slices_Sort_int (blk off cap : Nat) (zs : List Int) (w : World) (hH : Holds (Value.int .i64) w blk off zs.toArray) (hblk : blk < w.heap.size) (hsz : zs.length < 4611686018427387904) :
  Calls Try.prog 31 #[.slice (some ⟨blk, off, none⟩) zs.length cap] w fun e w' =>
   e = .returned (.tuple #[]) ∧ ∃ n os, w' = grow (putRow (Value.int .i64) (Sort.ahead w n) blk off (zs.mergeSort fun x y => decide (x ≤ y)).toArray) os := Any.slices_Sort_int Try.lays189 blk off cap zs w hH hblk hsz
def Try.laysNm220_ren : Go.Shelf.Ren := ⟨fun | 20 => 32 | n => n, fun | 22 => 27 | 3 => 3 | 4 => 4 | 0 => 0 | n => n, fun | n => n⟩
theorem Try.laysNm220 : Go.Proofs.Lays2.n20 Try.prog Try.laysNm220_ren := {
 mixed := by kernel_rfl
 f20 := Try.func32.trans (congrArg some (by kernel_rfl))
 t0 := Try.underlying0
 a0 := Try.isAgg0
 z0 := Try.sizeOf0
 v0 := Try.zeroValue0
 t3 := Try.underlying3
 a3 := Try.isAgg3
 z3 := Try.sizeOf3
 v3 := Try.zeroValue3
 t4 := Try.underlying4
 a4 := Try.isAgg4
 z4 := Try.sizeOf4
 v4 := Try.zeroValue4
 t22 := Try.underlying27
 a22 := Try.isAgg27
 z22 := Try.sizeOf27
 v22 := Try.zeroValue27
 i3 := by kernel_rfl }
open Go.RowKit Go.Lib Go.Sort in
theorem Try.slices_Compact_int (blk off cap : Nat) (zs : List Int) (w : World) (hH : Holds (Value.int .i64) w blk off zs.toArray) (hsz : zs.length ≤ 9223372036854775807) (hcap : zs.length ≤ cap) :
  Calls Try.prog 32 #[.slice (some ⟨blk, off, none⟩) zs.length cap] w fun e w' => e = .returned (.slice (some ⟨blk, off, none⟩) (Lib.compact zs).length cap) ∧ ∃ q, w' = putRow (Value.int .i64) (Sort.ahead w q) blk off (Lib.compact zs ++ List.replicate (zs.length - (Lib.compact zs).length) 0).toArray := Any.slices_Compact_int Try.laysNm220 blk off cap zs w hH hsz hcap
open Go.RowKit Go.Lib Go.Sort in
theorem Try.slices_Compact_int_empty (a : Option Addr) (cap : Nat) (w : World) :
  Calls Try.prog 32 #[.slice a 0 cap] w fun e w' => e = .returned (.slice a 0 cap) ∧ w' = w := Any.slices_Compact_int_empty Try.laysNm220 a cap w
open Go.RowKit Go.Sort in
theorem Try.slices_Sort_int_none (p : Option Addr) (cap : Nat) (w : World) :
  Calls Try.prog 31 #[.slice p 0 cap] w fun e w' => e = .returned (.tuple #[]) ∧ w' = w := Any.slices_Sort_int_none Try.lays189 p cap w
end Go.Proofs
namespace Go.Proofs.Ytilopoegoddggaa.X
open Go.Shelf Go.RowKit Go.Sort Go.Proofs.YtilopoegoddggaaW.PrintWords Go.Proofs.YtilopoegoddggaaW.PrintLast Go.Proofs.YtilopoegoddggaaW.PrintMore
set_option linter.all false
def slices_Sort_int_int.f (l0 : List Int) : Option (List Int) := if l0.length ≤ 1000000 then some (l0.mergeSort fun x y => decide (x ≤ y)) else none
def slices_Compact_int_int.f (l0 : List Int) : Option (List Int) := if l0.length ≤ 1000000 then some (Lib.compact l0) else none
theorem R_laid {W : World} {base g cap : Nat} {ok : Nat → Prop} {l ts : List Int} (h : Kd.R (Kd.int .i64) 3 W base ok (.slice (some ⟨g, 0, none⟩) l.length cap) l) (hl : ts.length = l.length) (n : Nat) (os : Array Obj) :
  Kd.R (Kd.int .i64) 3 (grow (putRow (Value.int .i64) (Sort.ahead W n) g 0 ts.toArray) os) base ok (.slice (some ⟨g, 0, none⟩) l.length cap) ts := by
 have ho := Kd.own_of_R (enc := Value.int .i64) h
 obtain ⟨_, ho2⟩ := ho
 rcases ho2 with ⟨hv, _⟩ | ⟨g', cap', cur, hv, hb, hh, hnc, hcm, hcs, ht⟩
 ·cases hv
 injection hv with ha _ hc
 injection ha with ha
 injection ha with hg
 subst hg; subst hc
 have := ownsRow_sortedI (n := n) (os := os) (ss := l) hl hb hh hnc hcm hcs
 refine Kd.R_of_own (enc := Value.int .i64) ?_ h.1
 rw [hl]
 exact this
theorem R_holds {W : World} {base g cap : Nat} {ok : Nat → Prop} {l : List Int} (h : Kd.R (Kd.int .i64) 3 W base ok (.slice (some ⟨g, 0, none⟩) l.length cap) l) : Holds (Value.int .i64) W g 0 l.toArray := by
 have ho := Kd.own_of_R (enc := Value.int .i64) h
 obtain ⟨_, ho2⟩ := ho
 rcases ho2 with ⟨hv, _⟩ | ⟨g', cap', cur, hv, hb, hh, hnc, hcm, hcs, ht⟩
 ·cases hv
 injection hv with ha _ hc
 injection ha with ha
 injection ha with hg
 subst hg
 refine holds_of_blockI hh ?_
 rw [Nat.mul_one] at ht
 exact ht
theorem slices_Sort_int_int.calls (P0_ : Nat → Prop) (u9000_ : Value) (l0 : List Int) (r : List Int) (w0 w : World) (hB : Below w0.heap.size w0 w) (ho0 : Kd.R (Kd.int .i64) 3 w w0.heap.size P0_ u9000_ l0) (h : slices_Sort_int_int.f l0 = some r) :
  Calls Try.prog 31 #[u9000_] w fun e w' => e = .returned (.tuple #[]) ∧ Kd.R (Kd.int .i64) 3 w' w0.heap.size (fun k_ => (P0_ k_ ∨ w.heap.size ≤ k_)) u9000_ r ∧ Below w0.heap.size w0 w' ∧ Kept w w' (fun k_ => P0_ k_) := by
 unfold slices_Sort_int_int.f at h
 by_cases hl : l0.length ≤ 1000000
 ·rw [if_pos hl] at h
  obtain rfl := Option.some.inj h
  by_cases h0 : l0.length = 0
  ·obtain ⟨A, c, rfl, hc, hC⟩ := Kd.R_reads ho0
   obtain rfl := List.eq_nil_of_length_eq_zero h0
   refine (Try.slices_Sort_int_none A c w).mono ?_
   rintro e w' ⟨rfl, rfl⟩
   refine ⟨rfl, ?_, hB, ⟨Nat.le_refl _, fun _ _ _ => rfl⟩⟩
   simpa using Kd.R_mono ho0 (fun k hk => .inl hk)
  ·obtain ⟨go, co, rfl, gb, gl, cl, hg⟩ := Kd.R_form ho0 (by omega)
   refine (Try.slices_Sort_int go 0 co l0 w (R_holds ho0) gl (by omega)).mono ?_
   rintro e w' ⟨rfl, n, os, rfl⟩
   have hgr := grownBy_sortedI (w := w) (g := go) (n := n) (os := os) (l0.mergeSort fun x y => decide (x ≤ y)).toArray
   refine ⟨rfl, Kd.R_mono (R_laid ho0 (List.length_mergeSort l0) n os) (fun k hk => .inl hk), hB.grown hgr hB.size (fun k hk => by injection hk with hk; omega), ⟨hgr.size, fun i hi hS => hgr.block i hi (fun he => hS ?_)⟩⟩
   injection he with he
   subst he
   exact ho0.1 i (by simp [Value.ownBlock])
 ·rw [if_neg hl] at h; cases h
theorem compact_len (l : List Int) : (Lib.compact l).length ≤ l.length := by
 unfold Lib.compact Lib.compactUpTo
 rw [List.length_map]
 exact Nat.le_trans (List.length_filter_le _ _) (by simp)
theorem slices_Compact_int_int.calls (P0_ : Nat → Prop) (u9000_ : Value) (l0 : List Int) (r : List Int) (w0 w : World) (hB : Below w0.heap.size w0 w) (ho0 : Kd.R (Kd.int .i64) 3 w w0.heap.size P0_ u9000_ l0) (h : slices_Compact_int_int.f l0 = some r) :
  Calls Try.prog 32 #[u9000_] w fun e w' => ∃ v0_ : Value, e = .returned v0_ ∧ Kd.R (Kd.int .i64) 3 w' w0.heap.size (fun k_ => (P0_ k_ ∨ w.heap.size ≤ k_)) v0_ r ∧ Below w0.heap.size w0 w' ∧ Kept w w' (fun k_ => P0_ k_) := by
 unfold slices_Compact_int_int.f at h
 by_cases hl : l0.length ≤ 1000000
 ·rw [if_pos hl] at h
  obtain rfl := Option.some.inj h
  by_cases h0 : l0.length = 0
  ·obtain ⟨A, c, rfl, hc, hC⟩ := Kd.R_reads ho0
   obtain rfl := List.eq_nil_of_length_eq_zero h0
   refine (Try.slices_Compact_int_empty A c w).mono ?_
   rintro e w' ⟨rfl, rfl⟩
   refine ⟨_, rfl, ?_, hB, ⟨Nat.le_refl _, fun _ _ _ => rfl⟩⟩
   exact Kd.R_mono ho0 (fun k hk => .inl hk)
  ·obtain ⟨go, co, rfl, gb, gl, cl, hg⟩ := Kd.R_form ho0 (by omega)
   refine (Try.slices_Compact_int go 0 co l0 w (R_holds ho0) (by omega) (Kd.R_reads' ho0).2.1).mono ?_
   rintro e w' ⟨rfl, n, rfl⟩
   have hgr := grownBy_sortedI (w := w) (g := go) (n := n) (os := #[]) (Lib.compact l0 ++ List.replicate (l0.length - (Lib.compact l0).length) 0).toArray
   have hR := R_laid ho0 (ts := Lib.compact l0 ++ List.replicate (l0.length - (Lib.compact l0).length) 0) (by have := compact_len l0; simp; omega) n #[]
   rw [grow_empty] at hgr hR
   have hT := Kd.R_take hR (m := (Lib.compact l0).length) (by have := compact_len l0; simp)
   rw [List.take_left] at hT
   refine ⟨_, rfl, Kd.R_mono hT (fun k hk => .inl hk), hB.grown hgr hB.size (fun k hk => by injection hk with hk; omega), ⟨hgr.size, fun i hi hS => hgr.block i hi (fun he => hS ?_)⟩⟩
   injection he with he
   subst he
   exact ho0.1 i (by simp [Value.ownBlock])
 ·rw [if_neg hl] at h; cases h
end Go.Proofs.Ytilopoegoddggaa.X
namespace Go.Proofs.Ytilopoegoddggaa.X
open Go.RowKit Go.Proofs.YtilopoegoddggaaW.PrintWords Go.Proofs.YtilopoegoddggaaW.PrintLast Go.Proofs.YtilopoegoddggaaW.PrintMore
attribute [local go_sem] max2_int min2_int max_two min_two max_three min_three max_four min_four
set_option linter.all false
noncomputable section
mutual
def dom_Edge.l0 : Nat → Int → List Int → Int → Int → Int → Int → List (S50) → Option (List Int)
 | 0, _, _, _, _, _, _, _ => none
 | k + 1, x1, x5, x11, x12, x113000, x113001, x113002 => if x12 < x11 then ((dom_Is.f k x113000 x113001 x113002 x1 x12).bind fun t117 => (if t117 = true then ((flow_Next.f x113000 x113001 x113002 x12).bind fun t118 => (dom_Edge.l1 k x1 x5 x11 x12 t118 (t118.length : Int) 0 x113000 x113001 x113002)) else (dom_Edge.l0 k x1 x5 x11 (wrap64 (x12 + 1)) x113000 x113001 x113002))) else ((slices_Sort_int_int.f x5).bind fun t113 => ((slices_Compact_int_int.f t113).bind fun t114 => (some t114)))
def dom_Edge.l1 : Nat → Int → List Int → Int → Int → List Int → Int → Int → Int → Int → List (S50) → Option (List Int)
 | 0, _, _, _, _, _, _, _, _, _, _ => none
 | k + 1, x1, x5, x11, x12, x22, x23, x24, x113000, x113001, x113002 => if x24 < x23 then (if 0 ≤ x24 then (if x24 < (x22.length : Int) then (if (rd x22 x24) = x1 then (if x5.length < 17592186044416 then (dom_Edge.l1 k x1 (x5 ++ [rd x22 x24]) x11 x12 x22 x23 (wrap64 (x24 + 1)) x113000 x113001 x113002) else (none)) else ((dom_Is.f k x113000 x113001 x113002 x1 (rd x22 x24)).bind fun t125 => (if t125 = true then (dom_Edge.l1 k x1 x5 x11 x12 x22 x23 (wrap64 (x24 + 1)) x113000 x113001 x113002) else (if x5.length < 17592186044416 then (dom_Edge.l1 k x1 (x5 ++ [rd x22 x24]) x11 x12 x22 x23 (wrap64 (x24 + 1)) x113000 x113001 x113002) else (none))))) else (none)) else (none)) else (dom_Edge.l0 k x1 x5 x11 (wrap64 (x12 + 1)) x113000 x113001 x113002)
end
def dom_Edge.f (k : Nat) (a0_0 : Int) (a0_1 : Int) (l0_2 : List (S50)) (a1 : Int) : Option (List Int) := dom_Edge.l0 k a1 ([] : List Int) (l0_2.length : Int) 0 a0_0 a0_1 l0_2
theorem dom_Edge.mono_l : ∀ k, (∀ y0 y1 y2 y3 y4 y5 y6, LeO (dom_Edge.l0 k y0 y1 y2 y3 y4 y5 y6) (dom_Edge.l0 (k + 1) y0 y1 y2 y3 y4 y5 y6)) ∧ (∀ y0 y1 y2 y3 y4 y5 y6 y7 y8 y9, LeO (dom_Edge.l1 k y0 y1 y2 y3 y4 y5 y6 y7 y8 y9) (dom_Edge.l1 (k + 1) y0 y1 y2 y3 y4 y5 y6 y7 y8 y9))
 | 0 => ⟨fun _ _ _ _ _ _ _ r h => by simp [dom_Edge.l0] at h, fun _ _ _ _ _ _ _ _ _ _ r h => by simp [dom_Edge.l1] at h⟩
 | k + 1 => by
  obtain ⟨ih0, ih1⟩ := dom_Edge.mono_l k
  refine ⟨?_, ?_⟩
  ·intro y0 y1 y2 y3 y4 y5 y6
   unfold dom_Edge.l0
   repeat' first
   | (with_reducible exact ih0 _ _ _ _ _ _ _)
   | (with_reducible exact ih1 _ _ _ _ _ _ _ _ _ _)
   | (with_reducible exact dom_Is.mono _ _ _ _ _ _)
   | (with_reducible exact LeO.refl _)
   | (with_reducible exact LeO.none _)
   | (with_reducible refine LeO.ite ?_ ?_)
   | (with_reducible refine LeO.bind ?_ (fun _ => ?_))
   | exact ih0 _ _ _ _ _ _ _
   | exact ih1 _ _ _ _ _ _ _ _ _ _
   | exact dom_Is.mono _ _ _ _ _ _
   | exact LeO.none _
   | refine LeO.ite ?_ ?_
   | refine LeO.bind ?_ (fun _ => ?_)
  ·intro y0 y1 y2 y3 y4 y5 y6 y7 y8 y9
   unfold dom_Edge.l1
   repeat' first
   | (with_reducible exact ih0 _ _ _ _ _ _ _)
   | (with_reducible exact ih1 _ _ _ _ _ _ _ _ _ _)
   | (with_reducible exact dom_Is.mono _ _ _ _ _ _)
   | (with_reducible exact LeO.refl _)
   | (with_reducible exact LeO.none _)
   | (with_reducible refine LeO.ite ?_ ?_)
   | (with_reducible refine LeO.bind ?_ (fun _ => ?_))
   | exact ih0 _ _ _ _ _ _ _
   | exact ih1 _ _ _ _ _ _ _ _ _ _
   | exact dom_Is.mono _ _ _ _ _ _
   | exact LeO.none _
   | refine LeO.ite ?_ ?_
   | refine LeO.bind ?_ (fun _ => ?_)
theorem dom_Edge.mono : ∀ a0 a1 a2 a3 k, LeO (dom_Edge.f k a0 a1 a2 a3) (dom_Edge.f (k + 1) a0 a1 a2 a3) := by
 intro a0 a1 a2 a3 k
 obtain ⟨ih0, ih1⟩ := dom_Edge.mono_l k
 unfold dom_Edge.f
 repeat' first
   | (with_reducible exact ih0 _ _ _ _ _ _ _)
   | (with_reducible exact ih1 _ _ _ _ _ _ _ _ _ _)
   | (with_reducible exact dom_Is.mono _ _ _ _ _ _)
   | (with_reducible exact LeO.refl _)
   | (with_reducible exact LeO.none _)
   | (with_reducible refine LeO.ite ?_ ?_)
   | (with_reducible refine LeO.bind ?_ (fun _ => ?_))
   | exact ih0 _ _ _ _ _ _ _
   | exact ih1 _ _ _ _ _ _ _ _ _ _
   | exact dom_Is.mono _ _ _ _ _ _
   | exact LeO.none _
   | refine LeO.ite ?_ ?_
   | refine LeO.bind ?_ (fun _ => ?_)
set_option maxHeartbeats 8000000 in
set_option maxRecDepth 100000 in
theorem dom_Edge.calls (k : Nat) (a0_0 : Int) (a0_1 : Int) (A0_2 : Option Addr) (c0_2 : Nat) (l0_2 : List (S50)) (a1 : Int) (r : List Int) (w : World) (hr0_2 : Kd.C k50 w A0_2 l0_2.length l0_2) (hc0_2 : l0_2.length ≤ c0_2) (h : dom_Edge.f k a0_0 a0_1 l0_2 a1 = some r) :
  Calls Try.prog 17 #[.agg #[.int .i64 a0_0, .int .i64 a0_1, .slice A0_2 l0_2.length c0_2], .int .i64 a1] w fun e w' => ∃ v0_ : Value, e = .returned (v0_) ∧ Kd.R (Kd.int .i64) 3 w' w.heap.size (fun _ => True) v0_ r ∧ Below w.heap.size w w' := by
 have hu24 := Try.underlying24
 have HR0_2 := Aside0.mk hr0_2
 have HC0_2 := Aside0.mk hc0_2
 clear hr0_2 hc0_2
 have HB := Aside0.mk (Below.refl w.heap.size w)
 have H : (dom_Edge.l0 k a1 ([] : List Int) (l0_2.length : Int) 0 a0_0 a0_1 l0_2) = some r := h
 clear h
 have H' := Aside0.mk H
 clear H
 go_enter Try.func17, Try.ntmps17
 go_wp2_with (first | ((with_reducible refine gate_dst (N := 2) rfl ?_); refine box_event ?hg (N := 2) ?hd (cs := #[.int .i64 a0_0, .int .i64 a0_1, .slice A0_2 l0_2.length c0_2]) (t := 24) ?hr ?_; (case hd => rfl); (case hg => rfl); (case hr => first | (go_simp; done) | (go_simp; rfl)); intro gb112 hg w3 hbox hb; have n0_ := Aside0.mk (below_step (by repeat (first | (with_reducible first | exact HB.out | apply below_alloc | apply pw_below_drewN | apply below_drew1) | exact HB.out)) hb); have n1_ := Aside0.mk (hbox); have n2_ := Aside0.mk ((by rw [hg]; exact (below_size (by repeat (first | (with_reducible first | exact HB.out | apply below_alloc | apply pw_below_drewN | apply below_drew1) | exact HB.out))) : w.heap.size ≤ gb112)); have n3_ := Aside0.mk ((by rw [hg]; exact (below_size (by repeat (first | (with_reducible first | exact HB.out | apply below_alloc | apply pw_below_drewN | apply below_drew1) | exact HB.out))) : w.heap.size ≤ gb112)); clear HB; have HB := n0_; have BK112 := n1_; have GW112 := n2_; have GE112 := n3_; clear n0_ n1_ n2_ n3_; clear hb hbox hg; have hcz4_0 : w3.cell? ⟨gb112, 0, none⟩ = some (.int .i64 a0_0) := (blk_cell BK112.out 0).trans rfl; have hcz4_1 : w3.cell? ⟨gb112, 1, none⟩ = some (.int .i64 a0_1) := (blk_cell BK112.out 1).trans rfl; have hcz4_2 : w3.cell? ⟨gb112, 2, none⟩ = some (.slice A0_2 l0_2.length c0_2) := (blk_cell BK112.out 2).trans rfl; have hfz4_0 := blk_frozen BK112.out 0; have hfz4_1 := blk_frozen BK112.out 1; have hfz4_2 := blk_frozen BK112.out 2))
 go_loopg [5, 12] k (fun kq v5 v12 w' => ∃ (x5_1 : List Int) (x12_1 : Int), v12 = .int .i64 x12_1 ∧ Aside0 (dom_Edge.l0 kq a1 x5_1 (l0_2.length : Int) x12_1 a0_0 a0_1 l0_2 = some r) ∧ Aside0 (kq ≤ k) ∧ Aside0 (Kd.R (Kd.int .i64) 3 w' w.heap.size (fun _ => True) v5 x5_1) ∧ Aside0 (w'.heap[gb112]? = some (.cells #[.int .i64 a0_0, .int .i64 a0_1, (.slice A0_2 l0_2.length c0_2)] 24 (0, 0))) ∧ Aside0 (Below w.heap.size w w'))
 case atStart => exact ⟨(([] : List Int)), (0), (by first | rfl | (simp; done) | (simp [*]; done)), H', ⟨Nat.le_refl _⟩, ⟨by first | exact Kd.R_nil _ _ _ _ _ | exact Kd.N_nil _ _ _ _ _ | exact Kd.V_nil _ _ _ _ _ | exact Kd.Q_nil _ _ _ _ _ | exact Kd.S_nil _ _ _ _ _⟩, ⟨by (with_reducible repeat (first | refine blk_drewN ?_ _ | refine blk_drew ?_ | refine blk_alloc ?_ _)); exact BK112.out⟩, ⟨by repeat (first | (with_reducible first | exact HB.out | apply below_alloc | apply pw_below_drewN | apply below_drew1 | refine below_set ?_ GE112.out) | exact HB.out)⟩⟩
 case round =>
  clear H'
  try clear c1
  try clear p2
  try clear hcz4_0
  try clear hcz4_1
  try clear hcz4_2
  try clear hfz4_0
  try clear hfz4_1
  try clear hfz4_2
  obtain ⟨x5_1, x12_1, rfl, HA, HK1, HO_5, BK112, HB⟩ := hrel
  cases gk with
  | zero => exact absurd HA.out (by simp [dom_Edge.l0])
  | succ k1 =>
   have H := HA.out
   clear HA
   simp only [dom_Edge.l0] at H
   by_cases c5 : x12_1 < (l0_2.length : Int)
   ·rw [if_pos c5] at H
    have c5b0 : decide (x12_1 < (l0_2.length : Int)) = true := decide_eq_true c5
    clear c5
    replace H := Option.bind_eq_some_iff.mp H
    obtain ⟨t117, A60, H⟩ := H
    replace H : (if t117 = true then ((flow_Next.f a0_0 a0_1 l0_2 x12_1).bind fun t118 => (dom_Edge.l1 k1 a1 x5_1 (l0_2.length : Int) x12_1 t118 (t118.length : Int) 0 a0_0 a0_1 l0_2)) else (dom_Edge.l0 k1 a1 x5_1 (l0_2.length : Int) (wrap64 (x12_1 + 1)) a0_0 a0_1 l0_2)) = some r := H
    have A6 := Aside0.mk A60
    clear A60
    by_cases c7 : t117 = true
    ·subst c7
     have H1 : ((flow_Next.f a0_0 a0_1 l0_2 x12_1).bind fun t118 => (dom_Edge.l1 k1 a1 x5_1 (l0_2.length : Int) x12_1 t118 (t118.length : Int) 0 a0_0 a0_1 l0_2)) = some r := by rw [if_pos rfl] at H; exact H
     clear H
     have H := H1
     clear H1
     replace H := Option.bind_eq_some_iff.mp H
     obtain ⟨t118, A80, H⟩ := H
     replace H : (dom_Edge.l1 k1 a1 x5_1 (l0_2.length : Int) x12_1 t118 (t118.length : Int) 0 a0_0 a0_1 l0_2) = some r := H
     have A8 := Aside0.mk A80
     clear A80
     have H' := Aside0.mk H
     clear H
     have hcz9_0 : wr.cell? ⟨gb112, 0, none⟩ = some (.int .i64 a0_0) := (blk_cell BK112.out 0).trans rfl
     have hcz9_1 : wr.cell? ⟨gb112, 1, none⟩ = some (.int .i64 a0_1) := (blk_cell BK112.out 1).trans rfl
     have hcz9_2 : wr.cell? ⟨gb112, 2, none⟩ = some (.slice A0_2 l0_2.length c0_2) := (blk_cell BK112.out 2).trans rfl
     have hfz9_0 := blk_frozen BK112.out 0
     have hfz9_1 := blk_frozen BK112.out 1
     have hfz9_2 := blk_frozen BK112.out 2
     go_wp2_with (first | ((with_reducible refine gate_callee (f := 15) rfl ?_); refine goesL_ (some 18) rfl rfl Try.func15 (by kernel_rfl) rfl #[.agg #[.int .i64 a0_0, .int .i64 a0_1, .slice A0_2 l0_2.length c0_2], .int .i64 a1, .int .i64 x12_1] rfl (by (try simp only [List.map_toArray, List.map_cons, List.map_nil]); first | done | rfl | (simp only [List.length_drop, List.length_take]; rfl)) ?_; (with_reducible refine (dom_Is.calls k1 a0_0 a0_1 _ _ l0_2 a1 x12_1 true _ ?side1 ?side2 A6.out).mono ?_); (case side1 => repeat (first | exact (Kd.C_below HR0_2.out HB.out) | (with_reducible refine Kd.C_alloc ?_ _) | (with_reducible refine Kd.C_drewN ?_ _) | (with_reducible refine Kd.C_drew ?_))); (case side2 => exact HC0_2.out); rintro e w10 ⟨rfl, hb⟩; refine ⟨_, rfl, ?_⟩; have n0_ := Aside0.mk (Kd.R_below (by (with_reducible repeat (first | apply Kd.R_alloc | apply Kd.R_drewN | apply Kd.R_drew)); exact HO_5.out) hb); have n1_ := Aside0.mk (blk_below (g := gb112) (o := .cells #[.int .i64 a0_0, .int .i64 a0_1, .slice A0_2 l0_2.length c0_2] 24 (0, 0)) (by (with_reducible repeat (first | refine blk_drewN ?_ _ | refine blk_drew ?_ | refine blk_alloc ?_ _)); exact BK112.out) hb); have n2_ := Aside0.mk (below_step (by repeat (first | (with_reducible first | exact HB.out | apply below_alloc | apply pw_below_drewN | apply below_drew1 | refine below_set ?_ GE112.out) | exact HB.out)) hb); clear HO_5; clear BK112; clear HB; have HO_5 := n0_; have BK112 := n1_; have HB := n2_; clear n0_ n1_ n2_; (try clear hb); (try clear hb2); (try clear hk); (try clear hi); have hcz11_0 : w10.cell? ⟨gb112, 0, none⟩ = some (.int .i64 a0_0) := (blk_cell BK112.out 0).trans rfl; have hcz11_1 : w10.cell? ⟨gb112, 1, none⟩ = some (.int .i64 a0_1) := (blk_cell BK112.out 1).trans rfl; have hcz11_2 : w10.cell? ⟨gb112, 2, none⟩ = some (.slice A0_2 l0_2.length c0_2) := (blk_cell BK112.out 2).trans rfl; have hfz11_0 := blk_frozen BK112.out 0; have hfz11_1 := blk_frozen BK112.out 1; have hfz11_2 := blk_frozen BK112.out 2) | ((with_reducible refine gate_callee (f := 20) rfl ?_); refine goesL_ (some 22) rfl rfl Try.func20 (by kernel_rfl) rfl #[.agg #[.int .i64 a0_0, .int .i64 a0_1, .slice A0_2 l0_2.length c0_2], .int .i64 x12_1] rfl (by (try simp only [List.map_toArray, List.map_cons, List.map_nil]); first | done | rfl | (simp only [List.length_drop, List.length_take]; rfl)) ?_; (with_reducible refine (flow_Next.calls a0_0 a0_1 _ _ l0_2 x12_1 t118 _ ?side1 ?side2 A8.out).mono ?_); (case side1 => repeat (first | exact (Kd.C_below HR0_2.out HB.out) | (with_reducible refine Kd.C_alloc ?_ _) | (with_reducible refine Kd.C_drewN ?_ _) | (with_reducible refine Kd.C_drew ?_))); (case side2 => exact HC0_2.out); rintro e w12 ⟨v119, rfl, ho0, hb⟩; refine ⟨_, rfl, ?_⟩; have n0_ := Aside0.mk (Kd.R_elder' (by (with_reducible repeat (first | apply Kd.R_alloc | apply Kd.R_drewN | apply Kd.R_drew)); exact HO_5.out) (Kd.R_base ho0) hb); have n1_ := Aside0.mk (Kd.R_lower (Kd.R_new' ho0 (Kd.R_lt (by (with_reducible repeat (first | apply Kd.R_alloc | apply Kd.R_drewN | apply Kd.R_drew)); exact HO_5.out))) (below_size (by repeat (first | (with_reducible first | exact HB.out | apply below_alloc | apply pw_below_drewN | apply below_drew1 | refine below_set ?_ GE112.out) | exact HB.out)))); have n2_ := Aside0.mk (blk_below (g := gb112) (o := .cells #[.int .i64 a0_0, .int .i64 a0_1, .slice A0_2 l0_2.length c0_2] 24 (0, 0)) (by (with_reducible repeat (first | refine blk_drewN ?_ _ | refine blk_drew ?_ | refine blk_alloc ?_ _)); exact BK112.out) hb); have n3_ := Aside0.mk (below_step (by repeat (first | (with_reducible first | exact HB.out | apply below_alloc | apply pw_below_drewN | apply below_drew1 | refine below_set ?_ GE112.out) | exact HB.out)) hb); clear HO_5; clear BK112; clear HB; have HO_5 := n0_; have HO120 := n1_; have BK112 := n2_; have HB := n3_; clear n0_ n1_ n2_ n3_; (try clear hb); (try clear hb2); (try clear hk); (try clear hi); (try clear ho0); obtain ⟨Ao13, co13, eo13⟩ := Kd.R_slice HO120.out; subst eo13))
     go_loopg [5, 24] k1 (fun kq v5 v24 w' => ∃ (x5_2 : List Int) (x24_2 : Int), v24 = .int .i64 x24_2 ∧ Aside0 (dom_Edge.l1 kq a1 x5_2 (l0_2.length : Int) x12_1 t118 (t118.length : Int) x24_2 a0_0 a0_1 l0_2 = some r) ∧ Aside0 (kq ≤ k1) ∧ Aside0 (Kd.R (Kd.int .i64) 3 w' w.heap.size (fun k_ => some k_ ≠ ((.slice Ao13 t118.length co13) : Value).ownBlock) v5 x5_2) ∧ Aside0 (Kd.R (Kd.int .i64) 3 w' w.heap.size (fun k_ => some k_ ≠ (v5 : Value).ownBlock) (.slice Ao13 t118.length co13) t118) ∧ Aside0 (w'.heap[gb112]? = some (.cells #[.int .i64 a0_0, .int .i64 a0_1, (.slice A0_2 l0_2.length c0_2)] 24 (0, 0))) ∧ Aside0 (Below w.heap.size w w'))
     case atStart => exact ⟨(x5_1), (0), (by first | rfl | (simp; done) | (simp [*]; done)), H', ⟨Nat.le_refl _⟩, ⟨by (with_reducible repeat (first | apply Kd.R_alloc | apply Kd.R_drewN | apply Kd.R_drew)); exact Kd.R_mono HO_5.out (fun _ hk => hk.2)⟩, ⟨by (with_reducible repeat (first | apply Kd.R_alloc | apply Kd.R_drewN | apply Kd.R_drew)); exact Kd.R_mono HO120.out (fun _ hk => hk.2)⟩, ⟨by (with_reducible repeat (first | refine blk_drewN ?_ _ | refine blk_drew ?_ | refine blk_alloc ?_ _)); exact BK112.out⟩, ⟨by repeat (first | (with_reducible first | exact HB.out | apply below_alloc | apply pw_below_drewN | apply below_drew1 | refine below_set ?_ GE112.out) | exact HB.out)⟩⟩
     case round =>
      clear H'
      try clear c1
      try clear c2
      try clear p2
      try clear c5
      try clear c5b0
      try clear p6
      try clear c7
      try clear hcz11_0
      try clear hcz11_1
      try clear hcz11_2
      try clear hcz4_0
      try clear hcz4_1
      try clear hcz4_2
      try clear hcz9_0
      try clear hcz9_1
      try clear hcz9_2
      try clear hfz11_0
      try clear hfz11_1
      try clear hfz11_2
      try clear hfz4_0
      try clear hfz4_1
      try clear hfz4_2
      try clear hfz9_0
      try clear hfz9_1
      try clear hfz9_2
      try clear p2
      obtain ⟨x5_2, x24_2, rfl, HA, HK2, HO_5, HO_22, BK112, HB⟩ := hrel
      cases gk with
      | zero => exact absurd HA.out (by simp [dom_Edge.l1])
      | succ k2 =>
       have H := HA.out
       clear HA
       simp only [dom_Edge.l1] at H
       by_cases c14 : x24_2 < (t118.length : Int)
       ·rw [if_pos c14] at H
        have c14b0 : decide (x24_2 < (t118.length : Int)) = true := decide_eq_true c14
        clear c14
        by_cases c15 : 0 ≤ x24_2
        ·rw [if_pos c15] at H
         have c15b0 : decide (0 ≤ x24_2) = true := decide_eq_true c15
         clear c15
         by_cases c16 : x24_2 < (t118.length : Int)
         ·rw [if_pos c16] at H
          have c16b0 : decide (x24_2 < (t118.length : Int)) = true := decide_eq_true c16
          clear c16
          by_cases c17 : (rd t118 x24_2) = a1
          ·rw [if_pos c17] at H
           have c17b0 : ((rd t118 x24_2) == a1) = true := beq_iff_eq.mpr c17
           have c17b1 : ((rd t118 x24_2) != a1) = false := bne_eq_false_iff_eq.mpr c17
           clear c17
           by_cases c18 : x5_2.length < 17592186044416
           ·rw [if_pos c18] at H
            have LMc18 := Aside0.mk c18
            clear c18
            obtain ⟨y122, hy122⟩ : ∃ y_ : List Int, y_ = (x5_2 ++ [rd t118 x24_2]) := ⟨_, rfl⟩
            replace H : (dom_Edge.l1 k2 a1 y122 (l0_2.length : Int) x12_1 t118 (t118.length : Int) (wrap64 (x24_2 + 1)) a0_0 a0_1 l0_2) = some r := by first | (rw [hy122]; with_reducible exact H) | (have H2_ := (Option.bind_some _ _).symm.trans H; rw [hy122]; with_reducible exact H2_) | (have H2_ := (Option.bind_some _ _).symm.trans H; with_reducible exact H2_) | with_reducible exact H | (rw [hy122]; exact H) | exact H
            have Ny122 := Aside0.mk hy122
            clear hy122
            have H' := Aside0.mk H
            clear H
            have p121 : 0 ≤ (x24_2 : Int) := of_decide_eq_true (by first | (with_reducible assumption) | assumption)
            have q121 : x24_2 < (t118.length : Int) := of_decide_eq_true (by first | (with_reducible assumption) | assumption)
            obtain ⟨ad121, e121, hx121_0⟩ := Kd.at_int (Kd.R_reads' HO_22.out).2.2 x24_2 p121 q121
            cases e121
            replace p121 := eq_true p121
            replace q121 := eq_true q121
            go_wp2_with (first | ((with_reducible refine gate_builtin (b := .append) (xs := #[.tmp 38, .tmp 40]) rfl ?_); at_builtin; refine Kd.R_append (Kd.int .i64) (w0 := w) w.heap.size rfl (.tmp 38) (.tmp 40) 27 3 (.int .i64 0) 8 rfl Try.underlying27 info3 rfl (by decide) (by omega) u5 x5_2 (rd t118 x24_2) [.int .i64 (rd t118 x24_2)] (fun k_ => some k_ ≠ (.slice (some ad121) t118.length co13 : Value).ownBlock) (fun _ => False) rfl rfl ?aP (fun _ hk => hk.elim) ?aF ?aO ?aB ?aS ?aL ?_; (case aP => exact rfl); (case aB => exact (by repeat (first | (with_reducible first | exact HB.out | apply below_alloc | apply pw_below_drewN | apply below_drew1 | refine below_set ?_ GE112.out) | exact HB.out))); (case aF => exact (fun k_ hk => Kd.fresh' (Kd.R_lt (by (with_reducible repeat (first | apply Kd.R_alloc | apply Kd.R_drewN | apply Kd.R_drew)); exact HO_22.out)) k_ hk)); (case aO => exact (by (with_reducible repeat (first | apply Kd.R_alloc | apply Kd.R_drewN | apply Kd.R_drew)); exact HO_5.out)); (case aS => exact (below_size (by repeat (first | (with_reducible first | exact HB.out | apply below_alloc | apply pw_below_drewN | apply below_drew1 | refine below_set ?_ GE112.out) | exact HB.out)))); (case aL => have := LMc18.out; omega); intro v123 w19 ho hb hg hat; rw [← Ny122.out] at ho; have n0_ := Aside0.mk (Kd.R_after (ok := (fun _ => True)) (by (with_reducible repeat (first | apply Kd.R_alloc | apply Kd.R_drewN | apply Kd.R_drew)); exact Kd.R_mono HO_22.out (fun _ hk => ⟨trivial, hk⟩)) hg hat); have n1_ := Aside0.mk (blk_grown (g := gb112) (o := .cells #[.int .i64 a0_0, .int .i64 a0_1, .slice A0_2 l0_2.length c0_2] 24 (0, 0)) (by (with_reducible repeat (first | refine blk_drewN ?_ _ | refine blk_drew ?_ | refine blk_alloc ?_ _)); exact BK112.out) hg (Kd.R_ne HO_5.out BK112.out (by decide))); have n2_ := Aside0.mk (hb); have n3_ := Aside0.mk (ho); clear HO_22; clear BK112; clear HB; clear HO_5; have HO_22 := n0_; have BK112 := n1_; have HB := n2_; have HO124 := n3_; clear n0_ n1_ n2_ n3_; clear ho hb hg hat))
            go_roundg k2
            case measure => have := HK1.out; have := HK2.out; omega
            case rel => exact ⟨(y122), (wrap64 (x24_2 + 1)), (by first | rfl | (simp; done) | (simp [*]; done)), H', ⟨by have := HK1.out; have := HK2.out; omega⟩, ⟨by (with_reducible repeat (first | apply Kd.R_alloc | apply Kd.R_drewN | apply Kd.R_drew)); exact HO124.out⟩, ⟨by (with_reducible repeat (first | apply Kd.R_alloc | apply Kd.R_drewN | apply Kd.R_drew)); exact Kd.R_mono HO_22.out (fun _ hk => hk.2)⟩, ⟨by (with_reducible repeat (first | refine blk_drewN ?_ _ | refine blk_drew ?_ | refine blk_alloc ?_ _)); exact BK112.out⟩, ⟨by repeat (first | (with_reducible first | exact HB.out | apply below_alloc | apply pw_below_drewN | apply below_drew1 | refine below_set ?_ GE112.out) | exact HB.out)⟩⟩
           ·rw [if_neg c18] at H
            exact absurd H (by simp)
          ·rw [if_neg c17] at H
           have c17b0 : ((rd t118 x24_2) == a1) = false := beq_eq_false_iff_ne.mpr c17
           have c17b1 : ((rd t118 x24_2) != a1) = true := bne_iff_ne.mpr c17
           replace H := Option.bind_eq_some_iff.mp H
           obtain ⟨t125, A200, H⟩ := H
           replace H : (if t125 = true then (dom_Edge.l1 k2 a1 x5_2 (l0_2.length : Int) x12_1 t118 (t118.length : Int) (wrap64 (x24_2 + 1)) a0_0 a0_1 l0_2) else (if x5_2.length < 17592186044416 then (dom_Edge.l1 k2 a1 (x5_2 ++ [rd t118 x24_2]) (l0_2.length : Int) x12_1 t118 (t118.length : Int) (wrap64 (x24_2 + 1)) a0_0 a0_1 l0_2) else (none))) = some r := H
           have A20 := Aside0.mk A200
           clear A200
           by_cases c21 : t125 = true
           ·subst c21
            have H1 : (dom_Edge.l1 k2 a1 x5_2 (l0_2.length : Int) x12_1 t118 (t118.length : Int) (wrap64 (x24_2 + 1)) a0_0 a0_1 l0_2) = some r := by rw [if_pos rfl] at H; exact H
            clear H
            have H := H1
            clear H1
            have H' := Aside0.mk H
            clear H
            have p121 : 0 ≤ (x24_2 : Int) := of_decide_eq_true (by first | (with_reducible assumption) | assumption)
            have q121 : x24_2 < (t118.length : Int) := of_decide_eq_true (by first | (with_reducible assumption) | assumption)
            obtain ⟨ad121, e121, hx121_0⟩ := Kd.at_int (Kd.R_reads' HO_22.out).2.2 x24_2 p121 q121
            cases e121
            replace p121 := eq_true p121
            replace q121 := eq_true q121
            have hcz22_0 : wr.cell? ⟨gb112, 0, none⟩ = some (.int .i64 a0_0) := (blk_cell BK112.out 0).trans rfl
            have hcz22_1 : wr.cell? ⟨gb112, 1, none⟩ = some (.int .i64 a0_1) := (blk_cell BK112.out 1).trans rfl
            have hcz22_2 : wr.cell? ⟨gb112, 2, none⟩ = some (.slice A0_2 l0_2.length c0_2) := (blk_cell BK112.out 2).trans rfl
            have hfz22_0 := blk_frozen BK112.out 0
            have hfz22_1 := blk_frozen BK112.out 1
            have hfz22_2 := blk_frozen BK112.out 2
            go_wp2_with (first | (go_at_call 15; (with_reducible refine (dom_Is.calls k2 a0_0 a0_1 _ _ l0_2 a1 (rd t118 x24_2) true _ ?side1 ?side2 A20.out).mono ?_); (case side1 => repeat (first | exact (Kd.C_below HR0_2.out HB.out) | (with_reducible refine Kd.C_alloc ?_ _) | (with_reducible refine Kd.C_drewN ?_ _) | (with_reducible refine Kd.C_drew ?_))); (case side2 => exact HC0_2.out); rintro e w23 ⟨rfl, hb⟩; have n0_ := Aside0.mk (Kd.R_below (by (with_reducible repeat (first | apply Kd.R_alloc | apply Kd.R_drewN | apply Kd.R_drew)); exact HO_5.out) hb); have n1_ := Aside0.mk (Kd.R_below (by (with_reducible repeat (first | apply Kd.R_alloc | apply Kd.R_drewN | apply Kd.R_drew)); exact HO_22.out) hb); have n2_ := Aside0.mk (blk_below (g := gb112) (o := .cells #[.int .i64 a0_0, .int .i64 a0_1, .slice A0_2 l0_2.length c0_2] 24 (0, 0)) (by (with_reducible repeat (first | refine blk_drewN ?_ _ | refine blk_drew ?_ | refine blk_alloc ?_ _)); exact BK112.out) hb); have n3_ := Aside0.mk (below_step (by repeat (first | (with_reducible first | exact HB.out | apply below_alloc | apply pw_below_drewN | apply below_drew1 | refine below_set ?_ GE112.out) | exact HB.out)) hb); clear HO_5; clear HO_22; clear BK112; clear HB; have HO_5 := n0_; have HO_22 := n1_; have BK112 := n2_; have HB := n3_; clear n0_ n1_ n2_ n3_; (try clear hb); (try clear hb2); (try clear hk); (try clear hi)))
            go_roundg k2
            case measure => have := HK1.out; have := HK2.out; omega
            case rel => exact ⟨(x5_2), (wrap64 (x24_2 + 1)), (by first | rfl | (simp; done) | (simp [*]; done)), H', ⟨by have := HK1.out; have := HK2.out; omega⟩, ⟨by (with_reducible repeat (first | apply Kd.R_alloc | apply Kd.R_drewN | apply Kd.R_drew)); exact HO_5.out⟩, ⟨by (with_reducible repeat (first | apply Kd.R_alloc | apply Kd.R_drewN | apply Kd.R_drew)); exact HO_22.out⟩, ⟨by (with_reducible repeat (first | refine blk_drewN ?_ _ | refine blk_drew ?_ | refine blk_alloc ?_ _)); exact BK112.out⟩, ⟨by repeat (first | (with_reducible first | exact HB.out | apply below_alloc | apply pw_below_drewN | apply below_drew1 | refine below_set ?_ GE112.out) | exact HB.out)⟩⟩
           ·replace c21 := Bool.eq_false_iff.mpr c21
            subst c21
            have H1 : (if x5_2.length < 17592186044416 then (dom_Edge.l1 k2 a1 (x5_2 ++ [rd t118 x24_2]) (l0_2.length : Int) x12_1 t118 (t118.length : Int) (wrap64 (x24_2 + 1)) a0_0 a0_1 l0_2) else (none)) = some r := by rw [if_neg (show ¬ (false = true) by decide)] at H; exact H
            clear H
            have H := H1
            clear H1
            by_cases c24 : x5_2.length < 17592186044416
            ·rw [if_pos c24] at H
             have LMc24 := Aside0.mk c24
             clear c24
             obtain ⟨y126, hy126⟩ : ∃ y_ : List Int, y_ = (x5_2 ++ [rd t118 x24_2]) := ⟨_, rfl⟩
             replace H : (dom_Edge.l1 k2 a1 y126 (l0_2.length : Int) x12_1 t118 (t118.length : Int) (wrap64 (x24_2 + 1)) a0_0 a0_1 l0_2) = some r := by first | (rw [hy126]; with_reducible exact H) | (have H2_ := (Option.bind_some _ _).symm.trans H; rw [hy126]; with_reducible exact H2_) | (have H2_ := (Option.bind_some _ _).symm.trans H; with_reducible exact H2_) | with_reducible exact H | (rw [hy126]; exact H) | exact H
             have Ny126 := Aside0.mk hy126
             clear hy126
             have H' := Aside0.mk H
             clear H
             have p121 : 0 ≤ (x24_2 : Int) := of_decide_eq_true (by first | (with_reducible assumption) | assumption)
             have q121 : x24_2 < (t118.length : Int) := of_decide_eq_true (by first | (with_reducible assumption) | assumption)
             obtain ⟨ad121, e121, hx121_0⟩ := Kd.at_int (Kd.R_reads' HO_22.out).2.2 x24_2 p121 q121
             cases e121
             replace p121 := eq_true p121
             replace q121 := eq_true q121
             have hcz25_0 : wr.cell? ⟨gb112, 0, none⟩ = some (.int .i64 a0_0) := (blk_cell BK112.out 0).trans rfl
             have hcz25_1 : wr.cell? ⟨gb112, 1, none⟩ = some (.int .i64 a0_1) := (blk_cell BK112.out 1).trans rfl
             have hcz25_2 : wr.cell? ⟨gb112, 2, none⟩ = some (.slice A0_2 l0_2.length c0_2) := (blk_cell BK112.out 2).trans rfl
             have hfz25_0 := blk_frozen BK112.out 0
             have hfz25_1 := blk_frozen BK112.out 1
             have hfz25_2 := blk_frozen BK112.out 2
             go_wp2_with (first | (go_at_call 15; (with_reducible refine (dom_Is.calls k2 a0_0 a0_1 _ _ l0_2 a1 (rd t118 x24_2) false _ ?side1 ?side2 A20.out).mono ?_); (case side1 => repeat (first | exact (Kd.C_below HR0_2.out HB.out) | (with_reducible refine Kd.C_alloc ?_ _) | (with_reducible refine Kd.C_drewN ?_ _) | (with_reducible refine Kd.C_drew ?_))); (case side2 => exact HC0_2.out); rintro e w26 ⟨rfl, hb⟩; have n0_ := Aside0.mk (Kd.R_below (by (with_reducible repeat (first | apply Kd.R_alloc | apply Kd.R_drewN | apply Kd.R_drew)); exact HO_5.out) hb); have n1_ := Aside0.mk (Kd.R_below (by (with_reducible repeat (first | apply Kd.R_alloc | apply Kd.R_drewN | apply Kd.R_drew)); exact HO_22.out) hb); have n2_ := Aside0.mk (blk_below (g := gb112) (o := .cells #[.int .i64 a0_0, .int .i64 a0_1, .slice A0_2 l0_2.length c0_2] 24 (0, 0)) (by (with_reducible repeat (first | refine blk_drewN ?_ _ | refine blk_drew ?_ | refine blk_alloc ?_ _)); exact BK112.out) hb); have n3_ := Aside0.mk (below_step (by repeat (first | (with_reducible first | exact HB.out | apply below_alloc | apply pw_below_drewN | apply below_drew1 | refine below_set ?_ GE112.out) | exact HB.out)) hb); clear HO_5; clear HO_22; clear BK112; clear HB; have HO_5 := n0_; have HO_22 := n1_; have BK112 := n2_; have HB := n3_; clear n0_ n1_ n2_ n3_; (try clear hb); (try clear hb2); (try clear hk); (try clear hi)) | ((with_reducible refine gate_builtin (b := .append) (xs := #[.tmp 38, .tmp 40]) rfl ?_); at_builtin; refine Kd.R_append (Kd.int .i64) (w0 := w) w.heap.size rfl (.tmp 38) (.tmp 40) 27 3 (.int .i64 0) 8 rfl Try.underlying27 info3 rfl (by decide) (by omega) u5 x5_2 (rd t118 x24_2) [.int .i64 (rd t118 x24_2)] (fun k_ => some k_ ≠ (.slice (some ad121) t118.length co13 : Value).ownBlock) (fun _ => False) rfl rfl ?aP (fun _ hk => hk.elim) ?aF ?aO ?aB ?aS ?aL ?_; (case aP => exact rfl); (case aB => exact (by repeat (first | (with_reducible first | exact HB.out | apply below_alloc | apply pw_below_drewN | apply below_drew1 | refine below_set ?_ GE112.out) | exact HB.out))); (case aF => exact (fun k_ hk => Kd.fresh' (Kd.R_lt (by (with_reducible repeat (first | apply Kd.R_alloc | apply Kd.R_drewN | apply Kd.R_drew)); exact HO_22.out)) k_ hk)); (case aO => exact (by (with_reducible repeat (first | apply Kd.R_alloc | apply Kd.R_drewN | apply Kd.R_drew)); exact HO_5.out)); (case aS => exact (below_size (by repeat (first | (with_reducible first | exact HB.out | apply below_alloc | apply pw_below_drewN | apply below_drew1 | refine below_set ?_ GE112.out) | exact HB.out)))); (case aL => have := LMc24.out; omega); intro v127 w27 ho hb hg hat; rw [← Ny126.out] at ho; have n0_ := Aside0.mk (Kd.R_after (ok := (fun _ => True)) (by (with_reducible repeat (first | apply Kd.R_alloc | apply Kd.R_drewN | apply Kd.R_drew)); exact Kd.R_mono HO_22.out (fun _ hk => ⟨trivial, hk⟩)) hg hat); have n1_ := Aside0.mk (blk_grown (g := gb112) (o := .cells #[.int .i64 a0_0, .int .i64 a0_1, .slice A0_2 l0_2.length c0_2] 24 (0, 0)) (by (with_reducible repeat (first | refine blk_drewN ?_ _ | refine blk_drew ?_ | refine blk_alloc ?_ _)); exact BK112.out) hg (Kd.R_ne HO_5.out BK112.out (by decide))); have n2_ := Aside0.mk (hb); have n3_ := Aside0.mk (ho); clear HO_22; clear BK112; clear HB; clear HO_5; have HO_22 := n0_; have BK112 := n1_; have HB := n2_; have HO128 := n3_; clear n0_ n1_ n2_ n3_; clear ho hb hg hat))
             go_roundg k2
             case measure => have := HK1.out; have := HK2.out; omega
             case rel => exact ⟨(y126), (wrap64 (x24_2 + 1)), (by first | rfl | (simp; done) | (simp [*]; done)), H', ⟨by have := HK1.out; have := HK2.out; omega⟩, ⟨by (with_reducible repeat (first | apply Kd.R_alloc | apply Kd.R_drewN | apply Kd.R_drew)); exact HO128.out⟩, ⟨by (with_reducible repeat (first | apply Kd.R_alloc | apply Kd.R_drewN | apply Kd.R_drew)); exact Kd.R_mono HO_22.out (fun _ hk => hk.2)⟩, ⟨by (with_reducible repeat (first | refine blk_drewN ?_ _ | refine blk_drew ?_ | refine blk_alloc ?_ _)); exact BK112.out⟩, ⟨by repeat (first | (with_reducible first | exact HB.out | apply below_alloc | apply pw_below_drewN | apply below_drew1 | refine below_set ?_ GE112.out) | exact HB.out)⟩⟩
            ·rw [if_neg c24] at H
             exact absurd H (by simp)
         ·rw [if_neg c16] at H
          exact absurd H (by simp)
        ·rw [if_neg c15] at H
         exact absurd H (by simp)
       ·rw [if_neg c14] at H
        have c14b0 : decide (x24_2 < (t118.length : Int)) = false := decide_eq_false c14
        clear c14
        have H' := Aside0.mk H
        clear H
        go_wp2
        go_roundg k2
        case measure => have := HK1.out; have := HK2.out; omega
        case rel => exact ⟨(x5_2), (wrap64 (x12_1 + 1)), (by first | rfl | (simp; done) | (simp [*]; done)), H', ⟨by have := HK1.out; have := HK2.out; omega⟩, ⟨by (with_reducible repeat (first | apply Kd.R_alloc | apply Kd.R_drewN | apply Kd.R_drew)); exact Kd.R_mono HO_5.out (fun _ hk => trivial)⟩, ⟨by (with_reducible repeat (first | refine blk_drewN ?_ _ | refine blk_drew ?_ | refine blk_alloc ?_ _)); exact BK112.out⟩, ⟨by repeat (first | (with_reducible first | exact HB.out | apply below_alloc | apply pw_below_drewN | apply below_drew1 | refine below_set ?_ GE112.out) | exact HB.out)⟩⟩
    ·replace c7 := Bool.eq_false_iff.mpr c7
     subst c7
     have H1 : (dom_Edge.l0 k1 a1 x5_1 (l0_2.length : Int) (wrap64 (x12_1 + 1)) a0_0 a0_1 l0_2) = some r := by rw [if_neg (show ¬ (false = true) by decide)] at H; exact H
     clear H
     have H := H1
     clear H1
     have H' := Aside0.mk H
     clear H
     have hcz28_0 : wr.cell? ⟨gb112, 0, none⟩ = some (.int .i64 a0_0) := (blk_cell BK112.out 0).trans rfl
     have hcz28_1 : wr.cell? ⟨gb112, 1, none⟩ = some (.int .i64 a0_1) := (blk_cell BK112.out 1).trans rfl
     have hcz28_2 : wr.cell? ⟨gb112, 2, none⟩ = some (.slice A0_2 l0_2.length c0_2) := (blk_cell BK112.out 2).trans rfl
     have hfz28_0 := blk_frozen BK112.out 0
     have hfz28_1 := blk_frozen BK112.out 1
     have hfz28_2 := blk_frozen BK112.out 2
     go_wp2_with (first | ((with_reducible refine gate_callee (f := 15) rfl ?_); refine goesL_ (some 18) rfl rfl Try.func15 (by kernel_rfl) rfl #[.agg #[.int .i64 a0_0, .int .i64 a0_1, .slice A0_2 l0_2.length c0_2], .int .i64 a1, .int .i64 x12_1] rfl (by (try simp only [List.map_toArray, List.map_cons, List.map_nil]); first | done | rfl | (simp only [List.length_drop, List.length_take]; rfl)) ?_; (with_reducible refine (dom_Is.calls k1 a0_0 a0_1 _ _ l0_2 a1 x12_1 false _ ?side1 ?side2 A6.out).mono ?_); (case side1 => repeat (first | exact (Kd.C_below HR0_2.out HB.out) | (with_reducible refine Kd.C_alloc ?_ _) | (with_reducible refine Kd.C_drewN ?_ _) | (with_reducible refine Kd.C_drew ?_))); (case side2 => exact HC0_2.out); rintro e w29 ⟨rfl, hb⟩; refine ⟨_, rfl, ?_⟩; have n0_ := Aside0.mk (Kd.R_below (by (with_reducible repeat (first | apply Kd.R_alloc | apply Kd.R_drewN | apply Kd.R_drew)); exact HO_5.out) hb); have n1_ := Aside0.mk (blk_below (g := gb112) (o := .cells #[.int .i64 a0_0, .int .i64 a0_1, .slice A0_2 l0_2.length c0_2] 24 (0, 0)) (by (with_reducible repeat (first | refine blk_drewN ?_ _ | refine blk_drew ?_ | refine blk_alloc ?_ _)); exact BK112.out) hb); have n2_ := Aside0.mk (below_step (by repeat (first | (with_reducible first | exact HB.out | apply below_alloc | apply pw_below_drewN | apply below_drew1 | refine below_set ?_ GE112.out) | exact HB.out)) hb); clear HO_5; clear BK112; clear HB; have HO_5 := n0_; have BK112 := n1_; have HB := n2_; clear n0_ n1_ n2_; (try clear hb); (try clear hb2); (try clear hk); (try clear hi)))
     go_roundg k1
     case measure => have := HK1.out; omega
     case rel => exact ⟨(x5_1), (wrap64 (x12_1 + 1)), (by first | rfl | (simp; done) | (simp [*]; done)), H', ⟨by have := HK1.out; omega⟩, ⟨by (with_reducible repeat (first | apply Kd.R_alloc | apply Kd.R_drewN | apply Kd.R_drew)); exact HO_5.out⟩, ⟨by (with_reducible repeat (first | refine blk_drewN ?_ _ | refine blk_drew ?_ | refine blk_alloc ?_ _)); exact BK112.out⟩, ⟨by repeat (first | (with_reducible first | exact HB.out | apply below_alloc | apply pw_below_drewN | apply below_drew1 | refine below_set ?_ GE112.out) | exact HB.out)⟩⟩
   ·rw [if_neg c5] at H
    have c5b0 : decide (x12_1 < (l0_2.length : Int)) = false := decide_eq_false c5
    clear c5
    replace H := Option.bind_eq_some_iff.mp H
    obtain ⟨t113, A300, H⟩ := H
    replace H : ((slices_Compact_int_int.f t113).bind fun t114 => (some t114)) = some r := H
    have A30 := Aside0.mk A300
    clear A300
    replace H := Option.bind_eq_some_iff.mp H
    obtain ⟨t114, A310, H⟩ := H
    replace H : (some t114) = some r := H
    have A31 := Aside0.mk A310
    clear A310
    obtain rfl := Option.some.inj H
    obtain ⟨Ao32, co32, eo32⟩ := Kd.R_slice HO_5.out
    subst eo32
    go_wp2_with (first | ((with_reducible refine gate_callee (f := 31) rfl ?_); refine goesL_ (some 45) rfl rfl Try.func31 (by kernel_rfl) rfl #[.slice Ao32 x5_1.length co32] rfl (by (try simp only [List.map_toArray, List.map_cons, List.map_nil]); first | done | rfl | (simp only [List.length_drop, List.length_take]; rfl)) ?_; (with_reducible refine (slices_Sort_int_int.calls (fun k_ => some k_ = (.slice Ao32 x5_1.length co32 : Value).ownBlock) (.slice Ao32 x5_1.length co32) x5_1 t113 w _ ?side1 ?side2 A30.out).mono ?_); (case side1 => repeat (first | (with_reducible first | exact HB.out | apply below_alloc | apply pw_below_drewN | apply below_drew1 | refine below_set ?_ GE112.out) | exact HB.out)); (case side2 => exact Kd.R_tight rfl HO_5.out); rintro e w33 ⟨rfl, hy0, hb, hkp⟩; refine ⟨_, rfl, ?_⟩; have n0_ := Aside0.mk (Kd.R_reok rfl hy0 (fun k_ e_ => HO_5.out.1 k_ e_)); have n1_ := Aside0.mk (blk_kept (by (with_reducible repeat (first | refine blk_drewN ?_ _ | refine blk_drew ?_ | refine blk_alloc ?_ _)); exact BK112.out) hkp (fun hs_ => (fun e_ => (Kd.R_ne HO_5.out BK112.out (by decide)) e_) hs_)); have n2_ := Aside0.mk (hb); clear HO_5; clear BK112; clear HB; have HO_5 := n0_; have BK112 := n1_; have HB := n2_; clear n0_ n1_ n2_; (try clear hb); (try clear hkp); (try clear hy0)) | ((with_reducible refine gate_callee (f := 32) rfl ?_); refine goesL_ (some 47) rfl rfl Try.func32 (by kernel_rfl) rfl #[.slice Ao32 x5_1.length co32] rfl (by (try simp only [List.map_toArray, List.map_cons, List.map_nil]); first | done | rfl | (simp only [List.length_drop, List.length_take]; rfl)) ?_; (with_reducible refine (slices_Compact_int_int.calls (fun k_ => some k_ = (.slice Ao32 x5_1.length co32 : Value).ownBlock) (.slice Ao32 x5_1.length co32) t113 t114 w _ ?side1 ?side2 A31.out).mono ?_); (case side1 => repeat (first | (with_reducible first | exact HB.out | apply below_alloc | apply pw_below_drewN | apply below_drew1 | refine below_set ?_ GE112.out) | exact HB.out)); (case side2 => exact Kd.R_tight rfl HO_5.out); rintro e w34 ⟨v115, rfl, ho0, hb, hkp⟩; refine ⟨_, rfl, ?_⟩; have n0_ := Aside0.mk (blk_kept (by (with_reducible repeat (first | refine blk_drewN ?_ _ | refine blk_drew ?_ | refine blk_alloc ?_ _)); exact BK112.out) hkp (fun hs_ => (fun e_ => (Kd.R_ne HO_5.out BK112.out (by decide)) e_) hs_)); have n1_ := Aside0.mk (Kd.R_mono (ok' := fun k_ => True) ho0 (fun k_ hk_ => trivial)); have n2_ := Aside0.mk (hb); clear BK112; clear HB; clear HO_5; have BK112 := n0_; have HO116 := n1_; have HB := n2_; clear n0_ n1_ n2_; (try clear hb); (try clear hkp); (try clear ho0)))
    go_ret
    exact ⟨_, by first | rfl | (simp [errW_none, errW_some] <;> rfl) | (simp [*, errW_none, errW_some] <;> rfl), by (with_reducible repeat (first | apply Kd.R_alloc | apply Kd.R_drewN | apply Kd.R_drew)); exact HO116.out, by repeat (first | (with_reducible first | exact HB.out | apply below_alloc | apply pw_below_drewN | apply below_drew1 | refine below_set ?_ GE112.out) | exact HB.out)⟩
end
end Go.Proofs.Ytilopoegoddggaa.X
namespace Go.Proofs.Ytilopoegoddggaa.X
open Go.RowKit Go.Proofs.YtilopoegoddggaaW.PrintWords Go.Proofs.YtilopoegoddggaaW.PrintLast Go.Proofs.YtilopoegoddggaaW.PrintMore
attribute [local go_sem] max2_int min2_int max_two min_two max_three min_three max_four min_four
set_option linter.all false
noncomputable section
def davitref02_Ints.l0 : Nat → List Int → List Int → Int → Option (Bool)
 | 0, _, _, _ => none
 | k + 1, x0, x1, x5 => if x5 < (x0.length : Int) then (if 0 ≤ x5 then (if x5 < (x1.length : Int) then (if (rd x0 x5) = (rd x1 x5) then (davitref02_Ints.l0 k x0 x1 (wrap64 (x5 + 1))) else (some false)) else (none)) else (none)) else (some true)
def davitref02_Ints.f (k : Nat) (l0 : List Int) (l1 : List Int) : Option (Bool) := if (l0.length : Int) = (l1.length : Int) then (davitref02_Ints.l0 k l0 l1 0) else (some false)
theorem davitref02_Ints.mono_l : ∀ k, (∀ y0 y1 y2, LeO (davitref02_Ints.l0 k y0 y1 y2) (davitref02_Ints.l0 (k + 1) y0 y1 y2))
 | 0 => fun _ _ _ r h => by simp [davitref02_Ints.l0] at h
 | k + 1 => by
  have ih0 := davitref02_Ints.mono_l k
  ·intro y0 y1 y2
   unfold davitref02_Ints.l0
   repeat' first
   | (with_reducible exact ih0 _ _ _)
   | (with_reducible exact LeO.refl _)
   | (with_reducible exact LeO.none _)
   | (with_reducible refine LeO.ite ?_ ?_)
   | (with_reducible refine LeO.bind ?_ (fun _ => ?_))
   | exact ih0 _ _ _
   | exact LeO.none _
   | refine LeO.ite ?_ ?_
   | refine LeO.bind ?_ (fun _ => ?_)
theorem davitref02_Ints.mono : ∀ a0 a1 k, LeO (davitref02_Ints.f k a0 a1) (davitref02_Ints.f (k + 1) a0 a1) := by
 intro a0 a1 k
 have ih0 := davitref02_Ints.mono_l k
 unfold davitref02_Ints.f
 repeat' first
   | (with_reducible exact ih0 _ _ _)
   | (with_reducible exact LeO.refl _)
   | (with_reducible exact LeO.none _)
   | (with_reducible refine LeO.ite ?_ ?_)
   | (with_reducible refine LeO.bind ?_ (fun _ => ?_))
   | exact ih0 _ _ _
   | exact LeO.none _
   | refine LeO.ite ?_ ?_
   | refine LeO.bind ?_ (fun _ => ?_)
set_option maxHeartbeats 8000000 in
set_option maxRecDepth 100000 in
theorem davitref02_Ints.calls (k : Nat) (A0 : Option Addr) (c0 : Nat) (l0 : List Int) (A1 : Option Addr) (c1 : Nat) (l1 : List Int) (r : Bool) (w : World) (hr0 : Kd.C (Kd.int .i64) w A0 l0.length l0) (hc0 : l0.length ≤ c0) (hr1 : Kd.C (Kd.int .i64) w A1 l1.length l1) (hc1 : l1.length ≤ c1) (h : davitref02_Ints.f k l0 l1 = some r) :
  Calls Try.prog 12 #[.slice A0 l0.length c0, .slice A1 l1.length c1] w fun e w' => e = .returned (.bool r) ∧ Drawn0 w w' := by
 have HR0 := Aside0.mk hr0
 have HC0 := Aside0.mk hc0
 clear hr0 hc0
 have HR1 := Aside0.mk hr1
 have HC1 := Aside0.mk hc1
 clear hr1 hc1
 have H : (if (l0.length : Int) = (l1.length : Int) then (davitref02_Ints.l0 k l0 l1 0) else (some false)) = some r := h
 clear h
 by_cases c3 : (l0.length : Int) = (l1.length : Int)
 ·rw [if_pos c3] at H
  have c3b0 : ((l0.length : Int) == (l1.length : Int)) = true := beq_iff_eq.mpr c3
  have c3b1 : ((l0.length : Int) != (l1.length : Int)) = false := bne_eq_false_iff_eq.mpr c3
  have c3b2 : (l0.length == l1.length) = true := by first | simpa using c3 | (simp at c3 ⊢; omega)
  clear c3
  have H' := Aside0.mk H
  clear H
  go_enter Try.func12, Try.ntmps12
  go_wp2
  repeat (go_quiet (fail); try go_wp2)
  go_loopg [5] k (fun kq v5 w' => ∃ (x5_1 : Int), v5 = .int .i64 x5_1 ∧ Aside0 (davitref02_Ints.l0 kq l0 l1 x5_1 = some r) ∧ Aside0 (kq ≤ k) ∧ Drawn0 w w')
  case atStart => exact ⟨(0), (by first | rfl | (simp; done) | (simp [*]; done)), H', ⟨Nat.le_refl _⟩, by repeat (first | exact Drawn0.refl _ | apply Drawn0.step)⟩
  case round =>
   clear H'
   try clear c1
   try clear p2
   try clear c3
   try clear c3b0
   try clear c3b1
   try clear c3b2
   obtain ⟨x5_1, rfl, HA, HK1, ⟨m1, rfl⟩⟩ := hrel
   cases gk with
   | zero => exact absurd HA.out (by simp [davitref02_Ints.l0])
   | succ k1 =>
    have H := HA.out
    clear HA
    simp only [davitref02_Ints.l0] at H
    by_cases c4 : x5_1 < (l0.length : Int)
    ·rw [if_pos c4] at H
     have c4b0 : decide (x5_1 < (l0.length : Int)) = true := decide_eq_true c4
     clear c4
     by_cases c5 : 0 ≤ x5_1
     ·rw [if_pos c5] at H
      have c5b0 : decide (0 ≤ x5_1) = true := decide_eq_true c5
      clear c5
      by_cases c6 : x5_1 < (l1.length : Int)
      ·rw [if_pos c6] at H
       have c6b0 : decide (x5_1 < (l1.length : Int)) = true := decide_eq_true c6
       clear c6
       by_cases c7 : (rd l0 x5_1) = (rd l1 x5_1)
       ·rw [if_pos c7] at H
        have c7b0 : ((rd l0 x5_1) == (rd l1 x5_1)) = true := beq_iff_eq.mpr c7
        have c7b1 : ((rd l0 x5_1) != (rd l1 x5_1)) = false := bne_eq_false_iff_eq.mpr c7
        clear c7
        have H' := Aside0.mk H
        clear H
        have p101 : 0 ≤ (x5_1 : Int) := of_decide_eq_true (by first | (with_reducible assumption) | assumption)
        have q101 : x5_1 < (l0.length : Int) := of_decide_eq_true (by first | (with_reducible assumption) | assumption)
        obtain ⟨ad101, e101, hx101_0⟩ := Kd.at_int HR0.out x5_1 p101 q101
        cases e101
        replace p101 := eq_true p101
        replace q101 := eq_true q101
        have p102 : 0 ≤ (x5_1 : Int) := of_decide_eq_true (by first | (with_reducible assumption) | assumption)
        have q102 : x5_1 < (l1.length : Int) := of_decide_eq_true (by first | (with_reducible assumption) | assumption)
        obtain ⟨ad102, e102, hx102_0⟩ := Kd.at_int HR1.out x5_1 p102 q102
        cases e102
        replace p102 := eq_true p102
        replace q102 := eq_true q102
        go_wp2
        repeat (go_quiet (fail); try go_wp2)
        go_roundg k1
        case measure => have := HK1.out; omega
        case rel => exact ⟨(wrap64 (x5_1 + 1)), (by first | rfl | (simp; done) | (simp [*]; done)), H', ⟨by have := HK1.out; omega⟩, by repeat (first | exact Drawn0.refl _ | apply Drawn0.step)⟩
       ·rw [if_neg c7] at H
        have c7b0 : ((rd l0 x5_1) == (rd l1 x5_1)) = false := beq_eq_false_iff_ne.mpr c7
        have c7b1 : ((rd l0 x5_1) != (rd l1 x5_1)) = true := bne_iff_ne.mpr c7
        obtain rfl := Option.some.inj H
        have p101 : 0 ≤ (x5_1 : Int) := of_decide_eq_true (by first | (with_reducible assumption) | assumption)
        have q101 : x5_1 < (l0.length : Int) := of_decide_eq_true (by first | (with_reducible assumption) | assumption)
        obtain ⟨ad101, e101, hx101_0⟩ := Kd.at_int HR0.out x5_1 p101 q101
        cases e101
        replace p101 := eq_true p101
        replace q101 := eq_true q101
        have p102 : 0 ≤ (x5_1 : Int) := of_decide_eq_true (by first | (with_reducible assumption) | assumption)
        have q102 : x5_1 < (l1.length : Int) := of_decide_eq_true (by first | (with_reducible assumption) | assumption)
        obtain ⟨ad102, e102, hx102_0⟩ := Kd.at_int HR1.out x5_1 p102 q102
        cases e102
        replace p102 := eq_true p102
        replace q102 := eq_true q102
        go_wp2
        repeat (go_quiet (fail); try go_wp2)
        go_ret
        exact ⟨by first | rfl | (simp; done) | (simp [*]; done), by repeat (first | exact Drawn0.refl _ | apply Drawn0.step)⟩
      ·rw [if_neg c6] at H
       exact absurd H (by simp)
     ·rw [if_neg c5] at H
      exact absurd H (by simp)
    ·rw [if_neg c4] at H
     have c4b0 : decide (x5_1 < (l0.length : Int)) = false := decide_eq_false c4
     clear c4
     obtain rfl := Option.some.inj H
     go_wp2
     repeat (go_quiet (fail); try go_wp2)
     go_ret
     exact ⟨by first | rfl | (simp; done) | (simp [*]; done), by repeat (first | exact Drawn0.refl _ | apply Drawn0.step)⟩
 ·rw [if_neg c3] at H
  have c3b0 : ((l0.length : Int) == (l1.length : Int)) = false := beq_eq_false_iff_ne.mpr c3
  have c3b1 : ((l0.length : Int) != (l1.length : Int)) = true := bne_iff_ne.mpr c3
  have c3b2 : (l0.length == l1.length) = false := by first | simpa using c3 | (simp at c3 ⊢; omega)
  obtain rfl := Option.some.inj H
  go_enter Try.func12, Try.ntmps12
  go_wp2
  repeat (go_quiet (fail); try go_wp2)
  go_ret
  exact ⟨by first | rfl | (simp; done) | (simp [*]; done), by repeat (first | exact Drawn0.refl _ | apply Drawn0.step)⟩
end
end Go.Proofs.Ytilopoegoddggaa.X
