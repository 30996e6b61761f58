/- Part 16 of the proof of the statement PadsCatch: the words of the walks, the walks through the functions that it reaches, and the plain laws of what they compute. -/
import Derived.Test.YtbfialebaoeicaaMPadsCatch14
import Derived.Laws.CopyOwn
import Derived.Laws.MakeOwn
import Derived.RegionTactic
import Derived.ChangeAlike
import Derived.Deep.QuietTactic
import Derived.BigQuiet
import Derived.Deep.Slices
import Derived.Lib.SmallJoins
import Derived.ChangeArms
namespace Go.Proofs.Ytbfialebaoeicaa.X
open Go.RowKit Go.Proofs.YtbfialebaoeicaaW.PrintWords Go.Proofs.YtbfialebaoeicaaW.PrintLast Go.Proofs.YtbfialebaoeicaaW.PrintMore
set_option linter.all false
theorem blk_new2 (w : World) (a b : Obj) : ((w.alloc a).alloc b).heap[w.heap.size + 1]? = some b := by
 have := blk_new (w.alloc a) b
 rwa [show (w.alloc a).heap.size = w.heap.size + 1 from Array.size_push _] at this
theorem row_R {w : World} {base g n : Nat} {xs : List Int} (hb : base ≤ g) (hn : xs.length = n) (hm : n ≤ 1000000) (h : w.heap[g]? = some (.cells (nums .u16 xs).toArray 44 (0, 0))) : Kd.R (Kd.int .u16) 44 w base (fun _ => True) (.slice (some ⟨g, 0, none⟩) n n) xs := by
 subst hn
 refine Kd.R_of_own ⟨by simp [encs], .inr ⟨g, xs.length, (nums .u16 xs).toArray, rfl, hb, h, Nat.le_refl _, by simp [maxLen]; omega, by simp [nums], by simp [nums, encs]; exact List.take_of_length_le (by simp)⟩⟩ (fun _ _ => trivial)
end Go.Proofs.Ytbfialebaoeicaa.X
namespace Go.Proofs.Ytbfialebaoeicaa.X
open Go.RowKit Go.Proofs.YtbfialebaoeicaaW.PrintWords Go.Proofs.YtbfialebaoeicaaW.PrintLast Go.Proofs.YtbfialebaoeicaaW.PrintMore
attribute [local go_sem] max2_int min2_int max_two min_two max_three min_three max_four min_four
set_option linter.all false
noncomputable section
def slices_Index_uint16_uint16.l0 : Nat → List Int → Int → Int → Int → Option (Int)
 | 0, _, _, _, _ => none
 | k + 1, x0, x1, x7, x8 => if x8 < x7 then (if 0 ≤ x8 then (if x8 < (x0.length : Int) then (if x1 = (rd x0 x8) then (some x8) else (slices_Index_uint16_uint16.l0 k x0 x1 x7 (wrap64 (x8 + 1)))) else (none)) else (none)) else (some (-1))
def slices_Index_uint16_uint16.f (k : Nat) (l0 : List Int) (a1 : Int) : Option (Int) := slices_Index_uint16_uint16.l0 k l0 a1 (l0.length : Int) 0
theorem slices_Index_uint16_uint16.mono_l : ∀ k, (∀ y0 y1 y2 y3, LeO (slices_Index_uint16_uint16.l0 k y0 y1 y2 y3) (slices_Index_uint16_uint16.l0 (k + 1) y0 y1 y2 y3))
 | 0 => fun _ _ _ _ r h => by simp [slices_Index_uint16_uint16.l0] at h
 | k + 1 => by
  have ih0 := slices_Index_uint16_uint16.mono_l k
  ·intro y0 y1 y2 y3
   unfold slices_Index_uint16_uint16.l0
   repeat' first
   | (with_reducible exact ih0 _ _ _ _)
   | (with_reducible exact LeO.refl _)
   | (with_reducible exact LeO.none _)
   | (with_reducible refine LeO.ite ?_ ?_)
   | (with_reducible refine LeO.bind ?_ (fun _ => ?_))
   | exact ih0 _ _ _ _
   | exact LeO.none _
   | refine LeO.ite ?_ ?_
   | refine LeO.bind ?_ (fun _ => ?_)
theorem slices_Index_uint16_uint16.mono : ∀ a0 a1 k, LeO (slices_Index_uint16_uint16.f k a0 a1) (slices_Index_uint16_uint16.f (k + 1) a0 a1) := by
 intro a0 a1 k
 have ih0 := slices_Index_uint16_uint16.mono_l k
 unfold slices_Index_uint16_uint16.f
 repeat' first
   | (with_reducible exact ih0 _ _ _ _)
   | (with_reducible exact LeO.refl _)
   | (with_reducible exact LeO.none _)
   | (with_reducible refine LeO.ite ?_ ?_)
   | (with_reducible refine LeO.bind ?_ (fun _ => ?_))
   | exact ih0 _ _ _ _
   | exact LeO.none _
   | refine LeO.ite ?_ ?_
   | refine LeO.bind ?_ (fun _ => ?_)
set_option maxHeartbeats 8000000 in
set_option maxRecDepth 100000 in
theorem slices_Index_uint16_uint16.calls (k : Nat) (A0 : Option Addr) (c0 : Nat) (l0 : List Int) (a1 : Int) (r : Int) (w : World) (hr0 : Kd.C (Kd.int .u16) w A0 l0.length l0) (hc0 : l0.length ≤ c0) (h : slices_Index_uint16_uint16.f k l0 a1 = some r) :
  Calls Try.prog 98 #[.slice A0 l0.length c0, .int .u16 a1] w fun e w' => e = .returned (.int .i64 r) ∧ Drawn0 w w' := by
 have HR0 := Aside0.mk hr0
 have HC0 := Aside0.mk hc0
 clear hr0 hc0
 have H : (slices_Index_uint16_uint16.l0 k l0 a1 (l0.length : Int) 0) = some r := h
 clear h
 have H' := Aside0.mk H
 clear H
 go_enter Try.func98, Try.ntmps98
 go_wp2
 go_loopg [8] k (fun kq v8 w' => ∃ (x8_1 : Int), v8 = .int .i64 x8_1 ∧ Aside0 (slices_Index_uint16_uint16.l0 kq l0 a1 (l0.length : Int) x8_1 = some r) ∧ Aside0 (kq ≤ k) ∧ Drawn0 w w')
 case atStart => exact ⟨(0), (by first | rfl | (simp; done) | (simp [*]; done)), H', ⟨Nat.le_refl _⟩, by repeat (first | exact Drawn0.refl _ | apply Drawn0.step)⟩
 case round =>
  clear H'
  try clear p2
  obtain ⟨x8_1, rfl, HA, HK1, ⟨m1, rfl⟩⟩ := hrel
  cases gk with
  | zero => exact absurd HA.out (by simp [slices_Index_uint16_uint16.l0])
  | succ k1 =>
   have H := HA.out
   clear HA
   simp only [slices_Index_uint16_uint16.l0] at H
   by_cases c3 : x8_1 < (l0.length : Int)
   ·rw [if_pos c3] at H
    have c3b0 : decide (x8_1 < (l0.length : Int)) = true := decide_eq_true c3
    clear c3
    by_cases c4 : 0 ≤ x8_1
    ·rw [if_pos c4] at H
     have c4b0 : decide (0 ≤ x8_1) = true := decide_eq_true c4
     clear c4
     by_cases c5 : x8_1 < (l0.length : Int)
     ·rw [if_pos c5] at H
      have c5b0 : decide (x8_1 < (l0.length : Int)) = true := decide_eq_true c5
      clear c5
      by_cases c6 : a1 = (rd l0 x8_1)
      ·rw [if_pos c6] at H
       have c6b0 : (a1 == (rd l0 x8_1)) = true := beq_iff_eq.mpr c6
       have c6b1 : (a1 != (rd l0 x8_1)) = false := bne_eq_false_iff_eq.mpr c6
       clear c6
       obtain rfl := Option.some.inj H
       have p305 : 0 ≤ (x8_1 : Int) := of_decide_eq_true (by first | (with_reducible assumption) | assumption)
       have q305 : x8_1 < (l0.length : Int) := of_decide_eq_true (by first | (with_reducible assumption) | assumption)
       obtain ⟨ad305, e305, hx305_0⟩ := Kd.at_int HR0.out x8_1 p305 q305
       cases e305
       replace p305 := eq_true p305
       replace q305 := eq_true q305
       go_wp2
       go_ret
       exact ⟨by first | rfl | (simp; done) | (simp [*]; done), by repeat (first | exact Drawn0.refl _ | apply Drawn0.step)⟩
      ·rw [if_neg c6] at H
       have c6b0 : (a1 == (rd l0 x8_1)) = false := beq_eq_false_iff_ne.mpr c6
       have c6b1 : (a1 != (rd l0 x8_1)) = true := bne_iff_ne.mpr c6
       have H' := Aside0.mk H
       clear H
       have p305 : 0 ≤ (x8_1 : Int) := of_decide_eq_true (by first | (with_reducible assumption) | assumption)
       have q305 : x8_1 < (l0.length : Int) := of_decide_eq_true (by first | (with_reducible assumption) | assumption)
       obtain ⟨ad305, e305, hx305_0⟩ := Kd.at_int HR0.out x8_1 p305 q305
       cases e305
       replace p305 := eq_true p305
       replace q305 := eq_true q305
       go_wp2
       go_roundg k1
       case measure => have := HK1.out; omega
       case rel => exact ⟨(wrap64 (x8_1 + 1)), (by first | rfl | (simp; done) | (simp [*]; done)), H', ⟨by have := HK1.out; omega⟩, by repeat (first | exact Drawn0.refl _ | apply Drawn0.step)⟩
     ·rw [if_neg c5] at H
      exact absurd H (by simp)
    ·rw [if_neg c4] at H
     exact absurd H (by simp)
   ·rw [if_neg c3] at H
    have c3b0 : decide (x8_1 < (l0.length : Int)) = false := decide_eq_false c3
    clear c3
    obtain rfl := Option.some.inj H
    go_wp2
    go_ret
    exact ⟨by first | rfl | (simp; done) | (simp [*]; done), by repeat (first | exact Drawn0.refl _ | apply Drawn0.step)⟩
end
end Go.Proofs.Ytbfialebaoeicaa.X
namespace Go.Proofs.Ytbfialebaoeicaa.X
open Go.RowKit Go.Proofs.YtbfialebaoeicaaW.PrintWords Go.Proofs.YtbfialebaoeicaaW.PrintLast Go.Proofs.YtbfialebaoeicaaW.PrintMore
attribute [local go_sem] max2_int min2_int max_two min_two max_three min_three max_four min_four
set_option linter.all false
noncomputable section
def slices_Contains_uint16_uint16.f (k : Nat) (l0 : List Int) (a1 : Int) : Option (Bool) := (slices_Index_uint16_uint16.f k l0 a1).bind fun t306 => (some (decide (t306 ≥ 0)))
theorem slices_Contains_uint16_uint16.mono : ∀ a0 a1 k, LeO (slices_Contains_uint16_uint16.f k a0 a1) (slices_Contains_uint16_uint16.f (k + 1) a0 a1) := by
 intro a0 a1 k
 unfold slices_Contains_uint16_uint16.f
 repeat' first
   | (with_reducible exact slices_Index_uint16_uint16.mono _ _ _)
   | (with_reducible exact LeO.refl _)
   | (with_reducible exact LeO.none _)
   | (with_reducible refine LeO.ite ?_ ?_)
   | (with_reducible refine LeO.bind ?_ (fun _ => ?_))
   | exact slices_Index_uint16_uint16.mono _ _ _
   | exact LeO.none _
   | refine LeO.ite ?_ ?_
   | refine LeO.bind ?_ (fun _ => ?_)
set_option maxHeartbeats 8000000 in
set_option maxRecDepth 100000 in
theorem slices_Contains_uint16_uint16.calls (k : Nat) (A0 : Option Addr) (c0 : Nat) (l0 : List Int) (a1 : Int) (r : Bool) (w : World) (hr0 : Kd.C (Kd.int .u16) w A0 l0.length l0) (hc0 : l0.length ≤ c0) (h : slices_Contains_uint16_uint16.f k l0 a1 = some r) :
  Calls Try.prog 75 #[.slice A0 l0.length c0, .int .u16 a1] w fun e w' => e = .returned (.bool r) ∧ Drawn0 w w' := by
 have HR0 := Aside0.mk hr0
 have HC0 := Aside0.mk hc0
 clear hr0 hc0
 have H : ((slices_Index_uint16_uint16.f k l0 a1).bind fun t306 => (some (decide (t306 ≥ 0)))) = some r := h
 clear h
 replace H := Option.bind_eq_some_iff.mp H
 obtain ⟨t306, A30, H⟩ := H
 replace H : (some (decide (t306 ≥ 0))) = some r := H
 have A3 := Aside0.mk A30
 clear A30
 obtain rfl := Option.some.inj H
 go_enter Try.func75, Try.ntmps75
 go_wp2_with (first | ((with_reducible refine gate_callee (f := 98) rfl ?_); refine goesL_ (some 7) rfl rfl Try.func98 (by kernel_rfl) rfl #[.slice A0 l0.length c0, .int .u16 a1] rfl (by (try simp only [List.map_toArray, List.map_cons, List.map_nil]); first | done | rfl | (simp only [List.length_drop, List.length_take]; rfl)) ?_; (with_reducible refine (slices_Index_uint16_uint16.calls k _ _ l0 a1 t306 _ ?side1 ?side2 A3.out).mono ?_); (case side1 => repeat (first | exact HR0.out | (with_reducible refine Kd.C_alloc ?_ _) | (with_reducible refine Kd.C_drewN ?_ _) | (with_reducible refine Kd.C_drew ?_))); (case side2 => exact HC0.out); rintro e w' ⟨rfl, ⟨nd, rfl⟩⟩; refine ⟨_, rfl, ?_⟩))
 go_ret
 exact ⟨by first | rfl | (simp; done) | (simp [*]; done), by repeat (first | exact Drawn0.refl _ | apply Drawn0.step)⟩
end
end Go.Proofs.Ytbfialebaoeicaa.X
namespace Go.Proofs.Ytbfialebaoeicaa.X
open Go.RowKit Go.Proofs.YtbfialebaoeicaaW.PrintWords Go.Proofs.YtbfialebaoeicaaW.PrintLast Go.Proofs.YtbfialebaoeicaaW.PrintMore
attribute [local go_sem] max2_int min2_int max_two min_two max_three min_three max_four min_four
set_option linter.all false
noncomputable section
def frame_Catches.f (k : Nat) (a0_0 : Int) (l0_1 : List Int) (a0_2 : Bool) (a0_3 : Bool) (a1 : Int) : Option (Bool) := if a0_2 = true then (some true) else ((slices_Contains_uint16_uint16.f k l0_1 a1).bind fun t308 => (some t308))
theorem frame_Catches.mono : ∀ a0 a1 a2 a3 a4 k, LeO (frame_Catches.f k a0 a1 a2 a3 a4) (frame_Catches.f (k + 1) a0 a1 a2 a3 a4) := by
 intro a0 a1 a2 a3 a4 k
 unfold frame_Catches.f
 repeat' first
   | (with_reducible exact slices_Contains_uint16_uint16.mono _ _ _)
   | (with_reducible exact LeO.refl _)
   | (with_reducible exact LeO.none _)
   | (with_reducible refine LeO.ite ?_ ?_)
   | (with_reducible refine LeO.bind ?_ (fun _ => ?_))
   | exact slices_Contains_uint16_uint16.mono _ _ _
   | exact LeO.none _
   | refine LeO.ite ?_ ?_
   | refine LeO.bind ?_ (fun _ => ?_)
set_option maxHeartbeats 8000000 in
set_option maxRecDepth 100000 in
theorem frame_Catches.calls (k : Nat) (a0_0 : Int) (A0_1 : Option Addr) (c0_1 : Nat) (l0_1 : List Int) (a0_2 : Bool) (a0_3 : Bool) (a1 : Int) (r : Bool) (w : World) (hr0_1 : Kd.C (Kd.int .u16) w A0_1 l0_1.length l0_1) (hc0_1 : l0_1.length ≤ c0_1) (h : frame_Catches.f k a0_0 l0_1 a0_2 a0_3 a1 = some r) :
  Calls Try.prog 31 #[.agg #[.int .i64 a0_0, .slice A0_1 l0_1.length c0_1, .bool a0_2, .bool a0_3], .int .u16 a1] w fun e w' => e = .returned (.bool r) ∧ Below w.heap.size w w' := by
 have hu35 := Try.underlying35
 have HR0_1 := Aside0.mk hr0_1
 have HC0_1 := Aside0.mk hc0_1
 clear hr0_1 hc0_1
 have HB := Aside0.mk (Below.refl w.heap.size w)
 have H : (if a0_2 = true then (some true) else ((slices_Contains_uint16_uint16.f k l0_1 a1).bind fun t308 => (some t308))) = some r := h
 clear h
 by_cases c3 : a0_2 = true
 ·subst c3
  have H1 : (some true) = some r := by rw [if_pos rfl] at H; exact H
  clear H
  have H := H1
  clear H1
  obtain rfl := Option.some.inj H
  go_enter Try.func31, Try.ntmps31
  go_wp2_with (first | ((with_reducible refine gate_dst (N := 2) rfl ?_); refine box_event ?hg (N := 2) ?hd (cs := #[.int .i64 a0_0, .slice A0_1 l0_1.length c0_1, .bool true, .bool a0_3]) (t := 35) ?hr ?_; (case hd => rfl); (case hg => rfl); (case hr => first | (go_simp; done) | (go_simp; rfl)); intro gb307 hg w4 hbox hb; have n0_ := Aside0.mk (below_step (by repeat (first | (with_reducible first | exact HB.out | apply below_alloc | apply pw_below_drewN | apply below_drew1) | exact HB.out)) hb); have n1_ := Aside0.mk (hbox); have n2_ := Aside0.mk ((by rw [hg]; exact (below_size (by repeat (first | (with_reducible first | exact HB.out | apply below_alloc | apply pw_below_drewN | apply below_drew1) | exact HB.out))) : w.heap.size ≤ gb307)); have n3_ := Aside0.mk ((by rw [hg]; exact (below_size (by repeat (first | (with_reducible first | exact HB.out | apply below_alloc | apply pw_below_drewN | apply below_drew1) | exact HB.out))) : w.heap.size ≤ gb307)); clear HB; have HB := n0_; have BK307 := n1_; have GW307 := n2_; have GE307 := n3_; clear n0_ n1_ n2_ n3_; clear hb hbox hg; have hcz5_0 : w4.cell? ⟨gb307, 0, none⟩ = some (.int .i64 a0_0) := (blk_cell BK307.out 0).trans rfl; have hcz5_1 : w4.cell? ⟨gb307, 1, none⟩ = some (.slice A0_1 l0_1.length c0_1) := (blk_cell BK307.out 1).trans rfl; have hcz5_2 : w4.cell? ⟨gb307, 2, none⟩ = some (.bool true) := (blk_cell BK307.out 2).trans rfl; have hcz5_3 : w4.cell? ⟨gb307, 3, none⟩ = some (.bool a0_3) := (blk_cell BK307.out 3).trans rfl; have hfz5_0 := blk_frozen BK307.out 0; have hfz5_1 := blk_frozen BK307.out 1; have hfz5_2 := blk_frozen BK307.out 2; have hfz5_3 := blk_frozen BK307.out 3))
  go_ret
  exact ⟨by first | rfl | (simp [errW_none, errW_some] <;> rfl) | (simp [*, errW_none, errW_some] <;> rfl), by repeat (first | (with_reducible first | exact HB.out | apply below_alloc | apply pw_below_drewN | apply below_drew1 | refine below_set ?_ GE307.out) | exact HB.out)⟩
 ·replace c3 := Bool.eq_false_iff.mpr c3
  subst c3
  have H1 : ((slices_Contains_uint16_uint16.f k l0_1 a1).bind fun t308 => (some t308)) = some r := by rw [if_neg (show ¬ (false = true) by decide)] at H; exact H
  clear H
  have H := H1
  clear H1
  replace H := Option.bind_eq_some_iff.mp H
  obtain ⟨t308, A60, H⟩ := H
  replace H : (some t308) = some r := H
  have A6 := Aside0.mk A60
  clear A60
  obtain rfl := Option.some.inj H
  go_enter Try.func31, Try.ntmps31
  go_wp2_with (first | ((with_reducible refine gate_dst (N := 2) rfl ?_); refine box_event ?hg (N := 2) ?hd (cs := #[.int .i64 a0_0, .slice A0_1 l0_1.length c0_1, .bool false, .bool a0_3]) (t := 35) ?hr ?_; (case hd => rfl); (case hg => rfl); (case hr => first | (go_simp; done) | (go_simp; rfl)); intro gb307 hg w7 hbox hb; have n0_ := Aside0.mk (below_step (by repeat (first | (with_reducible first | exact HB.out | apply below_alloc | apply pw_below_drewN | apply below_drew1) | exact HB.out)) hb); have n1_ := Aside0.mk (hbox); have n2_ := Aside0.mk ((by rw [hg]; exact (below_size (by repeat (first | (with_reducible first | exact HB.out | apply below_alloc | apply pw_below_drewN | apply below_drew1) | exact HB.out))) : w.heap.size ≤ gb307)); have n3_ := Aside0.mk ((by rw [hg]; exact (below_size (by repeat (first | (with_reducible first | exact HB.out | apply below_alloc | apply pw_below_drewN | apply below_drew1) | exact HB.out))) : w.heap.size ≤ gb307)); clear HB; have HB := n0_; have BK307 := n1_; have GW307 := n2_; have GE307 := n3_; clear n0_ n1_ n2_ n3_; clear hb hbox hg; have hcz8_0 : w7.cell? ⟨gb307, 0, none⟩ = some (.int .i64 a0_0) := (blk_cell BK307.out 0).trans rfl; have hcz8_1 : w7.cell? ⟨gb307, 1, none⟩ = some (.slice A0_1 l0_1.length c0_1) := (blk_cell BK307.out 1).trans rfl; have hcz8_2 : w7.cell? ⟨gb307, 2, none⟩ = some (.bool false) := (blk_cell BK307.out 2).trans rfl; have hcz8_3 : w7.cell? ⟨gb307, 3, none⟩ = some (.bool a0_3) := (blk_cell BK307.out 3).trans rfl; have hfz8_0 := blk_frozen BK307.out 0; have hfz8_1 := blk_frozen BK307.out 1; have hfz8_2 := blk_frozen BK307.out 2; have hfz8_3 := blk_frozen BK307.out 3) | (go_at_call 75; (with_reducible refine (slices_Contains_uint16_uint16.calls k _ _ l0_1 a1 t308 _ ?side1 ?side2 A6.out).mono ?_); (case side1 => repeat (first | exact (Kd.C_below HR0_1.out HB.out) | (with_reducible refine Kd.C_alloc ?_ _) | (with_reducible refine Kd.C_drewN ?_ _) | (with_reducible refine Kd.C_drew ?_))); (case side2 => exact HC0_1.out); rintro e w' ⟨rfl, ⟨nd, rfl⟩⟩))
  go_ret
  exact ⟨by first | rfl | (simp [errW_none, errW_some] <;> rfl) | (simp [*, errW_none, errW_some] <;> rfl), by repeat (first | (with_reducible first | exact HB.out | apply below_alloc | apply pw_below_drewN | apply below_drew1 | refine below_set ?_ GE307.out) | exact HB.out)⟩
end
end Go.Proofs.Ytbfialebaoeicaa.X
namespace Go.Proofs.Ytbfialebaoeicaa.X
open Go.RowKit Go.Proofs.YtbfialebaoeicaaW.PrintWords Go.Proofs.YtbfialebaoeicaaW.PrintLast Go.Proofs.YtbfialebaoeicaaW.PrintMore
set_option linter.all false
theorem blk_new3 (w : World) (a b c : Obj) : (((w.alloc a).alloc b).alloc c).heap[w.heap.size + 2]? = some c := by
 have := blk_new ((w.alloc a).alloc b) c
 rwa [show ((w.alloc a).alloc b).heap.size = w.heap.size + 2 by rw [show ((w.alloc a).alloc b).heap.size = (w.alloc a).heap.size + 1 from Array.size_push _, show (w.alloc a).heap.size = w.heap.size + 1 from Array.size_push _]] at this
theorem C_one {α : Type} (d : Kd α) {w : World} {g : Nat} {t : TypeId} (x : α) (c : List Value) (hc : c.length = d.sz) (hK : d.K w x c) (h : w.heap[g]? = some (.cells c.toArray t (0, 0))) : Kd.C d w (some ⟨g, 0, none⟩) [x].length [x] := by
 refine ⟨rfl, by simp, fun _ => ⟨_, rfl, fun j q hj => ?_⟩⟩
 have hj0 : j = 0 := by have := (List.getElem?_eq_some_iff.1 hj).1; simp at this; exact this
 subst hj0
 simp at hj
 subst hj
 refine ⟨c, hc, hK, fun i u hu => ?_⟩
 have := blk_cell h i
 rw [Nat.zero_mul, Nat.zero_add, show (⟨g, 0, none⟩ : Addr).add i = ⟨g, i, none⟩ by cases i <;> simp [Addr.add], this]
 simpa using hu
theorem C_row {w : World} {g : Nat} {xs : List Int} (hm : xs.length ≤ 1000000) (h : w.heap[g]? = some (.cells (nums .u16 xs).toArray 44 (0, 0))) : Kd.C (Kd.int .u16) w (some ⟨g, 0, none⟩) xs.length xs := by
 have hr := row_R (base := 0) (Nat.zero_le g) rfl hm h
 obtain ⟨A, c, e, _, hC⟩ := Kd.R_reads hr
 injection e with e1 e2 e3
 rw [e1]
 exact hC
theorem nilk_C {α : Type} (d : Kd α) {w : World} : Kd.C d w none ([] : List α).length [] := ⟨rfl, by simp, fun h => by simp at h⟩
end Go.Proofs.Ytbfialebaoeicaa.X
namespace Go.Proofs.Ytbfialebaoeicaa.X
open Go.RowKit Go.Proofs.YtbfialebaoeicaaW.PrintWords Go.Proofs.YtbfialebaoeicaaW.PrintLast Go.Proofs.YtbfialebaoeicaaW.PrintMore
set_option linter.all false
def b1a : S41 := ⟨false, ⟨0, [], false, false⟩, [], ⟨4, 0, 0, 0, [], 0, 0, 1⟩⟩
def b1b : S41 := ⟨true, ⟨0, [], false, true⟩, [], ⟨6, 0, 0, 0, [], 0, 0, 0⟩⟩
def b1c : S41 := ⟨false, ⟨0, [], false, false⟩, [⟨11, 0, 0, 0, 0, 0, []⟩], ⟨2, 0, 0, 0, [], 0, 0, 0⟩⟩
def m1a : List S27 := [⟨0, 1, [b1a, b1b]⟩]
def n1a : List S27 := [⟨0, 1, [b1c, b1b]⟩]
theorem m1a_r : rightR m1a = true := by decide +kernel
theorem m1a_g : goesB ⟨0, 1, [b1a, b1b]⟩ b1a = true := by decide +kernel
theorem m1a_h : goesB ⟨0, 1, [b1a, b1b]⟩ b1b = false := by decide +kernel
theorem m1a_p : padsM m1a = n1a := by
 unfold padsM
 rw [if_pos m1a_r]
 show [padF ⟨0, 1, [b1a, b1b]⟩] = n1a
 unfold padF
 show [(⟨0, 1, [padB ⟨0, 1, [b1a, b1b]⟩ b1a, padB ⟨0, 1, [b1a, b1b]⟩ b1b]⟩ : S27)] = n1a
 unfold padB
 rw [if_pos m1a_g, if_neg (by rw [m1a_h]; simp)]
 rfl
theorem m1a_e : padsE m1a = 0 := by
 unfold padsE
 rw [if_pos m1a_r]
theorem C_two {α : Type} (d : Kd α) {w : World} {g : Nat} {t : TypeId} (x y : α) (c1 c2 : List Value) (h1 : c1.length = d.sz) (h2 : c2.length = d.sz) (k1 : d.K w x c1) (k2 : d.K w y c2) (h : w.heap[g]? = some (.cells (c1 ++ c2).toArray t (0, 0))) : Kd.C d w (some ⟨g, 0, none⟩) [x, y].length [x, y] := by
 have hcell : ∀ i u, (c1 ++ c2)[i]? = some u → w.cell? ((⟨g, 0, none⟩ : Addr).add i) = some u := fun i u hu => by
  rw [add_plain, blk_cell h i]
  simpa using hu
 refine ⟨rfl, by simp, fun _ => ⟨_, rfl, fun j q hj => ?_⟩⟩
 have hj2 : j < 2 := (List.getElem?_eq_some_iff.1 hj).1
 rcases Nat.lt_or_ge j 1 with h0 | h0
 ·obtain rfl : j = 0 := by omega
  simp at hj
  subst hj
  refine ⟨c1, h1, k1, fun i u hu => hcell _ _ ?_⟩
  rw [Nat.zero_mul, Nat.zero_add, List.getElem?_append_left (List.getElem?_eq_some_iff.1 hu).1]
  exact hu
 ·obtain rfl : j = 1 := by omega
  simp at hj
  subst hj
  refine ⟨c2, h2, k2, fun i u hu => hcell _ _ ?_⟩
  rw [Nat.one_mul, List.getElem?_append_right (by omega), h1, Nat.add_sub_cancel_left]
  exact hu
theorem b1a_K {w : World} : k41.K w b1a [.bool false, .int .i64 0, .slice none 0 0, .bool false, .bool false, .slice none 0 0, .int .i64 4, .int .i64 0, .int .i64 0, .int .i64 0, .slice none 0 0, .int .i64 0, .int .i64 0, .int .i64 1] := k41_mk w b1a (A2 := none) (c2 := 0) (by decide) (nilk_C _) (A5 := none) (c5 := 0) (by decide) (nilk_C _) (A10 := none) (c10 := 0) (by decide) (nilk_C _)
theorem b1b_K {w : World} : k41.K w b1b [.bool true, .int .i64 0, .slice none 0 0, .bool false, .bool true, .slice none 0 0, .int .i64 6, .int .i64 0, .int .i64 0, .int .i64 0, .slice none 0 0, .int .i64 0, .int .i64 0, .int .i64 0] := k41_mk w b1b (A2 := none) (c2 := 0) (by decide) (nilk_C _) (A5 := none) (c5 := 0) (by decide) (nilk_C _) (A10 := none) (c10 := 0) (by decide) (nilk_C _)
theorem m1a_C {w : World} {g1 g2 : Nat} (h1 : w.heap[g1]? = some (.cells #[.bool false, .int .i64 0, .slice none 0 0, .bool false, .bool false, .slice none 0 0, .int .i64 4, .int .i64 0, .int .i64 0, .int .i64 0, .slice none 0 0, .int .i64 0, .int .i64 0, .int .i64 1, .bool true, .int .i64 0, .slice none 0 0, .bool false, .bool true, .slice none 0 0, .int .i64 6, .int .i64 0, .int .i64 0, .int .i64 0, .slice none 0 0, .int .i64 0, .int .i64 0, .int .i64 0] 41 (0, 0))) (h2 : w.heap[g2]? = some (.cells #[.int .i64 0, .int .i64 1, .slice (some ⟨g1, 0, none⟩) 2 2] 27 (0, 0))) : Kd.C k27 w (some ⟨g2, 0, none⟩) m1a.length m1a :=
 C_one k27 ⟨0, 1, [b1a, b1b]⟩ [.int .i64 0, .int .i64 1, .slice (some ⟨g1, 0, none⟩) 2 2] rfl (k27_mk w ⟨0, 1, [b1a, b1b]⟩ (A2 := some ⟨g1, 0, none⟩) (c2 := 2) (by decide)
  (C_two k41 b1a b1b [.bool false, .int .i64 0, .slice none 0 0, .bool false, .bool false, .slice none 0 0, .int .i64 4, .int .i64 0, .int .i64 0, .int .i64 0, .slice none 0 0, .int .i64 0, .int .i64 0, .int .i64 1] [.bool true, .int .i64 0, .slice none 0 0, .bool false, .bool true, .slice none 0 0, .int .i64 6, .int .i64 0, .int .i64 0, .int .i64 0, .slice none 0 0, .int .i64 0, .int .i64 0, .int .i64 0] rfl rfl b1a_K b1b_K h1)) h2
theorem b1_of {b : S41} (h : b ∈ [b1a, b1b]) : b = b1a ∨ b = b1b := by simpa using h
theorem f1a_B : BndF ⟨0, 1, [b1a, b1b]⟩ := ⟨by decide, fun b hb => (by rcases b1_of hb with rfl | rfl <;> decide), fun b hb => (by rcases b1_of hb with rfl | rfl <;> decide), fun b hb => (by rcases b1_of hb with rfl | rfl <;> decide), fun b hb x hx => (by rcases b1_of hb with rfl | rfl <;> cases hx)⟩
theorem f1_of {f : S27} (h : f ∈ m1a) : f = ⟨0, 1, [b1a, b1b]⟩ := by simpa [m1a] using h
theorem m1a_B : Bnd m1a := ⟨by decide, fun f hf => (by rw [f1_of hf]; exact f1a_B)⟩
theorem m1a_BC : BC m1a := ⟨by decide, fun f hf => (by rw [f1_of hf]; decide), fun f hf b hb => (by rw [f1_of hf] at hb; rcases b1_of hb with rfl | rfl <;> decide), fun f hf b hb => (by rw [f1_of hf] at hb; rcases b1_of hb with rfl | rfl <;> decide), fun f hf b hb => (by rw [f1_of hf] at hb; rcases b1_of hb with rfl | rfl <;> decide), fun f hf b hb x hx => (by rw [f1_of hf] at hb; rcases b1_of hb with rfl | rfl <;> cases hx)⟩
set_option maxHeartbeats 16000000 in
set_option maxRecDepth 100000 in
theorem awake15_c (w : World) : Calls Try.prog 40 #[] w fun e w' => e = .returned (.bool true) ∧ Below w.heap.size w w' := by
 have hu24 := Try.underlying24
 have hu27 := Try.underlying27
 have hu41 := Try.underlying41
 have hu49 := Try.underlying49
 have hu35 := Try.underlying35
 have hu39 := Try.underlying39
 have HB := Aside0.mk (Below.refl w.heap.size w)
 go_enter Try.func40, Try.ntmps40
 go_upto_region 1 with (fail)
 go_cut [1] (fun v1 wc => ∃ g1 : Nat, v1 = .pointer (some ⟨g1, 0, none⟩) ∧ Aside0 (Below w.heap.size w wc) ∧ Aside0 (∃ D1 k1, wc.heap[g1]? = some (.cells #[.int .i64 3, .slice D1 0 k1, .bool true, .bool false] 35 (0, 0))))
 case first =>
  go_wp2_with (go_at_call 45; go_loud (refine (trim_c (⟨3, [5], true, true⟩ : S35) (some ⟨w.heap.size, 0, none⟩) 1 _ (C_row (by decide) (blk_new _ _)) (by decide) (by decide)).mono ?_; rintro e w6 ⟨⟨v, he, hr⟩, hb⟩; obtain ⟨D1, k1, rfl, hl, _⟩ := Kd.R_reads hr; have he2 : e = .returned (.agg #[.int .i64 3, .slice D1 0 k1, .bool true, .bool false]) := he; subst he2; have HB6 := Aside0.mk ((below_alloc HB.out _).trans (hb.mono (below_size (below_alloc HB.out _)))); clear he hr hb hl))
  go_meet
  exact ⟨_, rfl, ⟨below_alloc HB6.out _⟩, ⟨D1, k1, blk_new _ _⟩⟩
 case rest =>
  clear HB
  obtain ⟨g1, rfl, HB, X1⟩ := hcut
  go_upto_region 2 with (fail)
  go_cut [2] (fun v2 wc => ∃ g2 : Nat, v2 = .pointer (some ⟨g2, 0, none⟩) ∧ Aside0 (Below w.heap.size w wc) ∧ Aside0 (∃ D1 k1, wc.heap[g1]? = some (.cells #[.int .i64 3, .slice D1 0 k1, .bool true, .bool false] 35 (0, 0))) ∧ Aside0 (∃ gb gf, wc.heap[g2]? = some (.cells #[.slice (some ⟨gf, 0, none⟩) 1 1] 24 (0, 0)) ∧ wc.heap[gf]? = some (.cells #[.int .i64 0, .int .i64 1, .slice (some ⟨gb, 0, none⟩) 2 2] 27 (0, 0)) ∧ wc.heap[gb]? = some (.cells #[.bool false, .int .i64 0, .slice none 0 0, .bool false, .bool false, .slice none 0 0, .int .i64 4, .int .i64 0, .int .i64 0, .int .i64 0, .slice none 0 0, .int .i64 0, .int .i64 0, .int .i64 1, .bool true, .int .i64 0, .slice none 0 0, .bool false, .bool true, .slice none 0 0, .int .i64 6, .int .i64 0, .int .i64 0, .int .i64 0, .slice none 0 0, .int .i64 0, .int .i64 0, .int .i64 0] 41 (0, 0))))
  case first =>
   go_wp2
   go_meet
   obtain ⟨D1, k1, hx⟩ := X1.out
   exact ⟨_, rfl, ⟨below_alloc (below_alloc (below_alloc HB.out _) _) _⟩, ⟨D1, k1, blk_below hx (below_alloc (below_alloc (below_alloc (Below.refl _ wc) _) _) _)⟩, ⟨_, _, blk_new3 _ _ _ _, (blk_alloc (blk_new2 _ _ _) _), (blk_alloc (blk_alloc (blk_new _ _) _) _)⟩⟩
  case rest =>
   clear HB X1
   obtain ⟨g2, rfl, HB, X1, X2⟩ := hcut
   obtain ⟨gb, gf, hx2, hxf, hxb⟩ := X2.out
   have Z2 := Aside0.mk hx2
   have ZF := Aside0.mk hxf
   have ZB := Aside0.mk hxb
   have m0 := (blk_cell Z2.out 0).trans rfl
   clear hx2 hxf hxb
   go_upto_region 3 with (fail)
   go_cut [3, 4] (fun v3 v4 wc => ∃ g3 : Nat, v3 = .pointer (some ⟨g3, 0, none⟩) ∧ v4 = .int .i64 0 ∧ Aside0 (Below w.heap.size w wc) ∧ Aside0 (∃ D1 k1, wc.heap[g1]? = some (.cells #[.int .i64 3, .slice D1 0 k1, .bool true, .bool false] 35 (0, 0))) ∧ Aside0 (∃ gb gf, wc.heap[g2]? = some (.cells #[.slice (some ⟨gf, 0, none⟩) 1 1] 24 (0, 0)) ∧ wc.heap[gf]? = some (.cells #[.int .i64 0, .int .i64 1, .slice (some ⟨gb, 0, none⟩) 2 2] 27 (0, 0)) ∧ wc.heap[gb]? = some (.cells #[.bool false, .int .i64 0, .slice none 0 0, .bool false, .bool false, .slice none 0 0, .int .i64 4, .int .i64 0, .int .i64 0, .int .i64 0, .slice none 0 0, .int .i64 0, .int .i64 0, .int .i64 1, .bool true, .int .i64 0, .slice none 0 0, .bool false, .bool true, .slice none 0 0, .int .i64 6, .int .i64 0, .int .i64 0, .int .i64 0, .slice none 0 0, .int .i64 0, .int .i64 0, .int .i64 0] 41 (0, 0))) ∧ Aside0 (∃ A c, wc.heap[g3]? = some (.cells #[.slice A 1 c] 24 (0, 0)) ∧ Kd.C k27 wc A n1a.length n1a))
   case first =>
    go_wp2_with (go_at_call 41; go_loud (refine (pmod_c m1a (some ⟨gf, 0, none⟩) 1 _ (m1a_C ZB.out ZF.out) (by decide) m1a_BC m1a_B).mono ?_; rintro e w6 ⟨⟨v, he, hs⟩, hb⟩; rw [m1a_p] at hs; rw [m1a_e] at he; obtain ⟨A, c, rfl, hl, hC⟩ := SM_reads hs; have he2 : e = .returned (.tuple #[.agg #[.slice A 1 c], .int .i64 0]) := he; subst he2; have HC := Aside0.mk hC; have HBN := Aside0.mk hb; clear he hs hl hC hb))
    go_meet
    obtain ⟨D1, k1, hx⟩ := X1.out
    exact ⟨_, rfl, rfl, ⟨below_alloc (HB.out.trans (HBN.out.mono HB.out.size)) _⟩, ⟨D1, k1, blk_below hx (below_alloc HBN.out _)⟩, ⟨gb, gf, blk_below Z2.out (below_alloc HBN.out _), blk_below ZF.out (below_alloc HBN.out _), blk_below ZB.out (below_alloc HBN.out _)⟩, ⟨A, c, blk_new _ _, Kd.C_below HC.out (below_alloc (Below.refl _ _) _)⟩⟩
   case rest =>
    clear HB X1 X2 Z2 ZF ZB m0
    obtain ⟨g3, rfl, rfl, HB, X1, X2, X3⟩ := hcut
    obtain ⟨D1, k1, hx1⟩ := X1.out
    obtain ⟨gb, gf, hx2, hxf, hxb⟩ := X2.out
    obtain ⟨A, c, hx3, hC⟩ := X3.out
    have Z1 := Aside0.mk hx1
    have Z2 := Aside0.mk hx2
    have ZF := Aside0.mk hxf
    have ZB := Aside0.mk hxb
    have Z3 := Aside0.mk hx3
    obtain ⟨ad, A2, c2, e1, y0, y1, y2, hl2, hC2⟩ := at_T27 hC 0 (by decide) (by decide)
    subst e1
    have y2' : wc.cell? ⟨ad.block, ad.off + 2, none⟩ = some (.slice A2 2 c2) := y2
    obtain ⟨ad2, q4, k4, q5, k5, q6, k6, e1, z0, z1, z2, z3, z4, z5, z6, z7, z8, z9, z10, z11, z12, z13, _⟩ := at_T41 hC2 0 (by decide) (by decide)
    have e2 : A2 = some ad2 := e1
    subst e2
    have z6' : wc.cell? ⟨ad2.block, ad2.off + 6, none⟩ = some (.int .i64 2) := z6
    clear y0 y1 y2 e1 hx1 hx2 hxf hxb hx3 hC hl2 hC2 X1 X2 X3 z0 z1 z2 z3 z4 z5 z6 z7 z8 z9 z10 z11 z12 z13
    have r0 := (blk_cell Z1.out 0).trans rfl
    have r1 := (blk_cell Z1.out 1).trans rfl
    have r2 := (blk_cell Z1.out 2).trans rfl
    have r3 := (blk_cell Z1.out 3).trans rfl
    have m0 := (blk_cell Z2.out 0).trans rfl
    have f0 := (blk_cell ZF.out 0).trans rfl
    have f1 := (blk_cell ZF.out 1).trans rfl
    have f2 := (blk_cell ZF.out 2).trans rfl
    have s0 := (blk_cell Z3.out 0).trans rfl
    have bq0 : wc.cell? ⟨gb, 14, none⟩ = some (.bool true) := (blk_cell ZB.out 14).trans rfl
    have bq1 : wc.cell? ⟨gb, 14 + 1, none⟩ = some (.int .i64 0) := (blk_cell ZB.out 15).trans rfl
    have bq2 : wc.cell? ⟨gb, 14 + 2, none⟩ = some (.slice none 0 0) := (blk_cell ZB.out 16).trans rfl
    have bq3 : wc.cell? ⟨gb, 14 + 3, none⟩ = some (.bool false) := (blk_cell ZB.out 17).trans rfl
    have bq4 : wc.cell? ⟨gb, 14 + 4, none⟩ = some (.bool true) := (blk_cell ZB.out 18).trans rfl
    have bq5 : wc.cell? ⟨gb, 14 + 5, none⟩ = some (.slice none 0 0) := (blk_cell ZB.out 19).trans rfl
    have bq6 : wc.cell? ⟨gb, 14 + 6, none⟩ = some (.int .i64 6) := (blk_cell ZB.out 20).trans rfl
    have bq7 : wc.cell? ⟨gb, 14 + 7, none⟩ = some (.int .i64 0) := (blk_cell ZB.out 21).trans rfl
    have bq8 : wc.cell? ⟨gb, 14 + 8, none⟩ = some (.int .i64 0) := (blk_cell ZB.out 22).trans rfl
    have bq9 : wc.cell? ⟨gb, 14 + 9, none⟩ = some (.int .i64 0) := (blk_cell ZB.out 23).trans rfl
    have bq10 : wc.cell? ⟨gb, 14 + 10, none⟩ = some (.slice none 0 0) := (blk_cell ZB.out 24).trans rfl
    have bq11 : wc.cell? ⟨gb, 14 + 11, none⟩ = some (.int .i64 0) := (blk_cell ZB.out 25).trans rfl
    have bq12 : wc.cell? ⟨gb, 14 + 12, none⟩ = some (.int .i64 0) := (blk_cell ZB.out 26).trans rfl
    have bq13 : wc.cell? ⟨gb, 14 + 13, none⟩ = some (.int .i64 0) := (blk_cell ZB.out 27).trans rfl
    have br0 : wc.cell? ⟨gb, 14, none⟩ = some (.bool true) := bq0
    have br1 : wc.cell? ⟨gb, 15, none⟩ = some (.int .i64 0) := bq1
    have br2 : wc.cell? ⟨gb, 16, none⟩ = some (.slice none 0 0) := bq2
    have br3 : wc.cell? ⟨gb, 17, none⟩ = some (.bool false) := bq3
    have br4 : wc.cell? ⟨gb, 18, none⟩ = some (.bool true) := bq4
    have br5 : wc.cell? ⟨gb, 19, none⟩ = some (.slice none 0 0) := bq5
    have br6 : wc.cell? ⟨gb, 20, none⟩ = some (.int .i64 6) := bq6
    have br7 : wc.cell? ⟨gb, 21, none⟩ = some (.int .i64 0) := bq7
    have br8 : wc.cell? ⟨gb, 22, none⟩ = some (.int .i64 0) := bq8
    have br9 : wc.cell? ⟨gb, 23, none⟩ = some (.int .i64 0) := bq9
    have br10 : wc.cell? ⟨gb, 24, none⟩ = some (.slice none 0 0) := bq10
    have br11 : wc.cell? ⟨gb, 25, none⟩ = some (.int .i64 0) := bq11
    have br12 : wc.cell? ⟨gb, 26, none⟩ = some (.int .i64 0) := bq12
    have br13 : wc.cell? ⟨gb, 27, none⟩ = some (.int .i64 0) := bq13
    go_wp2_with (go_at_call 42; go_loud (refine (noth_c b1b none 0 none 0 none 0 _ (nilk_C _) (by decide) (nilk_C _) (by decide) (nilk_C _) (by decide)).mono ?_; rintro e w7 ⟨he, hb⟩; rw [show nothB b1b = true from by decide +kernel] at he; subst he; have HB7 := Aside0.mk (HB.out.trans (hb.mono HB.out.size)); clear hb))
    go_ret
    exact ⟨rfl, HB7.out⟩
end Go.Proofs.Ytbfialebaoeicaa.X
namespace Go.Proofs.Ytbfialebaoeicaa.X
open Go.RowKit Go.Proofs.YtbfialebaoeicaaW.PrintWords Go.Proofs.YtbfialebaoeicaaW.PrintLast Go.Proofs.YtbfialebaoeicaaW.PrintMore
attribute [local go_sem] max2_int min2_int max_two min_two max_three min_three max_four min_four
set_option linter.all false
noncomputable section
def davitref05_Catches.l0 : Nat → Int → Int → Int → List Int → Bool → Bool → Option (Bool)
 | 0, _, _, _, _, _, _ => none
 | k + 1, x1, x5, x396000, x396001, x396002, x396003 => if x5 < (x396001.length : Int) then (if 0 ≤ x5 then (if (rd x396001 x5) = x1 then (some true) else (davitref05_Catches.l0 k x1 (wrap64 (x5 + 1)) x396000 x396001 x396002 x396003)) else (none)) else (some x396002)
def davitref05_Catches.f (k : Nat) (a0_0 : Int) (l0_1 : List Int) (a0_2 : Bool) (a0_3 : Bool) (a1 : Int) : Option (Bool) := davitref05_Catches.l0 k a1 0 a0_0 l0_1 a0_2 a0_3
theorem davitref05_Catches.mono_l : ∀ k, (∀ y0 y1 y2 y3 y4 y5, LeO (davitref05_Catches.l0 k y0 y1 y2 y3 y4 y5) (davitref05_Catches.l0 (k + 1) y0 y1 y2 y3 y4 y5))
 | 0 => fun _ _ _ _ _ _ r h => by simp [davitref05_Catches.l0] at h
 | k + 1 => by
  have ih0 := davitref05_Catches.mono_l k
  ·intro y0 y1 y2 y3 y4 y5
   unfold davitref05_Catches.l0
   repeat' first
   | (with_reducible exact ih0 _ _ _ _ _ _)
   | (with_reducible exact LeO.refl _)
   | (with_reducible exact LeO.none _)
   | (with_reducible refine LeO.ite ?_ ?_)
   | (with_reducible refine LeO.bind ?_ (fun _ => ?_))
   | exact ih0 _ _ _ _ _ _
   | exact LeO.none _
   | refine LeO.ite ?_ ?_
   | refine LeO.bind ?_ (fun _ => ?_)
theorem davitref05_Catches.mono : ∀ a0 a1 a2 a3 a4 k, LeO (davitref05_Catches.f k a0 a1 a2 a3 a4) (davitref05_Catches.f (k + 1) a0 a1 a2 a3 a4) := by
 intro a0 a1 a2 a3 a4 k
 have ih0 := davitref05_Catches.mono_l k
 unfold davitref05_Catches.f
 repeat' first
   | (with_reducible exact ih0 _ _ _ _ _ _)
   | (with_reducible exact LeO.refl _)
   | (with_reducible exact LeO.none _)
   | (with_reducible refine LeO.ite ?_ ?_)
   | (with_reducible refine LeO.bind ?_ (fun _ => ?_))
   | exact ih0 _ _ _ _ _ _
   | exact LeO.none _
   | refine LeO.ite ?_ ?_
   | refine LeO.bind ?_ (fun _ => ?_)
set_option maxHeartbeats 8000000 in
set_option maxRecDepth 100000 in
theorem davitref05_Catches.calls (k : Nat) (a0_0 : Int) (A0_1 : Option Addr) (c0_1 : Nat) (l0_1 : List Int) (a0_2 : Bool) (a0_3 : Bool) (a1 : Int) (r : Bool) (w : World) (hr0_1 : Kd.C (Kd.int .u16) w A0_1 l0_1.length l0_1) (hc0_1 : l0_1.length ≤ c0_1) (h : davitref05_Catches.f k a0_0 l0_1 a0_2 a0_3 a1 = some r) :
  Calls Try.prog 32 #[.agg #[.int .i64 a0_0, .slice A0_1 l0_1.length c0_1, .bool a0_2, .bool a0_3], .int .u16 a1] w fun e w' => e = .returned (.bool r) ∧ Below w.heap.size w w' := by
 have hu35 := Try.underlying35
 have HR0_1 := Aside0.mk hr0_1
 have HC0_1 := Aside0.mk hc0_1
 clear hr0_1 hc0_1
 have HB := Aside0.mk (Below.refl w.heap.size w)
 have H : (davitref05_Catches.l0 k a1 0 a0_0 l0_1 a0_2 a0_3) = some r := h
 clear h
 have H' := Aside0.mk H
 clear H
 go_enter Try.func32, Try.ntmps32
 go_wp2_with (first | ((with_reducible refine gate_dst (N := 2) rfl ?_); refine box_event ?hg (N := 2) ?hd (cs := #[.int .i64 a0_0, .slice A0_1 l0_1.length c0_1, .bool a0_2, .bool a0_3]) (t := 35) ?hr ?_; (case hd => rfl); (case hg => rfl); (case hr => first | (go_simp; done) | (go_simp; rfl)); intro gb395 hg w3 hbox hb; have n0_ := Aside0.mk (below_step (by repeat (first | (with_reducible first | exact HB.out | apply below_alloc | apply pw_below_drewN | apply below_drew1) | exact HB.out)) hb); have n1_ := Aside0.mk (hbox); have n2_ := Aside0.mk ((by rw [hg]; exact (below_size (by repeat (first | (with_reducible first | exact HB.out | apply below_alloc | apply pw_below_drewN | apply below_drew1) | exact HB.out))) : w.heap.size ≤ gb395)); have n3_ := Aside0.mk ((by rw [hg]; exact (below_size (by repeat (first | (with_reducible first | exact HB.out | apply below_alloc | apply pw_below_drewN | apply below_drew1) | exact HB.out))) : w.heap.size ≤ gb395)); clear HB; have HB := n0_; have BK395 := n1_; have GW395 := n2_; have GE395 := n3_; clear n0_ n1_ n2_ n3_; clear hb hbox hg))
 go_loopg [5] k (fun kq v5 w' => ∃ (x5_1 : Int), v5 = .int .i64 x5_1 ∧ Aside0 (davitref05_Catches.l0 kq a1 x5_1 a0_0 l0_1 a0_2 a0_3 = some r) ∧ Aside0 (kq ≤ k) ∧ Aside0 (w'.heap[gb395]? = some (.cells #[.int .i64 a0_0, (.slice A0_1 l0_1.length c0_1), .bool a0_2, .bool a0_3] 35 (0, 0))) ∧ Aside0 (Below w.heap.size w w'))
 case atStart => exact ⟨(0), (by first | rfl | (simp; done) | (simp [*]; done)), H', ⟨Nat.le_refl _⟩, ⟨by (with_reducible repeat (first | refine blk_drewN ?_ _ | refine blk_drew ?_ | refine blk_alloc ?_ _)); exact BK395.out⟩, ⟨by repeat (first | (with_reducible first | exact HB.out | apply below_alloc | apply pw_below_drewN | apply below_drew1 | refine below_set ?_ GE395.out) | exact HB.out)⟩⟩
 case round =>
  clear H'
  try clear p2
  try clear c3
  obtain ⟨x5_1, rfl, HA, HK1, BK395, HB⟩ := hrel
  cases gk with
  | zero => exact absurd HA.out (by simp [davitref05_Catches.l0])
  | succ k1 =>
   have H := HA.out
   clear HA
   simp only [davitref05_Catches.l0] at H
   by_cases c4 : x5_1 < (l0_1.length : Int)
   ·rw [if_pos c4] at H
    have c4b0 : decide (x5_1 < (l0_1.length : Int)) = true := decide_eq_true c4
    clear c4
    by_cases c5 : 0 ≤ x5_1
    ·rw [if_pos c5] at H
     have c5b0 : decide (0 ≤ x5_1) = true := decide_eq_true c5
     clear c5
     by_cases c6 : (rd l0_1 x5_1) = a1
     ·rw [if_pos c6] at H
      have c6b0 : ((rd l0_1 x5_1) == a1) = true := beq_iff_eq.mpr c6
      have c6b1 : ((rd l0_1 x5_1) != a1) = false := bne_eq_false_iff_eq.mpr c6
      clear c6
      obtain rfl := Option.some.inj H
      have hcz7_0 : wr.cell? ⟨gb395, 0, none⟩ = some (.int .i64 a0_0) := (blk_cell BK395.out 0).trans rfl
      have hcz7_1 : wr.cell? ⟨gb395, 1, none⟩ = some (.slice A0_1 l0_1.length c0_1) := (blk_cell BK395.out 1).trans rfl
      have hcz7_2 : wr.cell? ⟨gb395, 2, none⟩ = some (.bool a0_2) := (blk_cell BK395.out 2).trans rfl
      have hcz7_3 : wr.cell? ⟨gb395, 3, none⟩ = some (.bool a0_3) := (blk_cell BK395.out 3).trans rfl
      have hfz7_0 := blk_frozen BK395.out 0
      have hfz7_1 := blk_frozen BK395.out 1
      have hfz7_2 := blk_frozen BK395.out 2
      have hfz7_3 := blk_frozen BK395.out 3
      have p396 : 0 ≤ (x5_1 : Int) := of_decide_eq_true (by first | (with_reducible assumption) | assumption)
      have q396 : x5_1 < (l0_1.length : Int) := of_decide_eq_true (by first | (with_reducible assumption) | assumption)
      obtain ⟨ad396, e396, hx396_0⟩ := Kd.at_int HR0_1.out x5_1 p396 q396
      cases e396
      replace hx396_0 := (HB.out.cell (World.block_lt_of_cell? w _ hx396_0)).trans hx396_0
      replace p396 := eq_true p396
      replace q396 := eq_true q396
      go_wp2
      go_ret
      exact ⟨by first | rfl | (simp [errW_none, errW_some] <;> rfl) | (simp [*, errW_none, errW_some] <;> rfl), by repeat (first | (with_reducible first | exact HB.out | apply below_alloc | apply pw_below_drewN | apply below_drew1 | refine below_set ?_ GE395.out) | exact HB.out)⟩
     ·rw [if_neg c6] at H
      have c6b0 : ((rd l0_1 x5_1) == a1) = false := beq_eq_false_iff_ne.mpr c6
      have c6b1 : ((rd l0_1 x5_1) != a1) = true := bne_iff_ne.mpr c6
      have H' := Aside0.mk H
      clear H
      have hcz8_0 : wr.cell? ⟨gb395, 0, none⟩ = some (.int .i64 a0_0) := (blk_cell BK395.out 0).trans rfl
      have hcz8_1 : wr.cell? ⟨gb395, 1, none⟩ = some (.slice A0_1 l0_1.length c0_1) := (blk_cell BK395.out 1).trans rfl
      have hcz8_2 : wr.cell? ⟨gb395, 2, none⟩ = some (.bool a0_2) := (blk_cell BK395.out 2).trans rfl
      have hcz8_3 : wr.cell? ⟨gb395, 3, none⟩ = some (.bool a0_3) := (blk_cell BK395.out 3).trans rfl
      have hfz8_0 := blk_frozen BK395.out 0
      have hfz8_1 := blk_frozen BK395.out 1
      have hfz8_2 := blk_frozen BK395.out 2
      have hfz8_3 := blk_frozen BK395.out 3
      have p396 : 0 ≤ (x5_1 : Int) := of_decide_eq_true (by first | (with_reducible assumption) | assumption)
      have q396 : x5_1 < (l0_1.length : Int) := of_decide_eq_true (by first | (with_reducible assumption) | assumption)
      obtain ⟨ad396, e396, hx396_0⟩ := Kd.at_int HR0_1.out x5_1 p396 q396
      cases e396
      replace hx396_0 := (HB.out.cell (World.block_lt_of_cell? w _ hx396_0)).trans hx396_0
      replace p396 := eq_true p396
      replace q396 := eq_true q396
      go_wp2
      go_roundg k1
      case measure => have := HK1.out; omega
      case rel => exact ⟨(wrap64 (x5_1 + 1)), (by first | rfl | (simp; done) | (simp [*]; done)), H', ⟨by have := HK1.out; omega⟩, ⟨by (with_reducible repeat (first | refine blk_drewN ?_ _ | refine blk_drew ?_ | refine blk_alloc ?_ _)); exact BK395.out⟩, ⟨by repeat (first | (with_reducible first | exact HB.out | apply below_alloc | apply pw_below_drewN | apply below_drew1 | refine below_set ?_ GE395.out) | exact HB.out)⟩⟩
    ·rw [if_neg c5] at H
     exact absurd H (by simp)
   ·rw [if_neg c4] at H
    have c4b0 : decide (x5_1 < (l0_1.length : Int)) = false := decide_eq_false c4
    clear c4
    obtain rfl := Option.some.inj H
    have hcz9_0 : wr.cell? ⟨gb395, 0, none⟩ = some (.int .i64 a0_0) := (blk_cell BK395.out 0).trans rfl
    have hcz9_1 : wr.cell? ⟨gb395, 1, none⟩ = some (.slice A0_1 l0_1.length c0_1) := (blk_cell BK395.out 1).trans rfl
    have hcz9_2 : wr.cell? ⟨gb395, 2, none⟩ = some (.bool a0_2) := (blk_cell BK395.out 2).trans rfl
    have hcz9_3 : wr.cell? ⟨gb395, 3, none⟩ = some (.bool a0_3) := (blk_cell BK395.out 3).trans rfl
    have hfz9_0 := blk_frozen BK395.out 0
    have hfz9_1 := blk_frozen BK395.out 1
    have hfz9_2 := blk_frozen BK395.out 2
    have hfz9_3 := blk_frozen BK395.out 3
    go_wp2
    go_ret
    exact ⟨by first | rfl | (simp [errW_none, errW_some] <;> rfl) | (simp [*, errW_none, errW_some] <;> rfl), by repeat (first | (with_reducible first | exact HB.out | apply below_alloc | apply pw_below_drewN | apply below_drew1 | refine below_set ?_ GE395.out) | exact HB.out)⟩
end
end Go.Proofs.Ytbfialebaoeicaa.X
namespace Go.Proofs.Ytbfialebaoeicaa.X
open Go.ChangeShapes Go.WideShapes Go.ChangeAt Go.RowKit Go.Proofs.YtbfialebaoeicaaW.PrintWords Go.Proofs.YtbfialebaoeicaaW.PrintLast Go.Proofs.YtbfialebaoeicaaW.PrintMore
set_option linter.all false
set_option maxRecDepth 100000
def Opens {α : Type} (d : Kd α) (t : TypeId) : Prop := ∀ (H : Type) (enc : TypeId × Value → H) (w : World) (fuel : Nat) (cs : List Value) (x : DataW H × List MemPlace),
 DataW.trod enc Try.prog w 0 (fun _ => true) true fuel t cs = some x → ∃ a, d.K w a cs
theorem Opens.int {k : IntKind} {t : TypeId} (ht : Try.prog.underlying t = some (.int k)) : Opens (Kd.int k) t := fun H enc w fuel cs x h => by
 obtain ⟨n, rfl, _⟩ := DataW.trod_int ht h
 exact ⟨n, rfl⟩
theorem Opens.bool {t : TypeId} (ht : Try.prog.underlying t = some .bool) : Opens Kd.bool t := fun H enc w fuel cs x h => by
 obtain ⟨n, rfl, _⟩ := DataW.trod_bool ht h
 exact ⟨n, rfl⟩
theorem Opens.slice {α : Type} {d : Kd α} {t e : TypeId} (e' : Nat) (ht : Try.prog.underlying t = some (.slice e)) (hd : Opens d e) (hs : d.sz = Try.prog.cellsOf e) : Opens (Kd.slice e' d) t := fun H enc w fuel cs x h => by
 rcases Go.Deep.open_slice ht h with ⟨rfl, _⟩ | ⟨a, len, cap, m, n, D, Pl, rfl, _, hl, hm, hmm, _, hx⟩
 ·exact ⟨[], none, 0, rfl, Nat.le_refl _, ⟨rfl, by simp, fun h => absurd h (by simp)⟩⟩
 ·have hlm : len ≤ m := by rw [hmm]; split <;> omega
  have key : ∀ j, j ≤ len → ∃ xs : List α, xs.length = j ∧ ∀ i p, xs[i]? = some p → ∃ c, c.length = d.sz ∧ d.K w p c ∧ ∀ q u, c[q]? = some u → w.cell? (a.add (i * d.sz + q)) = some u := by
   intro j
   induction j with
   | zero => exact fun _ => ⟨[], rfl, fun i p h => by simp at h⟩
   | succ j ih =>
    intro hj
    obtain ⟨xs, h1, h2⟩ := ih (by omega)
    obtain ⟨cs', h3, h4⟩ := hx j (by omega)
    obtain ⟨p, hp⟩ := hd H enc w n cs' _ h4
    obtain ⟨_, h5, h6⟩ := World.cells?_some h3
    refine ⟨xs ++ [p], by simp [h1], fun i q hq => ?_⟩
    by_cases hi : i < j
    ·rw [List.getElem?_append_left (by omega)] at hq
     exact h2 i q hq
    ·have hi' : i = j := by
      have := (List.getElem?_eq_some_iff.1 hq).1
      simp [h1] at this; omega
     subst hi'
     rw [List.getElem?_append_right (by omega), h1, Nat.sub_self] at hq
     simp at hq
     subst hq
     refine ⟨cs', by rw [h5, hs], hp, fun z u hz => ?_⟩
     have hzl := (List.getElem?_eq_some_iff.1 hz).1
     have := h6 z (by omega)
     rw [Go.Deep.add_add, ← hs] at this
     rw [this, hz]
  obtain ⟨xs, h1, h2⟩ := key len (Nat.le_refl _)
  have hmx : maxLen ≤ 9223372036854775807 := by decide
  exact ⟨xs, some a, cap, by rw [h1], by rw [h1]; exact hl, ⟨rfl, by omega, fun _ => ⟨a, rfl, h2⟩⟩⟩
theorem Opens.iso {α β : Type} {d : Kd α} {t : TypeId} (f : β → α) (g : α → β) (hg : ∀ y, f (g y) = y) (h : Opens d t) : Opens (Kd.iso d f) t := fun H enc w fuel cs x hx => by
 obtain ⟨a, ha⟩ := h H enc w fuel cs x hx
 exact ⟨g a, show d.K w (f (g a)) cs by rw [hg]; exact ha⟩
def OpensF {α : Type} (d : Kd α) (fs : List Field) (off : Nat) : Prop := ∀ (H : Type) (enc : TypeId × Value → H) (w : World) (n : Nat) (cs : List Value), cs.length = off + d.sz →
 (∀ f ∈ fs, ∃ y, DataW.trod enc Try.prog w 0 (fun _ => true) true n f.type ((cs.drop f.offset).take (Try.prog.cellsOf f.type)) = some y) → ∃ a, d.K w a (cs.drop off)
theorem OpensF.one {α : Type} {d : Kd α} {f : Field} {off : Nat} (ho : f.offset = off) (hd : Opens d f.type) (hs : Try.prog.cellsOf f.type = d.sz) : OpensF d [f] off := fun H enc w n cs hl h => by
 obtain ⟨y, hy⟩ := h f (List.mem_cons_self ..)
 rw [ho, hs, List.take_of_length_le (by rw [List.length_drop]; omega)] at hy
 exact hd H enc w n _ _ hy
theorem OpensF.cons {α β : Type} {d : Kd α} {d2 : Kd β} {f : Field} {fs : List Field} {off : Nat} (ho : f.offset = off) (hd : Opens d f.type) (hs : Try.prog.cellsOf f.type = d.sz) (h2 : OpensF d2 fs (off + d.sz)) : OpensF (Kd.pair d d2) (f :: fs) off := fun H enc w n cs hl h => by
 obtain ⟨y, hy⟩ := h f (List.mem_cons_self ..)
 rw [ho, hs] at hy
 obtain ⟨a, ha⟩ := hd H enc w n _ _ hy
 have hl' : cs.length = off + (d.sz + d2.sz) := hl
 obtain ⟨b, hb⟩ := h2 H enc w n cs (by omega) fun g hg => h g (List.mem_cons_of_mem _ hg)
 refine ⟨(a, b), _, _, ?_, ha, hb⟩
 rw [show cs.drop (off + d.sz) = (cs.drop off).drop d.sz by rw [List.drop_drop], List.take_append_drop]
theorem Opens.struct {α : Type} {d : Kd α} {t : TypeId} {fs : Array Field} (ht : Try.prog.underlying t = some (.struct fs)) (hs : Try.prog.cellsOf t = d.sz) (h : OpensF d fs.toList 0) : Opens d t := fun H enc w fuel cs x hx => by
 obtain ⟨xs, n, _, _, hl, hlen, hf⟩ := DataW.trod_struct ht hx
 have := h H enc w n cs (by omega) fun f hm => by
  obtain ⟨i, hi, e⟩ := List.getElem_of_mem hm
  have hi' : i < fs.size := by simpa using hi
  have := hf i f (by rw [← e]; simp [hi'])
  rw [this, List.getElem?_eq_getElem (by omega)]
  exact ⟨_, rfl⟩
 simpa using this
def OpensP {α : Type} (d : Kd α) (t : TypeId) (Q : α → Prop) : Prop := ∀ (H : Type) (enc : TypeId × Value → H) (w : World) (fuel : Nat) (cs : List Value) (x : DataW H × List MemPlace),
 DataW.trod enc Try.prog w 0 (fun _ => true) true fuel t cs = some x → ∃ a, d.K w a cs ∧ Q a
theorem OpensP.int {k : IntKind} {t : TypeId} (ht : Try.prog.underlying t = some (.int k)) : OpensP (Kd.int k) t (fun n => (Lit.int k n).wf = true) := fun H enc w fuel cs x h => by
 obtain ⟨n, rfl, _, hw⟩ := DataW.trod_int ht h
 exact ⟨n, rfl, hw⟩
theorem OpensP.slice {α : Type} {d : Kd α} {t e : TypeId} {Q : α → Prop} (e' : Nat) (ht : Try.prog.underlying t = some (.slice e)) (hd : OpensP d e Q) (hs : d.sz = Try.prog.cellsOf e) : OpensP (Kd.slice e' d) t (fun xs => ∀ x ∈ xs, Q x) := fun H enc w fuel cs x h => by
 rcases Go.Deep.open_slice ht h with ⟨rfl, _⟩ | ⟨a, len, cap, m, n, D, Pl, rfl, _, hl, hm, hmm, _, hx⟩
 ·exact ⟨[], ⟨none, 0, rfl, Nat.le_refl _, ⟨rfl, by simp, fun h => absurd h (by simp)⟩⟩, by simp⟩
 ·have hlm : len ≤ m := by rw [hmm]; split <;> omega
  have key : ∀ j, j ≤ len → ∃ xs : List α, xs.length = j ∧ (∀ x ∈ xs, Q x) ∧ ∀ i p, xs[i]? = some p → ∃ c, c.length = d.sz ∧ d.K w p c ∧ ∀ q u, c[q]? = some u → w.cell? (a.add (i * d.sz + q)) = some u := by
   intro j
   induction j with
   | zero => exact fun _ => ⟨[], rfl, by simp, fun i p h => by simp at h⟩
   | succ j ih =>
    intro hj
    obtain ⟨xs, h1, hq, h2⟩ := ih (by omega)
    obtain ⟨cs', h3, h4⟩ := hx j (by omega)
    obtain ⟨p, hp, hqp⟩ := hd H enc w n cs' _ h4
    obtain ⟨_, h5, h6⟩ := World.cells?_some h3
    refine ⟨xs ++ [p], by simp [h1], fun x hx => (List.mem_append.1 hx).elim (hq x) (fun h => (List.mem_singleton.1 h) ▸ hqp), fun i q hq => ?_⟩
    by_cases hi : i < j
    ·rw [List.getElem?_append_left (by omega)] at hq
     exact h2 i q hq
    ·have hi' : i = j := by
      have := (List.getElem?_eq_some_iff.1 hq).1
      simp [h1] at this; omega
     subst hi'
     rw [List.getElem?_append_right (by omega), h1, Nat.sub_self] at hq
     simp at hq
     subst hq
     refine ⟨cs', by rw [h5, hs], hp, fun z u hz => ?_⟩
     have hzl := (List.getElem?_eq_some_iff.1 hz).1
     have := h6 z (by omega)
     rw [Go.Deep.add_add, ← hs] at this
     rw [this, hz]
  obtain ⟨xs, h1, hq, h2⟩ := key len (Nat.le_refl _)
  have hmx : maxLen ≤ 9223372036854775807 := by decide
  exact ⟨xs, ⟨some a, cap, by rw [h1], by rw [h1]; exact hl, ⟨rfl, by omega, fun _ => ⟨a, rfl, h2⟩⟩⟩, hq⟩
end Go.Proofs.Ytbfialebaoeicaa.X
namespace Go.Proofs.Ytbfialebaoeicaa.X
open Go.ChangeShapes Go.WideShapes Go.ChangeAt Go.RowKit Go.Proofs.YtbfialebaoeicaaW.PrintWords Go.Proofs.YtbfialebaoeicaaW.PrintLast Go.Proofs.YtbfialebaoeicaaW.PrintMore
set_option linter.all false
set_option maxRecDepth 100000
def OpensPF {α : Type} (d : Kd α) (fs : List Field) (off : Nat) (Q : α → Prop) : Prop := ∀ (H : Type) (enc : TypeId × Value → H) (w : World) (n : Nat) (cs : List Value), cs.length = off + d.sz →
 (∀ f ∈ fs, ∃ y, DataW.trod enc Try.prog w 0 (fun _ => true) true n f.type ((cs.drop f.offset).take (Try.prog.cellsOf f.type)) = some y) → ∃ a, d.K w a (cs.drop off) ∧ Q a
theorem OpensPF.one {α : Type} {d : Kd α} {f : Field} {off : Nat} {Q : α → Prop} (ho : f.offset = off) (hd : OpensP d f.type Q) (hs : Try.prog.cellsOf f.type = d.sz) : OpensPF d [f] off Q := fun H enc w n cs hl h => by
 obtain ⟨y, hy⟩ := h f (List.mem_cons_self ..)
 rw [ho, hs, List.take_of_length_le (by rw [List.length_drop]; omega)] at hy
 exact hd H enc w n _ _ hy
theorem OpensPF.cons {α β : Type} {d : Kd α} {d2 : Kd β} {f : Field} {fs : List Field} {off : Nat} {Q : α → Prop} {Q2 : β → Prop} (ho : f.offset = off) (hd : OpensP d f.type Q) (hs : Try.prog.cellsOf f.type = d.sz) (h2 : OpensPF d2 fs (off + d.sz) Q2) : OpensPF (Kd.pair d d2) (f :: fs) off (fun x => Q x.1 ∧ Q2 x.2) := fun H enc w n cs hl h => by
 obtain ⟨y, hy⟩ := h f (List.mem_cons_self ..)
 rw [ho, hs] at hy
 obtain ⟨a, ha, hqa⟩ := hd H enc w n _ _ hy
 have hl' : cs.length = off + (d.sz + d2.sz) := hl
 obtain ⟨b, hb, hqb⟩ := h2 H enc w n cs (by omega) fun g hg => h g (List.mem_cons_of_mem _ hg)
 refine ⟨(a, b), ⟨_, _, ?_, ha, hb⟩, hqa, hqb⟩
 rw [show cs.drop (off + d.sz) = (cs.drop off).drop d.sz by rw [List.drop_drop], List.take_append_drop]
theorem OpensP.struct {α : Type} {d : Kd α} {t : TypeId} {fs : Array Field} {Q : α → Prop} (ht : Try.prog.underlying t = some (.struct fs)) (hs : Try.prog.cellsOf t = d.sz) (h : OpensPF d fs.toList 0 Q) : OpensP d t Q := fun H enc w fuel cs x hx => by
 obtain ⟨xs, n, _, _, hl, hlen, hf⟩ := DataW.trod_struct ht hx
 have := h H enc w n cs (by omega) fun f hm => by
  obtain ⟨i, hi, e⟩ := List.getElem_of_mem hm
  have hi' : i < fs.size := by simpa using hi
  have := hf i f (by rw [← e]; simp [hi'])
  rw [this, List.getElem?_eq_getElem (by omega)]
  exact ⟨_, rfl⟩
 simpa using this
theorem OpensP.iso {α β : Type} {d : Kd α} {t : TypeId} {Q : α → Prop} (f : β → α) (g : α → β) (hg : ∀ y, f (g y) = y) (h : OpensP d t Q) : OpensP (Kd.iso d f) t (fun y => Q (f y)) := fun H enc w fuel cs x hx => by
 obtain ⟨a, ha, hq⟩ := h H enc w fuel cs x hx
 exact ⟨g a, show d.K w (f (g a)) cs by rw [hg]; exact ha, by show Q (f (g a)); rw [hg]; exact hq⟩
theorem OpensP.of {α : Type} {d : Kd α} {t : TypeId} (h : Opens d t) : OpensP d t (fun _ => True) := fun H enc w fuel cs x hx => by
 obtain ⟨a, ha⟩ := h H enc w fuel cs x hx
 exact ⟨a, ha, trivial⟩
theorem OpensP.mono {α : Type} {d : Kd α} {t : TypeId} {Q Q' : α → Prop} (h : OpensP d t Q) (hq : ∀ a, Q a → Q' a) : OpensP d t Q' := fun H enc w fuel cs x hx => by
 obtain ⟨a, ha, h1⟩ := h H enc w fuel cs x hx
 exact ⟨a, ha, hq _ h1⟩
def W16 (x : Int) : Prop := (Lit.int .u16 x).wf = true
theorem pInt : OpensP (Kd.int .i64) 3 (fun _ => True) := .of (Opens.int Try.underlying3)
theorem pBool : OpensP Kd.bool 4 (fun _ => True) := .of (Opens.bool Try.underlying4)
theorem pWord : OpensP (Kd.int .u16) 44 W16 := OpensP.int (by kernel_rfl)
theorem pWords : OpensP (Kd.slice 44 (Kd.int .u16)) 33 (fun l => ∀ x ∈ l, W16 x) := OpensP.slice 44 Try.underlying33 pWord (by kernel_rfl)
theorem pPad : OpensP k35 35 (fun x => ∀ y ∈ x.f1, W16 y) := (OpensP.iso _ (fun y => ⟨y.1, y.2.1, y.2.2.1, y.2.2.2⟩) (fun _ => rfl) (OpensP.struct Try.underlying35 (by kernel_rfl) (.cons rfl pInt (by kernel_rfl) (.cons rfl pWords (by kernel_rfl) (.cons rfl pBool (by kernel_rfl) (.one rfl pBool (by kernel_rfl))))))).mono fun x h => h.2.1
theorem open_st {α : Type} {k : Kd α} {t : TypeId} {fs : Array Field} {Q : α → Prop} (ht : Try.prog.underlying t = some (.struct fs)) (ho : OpensP k t Q) {H : Type} {enc : TypeId × Value → H} {W : World} {r : Reach} {b0 : Nat} {v : Value} {d : DataW H} {p : List MemPlace} (hv : Value.okWide Try.prog W r b0 t v) (h : DataW.Trod enc Try.prog W 0 (fun _ => true) true t v d p) :
  ∃ a cs, v = .agg cs ∧ k.K W a cs.toList ∧ Q a := by
 obtain ⟨cs, rfl, _⟩ := Go.WideShapes.okWide_struct ht hv
 obtain ⟨fuel, hf⟩ := h
 obtain ⟨a, ha, hq⟩ := ho H enc W fuel _ _ hf
 exact ⟨a, cs, rfl, ha, hq⟩
theorem agg_of {cs : Array Value} {l : List Value} (h : cs.toList = l) : (Value.agg cs) = .agg l.toArray := by rw [← h]
theorem open_pad {H : Type} {enc : TypeId × Value → H} {W : World} {r : Reach} {b0 : Nat} {v : Value} {d : DataW H} {p : List MemPlace} (hv : Value.okWide Try.prog W r b0 35 v) (h : DataW.Trod enc Try.prog W 0 (fun _ => true) true 35 v d p) : ∃ (x : S35) (A : Option Addr) (c : Nat), v = .agg #[.int .i64 x.f0, .slice A x.f1.length c, .bool x.f2, .bool x.f3] ∧ Kd.C (Kd.int .u16) W A x.f1.length x.f1 ∧ x.f1.length ≤ c ∧ ∀ y ∈ x.f1, W16 y := by
 obtain ⟨x, cs, rfl, hK, hq⟩ := open_st Try.underlying35 pPad hv h
 obtain ⟨A, c, e, hc, hC⟩ := k35_open hK
 exact ⟨x, A, c, agg_of e, hC, hc, hq⟩
end Go.Proofs.Ytbfialebaoeicaa.X
namespace Go.Proofs.Ytbfialebaoeicaa.X
open Go.RowKit Go.Proofs.YtbfialebaoeicaaW.PrintWords Go.Proofs.YtbfialebaoeicaaW.PrintLast Go.Proofs.YtbfialebaoeicaaW.PrintMore
set_option linter.all false
def cont (l : List Int) (v : Int) : Bool := l.any (fun x => x == v)
theorem cont_drop (l : List Int) (v x : Int) (h0 : 0 ≤ x) (h1 : x < (l.length : Int)) : cont (l.drop x.toNat) v = ((rd l x == v) || cont (l.drop (x + 1).toNat) v) := by
 have hl : x.toNat < l.length := by omega
 unfold cont rd
 rw [show (x + 1).toNat = x.toNat + 1 by omega, List.drop_eq_getElem_cons hl, List.any_cons, List.getD_eq_getElem?_getD, List.getElem?_eq_getElem hl]
 rfl
theorem index_l0 (l : List Int) (v : Int) (hm : l.length ≤ 1000000) : ∀ (d : Nat) (x : Int), 0 ≤ x → x + d = l.length → ∃ t, slices_Index_uint16_uint16.l0 (d + 1) l v l.length x = some t ∧ decide (t ≥ 0) = cont (l.drop x.toNat) v
 | 0, x, h0, h1 => by
  rw [slices_Index_uint16_uint16.l0, if_neg (by omega), List.drop_eq_nil_of_le (by omega)]
  exact ⟨-1, rfl, rfl⟩
 | d + 1, x, h0, h1 => by
  rw [slices_Index_uint16_uint16.l0, if_pos (by omega), if_pos h0, if_pos (by omega), cont_drop l v x h0 (by omega)]
  by_cases h3 : v = rd l x
  ·rw [if_pos h3, beq_iff_eq.2 h3.symm, Bool.true_or]
   exact ⟨x, rfl, decide_eq_true h0⟩
  ·rw [if_neg h3, wrap_in (x + 1) (by omega) (by omega), beq_eq_false_iff_ne.2 (Ne.symm h3), Bool.false_or]
   exact index_l0 l v hm d (x + 1) (by omega) (by omega)
theorem catch_f (a : Int) (l : List Int) (q r : Bool) (v : Int) (hm : l.length ≤ 1000000) : frame_Catches.f (l.length + 1) a l q r v = some (q || cont l v) := by
 unfold frame_Catches.f slices_Contains_uint16_uint16.f slices_Index_uint16_uint16.f
 cases q with
 | true => rfl
 | false =>
  obtain ⟨t, h1, h2⟩ := index_l0 l v hm l.length 0 (by omega) (by omega)
  rw [if_neg (by simp), h1, Option.bind_some, Option.bind_some, h2]
  rfl
theorem rcatch_l0 (a : Int) (l : List Int) (q r : Bool) (v : Int) (hm : l.length ≤ 1000000) : ∀ (d : Nat) (x : Int), 0 ≤ x → x + d = l.length → davitref05_Catches.l0 (d + 1) v x a l q r = some (q || cont (l.drop x.toNat) v)
 | 0, x, h0, h1 => by
  rw [davitref05_Catches.l0, if_neg (by omega), List.drop_eq_nil_of_le (by omega)]
  cases q <;> rfl
 | d + 1, x, h0, h1 => by
  rw [davitref05_Catches.l0, if_pos (by omega), if_pos h0, cont_drop l v x h0 (by omega)]
  by_cases h3 : rd l x = v
  ·rw [if_pos h3, beq_iff_eq.2 h3, Bool.true_or, Bool.or_true]
  ·rw [if_neg h3, wrap_in (x + 1) (by omega) (by omega), beq_eq_false_iff_ne.2 h3, Bool.false_or]
   exact rcatch_l0 a l q r v hm d (x + 1) (by omega) (by omega)
theorem catch_c (p : S35) (A : Option Addr) (c : Nat) (v : Int) (w : World) (h : Kd.C (Kd.int .u16) w A p.f1.length p.f1) (hc : p.f1.length ≤ c) (hm : p.f1.length ≤ 1000000) :
  Calls Try.prog 31 #[.agg #[.int .i64 p.f0, .slice A p.f1.length c, .bool p.f2, .bool p.f3], .int .u16 v] w fun e w' => e = .returned (.bool (p.f2 || cont p.f1 v)) ∧ Below w.heap.size w w' :=
 frame_Catches.calls _ p.f0 A c p.f1 p.f2 p.f3 v _ w h hc (catch_f p.f0 p.f1 p.f2 p.f3 v hm)
theorem rcatch_c (p : S35) (A : Option Addr) (c : Nat) (v : Int) (w : World) (h : Kd.C (Kd.int .u16) w A p.f1.length p.f1) (hc : p.f1.length ≤ c) (hm : p.f1.length ≤ 1000000) :
  Calls Try.prog 32 #[.agg #[.int .i64 p.f0, .slice A p.f1.length c, .bool p.f2, .bool p.f3], .int .u16 v] w fun e w' => e = .returned (.bool (p.f2 || cont p.f1 v)) ∧ Below w.heap.size w w' :=
 davitref05_Catches.calls (p.f1.length + 1) p.f0 A c p.f1 p.f2 p.f3 v _ w h hc (rcatch_l0 p.f0 p.f1 p.f2 p.f3 v hm p.f1.length 0 (by omega) (by omega))
end Go.Proofs.Ytbfialebaoeicaa.X
