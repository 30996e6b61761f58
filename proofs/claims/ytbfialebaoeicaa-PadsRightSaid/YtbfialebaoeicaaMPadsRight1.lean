/- Part 2 of the proof of the statement PadsRight: the words of the walks, the walks through the functions that it reaches, and the plain laws of what they compute. -/
import Derived.Test.YtbfialebaoeicaaMPadsRight0
import Derived.WalkSpells
import Derived.Shelf.Abstract
import Derived.Lib.SliceRun
import Derived.RegionTactic
import Derived.ChangeAlike
import Derived.Deep.QuietTactic
import Derived.BigQuiet
namespace Go.Proofs.Ytbfialebaoeicaa.X
open Go.RowKit Go.Proofs.YtbfialebaoeicaaW.PrintWords Go.Proofs.YtbfialebaoeicaaW.PrintLast Go.Proofs.YtbfialebaoeicaaW.PrintMore
attribute [local go_sem] max2_int min2_int max_two min_two max_three min_three max_four min_four
set_option linter.all false
noncomputable section
def pads_Nothing.f (a0_0 : Bool) (a0_1 : Int) (l0_2 : List Int) (a0_3 : Bool) (a0_4 : Bool) (l0_5 : List (S49)) (a0_6 : Int) (a0_7 : Int) (a0_8 : Int) (a0_9 : Int) (l0_10 : List Int) (a0_11 : Int) (a0_12 : Int) (a0_13 : Int) : Option (Bool) := if a0_0 = true then (if a0_3 = true then (some false) else (if (l0_2.length : Int) = 0 then (if (l0_5.length : Int) = 0 then (some (a0_6 == 6)) else (some false)) else (some false))) else (some false)
set_option maxHeartbeats 8000000 in
set_option maxRecDepth 100000 in
theorem pads_Nothing.calls (a0_0 : Bool) (a0_1 : Int) (A0_2 : Option Addr) (c0_2 : Nat) (l0_2 : List Int) (a0_3 : Bool) (a0_4 : Bool) (A0_5 : Option Addr) (c0_5 : Nat) (l0_5 : List (S49)) (a0_6 : Int) (a0_7 : Int) (a0_8 : Int) (a0_9 : Int) (A0_10 : Option Addr) (c0_10 : Nat) (l0_10 : List Int) (a0_11 : Int) (a0_12 : Int) (a0_13 : Int) (r : Bool) (w : World) (hr0_2 : Kd.C (Kd.int .u16) w A0_2 l0_2.length l0_2) (hc0_2 : l0_2.length ≤ c0_2) (hr0_5 : Kd.C k49 w A0_5 l0_5.length l0_5) (hc0_5 : l0_5.length ≤ c0_5) (hr0_10 : Kd.C (Kd.int .i64) w A0_10 l0_10.length l0_10) (hc0_10 : l0_10.length ≤ c0_10) (h : pads_Nothing.f a0_0 a0_1 l0_2 a0_3 a0_4 l0_5 a0_6 a0_7 a0_8 a0_9 l0_10 a0_11 a0_12 a0_13 = some r) :
  Calls Try.prog 42 #[.agg #[.bool a0_0, .int .i64 a0_1, .slice A0_2 l0_2.length c0_2, .bool a0_3, .bool a0_4, .slice A0_5 l0_5.length c0_5, .int .i64 a0_6, .int .i64 a0_7, .int .i64 a0_8, .int .i64 a0_9, .slice A0_10 l0_10.length c0_10, .int .i64 a0_11, .int .i64 a0_12, .int .i64 a0_13]] w fun e w' => e = .returned (.bool r) ∧ Below w.heap.size w w' := by
 have hu41 := Try.underlying41
 have HR0_2 := Aside0.mk hr0_2
 have HC0_2 := Aside0.mk hc0_2
 clear hr0_2 hc0_2
 have HR0_5 := Aside0.mk hr0_5
 have HC0_5 := Aside0.mk hc0_5
 clear hr0_5 hc0_5
 have HR0_10 := Aside0.mk hr0_10
 have HC0_10 := Aside0.mk hc0_10
 clear hr0_10 hc0_10
 have HB := Aside0.mk (Below.refl w.heap.size w)
 have H : (if a0_0 = true then (if a0_3 = true then (some false) else (if (l0_2.length : Int) = 0 then (if (l0_5.length : Int) = 0 then (some (a0_6 == 6)) else (some false)) else (some false))) else (some false)) = some r := h
 clear h
 by_cases c2 : a0_0 = true
 ·subst c2
  have H1 : (if a0_3 = true then (some false) else (if (l0_2.length : Int) = 0 then (if (l0_5.length : Int) = 0 then (some (a0_6 == 6)) else (some false)) else (some false))) = some r := by rw [if_pos rfl] at H; exact H
  clear H
  have H := H1
  clear H1
  by_cases c3 : a0_3 = true
  ·subst c3
   have H1 : (some false) = some r := by rw [if_pos rfl] at H; exact H
   clear H
   have H := H1
   clear H1
   obtain rfl := Option.some.inj H
   go_enter Try.func42, Try.ntmps42
   go_wp2_with (first | ((with_reducible refine gate_dst (N := 1) rfl ?_); (try (refine gate_guard (by rfl) ?_; dsimp only)); refine box_event ?hg (N := 1) ?hd (cs := #[.bool true, .int .i64 a0_1, .slice A0_2 l0_2.length c0_2, .bool true, .bool a0_4, .slice A0_5 l0_5.length c0_5, .int .i64 a0_6, .int .i64 a0_7, .int .i64 a0_8, .int .i64 a0_9, .slice A0_10 l0_10.length c0_10, .int .i64 a0_11, .int .i64 a0_12, .int .i64 a0_13]) (t := 41) ?hr ?_; (case hd => rfl); (case hg => rfl); (case hr => first | (go_simp; done) | (go_simp; rfl)); intro gb460 hg w4 hbox hb; have n0_ := Aside0.mk (below_step (by repeat (first | (with_reducible first | exact HB.out | apply below_alloc | apply pw_below_drewN | apply below_drew1) | exact HB.out)) hb); have n1_ := Aside0.mk (hbox); have n2_ := Aside0.mk ((by rw [hg]; exact (below_size (by repeat (first | (with_reducible first | exact HB.out | apply below_alloc | apply pw_below_drewN | apply below_drew1) | exact HB.out))) : w.heap.size ≤ gb460)); have n3_ := Aside0.mk ((by rw [hg]; exact (below_size (by repeat (first | (with_reducible first | exact HB.out | apply below_alloc | apply pw_below_drewN | apply below_drew1) | exact HB.out))) : w.heap.size ≤ gb460)); clear HB; have HB := n0_; have BK460 := n1_; have GW460 := n2_; have GE460 := n3_; clear n0_ n1_ n2_ n3_; clear hb hbox hg; have hcz5_0 : w4.cell? ⟨gb460, 0, none⟩ = some (.bool true) := (blk_cell BK460.out 0).trans rfl; have hcz5_1 : w4.cell? ⟨gb460, 1, none⟩ = some (.int .i64 a0_1) := (blk_cell BK460.out 1).trans rfl; have hcz5_2 : w4.cell? ⟨gb460, 2, none⟩ = some (.slice A0_2 l0_2.length c0_2) := (blk_cell BK460.out 2).trans rfl; have hcz5_3 : w4.cell? ⟨gb460, 3, none⟩ = some (.bool true) := (blk_cell BK460.out 3).trans rfl; have hcz5_4 : w4.cell? ⟨gb460, 4, none⟩ = some (.bool a0_4) := (blk_cell BK460.out 4).trans rfl; have hcz5_5 : w4.cell? ⟨gb460, 5, none⟩ = some (.slice A0_5 l0_5.length c0_5) := (blk_cell BK460.out 5).trans rfl; have hcz5_6 : w4.cell? ⟨gb460, 6, none⟩ = some (.int .i64 a0_6) := (blk_cell BK460.out 6).trans rfl; have hcz5_7 : w4.cell? ⟨gb460, 7, none⟩ = some (.int .i64 a0_7) := (blk_cell BK460.out 7).trans rfl; have hcz5_8 : w4.cell? ⟨gb460, 8, none⟩ = some (.int .i64 a0_8) := (blk_cell BK460.out 8).trans rfl; have hcz5_9 : w4.cell? ⟨gb460, 9, none⟩ = some (.int .i64 a0_9) := (blk_cell BK460.out 9).trans rfl; have hcz5_10 : w4.cell? ⟨gb460, 10, none⟩ = some (.slice A0_10 l0_10.length c0_10) := (blk_cell BK460.out 10).trans rfl; have hcz5_11 : w4.cell? ⟨gb460, 11, none⟩ = some (.int .i64 a0_11) := (blk_cell BK460.out 11).trans rfl; have hcz5_12 : w4.cell? ⟨gb460, 12, none⟩ = some (.int .i64 a0_12) := (blk_cell BK460.out 12).trans rfl; have hcz5_13 : w4.cell? ⟨gb460, 13, none⟩ = some (.int .i64 a0_13) := (blk_cell BK460.out 13).trans rfl; obtain ⟨hfz5_0, hfz5_1, hfz5_2, hfz5_3, hfz5_4, hfz5_5, hfz5_6, hfz5_7, hfz5_8, hfz5_9, hfz5_10, hfz5_11, hfz5_12, hfz5_13⟩ := fz14 BK460.out))
   go_ret
   exact ⟨by first | rfl | (simp [errW_none, errW_some] <;> rfl) | (simp [*, errW_none, errW_some] <;> rfl), by repeat (first | (with_reducible first | exact HB.out | apply below_alloc | apply pw_below_drewN | apply below_drew1 | refine below_set ?_ GE460.out) | exact HB.out)⟩
  ·replace c3 := Bool.eq_false_iff.mpr c3
   subst c3
   have H1 : (if (l0_2.length : Int) = 0 then (if (l0_5.length : Int) = 0 then (some (a0_6 == 6)) else (some false)) else (some false)) = some r := by rw [if_neg (show ¬ (false = true) by decide)] at H; exact H
   clear H
   have H := H1
   clear H1
   by_cases c6 : (l0_2.length : Int) = 0
   ·rw [if_pos c6] at H
    have c6b0 : ((l0_2.length : Int) == 0) = true := beq_iff_eq.mpr c6
    have c6b1 : ((l0_2.length : Int) != 0) = false := bne_eq_false_iff_eq.mpr c6
    clear c6
    by_cases c7 : (l0_5.length : Int) = 0
    ·rw [if_pos c7] at H
     have c7b0 : ((l0_5.length : Int) == 0) = true := beq_iff_eq.mpr c7
     have c7b1 : ((l0_5.length : Int) != 0) = false := bne_eq_false_iff_eq.mpr c7
     clear c7
     obtain rfl := Option.some.inj H
     go_enter Try.func42, Try.ntmps42
     go_wp2_with (first | ((with_reducible refine gate_dst (N := 1) rfl ?_); (try (refine gate_guard (by rfl) ?_; dsimp only)); refine box_event ?hg (N := 1) ?hd (cs := #[.bool true, .int .i64 a0_1, .slice A0_2 l0_2.length c0_2, .bool false, .bool a0_4, .slice A0_5 l0_5.length c0_5, .int .i64 a0_6, .int .i64 a0_7, .int .i64 a0_8, .int .i64 a0_9, .slice A0_10 l0_10.length c0_10, .int .i64 a0_11, .int .i64 a0_12, .int .i64 a0_13]) (t := 41) ?hr ?_; (case hd => rfl); (case hg => rfl); (case hr => first | (go_simp; done) | (go_simp; rfl)); intro gb460 hg w8 hbox hb; have n0_ := Aside0.mk (below_step (by repeat (first | (with_reducible first | exact HB.out | apply below_alloc | apply pw_below_drewN | apply below_drew1) | exact HB.out)) hb); have n1_ := Aside0.mk (hbox); have n2_ := Aside0.mk ((by rw [hg]; exact (below_size (by repeat (first | (with_reducible first | exact HB.out | apply below_alloc | apply pw_below_drewN | apply below_drew1) | exact HB.out))) : w.heap.size ≤ gb460)); have n3_ := Aside0.mk ((by rw [hg]; exact (below_size (by repeat (first | (with_reducible first | exact HB.out | apply below_alloc | apply pw_below_drewN | apply below_drew1) | exact HB.out))) : w.heap.size ≤ gb460)); clear HB; have HB := n0_; have BK460 := n1_; have GW460 := n2_; have GE460 := n3_; clear n0_ n1_ n2_ n3_; clear hb hbox hg; have hcz9_0 : w8.cell? ⟨gb460, 0, none⟩ = some (.bool true) := (blk_cell BK460.out 0).trans rfl; have hcz9_1 : w8.cell? ⟨gb460, 1, none⟩ = some (.int .i64 a0_1) := (blk_cell BK460.out 1).trans rfl; have hcz9_2 : w8.cell? ⟨gb460, 2, none⟩ = some (.slice A0_2 l0_2.length c0_2) := (blk_cell BK460.out 2).trans rfl; have hcz9_3 : w8.cell? ⟨gb460, 3, none⟩ = some (.bool false) := (blk_cell BK460.out 3).trans rfl; have hcz9_4 : w8.cell? ⟨gb460, 4, none⟩ = some (.bool a0_4) := (blk_cell BK460.out 4).trans rfl; have hcz9_5 : w8.cell? ⟨gb460, 5, none⟩ = some (.slice A0_5 l0_5.length c0_5) := (blk_cell BK460.out 5).trans rfl; have hcz9_6 : w8.cell? ⟨gb460, 6, none⟩ = some (.int .i64 a0_6) := (blk_cell BK460.out 6).trans rfl; have hcz9_7 : w8.cell? ⟨gb460, 7, none⟩ = some (.int .i64 a0_7) := (blk_cell BK460.out 7).trans rfl; have hcz9_8 : w8.cell? ⟨gb460, 8, none⟩ = some (.int .i64 a0_8) := (blk_cell BK460.out 8).trans rfl; have hcz9_9 : w8.cell? ⟨gb460, 9, none⟩ = some (.int .i64 a0_9) := (blk_cell BK460.out 9).trans rfl; have hcz9_10 : w8.cell? ⟨gb460, 10, none⟩ = some (.slice A0_10 l0_10.length c0_10) := (blk_cell BK460.out 10).trans rfl; have hcz9_11 : w8.cell? ⟨gb460, 11, none⟩ = some (.int .i64 a0_11) := (blk_cell BK460.out 11).trans rfl; have hcz9_12 : w8.cell? ⟨gb460, 12, none⟩ = some (.int .i64 a0_12) := (blk_cell BK460.out 12).trans rfl; have hcz9_13 : w8.cell? ⟨gb460, 13, none⟩ = some (.int .i64 a0_13) := (blk_cell BK460.out 13).trans rfl; obtain ⟨hfz9_0, hfz9_1, hfz9_2, hfz9_3, hfz9_4, hfz9_5, hfz9_6, hfz9_7, hfz9_8, hfz9_9, hfz9_10, hfz9_11, hfz9_12, hfz9_13⟩ := fz14 BK460.out))
     go_ret
     exact ⟨by first | rfl | (simp [errW_none, errW_some] <;> rfl) | (simp [*, errW_none, errW_some] <;> rfl), by repeat (first | (with_reducible first | exact HB.out | apply below_alloc | apply pw_below_drewN | apply below_drew1 | refine below_set ?_ GE460.out) | exact HB.out)⟩
    ·rw [if_neg c7] at H
     have c7b0 : ((l0_5.length : Int) == 0) = false := beq_eq_false_iff_ne.mpr c7
     have c7b1 : ((l0_5.length : Int) != 0) = true := bne_iff_ne.mpr c7
     have c7b2 : ¬ (l0_5 = []) := fun h_ => c7 (by rw [h_]; rfl)
     obtain rfl := Option.some.inj H
     go_enter Try.func42, Try.ntmps42
     go_wp2_with (first | ((with_reducible refine gate_dst (N := 1) rfl ?_); (try (refine gate_guard (by rfl) ?_; dsimp only)); refine box_event ?hg (N := 1) ?hd (cs := #[.bool true, .int .i64 a0_1, .slice A0_2 l0_2.length c0_2, .bool false, .bool a0_4, .slice A0_5 l0_5.length c0_5, .int .i64 a0_6, .int .i64 a0_7, .int .i64 a0_8, .int .i64 a0_9, .slice A0_10 l0_10.length c0_10, .int .i64 a0_11, .int .i64 a0_12, .int .i64 a0_13]) (t := 41) ?hr ?_; (case hd => rfl); (case hg => rfl); (case hr => first | (go_simp; done) | (go_simp; rfl)); intro gb460 hg w10 hbox hb; have n0_ := Aside0.mk (below_step (by repeat (first | (with_reducible first | exact HB.out | apply below_alloc | apply pw_below_drewN | apply below_drew1) | exact HB.out)) hb); have n1_ := Aside0.mk (hbox); have n2_ := Aside0.mk ((by rw [hg]; exact (below_size (by repeat (first | (with_reducible first | exact HB.out | apply below_alloc | apply pw_below_drewN | apply below_drew1) | exact HB.out))) : w.heap.size ≤ gb460)); have n3_ := Aside0.mk ((by rw [hg]; exact (below_size (by repeat (first | (with_reducible first | exact HB.out | apply below_alloc | apply pw_below_drewN | apply below_drew1) | exact HB.out))) : w.heap.size ≤ gb460)); clear HB; have HB := n0_; have BK460 := n1_; have GW460 := n2_; have GE460 := n3_; clear n0_ n1_ n2_ n3_; clear hb hbox hg; have hcz11_0 : w10.cell? ⟨gb460, 0, none⟩ = some (.bool true) := (blk_cell BK460.out 0).trans rfl; have hcz11_1 : w10.cell? ⟨gb460, 1, none⟩ = some (.int .i64 a0_1) := (blk_cell BK460.out 1).trans rfl; have hcz11_2 : w10.cell? ⟨gb460, 2, none⟩ = some (.slice A0_2 l0_2.length c0_2) := (blk_cell BK460.out 2).trans rfl; have hcz11_3 : w10.cell? ⟨gb460, 3, none⟩ = some (.bool false) := (blk_cell BK460.out 3).trans rfl; have hcz11_4 : w10.cell? ⟨gb460, 4, none⟩ = some (.bool a0_4) := (blk_cell BK460.out 4).trans rfl; have hcz11_5 : w10.cell? ⟨gb460, 5, none⟩ = some (.slice A0_5 l0_5.length c0_5) := (blk_cell BK460.out 5).trans rfl; have hcz11_6 : w10.cell? ⟨gb460, 6, none⟩ = some (.int .i64 a0_6) := (blk_cell BK460.out 6).trans rfl; have hcz11_7 : w10.cell? ⟨gb460, 7, none⟩ = some (.int .i64 a0_7) := (blk_cell BK460.out 7).trans rfl; have hcz11_8 : w10.cell? ⟨gb460, 8, none⟩ = some (.int .i64 a0_8) := (blk_cell BK460.out 8).trans rfl; have hcz11_9 : w10.cell? ⟨gb460, 9, none⟩ = some (.int .i64 a0_9) := (blk_cell BK460.out 9).trans rfl; have hcz11_10 : w10.cell? ⟨gb460, 10, none⟩ = some (.slice A0_10 l0_10.length c0_10) := (blk_cell BK460.out 10).trans rfl; have hcz11_11 : w10.cell? ⟨gb460, 11, none⟩ = some (.int .i64 a0_11) := (blk_cell BK460.out 11).trans rfl; have hcz11_12 : w10.cell? ⟨gb460, 12, none⟩ = some (.int .i64 a0_12) := (blk_cell BK460.out 12).trans rfl; have hcz11_13 : w10.cell? ⟨gb460, 13, none⟩ = some (.int .i64 a0_13) := (blk_cell BK460.out 13).trans rfl; obtain ⟨hfz11_0, hfz11_1, hfz11_2, hfz11_3, hfz11_4, hfz11_5, hfz11_6, hfz11_7, hfz11_8, hfz11_9, hfz11_10, hfz11_11, hfz11_12, hfz11_13⟩ := fz14 BK460.out))
     go_ret
     exact ⟨by first | rfl | (simp [errW_none, errW_some] <;> rfl) | (simp [*, errW_none, errW_some] <;> rfl), by repeat (first | (with_reducible first | exact HB.out | apply below_alloc | apply pw_below_drewN | apply below_drew1 | refine below_set ?_ GE460.out) | exact HB.out)⟩
   ·rw [if_neg c6] at H
    have c6b0 : ((l0_2.length : Int) == 0) = false := beq_eq_false_iff_ne.mpr c6
    have c6b1 : ((l0_2.length : Int) != 0) = true := bne_iff_ne.mpr c6
    have c6b2 : ¬ (l0_2 = []) := fun h_ => c6 (by rw [h_]; rfl)
    obtain rfl := Option.some.inj H
    go_enter Try.func42, Try.ntmps42
    go_wp2_with (first | ((with_reducible refine gate_dst (N := 1) rfl ?_); (try (refine gate_guard (by rfl) ?_; dsimp only)); refine box_event ?hg (N := 1) ?hd (cs := #[.bool true, .int .i64 a0_1, .slice A0_2 l0_2.length c0_2, .bool false, .bool a0_4, .slice A0_5 l0_5.length c0_5, .int .i64 a0_6, .int .i64 a0_7, .int .i64 a0_8, .int .i64 a0_9, .slice A0_10 l0_10.length c0_10, .int .i64 a0_11, .int .i64 a0_12, .int .i64 a0_13]) (t := 41) ?hr ?_; (case hd => rfl); (case hg => rfl); (case hr => first | (go_simp; done) | (go_simp; rfl)); intro gb460 hg w12 hbox hb; have n0_ := Aside0.mk (below_step (by repeat (first | (with_reducible first | exact HB.out | apply below_alloc | apply pw_below_drewN | apply below_drew1) | exact HB.out)) hb); have n1_ := Aside0.mk (hbox); have n2_ := Aside0.mk ((by rw [hg]; exact (below_size (by repeat (first | (with_reducible first | exact HB.out | apply below_alloc | apply pw_below_drewN | apply below_drew1) | exact HB.out))) : w.heap.size ≤ gb460)); have n3_ := Aside0.mk ((by rw [hg]; exact (below_size (by repeat (first | (with_reducible first | exact HB.out | apply below_alloc | apply pw_below_drewN | apply below_drew1) | exact HB.out))) : w.heap.size ≤ gb460)); clear HB; have HB := n0_; have BK460 := n1_; have GW460 := n2_; have GE460 := n3_; clear n0_ n1_ n2_ n3_; clear hb hbox hg; have hcz13_0 : w12.cell? ⟨gb460, 0, none⟩ = some (.bool true) := (blk_cell BK460.out 0).trans rfl; have hcz13_1 : w12.cell? ⟨gb460, 1, none⟩ = some (.int .i64 a0_1) := (blk_cell BK460.out 1).trans rfl; have hcz13_2 : w12.cell? ⟨gb460, 2, none⟩ = some (.slice A0_2 l0_2.length c0_2) := (blk_cell BK460.out 2).trans rfl; have hcz13_3 : w12.cell? ⟨gb460, 3, none⟩ = some (.bool false) := (blk_cell BK460.out 3).trans rfl; have hcz13_4 : w12.cell? ⟨gb460, 4, none⟩ = some (.bool a0_4) := (blk_cell BK460.out 4).trans rfl; have hcz13_5 : w12.cell? ⟨gb460, 5, none⟩ = some (.slice A0_5 l0_5.length c0_5) := (blk_cell BK460.out 5).trans rfl; have hcz13_6 : w12.cell? ⟨gb460, 6, none⟩ = some (.int .i64 a0_6) := (blk_cell BK460.out 6).trans rfl; have hcz13_7 : w12.cell? ⟨gb460, 7, none⟩ = some (.int .i64 a0_7) := (blk_cell BK460.out 7).trans rfl; have hcz13_8 : w12.cell? ⟨gb460, 8, none⟩ = some (.int .i64 a0_8) := (blk_cell BK460.out 8).trans rfl; have hcz13_9 : w12.cell? ⟨gb460, 9, none⟩ = some (.int .i64 a0_9) := (blk_cell BK460.out 9).trans rfl; have hcz13_10 : w12.cell? ⟨gb460, 10, none⟩ = some (.slice A0_10 l0_10.length c0_10) := (blk_cell BK460.out 10).trans rfl; have hcz13_11 : w12.cell? ⟨gb460, 11, none⟩ = some (.int .i64 a0_11) := (blk_cell BK460.out 11).trans rfl; have hcz13_12 : w12.cell? ⟨gb460, 12, none⟩ = some (.int .i64 a0_12) := (blk_cell BK460.out 12).trans rfl; have hcz13_13 : w12.cell? ⟨gb460, 13, none⟩ = some (.int .i64 a0_13) := (blk_cell BK460.out 13).trans rfl; obtain ⟨hfz13_0, hfz13_1, hfz13_2, hfz13_3, hfz13_4, hfz13_5, hfz13_6, hfz13_7, hfz13_8, hfz13_9, hfz13_10, hfz13_11, hfz13_12, hfz13_13⟩ := fz14 BK460.out))
    go_ret
    exact ⟨by first | rfl | (simp [errW_none, errW_some] <;> rfl) | (simp [*, errW_none, errW_some] <;> rfl), by repeat (first | (with_reducible first | exact HB.out | apply below_alloc | apply pw_below_drewN | apply below_drew1 | refine below_set ?_ GE460.out) | exact HB.out)⟩
 ·replace c2 := Bool.eq_false_iff.mpr c2
  subst c2
  have H1 : (some false) = some r := by rw [if_neg (show ¬ (false = true) by decide)] at H; exact H
  clear H
  have H := H1
  clear H1
  obtain rfl := Option.some.inj H
  go_enter Try.func42, Try.ntmps42
  go_wp2_with (first | ((with_reducible refine gate_dst (N := 1) rfl ?_); (try (refine gate_guard (by rfl) ?_; dsimp only)); refine box_event ?hg (N := 1) ?hd (cs := #[.bool false, .int .i64 a0_1, .slice A0_2 l0_2.length c0_2, .bool a0_3, .bool a0_4, .slice A0_5 l0_5.length c0_5, .int .i64 a0_6, .int .i64 a0_7, .int .i64 a0_8, .int .i64 a0_9, .slice A0_10 l0_10.length c0_10, .int .i64 a0_11, .int .i64 a0_12, .int .i64 a0_13]) (t := 41) ?hr ?_; (case hd => rfl); (case hg => rfl); (case hr => first | (go_simp; done) | (go_simp; rfl)); intro gb460 hg w14 hbox hb; have n0_ := Aside0.mk (below_step (by repeat (first | (with_reducible first | exact HB.out | apply below_alloc | apply pw_below_drewN | apply below_drew1) | exact HB.out)) hb); have n1_ := Aside0.mk (hbox); have n2_ := Aside0.mk ((by rw [hg]; exact (below_size (by repeat (first | (with_reducible first | exact HB.out | apply below_alloc | apply pw_below_drewN | apply below_drew1) | exact HB.out))) : w.heap.size ≤ gb460)); have n3_ := Aside0.mk ((by rw [hg]; exact (below_size (by repeat (first | (with_reducible first | exact HB.out | apply below_alloc | apply pw_below_drewN | apply below_drew1) | exact HB.out))) : w.heap.size ≤ gb460)); clear HB; have HB := n0_; have BK460 := n1_; have GW460 := n2_; have GE460 := n3_; clear n0_ n1_ n2_ n3_; clear hb hbox hg; have hcz15_0 : w14.cell? ⟨gb460, 0, none⟩ = some (.bool false) := (blk_cell BK460.out 0).trans rfl; have hcz15_1 : w14.cell? ⟨gb460, 1, none⟩ = some (.int .i64 a0_1) := (blk_cell BK460.out 1).trans rfl; have hcz15_2 : w14.cell? ⟨gb460, 2, none⟩ = some (.slice A0_2 l0_2.length c0_2) := (blk_cell BK460.out 2).trans rfl; have hcz15_3 : w14.cell? ⟨gb460, 3, none⟩ = some (.bool a0_3) := (blk_cell BK460.out 3).trans rfl; have hcz15_4 : w14.cell? ⟨gb460, 4, none⟩ = some (.bool a0_4) := (blk_cell BK460.out 4).trans rfl; have hcz15_5 : w14.cell? ⟨gb460, 5, none⟩ = some (.slice A0_5 l0_5.length c0_5) := (blk_cell BK460.out 5).trans rfl; have hcz15_6 : w14.cell? ⟨gb460, 6, none⟩ = some (.int .i64 a0_6) := (blk_cell BK460.out 6).trans rfl; have hcz15_7 : w14.cell? ⟨gb460, 7, none⟩ = some (.int .i64 a0_7) := (blk_cell BK460.out 7).trans rfl; have hcz15_8 : w14.cell? ⟨gb460, 8, none⟩ = some (.int .i64 a0_8) := (blk_cell BK460.out 8).trans rfl; have hcz15_9 : w14.cell? ⟨gb460, 9, none⟩ = some (.int .i64 a0_9) := (blk_cell BK460.out 9).trans rfl; have hcz15_10 : w14.cell? ⟨gb460, 10, none⟩ = some (.slice A0_10 l0_10.length c0_10) := (blk_cell BK460.out 10).trans rfl; have hcz15_11 : w14.cell? ⟨gb460, 11, none⟩ = some (.int .i64 a0_11) := (blk_cell BK460.out 11).trans rfl; have hcz15_12 : w14.cell? ⟨gb460, 12, none⟩ = some (.int .i64 a0_12) := (blk_cell BK460.out 12).trans rfl; have hcz15_13 : w14.cell? ⟨gb460, 13, none⟩ = some (.int .i64 a0_13) := (blk_cell BK460.out 13).trans rfl; obtain ⟨hfz15_0, hfz15_1, hfz15_2, hfz15_3, hfz15_4, hfz15_5, hfz15_6, hfz15_7, hfz15_8, hfz15_9, hfz15_10, hfz15_11, hfz15_12, hfz15_13⟩ := fz14 BK460.out))
  go_ret
  exact ⟨by first | rfl | (simp [errW_none, errW_some] <;> rfl) | (simp [*, errW_none, errW_some] <;> rfl), by repeat (first | (with_reducible first | exact HB.out | apply below_alloc | apply pw_below_drewN | apply below_drew1 | refine below_set ?_ GE460.out) | exact HB.out)⟩
end
end Go.Proofs.Ytbfialebaoeicaa.X
namespace Go.Proofs.Ytbfialebaoeicaa.X
open Go.Shelf Go.RowKit Go.Proofs.YtbfialebaoeicaaW.PrintWords Go.Proofs.YtbfialebaoeicaaW.PrintLast Go.Proofs.YtbfialebaoeicaaW.PrintMore
set_option linter.all false
theorem sl_Clone_u16 (A0 : Option Addr) (c0 : Nat) (l0 : List Int) (w : World) (hr0 : Kd.C (Kd.int .u16) w A0 l0.length l0) (hc0 : l0.length ≤ c0) (hl : l0.length < 1000000) :
  Calls Try.prog 61 #[.slice A0 l0.length c0] w fun e w' => ∃ v0_ : Value, e = .returned (v0_) ∧ Kd.R (Kd.int .u16) 44 w' w.heap.size (fun _ => True) v0_ l0 ∧ Below w.heap.size w w' := by
 have HR0 := Aside0.mk hr0
 have HL := Aside0.mk hl
 clear hr0 hl
 cases A0 with
 | none =>
  obtain rfl : l0 = [] := by
   rcases Nat.eq_zero_or_pos l0.length with h | h
   ·exact List.eq_nil_of_length_eq_zero h
   ·obtain ⟨ad, e, _⟩ := HR0.out.2.2 h
    cases e
  have he : ∀ w : World, (binOp .eql 33 (.slice none 0 c0) (.slice none 0 0)).run Try.prog w = .ok (.bool true) w := fun w => Lib.run_eql_slice_nil (P := Try.prog) w 33 44 none 0 c0 0 0 Try.underlying33
  go_enter Try.func61, Try.ntmps61
  go_wp2
  go_ret
  exact ⟨_, rfl, Kd.R_nil _ _ _ _ _, Below.refl _ _⟩
 | some ad =>
  have he : ∀ w : World, (binOp .eql 33 (.slice (some ad) l0.length c0) (.slice none 0 0)).run Try.prog w = .ok (.bool false) w := fun w => Lib.run_eql_slice_nil (P := Try.prog) w 33 44 (some ad) l0.length c0 0 0 Try.underlying33
  go_enter Try.func61, Try.ntmps61
  go_wp2_with (first | ((with_reducible refine gate_dst (N := 5) rfl ?_); refine Kd.R_lit (Kd.int .u16) _ 44 ?hg (N := 5) ?hd (xs := ([] : List Int)) (inner := []) (ok := fun _ => True) (okp := fun _ => True) ?hr ?hp (fun _ hk => hk) trivial (Below.refl _ _) (Nat.le_refl _) (by simp) ?_; (case hd => rfl); (case hg => rfl); (case hr => first | (go_simp; done) | (go_simp; rfl)); (case hp => exact (Reps.none _ _)); intro v5 w5 ho5 hb5 hg_ hnew_; clear hg_ hnew_; have HO5 := Aside0.mk ho5; have HB5 := Aside0.mk hb5; clear ho5 hb5) | ((with_reducible refine gate_builtin (b := .append) (xs := #[.tmp 5, .tmp 6]) rfl ?_); at_builtin; refine Kd.R_append_rows (Kd.int .u16) (w0 := w) w.heap.size rfl (.tmp 5) (.tmp 6) 33 44 (.int .u16 0) 2 rfl Try.underlying33 (by kernel_rfl) rfl (by decide) (by omega) v5 ([] : List Int) l0 _ _ _ (fun _ => True) (fun _ => False) rfl rfl ?aO ?aR (fun _ _ h => h) (fun _ h => h.elim) ?aF ?aB ?aS ?aL ?_; (case aR => exact Kd.C_below HR0.out HB5.out); (case aB => exact HB5.out); (case aF => exact (fun _ _ => trivial)); (case aO => exact HO5.out); (case aS => exact (below_size HB5.out)); (case aL => have := HL.out; simp; omega); intro v7 w7 ho hb hg hat; rw [List.nil_append] at ho; have HO7 := Aside0.mk ho; have HB7 := Aside0.mk hb; clear ho hb hg hat))
  go_ret
  exact ⟨_, rfl, HO7.out, HB7.out⟩
def slices_Clone_uint16_uint16.f (l0 : List Int) : Option (List Int) := if l0.length < 1000000 then some l0 else none
theorem slices_Clone_uint16_uint16.calls (A0 : Option Addr) (c0 : Nat) (l0 : List Int) (r : List Int) (w : World) (hr0 : Kd.C (Kd.int .u16) w A0 l0.length l0) (hc0 : l0.length ≤ c0) (h : slices_Clone_uint16_uint16.f l0 = some r) :
  Calls Try.prog 61 #[.slice A0 l0.length c0] w fun e w' => ∃ v0_ : Value, e = .returned (v0_) ∧ Kd.R (Kd.int .u16) 44 w' w.heap.size (fun _ => True) v0_ r ∧ Below w.heap.size w w' := by
 unfold slices_Clone_uint16_uint16.f at h
 by_cases hl : l0.length < 1000000
 ·rw [if_pos hl] at h
  obtain rfl := Option.some.inj h
  exact sl_Clone_u16 A0 c0 l0 w hr0 hc0 hl
 ·rw [if_neg hl] at h; cases h
theorem sl_Clone_int (A0 : Option Addr) (c0 : Nat) (l0 : List Int) (w : World) (hr0 : Kd.C (Kd.int .i64) w A0 l0.length l0) (hc0 : l0.length ≤ c0) (hl : l0.length < 1000000) :
  Calls Try.prog 63 #[.slice A0 l0.length c0] w fun e w' => ∃ v0_ : Value, e = .returned (v0_) ∧ Kd.R (Kd.int .i64) 3 w' w.heap.size (fun _ => True) v0_ l0 ∧ Below w.heap.size w w' := by
 have HR0 := Aside0.mk hr0
 have HL := Aside0.mk hl
 clear hr0 hl
 cases A0 with
 | none =>
  obtain rfl : l0 = [] := by
   rcases Nat.eq_zero_or_pos l0.length with h | h
   ·exact List.eq_nil_of_length_eq_zero h
   ·obtain ⟨ad, e, _⟩ := HR0.out.2.2 h
    cases e
  have he : ∀ w : World, (binOp .eql 37 (.slice none 0 c0) (.slice none 0 0)).run Try.prog w = .ok (.bool true) w := fun w => Lib.run_eql_slice_nil (P := Try.prog) w 37 3 none 0 c0 0 0 Try.underlying37
  go_enter Try.func63, Try.ntmps63
  go_wp2
  go_ret
  exact ⟨_, rfl, Kd.R_nil _ _ _ _ _, Below.refl _ _⟩
 | some ad =>
  have he : ∀ w : World, (binOp .eql 37 (.slice (some ad) l0.length c0) (.slice none 0 0)).run Try.prog w = .ok (.bool false) w := fun w => Lib.run_eql_slice_nil (P := Try.prog) w 37 3 (some ad) l0.length c0 0 0 Try.underlying37
  go_enter Try.func63, Try.ntmps63
  go_wp2_with (first | ((with_reducible refine gate_dst (N := 5) rfl ?_); refine Kd.R_lit (Kd.int .i64) _ 3 ?hg (N := 5) ?hd (xs := ([] : List Int)) (inner := []) (ok := fun _ => True) (okp := fun _ => True) ?hr ?hp (fun _ hk => hk) trivial (Below.refl _ _) (Nat.le_refl _) (by simp) ?_; (case hd => rfl); (case hg => rfl); (case hr => first | (go_simp; done) | (go_simp; rfl)); (case hp => exact (Reps.none _ _)); intro v5 w5 ho5 hb5 hg_ hnew_; clear hg_ hnew_; have HO5 := Aside0.mk ho5; have HB5 := Aside0.mk hb5; clear ho5 hb5) | ((with_reducible refine gate_builtin (b := .append) (xs := #[.tmp 5, .tmp 6]) rfl ?_); at_builtin; refine Kd.R_append_rows (Kd.int .i64) (w0 := w) w.heap.size rfl (.tmp 5) (.tmp 6) 37 3 (.int .i64 0) 8 rfl Try.underlying37 (by kernel_rfl) rfl (by decide) (by omega) v5 ([] : List Int) l0 _ _ _ (fun _ => True) (fun _ => False) rfl rfl ?aO ?aR (fun _ _ h => h) (fun _ h => h.elim) ?aF ?aB ?aS ?aL ?_; (case aR => exact Kd.C_below HR0.out HB5.out); (case aB => exact HB5.out); (case aF => exact (fun _ _ => trivial)); (case aO => exact HO5.out); (case aS => exact (below_size HB5.out)); (case aL => have := HL.out; simp; omega); intro v7 w7 ho hb hg hat; rw [List.nil_append] at ho; have HO7 := Aside0.mk ho; have HB7 := Aside0.mk hb; clear ho hb hg hat))
  go_ret
  exact ⟨_, rfl, HO7.out, HB7.out⟩
end Go.Proofs.Ytbfialebaoeicaa.X
namespace Go.Proofs.Ytbfialebaoeicaa.X
open Go.RowKit Go.Proofs.YtbfialebaoeicaaW.PrintWords Go.Proofs.YtbfialebaoeicaaW.PrintLast Go.Proofs.YtbfialebaoeicaaW.PrintMore
attribute [local go_sem] max2_int min2_int max_two min_two max_three min_three max_four min_four
set_option linter.all false
noncomputable section
def pads_Trim.f (a0_0 : Int) (l0_1 : List Int) (a0_2 : Bool) (a0_3 : Bool) : Option (Int × List Int × Bool × Bool) := (slices_Clone_uint16_uint16.f l0_1).bind fun t463 => (if a0_2 = true then (some (a0_0, ([] : List Int), a0_2, false)) else (some (a0_0, t463, a0_2, a0_3)))
set_option maxHeartbeats 8000000 in
set_option maxRecDepth 100000 in
theorem pads_Trim.calls (a0_0 : Int) (A0_1 : Option Addr) (c0_1 : Nat) (l0_1 : List Int) (a0_2 : Bool) (a0_3 : Bool) (r1 : Int) (r2 : List Int) (r3 : Bool) (r4 : Bool) (w : World) (hr0_1 : Kd.C (Kd.int .u16) w A0_1 l0_1.length l0_1) (hc0_1 : l0_1.length ≤ c0_1) (h : pads_Trim.f a0_0 l0_1 a0_2 a0_3 = some (r1, r2, r3, r4)) :
  Calls Try.prog 45 #[.agg #[.int .i64 a0_0, .slice A0_1 l0_1.length c0_1, .bool a0_2, .bool a0_3]] w fun e w' => ∃ v1_ : Value, e = .returned (.agg #[.int .i64 r1, v1_, .bool r3, .bool r4]) ∧ Kd.R (Kd.int .u16) 44 w' w.heap.size (fun _ => True) v1_ r2 ∧ Below w.heap.size w w' := by
 have hu35 := Try.underlying35
 have HR0_1 := Aside0.mk hr0_1
 have HC0_1 := Aside0.mk hc0_1
 clear hr0_1 hc0_1
 have HB := Aside0.mk (Below.refl w.heap.size w)
 have H : ((slices_Clone_uint16_uint16.f l0_1).bind fun t463 => (if a0_2 = true then (some (a0_0, ([] : List Int), a0_2, false)) else (some (a0_0, t463, a0_2, a0_3)))) = some (r1, r2, r3, r4) := h
 clear h
 replace H := Option.bind_eq_some_iff.mp H
 obtain ⟨t463, A20, H⟩ := H
 replace H : (if a0_2 = true then (some (a0_0, ([] : List Int), a0_2, false)) else (some (a0_0, t463, a0_2, a0_3))) = some (r1, r2, r3, r4) := H
 have A2 := Aside0.mk A20
 clear A20
 by_cases c3 : a0_2 = true
 ·subst c3
  have H1 : (some (a0_0, ([] : List Int), true, false)) = some (r1, r2, r3, r4) := by rw [if_pos rfl] at H; exact H
  clear H
  have H := H1
  clear H1
  simp only [Option.some.injEq, Prod.mk.injEq] at H
  obtain ⟨rfl, rfl, rfl, rfl⟩ := H
  go_enter Try.func45, Try.ntmps45
  go_wp2_with (first | ((with_reducible refine gate_dst (N := 1) rfl ?_); refine box_event ?hg (N := 1) ?hd (cs := #[.int .i64 a0_0, .slice A0_1 l0_1.length c0_1, .bool true, .bool a0_3]) (t := 35) ?hr ?_; (case hd => rfl); (case hg => rfl); (case hr => first | (go_simp; done) | (go_simp; rfl)); intro gb461 hg w4 hbox hb; have n0_ := Aside0.mk (below_step (by repeat (first | (with_reducible first | exact HB.out | apply below_alloc | apply pw_below_drewN | apply below_drew1) | exact HB.out)) hb); have n1_ := Aside0.mk (hbox); have n2_ := Aside0.mk ((by rw [hg]; exact (below_size (by repeat (first | (with_reducible first | exact HB.out | apply below_alloc | apply pw_below_drewN | apply below_drew1) | exact HB.out))) : w.heap.size ≤ gb461)); have n3_ := Aside0.mk ((by rw [hg]; exact (below_size (by repeat (first | (with_reducible first | exact HB.out | apply below_alloc | apply pw_below_drewN | apply below_drew1) | exact HB.out))) : w.heap.size ≤ gb461)); clear HB; have HB := n0_; have BK461 := n1_; have GW461 := n2_; have GE461 := n3_; clear n0_ n1_ n2_ n3_; clear hb hbox hg) | ((with_reducible refine gate_dst (N := 2) rfl ?_); refine box_event ?hg (N := 2) ?hd (cs := #[.int .i64 0, .slice none 0 0, .bool false, .bool false]) (t := 35) ?hr ?_; (case hd => rfl); (case hg => rfl); (case hr => first | (go_simp; done) | (go_simp; rfl)); intro gb462 hg w5 hbox hb; have n0_ := Aside0.mk (blk_below (g := gb461) (o := .cells #[.int .i64 a0_0, .slice A0_1 l0_1.length c0_1, .bool true, .bool a0_3] 35 (0, 0)) (by (with_reducible repeat (first | refine blk_drewN ?_ _ | refine blk_drew ?_ | refine blk_alloc ?_ _)); exact BK461.out) hb); have n1_ := Aside0.mk (below_step (by repeat (first | (with_reducible first | exact HB.out | apply below_alloc | apply pw_below_drewN | apply below_drew1 | refine below_set ?_ GE461.out) | exact HB.out)) hb); have n2_ := Aside0.mk (hbox); have n3_ := Aside0.mk ((by rw [hg]; exact (below_size (by repeat (first | (with_reducible first | exact HB.out | apply below_alloc | apply pw_below_drewN | apply below_drew1 | refine below_set ?_ GE461.out) | exact HB.out))) : w.heap.size ≤ gb462)); have n4_ := Aside0.mk ((by rw [hg]; exact (below_size (by repeat (first | (with_reducible first | exact HB.out | apply below_alloc | apply pw_below_drewN | apply below_drew1 | refine below_set ?_ GE461.out) | exact HB.out))) : w.heap.size ≤ gb462)); have n5_ := Aside0.mk ((by rw [hg]; exact Nat.ne_of_lt (blk_lt (g := gb461) (o := .cells #[.int .i64 a0_0, .slice A0_1 l0_1.length c0_1, .bool true, .bool a0_3] 35 (0, 0)) (by (with_reducible repeat (first | refine blk_drewN ?_ _ | refine blk_drew ?_ | refine blk_alloc ?_ _)); exact BK461.out)) : gb461 ≠ gb462)); have n6_ := Aside0.mk ((by rw [hg]; exact Nat.ne_of_gt (blk_lt (g := gb461) (o := .cells #[.int .i64 a0_0, .slice A0_1 l0_1.length c0_1, .bool true, .bool a0_3] 35 (0, 0)) (by (with_reducible repeat (first | refine blk_drewN ?_ _ | refine blk_drew ?_ | refine blk_alloc ?_ _)); exact BK461.out)) : gb462 ≠ gb461)); clear BK461; clear HB; have BK461 := n0_; have HB := n1_; have BK462 := n2_; have GW462 := n3_; have GE462 := n4_; have NB461_462 := n5_; have NB462_461 := n6_; clear n0_ n1_ n2_ n3_ n4_ n5_ n6_; clear hb hbox hg; have hnb6 := NB461_462.out; have hnc6 := NB462_461.out; have hcz7_0 : w5.cell? ⟨gb461, 0, none⟩ = some (.int .i64 a0_0) := (blk_cell BK461.out 0).trans rfl; have hcz7_1 : w5.cell? ⟨gb461, 1, none⟩ = some (.slice A0_1 l0_1.length c0_1) := (blk_cell BK461.out 1).trans rfl; have hcz7_2 : w5.cell? ⟨gb461, 2, none⟩ = some (.bool true) := (blk_cell BK461.out 2).trans rfl; have hcz7_3 : w5.cell? ⟨gb461, 3, none⟩ = some (.bool a0_3) := (blk_cell BK461.out 3).trans rfl; obtain ⟨hfz7_0, hfz7_1, hfz7_2, hfz7_3⟩ := fz4 BK461.out) | ((with_reducible refine gate_callee (f := 61) rfl ?_); refine goesL_ (some 5) rfl rfl Try.func61 (by kernel_rfl) rfl #[.slice A0_1 l0_1.length c0_1] rfl (by (try simp only [List.map_toArray, List.map_cons, List.map_nil]); first | done | rfl | (simp only [List.length_drop, List.length_take]; rfl)) ?_; (with_reducible refine (slices_Clone_uint16_uint16.calls _ _ l0_1 t463 _ ?side1 ?side2 A2.out).mono ?_); (case side1 => repeat (first | exact (Kd.C_below HR0_1.out HB.out) | (with_reducible refine Kd.C_alloc ?_ _) | (with_reducible refine Kd.C_drewN ?_ _) | (with_reducible refine Kd.C_drew ?_))); (case side2 => exact HC0_1.out); rintro e w8 ⟨v464, rfl, ho0, hb⟩; refine ⟨_, rfl, ?_⟩; have n0_ := Aside0.mk (Kd.R_lower ho0 (below_size (by repeat (first | (with_reducible first | exact HB.out | apply below_alloc | apply pw_below_drewN | apply below_drew1 | refine below_set ?_ GE461.out | refine below_set ?_ GE462.out) | exact HB.out)))); have n1_ := Aside0.mk (blk_below (g := gb461) (o := .cells #[.int .i64 a0_0, .slice A0_1 l0_1.length c0_1, .bool true, .bool a0_3] 35 (0, 0)) (by (with_reducible repeat (first | refine blk_drewN ?_ _ | refine blk_drew ?_ | refine blk_alloc ?_ _)); exact BK461.out) hb); have n2_ := Aside0.mk (blk_below (g := gb462) (o := .cells #[.int .i64 0, .slice none 0 0, .bool false, .bool false] 35 (0, 0)) (by (with_reducible repeat (first | refine blk_drewN ?_ _ | refine blk_drew ?_ | refine blk_alloc ?_ _)); exact BK462.out) hb); have n3_ := Aside0.mk (below_step (by repeat (first | (with_reducible first | exact HB.out | apply below_alloc | apply pw_below_drewN | apply below_drew1 | refine below_set ?_ GE461.out | refine below_set ?_ GE462.out) | exact HB.out)) hb); clear BK461; clear BK462; clear HB; have HO465 := n0_; have BK461 := n1_; have BK462 := n2_; have HB := n3_; clear n0_ n1_ n2_ n3_; (try clear hb); (try clear hb2); (try clear hk); (try clear hi); (try clear ho0); obtain ⟨Ao9, co9, eo9⟩ := Kd.R_slice HO465.out; subst eo9; have hcz10_0 : w8.cell? ⟨gb461, 0, none⟩ = some (.int .i64 a0_0) := (blk_cell BK461.out 0).trans rfl; have hcz10_1 : w8.cell? ⟨gb461, 1, none⟩ = some (.slice A0_1 l0_1.length c0_1) := (blk_cell BK461.out 1).trans rfl; have hcz10_2 : w8.cell? ⟨gb461, 2, none⟩ = some (.bool true) := (blk_cell BK461.out 2).trans rfl; have hcz10_3 : w8.cell? ⟨gb461, 3, none⟩ = some (.bool a0_3) := (blk_cell BK461.out 3).trans rfl; obtain ⟨hfz10_0, hfz10_1, hfz10_2, hfz10_3⟩ := fz4 BK461.out; have hcz11_0 : w8.cell? ⟨gb462, 0, none⟩ = some (.int .i64 0) := (blk_cell BK462.out 0).trans rfl; have hcz11_1 : w8.cell? ⟨gb462, 1, none⟩ = some (.slice none 0 0) := (blk_cell BK462.out 1).trans rfl; have hcz11_2 : w8.cell? ⟨gb462, 2, none⟩ = some (.bool false) := (blk_cell BK462.out 2).trans rfl; have hcz11_3 : w8.cell? ⟨gb462, 3, none⟩ = some (.bool false) := (blk_cell BK462.out 3).trans rfl; obtain ⟨hfz11_0, hfz11_1, hfz11_2, hfz11_3⟩ := fz4 BK462.out))
  refine bodyPost_ret (results_cell_row rfl _ _ gb462 35 #[.int .i64 a0_0, .slice none 0 0, .bool true, .bool false] (0, 0) _ rfl (by (with_reducible repeat (first | refine blk_drewN ?_ _ | refine blk_drew ?_ | refine blk_alloc ?_ _)); refine blk_put (cs := #[.int .i64 a0_0, .slice none 0 0, .bool true, .bool false]) ?_ 3 _ rfl; (with_reducible repeat (first | refine blk_drewN ?_ _ | refine blk_drew ?_ | refine blk_alloc ?_ _)); refine blk_put (cs := #[.int .i64 a0_0, .slice none 0 0, .bool false, .bool false]) ?_ 2 _ rfl; (with_reducible repeat (first | refine blk_drewN ?_ _ | refine blk_drew ?_ | refine blk_alloc ?_ _)); refine blk_put (cs := #[.int .i64 a0_0, .slice none 0 0, .bool false, .bool false]) ?_ 1 _ rfl; (with_reducible repeat (first | refine blk_drewN ?_ _ | refine blk_drew ?_ | refine blk_alloc ?_ _)); refine blk_put (cs := #[.int .i64 0, .slice none 0 0, .bool false, .bool false]) ?_ 0 _ rfl; (with_reducible repeat (first | refine blk_drewN ?_ _ | refine blk_drew ?_ | refine blk_alloc ?_ _)); refine blk_far ?_ NB462_461.out _; (with_reducible repeat (first | refine blk_drewN ?_ _ | refine blk_drew ?_ | refine blk_alloc ?_ _)); refine blk_far ?_ NB462_461.out _; (with_reducible repeat (first | refine blk_drewN ?_ _ | refine blk_drew ?_ | refine blk_alloc ?_ _)); refine blk_far ?_ NB462_461.out _; (with_reducible repeat (first | refine blk_drewN ?_ _ | refine blk_drew ?_ | refine blk_alloc ?_ _)); exact BK462.out) Try.underlying35 rfl (by kernel_rfl)) rfl ?_
  exact ⟨_, by first | rfl | (simp [errW_none, errW_some] <;> rfl) | (simp [*, errW_none, errW_some] <;> rfl), by first | exact Kd.R_nil _ _ _ _ _ | exact Kd.N_nil _ _ _ _ _ | exact Kd.V_nil _ _ _ _ _ | exact Kd.Q_nil _ _ _ _ _ | exact Kd.S_nil _ _ _ _ _, by repeat (first | (with_reducible first | exact HB.out | apply below_alloc | apply pw_below_drewN | apply below_drew1 | refine below_set ?_ GE461.out | refine below_set ?_ GE462.out) | exact HB.out)⟩
 ·replace c3 := Bool.eq_false_iff.mpr c3
  subst c3
  have H1 : (some (a0_0, t463, false, a0_3)) = some (r1, r2, r3, r4) := by rw [if_neg (show ¬ (false = true) by decide)] at H; exact H
  clear H
  have H := H1
  clear H1
  simp only [Option.some.injEq, Prod.mk.injEq] at H
  obtain ⟨rfl, rfl, rfl, rfl⟩ := H
  go_enter Try.func45, Try.ntmps45
  go_wp2_with (first | ((with_reducible refine gate_dst (N := 1) rfl ?_); refine box_event ?hg (N := 1) ?hd (cs := #[.int .i64 a0_0, .slice A0_1 l0_1.length c0_1, .bool false, .bool a0_3]) (t := 35) ?hr ?_; (case hd => rfl); (case hg => rfl); (case hr => first | (go_simp; done) | (go_simp; rfl)); intro gb461 hg w12 hbox hb; have n0_ := Aside0.mk (below_step (by repeat (first | (with_reducible first | exact HB.out | apply below_alloc | apply pw_below_drewN | apply below_drew1) | exact HB.out)) hb); have n1_ := Aside0.mk (hbox); have n2_ := Aside0.mk ((by rw [hg]; exact (below_size (by repeat (first | (with_reducible first | exact HB.out | apply below_alloc | apply pw_below_drewN | apply below_drew1) | exact HB.out))) : w.heap.size ≤ gb461)); have n3_ := Aside0.mk ((by rw [hg]; exact (below_size (by repeat (first | (with_reducible first | exact HB.out | apply below_alloc | apply pw_below_drewN | apply below_drew1) | exact HB.out))) : w.heap.size ≤ gb461)); clear HB; have HB := n0_; have BK461 := n1_; have GW461 := n2_; have GE461 := n3_; clear n0_ n1_ n2_ n3_; clear hb hbox hg) | ((with_reducible refine gate_dst (N := 2) rfl ?_); refine box_event ?hg (N := 2) ?hd (cs := #[.int .i64 0, .slice none 0 0, .bool false, .bool false]) (t := 35) ?hr ?_; (case hd => rfl); (case hg => rfl); (case hr => first | (go_simp; done) | (go_simp; rfl)); intro gb462 hg w13 hbox hb; have n0_ := Aside0.mk (blk_below (g := gb461) (o := .cells #[.int .i64 a0_0, .slice A0_1 l0_1.length c0_1, .bool false, .bool a0_3] 35 (0, 0)) (by (with_reducible repeat (first | refine blk_drewN ?_ _ | refine blk_drew ?_ | refine blk_alloc ?_ _)); exact BK461.out) hb); have n1_ := Aside0.mk (below_step (by repeat (first | (with_reducible first | exact HB.out | apply below_alloc | apply pw_below_drewN | apply below_drew1 | refine below_set ?_ GE461.out) | exact HB.out)) hb); have n2_ := Aside0.mk (hbox); have n3_ := Aside0.mk ((by rw [hg]; exact (below_size (by repeat (first | (with_reducible first | exact HB.out | apply below_alloc | apply pw_below_drewN | apply below_drew1 | refine below_set ?_ GE461.out) | exact HB.out))) : w.heap.size ≤ gb462)); have n4_ := Aside0.mk ((by rw [hg]; exact (below_size (by repeat (first | (with_reducible first | exact HB.out | apply below_alloc | apply pw_below_drewN | apply below_drew1 | refine below_set ?_ GE461.out) | exact HB.out))) : w.heap.size ≤ gb462)); have n5_ := Aside0.mk ((by rw [hg]; exact Nat.ne_of_lt (blk_lt (g := gb461) (o := .cells #[.int .i64 a0_0, .slice A0_1 l0_1.length c0_1, .bool false, .bool a0_3] 35 (0, 0)) (by (with_reducible repeat (first | refine blk_drewN ?_ _ | refine blk_drew ?_ | refine blk_alloc ?_ _)); exact BK461.out)) : gb461 ≠ gb462)); have n6_ := Aside0.mk ((by rw [hg]; exact Nat.ne_of_gt (blk_lt (g := gb461) (o := .cells #[.int .i64 a0_0, .slice A0_1 l0_1.length c0_1, .bool false, .bool a0_3] 35 (0, 0)) (by (with_reducible repeat (first | refine blk_drewN ?_ _ | refine blk_drew ?_ | refine blk_alloc ?_ _)); exact BK461.out)) : gb462 ≠ gb461)); clear BK461; clear HB; have BK461 := n0_; have HB := n1_; have BK462 := n2_; have GW462 := n3_; have GE462 := n4_; have NB461_462 := n5_; have NB462_461 := n6_; clear n0_ n1_ n2_ n3_ n4_ n5_ n6_; clear hb hbox hg; have hnb14 := NB461_462.out; have hnc14 := NB462_461.out; have hcz15_0 : w13.cell? ⟨gb461, 0, none⟩ = some (.int .i64 a0_0) := (blk_cell BK461.out 0).trans rfl; have hcz15_1 : w13.cell? ⟨gb461, 1, none⟩ = some (.slice A0_1 l0_1.length c0_1) := (blk_cell BK461.out 1).trans rfl; have hcz15_2 : w13.cell? ⟨gb461, 2, none⟩ = some (.bool false) := (blk_cell BK461.out 2).trans rfl; have hcz15_3 : w13.cell? ⟨gb461, 3, none⟩ = some (.bool a0_3) := (blk_cell BK461.out 3).trans rfl; obtain ⟨hfz15_0, hfz15_1, hfz15_2, hfz15_3⟩ := fz4 BK461.out) | ((with_reducible refine gate_callee (f := 61) rfl ?_); refine goesL_ (some 5) rfl rfl Try.func61 (by kernel_rfl) rfl #[.slice A0_1 l0_1.length c0_1] rfl (by (try simp only [List.map_toArray, List.map_cons, List.map_nil]); first | done | rfl | (simp only [List.length_drop, List.length_take]; rfl)) ?_; (with_reducible refine (slices_Clone_uint16_uint16.calls _ _ l0_1 t463 _ ?side1 ?side2 A2.out).mono ?_); (case side1 => repeat (first | exact (Kd.C_below HR0_1.out HB.out) | (with_reducible refine Kd.C_alloc ?_ _) | (with_reducible refine Kd.C_drewN ?_ _) | (with_reducible refine Kd.C_drew ?_))); (case side2 => exact HC0_1.out); rintro e w16 ⟨v464, rfl, ho0, hb⟩; refine ⟨_, rfl, ?_⟩; have n0_ := Aside0.mk (Kd.R_lower ho0 (below_size (by repeat (first | (with_reducible first | exact HB.out | apply below_alloc | apply pw_below_drewN | apply below_drew1 | refine below_set ?_ GE461.out | refine below_set ?_ GE462.out) | exact HB.out)))); have n1_ := Aside0.mk (blk_below (g := gb461) (o := .cells #[.int .i64 a0_0, .slice A0_1 l0_1.length c0_1, .bool false, .bool a0_3] 35 (0, 0)) (by (with_reducible repeat (first | refine blk_drewN ?_ _ | refine blk_drew ?_ | refine blk_alloc ?_ _)); exact BK461.out) hb); have n2_ := Aside0.mk (blk_below (g := gb462) (o := .cells #[.int .i64 0, .slice none 0 0, .bool false, .bool false] 35 (0, 0)) (by (with_reducible repeat (first | refine blk_drewN ?_ _ | refine blk_drew ?_ | refine blk_alloc ?_ _)); exact BK462.out) hb); have n3_ := Aside0.mk (below_step (by repeat (first | (with_reducible first | exact HB.out | apply below_alloc | apply pw_below_drewN | apply below_drew1 | refine below_set ?_ GE461.out | refine below_set ?_ GE462.out) | exact HB.out)) hb); clear BK461; clear BK462; clear HB; have HO465 := n0_; have BK461 := n1_; have BK462 := n2_; have HB := n3_; clear n0_ n1_ n2_ n3_; (try clear hb); (try clear hb2); (try clear hk); (try clear hi); (try clear ho0); obtain ⟨Ao17, co17, eo17⟩ := Kd.R_slice HO465.out; subst eo17; have hcz18_0 : w16.cell? ⟨gb461, 0, none⟩ = some (.int .i64 a0_0) := (blk_cell BK461.out 0).trans rfl; have hcz18_1 : w16.cell? ⟨gb461, 1, none⟩ = some (.slice A0_1 l0_1.length c0_1) := (blk_cell BK461.out 1).trans rfl; have hcz18_2 : w16.cell? ⟨gb461, 2, none⟩ = some (.bool false) := (blk_cell BK461.out 2).trans rfl; have hcz18_3 : w16.cell? ⟨gb461, 3, none⟩ = some (.bool a0_3) := (blk_cell BK461.out 3).trans rfl; obtain ⟨hfz18_0, hfz18_1, hfz18_2, hfz18_3⟩ := fz4 BK461.out; have hcz19_0 : w16.cell? ⟨gb462, 0, none⟩ = some (.int .i64 0) := (blk_cell BK462.out 0).trans rfl; have hcz19_1 : w16.cell? ⟨gb462, 1, none⟩ = some (.slice none 0 0) := (blk_cell BK462.out 1).trans rfl; have hcz19_2 : w16.cell? ⟨gb462, 2, none⟩ = some (.bool false) := (blk_cell BK462.out 2).trans rfl; have hcz19_3 : w16.cell? ⟨gb462, 3, none⟩ = some (.bool false) := (blk_cell BK462.out 3).trans rfl; obtain ⟨hfz19_0, hfz19_1, hfz19_2, hfz19_3⟩ := fz4 BK462.out))
  refine bodyPost_ret (results_cell_row rfl _ _ gb462 35 #[.int .i64 a0_0, .slice Ao17 t463.length co17, .bool false, .bool a0_3] (0, 0) _ rfl (by (with_reducible repeat (first | refine blk_drewN ?_ _ | refine blk_drew ?_ | refine blk_alloc ?_ _)); refine blk_put (cs := #[.int .i64 a0_0, .slice Ao17 t463.length co17, .bool false, .bool false]) ?_ 3 _ rfl; (with_reducible repeat (first | refine blk_drewN ?_ _ | refine blk_drew ?_ | refine blk_alloc ?_ _)); refine blk_put (cs := #[.int .i64 a0_0, .slice Ao17 t463.length co17, .bool false, .bool false]) ?_ 2 _ rfl; (with_reducible repeat (first | refine blk_drewN ?_ _ | refine blk_drew ?_ | refine blk_alloc ?_ _)); refine blk_put (cs := #[.int .i64 a0_0, .slice none 0 0, .bool false, .bool false]) ?_ 1 _ rfl; (with_reducible repeat (first | refine blk_drewN ?_ _ | refine blk_drew ?_ | refine blk_alloc ?_ _)); refine blk_put (cs := #[.int .i64 0, .slice none 0 0, .bool false, .bool false]) ?_ 0 _ rfl; (with_reducible repeat (first | refine blk_drewN ?_ _ | refine blk_drew ?_ | refine blk_alloc ?_ _)); refine blk_far ?_ NB462_461.out _; (with_reducible repeat (first | refine blk_drewN ?_ _ | refine blk_drew ?_ | refine blk_alloc ?_ _)); exact BK462.out) Try.underlying35 rfl (by kernel_rfl)) rfl ?_
  exact ⟨_, by first | rfl | (simp [errW_none, errW_some] <;> rfl) | (simp [*, errW_none, errW_some] <;> rfl), by (with_reducible repeat (first | apply Kd.R_alloc | apply Kd.R_drewN | apply Kd.R_drew)); exact Kd.R_mono (Kd.R_far (p := ⟨gb462, 3, none⟩) (Kd.R_far (p := ⟨gb462, 2, none⟩) (Kd.R_far (p := ⟨gb462, 1, none⟩) (Kd.R_far (p := ⟨gb462, 0, none⟩) (Kd.R_far (p := ⟨gb461, 1, none⟩) (Kd.R_types (Kd.R_types HO465.out BK461.out (by decide)) BK462.out (by decide)) (fun _ hk => hk.1.2) (.slice Ao17 t463.length co17)) (fun _ hk => hk.2) (.int .i64 a0_0)) (fun _ hk => hk.2) (.slice Ao17 t463.length co17)) (fun _ hk => hk.2) (.bool false)) (fun _ hk => hk.2) (.bool a0_3)) (fun _ hk => trivial), by repeat (first | (with_reducible first | exact HB.out | apply below_alloc | apply pw_below_drewN | apply below_drew1 | refine below_set ?_ GE461.out | refine below_set ?_ GE462.out) | exact HB.out)⟩
end
end Go.Proofs.Ytbfialebaoeicaa.X
namespace Go.Proofs.Ytbfialebaoeicaa.X
open Go.RowKit Go.Proofs.YtbfialebaoeicaaW.PrintWords Go.Proofs.YtbfialebaoeicaaW.PrintLast Go.Proofs.YtbfialebaoeicaaW.PrintMore
set_option linter.all false
def seg (l : List Value) (sz j : Nat) : List Value := (l.drop (j * sz)).take sz
theorem seg_get (l : List Value) (sz j o : Nat) (ho : o < sz) : (seg l sz j)[o]? = l[j * sz + o]? := by
 unfold seg
 rw [List.getElem?_take, if_pos ho, List.getElem?_drop]
theorem seg_get_ge (l : List Value) (sz j o : Nat) (ho : ¬ o < sz) : (seg l sz j)[o]? = none := by
 unfold seg
 rw [List.getElem?_take, if_neg ho]
theorem seg_ext {l l' : List Value} {sz j : Nat} (h : ∀ o, o < sz → l[j * sz + o]? = l'[j * sz + o]?) : seg l sz j = seg l' sz j := by
 apply List.ext_getElem?
 intro o
 by_cases ho : o < sz
 ·rw [seg_get _ _ _ _ ho, seg_get _ _ _ _ ho, h o ho]
 ·rw [seg_get_ge _ _ _ _ ho, seg_get_ge _ _ _ _ ho]
theorem seg_ne {sz j j' o o' : Nat} (ho : o < sz) (ho' : o' < sz) (h : j' ≠ j) : j * sz + o ≠ j' * sz + o' := by
 intro e
 have h1 : (j * sz + o) / sz = j := by rw [Nat.mul_comm, Nat.mul_add_div (by omega), Nat.div_eq_of_lt ho, Nat.add_zero]
 have h2 : (j' * sz + o') / sz = j' := by rw [Nat.mul_comm, Nat.mul_add_div (by omega), Nat.div_eq_of_lt ho', Nat.add_zero]
 rw [e, h2] at h1
 exact h h1
theorem seg_set_ne (l : List Value) {sz j j' o : Nat} (u : Value) (ho : o < sz) (h : j' ≠ j) : seg (l.set (j * sz + o) u) sz j' = seg l sz j' :=
 seg_ext fun o' ho' => by rw [List.getElem?_set_ne (seg_ne ho ho' h)]
theorem seg_set_eq (l : List Value) {sz j o : Nat} (u : Value) (ho : o < sz) : seg (l.set (j * sz + o) u) sz j = (seg l sz j).set o u := by
 apply List.ext_getElem?
 intro i
 by_cases hi : i < sz
 ·rw [seg_get _ _ _ _ hi, List.getElem?_set, List.getElem?_set]
  by_cases he : o = i
  ·subst he
   rw [if_pos rfl, if_pos rfl]
   by_cases hl : j * sz + o < l.length
   ·rw [if_pos hl, if_pos (by unfold seg; rw [List.length_take, List.length_drop]; omega)]
   ·rw [if_neg hl, if_neg (by unfold seg; rw [List.length_take, List.length_drop]; omega)]
  ·rw [if_neg (by omega), if_neg he, seg_get _ _ _ _ hi]
 ·rw [seg_get_ge _ _ _ _ hi, List.getElem?_eq_none]
  rw [List.length_set]
  unfold seg
  rw [List.length_take]
  omega
def PL {α : Type} (d : Kd α) (e : Nat) (w0 w : World) (base bE N : Nat) (v : Value) (xs : List α) (i i' : Nat) (inner : List Value) : Prop :=
 (base ≤ bE ∧ ∀ k, v.ownBlock = some k → k < N) ∧ w.ownsRow base e d.sz v xs.length inner ∧ inner.length = xs.length * d.sz ∧
  (∃ tag : Nat → Nat, ∀ j x, xs[j]? = some x → j < i → d.M w bE (fun k => k < N ∧ some k ≠ v.ownBlock ∧ tag k = j) x (seg inner d.sz j)) ∧
  ∀ j x, xs[j]? = some x → i' ≤ j → d.K w0 x (seg inner d.sz j)
def asRead {α : Type} (d : Kd α) (w0 : World) : Kd α where
 sz := d.sz
 E := []
 K := fun _ x cs => d.K w0 x cs
 M := fun _ _ _ x cs => d.K w0 x cs
 K_len := fun h => d.K_len h
 K_one := fun h => d.K_one h
 K_below := fun _ h => h
 K_of_M := fun h => h
 M_mono := fun _ h => h
 M_bound := fun h => h
 M_move := fun _ h => h
 M_lower := fun _ h => h
theorem C_asRead {α : Type} {d : Kd α} {w0 w : World} {A : Option Addr} {n : Nat} {xs : List α} (h : d.C w0 A n xs) (hb : Below w0.heap.size w0 w) : (asRead d w0).C w A n xs := ReadsRow.imp_ h hb (fun _ _ hp => hp)
section
variable {α : Type} {d : Kd α} {e : Nat} {w0 w w1 : World} {base bE N : Nat} {v : Value} {xs : List α} {i i' : Nat} {inner : List Value}
theorem PL_zero {ok : Nat → Prop} (h : (asRead d w0).R e w base ok v xs) (bE : Nat) (hb : base ≤ bE) : ∃ inner, PL d e w0 w base bE w.heap.size v xs 0 0 inner := by
 obtain ⟨_, inner, ho, hl, hr⟩ := h
 exact ⟨inner, ⟨hb, fun k hk => own_lt ho k hk⟩, ho, hl, ⟨fun _ => 0, fun j x _ h => absurd h (by omega)⟩, fun j x hj _ => hr j x hj⟩
theorem PL_rebase {bE' : Nat} (h : PL d e w0 w base bE N v xs 0 i' inner) (hb : base ≤ bE') : PL d e w0 w base bE' N v xs 0 i' inner :=
 ⟨⟨hb, h.1.2⟩, h.2.1, h.2.2.1, ⟨fun _ => 0, fun j x _ h => absurd h (by omega)⟩, h.2.2.2.2⟩
theorem PL_step (h : PL d e w0 w base bE N v xs i i' inner) (hm : ∀ k, base ≤ k → k < N → k < w.heap.size → w1.heap[k]? = w.heap[k]?) : PL d e w0 w1 base bE N v xs i i' inner := by
 obtain ⟨⟨hb, h0⟩, ho, hl, ⟨tag, hr⟩, hs⟩ := h
 exact ⟨⟨hb, h0⟩, own_move ho (fun k hk => hm k (own_base ho k hk) (h0 k hk) (own_lt ho k hk)), hl, ⟨tag, fun j x hj hi => d.M_mono (fun k hk => hk.1) (d.M_move (fun k hk => hm k (Nat.le_trans hb hk.2.1) hk.1.1 hk.2.2.1) (d.M_bound (hr j x hj hi)))⟩, hs⟩
theorem PL_up {N' : Nat} (h : PL d e w0 w base bE N v xs i i' inner) (hn : N ≤ N') : PL d e w0 w base bE N' v xs i i' inner := by
 obtain ⟨⟨hb, h0⟩, ho, hl, ⟨tag, hr⟩, hs⟩ := h
 exact ⟨⟨hb, fun k hk => Nat.lt_of_lt_of_le (h0 k hk) hn⟩, ho, hl, ⟨tag, fun j x hj hi => d.M_mono (fun k hk => ⟨Nat.lt_of_lt_of_le hk.1 hn, hk.2⟩) (hr j x hj hi)⟩, hs⟩
theorem size_set (w : World) (p : Addr) (u : Value) : (w.setCell p u).heap.size = w.heap.size := by simp [World.setCell]
theorem PL_elder (h : PL d e w0 w base bE N v xs i i' inner) {p : Addr} (hp : p.block < base) (u : Value) : PL d e w0 (w.setCell p u) base bE N v xs i i' inner :=
 PL_step h (fun k hk _ _ => Below.heap_setCell w p u k (by omega))
theorem PL_young (h : PL d e w0 w base bE N v xs i i' inner) {p : Addr} (hp : N ≤ p.block) (u : Value) : PL d e w0 (w.setCell p u) base bE N v xs i i' inner :=
 PL_step h (fun k _ hk _ => Below.heap_setCell w p u k (by omega))
theorem PL_below (h : PL d e w0 w base bE N v xs i i' inner) (hb : Below w.heap.size w w1) : PL d e w0 w1 base bE N v xs i i' inner := PL_step h (fun k _ _ hlt => hb.block k hlt)
theorem PL_open (h : PL d e w0 w base bE N v xs i i inner) {x : α} (hx : xs[i]? = some x) : d.K w0 x (seg inner d.sz i) ∧ PL d e w0 w base bE N v xs i (i + 1) inner :=
 ⟨h.2.2.2.2 i x hx (Nat.le_refl _), h.1, h.2.1, h.2.2.1, h.2.2.2.1, fun j x hj hi => h.2.2.2.2 j x hj (by omega)⟩
theorem PL_set {g n c : Nat} (h : PL d e w0 w base bE N (.slice (some ⟨g, 0, none⟩) n c) xs i (i + 1) inner) (o : Nat) (ho' : o < d.sz) (u : Value) :
  PL d e w0 (w.setCell ⟨g, i * d.sz + o, none⟩ u) base bE N (.slice (some ⟨g, 0, none⟩) n c) xs i (i + 1) (inner.set (i * d.sz + o) u) := by
 obtain ⟨h0, ho, hl, ⟨tag, hr⟩, hs⟩ := h
 have hn : n = xs.length := by
  rcases ho.2 with ⟨h', _⟩ | ⟨g', cap', cur, h', _⟩
  ·cases h'
  ·injection h'
 subst hn
 refine ⟨h0, (ho.stored (i * d.sz + o) u).1, by rw [List.length_set]; exact hl, ⟨tag, fun j x hj hi => ?_⟩, fun j x hj hi => ?_⟩
 ·rw [seg_set_ne _ _ ho' (by omega)]
  refine Kd.M_far (hr j x hj hi) (fun k hk => ?_) u
  intro e'
  exact hk.2.1 (by rw [e']; rfl)
 ·rw [seg_set_ne _ _ ho' (by omega)]
  exact hs j x hj hi
theorem PL_next (h : PL d e w0 w base bE N v xs i (i + 1) inner) {x : α} (hx : xs[i]? = some x) (hN : N ≤ w.heap.size) (hM : d.M w bE (fun k => N ≤ k) x (seg inner d.sz i)) : PL d e w0 w base bE w.heap.size v xs (i + 1) (i + 1) inner := by
 obtain ⟨⟨hb, h0⟩, ho, hl, ⟨tag, hr⟩, hs⟩ := h
 refine ⟨⟨hb, fun k hk => own_lt ho k hk⟩, ho, hl, ⟨fun k => if k < N then tag k else i, fun j y hj hi => ?_⟩, hs⟩
 by_cases hj' : j < i
 ·refine d.M_mono (fun k hk => ?_) (d.M_bound (hr j y hj hj'))
  refine ⟨hk.2.2.1, hk.1.2.1, ?_⟩
  show (if k < N then tag k else i) = j
  rw [if_pos hk.1.1]
  exact hk.1.2.2
 ·obtain rfl : j = i := by omega
  obtain rfl : y = x := by rw [hx] at hj; exact (Option.some.inj hj).symm
  refine d.M_mono (fun k hk => ?_) (d.M_bound hM)
  refine ⟨hk.2.2.1, fun e' => ?_, ?_⟩
  ·have h1 := h0 k e'.symm
   have h2 := hk.1
   omega
  ·show (if k < N then tag k else j) = j
   rw [if_neg (by have := hk.1; omega)]
theorem PL_all (h : PL d e w0 w base bE N v xs i i' inner) (hi : xs.length ≤ i) : Kd.S d e w base (fun k => k < N ∧ (v.ownBlock = some k ∨ bE ≤ k)) v xs := by
 obtain ⟨⟨hb, h0⟩, ho, hl, ⟨tag, hr⟩, hs⟩ := h
 refine ⟨tag, fun k hk => ⟨h0 k hk, .inl hk⟩, inner, by rw [List.length_zipIdx]; exact ho, by rw [List.length_zipIdx]; exact hl, fun j p hj => ?_⟩
 rw [List.getElem?_zipIdx, Nat.zero_add] at hj
 obtain ⟨x, hx, rfl⟩ := Option.map_eq_some_iff.1 hj
 exact d.M_lower hb (d.M_mono (fun k hk => ⟨⟨⟨hk.1.1, .inr hk.2.1⟩, hk.1.2.1⟩, hk.1.2.2⟩) (d.M_bound (hr j x hx (by have := (List.getElem?_eq_some_iff.1 hx).1; omega))))
theorem PL_cell {g n c : Nat} (h : PL d e w0 w base bE N (.slice (some ⟨g, 0, none⟩) n c) xs i i' inner) {p : Nat} {u : Value} (hu : inner[p]? = some u) : w.cell? ⟨g, p, none⟩ = some u ∧ w.frozen? ⟨g, p, none⟩ = false := by
 obtain ⟨h0, ho, hl, _⟩ := h
 constructor
 ·have hc := ho.cells (g := g) rfl p u hu
  rwa [add_plain] at hc
 ·rcases ho.2 with ⟨h', _⟩ | ⟨g', cap', cur, h', _, hh, _⟩
  ·cases h'
  ·have : g = g' := by injection h' with h'; injection h' with h'; injection h' with h'
   subst this
   simp [World.frozen?, hh]
theorem PL_form (h : PL d e w0 w base bE N v xs i i' inner) (hp : 0 < xs.length) : ∃ g c, v = .slice (some ⟨g, 0, none⟩) xs.length c ∧ base ≤ g ∧ g < N := by
 obtain ⟨⟨hb, h0⟩, ho, hl, _⟩ := h
 rcases ho.2 with ⟨_, hn⟩ | ⟨g, c, cur, rfl, hb', _⟩
 ·omega
 ·exact ⟨g, c, rfl, hb', h0 g (by simp [Value.ownBlock])⟩
theorem PL_typed {g n c : Nat} (h : PL d e w0 w base bE N (.slice (some ⟨g, 0, none⟩) n c) xs i i' inner) : ∃ cells, w.heap[g]? = some (.cells cells e (0, 0)) := own_typed h.2.1 g rfl
theorem PL_seg (h : PL d e w0 w base bE N v xs i i' inner) {g n c p : Nat} {u : Value} (hv : v = .slice (some ⟨g, 0, none⟩) n c) (o : Nat) (ho : o < d.sz) {cs : List Value} (hs : seg inner d.sz p = cs) (hu : cs[o]? = some u) : w.cell? ⟨g, p * d.sz + o, none⟩ = some u ∧ w.frozen? ⟨g, p * d.sz + o, none⟩ = false := by
 subst hv
 exact PL_cell h ((seg_get inner d.sz p o ho).symm.trans (by rw [hs]; exact hu))
end
end Go.Proofs.Ytbfialebaoeicaa.X
namespace Go.Proofs.Ytbfialebaoeicaa.X
open Go.RowKit Go.Proofs.YtbfialebaoeicaaW.PrintWords Go.Proofs.YtbfialebaoeicaaW.PrintLast Go.Proofs.YtbfialebaoeicaaW.PrintMore
set_option linter.all false
def sB : Kd S41 where
 sz := 14
 E := 44 :: 49 :: 3 :: k49.E
 K := k41.K
 M := fun w base ok x cs => ∃ (v2 v5 v10 : Value) (t : Nat → Nat), cs = [.bool x.f0, .int .i64 x.f1.f0, v2, .bool x.f1.f2, .bool x.f1.f3, v5, .int .i64 x.f3.f0, .int .i64 x.f3.f1, .int .i64 x.f3.f2, .int .i64 x.f3.f3, v10, .int .i64 x.f3.f5, .int .i64 x.f3.f6, .int .i64 x.f3.f7] ∧ (Kd.int .u16).R 44 w base (fun k => ok k ∧ t k = 0) v2 x.f1.f1 ∧ Kd.S k49 49 w base (fun k => ok k ∧ t k = 1) v5 x.f2 ∧ (Kd.int .i64).R 3 w base (fun k => ok k ∧ t k = 2) v10 x.f3.f4
 K_len := fun h => k41.K_len h
 K_one := fun h => k41.K_one h
 K_below := fun hb h => k41.K_below hb h
 K_of_M := by
  rintro w base ok x cs ⟨v2, v5, v10, t, rfl, h2, h5, h10⟩
  obtain ⟨A2, c2, rfl, l2, g2⟩ := Kd.R_reads h2
  obtain ⟨A5, c5, rfl, l5, g5⟩ := Kd.R_reads (Kd.S_R h5)
  obtain ⟨A10, c10, rfl, l10, g10⟩ := Kd.R_reads h10
  exact k41_mk w x l2 g2 l5 g5 l10 g10
 M_mono := by
  rintro w base ok ok' x cs hok ⟨v2, v5, v10, t, rfl, h2, h5, h10⟩
  exact ⟨v2, v5, v10, t, rfl, Kd.R_mono h2 (fun k hk => ⟨hok k hk.1, hk.2⟩), Kd.S_mono h5 (fun k hk => ⟨hok k hk.1, hk.2⟩), Kd.R_mono h10 (fun k hk => ⟨hok k hk.1, hk.2⟩)⟩
 M_bound := by
  rintro w base ok x cs ⟨v2, v5, v10, t, rfl, h2, h5, h10⟩
  refine ⟨v2, v5, v10, t, rfl, Kd.R_mono (Kd.R_bound h2) ?_, Kd.S_mono (Kd.S_bound h5) ?_, Kd.R_mono (Kd.R_bound h10) ?_⟩
  ·rintro k ⟨⟨h1, h2⟩, h3, h4, q, hq, hc⟩
   refine ⟨⟨h1, h3, h4, q, ?_, hc⟩, h2⟩
   rcases List.mem_cons.1 hq with rfl | hq
   ·simp
   ·exact absurd hq (by simp [Kd.int, Kd.scalar])
  ·rintro k ⟨⟨h1, h2⟩, h3, h4, q, hq, hc⟩
   refine ⟨⟨h1, h3, h4, q, ?_, hc⟩, h2⟩
   rcases List.mem_cons.1 hq with rfl | hq
   ·simp
   ·simp [hq]
  ·rintro k ⟨⟨h1, h2⟩, h3, h4, q, hq, hc⟩
   refine ⟨⟨h1, h3, h4, q, ?_, hc⟩, h2⟩
   rcases List.mem_cons.1 hq with rfl | hq
   ·simp
   ·exact absurd hq (by simp [Kd.int, Kd.scalar])
 M_move := by
  rintro w w1 base ok x cs hm ⟨v2, v5, v10, t, rfl, h2, h5, h10⟩
  exact ⟨v2, v5, v10, t, rfl, Kd.R_move h2 (fun k hk => hm k hk.1), Kd.S_move h5 (fun k hk => hm k hk.1), Kd.R_move h10 (fun k hk => hm k hk.1)⟩
 M_lower := by
  rintro w base base' ok x cs hb ⟨v2, v5, v10, t, rfl, h2, h5, h10⟩
  exact ⟨v2, v5, v10, t, rfl, Kd.R_lower h2 hb, Kd.S_lower h5 hb, Kd.R_lower h10 hb⟩
theorem sB_of {w : World} {base : Nat} {ok ok2 ok5 ok10 : Nat → Prop} {x : S41} {v2 v5 v10 : Value} (h2 : (Kd.int .u16).R 44 w base ok2 v2 x.f1.f1) (h5 : Kd.S k49 49 w base ok5 v5 x.f2) (h10 : (Kd.int .i64).R 3 w base ok10 v10 x.f3.f4)
  (k2 : ∀ k, ok2 k → ok k) (k5 : ∀ k, ok5 k → ok k) (k10 : ∀ k, ok10 k → ok k) (d1 : ∀ k, ok2 k → ¬ ok5 k) (d2 : ∀ k, ok2 k → ¬ ok10 k) (d3 : ∀ k, ok5 k → ¬ ok10 k) : sB.M w base ok x [.bool x.f0, .int .i64 x.f1.f0, v2, .bool x.f1.f2, .bool x.f1.f3, v5, .int .i64 x.f3.f0, .int .i64 x.f3.f1, .int .i64 x.f3.f2, .int .i64 x.f3.f3, v10, .int .i64 x.f3.f5, .int .i64 x.f3.f6, .int .i64 x.f3.f7] := by
 classical
 refine ⟨v2, v5, v10, fun k => if ok2 k then 0 else if ok5 k then 1 else 2, rfl, Kd.R_mono h2 (fun k hk => ⟨k2 k hk, if_pos hk⟩), Kd.S_mono h5 (fun k hk => ⟨k5 k hk, ?_⟩), Kd.R_mono h10 (fun k hk => ⟨k10 k hk, ?_⟩)⟩
 ·show (if ok2 k then 0 else if ok5 k then 1 else 2) = 1
  rw [if_neg (fun h => d1 k h hk), if_pos hk]
 ·show (if ok2 k then 0 else if ok5 k then 1 else 2) = 2
  rw [if_neg (fun h => d2 k h hk), if_neg (fun h => d3 k h hk)]
def sF : Kd S27 where
 sz := 3
 E := 41 :: sB.E
 K := k27.K
 M := fun w base ok x cs => ∃ v2 : Value, cs = [.int .i64 x.f0, .int .i64 x.f1, v2] ∧ Kd.S sB 41 w base ok v2 x.f2
 K_len := fun h => k27.K_len h
 K_one := fun h => k27.K_one h
 K_below := fun hb h => k27.K_below hb h
 K_of_M := by
  rintro w base ok x cs ⟨v2, rfl, h2⟩
  obtain ⟨A2, c2, rfl, l2, g2⟩ := Kd.R_reads (Kd.S_R h2)
  exact k27_mk w x l2 g2
 M_mono := by
  rintro w base ok ok' x cs hok ⟨v2, rfl, h2⟩
  exact ⟨v2, rfl, Kd.S_mono h2 hok⟩
 M_bound := by
  rintro w base ok x cs ⟨v2, rfl, h2⟩
  exact ⟨v2, rfl, Kd.S_bound h2⟩
 M_move := by
  rintro w w1 base ok x cs hm ⟨v2, rfl, h2⟩
  exact ⟨v2, rfl, Kd.S_move h2 hm⟩
 M_lower := by
  rintro w base base' ok x cs hb ⟨v2, rfl, h2⟩
  exact ⟨v2, rfl, Kd.S_lower h2 hb⟩
def SM (w : World) (base : Nat) (ok : Nat → Prop) (v : Value) (m : List S27) : Prop := Kd.S sF 27 w base ok v m
theorem SM_reads {w : World} {base : Nat} {ok : Nat → Prop} {v : Value} {m : List S27} (h : SM w base ok v m) : ∃ A c, v = .slice A m.length c ∧ m.length ≤ c ∧ Kd.C k27 w A m.length m := Kd.S_reads (d := sF) h
end Go.Proofs.Ytbfialebaoeicaa.X
namespace Go.Proofs.Ytbfialebaoeicaa.X
open Go.Shelf Go.RowKit Go.Proofs.YtbfialebaoeicaaW.PrintWords Go.Proofs.YtbfialebaoeicaaW.PrintLast Go.Proofs.YtbfialebaoeicaaW.PrintMore
set_option linter.all false
theorem infoI : (Try.prog.info? 49).map (fun i => (i.zero, i.size, i.bytes)) = some (some (.agg #[(.int .i64 0), (.int .i64 0), (.int .i64 0), (.int .i64 0), (.int .u16 0), (.int .i64 0), (.slice none 0 0)]), 7, 72) := by kernel_rfl
theorem infoB : (Try.prog.info? 41).map (fun i => (i.zero, i.size, i.bytes)) = some (some (.agg #[(.bool false), (.int .i64 0), (.slice none 0 0), (.bool false), (.bool false), (.slice none 0 0), (.int .i64 0), (.int .i64 0), (.int .i64 0), (.int .i64 0), (.slice none 0 0), (.int .i64 0), (.int .i64 0), (.int .i64 0)]), 14, 152) := by kernel_rfl
theorem infoF : (Try.prog.info? 27).map (fun i => (i.zero, i.size, i.bytes)) = some (some (.agg #[(.int .i64 0), (.int .i64 0), (.slice none 0 0)]), 3, 40) := by kernel_rfl
theorem sl_Clone_I (w0 : World) (A0 : Option Addr) (c0 : Nat) (l0 : List S49) (w : World) (hr0 : Kd.C (asRead k49 w0) w A0 l0.length l0) (hc0 : l0.length ≤ c0) (hl : l0.length < 1000000) :
  Calls Try.prog 62 #[.slice A0 l0.length c0] w fun e w' => ∃ v0_ : Value, e = .returned (v0_) ∧ Kd.R (asRead k49 w0) 49 w' w.heap.size (fun _ => True) v0_ l0 ∧ Below w.heap.size w w' := by
 have HR0 := Aside0.mk hr0
 have HL := Aside0.mk hl
 clear hr0 hl
 cases A0 with
 | none =>
  obtain rfl : l0 = [] := by
   rcases Nat.eq_zero_or_pos l0.length with h | h
   ·exact List.eq_nil_of_length_eq_zero h
   ·obtain ⟨ad, e, _⟩ := HR0.out.2.2 h
    cases e
  have he : ∀ w : World, (binOp .eql 36 (.slice none 0 c0) (.slice none 0 0)).run Try.prog w = .ok (.bool true) w := fun w => Lib.run_eql_slice_nil (P := Try.prog) w 36 49 none 0 c0 0 0 Try.underlying36
  go_enter Try.func62, Try.ntmps62
  go_wp2
  go_ret
  exact ⟨_, rfl, Kd.R_nil _ _ _ _ _, Below.refl _ _⟩
 | some ad =>
  have he : ∀ w : World, (binOp .eql 36 (.slice (some ad) l0.length c0) (.slice none 0 0)).run Try.prog w = .ok (.bool false) w := fun w => Lib.run_eql_slice_nil (P := Try.prog) w 36 49 (some ad) l0.length c0 0 0 Try.underlying36
  go_enter Try.func62, Try.ntmps62
  go_wp2_with (first | ((with_reducible refine gate_dst (N := 5) rfl ?_); refine Kd.R_lit (asRead k49 w0) _ 49 ?hg (N := 5) ?hd (xs := ([] : List S49)) (inner := []) (ok := fun _ => True) (okp := fun _ => True) ?hr ?hp (fun _ hk => hk) trivial (Below.refl _ _) (Nat.le_refl _) (by simp) ?_; (case hd => rfl); (case hg => rfl); (case hr => first | (go_simp; done) | (go_simp; rfl)); (case hp => exact (Reps.none _ _)); intro v5 w5 ho5 hb5 hg_ hnew_; clear hg_ hnew_; have HO5 := Aside0.mk ho5; have HB5 := Aside0.mk hb5; clear ho5 hb5) | ((with_reducible refine gate_builtin (b := .append) (xs := #[.tmp 5, .tmp 6]) rfl ?_); at_builtin; refine Kd.R_append_rows (asRead k49 w0) (w0 := w) w.heap.size rfl (.tmp 5) (.tmp 6) 36 49 _ _ rfl Try.underlying36 infoI rfl (Nat.succ_pos _) (by omega) v5 ([] : List S49) l0 _ _ _ (fun _ => True) (fun _ => False) rfl rfl ?aO ?aR (fun _ _ h => h) (fun _ h => h.elim) ?aF ?aB ?aS ?aL ?_; (case aR => exact Kd.C_below HR0.out HB5.out); (case aB => exact HB5.out); (case aF => exact (fun _ _ => trivial)); (case aO => exact HO5.out); (case aS => exact (below_size HB5.out)); (case aL => have := HL.out; simp; omega); intro v7 w7 ho hb hg hat; rw [List.nil_append] at ho; have HO7 := Aside0.mk ho; have HB7 := Aside0.mk hb; clear ho hb hg hat))
  go_ret
  exact ⟨_, rfl, HO7.out, HB7.out⟩
theorem cl_I (w0 : World) (A0 : Option Addr) (c0 : Nat) (l0 : List S49) (w : World) (h : Kd.C k49 w0 A0 l0.length l0) (hb : Below w0.heap.size w0 w) (hc : l0.length ≤ c0) (hl : l0.length ≤ 999999) :
  Calls Try.prog 62 #[.slice A0 l0.length c0] w fun e w' => (∃ A c inner, e = .returned (.slice A l0.length c) ∧ l0.length ≤ c ∧ PL k49 49 w0 w' w.heap.size w.heap.size w'.heap.size (.slice A l0.length c) l0 0 0 inner) ∧ Below w.heap.size w w' := by
 refine (sl_Clone_I w0 A0 c0 l0 w (C_asRead (d := k49) h hb) hc (by omega)).mono ?_
 rintro e w' ⟨v, rfl, hr, hb'⟩
 obtain ⟨A, c, rfl, hlc, _⟩ := Kd.R_reads hr
 obtain ⟨inner, hp⟩ := PL_zero (d := k49) hr _ (Nat.le_refl _)
 exact ⟨⟨A, c, inner, rfl, hlc, hp⟩, hb'⟩
theorem sl_Clone_B (w0 : World) (A0 : Option Addr) (c0 : Nat) (l0 : List S41) (w : World) (hr0 : Kd.C (asRead sB w0) w A0 l0.length l0) (hc0 : l0.length ≤ c0) (hl : l0.length < 1000000) :
  Calls Try.prog 60 #[.slice A0 l0.length c0] w fun e w' => ∃ v0_ : Value, e = .returned (v0_) ∧ Kd.R (asRead sB w0) 41 w' w.heap.size (fun _ => True) v0_ l0 ∧ Below w.heap.size w w' := by
 have HR0 := Aside0.mk hr0
 have HL := Aside0.mk hl
 clear hr0 hl
 cases A0 with
 | none =>
  obtain rfl : l0 = [] := by
   rcases Nat.eq_zero_or_pos l0.length with h | h
   ·exact List.eq_nil_of_length_eq_zero h
   ·obtain ⟨ad, e, _⟩ := HR0.out.2.2 h
    cases e
  have he : ∀ w : World, (binOp .eql 25 (.slice none 0 c0) (.slice none 0 0)).run Try.prog w = .ok (.bool true) w := fun w => Lib.run_eql_slice_nil (P := Try.prog) w 25 41 none 0 c0 0 0 Try.underlying25
  go_enter Try.func60, Try.ntmps60
  go_wp2
  go_ret
  exact ⟨_, rfl, Kd.R_nil _ _ _ _ _, Below.refl _ _⟩
 | some ad =>
  have he : ∀ w : World, (binOp .eql 25 (.slice (some ad) l0.length c0) (.slice none 0 0)).run Try.prog w = .ok (.bool false) w := fun w => Lib.run_eql_slice_nil (P := Try.prog) w 25 41 (some ad) l0.length c0 0 0 Try.underlying25
  go_enter Try.func60, Try.ntmps60
  go_wp2_with (first | ((with_reducible refine gate_dst (N := 5) rfl ?_); refine Kd.R_lit (asRead sB w0) _ 41 ?hg (N := 5) ?hd (xs := ([] : List S41)) (inner := []) (ok := fun _ => True) (okp := fun _ => True) ?hr ?hp (fun _ hk => hk) trivial (Below.refl _ _) (Nat.le_refl _) (by simp) ?_; (case hd => rfl); (case hg => rfl); (case hr => first | (go_simp; done) | (go_simp; rfl)); (case hp => exact (Reps.none _ _)); intro v5 w5 ho5 hb5 hg_ hnew_; clear hg_ hnew_; have HO5 := Aside0.mk ho5; have HB5 := Aside0.mk hb5; clear ho5 hb5) | ((with_reducible refine gate_builtin (b := .append) (xs := #[.tmp 5, .tmp 6]) rfl ?_); at_builtin; refine Kd.R_append_rows (asRead sB w0) (w0 := w) w.heap.size rfl (.tmp 5) (.tmp 6) 25 41 _ _ rfl Try.underlying25 infoB rfl (Nat.succ_pos _) (by omega) v5 ([] : List S41) l0 _ _ _ (fun _ => True) (fun _ => False) rfl rfl ?aO ?aR (fun _ _ h => h) (fun _ h => h.elim) ?aF ?aB ?aS ?aL ?_; (case aR => exact Kd.C_below HR0.out HB5.out); (case aB => exact HB5.out); (case aF => exact (fun _ _ => trivial)); (case aO => exact HO5.out); (case aS => exact (below_size HB5.out)); (case aL => have := HL.out; simp; omega); intro v7 w7 ho hb hg hat; rw [List.nil_append] at ho; have HO7 := Aside0.mk ho; have HB7 := Aside0.mk hb; clear ho hb hg hat))
  go_ret
  exact ⟨_, rfl, HO7.out, HB7.out⟩
theorem cl_B (w0 : World) (A0 : Option Addr) (c0 : Nat) (l0 : List S41) (w : World) (h : Kd.C k41 w0 A0 l0.length l0) (hb : Below w0.heap.size w0 w) (hc : l0.length ≤ c0) (hl : l0.length ≤ 999999) :
  Calls Try.prog 60 #[.slice A0 l0.length c0] w fun e w' => (∃ A c inner, e = .returned (.slice A l0.length c) ∧ l0.length ≤ c ∧ PL sB 41 w0 w' w.heap.size w.heap.size w'.heap.size (.slice A l0.length c) l0 0 0 inner) ∧ Below w.heap.size w w' := by
 refine (sl_Clone_B w0 A0 c0 l0 w (C_asRead (d := sB) h hb) hc (by omega)).mono ?_
 rintro e w' ⟨v, rfl, hr, hb'⟩
 obtain ⟨A, c, rfl, hlc, _⟩ := Kd.R_reads hr
 obtain ⟨inner, hp⟩ := PL_zero (d := sB) hr _ (Nat.le_refl _)
 exact ⟨⟨A, c, inner, rfl, hlc, hp⟩, hb'⟩
theorem sl_Clone_F (w0 : World) (A0 : Option Addr) (c0 : Nat) (l0 : List S27) (w : World) (hr0 : Kd.C (asRead sF w0) w A0 l0.length l0) (hc0 : l0.length ≤ c0) (hl : l0.length < 1000000) :
  Calls Try.prog 59 #[.slice A0 l0.length c0] w fun e w' => ∃ v0_ : Value, e = .returned (v0_) ∧ Kd.R (asRead sF w0) 27 w' w.heap.size (fun _ => True) v0_ l0 ∧ Below w.heap.size w w' := by
 have HR0 := Aside0.mk hr0
 have HL := Aside0.mk hl
 clear hr0 hl
 cases A0 with
 | none =>
  obtain rfl : l0 = [] := by
   rcases Nat.eq_zero_or_pos l0.length with h | h
   ·exact List.eq_nil_of_length_eq_zero h
   ·obtain ⟨ad, e, _⟩ := HR0.out.2.2 h
    cases e
  have he : ∀ w : World, (binOp .eql 22 (.slice none 0 c0) (.slice none 0 0)).run Try.prog w = .ok (.bool true) w := fun w => Lib.run_eql_slice_nil (P := Try.prog) w 22 27 none 0 c0 0 0 Try.underlying22
  go_enter Try.func59, Try.ntmps59
  go_wp2
  go_ret
  exact ⟨_, rfl, Kd.R_nil _ _ _ _ _, Below.refl _ _⟩
 | some ad =>
  have he : ∀ w : World, (binOp .eql 22 (.slice (some ad) l0.length c0) (.slice none 0 0)).run Try.prog w = .ok (.bool false) w := fun w => Lib.run_eql_slice_nil (P := Try.prog) w 22 27 (some ad) l0.length c0 0 0 Try.underlying22
  go_enter Try.func59, Try.ntmps59
  go_wp2_with (first | ((with_reducible refine gate_dst (N := 5) rfl ?_); refine Kd.R_lit (asRead sF w0) _ 27 ?hg (N := 5) ?hd (xs := ([] : List S27)) (inner := []) (ok := fun _ => True) (okp := fun _ => True) ?hr ?hp (fun _ hk => hk) trivial (Below.refl _ _) (Nat.le_refl _) (by simp) ?_; (case hd => rfl); (case hg => rfl); (case hr => first | (go_simp; done) | (go_simp; rfl)); (case hp => exact (Reps.none _ _)); intro v5 w5 ho5 hb5 hg_ hnew_; clear hg_ hnew_; have HO5 := Aside0.mk ho5; have HB5 := Aside0.mk hb5; clear ho5 hb5) | ((with_reducible refine gate_builtin (b := .append) (xs := #[.tmp 5, .tmp 6]) rfl ?_); at_builtin; refine Kd.R_append_rows (asRead sF w0) (w0 := w) w.heap.size rfl (.tmp 5) (.tmp 6) 22 27 _ _ rfl Try.underlying22 infoF rfl (Nat.succ_pos _) (by omega) v5 ([] : List S27) l0 _ _ _ (fun _ => True) (fun _ => False) rfl rfl ?aO ?aR (fun _ _ h => h) (fun _ h => h.elim) ?aF ?aB ?aS ?aL ?_; (case aR => exact Kd.C_below HR0.out HB5.out); (case aB => exact HB5.out); (case aF => exact (fun _ _ => trivial)); (case aO => exact HO5.out); (case aS => exact (below_size HB5.out)); (case aL => have := HL.out; simp; omega); intro v7 w7 ho hb hg hat; rw [List.nil_append] at ho; have HO7 := Aside0.mk ho; have HB7 := Aside0.mk hb; clear ho hb hg hat))
  go_ret
  exact ⟨_, rfl, HO7.out, HB7.out⟩
theorem cl_F (w0 : World) (A0 : Option Addr) (c0 : Nat) (l0 : List S27) (w : World) (h : Kd.C k27 w0 A0 l0.length l0) (hb : Below w0.heap.size w0 w) (hc : l0.length ≤ c0) (hl : l0.length ≤ 999999) :
  Calls Try.prog 59 #[.slice A0 l0.length c0] w fun e w' => (∃ A c inner, e = .returned (.slice A l0.length c) ∧ l0.length ≤ c ∧ PL sF 27 w0 w' w.heap.size w.heap.size w'.heap.size (.slice A l0.length c) l0 0 0 inner) ∧ Below w.heap.size w w' := by
 refine (sl_Clone_F w0 A0 c0 l0 w (C_asRead (d := sF) h hb) hc (by omega)).mono ?_
 rintro e w' ⟨v, rfl, hr, hb'⟩
 obtain ⟨A, c, rfl, hlc, _⟩ := Kd.R_reads hr
 obtain ⟨inner, hp⟩ := PL_zero (d := sF) hr _ (Nat.le_refl _)
 exact ⟨⟨A, c, inner, rfl, hlc, hp⟩, hb'⟩
end Go.Proofs.Ytbfialebaoeicaa.X
namespace Go.Proofs.Ytbfialebaoeicaa.X
open Go.RowKit Go.Proofs.YtbfialebaoeicaaW.PrintWords Go.Proofs.YtbfialebaoeicaaW.PrintLast Go.Proofs.YtbfialebaoeicaaW.PrintMore
set_option linter.all false
def win (a b : Int) : Bool := decide (0 ≤ a) && decide (a < b)
def argsR (m : List S27) (R n : Int) (l : List Int) : Bool := win n m.length && decide ((l.length : Int) = (rd_T27 m n).f0) && l.all (win · R)
def plainR (k f : Int) (l : List Int) : Bool := (k == 0) && (f == 0) && ((l.length : Int) == 0)
def insR (m : List S27) (R : Int) (x : S49) : Bool :=
 bif (x.f0 == 1) then win x.f1 R && (x.f2 == 0) && (x.f3 == 0) && (x.f5 == 0) && ((x.f6.length : Int) == 0)
 else bif (x.f0 == 2) || (x.f0 == 9) then win x.f1 R && win x.f2 R && (x.f3 == 0) && plainR x.f4 x.f5 x.f6
 else bif (x.f0 == 3) || (x.f0 == 4) || (x.f0 == 5) || (x.f0 == 6) || (x.f0 == 7) || (x.f0 == 8) then win x.f1 R && win x.f2 R && win x.f3 R && plainR x.f4 x.f5 x.f6
 else bif (x.f0 == 10) then (x.f1 == 0) && win x.f2 R && win x.f3 R && plainR x.f4 x.f5 x.f6
 else bif (x.f0 == 11) then win x.f1 R && (x.f2 == 0) && (x.f3 == 0) && (x.f4 == 0) && argsR m R x.f5 x.f6
 else bif (x.f0 == 12) then (x.f1 == 0) && win x.f2 R && (x.f3 == 0) && plainR x.f4 x.f5 x.f6
 else bif (x.f0 == 13) then win x.f1 R && (x.f2 == 0) && (x.f3 == 0) && plainR x.f4 x.f5 x.f6
 else false
def goalR (l : List S41) (n : Int) : Bool := win n l.length && !(rd_T41 l n).f0
def landR (l : List S41) (n : Int) : Bool := win n l.length && (rd_T41 l n).f0
def restR (x : S39) : Bool := (x.f2 == 0) && (x.f3 == 0) && ((x.f4.length : Int) == 0) && (x.f7 == 0)
def endR (m : List S27) (f : S27) (x : S39) : Bool :=
 bif (x.f0 == 1) || (x.f0 == 5) then win x.f1 f.f1 && restR x && (x.f5 == 0) && (x.f6 == 0)
 else bif (x.f0 == 2) then (x.f1 == 0) && restR x && goalR f.f2 x.f5 && (x.f6 == 0)
 else bif (x.f0 == 3) then win x.f1 f.f1 && restR x && goalR f.f2 x.f5 && goalR f.f2 x.f6
 else bif (x.f0 == 4) then (x.f1 == 0) && win x.f2 f.f1 && argsR m f.f1 x.f3 x.f4 && goalR f.f2 x.f5 && (x.f6 == 0) && landR f.f2 x.f7
 else bif (x.f0 == 6) then (x.f1 == 0) && restR x && (x.f5 == 0) && (x.f6 == 0)
 else false
def padR (R : Int) (b : S41) : Bool :=
 if b.f0 = true then decide (b.f1.f1.length ≤ 8) && decide b.f1.f1.Nodup && win b.f1.f0 R && (decide (0 < b.f1.f1.length) || b.f1.f2 || b.f1.f3)
 else (b.f1.f0 == 0) && ((b.f1.f1.length : Int) == 0) && !b.f1.f2 && !b.f1.f3
def blockR (m : List S27) (f : S27) (b : S41) : Bool := decide (b.f2.length ≤ 64) && padR f.f1 b && endR m f b.f3 && b.f2.all (insR m f.f1)
def sizeR (f : S27) : Bool := decide (0 ≤ f.f0) && decide (f.f0 ≤ 8) && decide (f.f0 ≤ f.f1) && decide (f.f1 ≤ 256) && decide (1 ≤ f.f2.length) && decide (f.f2.length ≤ 64) && !(rd_T41 f.f2 0).f0
def funcR (m : List S27) (f : S27) : Bool := sizeR f && f.f2.all (blockR m f)
def rightR (m : List S27) : Bool := decide (1 ≤ m.length) && decide (m.length ≤ 16) && ((rd_T27 m 0).f0 == 0) && m.all (funcR m)
theorem all_step {α : Type} (l : List α) (z : α) (q : α → Bool) (x : Int) (h0 : 0 ≤ x) (h1 : x < (l.length : Int)) : (l.take (x + 1).toNat).all q = ((l.take x.toNat).all q && q (l.getD x.toNat z)) := by
 have e : (x + 1).toNat = x.toNat + 1 := by omega
 have hl : x.toNat < l.length := by omega
 rw [e, List.take_succ_eq_append_getElem hl, List.all_append, List.all_cons, List.all_nil, Bool.and_true, List.getD_eq_getElem?_getD, List.getElem?_eq_getElem hl]
 rfl
theorem all_end {α : Type} (l : List α) (q : α → Bool) (x : Int) (h1 : ¬ x < (l.length : Int)) : (l.take x.toNat).all q = l.all q := by rw [List.take_of_length_le (by omega)]
theorem all_no {α : Type} (l : List α) (z : α) (q : α → Bool) (x : Int) (h0 : 0 ≤ x) (h1 : x < (l.length : Int)) (h : q (l.getD x.toNat z) = false) : l.all q = false := by
 have hl : x.toNat < l.length := by omega
 rw [List.getD_eq_getElem?_getD, List.getElem?_eq_getElem hl] at h
 exact Bool.eq_false_iff.2 fun e => by
  have := List.all_eq_true.1 e _ (List.getElem_mem hl)
  rw [show q l[x.toNat] = false from h] at this
  cases this
theorem wrap_in (n : Int) (h0 : -9223372036854775808 ≤ n) (h1 : n ≤ 9223372036854775807) : wrap64 n = n := by unfold wrap64; omega
theorem ret_b {a b : Bool} (h : a = b) : Ending.returned (.bool a) = .returned (.bool b) := by rw [h]
theorem win_at {n : Int} {k : Nat} (h : win n k = true) : 0 ≤ n ∧ n < (k : Int) := by simpa [win] using h
end Go.Proofs.Ytbfialebaoeicaa.X
