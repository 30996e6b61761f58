/- Part 5 of the proof of the statement ShapeRight: the words of the walks, the walks through the functions that it reaches, and the plain laws of what they compute. -/
import Derived.Test.YtbfialebaoeicaaMShapeRight3
import Derived.RegionTactic
import Derived.ChangeAlike
import Derived.Deep.QuietTactic
import Derived.BigQuiet
namespace Go.Proofs.Ytbfialebaoeicaa.X
open Go.RowKit Go.Proofs.YtbfialebaoeicaaW.PrintWords Go.Proofs.YtbfialebaoeicaaW.PrintLast Go.Proofs.YtbfialebaoeicaaW.PrintMore
set_option linter.all false
set_option maxHeartbeats 16000000 in
set_option maxRecDepth 100000 in
theorem end_c (m : List S27) (A0 : Option Addr) (c0 : Nat) (f : S27) (A1 : Option Addr) (c1 : Nat) (x : S39) (A2 : Option Addr) (c2 : Nat) (w : World) (hm : Kd.C k27 w A0 m.length m) (hbl : Kd.C k41 w A1 f.f2.length f.f2) (hpos : 0 < f.f2.length) (hl : Kd.C (Kd.int .i64) w A2 x.f4.length x.f4) (hb : x.f4.length ≤ 1000000) :
  Calls Try.prog 56 #[.agg #[.slice A0 m.length c0], .agg #[.int .i64 f.f0, .int .i64 f.f1, .slice A1 f.f2.length c1], .agg #[.int .i64 x.f0, .int .i64 x.f1, .int .i64 x.f2, .int .i64 x.f3, .slice A2 x.f4.length c2, .int .i64 x.f5, .int .i64 x.f6, .int .i64 x.f7]] w fun e w' => e = .returned (.bool (endR m f x)) ∧ Below w.heap.size w w' := by
 have HM := Aside0.mk hm
 have HL := Aside0.mk hl
 have HN := Aside0.mk hb
 have HBL := Aside0.mk hbl
 clear hm hl hb hbl
 have hu24 := Try.underlying24
 have hu27 := Try.underlying27
 have hu39 := Try.underlying39
 obtain ⟨ad, _, _, _, _, _, _, e1, _⟩ := at_T41 HBL.out 0 (by omega) (by omega)
 subst e1
 clear hpos
 by_cases h4 : x.f0 = 4
 rotate_left
 ·have k4 : (x.f0 == 4) = false := beq_eq_false_iff_ne.2 h4
  clear h4
  go_enter Try.func56, Try.ntmps56
  go_wp2_with (first | ((with_reducible refine gate_dst (N := 3) rfl ?_); refine box_event ?hg (N := 3) ?hd (cs := #[.slice A0 m.length c0]) (t := 24) ?hr ?_; (case hd => rfl); (case hg => rfl); (case hr => first | (go_simp; done) | (go_simp; rfl)); intro g1 hg w1 hbox hb; have HB := Aside0.mk hb; have X1 := Aside0.mk hbox; clear hbox hb hg) | ((with_reducible refine gate_dst (N := 4) rfl ?_); refine box_event ?hg (N := 4) ?hd (cs := #[.int .i64 f.f0, .int .i64 f.f1, .slice (some ad) f.f2.length c1]) (t := 27) ?hr ?_; (case hd => rfl); (case hg => rfl); (case hr => first | (go_simp; done) | (go_simp; rfl)); intro g2 hg w2 hbox hb; replace HB := Aside0.mk (below_step HB.out hb); replace X1 := Aside0.mk (blk_below X1.out hb); have X2 := Aside0.mk hbox; clear hbox hb hg) | ((with_reducible refine gate_dst (N := 5) rfl ?_); refine box_event ?hg (N := 5) ?hd (cs := #[.int .i64 x.f0, .int .i64 x.f1, .int .i64 x.f2, .int .i64 x.f3, .slice A2 x.f4.length c2, .int .i64 x.f5, .int .i64 x.f6, .int .i64 x.f7]) (t := 39) ?hr ?_; (case hd => rfl); (case hg => rfl); (case hr => first | (go_simp; done) | (go_simp; rfl)); intro g3 hg w3 hbox hb; replace HB := Aside0.mk (below_step HB.out hb); replace X1 := Aside0.mk (blk_below X1.out hb); replace X2 := Aside0.mk (blk_below X2.out hb); have X3 := Aside0.mk hbox; clear hbox hb hg; have m0 := (blk_cell X1.out 0).trans rfl; obtain ⟨i0, i1, i2⟩ := cl3 X2.out; obtain ⟨h0, h1, h2, h3, h4, h5, h6, h7⟩ := cl8 X3.out))
  go_quiet ((go_at_call 88; exact Calls.quiet_of_same (win_c _ _ _)))
  go_upto_region 2 with (fail)
  go_cut [9] (fun v9 wc => v9 = .bool (restR x) ∧ Aside0 (Below w.heap.size w wc) ∧ Aside0 (wc.heap[g1]? = some (.cells #[.slice A0 m.length c0] 24 (0, 0))) ∧ Aside0 (wc.heap[g2]? = some (.cells #[.int .i64 f.f0, .int .i64 f.f1, .slice (some ad) f.f2.length c1] 27 (0, 0))) ∧ Aside0 (wc.heap[g3]? = some (.cells #[.int .i64 x.f0, .int .i64 x.f1, .int .i64 x.f2, .int .i64 x.f3, .slice A2 x.f4.length c2, .int .i64 x.f5, .int .i64 x.f6, .int .i64 x.f7] 39 (0, 0))))
  case first => cases e2 : (x.f2 == 0) <;> cases e3 : (x.f3 == 0) <;> cases e4 : ((x.f4.length : Int) == 0) <;> cases e7 : (x.f7 == 0) <;> (go_wp2; go_meet; exact ⟨congrArg Value.bool (by unfold restR; rw [e2, e3, e4, e7]; rfl), ⟨pw_below_drewN HB.out _⟩, ⟨blk_drewN X1.out _⟩, ⟨blk_drewN X2.out _⟩, ⟨blk_drewN X3.out _⟩⟩)
  case rest =>
   clear HB X1 X2 X3 m0 i0 i1 i2 h0 h1 h2 h3 h4 h5 h6 h7
   obtain ⟨rfl, HB, X1, X2, X3⟩ := hcut
   have m0 := (blk_cell X1.out 0).trans rfl
   obtain ⟨i0, i1, i2⟩ := cl3 X2.out
   obtain ⟨h0, h1, h2, h3, h4, h5, h6, h7⟩ := cl8 X3.out
   go_wp2_with (first | (go_at_call 88; (with_reducible refine (win_c _ _ _).mono ?_); rintro e w' ⟨rfl, rfl⟩) | (go_at_call 89; (with_reducible refine (goal_c f (some ad) c1 _ _ (Kd.C_below HBL.out HB.out)).mono ?_); rintro e w6 ⟨rfl, hb⟩; replace HB := Aside0.mk (below_step HB.out hb); replace X1 := Aside0.mk (blk_below X1.out hb); replace X2 := Aside0.mk (blk_below X2.out hb); replace X3 := Aside0.mk (blk_below X3.out hb); clear hb; clear m0 i0 i1 i2 h0 h1 h2 h3 h4 h5 h6 h7; have m0 := (blk_cell X1.out 0).trans rfl; obtain ⟨i0, i1, i2⟩ := cl3 X2.out; obtain ⟨h0, h1, h2, h3, h4, h5, h6, h7⟩ := cl8 X3.out) | (go_at_call 90; (with_reducible refine (args_c m A0 c0 f (some ad) c1 x.f3 A2 c2 x.f4 _ (Kd.C_below HM.out HB.out) (Kd.C_below HL.out HB.out) HN.out).mono ?_); rintro e w6 ⟨rfl, hb⟩; replace HB := Aside0.mk (below_step HB.out hb); replace X1 := Aside0.mk (blk_below X1.out hb); replace X2 := Aside0.mk (blk_below X2.out hb); replace X3 := Aside0.mk (blk_below X3.out hb); clear hb; clear m0 i0 i1 i2 h0 h1 h2 h3 h4 h5 h6 h7; have m0 := (blk_cell X1.out 0).trans rfl; obtain ⟨i0, i1, i2⟩ := cl3 X2.out; obtain ⟨h0, h1, h2, h3, h4, h5, h6, h7⟩ := cl8 X3.out))
   all_goals (go_ret; exact ⟨by simp [endR, landR, *], HB.out⟩)
 have k1 : (x.f0 == 1) = false := by rw [h4]; rfl
 have k2 : (x.f0 == 2) = false := by rw [h4]; rfl
 have k3 : (x.f0 == 3) = false := by rw [h4]; rfl
 have k5 : (x.f0 == 5) = false := by rw [h4]; rfl
 have k4 : (x.f0 == 4) = true := by rw [h4]; rfl
 clear h4
 by_cases hw : win x.f7 f.f2.length = true
 rotate_left
 ·have hw := Bool.eq_false_iff.2 hw
  go_enter Try.func56, Try.ntmps56
  go_wp2_with (first | ((with_reducible refine gate_dst (N := 3) rfl ?_); refine box_event ?hg (N := 3) ?hd (cs := #[.slice A0 m.length c0]) (t := 24) ?hr ?_; (case hd => rfl); (case hg => rfl); (case hr => first | (go_simp; done) | (go_simp; rfl)); intro g1 hg w1 hbox hb; have HB := Aside0.mk hb; have X1 := Aside0.mk hbox; clear hbox hb hg) | ((with_reducible refine gate_dst (N := 4) rfl ?_); refine box_event ?hg (N := 4) ?hd (cs := #[.int .i64 f.f0, .int .i64 f.f1, .slice (some ad) f.f2.length c1]) (t := 27) ?hr ?_; (case hd => rfl); (case hg => rfl); (case hr => first | (go_simp; done) | (go_simp; rfl)); intro g2 hg w2 hbox hb; replace HB := Aside0.mk (below_step HB.out hb); replace X1 := Aside0.mk (blk_below X1.out hb); have X2 := Aside0.mk hbox; clear hbox hb hg) | ((with_reducible refine gate_dst (N := 5) rfl ?_); refine box_event ?hg (N := 5) ?hd (cs := #[.int .i64 x.f0, .int .i64 x.f1, .int .i64 x.f2, .int .i64 x.f3, .slice A2 x.f4.length c2, .int .i64 x.f5, .int .i64 x.f6, .int .i64 x.f7]) (t := 39) ?hr ?_; (case hd => rfl); (case hg => rfl); (case hr => first | (go_simp; done) | (go_simp; rfl)); intro g3 hg w3 hbox hb; replace HB := Aside0.mk (below_step HB.out hb); replace X1 := Aside0.mk (blk_below X1.out hb); replace X2 := Aside0.mk (blk_below X2.out hb); have X3 := Aside0.mk hbox; clear hbox hb hg; have m0 := (blk_cell X1.out 0).trans rfl; obtain ⟨i0, i1, i2⟩ := cl3 X2.out; obtain ⟨h0, h1, h2, h3, h4, h5, h6, h7⟩ := cl8 X3.out))
  go_quiet ((go_at_call 88; exact Calls.quiet_of_same (win_c _ _ _)))
  go_upto_region 2 with (fail)
  go_cut [9] (fun v9 wc => v9 = .bool (restR x) ∧ Aside0 (Below w.heap.size w wc) ∧ Aside0 (wc.heap[g1]? = some (.cells #[.slice A0 m.length c0] 24 (0, 0))) ∧ Aside0 (wc.heap[g2]? = some (.cells #[.int .i64 f.f0, .int .i64 f.f1, .slice (some ad) f.f2.length c1] 27 (0, 0))) ∧ Aside0 (wc.heap[g3]? = some (.cells #[.int .i64 x.f0, .int .i64 x.f1, .int .i64 x.f2, .int .i64 x.f3, .slice A2 x.f4.length c2, .int .i64 x.f5, .int .i64 x.f6, .int .i64 x.f7] 39 (0, 0))))
  case first => cases e2 : (x.f2 == 0) <;> cases e3 : (x.f3 == 0) <;> cases e4 : ((x.f4.length : Int) == 0) <;> cases e7 : (x.f7 == 0) <;> (go_wp2; go_meet; exact ⟨congrArg Value.bool (by unfold restR; rw [e2, e3, e4, e7]; rfl), ⟨pw_below_drewN HB.out _⟩, ⟨blk_drewN X1.out _⟩, ⟨blk_drewN X2.out _⟩, ⟨blk_drewN X3.out _⟩⟩)
  case rest =>
   clear HB X1 X2 X3 m0 i0 i1 i2 h0 h1 h2 h3 h4 h5 h6 h7
   obtain ⟨rfl, HB, X1, X2, X3⟩ := hcut
   have m0 := (blk_cell X1.out 0).trans rfl
   obtain ⟨i0, i1, i2⟩ := cl3 X2.out
   obtain ⟨h0, h1, h2, h3, h4, h5, h6, h7⟩ := cl8 X3.out
   go_wp2_with (first | (go_at_call 88; (with_reducible refine (win_c _ _ _).mono ?_); rintro e w' ⟨rfl, rfl⟩) | (go_at_call 89; (with_reducible refine (goal_c f (some ad) c1 _ _ (Kd.C_below HBL.out HB.out)).mono ?_); rintro e w6 ⟨rfl, hb⟩; replace HB := Aside0.mk (below_step HB.out hb); replace X1 := Aside0.mk (blk_below X1.out hb); replace X2 := Aside0.mk (blk_below X2.out hb); replace X3 := Aside0.mk (blk_below X3.out hb); clear hb; clear m0 i0 i1 i2 h0 h1 h2 h3 h4 h5 h6 h7; have m0 := (blk_cell X1.out 0).trans rfl; obtain ⟨i0, i1, i2⟩ := cl3 X2.out; obtain ⟨h0, h1, h2, h3, h4, h5, h6, h7⟩ := cl8 X3.out) | (go_at_call 90; (with_reducible refine (args_c m A0 c0 f (some ad) c1 x.f3 A2 c2 x.f4 _ (Kd.C_below HM.out HB.out) (Kd.C_below HL.out HB.out) HN.out).mono ?_); rintro e w6 ⟨rfl, hb⟩; replace HB := Aside0.mk (below_step HB.out hb); replace X1 := Aside0.mk (blk_below X1.out hb); replace X2 := Aside0.mk (blk_below X2.out hb); replace X3 := Aside0.mk (blk_below X3.out hb); clear hb; clear m0 i0 i1 i2 h0 h1 h2 h3 h4 h5 h6 h7; have m0 := (blk_cell X1.out 0).trans rfl; obtain ⟨i0, i1, i2⟩ := cl3 X2.out; obtain ⟨h0, h1, h2, h3, h4, h5, h6, h7⟩ := cl8 X3.out))
   all_goals (go_ret; exact ⟨by simp [endR, landR, *], HB.out⟩)
 have hnn := win_at hw
 obtain ⟨_, _, _, _, _, _, _, e1, hx, _⟩ := at_T41 HBL.out x.f7 hnn.1 hnn.2
 cases e1
 have p1 : (0 ≤ x.f7) = True := eq_true hnn.1
 have p2 : (x.f7 < (f.f2.length : Int)) = True := eq_true hnn.2
 clear hnn
 go_enter Try.func56, Try.ntmps56
 go_wp2_with (first | ((with_reducible refine gate_dst (N := 3) rfl ?_); refine box_event ?hg (N := 3) ?hd (cs := #[.slice A0 m.length c0]) (t := 24) ?hr ?_; (case hd => rfl); (case hg => rfl); (case hr => first | (go_simp; done) | (go_simp; rfl)); intro g1 hg w1 hbox hb; have HB := Aside0.mk hb; have X1 := Aside0.mk hbox; clear hbox hb hg) | ((with_reducible refine gate_dst (N := 4) rfl ?_); refine box_event ?hg (N := 4) ?hd (cs := #[.int .i64 f.f0, .int .i64 f.f1, .slice (some ad) f.f2.length c1]) (t := 27) ?hr ?_; (case hd => rfl); (case hg => rfl); (case hr => first | (go_simp; done) | (go_simp; rfl)); intro g2 hg w2 hbox hb; replace HB := Aside0.mk (below_step HB.out hb); replace X1 := Aside0.mk (blk_below X1.out hb); have X2 := Aside0.mk hbox; clear hbox hb hg) | ((with_reducible refine gate_dst (N := 5) rfl ?_); refine box_event ?hg (N := 5) ?hd (cs := #[.int .i64 x.f0, .int .i64 x.f1, .int .i64 x.f2, .int .i64 x.f3, .slice A2 x.f4.length c2, .int .i64 x.f5, .int .i64 x.f6, .int .i64 x.f7]) (t := 39) ?hr ?_; (case hd => rfl); (case hg => rfl); (case hr => first | (go_simp; done) | (go_simp; rfl)); intro g3 hg w3 hbox hb; replace HB := Aside0.mk (below_step HB.out hb); replace X1 := Aside0.mk (blk_below X1.out hb); replace X2 := Aside0.mk (blk_below X2.out hb); have X3 := Aside0.mk hbox; clear hbox hb hg; have m0 := (blk_cell X1.out 0).trans rfl; obtain ⟨i0, i1, i2⟩ := cl3 X2.out; obtain ⟨h0, h1, h2, h3, h4, h5, h6, h7⟩ := cl8 X3.out))
 go_quiet ((go_at_call 88; exact Calls.quiet_of_same (win_c _ _ _)))
 go_upto_region 2 with (fail)
 go_cut [9] (fun v9 wc => v9 = .bool (restR x) ∧ Aside0 (Below w.heap.size w wc) ∧ Aside0 (wc.heap[g1]? = some (.cells #[.slice A0 m.length c0] 24 (0, 0))) ∧ Aside0 (wc.heap[g2]? = some (.cells #[.int .i64 f.f0, .int .i64 f.f1, .slice (some ad) f.f2.length c1] 27 (0, 0))) ∧ Aside0 (wc.heap[g3]? = some (.cells #[.int .i64 x.f0, .int .i64 x.f1, .int .i64 x.f2, .int .i64 x.f3, .slice A2 x.f4.length c2, .int .i64 x.f5, .int .i64 x.f6, .int .i64 x.f7] 39 (0, 0))))
 case first => cases e2 : (x.f2 == 0) <;> cases e3 : (x.f3 == 0) <;> cases e4 : ((x.f4.length : Int) == 0) <;> cases e7 : (x.f7 == 0) <;> (go_wp2; go_meet; exact ⟨congrArg Value.bool (by unfold restR; rw [e2, e3, e4, e7]; rfl), ⟨pw_below_drewN HB.out _⟩, ⟨blk_drewN X1.out _⟩, ⟨blk_drewN X2.out _⟩, ⟨blk_drewN X3.out _⟩⟩)
 case rest =>
  clear HB X1 X2 X3 m0 i0 i1 i2 h0 h1 h2 h3 h4 h5 h6 h7
  obtain ⟨rfl, HB, X1, X2, X3⟩ := hcut
  have m0 := (blk_cell X1.out 0).trans rfl
  obtain ⟨i0, i1, i2⟩ := cl3 X2.out
  obtain ⟨h0, h1, h2, h3, h4, h5, h6, h7⟩ := cl8 X3.out
  have hx1 := pw_cell_below HB.out hx
  go_wp2_with (first | (go_at_call 88; (with_reducible refine (win_c _ _ _).mono ?_); rintro e w' ⟨rfl, rfl⟩) | (go_at_call 89; (with_reducible refine (goal_c f (some ad) c1 _ _ (Kd.C_below HBL.out HB.out)).mono ?_); rintro e w6 ⟨rfl, hb⟩; replace HB := Aside0.mk (below_step HB.out hb); replace X1 := Aside0.mk (blk_below X1.out hb); replace X2 := Aside0.mk (blk_below X2.out hb); replace X3 := Aside0.mk (blk_below X3.out hb); clear hb; clear m0 i0 i1 i2 h0 h1 h2 h3 h4 h5 h6 h7; have m0 := (blk_cell X1.out 0).trans rfl; obtain ⟨i0, i1, i2⟩ := cl3 X2.out; obtain ⟨h0, h1, h2, h3, h4, h5, h6, h7⟩ := cl8 X3.out; clear hx1; have hx1 := pw_cell_below HB.out hx) | (go_at_call 90; (with_reducible refine (args_c m A0 c0 f (some ad) c1 x.f3 A2 c2 x.f4 _ (Kd.C_below HM.out HB.out) (Kd.C_below HL.out HB.out) HN.out).mono ?_); rintro e w6 ⟨rfl, hb⟩; replace HB := Aside0.mk (below_step HB.out hb); replace X1 := Aside0.mk (blk_below X1.out hb); replace X2 := Aside0.mk (blk_below X2.out hb); replace X3 := Aside0.mk (blk_below X3.out hb); clear hb; clear m0 i0 i1 i2 h0 h1 h2 h3 h4 h5 h6 h7; have m0 := (blk_cell X1.out 0).trans rfl; obtain ⟨i0, i1, i2⟩ := cl3 X2.out; obtain ⟨h0, h1, h2, h3, h4, h5, h6, h7⟩ := cl8 X3.out; clear hx1; have hx1 := pw_cell_below HB.out hx))
  all_goals (go_ret; exact ⟨by simp [endR, landR, *], HB.out⟩)
end Go.Proofs.Ytbfialebaoeicaa.X
