/- Part 2 of the proof of the statement ShapeRight: the words of the walks, the walks through the functions that it reaches, and the plain laws of what they compute. -/
import Derived.Test.YtbfialebaoeicaaMShapeRight0
import Derived.RegionTactic
import Derived.ChangeAlike
import Derived.Deep.QuietTactic
import Derived.BigQuiet
namespace Go.Proofs.Ytbfialebaoeicaa.X
open Go.RowKit Go.Proofs.YtbfialebaoeicaaW.PrintWords Go.Proofs.YtbfialebaoeicaaW.PrintLast Go.Proofs.YtbfialebaoeicaaW.PrintMore
set_option linter.all false
set_option maxHeartbeats 16000000 in
set_option maxRecDepth 100000 in
theorem win_c (a b : Int) (w : World) : Calls Try.prog 88 #[.int .i64 a, .int .i64 b] w fun e w' => e = .returned (.bool (win a b)) ∧ w' = w := by
 go_enter Try.func88, Try.ntmps88
 go_wp2
 all_goals (go_ret; exact ⟨by first | (simp [win, *]; done) | (simp [win, *]; omega), rfl⟩)
set_option maxHeartbeats 16000000 in
set_option maxRecDepth 100000 in
theorem plain_c (k f : Int) (A : Option Addr) (c : Nat) (l : List Int) (w : World) : Calls Try.prog 91 #[.int .u16 k, .int .i64 f, .slice A l.length c] w fun e w' => e = .returned (.bool (plainR k f l)) ∧ w' = w := by
 go_enter Try.func91, Try.ntmps91
 go_wp2
 all_goals (go_ret; exact ⟨by simp [plainR, *], rfl⟩)
set_option maxHeartbeats 16000000 in
set_option maxRecDepth 100000 in
theorem args_c (m : List S27) (A0 : Option Addr) (c0 : Nat) (f : S27) (A1 : Option Addr) (c1 : Nat) (n : Int) (A2 : Option Addr) (c2 : Nat) (l : List Int) (w : World) (hm : Kd.C k27 w A0 m.length m) (hl : Kd.C (Kd.int .i64) w A2 l.length l) (hb : l.length ≤ 1000000) :
  Calls Try.prog 90 #[.agg #[.slice A0 m.length c0], .agg #[.int .i64 f.f0, .int .i64 f.f1, .slice A1 f.f2.length c1], .int .i64 n, .slice A2 l.length c2] w fun e w' => e = .returned (.bool (argsR m f.f1 n l)) ∧ Below w.heap.size w w' := by
 have HM := Aside0.mk hm
 have HL := Aside0.mk hl
 have HN := Aside0.mk hb
 clear hm hl hb
 have hu24 := Try.underlying24
 have hu27 := Try.underlying27
 by_cases hw : win n m.length = true
 rotate_left
 ·have hw := Bool.eq_false_iff.2 hw
  go_enter Try.func90, Try.ntmps90
  go_wp2_with (first | ((with_reducible refine gate_dst (N := 4) rfl ?_); refine box_event ?hg (N := 4) ?hd (cs := #[.slice A0 m.length c0]) (t := 24) ?hr ?_; (case hd => rfl); (case hg => rfl); (case hr => first | (go_simp; done) | (go_simp; rfl)); intro g1 hg w3 hbox hb; have HB := Aside0.mk hb; have X1 := Aside0.mk hbox; clear hbox hb hg) | ((with_reducible refine gate_dst (N := 5) rfl ?_); refine box_event ?hg (N := 5) ?hd (cs := #[.int .i64 f.f0, .int .i64 f.f1, .slice A1 f.f2.length c1]) (t := 27) ?hr ?_; (case hd => rfl); (case hg => rfl); (case hr => first | (go_simp; done) | (go_simp; rfl)); intro g2 hg w4 hbox hb; replace HB := Aside0.mk (below_step HB.out hb); replace X1 := Aside0.mk (blk_below X1.out hb); have X2 := Aside0.mk hbox; clear hbox hb hg; have m0 := (blk_cell X1.out 0).trans rfl; have i1 := (blk_cell X2.out 1).trans rfl) | (go_at_call 88; (with_reducible refine (win_c _ _ _).mono ?_); rintro e w' ⟨rfl, rfl⟩))
  go_ret
  exact ⟨by simp [argsR, hw], HB.out⟩
 have hnn := win_at hw
 obtain ⟨ad, _, _, e1, hx, _⟩ := at_T27 HM.out n hnn.1 hnn.2
 subst e1
 have p1 : (0 ≤ n) = True := eq_true hnn.1
 have p2 : (n < (m.length : Int)) = True := eq_true hnn.2
 clear hnn
 by_cases hp : (l.length : Int) = (rd_T27 m n).f0
 rotate_left
 ·have hp0 : ((l.length : Int) == (rd_T27 m n).f0) = false := beq_eq_false_iff_ne.2 hp
  have hp1 : ((l.length : Int) != (rd_T27 m n).f0) = true := bne_iff_ne.2 hp
  go_enter Try.func90, Try.ntmps90
  go_wp2_with (first | ((with_reducible refine gate_dst (N := 4) rfl ?_); refine box_event ?hg (N := 4) ?hd (cs := #[.slice (some ad) m.length c0]) (t := 24) ?hr ?_; (case hd => rfl); (case hg => rfl); (case hr => first | (go_simp; done) | (go_simp; rfl)); intro g1 hg w3 hbox hb; have HB := Aside0.mk hb; have X1 := Aside0.mk hbox; clear hbox hb hg) | ((with_reducible refine gate_dst (N := 5) rfl ?_); refine box_event ?hg (N := 5) ?hd (cs := #[.int .i64 f.f0, .int .i64 f.f1, .slice A1 f.f2.length c1]) (t := 27) ?hr ?_; (case hd => rfl); (case hg => rfl); (case hr => first | (go_simp; done) | (go_simp; rfl)); intro g2 hg w4 hbox hb; replace HB := Aside0.mk (below_step HB.out hb); replace X1 := Aside0.mk (blk_below X1.out hb); have X2 := Aside0.mk hbox; clear hbox hb hg; have m0 := (blk_cell X1.out 0).trans rfl; have i1 := (blk_cell X2.out 1).trans rfl; have hx1 := pw_cell_below HB.out hx) | (go_at_call 88; (with_reducible refine (win_c _ _ _).mono ?_); rintro e w' ⟨rfl, rfl⟩))
  go_ret
  exact ⟨by simp [argsR, hp], HB.out⟩
 have hp0 : ((l.length : Int) == (rd_T27 m n).f0) = true := beq_iff_eq.2 hp
 have hp1 : ((l.length : Int) != (rd_T27 m n).f0) = false := bne_eq_false_iff_eq.2 hp
 have HSP := Aside0.mk (show argsR m f.f1 n l = l.all (win · f.f1) by unfold argsR; rw [hw, decide_eq_true hp]; rfl)
 clear hp
 go_enter Try.func90, Try.ntmps90
 go_wp2_with (first | ((with_reducible refine gate_dst (N := 4) rfl ?_); refine box_event ?hg (N := 4) ?hd (cs := #[.slice (some ad) m.length c0]) (t := 24) ?hr ?_; (case hd => rfl); (case hg => rfl); (case hr => first | (go_simp; done) | (go_simp; rfl)); intro g1 hg w3 hbox hb; have HB := Aside0.mk hb; have X1 := Aside0.mk hbox; clear hbox hb hg) | ((with_reducible refine gate_dst (N := 5) rfl ?_); refine box_event ?hg (N := 5) ?hd (cs := #[.int .i64 f.f0, .int .i64 f.f1, .slice A1 f.f2.length c1]) (t := 27) ?hr ?_; (case hd => rfl); (case hg => rfl); (case hr => first | (go_simp; done) | (go_simp; rfl)); intro g2 hg w4 hbox hb; replace HB := Aside0.mk (below_step HB.out hb); replace X1 := Aside0.mk (blk_below X1.out hb); have X2 := Aside0.mk hbox; clear hbox hb hg; have m0 := (blk_cell X1.out 0).trans rfl; have i1 := (blk_cell X2.out 1).trans rfl; have hx1 := pw_cell_below HB.out hx) | (go_at_call 88; (with_reducible refine (win_c _ _ _).mono ?_); rintro e w' ⟨rfl, rfl⟩))
 clear hp0 hp1 hx hx1 m0 i1 p1 p2 hw
 go_loopg [9] 1000000 (fun gg s9 wr => ∃ x : Int, s9 = .int .i64 x ∧ Aside0 (0 ≤ x ∧ x ≤ l.length ∧ (l.length : Int) - x ≤ gg) ∧ Aside0 ((l.take x.toNat).all (win · f.f1) = true) ∧ Aside0 (Below w.heap.size w wr) ∧ Aside0 (wr.heap[g2]? = some (.cells #[.int .i64 f.f0, .int .i64 f.f1, .slice A1 f.f2.length c1] 27 (0, 0))))
 case atStart => exact ⟨0, rfl, ⟨by have := HN.out; omega⟩, ⟨by simp⟩, HB, X2⟩
 case round =>
  clear HB X2
  obtain ⟨x, rfl, HX, HA, HB, X2⟩ := hrel
  by_cases hlt : x < (l.length : Int)
  rotate_left
  ·have hd : decide (x < (l.length : Int)) = false := decide_eq_false hlt
   have HE := Aside0.mk (show l.all (win · f.f1) = true by rw [← all_end l _ x hlt]; exact HA.out)
   clear hlt
   go_wp2
   go_ret
   exact ⟨ret_b (by rw [HSP.out, HE.out]), HB.out⟩
  have hd : decide (x < (l.length : Int)) = true := decide_eq_true hlt
  have HLT := Aside0.mk hlt
  clear hlt
  have p1 : (0 ≤ x) = True := eq_true HX.out.1
  have p2 : (x < (l.length : Int)) = True := eq_true HLT.out
  obtain ⟨ad2, e2, hv⟩ := Kd.at_int (Kd.C_below HL.out HB.out) x HX.out.1 HLT.out
  subst e2
  have i1 := (blk_cell X2.out 1).trans rfl
  have HST := Aside0.mk (all_step l 0 (win · f.f1) x HX.out.1 HLT.out)
  have HNO := Aside0.mk (all_no l 0 (win · f.f1) x HX.out.1 HLT.out)
  have hrd : rd l x = l.getD x.toNat 0 := rfl
  rw [hrd] at hv
  clear hrd
  generalize l.getD x.toNat 0 = v at hv HST HNO
  go_wp2
  go_quiet ((go_at_call 88; exact Calls.quiet_of_same (win_c _ _ _)))
  cases hw : win v f.f1 with
  | false =>
   go_wp2
   go_ret
   exact ⟨ret_b (by rw [HSP.out, HNO.out hw]), pw_below_drewN HB.out _⟩
  | true =>
   go_wp2
   have W1 := Aside0.mk (show wrap64 (x + 1) = x + 1 from wrap_in _ (by have := HX.out; omega) (by have := HX.out; have := HN.out; omega))
   go_roundg ((l.length : Int) - (x + 1)).toNat
   case measure => have h1_ := HX.out; have h2_ := HLT.out; omega
   case rel => exact ⟨x + 1, by first | (rw [W1.out]; done) | rfl | (simp only [W1.out]; done), ⟨by have := HX.out; have := HLT.out; omega⟩, ⟨by rw [HST.out, HA.out, hw]; rfl⟩, ⟨pw_below_drewN HB.out _⟩, ⟨blk_drewN X2.out _⟩⟩
set_option maxHeartbeats 16000000 in
set_option maxRecDepth 100000 in
theorem goal_c (f : S27) (A1 : Option Addr) (c1 : Nat) (n : Int) (w : World) (hb : Kd.C k41 w A1 f.f2.length f.f2) :
  Calls Try.prog 89 #[.agg #[.int .i64 f.f0, .int .i64 f.f1, .slice A1 f.f2.length c1], .int .i64 n] w fun e w' => e = .returned (.bool (goalR f.f2 n)) ∧ Below w.heap.size w w' := by
 have HL := Aside0.mk hb
 clear hb
 have hu27 := Try.underlying27
 by_cases hw : win n f.f2.length = true
 rotate_left
 ·have hw := Bool.eq_false_iff.2 hw
  go_enter Try.func89, Try.ntmps89
  go_wp2_with (first | ((with_reducible refine gate_dst (N := 2) rfl ?_); refine box_event ?hg (N := 2) ?hd (cs := #[.int .i64 f.f0, .int .i64 f.f1, .slice A1 f.f2.length c1]) (t := 27) ?hr ?_; (case hd => rfl); (case hg => rfl); (case hr => first | (go_simp; done) | (go_simp; rfl)); intro g2 hg w4 hbox hb; have HB := Aside0.mk hb; have X2 := Aside0.mk hbox; clear hbox hb hg; have i2 := (blk_cell X2.out 2).trans rfl) | (go_at_call 88; (with_reducible refine (win_c _ _ _).mono ?_); rintro e w' ⟨rfl, rfl⟩))
  go_ret
  exact ⟨by simp [goalR, hw], HB.out⟩
 have hnn := win_at hw
 have hxx := at_T41 HL.out n hnn.1 hnn.2
 obtain ⟨ad, _, _, _, _, _, _, e1, hx, _⟩ := hxx
 subst e1
 have p1 : (0 ≤ n) = True := eq_true hnn.1
 have p2 : (n < (f.f2.length : Int)) = True := eq_true hnn.2
 clear hnn
 go_enter Try.func89, Try.ntmps89
 go_wp2_with (first | ((with_reducible refine gate_dst (N := 2) rfl ?_); refine box_event ?hg (N := 2) ?hd (cs := #[.int .i64 f.f0, .int .i64 f.f1, .slice (some ad) f.f2.length c1]) (t := 27) ?hr ?_; (case hd => rfl); (case hg => rfl); (case hr => first | (go_simp; done) | (go_simp; rfl)); intro g2 hg w4 hbox hb; have HB := Aside0.mk hb; have X2 := Aside0.mk hbox; clear hbox hb hg; have i2 := (blk_cell X2.out 2).trans rfl; have hx1 := pw_cell_below HB.out hx) | (go_at_call 88; (with_reducible refine (win_c _ _ _).mono ?_); rintro e w' ⟨rfl, rfl⟩))
 all_goals (go_ret; exact ⟨by simp [goalR, *], HB.out⟩)
set_option maxHeartbeats 16000000 in
set_option maxRecDepth 100000 in
theorem ins_c (m : List S27) (A0 : Option Addr) (c0 : Nat) (f : S27) (A1 : Option Addr) (c1 : Nat) (x : S49) (A2 : Option Addr) (c2 : Nat) (w : World) (hm : Kd.C k27 w A0 m.length m) (hl : Kd.C (Kd.int .i64) w A2 x.f6.length x.f6) (hb : x.f6.length ≤ 1000000) :
  Calls Try.prog 57 #[.agg #[.slice A0 m.length c0], .agg #[.int .i64 f.f0, .int .i64 f.f1, .slice A1 f.f2.length c1], .agg #[.int .i64 x.f0, .int .i64 x.f1, .int .i64 x.f2, .int .i64 x.f3, .int .u16 x.f4, .int .i64 x.f5, .slice A2 x.f6.length c2]] w fun e w' => e = .returned (.bool (insR m f.f1 x)) ∧ Below w.heap.size w w' := by
 have HM := Aside0.mk hm
 have HL := Aside0.mk hl
 have HN := Aside0.mk hb
 clear hm hl hb
 have hu24 := Try.underlying24
 have hu27 := Try.underlying27
 have hu49 := Try.underlying49
 go_enter Try.func57, Try.ntmps57
 go_wp2_with (first | ((with_reducible refine gate_dst (N := 3) rfl ?_); refine box_event ?hg (N := 3) ?hd (cs := #[.slice A0 m.length c0]) (t := 24) ?hr ?_; (case hd => rfl); (case hg => rfl); (case hr => first | (go_simp; done) | (go_simp; rfl)); intro g1 hg w3 hbox hb; have HB := Aside0.mk hb; have X1 := Aside0.mk hbox; clear hbox hb hg) | ((with_reducible refine gate_dst (N := 4) rfl ?_); refine box_event ?hg (N := 4) ?hd (cs := #[.int .i64 f.f0, .int .i64 f.f1, .slice A1 f.f2.length c1]) (t := 27) ?hr ?_; (case hd => rfl); (case hg => rfl); (case hr => first | (go_simp; done) | (go_simp; rfl)); intro g2 hg w4 hbox hb; replace HB := Aside0.mk (below_step HB.out hb); replace X1 := Aside0.mk (blk_below X1.out hb); have X2 := Aside0.mk hbox; clear hbox hb hg) | ((with_reducible refine gate_dst (N := 5) rfl ?_); refine box_event ?hg (N := 5) ?hd (cs := #[.int .i64 x.f0, .int .i64 x.f1, .int .i64 x.f2, .int .i64 x.f3, .int .u16 x.f4, .int .i64 x.f5, .slice A2 x.f6.length c2]) (t := 49) ?hr ?_; (case hd => rfl); (case hg => rfl); (case hr => first | (go_simp; done) | (go_simp; rfl)); intro g3 hg w5 hbox hb; replace HB := Aside0.mk (below_step HB.out hb); replace X1 := Aside0.mk (blk_below X1.out hb); replace X2 := Aside0.mk (blk_below X2.out hb); have X3 := Aside0.mk hbox; clear hbox hb hg; obtain ⟨h0, h1, h2, h3, h4, h5, h6⟩ := cl7 X3.out; obtain ⟨i0, i1, i2⟩ := cl3 X2.out; have m0 := (blk_cell X1.out 0).trans rfl))
 go_quiet ((go_at_call 88; exact Calls.quiet_of_same (win_c _ _ _)))
 go_wp2_with (first | (go_at_call 91; (with_reducible refine (plain_c _ _ _ _ _ _).mono ?_); rintro e w' ⟨rfl, rfl⟩) | (go_at_call 90; (with_reducible refine (args_c m A0 c0 f A1 c1 x.f5 A2 c2 x.f6 _ ?sm ?sl HN.out).mono ?_); (case sm => exact Kd.C_drewN (Kd.C_below HM.out HB.out) _); (case sl => exact Kd.C_drewN (Kd.C_below HL.out HB.out) _); rintro e w6 ⟨rfl, hb⟩; have HB2 := Aside0.mk (below_step (pw_below_drewN HB.out _) hb); clear hb))
 all_goals (go_ret; exact ⟨by simp [insR, *], by first | exact HB2.out | exact pw_below_drewN HB.out _⟩)
end Go.Proofs.Ytbfialebaoeicaa.X
