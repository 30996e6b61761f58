/- Part 14 of the proof of the statement FrameOne: the words of the walks, the walks through the functions that it reaches, and the plain laws of what they compute. -/
import Derived.Test.YtbfialebaoeicaaMFrameOne12
import Derived.RegionTactic
import Derived.ChangeAlike
import Derived.Deep.QuietTactic
import Derived.BigQuiet
import Derived.Laws.CopyOwn
import Derived.Laws.MakeOwn
namespace Go.Proofs.Ytbfialebaoeicaa.X
open Go.RowKit Go.Proofs.YtbfialebaoeicaaW.PrintWords Go.Proofs.YtbfialebaoeicaaW.PrintLast Go.Proofs.YtbfialebaoeicaaW.PrintMore
set_option linter.all false
def okF (m : List S27) (n : Int) : Bool := rightR m && win n m.length
def FunB (m : List S27) (n : Int) (w : World) (a b : Int) (A1 : Option Addr) (k c1 : Nat) : Prop :=
 (okF m n = false ∧ a = 0 ∧ b = 0 ∧ A1 = none ∧ k = 0 ∧ c1 = 0) ∨
 (okF m n = true ∧ a = (rd_T27 m n).f0 ∧ b = (rd_T27 m n).f1 ∧ k = (rd_T27 m n).f2.length ∧ Kd.C k41 w A1 (rd_T27 m n).f2.length (rd_T27 m n).f2)
def FunA (m : List S27) (n : Int) (w : World) (e : Ending) : Prop :=
 ∃ a b A1 k c1, e = .returned (.tuple #[.agg #[.int .i64 a, .int .i64 b, .slice A1 k c1], .bool (okF m n)]) ∧ FunB m n w a b A1 k c1
theorem FunB.mv {m : List S27} {n : Int} {w w' : World} {a b : Int} {A1 : Option Addr} {k c1 : Nat} (h : FunB m n w a b A1 k c1) (hb : Below w.heap.size w w') : FunB m n w' a b A1 k c1 := by
 rcases h with h | ⟨h1, h2, h3, h4, h5⟩
 ·exact .inl h
 ·exact .inr ⟨h1, h2, h3, h4, Kd.C_below h5 hb⟩
set_option maxHeartbeats 16000000 in
set_option maxRecDepth 100000 in
theorem fun_l (m : List S27) (A0 : Option Addr) (c0 : Nat) (n : Int) (w : World) (hm : Kd.C k27 w A0 m.length m) (hb : Bnd m) :
  Calls Try.prog 76 #[.agg #[.slice A0 m.length c0], .int .i64 n] w fun e w' => FunA m n w e ∧ Below w.heap.size w w' := by
 have HM := Aside0.mk hm
 have HN := Aside0.mk hb
 clear hm hb
 have hu24 := Try.underlying24
 have hu27 := Try.underlying27
 have hu55 := Try.underlying55
 have hu41 := Try.underlying41
 cases hr : rightR m with
 | false =>
  have HV := Aside0.mk (show okF m n = false by unfold okF; rw [hr]; rfl)
  go_enter Try.func76, Try.ntmps76
  go_wp2_with (first | ((with_reducible refine gate_dst (N := 2) rfl ?_); refine box_event ?hg (N := 2) ?hd (cs := #[.slice A0 m.length c0]) (t := 24) ?hr ?_; (case hd => rfl); (case hg => rfl); (case hr => first | (go_simp; done) | (go_simp; rfl)); intro g1 hg w1 hbox hb; have HB := Aside0.mk hb; have X1 := Aside0.mk hbox; clear hbox hb hg; have k0 := (blk_cell X1.out 0).trans rfl) | ((with_reducible refine gate_dst (N := 4) rfl ?_); refine box_event ?hg (N := 4) ?hd (cs := #[.int .i64 0, .int .i64 0, .slice none 0 0]) (t := 27) ?hr ?_; (case hd => rfl); (case hg => rfl); (case hr => first | (go_simp; done) | (go_simp; rfl)); intro g2 hg w2 hbox hb; have HLX2 := Aside0.mk (show w.heap.size ≤ g2 by rw [hg]; exact HB.out.size); have n0_ := Aside0.mk (below_step HB.out hb); have n1_ := Aside0.mk (blk_below X1.out hb); clear HB X1; have HB := n0_; have X1 := n1_; clear n0_ n1_; have X2 := Aside0.mk hbox; clear hbox hb hg; have r0 := (blk_cell X2.out 0).trans rfl; have r1 := (blk_cell X2.out 1).trans rfl; have r2 := (blk_cell X2.out 2).trans rfl; have zr0 := blk_frozen X2.out 0; have zr1 := blk_frozen X2.out 1; have zr2 := blk_frozen X2.out 2; clear k0; have k0 := (blk_cell X1.out 0).trans rfl) | (go_at_call 16; (with_reducible refine (right_l m A0 c0 _ (Kd.C_below HM.out HB.out) HN.out).mono ?_); rintro e w6 ⟨he, hb⟩; rw [hr] at he; subst he; clear k0; clear r0 zr0 r1 zr1 r2 zr2; have n0_ := Aside0.mk (below_step HB.out hb); have n1_ := Aside0.mk (blk_below X1.out hb); have n2_ := Aside0.mk (blk_below X2.out hb); clear HB X1 X2; have HB := n0_; have X1 := n1_; have X2 := n2_; clear n0_ n1_ n2_; clear hb; have k0 := (blk_cell X1.out 0).trans rfl; have r0 := (blk_cell X2.out 0).trans rfl; have r1 := (blk_cell X2.out 1).trans rfl; have r2 := (blk_cell X2.out 2).trans rfl; have zr0 := blk_frozen X2.out 0; have zr1 := blk_frozen X2.out 1; have zr2 := blk_frozen X2.out 2))
  refine bodyPost_ret (results_ct rfl _ _ g2 27 #[.int .i64 0, .int .i64 0, .slice none 0 0] (0, 0) _ rfl (set_blk _ _ (set_blk _ _ (set_blk _ _ (X2.out) rfl) rfl) rfl) Try.underlying27 rfl (by kernel_rfl)) rfl ?_
  exact ⟨⟨0, 0, none, 0, 0, by rw [HV.out]; rfl, .inl ⟨HV.out, rfl, rfl, rfl, rfl, rfl⟩⟩, below_set (below_set (below_set (HB.out) HLX2.out) HLX2.out) HLX2.out⟩
 | true =>
  by_cases h0 : 0 ≤ n
  rotate_left
  ·have HV := Aside0.mk (show okF m n = false by unfold okF win; rw [decide_eq_false h0, Bool.false_and, Bool.and_false])
   have d0 : decide (n < 0) = true := decide_eq_true (by omega)
   clear h0
   go_enter Try.func76, Try.ntmps76
   go_wp2_with (first | ((with_reducible refine gate_dst (N := 2) rfl ?_); refine box_event ?hg (N := 2) ?hd (cs := #[.slice A0 m.length c0]) (t := 24) ?hr ?_; (case hd => rfl); (case hg => rfl); (case hr => first | (go_simp; done) | (go_simp; rfl)); intro g1 hg w1 hbox hb; have HB := Aside0.mk hb; have X1 := Aside0.mk hbox; clear hbox hb hg; have k0 := (blk_cell X1.out 0).trans rfl) | ((with_reducible refine gate_dst (N := 4) rfl ?_); refine box_event ?hg (N := 4) ?hd (cs := #[.int .i64 0, .int .i64 0, .slice none 0 0]) (t := 27) ?hr ?_; (case hd => rfl); (case hg => rfl); (case hr => first | (go_simp; done) | (go_simp; rfl)); intro g2 hg w2 hbox hb; have HLX2 := Aside0.mk (show w.heap.size ≤ g2 by rw [hg]; exact HB.out.size); have n0_ := Aside0.mk (below_step HB.out hb); have n1_ := Aside0.mk (blk_below X1.out hb); clear HB X1; have HB := n0_; have X1 := n1_; clear n0_ n1_; have X2 := Aside0.mk hbox; clear hbox hb hg; have r0 := (blk_cell X2.out 0).trans rfl; have r1 := (blk_cell X2.out 1).trans rfl; have r2 := (blk_cell X2.out 2).trans rfl; have zr0 := blk_frozen X2.out 0; have zr1 := blk_frozen X2.out 1; have zr2 := blk_frozen X2.out 2; clear k0; have k0 := (blk_cell X1.out 0).trans rfl) | (go_at_call 16; (with_reducible refine (right_l m A0 c0 _ (Kd.C_below HM.out HB.out) HN.out).mono ?_); rintro e w6 ⟨he, hb⟩; rw [hr] at he; subst he; clear k0; clear r0 zr0 r1 zr1 r2 zr2; have n0_ := Aside0.mk (below_step HB.out hb); have n1_ := Aside0.mk (blk_below X1.out hb); have n2_ := Aside0.mk (blk_below X2.out hb); clear HB X1 X2; have HB := n0_; have X1 := n1_; have X2 := n2_; clear n0_ n1_ n2_; clear hb; have k0 := (blk_cell X1.out 0).trans rfl; have r0 := (blk_cell X2.out 0).trans rfl; have r1 := (blk_cell X2.out 1).trans rfl; have r2 := (blk_cell X2.out 2).trans rfl; have zr0 := blk_frozen X2.out 0; have zr1 := blk_frozen X2.out 1; have zr2 := blk_frozen X2.out 2))
   refine bodyPost_ret (results_ct rfl _ _ g2 27 #[.int .i64 0, .int .i64 0, .slice none 0 0] (0, 0) _ rfl (set_blk _ _ (set_blk _ _ (set_blk _ _ (X2.out) rfl) rfl) rfl) Try.underlying27 rfl (by kernel_rfl)) rfl ?_
   exact ⟨⟨0, 0, none, 0, 0, by rw [HV.out]; rfl, .inl ⟨HV.out, rfl, rfl, rfl, rfl, rfl⟩⟩, below_set (below_set (below_set (HB.out) HLX2.out) HLX2.out) HLX2.out⟩
  by_cases h1 : n < (m.length : Int)
  rotate_left
  ·have HV := Aside0.mk (show okF m n = false by unfold okF win; rw [decide_eq_false h1, Bool.and_false, Bool.and_false])
   have d0 : decide (n < 0) = false := decide_eq_false (by omega)
   have d1 : decide ((m.length : Int) ≤ n) = true := decide_eq_true (by omega)
   clear h0 h1
   go_enter Try.func76, Try.ntmps76
   go_wp2_with (first | ((with_reducible refine gate_dst (N := 2) rfl ?_); refine box_event ?hg (N := 2) ?hd (cs := #[.slice A0 m.length c0]) (t := 24) ?hr ?_; (case hd => rfl); (case hg => rfl); (case hr => first | (go_simp; done) | (go_simp; rfl)); intro g1 hg w1 hbox hb; have HB := Aside0.mk hb; have X1 := Aside0.mk hbox; clear hbox hb hg; have k0 := (blk_cell X1.out 0).trans rfl) | ((with_reducible refine gate_dst (N := 4) rfl ?_); refine box_event ?hg (N := 4) ?hd (cs := #[.int .i64 0, .int .i64 0, .slice none 0 0]) (t := 27) ?hr ?_; (case hd => rfl); (case hg => rfl); (case hr => first | (go_simp; done) | (go_simp; rfl)); intro g2 hg w2 hbox hb; have HLX2 := Aside0.mk (show w.heap.size ≤ g2 by rw [hg]; exact HB.out.size); have n0_ := Aside0.mk (below_step HB.out hb); have n1_ := Aside0.mk (blk_below X1.out hb); clear HB X1; have HB := n0_; have X1 := n1_; clear n0_ n1_; have X2 := Aside0.mk hbox; clear hbox hb hg; have r0 := (blk_cell X2.out 0).trans rfl; have r1 := (blk_cell X2.out 1).trans rfl; have r2 := (blk_cell X2.out 2).trans rfl; have zr0 := blk_frozen X2.out 0; have zr1 := blk_frozen X2.out 1; have zr2 := blk_frozen X2.out 2; clear k0; have k0 := (blk_cell X1.out 0).trans rfl) | (go_at_call 16; (with_reducible refine (right_l m A0 c0 _ (Kd.C_below HM.out HB.out) HN.out).mono ?_); rintro e w6 ⟨he, hb⟩; rw [hr] at he; subst he; clear k0; clear r0 zr0 r1 zr1 r2 zr2; have n0_ := Aside0.mk (below_step HB.out hb); have n1_ := Aside0.mk (blk_below X1.out hb); have n2_ := Aside0.mk (blk_below X2.out hb); clear HB X1 X2; have HB := n0_; have X1 := n1_; have X2 := n2_; clear n0_ n1_ n2_; clear hb; have k0 := (blk_cell X1.out 0).trans rfl; have r0 := (blk_cell X2.out 0).trans rfl; have r1 := (blk_cell X2.out 1).trans rfl; have r2 := (blk_cell X2.out 2).trans rfl; have zr0 := blk_frozen X2.out 0; have zr1 := blk_frozen X2.out 1; have zr2 := blk_frozen X2.out 2))
   refine bodyPost_ret (results_ct rfl _ _ g2 27 #[.int .i64 0, .int .i64 0, .slice none 0 0] (0, 0) _ rfl (set_blk _ _ (set_blk _ _ (set_blk _ _ (X2.out) rfl) rfl) rfl) Try.underlying27 rfl (by kernel_rfl)) rfl ?_
   exact ⟨⟨0, 0, none, 0, 0, by rw [HV.out]; rfl, .inl ⟨HV.out, rfl, rfl, rfl, rfl, rfl⟩⟩, below_set (below_set (below_set (HB.out) HLX2.out) HLX2.out) HLX2.out⟩
  have HV := Aside0.mk (show okF m n = true by unfold okF win; rw [hr, decide_eq_true h0, decide_eq_true h1]; rfl)
  have d0 : decide (n < 0) = false := decide_eq_false (by omega)
  have d1 : decide ((m.length : Int) ≤ n) = false := decide_eq_false (by omega)
  have p0 : (0 ≤ n) = True := eq_true h0
  have p1 : (n < (m.length : Int)) = True := eq_true h1
  obtain ⟨ad, A1, c1, e1, y0, y1, y2, hl, hC⟩ := at_T27 HM.out n h0 h1
  subst e1
  have HC := Aside0.mk hC
  clear h0 h1 hC
  go_enter Try.func76, Try.ntmps76
  go_wp2_with (first | ((with_reducible refine gate_dst (N := 2) rfl ?_); refine box_event ?hg (N := 2) ?hd (cs := #[.slice (some ad) m.length c0]) (t := 24) ?hr ?_; (case hd => rfl); (case hg => rfl); (case hr => first | (go_simp; done) | (go_simp; rfl)); intro g1 hg w1 hbox hb; have HB := Aside0.mk hb; have X1 := Aside0.mk hbox; clear hbox hb hg; have k0 := (blk_cell X1.out 0).trans rfl) | ((with_reducible refine gate_dst (N := 4) rfl ?_); refine box_event ?hg (N := 4) ?hd (cs := #[.int .i64 0, .int .i64 0, .slice none 0 0]) (t := 27) ?hr ?_; (case hd => rfl); (case hg => rfl); (case hr => first | (go_simp; done) | (go_simp; rfl)); intro g2 hg w2 hbox hb; have HLX2 := Aside0.mk (show w.heap.size ≤ g2 by rw [hg]; exact HB.out.size); have n0_ := Aside0.mk (below_step HB.out hb); have n1_ := Aside0.mk (blk_below X1.out hb); clear HB X1; have HB := n0_; have X1 := n1_; clear n0_ n1_; have X2 := Aside0.mk hbox; clear hbox hb hg; have r0 := (blk_cell X2.out 0).trans rfl; have r1 := (blk_cell X2.out 1).trans rfl; have r2 := (blk_cell X2.out 2).trans rfl; have zr0 := blk_frozen X2.out 0; have zr1 := blk_frozen X2.out 1; have zr2 := blk_frozen X2.out 2; clear k0; have k0 := (blk_cell X1.out 0).trans rfl) | (go_at_call 16; (with_reducible refine (right_l m (some ad) c0 _ (Kd.C_below HM.out HB.out) HN.out).mono ?_); rintro e w6 ⟨he, hb⟩; rw [hr] at he; subst he; clear k0; clear r0 zr0 r1 zr1 r2 zr2; have n0_ := Aside0.mk (below_step HB.out hb); have n1_ := Aside0.mk (blk_below X1.out hb); have n2_ := Aside0.mk (blk_below X2.out hb); clear HB X1 X2; have HB := n0_; have X1 := n1_; have X2 := n2_; clear n0_ n1_ n2_; clear hb; have k0 := (blk_cell X1.out 0).trans rfl; have r0 := (blk_cell X2.out 0).trans rfl; have r1 := (blk_cell X2.out 1).trans rfl; have r2 := (blk_cell X2.out 2).trans rfl; have zr0 := blk_frozen X2.out 0; have zr1 := blk_frozen X2.out 1; have zr2 := blk_frozen X2.out 2; have q0 := pw_cell_below HB.out y0; have q1 := pw_cell_below HB.out y1; have q2 := pw_cell_below HB.out y2))
  refine bodyPost_ret (results_ct rfl _ _ g2 27 #[.int .i64 (rd_T27 m n).f0, .int .i64 (rd_T27 m n).f1, .slice A1 (rd_T27 m n).f2.length c1] (0, 0) _ rfl (set_blk _ _ (set_blk _ _ (set_blk _ _ (X2.out) rfl) rfl) rfl) Try.underlying27 rfl (by kernel_rfl)) rfl ?_
  exact ⟨⟨(rd_T27 m n).f0, (rd_T27 m n).f1, A1, (rd_T27 m n).f2.length, c1, by rw [HV.out]; rfl, .inr ⟨HV.out, rfl, rfl, rfl, HC.out⟩⟩, below_set (below_set (below_set (HB.out) HLX2.out) HLX2.out) HLX2.out⟩
def frR (m : List S27) (F_ Bl At n : Int) : Bool := okF m F_ && win Bl (rd_T27 m F_).f2.length && decide (n = (rd_T27 m F_).f1) && decide (0 ≤ At) && decide (At ≤ ((rd_T41 (rd_T27 m F_).f2 Bl).f2.length : Int))
set_option maxHeartbeats 16000000 in
set_option maxRecDepth 100000 in
theorem fright_l (m : List S27) (A0 : Option Addr) (c0 : Nat) (F_ Bl At : Int) (A3 : Option Addr) (c3 : Nat) (l : List Int) (Fly : Int) (w : World) (hm : Kd.C k27 w A0 m.length m) (hb : Bnd m) :
  Calls Try.prog 36 #[.agg #[.slice A0 m.length c0], .agg #[.int .i64 F_, .int .i64 Bl, .int .i64 At, .slice A3 l.length c3, .int .u16 Fly]] w fun e w' => e = .returned (.bool (frR m F_ Bl At l.length)) ∧ Below w.heap.size w w' := by
 have HM := Aside0.mk hm
 have HN := Aside0.mk hb
 clear hm hb
 have hu24 := Try.underlying24
 have hu27 := Try.underlying27
 have hu55 := Try.underlying55
 have hu41 := Try.underlying41
 go_enter Try.func36, Try.ntmps36
 go_upto_region 1 with (first | ((with_reducible refine gate_dst (N := 2) rfl ?_); refine box_event ?hg (N := 2) ?hd (cs := #[.slice A0 m.length c0]) (t := 24) ?hr ?_; (case hd => rfl); (case hg => rfl); (case hr => first | (go_simp; done) | (go_simp; rfl)); intro g1 hg w1 hbox hb; have HB := Aside0.mk hb; have X1 := Aside0.mk hbox; clear hbox hb hg; have k0 := (blk_cell X1.out 0).trans rfl) | ((with_reducible refine gate_dst (N := 3) rfl ?_); refine box_event ?hg (N := 3) ?hd (cs := #[.int .i64 F_, .int .i64 Bl, .int .i64 At, .slice A3 l.length c3, .int .u16 Fly]) (t := 55) ?hr ?_; (case hd => rfl); (case hg => rfl); (case hr => first | (go_simp; done) | (go_simp; rfl)); intro g2 hg w2 hbox hb; have n0_ := Aside0.mk (below_step HB.out hb); have n1_ := Aside0.mk (blk_below X1.out hb); clear HB X1; have HB := n0_; have X1 := n1_; clear n0_ n1_; have X2 := Aside0.mk hbox; clear hbox hb hg; have k0 := (blk_cell X1.out 0).trans rfl; have h0 := (blk_cell X2.out 0).trans rfl; have h1 := (blk_cell X2.out 1).trans rfl; have h2 := (blk_cell X2.out 2).trans rfl; have h3 := (blk_cell X2.out 3).trans rfl; have h4 := (blk_cell X2.out 4).trans rfl))
 go_cut [5, 6] (fun v5 v6 wc => ∃ g5 : Nat, v5 = .pointer (some ⟨g5, 0, none⟩) ∧ v6 = .bool (okF m F_) ∧ Aside0 (Below w.heap.size w wc) ∧ Aside0 (wc.heap[g2]? = some (.cells #[.int .i64 F_, .int .i64 Bl, .int .i64 At, .slice A3 l.length c3, .int .u16 Fly] 55 (0, 0))) ∧ Aside0 (∃ a b A1 k c1, wc.heap[g5]? = some (.cells #[.int .i64 a, .int .i64 b, .slice A1 k c1] 27 (0, 0)) ∧ FunB m F_ wc a b A1 k c1))
 case first =>
  go_wp2_with (go_at_call 76; (with_reducible refine (fun_l m A0 c0 F_ _ (Kd.C_below HM.out HB.out) HN.out).mono ?_); rintro e w6 ⟨⟨a, b, A1, k, c1, rfl, hf⟩, hb⟩; have HF := Aside0.mk (hf.mv hb); clear hf; have n0_ := Aside0.mk (below_step HB.out hb); have n1_ := Aside0.mk (blk_below X2.out hb); clear HB X2; have HB := n0_; have X2 := n1_; clear n0_ n1_; clear hb)
  go_meet
  exact ⟨_, rfl, rfl, ⟨below_alloc HB.out _⟩, ⟨blk_alloc X2.out _⟩, ⟨_, _, _, _, _, blk_new _ _, HF.out.mv (below_alloc (Below.refl _ _) _)⟩⟩
 case rest =>
  clear HB X2 k0 h0 h1 h2 h3 h4
  obtain ⟨g5, rfl, rfl, HB, X2, HF⟩ := hcut
  obtain ⟨a, b, A1, k, c1, hx, hf⟩ := HF.out
  have X5 := Aside0.mk hx
  clear HF hx
  have h0 := (blk_cell X2.out 0).trans rfl
  have h1 := (blk_cell X2.out 1).trans rfl
  have h2 := (blk_cell X2.out 2).trans rfl
  have h3 := (blk_cell X2.out 3).trans rfl
  have h4 := (blk_cell X2.out 4).trans rfl
  rcases hf with ⟨hv, rfl, rfl, rfl, rfl, rfl⟩ | ⟨hv, rfl, rfl, rfl, hC⟩
  ·have HV := Aside0.mk (show frR m F_ Bl At l.length = false by unfold frR; rw [hv]; rfl)
   rw [hv]
   clear hv
   have r0 := (blk_cell X5.out 0).trans rfl
   have r1 := (blk_cell X5.out 1).trans rfl
   have r2 := (blk_cell X5.out 2).trans rfl
   go_wp2
   go_ret
   exact ⟨ret_b HV.out.symm, HB.out⟩
  generalize hg : rd_T27 m F_ = g at *
  have HC := Aside0.mk hC
  have HV := Aside0.mk (show frR m F_ Bl At l.length = (win Bl g.f2.length && decide ((l.length : Int) = g.f1) && decide (0 ≤ At) && decide (At ≤ ((rd_T41 g.f2 Bl).f2.length : Int))) by unfold frR; rw [hv, hg, Bool.true_and])
  rw [hv]
  clear hv hC
  have r0 := (blk_cell X5.out 0).trans rfl
  have r1 := (blk_cell X5.out 1).trans rfl
  have r2 := (blk_cell X5.out 2).trans rfl
  by_cases b0 : 0 ≤ Bl
  rotate_left
  ·have d0 : decide (Bl < 0) = true := decide_eq_true (by omega)
   have HZ := Aside0.mk (HV.out.trans (show _ = false by unfold win; rw [decide_eq_false b0]; rfl))
   go_wp2
   go_ret
   exact ⟨ret_b HZ.out.symm, HB.out⟩
  have d0 : decide (Bl < 0) = false := decide_eq_false (by omega)
  by_cases b1 : Bl < (g.f2.length : Int)
  rotate_left
  ·have d1 : decide ((g.f2.length : Int) ≤ Bl) = true := decide_eq_true (by omega)
   have HZ := Aside0.mk (HV.out.trans (show _ = false by unfold win; rw [decide_eq_true b0, decide_eq_false b1]; rfl))
   go_wp2
   go_ret
   exact ⟨ret_b HZ.out.symm, HB.out⟩
  have d1 : decide ((g.f2.length : Int) ≤ Bl) = false := decide_eq_false (by omega)
  cases b2 : ((l.length : Int) == g.f1) with
  | false =>
   have b3 : ((l.length : Int) != g.f1) = true := by rw [bne, b2]; rfl
   have b4 := beq_eq_false_iff_ne.1 b2
   have HZ := Aside0.mk (HV.out.trans (show _ = false by unfold win; rw [decide_eq_true b0, decide_eq_true b1, decide_eq_false b4]; rfl))
   go_wp2
   go_ret
   exact ⟨ret_b HZ.out.symm, HB.out⟩
  | true =>
   have b3 : ((l.length : Int) != g.f1) = false := by rw [bne, b2]; rfl
   have b4 := beq_iff_eq.1 b2
   obtain ⟨ad, A4, c4, A5, c5, A6, c6, e1, y0, y1, y2, y3, y4, y5, y6, y7, y8, y9, y10, y11, y12, y13, _⟩ := at_T41 HC.out Bl b0 b1
   subst e1
   clear y0 y1 y2 y3 y4 y6 y7 y8 y9 y10 y11 y12 y13
   have p0 : (0 ≤ Bl) = True := eq_true b0
   have p1 : (Bl < (g.f2.length : Int)) = True := eq_true b1
   have HZ := Aside0.mk (HV.out.trans (show _ = (decide (0 ≤ At) && decide (At ≤ ((rd_T41 g.f2 Bl).f2.length : Int))) by unfold win; rw [decide_eq_true b0, decide_eq_true b1, decide_eq_true b4]; rfl))
   clear b0 b1
   cases a0 : decide (0 ≤ At) with
   | false => rw [a0, Bool.false_and] at HZ; go_wp2; go_quiet (fail); go_wp2; go_ret; exact ⟨ret_b HZ.out.symm, pw_below_drewN HB.out _⟩
   | true => rw [a0, Bool.true_and] at HZ; go_wp2; go_quiet (fail); go_wp2; go_ret; exact ⟨ret_b HZ.out.symm, pw_below_drewN HB.out _⟩
end Go.Proofs.Ytbfialebaoeicaa.X
namespace Go.Proofs.Ytbfialebaoeicaa.X
open Go.RowKit Go.Proofs.YtbfialebaoeicaaW.PrintWords Go.Proofs.YtbfialebaoeicaaW.PrintLast Go.Proofs.YtbfialebaoeicaaW.PrintMore
set_option linter.all false
def okN (m : List S27) (n : Int) (l : List Int) : Bool := okF m n && decide ((l.length : Int) = (rd_T27 m n).f0)
def newR (m : List S27) (n : Int) (l : List Int) : List Int := l ++ List.replicate ((rd_T27 m n).f1.toNat - l.length) 0
def NewA (m : List S27) (n : Int) (l : List Int) (w w' : World) (e : Ending) : Prop :=
 (okN m n l = false ∧ e = .returned (.tuple #[.agg #[.int .i64 0, .int .i64 0, .int .i64 0, .slice none 0 0, .int .u16 0], .int .i64 1])) ∨
 (okN m n l = true ∧ ∃ v, e = .returned (.tuple #[.agg #[.int .i64 n, .int .i64 0, .int .i64 0, v, .int .u16 0], .int .i64 0]) ∧ Kd.R (Kd.int .u16) 44 w' w.heap.size (fun _ => True) v (newR m n l))
theorem okF_size {m : List S27} {n : Int} (h : okF m n = true) : 0 ≤ (rd_T27 m n).f0 ∧ (rd_T27 m n).f0 ≤ 8 ∧ (rd_T27 m n).f0 ≤ (rd_T27 m n).f1 ∧ (rd_T27 m n).f1 ≤ 256 := by
 unfold okF at h
 rw [Bool.and_eq_true] at h
 obtain ⟨h1, h2⟩ := h
 have h3 := win_at h2
 have hm := rd_mem' m z27 n h3.1 h3.2
 unfold rightR at h1
 simp only [Bool.and_eq_true, List.all_eq_true] at h1
 have h4 := h1.2 _ hm
 unfold funcR sizeR at h4
 simp only [Bool.and_eq_true, decide_eq_true_eq] at h4
 exact ⟨h4.1.1.1.1.1.1.1, h4.1.1.1.1.1.1.2, h4.1.1.1.1.1.2, h4.1.1.1.1.2⟩
theorem blk_new2 (w : World) (a b : Obj) : ((w.alloc a).alloc b).heap[w.heap.size + 1]? = some b := by
 have := blk_new (w.alloc a) b
 rwa [show (w.alloc a).heap.size = w.heap.size + 1 from Array.size_push _] at this
theorem made_nums (R : Nat) : madeCells #[.int .u16 0] R = (nums .u16 (List.replicate R 0)).toArray := by
 apply Array.toList_inj.1
 apply List.ext_getElem
 ·simp [nums, madeCells]
 ·intro i h1 h2
  simp [nums, madeCells, Nat.mod_one]
theorem row_R {w : World} {base g n : Nat} {xs : List Int} (hb : base ≤ g) (hn : xs.length = n) (hm : n ≤ 1000000) (h : w.heap[g]? = some (.cells (nums .u16 xs).toArray 44 (0, 0))) : Kd.R (Kd.int .u16) 44 w base (fun _ => True) (.slice (some ⟨g, 0, none⟩) n n) xs := by
 subst hn
 refine Kd.R_of_own ⟨by simp [encs], .inr ⟨g, xs.length, (nums .u16 xs).toArray, rfl, hb, h, Nat.le_refl _, by simp [maxLen]; omega, by simp [nums], by simp [nums, encs]; exact List.take_of_length_le (by simp)⟩⟩ (fun _ _ => trivial)
theorem new_row (R : Nat) (l : List Int) (h : l.length ≤ R) : ((nums .u16 (List.replicate R 0)).toArray.toList.take 0 ++ (nums .u16 l ++ (nums .u16 (List.replicate R 0)).toArray.toList.drop (0 + (nums .u16 l).length))).toArray = (nums .u16 (l ++ List.replicate (R - l.length) 0)).toArray := by
 simp [nums]
set_option maxHeartbeats 16000000 in
set_option maxRecDepth 100000 in
theorem new_l (m : List S27) (A0 : Option Addr) (c0 : Nat) (n : Int) (A2 : Option Addr) (c2 : Nat) (l : List Int) (w : World) (hm : Kd.C k27 w A0 m.length m) (hb : Bnd m) (hl : Kd.C (Kd.int .u16) w A2 l.length l) :
  Calls Try.prog 34 #[.agg #[.slice A0 m.length c0], .int .i64 n, .slice A2 l.length c2] w fun e w' => NewA m n l w w' e ∧ Below w.heap.size w w' := by
 have HM := Aside0.mk hm
 have HN := Aside0.mk hb
 have HL := Aside0.mk hl
 clear hm hb hl
 have hu24 := Try.underlying24
 have hu27 := Try.underlying27
 have hu55 := Try.underlying55
 have hu41 := Try.underlying41
 go_enter Try.func34, Try.ntmps34
 go_upto_region 1 with (first | ((with_reducible refine gate_dst (N := 3) rfl ?_); refine box_event ?hg (N := 3) ?hd (cs := #[.slice A0 m.length c0]) (t := 24) ?hr ?_; (case hd => rfl); (case hg => rfl); (case hr => first | (go_simp; done) | (go_simp; rfl)); intro g1 hg w1 hbox hb; have HB := Aside0.mk hb; have X1 := Aside0.mk hbox; clear hbox hb hg; have k0 := (blk_cell X1.out 0).trans rfl) | ((with_reducible refine gate_dst (N := 6) rfl ?_); refine box_event ?hg (N := 6) ?hd (cs := #[.int .i64 0, .int .i64 0, .int .i64 0, .slice none 0 0, .int .u16 0]) (t := 55) ?hr ?_; (case hd => rfl); (case hg => rfl); (case hr => first | (go_simp; done) | (go_simp; rfl)); intro g2 hg w2 hbox hb; have HLX2 := Aside0.mk (show w.heap.size ≤ g2 by rw [hg]; exact HB.out.size); have n0_ := Aside0.mk (below_step HB.out hb); have n1_ := Aside0.mk (blk_below X1.out hb); clear HB X1; have HB := n0_; have X1 := n1_; clear n0_ n1_; have X2 := Aside0.mk hbox; clear hbox hb hg; have r0 := (blk_cell X2.out 0).trans rfl; have r1 := (blk_cell X2.out 1).trans rfl; have r2 := (blk_cell X2.out 2).trans rfl; have r3 := (blk_cell X2.out 3).trans rfl; have r4 := (blk_cell X2.out 4).trans rfl; have zr0 := blk_frozen X2.out 0; have zr1 := blk_frozen X2.out 1; have zr2 := blk_frozen X2.out 2; have zr3 := blk_frozen X2.out 3; have zr4 := blk_frozen X2.out 4; clear k0; have k0 := (blk_cell X1.out 0).trans rfl))
 go_cut [8, 9] (fun v8 v9 wc => ∃ g5 : Nat, v8 = .pointer (some ⟨g5, 0, none⟩) ∧ v9 = .bool (okF m n) ∧ Aside0 (Below w.heap.size w wc) ∧ Aside0 (wc.heap[g2]? = some (.cells #[.int .i64 0, .int .i64 0, .int .i64 0, .slice none 0 0, .int .u16 0] 55 (0, 0))) ∧ Aside0 (∃ a b A1 k c1, wc.heap[g5]? = some (.cells #[.int .i64 a, .int .i64 b, .slice A1 k c1] 27 (0, 0)) ∧ FunB m n wc a b A1 k c1))
 case first =>
  go_wp2_with (go_at_call 76; (with_reducible refine (fun_l m A0 c0 n _ (Kd.C_below HM.out HB.out) HN.out).mono ?_); rintro e w6 ⟨⟨a, b, A1, k, c1, rfl, hf⟩, hb⟩; have HF := Aside0.mk (hf.mv hb); clear hf; clear r0 zr0 r1 zr1 r2 zr2 r3 zr3 r4 zr4; have n0_ := Aside0.mk (below_step HB.out hb); have n1_ := Aside0.mk (blk_below X2.out hb); clear HB X2; have HB := n0_; have X2 := n1_; clear n0_ n1_; clear hb)
  go_meet
  exact ⟨_, rfl, rfl, ⟨below_alloc HB.out _⟩, ⟨blk_alloc X2.out _⟩, ⟨_, _, _, _, _, blk_new _ _, HF.out.mv (below_alloc (Below.refl _ _) _)⟩⟩
 case rest =>
  clear HB X2 X1 k0; clear r0 zr0 r1 zr1 r2 zr2 r3 zr3 r4 zr4
  obtain ⟨g5, rfl, rfl, HB, X2, HF⟩ := hcut
  obtain ⟨a, b, A1, k, c1, hx, hf⟩ := HF.out
  have X5 := Aside0.mk hx
  clear HF hx
  have r0 := (blk_cell X2.out 0).trans rfl
  have r1 := (blk_cell X2.out 1).trans rfl
  have r2 := (blk_cell X2.out 2).trans rfl
  have r3 := (blk_cell X2.out 3).trans rfl
  have r4 := (blk_cell X2.out 4).trans rfl
  have zr0 := blk_frozen X2.out 0
  have zr1 := blk_frozen X2.out 1
  have zr2 := blk_frozen X2.out 2
  have zr3 := blk_frozen X2.out 3
  have zr4 := blk_frozen X2.out 4
  have q0 := (blk_cell X5.out 0).trans rfl
  have q1 := (blk_cell X5.out 1).trans rfl
  have q2 := (blk_cell X5.out 2).trans rfl
  rcases hf with ⟨hv, rfl, rfl, rfl, rfl, rfl⟩ | ⟨hv, rfl, rfl, rfl, hC⟩
  ·have HV := Aside0.mk (show okN m n l = false by unfold okN; rw [hv]; rfl)
   rw [hv]
   clear hv
   go_wp2
   refine bodyPost_ret (results_ct rfl _ _ g2 55 #[.int .i64 0, .int .i64 0, .int .i64 0, .slice none 0 0, .int .u16 0] (0, 0) _ rfl (set_blk _ _ (set_blk _ _ (set_blk _ _ (set_blk _ _ (set_blk _ _ (X2.out) rfl) rfl) rfl) rfl) rfl) Try.underlying55 rfl (by kernel_rfl)) rfl ?_
   exact ⟨.inl ⟨HV.out, rfl⟩, below_set (below_set (below_set (below_set (below_set (HB.out) HLX2.out) HLX2.out) HLX2.out) HLX2.out) HLX2.out⟩
  have HS := Aside0.mk (okF_size hv)
  have HVV := Aside0.mk hv
  clear hC
  cases b2 : ((l.length : Int) == (rd_T27 m n).f0) with
  | false =>
   have b3 : ((l.length : Int) != (rd_T27 m n).f0) = true := by rw [bne, b2]; rfl
   have HV := Aside0.mk (show okN m n l = false by unfold okN; rw [hv, decide_eq_false (beq_eq_false_iff_ne.1 b2)]; rfl)
   rw [hv]
   clear hv
   go_wp2
   refine bodyPost_ret (results_ct rfl _ _ g2 55 #[.int .i64 0, .int .i64 0, .int .i64 0, .slice none 0 0, .int .u16 0] (0, 0) _ rfl (set_blk _ _ (set_blk _ _ (set_blk _ _ (set_blk _ _ (set_blk _ _ (X2.out) rfl) rfl) rfl) rfl) rfl) Try.underlying55 rfl (by kernel_rfl)) rfl ?_
   exact ⟨.inl ⟨HV.out, rfl⟩, below_set (below_set (below_set (below_set (below_set (HB.out) HLX2.out) HLX2.out) HLX2.out) HLX2.out) HLX2.out⟩
  | true =>
   have b3 : ((l.length : Int) != (rd_T27 m n).f0) = false := by rw [bne, b2]; rfl
   have HV := Aside0.mk (show okN m n l = true by unfold okN; rw [hv, decide_eq_true (beq_iff_eq.1 b2)]; rfl)
   have HE := Aside0.mk (show (l.length : Int) = (rd_T27 m n).f0 from beq_iff_eq.1 b2)
   rw [hv]
   clear hv
   obtain ⟨R, hR⟩ : ∃ R : Nat, (rd_T27 m n).f1 = R := ⟨(rd_T27 m n).f1.toNat, by have := HS.out; omega⟩
   have HR := Aside0.mk hR
   rw [hR] at q1
   have HLR := Aside0.mk (show l.length ≤ R ∧ R ≤ 256 by have := HS.out; have := HE.out; omega)
   clear hR
   have hmk : ∀ W : World, (Instr.makeSlice 33 (.int .i64 (R : Int)) (.int .i64 (R : Int))).run Try.prog W = .ok (.slice (some ⟨W.heap.size, 0, none⟩) R R) (W.alloc (.cells (madeCells #[.int .u16 0] R) 44)) := by
    intro W
    obtain ⟨i0, hi, hzz⟩ := Option.map_eq_some_iff.1 info44
    simp only [Prod.mk.injEq] at hzz
    obtain ⟨hz0, hz1, hz2⟩ := hzz
    have := run_make (P := Try.prog) W 33 44 i0 _ Try.underlying33 hi hz0 .i64 .i64 (R : Int) (R : Int) (by omega) (by omega) (by rw [hz2]; have := HLR.out; omega) (by have := HLR.out; omega)
    rw [hz1] at this
    simpa [Value.cells] using this
   have HW := Aside0.mk (show newR m n l = l ++ List.replicate (R - l.length) 0 by unfold newR; rw [HR.out, Int.toNat_natCast])
   go_upto_region 4 with (fail)
   go_cut [10] (fun v10 wc => ∃ g7 gM : Nat, v10 = .pointer (some ⟨g7, 0, none⟩) ∧ Aside0 (Below w.heap.size w wc) ∧ Aside0 (wc.heap[g2]? = some (.cells #[.int .i64 0, .int .i64 0, .int .i64 0, .slice none 0 0, .int .u16 0] 55 (0, 0))) ∧ Aside0 (wc.heap[g7]? = some (.cells #[.int .i64 n, .int .i64 0, .int .i64 0, .slice (some ⟨gM, 0, none⟩) R R, .int .u16 0] 55 (0, 0))) ∧ Aside0 (wc.heap[gM]? = some (.cells (nums .u16 (List.replicate R 0)).toArray 44 (0, 0))) ∧ Aside0 (w.heap.size ≤ gM ∧ g2 ≠ gM ∧ g7 ≠ gM))
   case first =>
    go_wp2
    go_meet
    exact ⟨_, wc.heap.size, rfl, ⟨below_alloc (below_alloc HB.out _) _⟩, ⟨blk_alloc (blk_alloc X2.out _) _⟩, ⟨blk_new2 _ _ _⟩, ⟨by rw [← made_nums]; exact blk_alloc (blk_new _ _) _⟩, ⟨HB.out.size, Nat.ne_of_lt (blk_lt X2.out), by simp⟩⟩
   case rest =>
    clear HB X2 X5 hmk q0 q1 q2
    clear r0 zr0 r1 zr1 r2 zr2 r3 zr3 r4 zr4
    obtain ⟨g7, gM, rfl, HB, X2, X7, XM, HG⟩ := hcut
    have q0 := (blk_cell X7.out 0).trans rfl
    have q1 := (blk_cell X7.out 1).trans rfl
    have q2 := (blk_cell X7.out 2).trans rfl
    have q3 := (blk_cell X7.out 3).trans rfl
    have q4 := (blk_cell X7.out 4).trans rfl
    go_upto_region 5 with (fail)
    go_cut [] (fun wc => Aside0 (Below w.heap.size w wc) ∧ Aside0 (wc.heap[g2]? = some (.cells #[.int .i64 0, .int .i64 0, .int .i64 0, .slice none 0 0, .int .u16 0] 55 (0, 0))) ∧ Aside0 (wc.heap[g7]? = some (.cells #[.int .i64 n, .int .i64 0, .int .i64 0, .slice (some ⟨gM, 0, none⟩) R R, .int .u16 0] 55 (0, 0))) ∧ Aside0 (wc.heap[gM]? = some (.cells (nums .u16 (l ++ List.replicate (R - l.length) 0)).toArray 44 (0, 0))))
    case first =>
     by_cases h0 : l.length = 0
     ·have HE0 := Aside0.mk (List.eq_nil_of_length_eq_zero h0)
      go_wp2_with ((with_reducible refine gate_builtin (b := .copy) (xs := #[.tmp 33, .tmp 34]) rfl ?_); go_loud (refine wpList_copy_nothing rfl (.tmp 33) (.tmp 34) 33 33 rfl 44 Try.underlying33 (by kernel_rfl) _ _ _ _ _ _ rfl rfl (by have := HE0.out; subst this; simp) ?_))
      go_meet
      exact ⟨HB, X2, X7, ⟨by have h_ := HE0.out; subst h_; exact XM.out⟩⟩
     ·obtain ⟨ad, e1, hrow⟩ : ∃ ad, A2 = some ad ∧ ∀ j v, (nums .u16 l)[j]? = some v → wc.cell? (ad.add j) = some v := by
       obtain ⟨ad, e1, _⟩ := Kd.at_int (Kd.C_below HL.out HB.out) 0 (by omega) (by omega)
       refine ⟨ad, e1, fun j v hj => ?_⟩
       have hjl : j < l.length := by have := (List.getElem?_eq_some_iff.1 hj).1; simpa [nums] using this
       obtain ⟨ad', e', hc⟩ := Kd.at_int (Kd.C_below HL.out HB.out) (j : Int) (by omega) (by omega)
       rw [e1] at e'
       cases e'
       have hv : v = .int .u16 (l.getD j 0) := by simp [nums, hjl] at hj; rw [← hj]; simp [List.getD_eq_getElem?_getD, hjl]
       rw [hv]
       simpa [rd] using hc
      subst e1
      have HROW := Aside0.mk hrow
      clear hrow h0
      go_wp2_with ((with_reducible refine gate_builtin (b := .copy) (xs := #[.tmp 33, .tmp 34]) rfl ?_); go_loud (refine wpList_copy_own rfl (.tmp 33) (.tmp 34) 33 33 rfl 44 Try.underlying33 (by kernel_rfl) gM 0 R R ad l.length c2 rfl rfl _ 44 XM.out (nums .u16 l) (by rw [show Nat.min l.length R = l.length from Nat.min_eq_left HLR.out.1]; simp [nums]) HROW.out (by have := HLR.out; simp [nums]; omega) (by intro v hv; simp [nums] at hv; obtain ⟨x, _, rfl⟩ := hv; rfl) ?_))
      go_meet
      refine ⟨⟨below_setRow HB.out HG.out.1 _⟩, ⟨(setRow_other _ _ _ _ HG.out.2.1).trans X2.out⟩, ⟨(setRow_other _ _ _ _ HG.out.2.2).trans X7.out⟩, ⟨?_⟩⟩
      rw [← new_row R l HLR.out.1]
      exact setRow_heap _ _ _ _ _ _ XM.out
    case rest =>
     clear HB X2 X7 XM q0 q1 q2 q3 q4
     obtain ⟨HB, X2, X7, XM⟩ := hcut
     have r0 := (blk_cell X2.out 0).trans rfl
     have r1 := (blk_cell X2.out 1).trans rfl
     have r2 := (blk_cell X2.out 2).trans rfl
     have r3 := (blk_cell X2.out 3).trans rfl
     have r4 := (blk_cell X2.out 4).trans rfl
     have zr0 := blk_frozen X2.out 0
     have zr1 := blk_frozen X2.out 1
     have zr2 := blk_frozen X2.out 2
     have zr3 := blk_frozen X2.out 3
     have zr4 := blk_frozen X2.out 4
     have q0 := (blk_cell X7.out 0).trans rfl
     have q1 := (blk_cell X7.out 1).trans rfl
     have q2 := (blk_cell X7.out 2).trans rfl
     have q3 := (blk_cell X7.out 3).trans rfl
     have q4 := (blk_cell X7.out 4).trans rfl
     go_wp2
     refine bodyPost_ret (results_ct rfl _ _ g2 55 #[.int .i64 n, .int .i64 0, .int .i64 0, .slice (some ⟨gM, 0, none⟩) R R, .int .u16 0] (0, 0) _ rfl (set_blk _ _ (set_blk _ _ (set_blk _ _ (set_blk _ _ (set_blk _ _ (X2.out) rfl) rfl) rfl) rfl) rfl) Try.underlying55 rfl (by kernel_rfl)) rfl ?_
     refine ⟨.inr ⟨HV.out, _, rfl, ?_⟩, below_set (below_set (below_set (below_set (below_set (HB.out) HLX2.out) HLX2.out) HLX2.out) HLX2.out) HLX2.out⟩
     rw [HW.out]
     exact row_R HG.out.1 (by have := HLR.out; simp; omega) (by have := HLR.out; omega) (blk_far (blk_far (blk_far (blk_far (blk_far XM.out (p := ⟨g2, 0, none⟩) HG.out.2.1.symm _) (p := ⟨g2, 1, none⟩) HG.out.2.1.symm _) (p := ⟨g2, 2, none⟩) HG.out.2.1.symm _) (p := ⟨g2, 3, none⟩) HG.out.2.1.symm _) (p := ⟨g2, 4, none⟩) HG.out.2.1.symm _)
end Go.Proofs.Ytbfialebaoeicaa.X
namespace Go.Proofs.Ytbfialebaoeicaa.X
open Go.RowKit Go.Proofs.YtbfialebaoeicaaW.PrintWords Go.Proofs.YtbfialebaoeicaaW.PrintLast Go.Proofs.YtbfialebaoeicaaW.PrintMore
attribute [local go_sem] max2_int min2_int max_two min_two max_three min_three max_four min_four
set_option linter.all false
noncomputable section
def frame_copied.f (a0_0 : Int) (a0_1 : Int) (a0_2 : Int) (l0_3 : List Int) (a0_4 : Int) : Option (Int × Int × Int × List Int × Int) := (slices_Clone_uint16_uint16.f l0_3).bind fun t103 => (some (a0_0, a0_1, a0_2, t103, a0_4))
set_option maxHeartbeats 8000000 in
set_option maxRecDepth 100000 in
theorem frame_copied.calls (a0_0 : Int) (a0_1 : Int) (a0_2 : Int) (A0_3 : Option Addr) (c0_3 : Nat) (l0_3 : List Int) (a0_4 : Int) (r1 : Int) (r2 : Int) (r3 : Int) (r4 : List Int) (r5 : Int) (w : World) (hr0_3 : Kd.C (Kd.int .u16) w A0_3 l0_3.length l0_3) (hc0_3 : l0_3.length ≤ c0_3) (h : frame_copied.f a0_0 a0_1 a0_2 l0_3 a0_4 = some (r1, r2, r3, r4, r5)) :
  Calls Try.prog 69 #[.agg #[.int .i64 a0_0, .int .i64 a0_1, .int .i64 a0_2, .slice A0_3 l0_3.length c0_3, .int .u16 a0_4]] w fun e w' => ∃ v3_ : Value, e = .returned (.agg #[.int .i64 r1, .int .i64 r2, .int .i64 r3, v3_, .int .u16 r5]) ∧ Kd.R (Kd.int .u16) 44 w' w.heap.size (fun _ => True) v3_ r4 ∧ Below w.heap.size w w' := by
 have hu55 := Try.underlying55
 have HR0_3 := Aside0.mk hr0_3
 have HC0_3 := Aside0.mk hc0_3
 clear hr0_3 hc0_3
 have HB := Aside0.mk (Below.refl w.heap.size w)
 have H : ((slices_Clone_uint16_uint16.f l0_3).bind fun t103 => (some (a0_0, a0_1, a0_2, t103, a0_4))) = some (r1, r2, r3, r4, r5) := h
 clear h
 replace H := Option.bind_eq_some_iff.mp H
 obtain ⟨t103, A20, H⟩ := H
 replace H : (some (a0_0, a0_1, a0_2, t103, a0_4)) = some (r1, r2, r3, r4, r5) := H
 have A2 := Aside0.mk A20
 clear A20
 simp only [Option.some.injEq, Prod.mk.injEq] at H
 obtain ⟨rfl, rfl, rfl, rfl, rfl⟩ := H
 go_enter Try.func69, Try.ntmps69
 go_wp2_with (first | ((with_reducible refine gate_dst (N := 1) rfl ?_); refine box_event ?hg (N := 1) ?hd (cs := #[.int .i64 a0_0, .int .i64 a0_1, .int .i64 a0_2, .slice A0_3 l0_3.length c0_3, .int .u16 a0_4]) (t := 55) ?hr ?_; (case hd => rfl); (case hg => rfl); (case hr => first | (go_simp; done) | (go_simp; rfl)); intro gb101 hg w3 hbox hb; have n0_ := Aside0.mk (below_step (by repeat (first | (with_reducible first | exact HB.out | apply below_alloc | apply pw_below_drewN | apply below_drew1) | exact HB.out)) hb); have n1_ := Aside0.mk (hbox); have n2_ := Aside0.mk ((by rw [hg]; exact (below_size (by repeat (first | (with_reducible first | exact HB.out | apply below_alloc | apply pw_below_drewN | apply below_drew1) | exact HB.out))) : w.heap.size ≤ gb101)); have n3_ := Aside0.mk ((by rw [hg]; exact (below_size (by repeat (first | (with_reducible first | exact HB.out | apply below_alloc | apply pw_below_drewN | apply below_drew1) | exact HB.out))) : w.heap.size ≤ gb101)); clear HB; have HB := n0_; have BK101 := n1_; have GW101 := n2_; have GE101 := n3_; clear n0_ n1_ n2_ n3_; clear hb hbox hg) | ((with_reducible refine gate_dst (N := 2) rfl ?_); refine box_event ?hg (N := 2) ?hd (cs := #[.int .i64 0, .int .i64 0, .int .i64 0, .slice none 0 0, .int .u16 0]) (t := 55) ?hr ?_; (case hd => rfl); (case hg => rfl); (case hr => first | (go_simp; done) | (go_simp; rfl)); intro gb102 hg w4 hbox hb; have n0_ := Aside0.mk (blk_below (g := gb101) (o := .cells #[.int .i64 a0_0, .int .i64 a0_1, .int .i64 a0_2, .slice A0_3 l0_3.length c0_3, .int .u16 a0_4] 55 (0, 0)) (by (with_reducible repeat (first | refine blk_drewN ?_ _ | refine blk_drew ?_ | refine blk_alloc ?_ _)); exact BK101.out) hb); have n1_ := Aside0.mk (below_step (by repeat (first | (with_reducible first | exact HB.out | apply below_alloc | apply pw_below_drewN | apply below_drew1 | refine below_set ?_ GE101.out) | exact HB.out)) hb); have n2_ := Aside0.mk (hbox); have n3_ := Aside0.mk ((by rw [hg]; exact (below_size (by repeat (first | (with_reducible first | exact HB.out | apply below_alloc | apply pw_below_drewN | apply below_drew1 | refine below_set ?_ GE101.out) | exact HB.out))) : w.heap.size ≤ gb102)); have n4_ := Aside0.mk ((by rw [hg]; exact (below_size (by repeat (first | (with_reducible first | exact HB.out | apply below_alloc | apply pw_below_drewN | apply below_drew1 | refine below_set ?_ GE101.out) | exact HB.out))) : w.heap.size ≤ gb102)); have n5_ := Aside0.mk ((by rw [hg]; exact Nat.ne_of_lt (blk_lt (g := gb101) (o := .cells #[.int .i64 a0_0, .int .i64 a0_1, .int .i64 a0_2, .slice A0_3 l0_3.length c0_3, .int .u16 a0_4] 55 (0, 0)) (by (with_reducible repeat (first | refine blk_drewN ?_ _ | refine blk_drew ?_ | refine blk_alloc ?_ _)); exact BK101.out)) : gb101 ≠ gb102)); have n6_ := Aside0.mk ((by rw [hg]; exact Nat.ne_of_gt (blk_lt (g := gb101) (o := .cells #[.int .i64 a0_0, .int .i64 a0_1, .int .i64 a0_2, .slice A0_3 l0_3.length c0_3, .int .u16 a0_4] 55 (0, 0)) (by (with_reducible repeat (first | refine blk_drewN ?_ _ | refine blk_drew ?_ | refine blk_alloc ?_ _)); exact BK101.out)) : gb102 ≠ gb101)); clear BK101; clear HB; have BK101 := n0_; have HB := n1_; have BK102 := n2_; have GW102 := n3_; have GE102 := n4_; have NB101_102 := n5_; have NB102_101 := n6_; clear n0_ n1_ n2_ n3_ n4_ n5_ n6_; clear hb hbox hg; have hnb5 := NB101_102.out; have hnc5 := NB102_101.out; have hcz6_0 : w4.cell? ⟨gb101, 0, none⟩ = some (.int .i64 a0_0) := (blk_cell BK101.out 0).trans rfl; have hcz6_1 : w4.cell? ⟨gb101, 1, none⟩ = some (.int .i64 a0_1) := (blk_cell BK101.out 1).trans rfl; have hcz6_2 : w4.cell? ⟨gb101, 2, none⟩ = some (.int .i64 a0_2) := (blk_cell BK101.out 2).trans rfl; have hcz6_3 : w4.cell? ⟨gb101, 3, none⟩ = some (.slice A0_3 l0_3.length c0_3) := (blk_cell BK101.out 3).trans rfl; have hcz6_4 : w4.cell? ⟨gb101, 4, none⟩ = some (.int .u16 a0_4) := (blk_cell BK101.out 4).trans rfl; have hfz6_0 := blk_frozen BK101.out 0; have hfz6_1 := blk_frozen BK101.out 1; have hfz6_2 := blk_frozen BK101.out 2; have hfz6_3 := blk_frozen BK101.out 3; have hfz6_4 := blk_frozen BK101.out 4) | ((with_reducible refine gate_callee (f := 61) rfl ?_); refine goesL_ (some 5) rfl rfl Try.func61 (by kernel_rfl) rfl #[.slice A0_3 l0_3.length c0_3] rfl (by (try simp only [List.map_toArray, List.map_cons, List.map_nil]); first | done | rfl | (simp only [List.length_drop, List.length_take]; rfl)) ?_; (with_reducible refine (slices_Clone_uint16_uint16.calls _ _ l0_3 t103 _ ?side1 ?side2 A2.out).mono ?_); (case side1 => repeat (first | exact (Kd.C_below HR0_3.out HB.out) | (with_reducible refine Kd.C_alloc ?_ _) | (with_reducible refine Kd.C_drewN ?_ _) | (with_reducible refine Kd.C_drew ?_))); (case side2 => exact HC0_3.out); rintro e w7 ⟨v104, rfl, ho0, hb⟩; refine ⟨_, rfl, ?_⟩; have n0_ := Aside0.mk (Kd.R_lower ho0 (below_size (by repeat (first | (with_reducible first | exact HB.out | apply below_alloc | apply pw_below_drewN | apply below_drew1 | refine below_set ?_ GE101.out | refine below_set ?_ GE102.out) | exact HB.out)))); have n1_ := Aside0.mk (blk_below (g := gb101) (o := .cells #[.int .i64 a0_0, .int .i64 a0_1, .int .i64 a0_2, .slice A0_3 l0_3.length c0_3, .int .u16 a0_4] 55 (0, 0)) (by (with_reducible repeat (first | refine blk_drewN ?_ _ | refine blk_drew ?_ | refine blk_alloc ?_ _)); exact BK101.out) hb); have n2_ := Aside0.mk (blk_below (g := gb102) (o := .cells #[.int .i64 0, .int .i64 0, .int .i64 0, .slice none 0 0, .int .u16 0] 55 (0, 0)) (by (with_reducible repeat (first | refine blk_drewN ?_ _ | refine blk_drew ?_ | refine blk_alloc ?_ _)); exact BK102.out) hb); have n3_ := Aside0.mk (below_step (by repeat (first | (with_reducible first | exact HB.out | apply below_alloc | apply pw_below_drewN | apply below_drew1 | refine below_set ?_ GE101.out | refine below_set ?_ GE102.out) | exact HB.out)) hb); clear BK101; clear BK102; clear HB; have HO105 := n0_; have BK101 := n1_; have BK102 := n2_; have HB := n3_; clear n0_ n1_ n2_ n3_; (try clear hb); (try clear hb2); (try clear hk); (try clear hi); (try clear ho0); obtain ⟨Ao8, co8, eo8⟩ := Kd.R_slice HO105.out; subst eo8; have hcz9_0 : w7.cell? ⟨gb101, 0, none⟩ = some (.int .i64 a0_0) := (blk_cell BK101.out 0).trans rfl; have hcz9_1 : w7.cell? ⟨gb101, 1, none⟩ = some (.int .i64 a0_1) := (blk_cell BK101.out 1).trans rfl; have hcz9_2 : w7.cell? ⟨gb101, 2, none⟩ = some (.int .i64 a0_2) := (blk_cell BK101.out 2).trans rfl; have hcz9_3 : w7.cell? ⟨gb101, 3, none⟩ = some (.slice A0_3 l0_3.length c0_3) := (blk_cell BK101.out 3).trans rfl; have hcz9_4 : w7.cell? ⟨gb101, 4, none⟩ = some (.int .u16 a0_4) := (blk_cell BK101.out 4).trans rfl; have hfz9_0 := blk_frozen BK101.out 0; have hfz9_1 := blk_frozen BK101.out 1; have hfz9_2 := blk_frozen BK101.out 2; have hfz9_3 := blk_frozen BK101.out 3; have hfz9_4 := blk_frozen BK101.out 4; have hcz10_0 : w7.cell? ⟨gb102, 0, none⟩ = some (.int .i64 0) := (blk_cell BK102.out 0).trans rfl; have hcz10_1 : w7.cell? ⟨gb102, 1, none⟩ = some (.int .i64 0) := (blk_cell BK102.out 1).trans rfl; have hcz10_2 : w7.cell? ⟨gb102, 2, none⟩ = some (.int .i64 0) := (blk_cell BK102.out 2).trans rfl; have hcz10_3 : w7.cell? ⟨gb102, 3, none⟩ = some (.slice none 0 0) := (blk_cell BK102.out 3).trans rfl; have hcz10_4 : w7.cell? ⟨gb102, 4, none⟩ = some (.int .u16 0) := (blk_cell BK102.out 4).trans rfl; have hfz10_0 := blk_frozen BK102.out 0; have hfz10_1 := blk_frozen BK102.out 1; have hfz10_2 := blk_frozen BK102.out 2; have hfz10_3 := blk_frozen BK102.out 3; have hfz10_4 := blk_frozen BK102.out 4))
 refine bodyPost_ret (results_cell_row rfl _ _ gb102 55 #[.int .i64 a0_0, .int .i64 a0_1, .int .i64 a0_2, .slice Ao8 t103.length co8, .int .u16 a0_4] (0, 0) _ rfl (by (with_reducible repeat (first | refine blk_drewN ?_ _ | refine blk_drew ?_ | refine blk_alloc ?_ _)); refine blk_put (cs := #[.int .i64 a0_0, .int .i64 a0_1, .int .i64 a0_2, .slice Ao8 t103.length co8, .int .u16 0]) ?_ 4 _ rfl; (with_reducible repeat (first | refine blk_drewN ?_ _ | refine blk_drew ?_ | refine blk_alloc ?_ _)); refine blk_put (cs := #[.int .i64 a0_0, .int .i64 a0_1, .int .i64 a0_2, .slice none 0 0, .int .u16 0]) ?_ 3 _ rfl; (with_reducible repeat (first | refine blk_drewN ?_ _ | refine blk_drew ?_ | refine blk_alloc ?_ _)); refine blk_put (cs := #[.int .i64 a0_0, .int .i64 a0_1, .int .i64 0, .slice none 0 0, .int .u16 0]) ?_ 2 _ rfl; (with_reducible repeat (first | refine blk_drewN ?_ _ | refine blk_drew ?_ | refine blk_alloc ?_ _)); refine blk_put (cs := #[.int .i64 a0_0, .int .i64 0, .int .i64 0, .slice none 0 0, .int .u16 0]) ?_ 1 _ rfl; (with_reducible repeat (first | refine blk_drewN ?_ _ | refine blk_drew ?_ | refine blk_alloc ?_ _)); refine blk_put (cs := #[.int .i64 0, .int .i64 0, .int .i64 0, .slice none 0 0, .int .u16 0]) ?_ 0 _ rfl; (with_reducible repeat (first | refine blk_drewN ?_ _ | refine blk_drew ?_ | refine blk_alloc ?_ _)); refine blk_far ?_ NB102_101.out _; (with_reducible repeat (first | refine blk_drewN ?_ _ | refine blk_drew ?_ | refine blk_alloc ?_ _)); exact BK102.out) Try.underlying55 rfl (by kernel_rfl)) rfl ?_
 exact ⟨_, by first | rfl | (simp [errW_none, errW_some] <;> rfl) | (simp [*, errW_none, errW_some] <;> rfl), by (with_reducible repeat (first | apply Kd.R_alloc | apply Kd.R_drewN | apply Kd.R_drew)); exact Kd.R_mono (Kd.R_far (p := ⟨gb102, 4, none⟩) (Kd.R_far (p := ⟨gb102, 3, none⟩) (Kd.R_far (p := ⟨gb102, 2, none⟩) (Kd.R_far (p := ⟨gb102, 1, none⟩) (Kd.R_far (p := ⟨gb102, 0, none⟩) (Kd.R_far (p := ⟨gb101, 3, none⟩) (Kd.R_types (Kd.R_types HO105.out BK101.out (by decide)) BK102.out (by decide)) (fun _ hk => hk.1.2) (.slice Ao8 t103.length co8)) (fun _ hk => hk.2) (.int .i64 a0_0)) (fun _ hk => hk.2) (.int .i64 a0_1)) (fun _ hk => hk.2) (.int .i64 a0_2)) (fun _ hk => hk.2) (.slice Ao8 t103.length co8)) (fun _ hk => hk.2) (.int .u16 a0_4)) (fun _ hk => trivial), by repeat (first | (with_reducible first | exact HB.out | apply below_alloc | apply pw_below_drewN | apply below_drew1 | refine below_set ?_ GE101.out | refine below_set ?_ GE102.out) | exact HB.out)⟩
end
end Go.Proofs.Ytbfialebaoeicaa.X
namespace Go.Proofs.Ytbfialebaoeicaa.X
open Go.RowKit Go.Proofs.YtbfialebaoeicaaW.PrintWords Go.Proofs.YtbfialebaoeicaaW.PrintLast Go.Proofs.YtbfialebaoeicaaW.PrintMore
attribute [local go_sem] max2_int min2_int max_two min_two max_three min_three max_four min_four
set_option linter.all false
noncomputable section
def frame_at.f (a0_0 : Int) (a0_1 : Int) (a0_2 : Int) (l0_3 : List Int) (a0_4 : Int) (a1 : Int) : Option (Int × Bool) := if a1 < 0 then (some (0, false)) else (if a1 ≥ (l0_3.length : Int) then (some (0, false)) else (if 0 ≤ a1 then (if a1 < (l0_3.length : Int) then (some (rd l0_3 a1, true)) else (none)) else (none)))
set_option maxHeartbeats 8000000 in
set_option maxRecDepth 100000 in
theorem frame_at.calls (a0_0 : Int) (a0_1 : Int) (a0_2 : Int) (A0_3 : Option Addr) (c0_3 : Nat) (l0_3 : List Int) (a0_4 : Int) (a1 : Int) (r1 : Int) (r2 : Bool) (w : World) (hr0_3 : Kd.C (Kd.int .u16) w A0_3 l0_3.length l0_3) (hc0_3 : l0_3.length ≤ c0_3) (h : frame_at.f a0_0 a0_1 a0_2 l0_3 a0_4 a1 = some (r1, r2)) :
  Calls Try.prog 71 #[.agg #[.int .i64 a0_0, .int .i64 a0_1, .int .i64 a0_2, .slice A0_3 l0_3.length c0_3, .int .u16 a0_4], .int .i64 a1] w fun e w' => e = .returned (.tuple #[.int .u16 r1, .bool r2]) ∧ Below w.heap.size w w' := by
 have hu55 := Try.underlying55
 have HR0_3 := Aside0.mk hr0_3
 have HC0_3 := Aside0.mk hc0_3
 clear hr0_3 hc0_3
 have HB := Aside0.mk (Below.refl w.heap.size w)
 have H : (if a1 < 0 then (some (0, false)) else (if a1 ≥ (l0_3.length : Int) then (some (0, false)) else (if 0 ≤ a1 then (if a1 < (l0_3.length : Int) then (some (rd l0_3 a1, true)) else (none)) else (none)))) = some (r1, r2) := h
 clear h
 by_cases c3 : a1 < 0
 ·rw [if_pos c3] at H
  have c3b0 : decide (a1 < 0) = true := decide_eq_true c3
  clear c3
  simp only [Option.some.injEq, Prod.mk.injEq] at H
  obtain ⟨rfl, rfl⟩ := H
  go_enter Try.func71, Try.ntmps71
  go_wp2_with (first | ((with_reducible refine gate_dst (N := 2) rfl ?_); (try (refine gate_guard (by rfl) ?_; dsimp only)); refine box_event ?hg (N := 2) ?hd (cs := #[.int .i64 a0_0, .int .i64 a0_1, .int .i64 a0_2, .slice A0_3 l0_3.length c0_3, .int .u16 a0_4]) (t := 55) ?hr ?_; (case hd => rfl); (case hg => rfl); (case hr => first | (go_simp; done) | (go_simp; rfl)); intro gb106 hg w4 hbox hb; have n0_ := Aside0.mk (below_step (by repeat (first | (with_reducible first | exact HB.out | apply below_alloc | apply pw_below_drewN | apply below_drew1) | exact HB.out)) hb); have n1_ := Aside0.mk (hbox); have n2_ := Aside0.mk ((by rw [hg]; exact (below_size (by repeat (first | (with_reducible first | exact HB.out | apply below_alloc | apply pw_below_drewN | apply below_drew1) | exact HB.out))) : w.heap.size ≤ gb106)); have n3_ := Aside0.mk ((by rw [hg]; exact (below_size (by repeat (first | (with_reducible first | exact HB.out | apply below_alloc | apply pw_below_drewN | apply below_drew1) | exact HB.out))) : w.heap.size ≤ gb106)); clear HB; have HB := n0_; have BK106 := n1_; have GW106 := n2_; have GE106 := n3_; clear n0_ n1_ n2_ n3_; clear hb hbox hg))
  go_ret2
  exact ⟨by first | rfl | (simp [errW_none, errW_some] <;> rfl) | (simp [*, errW_none, errW_some] <;> rfl), by repeat (first | (with_reducible first | exact HB.out | apply below_alloc | apply pw_below_drewN | apply below_drew1 | refine below_set ?_ GE106.out) | exact HB.out)⟩
 ·rw [if_neg c3] at H
  have c3b0 : decide (a1 < 0) = false := decide_eq_false c3
  clear c3
  by_cases c5 : a1 ≥ (l0_3.length : Int)
  ·rw [if_pos c5] at H
   have c5b0 : decide ((l0_3.length : Int) ≤ a1) = true := decide_eq_true c5
   clear c5
   simp only [Option.some.injEq, Prod.mk.injEq] at H
   obtain ⟨rfl, rfl⟩ := H
   go_enter Try.func71, Try.ntmps71
   go_wp2_with (first | ((with_reducible refine gate_dst (N := 2) rfl ?_); (try (refine gate_guard (by rfl) ?_; dsimp only)); refine box_event ?hg (N := 2) ?hd (cs := #[.int .i64 a0_0, .int .i64 a0_1, .int .i64 a0_2, .slice A0_3 l0_3.length c0_3, .int .u16 a0_4]) (t := 55) ?hr ?_; (case hd => rfl); (case hg => rfl); (case hr => first | (go_simp; done) | (go_simp; rfl)); intro gb106 hg w6 hbox hb; have n0_ := Aside0.mk (below_step (by repeat (first | (with_reducible first | exact HB.out | apply below_alloc | apply pw_below_drewN | apply below_drew1) | exact HB.out)) hb); have n1_ := Aside0.mk (hbox); have n2_ := Aside0.mk ((by rw [hg]; exact (below_size (by repeat (first | (with_reducible first | exact HB.out | apply below_alloc | apply pw_below_drewN | apply below_drew1) | exact HB.out))) : w.heap.size ≤ gb106)); have n3_ := Aside0.mk ((by rw [hg]; exact (below_size (by repeat (first | (with_reducible first | exact HB.out | apply below_alloc | apply pw_below_drewN | apply below_drew1) | exact HB.out))) : w.heap.size ≤ gb106)); clear HB; have HB := n0_; have BK106 := n1_; have GW106 := n2_; have GE106 := n3_; clear n0_ n1_ n2_ n3_; clear hb hbox hg; have hcz7_0 : w6.cell? ⟨gb106, 0, none⟩ = some (.int .i64 a0_0) := (blk_cell BK106.out 0).trans rfl; have hcz7_1 : w6.cell? ⟨gb106, 1, none⟩ = some (.int .i64 a0_1) := (blk_cell BK106.out 1).trans rfl; have hcz7_2 : w6.cell? ⟨gb106, 2, none⟩ = some (.int .i64 a0_2) := (blk_cell BK106.out 2).trans rfl; have hcz7_3 : w6.cell? ⟨gb106, 3, none⟩ = some (.slice A0_3 l0_3.length c0_3) := (blk_cell BK106.out 3).trans rfl; have hcz7_4 : w6.cell? ⟨gb106, 4, none⟩ = some (.int .u16 a0_4) := (blk_cell BK106.out 4).trans rfl; have hfz7_0 := blk_frozen BK106.out 0; have hfz7_1 := blk_frozen BK106.out 1; have hfz7_2 := blk_frozen BK106.out 2; have hfz7_3 := blk_frozen BK106.out 3; have hfz7_4 := blk_frozen BK106.out 4))
   go_ret2
   exact ⟨by first | rfl | (simp [errW_none, errW_some] <;> rfl) | (simp [*, errW_none, errW_some] <;> rfl), by repeat (first | (with_reducible first | exact HB.out | apply below_alloc | apply pw_below_drewN | apply below_drew1 | refine below_set ?_ GE106.out) | exact HB.out)⟩
  ·rw [if_neg c5] at H
   have c5b0 : decide ((l0_3.length : Int) ≤ a1) = false := decide_eq_false c5
   clear c5
   by_cases c8 : 0 ≤ a1
   ·rw [if_pos c8] at H
    have c8b0 : decide (0 ≤ a1) = true := decide_eq_true c8
    clear c8
    by_cases c9 : a1 < (l0_3.length : Int)
    ·rw [if_pos c9] at H
     have c9b0 : decide (a1 < (l0_3.length : Int)) = true := decide_eq_true c9
     clear c9
     simp only [Option.some.injEq, Prod.mk.injEq] at H
     obtain ⟨rfl, rfl⟩ := H
     go_enter Try.func71, Try.ntmps71
     go_wp2_with (first | ((with_reducible refine gate_dst (N := 2) rfl ?_); (try (refine gate_guard (by rfl) ?_; dsimp only)); refine box_event ?hg (N := 2) ?hd (cs := #[.int .i64 a0_0, .int .i64 a0_1, .int .i64 a0_2, .slice A0_3 l0_3.length c0_3, .int .u16 a0_4]) (t := 55) ?hr ?_; (case hd => rfl); (case hg => rfl); (case hr => first | (go_simp; done) | (go_simp; rfl)); intro gb106 hg w10 hbox hb; have n0_ := Aside0.mk (below_step (by repeat (first | (with_reducible first | exact HB.out | apply below_alloc | apply pw_below_drewN | apply below_drew1) | exact HB.out)) hb); have n1_ := Aside0.mk (hbox); have n2_ := Aside0.mk ((by rw [hg]; exact (below_size (by repeat (first | (with_reducible first | exact HB.out | apply below_alloc | apply pw_below_drewN | apply below_drew1) | exact HB.out))) : w.heap.size ≤ gb106)); have n3_ := Aside0.mk ((by rw [hg]; exact (below_size (by repeat (first | (with_reducible first | exact HB.out | apply below_alloc | apply pw_below_drewN | apply below_drew1) | exact HB.out))) : w.heap.size ≤ gb106)); clear HB; have HB := n0_; have BK106 := n1_; have GW106 := n2_; have GE106 := n3_; clear n0_ n1_ n2_ n3_; clear hb hbox hg; have hcz11_0 : w10.cell? ⟨gb106, 0, none⟩ = some (.int .i64 a0_0) := (blk_cell BK106.out 0).trans rfl; have hcz11_1 : w10.cell? ⟨gb106, 1, none⟩ = some (.int .i64 a0_1) := (blk_cell BK106.out 1).trans rfl; have hcz11_2 : w10.cell? ⟨gb106, 2, none⟩ = some (.int .i64 a0_2) := (blk_cell BK106.out 2).trans rfl; have hcz11_3 : w10.cell? ⟨gb106, 3, none⟩ = some (.slice A0_3 l0_3.length c0_3) := (blk_cell BK106.out 3).trans rfl; have hcz11_4 : w10.cell? ⟨gb106, 4, none⟩ = some (.int .u16 a0_4) := (blk_cell BK106.out 4).trans rfl; have hfz11_0 := blk_frozen BK106.out 0; have hfz11_1 := blk_frozen BK106.out 1; have hfz11_2 := blk_frozen BK106.out 2; have hfz11_3 := blk_frozen BK106.out 3; have hfz11_4 := blk_frozen BK106.out 4; have p107 : 0 ≤ (a1 : Int) := of_decide_eq_true (by first | (with_reducible assumption) | assumption); have q107 : a1 < (l0_3.length : Int) := of_decide_eq_true (by first | (with_reducible assumption) | assumption); obtain ⟨ad107, e107, hx107_0⟩ := Kd.at_int HR0_3.out a1 p107 q107; cases e107; replace hx107_0 := (HB.out.cell (World.block_lt_of_cell? w _ hx107_0)).trans hx107_0; replace p107 := eq_true p107; replace q107 := eq_true q107))
     go_ret2
     exact ⟨by first | rfl | (simp [errW_none, errW_some] <;> rfl) | (simp [*, errW_none, errW_some] <;> rfl), by repeat (first | (with_reducible first | exact HB.out | apply below_alloc | apply pw_below_drewN | apply below_drew1 | refine below_set ?_ GE106.out) | exact HB.out)⟩
    ·rw [if_neg c9] at H
     exact absurd H (by simp)
   ·rw [if_neg c8] at H
    exact absurd H (by simp)
end
end Go.Proofs.Ytbfialebaoeicaa.X
namespace Go.Proofs.Ytbfialebaoeicaa.X
open Go.RowKit Go.Proofs.YtbfialebaoeicaaW.PrintWords Go.Proofs.YtbfialebaoeicaaW.PrintLast Go.Proofs.YtbfialebaoeicaaW.PrintMore
attribute [local go_sem] max2_int min2_int max_two min_two max_three min_three max_four min_four
set_option linter.all false
noncomputable section
def word_Two.f (a0 : Int) : Option (Bool) := if a0 > 2 then (some (decide (a0 ≤ 8))) else (some false)
set_option maxHeartbeats 8000000 in
set_option maxRecDepth 100000 in
theorem word_Two.calls (a0 : Int) (r : Bool) (w : World) (h : word_Two.f a0 = some r) :
  Calls Try.prog 96 #[.int .i64 a0] w fun e w' => e = .returned (.bool r) ∧ Drawn0 w w' := by
 have H : (if a0 > 2 then (some (decide (a0 ≤ 8))) else (some false)) = some r := h
 clear h
 by_cases c2 : a0 > 2
 ·rw [if_pos c2] at H
  have c2b0 : decide (2 < a0) = true := decide_eq_true c2
  clear c2
  obtain rfl := Option.some.inj H
  go_enter Try.func96, Try.ntmps96
  go_wp2
  go_ret
  exact ⟨by first | rfl | (simp; done) | (simp [*]; done), by repeat (first | exact Drawn0.refl _ | apply Drawn0.step)⟩
 ·rw [if_neg c2] at H
  have c2b0 : decide (2 < a0) = false := decide_eq_false c2
  clear c2
  obtain rfl := Option.some.inj H
  go_enter Try.func96, Try.ntmps96
  go_wp2
  go_ret
  exact ⟨by first | rfl | (simp; done) | (simp [*]; done), by repeat (first | exact Drawn0.refl _ | apply Drawn0.step)⟩
end
end Go.Proofs.Ytbfialebaoeicaa.X
namespace Go.Proofs.Ytbfialebaoeicaa.X
open Go.RowKit Go.Proofs.YtbfialebaoeicaaW.PrintWords Go.Proofs.YtbfialebaoeicaaW.PrintLast Go.Proofs.YtbfialebaoeicaaW.PrintMore
attribute [local go_sem] max2_int min2_int max_two min_two max_three min_three max_four min_four
set_option linter.all false
noncomputable section
def word_truth.f (a0 : Bool) : Option (Int) := if a0 = true then (some 1) else (some 0)
set_option maxHeartbeats 8000000 in
set_option maxRecDepth 100000 in
theorem word_truth.calls (a0 : Bool) (r : Int) (w : World) (h : word_truth.f a0 = some r) :
  Calls Try.prog 112 #[.bool a0] w fun e w' => e = .returned (.int .u16 r) ∧ Drawn0 w w' := by
 have H : (if a0 = true then (some 1) else (some 0)) = some r := h
 clear h
 by_cases c2 : a0 = true
 ·subst c2
  have H1 : (some 1) = some r := by rw [if_pos rfl] at H; exact H
  clear H
  have H := H1
  clear H1
  obtain rfl := Option.some.inj H
  go_enter Try.func112, Try.ntmps112
  go_wp2
  go_ret
  exact ⟨by first | rfl | (simp; done) | (simp [*]; done), by repeat (first | exact Drawn0.refl _ | apply Drawn0.step)⟩
 ·replace c2 := Bool.eq_false_iff.mpr c2
  subst c2
  have H1 : (some 0) = some r := by rw [if_neg (show ¬ (false = true) by decide)] at H; exact H
  clear H
  have H := H1
  clear H1
  obtain rfl := Option.some.inj H
  go_enter Try.func112, Try.ntmps112
  go_wp2
  go_ret
  exact ⟨by first | rfl | (simp; done) | (simp [*]; done), by repeat (first | exact Drawn0.refl _ | apply Drawn0.step)⟩
end
end Go.Proofs.Ytbfialebaoeicaa.X
namespace Go.Proofs.Ytbfialebaoeicaa.X
open Go.RowKit Go.Proofs.YtbfialebaoeicaaW.PrintWords Go.Proofs.YtbfialebaoeicaaW.PrintLast Go.Proofs.YtbfialebaoeicaaW.PrintMore
attribute [local go_sem] max2_int min2_int max_two min_two max_three min_three max_four min_four
set_option linter.all false
noncomputable section
def word_Do.f (a0 : Int) (a1 : Int) (a2 : Int) : Option (Int × Bool) := if a0 = 2 then (some (a1, true)) else (if a0 = 3 then (some (IntKind.u16.wrap (a1 + a2), true)) else (if a0 = 4 then (some (IntKind.u16.wrap (a1 - a2), true)) else (if a0 = 5 then (some (IntKind.u16.wrap (a1 * a2), true)) else (if a0 = 6 then (if a2 = 0 then (some (0, false)) else (some (IntKind.u16.wrap (Int.tdiv a1 a2), true))) else (if a0 = 7 then ((word_truth.f (a1 == a2)).bind fun t108 => (some (t108, true))) else (if a0 = 8 then ((word_truth.f (decide (a1 < a2))).bind fun t109 => (some (t109, true))) else (some (0, false))))))))
set_option maxHeartbeats 8000000 in
set_option maxRecDepth 100000 in
theorem word_Do.calls (a0 : Int) (a1 : Int) (a2 : Int) (r1 : Int) (r2 : Bool) (w : World) (h : word_Do.f a0 a1 a2 = some (r1, r2)) :
  Calls Try.prog 97 #[.int .i64 a0, .int .u16 a1, .int .u16 a2] w fun e w' => e = .returned (.tuple #[.int .u16 r1, .bool r2]) ∧ Drawn0 w w' := by
 have H : (if a0 = 2 then (some (a1, true)) else (if a0 = 3 then (some (IntKind.u16.wrap (a1 + a2), true)) else (if a0 = 4 then (some (IntKind.u16.wrap (a1 - a2), true)) else (if a0 = 5 then (some (IntKind.u16.wrap (a1 * a2), true)) else (if a0 = 6 then (if a2 = 0 then (some (0, false)) else (some (IntKind.u16.wrap (Int.tdiv a1 a2), true))) else (if a0 = 7 then ((word_truth.f (a1 == a2)).bind fun t108 => (some (t108, true))) else (if a0 = 8 then ((word_truth.f (decide (a1 < a2))).bind fun t109 => (some (t109, true))) else (some (0, false))))))))) = some (r1, r2) := h
 clear h
 by_cases c4 : a0 = 2
 ·rw [if_pos c4] at H
  have c4b0 : (a0 == 2) = true := beq_iff_eq.mpr c4
  have c4b1 : (a0 != 2) = false := bne_eq_false_iff_eq.mpr c4
  clear c4
  simp only [Option.some.injEq, Prod.mk.injEq] at H
  obtain ⟨rfl, rfl⟩ := H
  go_enter Try.func97, Try.ntmps97
  go_wp2
  go_ret2
  exact ⟨by first | rfl | (simp; done) | (simp [*]; done), by repeat (first | exact Drawn0.refl _ | apply Drawn0.step)⟩
 ·rw [if_neg c4] at H
  have c4b0 : (a0 == 2) = false := beq_eq_false_iff_ne.mpr c4
  have c4b1 : (a0 != 2) = true := bne_iff_ne.mpr c4
  by_cases c5 : a0 = 3
  ·rw [if_pos c5] at H
   have c5b0 : (a0 == 3) = true := beq_iff_eq.mpr c5
   have c5b1 : (a0 != 3) = false := bne_eq_false_iff_eq.mpr c5
   clear c5
   simp only [Option.some.injEq, Prod.mk.injEq] at H
   obtain ⟨rfl, rfl⟩ := H
   go_enter Try.func97, Try.ntmps97
   go_wp2
   go_ret2
   exact ⟨by first | rfl | (simp; done) | (simp [*]; done), by repeat (first | exact Drawn0.refl _ | apply Drawn0.step)⟩
  ·rw [if_neg c5] at H
   have c5b0 : (a0 == 3) = false := beq_eq_false_iff_ne.mpr c5
   have c5b1 : (a0 != 3) = true := bne_iff_ne.mpr c5
   by_cases c6 : a0 = 4
   ·rw [if_pos c6] at H
    have c6b0 : (a0 == 4) = true := beq_iff_eq.mpr c6
    have c6b1 : (a0 != 4) = false := bne_eq_false_iff_eq.mpr c6
    clear c6
    simp only [Option.some.injEq, Prod.mk.injEq] at H
    obtain ⟨rfl, rfl⟩ := H
    go_enter Try.func97, Try.ntmps97
    go_wp2
    go_ret2
    exact ⟨by first | rfl | (simp; done) | (simp [*]; done), by repeat (first | exact Drawn0.refl _ | apply Drawn0.step)⟩
   ·rw [if_neg c6] at H
    have c6b0 : (a0 == 4) = false := beq_eq_false_iff_ne.mpr c6
    have c6b1 : (a0 != 4) = true := bne_iff_ne.mpr c6
    by_cases c7 : a0 = 5
    ·rw [if_pos c7] at H
     have c7b0 : (a0 == 5) = true := beq_iff_eq.mpr c7
     have c7b1 : (a0 != 5) = false := bne_eq_false_iff_eq.mpr c7
     clear c7
     simp only [Option.some.injEq, Prod.mk.injEq] at H
     obtain ⟨rfl, rfl⟩ := H
     go_enter Try.func97, Try.ntmps97
     go_wp2
     go_ret2
     exact ⟨by first | rfl | (simp; done) | (simp [*]; done), by repeat (first | exact Drawn0.refl _ | apply Drawn0.step)⟩
    ·rw [if_neg c7] at H
     have c7b0 : (a0 == 5) = false := beq_eq_false_iff_ne.mpr c7
     have c7b1 : (a0 != 5) = true := bne_iff_ne.mpr c7
     by_cases c8 : a0 = 6
     ·rw [if_pos c8] at H
      have c8b0 : (a0 == 6) = true := beq_iff_eq.mpr c8
      have c8b1 : (a0 != 6) = false := bne_eq_false_iff_eq.mpr c8
      clear c8
      by_cases c9 : a2 = 0
      ·rw [if_pos c9] at H
       have c9b0 : (a2 == 0) = true := beq_iff_eq.mpr c9
       have c9b1 : (a2 != 0) = false := bne_eq_false_iff_eq.mpr c9
       clear c9
       simp only [Option.some.injEq, Prod.mk.injEq] at H
       obtain ⟨rfl, rfl⟩ := H
       go_enter Try.func97, Try.ntmps97
       go_wp2
       go_ret2
       exact ⟨by first | rfl | (simp; done) | (simp [*]; done), by repeat (first | exact Drawn0.refl _ | apply Drawn0.step)⟩
      ·rw [if_neg c9] at H
       have c9b0 : (a2 == 0) = false := beq_eq_false_iff_ne.mpr c9
       have c9b1 : (a2 != 0) = true := bne_iff_ne.mpr c9
       simp only [Option.some.injEq, Prod.mk.injEq] at H
       obtain ⟨rfl, rfl⟩ := H
       go_enter Try.func97, Try.ntmps97
       go_wp2
       go_ret2
       exact ⟨by first | rfl | (simp; done) | (simp [*]; done), by repeat (first | exact Drawn0.refl _ | apply Drawn0.step)⟩
     ·rw [if_neg c8] at H
      have c8b0 : (a0 == 6) = false := beq_eq_false_iff_ne.mpr c8
      have c8b1 : (a0 != 6) = true := bne_iff_ne.mpr c8
      by_cases c10 : a0 = 7
      ·rw [if_pos c10] at H
       have c10b0 : (a0 == 7) = true := beq_iff_eq.mpr c10
       have c10b1 : (a0 != 7) = false := bne_eq_false_iff_eq.mpr c10
       clear c10
       replace H := Option.bind_eq_some_iff.mp H
       obtain ⟨t108, A110, H⟩ := H
       replace H : (some (t108, true)) = some (r1, r2) := H
       have A11 := Aside0.mk A110
       clear A110
       simp only [Option.some.injEq, Prod.mk.injEq] at H
       obtain ⟨rfl, rfl⟩ := H
       go_enter Try.func97, Try.ntmps97
       go_wp2_with (first | ((with_reducible refine gate_callee (f := 112) rfl ?_); refine goesL_ (some 39) rfl rfl Try.func112 (by kernel_rfl) rfl #[.bool (a1 == a2)] rfl (by (try simp only [List.map_toArray, List.map_cons, List.map_nil]); first | done | rfl | (simp only [List.length_drop, List.length_take]; rfl)) ?_; (with_reducible refine (word_truth.calls (a1 == a2) t108 _ A11.out).mono ?_); rintro e w' ⟨rfl, ⟨nd, rfl⟩⟩; refine ⟨_, rfl, ?_⟩))
       go_ret2
       exact ⟨by first | rfl | (simp; done) | (simp [*]; done), by repeat (first | exact Drawn0.refl _ | apply Drawn0.step)⟩
      ·rw [if_neg c10] at H
       have c10b0 : (a0 == 7) = false := beq_eq_false_iff_ne.mpr c10
       have c10b1 : (a0 != 7) = true := bne_iff_ne.mpr c10
       by_cases c12 : a0 = 8
       ·rw [if_pos c12] at H
        have c12b0 : (a0 == 8) = true := beq_iff_eq.mpr c12
        have c12b1 : (a0 != 8) = false := bne_eq_false_iff_eq.mpr c12
        clear c12
        replace H := Option.bind_eq_some_iff.mp H
        obtain ⟨t109, A130, H⟩ := H
        replace H : (some (t109, true)) = some (r1, r2) := H
        have A13 := Aside0.mk A130
        clear A130
        simp only [Option.some.injEq, Prod.mk.injEq] at H
        obtain ⟨rfl, rfl⟩ := H
        go_enter Try.func97, Try.ntmps97
        go_wp2_with (first | ((with_reducible refine gate_callee (f := 112) rfl ?_); refine goesL_ (some 45) rfl rfl Try.func112 (by kernel_rfl) rfl #[.bool (decide (a1 < a2))] rfl (by (try simp only [List.map_toArray, List.map_cons, List.map_nil]); first | done | rfl | (simp only [List.length_drop, List.length_take]; rfl)) ?_; (with_reducible refine (word_truth.calls (decide (a1 < a2)) t109 _ A13.out).mono ?_); rintro e w' ⟨rfl, ⟨nd, rfl⟩⟩; refine ⟨_, rfl, ?_⟩))
        go_ret2
        exact ⟨by first | rfl | (simp; done) | (simp [*]; done), by repeat (first | exact Drawn0.refl _ | apply Drawn0.step)⟩
       ·rw [if_neg c12] at H
        have c12b0 : (a0 == 8) = false := beq_eq_false_iff_ne.mpr c12
        have c12b1 : (a0 != 8) = true := bne_iff_ne.mpr c12
        simp only [Option.some.injEq, Prod.mk.injEq] at H
        obtain ⟨rfl, rfl⟩ := H
        go_enter Try.func97, Try.ntmps97
        go_wp2
        go_ret2
        exact ⟨by first | rfl | (simp; done) | (simp [*]; done), by repeat (first | exact Drawn0.refl _ | apply Drawn0.step)⟩
end
end Go.Proofs.Ytbfialebaoeicaa.X
namespace Go.Proofs.Ytbfialebaoeicaa.X
open Go.RowKit Go.Proofs.YtbfialebaoeicaaW.PrintWords Go.Proofs.YtbfialebaoeicaaW.PrintLast Go.Proofs.YtbfialebaoeicaaW.PrintMore
attribute [local go_sem] max2_int min2_int max_two min_two max_three min_three max_four min_four
set_option linter.all false
noncomputable section
mutual
def frame_answer.j0 : Nat → Int → Bool → Int → Bool → Int → Int → Int → List Int → Int → Int → Int → Int → Int → Int → Int → List Int → Option (Int × Bool)
 | 0, _, _, _, _, _, _, _, _, _, _, _, _, _, _, _, _ => none
 | k + 1, x6, x7, x8, x26, x111000, x111001, x111002, x111003, x111004, x112000, x112001, x112002, x112003, x112004, x112005, x112006 => if x26 = true then ((frame_at.f x111000 x111001 x111002 x111003 x111004 x112003).bind fun bt115 => (frame_answer.j1 k x6 bt115.2 bt115.1 x112000 x112001 x112002 x112003 x112004 x112005 x112006)) else (frame_answer.j1 k x6 x7 x8 x112000 x112001 x112002 x112003 x112004 x112005 x112006)
def frame_answer.j1 : Nat → Int → Bool → Int → Int → Int → Int → Int → Int → Int → List Int → Option (Int × Bool)
 | 0, _, _, _, _, _, _, _, _, _, _ => none
 | k + 1, x6, x7, x8, x112000, x112001, x112002, x112003, x112004, x112005, x112006 => if x7 = true then ((word_Do.f x112000 x6 x8).bind fun bt117 => (some (bt117.1, bt117.2))) else (some (0, false))
end
def frame_answer.f (k : Nat) (a0_0 : Int) (a0_1 : Int) (a0_2 : Int) (l0_3 : List Int) (a0_4 : Int) (a1_0 : Int) (a1_1 : Int) (a1_2 : Int) (a1_3 : Int) (a1_4 : Int) (a1_5 : Int) (l1_6 : List Int) : Option (Int × Bool) := if a1_0 = 1 then (some (a1_4, true)) else ((frame_at.f a0_0 a0_1 a0_2 l0_3 a0_4 a1_2).bind fun bt112 => (if bt112.2 = true then ((word_Two.f a1_0).bind fun t114 => (frame_answer.j0 k bt112.1 bt112.2 0 t114 a0_0 a0_1 a0_2 l0_3 a0_4 a1_0 a1_1 a1_2 a1_3 a1_4 a1_5 l1_6)) else (frame_answer.j0 k bt112.1 bt112.2 0 false a0_0 a0_1 a0_2 l0_3 a0_4 a1_0 a1_1 a1_2 a1_3 a1_4 a1_5 l1_6)))
theorem frame_answer.mono_l : ∀ k, (∀ y0 y1 y2 y3 y4 y5 y6 y7 y8 y9 y10 y11 y12 y13 y14 y15, LeO (frame_answer.j0 k y0 y1 y2 y3 y4 y5 y6 y7 y8 y9 y10 y11 y12 y13 y14 y15) (frame_answer.j0 (k + 1) y0 y1 y2 y3 y4 y5 y6 y7 y8 y9 y10 y11 y12 y13 y14 y15)) ∧ (∀ y0 y1 y2 y3 y4 y5 y6 y7 y8 y9, LeO (frame_answer.j1 k y0 y1 y2 y3 y4 y5 y6 y7 y8 y9) (frame_answer.j1 (k + 1) y0 y1 y2 y3 y4 y5 y6 y7 y8 y9))
 | 0 => ⟨fun _ _ _ _ _ _ _ _ _ _ _ _ _ _ _ _ r h => by simp [frame_answer.j0] at h, fun _ _ _ _ _ _ _ _ _ _ r h => by simp [frame_answer.j1] at h⟩
 | k + 1 => by
  obtain ⟨ih0, ih1⟩ := frame_answer.mono_l k
  refine ⟨?_, ?_⟩
  ·intro y0 y1 y2 y3 y4 y5 y6 y7 y8 y9 y10 y11 y12 y13 y14 y15
   unfold frame_answer.j0
   repeat' first
   | (with_reducible exact ih0 _ _ _ _ _ _ _ _ _ _ _ _ _ _ _ _)
   | (with_reducible exact ih1 _ _ _ _ _ _ _ _ _ _)
   | (with_reducible exact LeO.refl _)
   | (with_reducible exact LeO.none _)
   | (with_reducible refine LeO.ite ?_ ?_)
   | (with_reducible refine LeO.bind ?_ (fun _ => ?_))
   | exact ih0 _ _ _ _ _ _ _ _ _ _ _ _ _ _ _ _
   | exact ih1 _ _ _ _ _ _ _ _ _ _
   | exact LeO.none _
   | refine LeO.ite ?_ ?_
   | refine LeO.bind ?_ (fun _ => ?_)
  ·intro y0 y1 y2 y3 y4 y5 y6 y7 y8 y9
   unfold frame_answer.j1
   repeat' first
   | (with_reducible exact ih0 _ _ _ _ _ _ _ _ _ _ _ _ _ _ _ _)
   | (with_reducible exact ih1 _ _ _ _ _ _ _ _ _ _)
   | (with_reducible exact LeO.refl _)
   | (with_reducible exact LeO.none _)
   | (with_reducible refine LeO.ite ?_ ?_)
   | (with_reducible refine LeO.bind ?_ (fun _ => ?_))
   | exact ih0 _ _ _ _ _ _ _ _ _ _ _ _ _ _ _ _
   | exact ih1 _ _ _ _ _ _ _ _ _ _
   | exact LeO.none _
   | refine LeO.ite ?_ ?_
   | refine LeO.bind ?_ (fun _ => ?_)
theorem frame_answer.mono : ∀ a0 a1 a2 a3 a4 a5 a6 a7 a8 a9 a10 a11 k, LeO (frame_answer.f k a0 a1 a2 a3 a4 a5 a6 a7 a8 a9 a10 a11) (frame_answer.f (k + 1) a0 a1 a2 a3 a4 a5 a6 a7 a8 a9 a10 a11) := by
 intro a0 a1 a2 a3 a4 a5 a6 a7 a8 a9 a10 a11 k
 obtain ⟨ih0, ih1⟩ := frame_answer.mono_l k
 unfold frame_answer.f
 repeat' first
   | (with_reducible exact ih0 _ _ _ _ _ _ _ _ _ _ _ _ _ _ _ _)
   | (with_reducible exact ih1 _ _ _ _ _ _ _ _ _ _)
   | (with_reducible exact LeO.refl _)
   | (with_reducible exact LeO.none _)
   | (with_reducible refine LeO.ite ?_ ?_)
   | (with_reducible refine LeO.bind ?_ (fun _ => ?_))
   | exact ih0 _ _ _ _ _ _ _ _ _ _ _ _ _ _ _ _
   | exact ih1 _ _ _ _ _ _ _ _ _ _
   | exact LeO.none _
   | refine LeO.ite ?_ ?_
   | refine LeO.bind ?_ (fun _ => ?_)
set_option maxHeartbeats 8000000 in
set_option maxRecDepth 100000 in
theorem frame_answer.calls (k : Nat) (a0_0 : Int) (a0_1 : Int) (a0_2 : Int) (A0_3 : Option Addr) (c0_3 : Nat) (l0_3 : List Int) (a0_4 : Int) (a1_0 : Int) (a1_1 : Int) (a1_2 : Int) (a1_3 : Int) (a1_4 : Int) (a1_5 : Int) (A1_6 : Option Addr) (c1_6 : Nat) (l1_6 : List Int) (r1 : Int) (r2 : Bool) (w : World) (hr0_3 : Kd.C (Kd.int .u16) w A0_3 l0_3.length l0_3) (hc0_3 : l0_3.length ≤ c0_3) (hr1_6 : Kd.C (Kd.int .i64) w A1_6 l1_6.length l1_6) (hc1_6 : l1_6.length ≤ c1_6) (h : frame_answer.f k a0_0 a0_1 a0_2 l0_3 a0_4 a1_0 a1_1 a1_2 a1_3 a1_4 a1_5 l1_6 = some (r1, r2)) :
  Calls Try.prog 70 #[.agg #[.int .i64 a0_0, .int .i64 a0_1, .int .i64 a0_2, .slice A0_3 l0_3.length c0_3, .int .u16 a0_4], .agg #[.int .i64 a1_0, .int .i64 a1_1, .int .i64 a1_2, .int .i64 a1_3, .int .u16 a1_4, .int .i64 a1_5, .slice A1_6 l1_6.length c1_6]] w fun e w' => e = .returned (.tuple #[.int .u16 r1, .bool r2]) ∧ Below w.heap.size w w' := by
 have hu55 := Try.underlying55
 have hu49 := Try.underlying49
 have HR0_3 := Aside0.mk hr0_3
 have HC0_3 := Aside0.mk hc0_3
 clear hr0_3 hc0_3
 have HR1_6 := Aside0.mk hr1_6
 have HC1_6 := Aside0.mk hc1_6
 clear hr1_6 hc1_6
 have HB := Aside0.mk (Below.refl w.heap.size w)
 have H : (if a1_0 = 1 then (some (a1_4, true)) else ((frame_at.f a0_0 a0_1 a0_2 l0_3 a0_4 a1_2).bind fun bt112 => (if bt112.2 = true then ((word_Two.f a1_0).bind fun t114 => (frame_answer.j0 k bt112.1 bt112.2 0 t114 a0_0 a0_1 a0_2 l0_3 a0_4 a1_0 a1_1 a1_2 a1_3 a1_4 a1_5 l1_6)) else (frame_answer.j0 k bt112.1 bt112.2 0 false a0_0 a0_1 a0_2 l0_3 a0_4 a1_0 a1_1 a1_2 a1_3 a1_4 a1_5 l1_6)))) = some (r1, r2) := h
 clear h
 by_cases c3 : a1_0 = 1
 ·rw [if_pos c3] at H
  have c3b0 : (a1_0 == 1) = true := beq_iff_eq.mpr c3
  have c3b1 : (a1_0 != 1) = false := bne_eq_false_iff_eq.mpr c3
  clear c3
  simp only [Option.some.injEq, Prod.mk.injEq] at H
  obtain ⟨rfl, rfl⟩ := H
  go_enter Try.func70, Try.ntmps70
  go_wp2_with (first | ((with_reducible refine gate_dst (N := 2) rfl ?_); refine box_event ?hg (N := 2) ?hd (cs := #[.int .i64 a0_0, .int .i64 a0_1, .int .i64 a0_2, .slice A0_3 l0_3.length c0_3, .int .u16 a0_4]) (t := 55) ?hr ?_; (case hd => rfl); (case hg => rfl); (case hr => first | (go_simp; done) | (go_simp; rfl)); intro gb110 hg w4 hbox hb; have n0_ := Aside0.mk (below_step (by repeat (first | (with_reducible first | exact HB.out | apply below_alloc | apply pw_below_drewN | apply below_drew1) | exact HB.out)) hb); have n1_ := Aside0.mk (hbox); have n2_ := Aside0.mk ((by rw [hg]; exact (below_size (by repeat (first | (with_reducible first | exact HB.out | apply below_alloc | apply pw_below_drewN | apply below_drew1) | exact HB.out))) : w.heap.size ≤ gb110)); have n3_ := Aside0.mk ((by rw [hg]; exact (below_size (by repeat (first | (with_reducible first | exact HB.out | apply below_alloc | apply pw_below_drewN | apply below_drew1) | exact HB.out))) : w.heap.size ≤ gb110)); clear HB; have HB := n0_; have BK110 := n1_; have GW110 := n2_; have GE110 := n3_; clear n0_ n1_ n2_ n3_; clear hb hbox hg) | ((with_reducible refine gate_dst (N := 3) rfl ?_); refine box_event ?hg (N := 3) ?hd (cs := #[.int .i64 a1_0, .int .i64 a1_1, .int .i64 a1_2, .int .i64 a1_3, .int .u16 a1_4, .int .i64 a1_5, .slice A1_6 l1_6.length c1_6]) (t := 49) ?hr ?_; (case hd => rfl); (case hg => rfl); (case hr => first | (go_simp; done) | (go_simp; rfl)); intro gb111 hg w5 hbox hb; have n0_ := Aside0.mk (blk_below (g := gb110) (o := .cells #[.int .i64 a0_0, .int .i64 a0_1, .int .i64 a0_2, .slice A0_3 l0_3.length c0_3, .int .u16 a0_4] 55 (0, 0)) (by (with_reducible repeat (first | refine blk_drewN ?_ _ | refine blk_drew ?_ | refine blk_alloc ?_ _)); exact BK110.out) hb); have n1_ := Aside0.mk (below_step (by repeat (first | (with_reducible first | exact HB.out | apply below_alloc | apply pw_below_drewN | apply below_drew1 | refine below_set ?_ GE110.out) | exact HB.out)) hb); have n2_ := Aside0.mk (hbox); have n3_ := Aside0.mk ((by rw [hg]; exact (below_size (by repeat (first | (with_reducible first | exact HB.out | apply below_alloc | apply pw_below_drewN | apply below_drew1 | refine below_set ?_ GE110.out) | exact HB.out))) : w.heap.size ≤ gb111)); have n4_ := Aside0.mk ((by rw [hg]; exact (below_size (by repeat (first | (with_reducible first | exact HB.out | apply below_alloc | apply pw_below_drewN | apply below_drew1 | refine below_set ?_ GE110.out) | exact HB.out))) : w.heap.size ≤ gb111)); have n5_ := Aside0.mk ((by rw [hg]; exact Nat.ne_of_lt (blk_lt (g := gb110) (o := .cells #[.int .i64 a0_0, .int .i64 a0_1, .int .i64 a0_2, .slice A0_3 l0_3.length c0_3, .int .u16 a0_4] 55 (0, 0)) (by (with_reducible repeat (first | refine blk_drewN ?_ _ | refine blk_drew ?_ | refine blk_alloc ?_ _)); exact BK110.out)) : gb110 ≠ gb111)); have n6_ := Aside0.mk ((by rw [hg]; exact Nat.ne_of_gt (blk_lt (g := gb110) (o := .cells #[.int .i64 a0_0, .int .i64 a0_1, .int .i64 a0_2, .slice A0_3 l0_3.length c0_3, .int .u16 a0_4] 55 (0, 0)) (by (with_reducible repeat (first | refine blk_drewN ?_ _ | refine blk_drew ?_ | refine blk_alloc ?_ _)); exact BK110.out)) : gb111 ≠ gb110)); clear BK110; clear HB; have BK110 := n0_; have HB := n1_; have BK111 := n2_; have GW111 := n3_; have GE111 := n4_; have NB110_111 := n5_; have NB111_110 := n6_; clear n0_ n1_ n2_ n3_ n4_ n5_ n6_; clear hb hbox hg; have hnb6 := NB111_110.out; have hnc6 := NB110_111.out; have hcz7_0 : w5.cell? ⟨gb111, 0, none⟩ = some (.int .i64 a1_0) := (blk_cell BK111.out 0).trans rfl; have hcz7_1 : w5.cell? ⟨gb111, 1, none⟩ = some (.int .i64 a1_1) := (blk_cell BK111.out 1).trans rfl; have hcz7_2 : w5.cell? ⟨gb111, 2, none⟩ = some (.int .i64 a1_2) := (blk_cell BK111.out 2).trans rfl; have hcz7_3 : w5.cell? ⟨gb111, 3, none⟩ = some (.int .i64 a1_3) := (blk_cell BK111.out 3).trans rfl; have hcz7_4 : w5.cell? ⟨gb111, 4, none⟩ = some (.int .u16 a1_4) := (blk_cell BK111.out 4).trans rfl; have hcz7_5 : w5.cell? ⟨gb111, 5, none⟩ = some (.int .i64 a1_5) := (blk_cell BK111.out 5).trans rfl; have hcz7_6 : w5.cell? ⟨gb111, 6, none⟩ = some (.slice A1_6 l1_6.length c1_6) := (blk_cell BK111.out 6).trans rfl; have hfz7_0 := blk_frozen BK111.out 0; have hfz7_1 := blk_frozen BK111.out 1; have hfz7_2 := blk_frozen BK111.out 2; have hfz7_3 := blk_frozen BK111.out 3; have hfz7_4 := blk_frozen BK111.out 4; have hfz7_5 := blk_frozen BK111.out 5; have hfz7_6 := blk_frozen BK111.out 6))
  go_ret2
  exact ⟨by first | rfl | (simp [errW_none, errW_some] <;> rfl) | (simp [*, errW_none, errW_some] <;> rfl), by repeat (first | (with_reducible first | exact HB.out | apply below_alloc | apply pw_below_drewN | apply below_drew1 | refine below_set ?_ GE110.out | refine below_set ?_ GE111.out) | exact HB.out)⟩
 ·rw [if_neg c3] at H
  have c3b0 : (a1_0 == 1) = false := beq_eq_false_iff_ne.mpr c3
  have c3b1 : (a1_0 != 1) = true := bne_iff_ne.mpr c3
  replace H := Option.bind_eq_some_iff.mp H
  obtain ⟨⟨t112, t113⟩, A80, H⟩ := H
  replace H : (if t113 = true then ((word_Two.f a1_0).bind fun t114 => (frame_answer.j0 k t112 t113 0 t114 a0_0 a0_1 a0_2 l0_3 a0_4 a1_0 a1_1 a1_2 a1_3 a1_4 a1_5 l1_6)) else (frame_answer.j0 k t112 t113 0 false a0_0 a0_1 a0_2 l0_3 a0_4 a1_0 a1_1 a1_2 a1_3 a1_4 a1_5 l1_6)) = some (r1, r2) := H
  have A8 := Aside0.mk A80
  clear A80
  have HC9 := Aside0.mk H
  clear H
  go_enter Try.func70, Try.ntmps70
  go_upto_region 5 with (first | ((with_reducible refine gate_dst (N := 2) rfl ?_); refine box_event ?hg (N := 2) ?hd (cs := #[.int .i64 a0_0, .int .i64 a0_1, .int .i64 a0_2, .slice A0_3 l0_3.length c0_3, .int .u16 a0_4]) (t := 55) ?hr ?_; (case hd => rfl); (case hg => rfl); (case hr => first | (go_simp; done) | (go_simp; rfl)); intro gb110 hg w10 hbox hb; have n0_ := Aside0.mk (below_step (by repeat (first | (with_reducible first | exact HB.out | apply below_alloc | apply pw_below_drewN | apply below_drew1) | exact HB.out)) hb); have n1_ := Aside0.mk (hbox); have n2_ := Aside0.mk ((by rw [hg]; exact (below_size (by repeat (first | (with_reducible first | exact HB.out | apply below_alloc | apply pw_below_drewN | apply below_drew1) | exact HB.out))) : w.heap.size ≤ gb110)); have n3_ := Aside0.mk ((by rw [hg]; exact (below_size (by repeat (first | (with_reducible first | exact HB.out | apply below_alloc | apply pw_below_drewN | apply below_drew1) | exact HB.out))) : w.heap.size ≤ gb110)); clear HB; have HB := n0_; have BK110 := n1_; have GW110 := n2_; have GE110 := n3_; clear n0_ n1_ n2_ n3_; clear hb hbox hg) | ((with_reducible refine gate_dst (N := 3) rfl ?_); refine box_event ?hg (N := 3) ?hd (cs := #[.int .i64 a1_0, .int .i64 a1_1, .int .i64 a1_2, .int .i64 a1_3, .int .u16 a1_4, .int .i64 a1_5, .slice A1_6 l1_6.length c1_6]) (t := 49) ?hr ?_; (case hd => rfl); (case hg => rfl); (case hr => first | (go_simp; done) | (go_simp; rfl)); intro gb111 hg w11 hbox hb; have n0_ := Aside0.mk (blk_below (g := gb110) (o := .cells #[.int .i64 a0_0, .int .i64 a0_1, .int .i64 a0_2, .slice A0_3 l0_3.length c0_3, .int .u16 a0_4] 55 (0, 0)) (by (with_reducible repeat (first | refine blk_drewN ?_ _ | refine blk_drew ?_ | refine blk_alloc ?_ _)); exact BK110.out) hb); have n1_ := Aside0.mk (below_step (by repeat (first | (with_reducible first | exact HB.out | apply below_alloc | apply pw_below_drewN | apply below_drew1 | refine below_set ?_ GE110.out) | exact HB.out)) hb); have n2_ := Aside0.mk (hbox); have n3_ := Aside0.mk ((by rw [hg]; exact (below_size (by repeat (first | (with_reducible first | exact HB.out | apply below_alloc | apply pw_below_drewN | apply below_drew1 | refine below_set ?_ GE110.out) | exact HB.out))) : w.heap.size ≤ gb111)); have n4_ := Aside0.mk ((by rw [hg]; exact (below_size (by repeat (first | (with_reducible first | exact HB.out | apply below_alloc | apply pw_below_drewN | apply below_drew1 | refine below_set ?_ GE110.out) | exact HB.out))) : w.heap.size ≤ gb111)); have n5_ := Aside0.mk ((by rw [hg]; exact Nat.ne_of_lt (blk_lt (g := gb110) (o := .cells #[.int .i64 a0_0, .int .i64 a0_1, .int .i64 a0_2, .slice A0_3 l0_3.length c0_3, .int .u16 a0_4] 55 (0, 0)) (by (with_reducible repeat (first | refine blk_drewN ?_ _ | refine blk_drew ?_ | refine blk_alloc ?_ _)); exact BK110.out)) : gb110 ≠ gb111)); have n6_ := Aside0.mk ((by rw [hg]; exact Nat.ne_of_gt (blk_lt (g := gb110) (o := .cells #[.int .i64 a0_0, .int .i64 a0_1, .int .i64 a0_2, .slice A0_3 l0_3.length c0_3, .int .u16 a0_4] 55 (0, 0)) (by (with_reducible repeat (first | refine blk_drewN ?_ _ | refine blk_drew ?_ | refine blk_alloc ?_ _)); exact BK110.out)) : gb111 ≠ gb110)); clear BK110; clear HB; have BK110 := n0_; have HB := n1_; have BK111 := n2_; have GW111 := n3_; have GE111 := n4_; have NB110_111 := n5_; have NB111_110 := n6_; clear n0_ n1_ n2_ n3_ n4_ n5_ n6_; clear hb hbox hg; have hnb12 := NB111_110.out; have hnc12 := NB110_111.out; have hcz13_0 : w11.cell? ⟨gb111, 0, none⟩ = some (.int .i64 a1_0) := (blk_cell BK111.out 0).trans rfl; have hcz13_1 : w11.cell? ⟨gb111, 1, none⟩ = some (.int .i64 a1_1) := (blk_cell BK111.out 1).trans rfl; have hcz13_2 : w11.cell? ⟨gb111, 2, none⟩ = some (.int .i64 a1_2) := (blk_cell BK111.out 2).trans rfl; have hcz13_3 : w11.cell? ⟨gb111, 3, none⟩ = some (.int .i64 a1_3) := (blk_cell BK111.out 3).trans rfl; have hcz13_4 : w11.cell? ⟨gb111, 4, none⟩ = some (.int .u16 a1_4) := (blk_cell BK111.out 4).trans rfl; have hcz13_5 : w11.cell? ⟨gb111, 5, none⟩ = some (.int .i64 a1_5) := (blk_cell BK111.out 5).trans rfl; have hcz13_6 : w11.cell? ⟨gb111, 6, none⟩ = some (.slice A1_6 l1_6.length c1_6) := (blk_cell BK111.out 6).trans rfl; have hfz13_0 := blk_frozen BK111.out 0; have hfz13_1 := blk_frozen BK111.out 1; have hfz13_2 := blk_frozen BK111.out 2; have hfz13_3 := blk_frozen BK111.out 3; have hfz13_4 := blk_frozen BK111.out 4; have hfz13_5 := blk_frozen BK111.out 5; have hfz13_6 := blk_frozen BK111.out 6; have hcz14_0 : w11.cell? ⟨gb110, 0, none⟩ = some (.int .i64 a0_0) := (blk_cell BK110.out 0).trans rfl; have hcz14_1 : w11.cell? ⟨gb110, 1, none⟩ = some (.int .i64 a0_1) := (blk_cell BK110.out 1).trans rfl; have hcz14_2 : w11.cell? ⟨gb110, 2, none⟩ = some (.int .i64 a0_2) := (blk_cell BK110.out 2).trans rfl; have hcz14_3 : w11.cell? ⟨gb110, 3, none⟩ = some (.slice A0_3 l0_3.length c0_3) := (blk_cell BK110.out 3).trans rfl; have hcz14_4 : w11.cell? ⟨gb110, 4, none⟩ = some (.int .u16 a0_4) := (blk_cell BK110.out 4).trans rfl; have hfz14_0 := blk_frozen BK110.out 0; have hfz14_1 := blk_frozen BK110.out 1; have hfz14_2 := blk_frozen BK110.out 2; have hfz14_3 := blk_frozen BK110.out 3; have hfz14_4 := blk_frozen BK110.out 4) | ((with_reducible refine gate_callee (f := 71) rfl ?_); refine goesL_ (some 18) rfl rfl Try.func71 (by kernel_rfl) rfl #[.agg #[.int .i64 a0_0, .int .i64 a0_1, .int .i64 a0_2, .slice A0_3 l0_3.length c0_3, .int .u16 a0_4], .int .i64 a1_2] rfl (by (try simp only [List.map_toArray, List.map_cons, List.map_nil]); first | done | rfl | (simp only [List.length_drop, List.length_take]; rfl)) ?_; (with_reducible refine (frame_at.calls a0_0 a0_1 a0_2 _ _ l0_3 a0_4 a1_2 t112 t113 _ ?side1 ?side2 A8.out).mono ?_); (case side1 => repeat (first | exact (Kd.C_below HR0_3.out HB.out) | (with_reducible refine Kd.C_alloc ?_ _) | (with_reducible refine Kd.C_drewN ?_ _) | (with_reducible refine Kd.C_drew ?_))); (case side2 => exact HC0_3.out); rintro e w15 ⟨rfl, hb⟩; refine ⟨_, rfl, ?_⟩; have n0_ := Aside0.mk (blk_below (g := gb110) (o := .cells #[.int .i64 a0_0, .int .i64 a0_1, .int .i64 a0_2, .slice A0_3 l0_3.length c0_3, .int .u16 a0_4] 55 (0, 0)) (by (with_reducible repeat (first | refine blk_drewN ?_ _ | refine blk_drew ?_ | refine blk_alloc ?_ _)); exact BK110.out) hb); have n1_ := Aside0.mk (blk_below (g := gb111) (o := .cells #[.int .i64 a1_0, .int .i64 a1_1, .int .i64 a1_2, .int .i64 a1_3, .int .u16 a1_4, .int .i64 a1_5, .slice A1_6 l1_6.length c1_6] 49 (0, 0)) (by (with_reducible repeat (first | refine blk_drewN ?_ _ | refine blk_drew ?_ | refine blk_alloc ?_ _)); exact BK111.out) hb); have n2_ := Aside0.mk (below_step (by repeat (first | (with_reducible first | exact HB.out | apply below_alloc | apply pw_below_drewN | apply below_drew1 | refine below_set ?_ GE110.out | refine below_set ?_ GE111.out) | exact HB.out)) hb); clear BK110; clear BK111; clear HB; have BK110 := n0_; have BK111 := n1_; have HB := n2_; clear n0_ n1_ n2_; (try clear hb); (try clear hb2); (try clear hk); (try clear hi)))
  (try simp only [Act.put, List.setIfInBounds_toArray, List.set_cons_zero, List.set_cons_succ])
  go_cut [26] (fun v26 wc => ∃ (kq : Nat) (x26_8 : Bool), v26 = .bool x26_8 ∧ Aside0 (frame_answer.j0 kq t112 t113 0 x26_8 a0_0 a0_1 a0_2 l0_3 a0_4 a1_0 a1_1 a1_2 a1_3 a1_4 a1_5 l1_6 = some (r1, r2)) ∧ Aside0 (kq ≤ k) ∧ Aside0 (wc.heap[gb110]? = some (.cells #[.int .i64 a0_0, .int .i64 a0_1, .int .i64 a0_2, (.slice A0_3 l0_3.length c0_3), .int .u16 a0_4] 55 (0, 0))) ∧ Aside0 (wc.heap[gb111]? = some (.cells #[.int .i64 a1_0, .int .i64 a1_1, .int .i64 a1_2, .int .i64 a1_3, .int .u16 a1_4, .int .i64 a1_5, (.slice A1_6 l1_6.length c1_6)] 49 (0, 0))) ∧ Aside0 (Below w.heap.size w wc))
  case first =>
   have H := HC9.out
   clear HC9
   by_cases c16 : t113 = true
   ·subst c16
    have H1 : ((word_Two.f a1_0).bind fun t114 => (frame_answer.j0 k t112 true 0 t114 a0_0 a0_1 a0_2 l0_3 a0_4 a1_0 a1_1 a1_2 a1_3 a1_4 a1_5 l1_6)) = some (r1, r2) := by rw [if_pos rfl] at H; exact H
    clear H
    have H := H1
    clear H1
    replace H := Option.bind_eq_some_iff.mp H
    obtain ⟨t114, A170, H⟩ := H
    replace H : (frame_answer.j0 k t112 true 0 t114 a0_0 a0_1 a0_2 l0_3 a0_4 a1_0 a1_1 a1_2 a1_3 a1_4 a1_5 l1_6) = some (r1, r2) := H
    have A17 := Aside0.mk A170
    clear A170
    have H' := Aside0.mk H
    clear H
    have hnb18 := NB111_110.out
    have hnc18 := NB110_111.out
    have hcz19_0 : w15.cell? ⟨gb111, 0, none⟩ = some (.int .i64 a1_0) := (blk_cell BK111.out 0).trans rfl
    have hcz19_1 : w15.cell? ⟨gb111, 1, none⟩ = some (.int .i64 a1_1) := (blk_cell BK111.out 1).trans rfl
    have hcz19_2 : w15.cell? ⟨gb111, 2, none⟩ = some (.int .i64 a1_2) := (blk_cell BK111.out 2).trans rfl
    have hcz19_3 : w15.cell? ⟨gb111, 3, none⟩ = some (.int .i64 a1_3) := (blk_cell BK111.out 3).trans rfl
    have hcz19_4 : w15.cell? ⟨gb111, 4, none⟩ = some (.int .u16 a1_4) := (blk_cell BK111.out 4).trans rfl
    have hcz19_5 : w15.cell? ⟨gb111, 5, none⟩ = some (.int .i64 a1_5) := (blk_cell BK111.out 5).trans rfl
    have hcz19_6 : w15.cell? ⟨gb111, 6, none⟩ = some (.slice A1_6 l1_6.length c1_6) := (blk_cell BK111.out 6).trans rfl
    have hfz19_0 := blk_frozen BK111.out 0
    have hfz19_1 := blk_frozen BK111.out 1
    have hfz19_2 := blk_frozen BK111.out 2
    have hfz19_3 := blk_frozen BK111.out 3
    have hfz19_4 := blk_frozen BK111.out 4
    have hfz19_5 := blk_frozen BK111.out 5
    have hfz19_6 := blk_frozen BK111.out 6
    go_wp2_with (first | (go_at_call 96; (with_reducible refine (word_Two.calls a1_0 t114 _ A17.out).mono ?_); rintro e w' ⟨rfl, ⟨nd, rfl⟩⟩))
    go_meet
    case rel => exact ⟨_, (t114), (by first | rfl | (simp; done) | (simp [*]; done)), H', ⟨by first | omega | exact Nat.le_refl _⟩, ⟨by (with_reducible repeat (first | refine blk_drewN ?_ _ | refine blk_drew ?_ | refine blk_alloc ?_ _)); exact BK110.out⟩, ⟨by (with_reducible repeat (first | refine blk_drewN ?_ _ | refine blk_drew ?_ | refine blk_alloc ?_ _)); exact BK111.out⟩, ⟨by repeat (first | (with_reducible first | exact HB.out | apply below_alloc | apply pw_below_drewN | apply below_drew1 | refine below_set ?_ GE110.out | refine below_set ?_ GE111.out) | exact HB.out)⟩⟩
   ·replace c16 := Bool.eq_false_iff.mpr c16
    subst c16
    have H1 : (frame_answer.j0 k t112 false 0 false a0_0 a0_1 a0_2 l0_3 a0_4 a1_0 a1_1 a1_2 a1_3 a1_4 a1_5 l1_6) = some (r1, r2) := by rw [if_neg (show ¬ (false = true) by decide)] at H; exact H
    clear H
    have H := H1
    clear H1
    have H' := Aside0.mk H
    clear H
    go_wp2
    go_meet
    case rel => exact ⟨_, (false), (by first | rfl | (simp; done) | (simp [*]; done)), H', ⟨by first | omega | exact Nat.le_refl _⟩, ⟨by (with_reducible repeat (first | refine blk_drewN ?_ _ | refine blk_drew ?_ | refine blk_alloc ?_ _)); exact BK110.out⟩, ⟨by (with_reducible repeat (first | refine blk_drewN ?_ _ | refine blk_drew ?_ | refine blk_alloc ?_ _)); exact BK111.out⟩, ⟨by repeat (first | (with_reducible first | exact HB.out | apply below_alloc | apply pw_below_drewN | apply below_drew1 | refine below_set ?_ GE110.out | refine below_set ?_ GE111.out) | exact HB.out)⟩⟩
  case rest =>
   clear HC9
   try clear c1
   try clear p2
   try clear c3
   try clear c3b0
   try clear c3b1
   try clear c6
   try clear c7
   try clear c12
   try clear c16
   try clear c18
   try clear hcz13_0
   try clear hcz13_1
   try clear hcz13_2
   try clear hcz13_3
   try clear hcz13_4
   try clear hcz13_5
   try clear hcz13_6
   try clear hcz14_0
   try clear hcz14_1
   try clear hcz14_2
   try clear hcz14_3
   try clear hcz14_4
   try clear hcz19_0
   try clear hcz19_1
   try clear hcz19_2
   try clear hcz19_3
   try clear hcz19_4
   try clear hcz19_5
   try clear hcz19_6
   try clear hcz7_0
   try clear hcz7_1
   try clear hcz7_2
   try clear hcz7_3
   try clear hcz7_4
   try clear hcz7_5
   try clear hcz7_6
   try clear hfz13_0
   try clear hfz13_1
   try clear hfz13_2
   try clear hfz13_3
   try clear hfz13_4
   try clear hfz13_5
   try clear hfz13_6
   try clear hfz14_0
   try clear hfz14_1
   try clear hfz14_2
   try clear hfz14_3
   try clear hfz14_4
   try clear hfz19_0
   try clear hfz19_1
   try clear hfz19_2
   try clear hfz19_3
   try clear hfz19_4
   try clear hfz19_5
   try clear hfz19_6
   try clear hfz7_0
   try clear hfz7_1
   try clear hfz7_2
   try clear hfz7_3
   try clear hfz7_4
   try clear hfz7_5
   try clear hfz7_6
   obtain ⟨kq, x26_8, rfl, HA, HJ8, BK110, BK111, HB⟩ := hcut
   cases kq with
   | zero => exact absurd HA.out (by simp [frame_answer.j0])
   | succ kj8 =>
    have H := HA.out
    clear HA
    simp only [frame_answer.j0] at H
    have HC20 := Aside0.mk H
    clear H
    go_upto_if 26 with (fail)
    go_cut [7, 8] (fun v7 v8 wc => ∃ (kq : Nat) (x7_19 : Bool) (x8_19 : Int), v7 = .bool x7_19 ∧ v8 = .int .u16 x8_19 ∧ Aside0 (frame_answer.j1 kq t112 x7_19 x8_19 a1_0 a1_1 a1_2 a1_3 a1_4 a1_5 l1_6 = some (r1, r2)) ∧ Aside0 (kq ≤ kj8) ∧ Aside0 (wc.heap[gb110]? = some (.cells #[.int .i64 a0_0, .int .i64 a0_1, .int .i64 a0_2, (.slice A0_3 l0_3.length c0_3), .int .u16 a0_4] 55 (0, 0))) ∧ Aside0 (wc.heap[gb111]? = some (.cells #[.int .i64 a1_0, .int .i64 a1_1, .int .i64 a1_2, .int .i64 a1_3, .int .u16 a1_4, .int .i64 a1_5, (.slice A1_6 l1_6.length c1_6)] 49 (0, 0))) ∧ Aside0 (Below w.heap.size w wc))
    case first =>
     have H := HC20.out
     clear HC20
     by_cases c21 : x26_8 = true
     ·subst c21
      have H1 : ((frame_at.f a0_0 a0_1 a0_2 l0_3 a0_4 a1_3).bind fun bt115 => (frame_answer.j1 kj8 t112 bt115.2 bt115.1 a1_0 a1_1 a1_2 a1_3 a1_4 a1_5 l1_6)) = some (r1, r2) := by rw [if_pos rfl] at H; exact H
      clear H
      have H := H1
      clear H1
      replace H := Option.bind_eq_some_iff.mp H
      obtain ⟨⟨t115, t116⟩, A220, H⟩ := H
      replace H : (frame_answer.j1 kj8 t112 t116 t115 a1_0 a1_1 a1_2 a1_3 a1_4 a1_5 l1_6) = some (r1, r2) := H
      have A22 := Aside0.mk A220
      clear A220
      have H' := Aside0.mk H
      clear H
      have hnb23 := NB110_111.out
      have hnc23 := NB111_110.out
      have hcz24_0 : wc.cell? ⟨gb110, 0, none⟩ = some (.int .i64 a0_0) := (blk_cell BK110.out 0).trans rfl
      have hcz24_1 : wc.cell? ⟨gb110, 1, none⟩ = some (.int .i64 a0_1) := (blk_cell BK110.out 1).trans rfl
      have hcz24_2 : wc.cell? ⟨gb110, 2, none⟩ = some (.int .i64 a0_2) := (blk_cell BK110.out 2).trans rfl
      have hcz24_3 : wc.cell? ⟨gb110, 3, none⟩ = some (.slice A0_3 l0_3.length c0_3) := (blk_cell BK110.out 3).trans rfl
      have hcz24_4 : wc.cell? ⟨gb110, 4, none⟩ = some (.int .u16 a0_4) := (blk_cell BK110.out 4).trans rfl
      have hfz24_0 := blk_frozen BK110.out 0
      have hfz24_1 := blk_frozen BK110.out 1
      have hfz24_2 := blk_frozen BK110.out 2
      have hfz24_3 := blk_frozen BK110.out 3
      have hfz24_4 := blk_frozen BK110.out 4
      have hcz25_0 : wc.cell? ⟨gb111, 0, none⟩ = some (.int .i64 a1_0) := (blk_cell BK111.out 0).trans rfl
      have hcz25_1 : wc.cell? ⟨gb111, 1, none⟩ = some (.int .i64 a1_1) := (blk_cell BK111.out 1).trans rfl
      have hcz25_2 : wc.cell? ⟨gb111, 2, none⟩ = some (.int .i64 a1_2) := (blk_cell BK111.out 2).trans rfl
      have hcz25_3 : wc.cell? ⟨gb111, 3, none⟩ = some (.int .i64 a1_3) := (blk_cell BK111.out 3).trans rfl
      have hcz25_4 : wc.cell? ⟨gb111, 4, none⟩ = some (.int .u16 a1_4) := (blk_cell BK111.out 4).trans rfl
      have hcz25_5 : wc.cell? ⟨gb111, 5, none⟩ = some (.int .i64 a1_5) := (blk_cell BK111.out 5).trans rfl
      have hcz25_6 : wc.cell? ⟨gb111, 6, none⟩ = some (.slice A1_6 l1_6.length c1_6) := (blk_cell BK111.out 6).trans rfl
      have hfz25_0 := blk_frozen BK111.out 0
      have hfz25_1 := blk_frozen BK111.out 1
      have hfz25_2 := blk_frozen BK111.out 2
      have hfz25_3 := blk_frozen BK111.out 3
      have hfz25_4 := blk_frozen BK111.out 4
      have hfz25_5 := blk_frozen BK111.out 5
      have hfz25_6 := blk_frozen BK111.out 6
      go_wp2_with (first | ((with_reducible refine gate_callee (f := 71) rfl ?_); refine goesL_ (some 31) rfl rfl Try.func71 (by kernel_rfl) rfl #[.agg #[.int .i64 a0_0, .int .i64 a0_1, .int .i64 a0_2, .slice A0_3 l0_3.length c0_3, .int .u16 a0_4], .int .i64 a1_3] rfl (by (try simp only [List.map_toArray, List.map_cons, List.map_nil]); first | done | rfl | (simp only [List.length_drop, List.length_take]; rfl)) ?_; (with_reducible refine (frame_at.calls a0_0 a0_1 a0_2 _ _ l0_3 a0_4 a1_3 t115 t116 _ ?side1 ?side2 A22.out).mono ?_); (case side1 => repeat (first | exact (Kd.C_below HR0_3.out HB.out) | (with_reducible refine Kd.C_alloc ?_ _) | (with_reducible refine Kd.C_drewN ?_ _) | (with_reducible refine Kd.C_drew ?_))); (case side2 => exact HC0_3.out); rintro e w26 ⟨rfl, hb⟩; refine ⟨_, rfl, ?_⟩; have n0_ := Aside0.mk (blk_below (g := gb110) (o := .cells #[.int .i64 a0_0, .int .i64 a0_1, .int .i64 a0_2, .slice A0_3 l0_3.length c0_3, .int .u16 a0_4] 55 (0, 0)) (by (with_reducible repeat (first | refine blk_drewN ?_ _ | refine blk_drew ?_ | refine blk_alloc ?_ _)); exact BK110.out) hb); have n1_ := Aside0.mk (blk_below (g := gb111) (o := .cells #[.int .i64 a1_0, .int .i64 a1_1, .int .i64 a1_2, .int .i64 a1_3, .int .u16 a1_4, .int .i64 a1_5, .slice A1_6 l1_6.length c1_6] 49 (0, 0)) (by (with_reducible repeat (first | refine blk_drewN ?_ _ | refine blk_drew ?_ | refine blk_alloc ?_ _)); exact BK111.out) hb); have n2_ := Aside0.mk (below_step (by repeat (first | (with_reducible first | exact HB.out | apply below_alloc | apply pw_below_drewN | apply below_drew1 | refine below_set ?_ GE110.out | refine below_set ?_ GE111.out) | exact HB.out)) hb); clear BK110; clear BK111; clear HB; have BK110 := n0_; have BK111 := n1_; have HB := n2_; clear n0_ n1_ n2_; (try clear hb); (try clear hb2); (try clear hk); (try clear hi)))
      go_meet
      case rel => exact ⟨_, (t116), (t115), (by first | rfl | (simp; done) | (simp [*]; done)), (by first | rfl | (simp; done) | (simp [*]; done)), H', ⟨by have := HJ8.out; first | omega | exact Nat.le_refl _⟩, ⟨by (with_reducible repeat (first | refine blk_drewN ?_ _ | refine blk_drew ?_ | refine blk_alloc ?_ _)); exact BK110.out⟩, ⟨by (with_reducible repeat (first | refine blk_drewN ?_ _ | refine blk_drew ?_ | refine blk_alloc ?_ _)); exact BK111.out⟩, ⟨by repeat (first | (with_reducible first | exact HB.out | apply below_alloc | apply pw_below_drewN | apply below_drew1 | refine below_set ?_ GE110.out | refine below_set ?_ GE111.out) | exact HB.out)⟩⟩
     ·replace c21 := Bool.eq_false_iff.mpr c21
      subst c21
      have H1 : (frame_answer.j1 kj8 t112 t113 0 a1_0 a1_1 a1_2 a1_3 a1_4 a1_5 l1_6) = some (r1, r2) := by rw [if_neg (show ¬ (false = true) by decide)] at H; exact H
      clear H
      have H := H1
      clear H1
      have H' := Aside0.mk H
      clear H
      go_wp2
      go_meet
      case rel => exact ⟨_, (t113), (0), (by first | rfl | (simp; done) | (simp [*]; done)), (by first | rfl | (simp; done) | (simp [*]; done)), H', ⟨by have := HJ8.out; first | omega | exact Nat.le_refl _⟩, ⟨by (with_reducible repeat (first | refine blk_drewN ?_ _ | refine blk_drew ?_ | refine blk_alloc ?_ _)); exact BK110.out⟩, ⟨by (with_reducible repeat (first | refine blk_drewN ?_ _ | refine blk_drew ?_ | refine blk_alloc ?_ _)); exact BK111.out⟩, ⟨by repeat (first | (with_reducible first | exact HB.out | apply below_alloc | apply pw_below_drewN | apply below_drew1 | refine below_set ?_ GE110.out | refine below_set ?_ GE111.out) | exact HB.out)⟩⟩
    case rest =>
     clear HC20
     try clear c1
     try clear c2
     try clear p2
     try clear c3
     try clear c3b0
     try clear c3b1
     try clear c6
     try clear c7
     try clear c12
     try clear c16
     try clear c18
     try clear c21
     try clear c23
     try clear hcz13_0
     try clear hcz13_1
     try clear hcz13_2
     try clear hcz13_3
     try clear hcz13_4
     try clear hcz13_5
     try clear hcz13_6
     try clear hcz14_0
     try clear hcz14_1
     try clear hcz14_2
     try clear hcz14_3
     try clear hcz14_4
     try clear hcz19_0
     try clear hcz19_1
     try clear hcz19_2
     try clear hcz19_3
     try clear hcz19_4
     try clear hcz19_5
     try clear hcz19_6
     try clear hcz24_0
     try clear hcz24_1
     try clear hcz24_2
     try clear hcz24_3
     try clear hcz24_4
     try clear hcz25_0
     try clear hcz25_1
     try clear hcz25_2
     try clear hcz25_3
     try clear hcz25_4
     try clear hcz25_5
     try clear hcz25_6
     try clear hcz7_0
     try clear hcz7_1
     try clear hcz7_2
     try clear hcz7_3
     try clear hcz7_4
     try clear hcz7_5
     try clear hcz7_6
     try clear hfz13_0
     try clear hfz13_1
     try clear hfz13_2
     try clear hfz13_3
     try clear hfz13_4
     try clear hfz13_5
     try clear hfz13_6
     try clear hfz14_0
     try clear hfz14_1
     try clear hfz14_2
     try clear hfz14_3
     try clear hfz14_4
     try clear hfz19_0
     try clear hfz19_1
     try clear hfz19_2
     try clear hfz19_3
     try clear hfz19_4
     try clear hfz19_5
     try clear hfz19_6
     try clear hfz24_0
     try clear hfz24_1
     try clear hfz24_2
     try clear hfz24_3
     try clear hfz24_4
     try clear hfz25_0
     try clear hfz25_1
     try clear hfz25_2
     try clear hfz25_3
     try clear hfz25_4
     try clear hfz25_5
     try clear hfz25_6
     try clear hfz7_0
     try clear hfz7_1
     try clear hfz7_2
     try clear hfz7_3
     try clear hfz7_4
     try clear hfz7_5
     try clear hfz7_6
     try clear p2
     obtain ⟨kq, x7_19, x8_19, rfl, rfl, HA, HJ19, BK110, BK111, HB⟩ := hcut
     cases kq with
     | zero => exact absurd HA.out (by simp [frame_answer.j1])
     | succ kj19 =>
      have H := HA.out
      clear HA
      simp only [frame_answer.j1] at H
      by_cases c27 : x7_19 = true
      ·subst c27
       have H1 : ((word_Do.f a1_0 t112 x8_19).bind fun bt117 => (some (bt117.1, bt117.2))) = some (r1, r2) := by rw [if_pos rfl] at H; exact H
       clear H
       have H := H1
       clear H1
       replace H := Option.bind_eq_some_iff.mp H
       obtain ⟨⟨t117, t118⟩, A280, H⟩ := H
       replace H : (some (t117, t118)) = some (r1, r2) := H
       have A28 := Aside0.mk A280
       clear A280
       simp only [Option.some.injEq, Prod.mk.injEq] at H
       obtain ⟨rfl, rfl⟩ := H
       have hnb29 := NB111_110.out
       have hnc29 := NB110_111.out
       have hcz30_0 : wc.cell? ⟨gb111, 0, none⟩ = some (.int .i64 a1_0) := (blk_cell BK111.out 0).trans rfl
       have hcz30_1 : wc.cell? ⟨gb111, 1, none⟩ = some (.int .i64 a1_1) := (blk_cell BK111.out 1).trans rfl
       have hcz30_2 : wc.cell? ⟨gb111, 2, none⟩ = some (.int .i64 a1_2) := (blk_cell BK111.out 2).trans rfl
       have hcz30_3 : wc.cell? ⟨gb111, 3, none⟩ = some (.int .i64 a1_3) := (blk_cell BK111.out 3).trans rfl
       have hcz30_4 : wc.cell? ⟨gb111, 4, none⟩ = some (.int .u16 a1_4) := (blk_cell BK111.out 4).trans rfl
       have hcz30_5 : wc.cell? ⟨gb111, 5, none⟩ = some (.int .i64 a1_5) := (blk_cell BK111.out 5).trans rfl
       have hcz30_6 : wc.cell? ⟨gb111, 6, none⟩ = some (.slice A1_6 l1_6.length c1_6) := (blk_cell BK111.out 6).trans rfl
       have hfz30_0 := blk_frozen BK111.out 0
       have hfz30_1 := blk_frozen BK111.out 1
       have hfz30_2 := blk_frozen BK111.out 2
       have hfz30_3 := blk_frozen BK111.out 3
       have hfz30_4 := blk_frozen BK111.out 4
       have hfz30_5 := blk_frozen BK111.out 5
       have hfz30_6 := blk_frozen BK111.out 6
       go_wp2_with (first | ((with_reducible refine gate_callee (f := 97) rfl ?_); refine goesL_ (some 40) rfl rfl Try.func97 (by kernel_rfl) rfl #[.int .i64 a1_0, .int .u16 t112, .int .u16 x8_19] rfl (by (try simp only [List.map_toArray, List.map_cons, List.map_nil]); first | done | rfl | (simp only [List.length_drop, List.length_take]; rfl)) ?_; (with_reducible refine (word_Do.calls a1_0 t112 x8_19 t117 t118 _ A28.out).mono ?_); rintro e w' ⟨rfl, ⟨nd, rfl⟩⟩; refine ⟨_, rfl, ?_⟩))
       go_ret2
       exact ⟨by first | rfl | (simp [errW_none, errW_some] <;> rfl) | (simp [*, errW_none, errW_some] <;> rfl), by repeat (first | (with_reducible first | exact HB.out | apply below_alloc | apply pw_below_drewN | apply below_drew1 | refine below_set ?_ GE110.out | refine below_set ?_ GE111.out) | exact HB.out)⟩
      ·replace c27 := Bool.eq_false_iff.mpr c27
       subst c27
       have H1 : (some (0, false)) = some (r1, r2) := by rw [if_neg (show ¬ (false = true) by decide)] at H; exact H
       clear H
       have H := H1
       clear H1
       simp only [Option.some.injEq, Prod.mk.injEq] at H
       obtain ⟨rfl, rfl⟩ := H
       go_wp2
       go_ret2
       exact ⟨by first | rfl | (simp [errW_none, errW_some] <;> rfl) | (simp [*, errW_none, errW_some] <;> rfl), by repeat (first | (with_reducible first | exact HB.out | apply below_alloc | apply pw_below_drewN | apply below_drew1 | refine below_set ?_ GE110.out | refine below_set ?_ GE111.out) | exact HB.out)⟩
end
end Go.Proofs.Ytbfialebaoeicaa.X
namespace Go.Proofs.Ytbfialebaoeicaa.X
open Go.RowKit Go.Proofs.YtbfialebaoeicaaW.PrintWords Go.Proofs.YtbfialebaoeicaaW.PrintLast Go.Proofs.YtbfialebaoeicaaW.PrintMore
attribute [local go_sem] max2_int min2_int max_two min_two max_three min_three max_four min_four
set_option linter.all false
noncomputable section
def frame_Reckon.f (k : Nat) (a0_0 : Int) (a0_1 : Int) (a0_2 : Int) (l0_3 : List Int) (a0_4 : Int) (a1_0 : Int) (a1_1 : Int) (a1_2 : Int) (a1_3 : Int) (a1_4 : Int) (a1_5 : Int) (l1_6 : List Int) : Option (Int × Int × Int × List Int × Int × Bool) := (frame_copied.f a0_0 a0_1 a0_2 l0_3 a0_4).bind fun bt122 => ((frame_answer.f k bt122.1 bt122.2.1 bt122.2.2.1 bt122.2.2.2.1 bt122.2.2.2.2 a1_0 a1_1 a1_2 a1_3 a1_4 a1_5 l1_6).bind fun bt129 => ((frame_at.f bt122.1 bt122.2.1 bt122.2.2.1 bt122.2.2.2.1 bt122.2.2.2.2 a1_1).bind fun bt131 => (if bt129.2 = true then (if bt131.2 = true then (if 0 ≤ a1_1 then (if a1_1 < (bt122.2.2.2.1.length : Int) then (some (bt122.1, bt122.2.1, wrap64 (bt122.2.2.1 + 1), (bt122.2.2.2.1.set (a1_1 : Int).toNat bt129.1), bt122.2.2.2.2, true)) else (none)) else (none)) else (some (bt122.1, bt122.2.1, bt122.2.2.1, bt122.2.2.2.1, bt122.2.2.2.2, false))) else (some (bt122.1, bt122.2.1, bt122.2.2.1, bt122.2.2.2.1, bt122.2.2.2.2, false)))))
theorem frame_Reckon.mono : ∀ a0 a1 a2 a3 a4 a5 a6 a7 a8 a9 a10 a11 k, LeO (frame_Reckon.f k a0 a1 a2 a3 a4 a5 a6 a7 a8 a9 a10 a11) (frame_Reckon.f (k + 1) a0 a1 a2 a3 a4 a5 a6 a7 a8 a9 a10 a11) := by
 intro a0 a1 a2 a3 a4 a5 a6 a7 a8 a9 a10 a11 k
 unfold frame_Reckon.f
 repeat' first
   | (with_reducible exact frame_answer.mono _ _ _ _ _ _ _ _ _ _ _ _ _)
   | (with_reducible exact LeO.refl _)
   | (with_reducible exact LeO.none _)
   | (with_reducible refine LeO.ite ?_ ?_)
   | (with_reducible refine LeO.bind ?_ (fun _ => ?_))
   | exact frame_answer.mono _ _ _ _ _ _ _ _ _ _ _ _ _
   | exact LeO.none _
   | refine LeO.ite ?_ ?_
   | refine LeO.bind ?_ (fun _ => ?_)
set_option maxHeartbeats 8000000 in
set_option maxRecDepth 100000 in
theorem frame_Reckon.calls (k : Nat) (a0_0 : Int) (a0_1 : Int) (a0_2 : Int) (A0_3 : Option Addr) (c0_3 : Nat) (l0_3 : List Int) (a0_4 : Int) (a1_0 : Int) (a1_1 : Int) (a1_2 : Int) (a1_3 : Int) (a1_4 : Int) (a1_5 : Int) (A1_6 : Option Addr) (c1_6 : Nat) (l1_6 : List Int) (r1 : Int) (r2 : Int) (r3 : Int) (r4 : List Int) (r5 : Int) (r6 : Bool) (w : World) (hr0_3 : Kd.C (Kd.int .u16) w A0_3 l0_3.length l0_3) (hc0_3 : l0_3.length ≤ c0_3) (hr1_6 : Kd.C (Kd.int .i64) w A1_6 l1_6.length l1_6) (hc1_6 : l1_6.length ≤ c1_6) (h : frame_Reckon.f k a0_0 a0_1 a0_2 l0_3 a0_4 a1_0 a1_1 a1_2 a1_3 a1_4 a1_5 l1_6 = some (r1, r2, r3, r4, r5, r6)) :
  Calls Try.prog 28 #[.agg #[.int .i64 a0_0, .int .i64 a0_1, .int .i64 a0_2, .slice A0_3 l0_3.length c0_3, .int .u16 a0_4], .agg #[.int .i64 a1_0, .int .i64 a1_1, .int .i64 a1_2, .int .i64 a1_3, .int .u16 a1_4, .int .i64 a1_5, .slice A1_6 l1_6.length c1_6]] w fun e w' => ∃ v3_ : Value, e = .returned (.tuple #[.agg #[.int .i64 r1, .int .i64 r2, .int .i64 r3, v3_, .int .u16 r5], .bool r6]) ∧ Kd.R (Kd.int .u16) 44 w' w.heap.size (fun _ => True) v3_ r4 ∧ Below w.heap.size w w' := by
 have hu55 := Try.underlying55
 have hu49 := Try.underlying49
 have HR0_3 := Aside0.mk hr0_3
 have HC0_3 := Aside0.mk hc0_3
 clear hr0_3 hc0_3
 have HR1_6 := Aside0.mk hr1_6
 have HC1_6 := Aside0.mk hc1_6
 clear hr1_6 hc1_6
 have HB := Aside0.mk (Below.refl w.heap.size w)
 have H : ((frame_copied.f a0_0 a0_1 a0_2 l0_3 a0_4).bind fun bt122 => ((frame_answer.f k bt122.1 bt122.2.1 bt122.2.2.1 bt122.2.2.2.1 bt122.2.2.2.2 a1_0 a1_1 a1_2 a1_3 a1_4 a1_5 l1_6).bind fun bt129 => ((frame_at.f bt122.1 bt122.2.1 bt122.2.2.1 bt122.2.2.2.1 bt122.2.2.2.2 a1_1).bind fun bt131 => (if bt129.2 = true then (if bt131.2 = true then (if 0 ≤ a1_1 then (if a1_1 < (bt122.2.2.2.1.length : Int) then (some (bt122.1, bt122.2.1, wrap64 (bt122.2.2.1 + 1), (bt122.2.2.2.1.set (a1_1 : Int).toNat bt129.1), bt122.2.2.2.2, true)) else (none)) else (none)) else (some (bt122.1, bt122.2.1, bt122.2.2.1, bt122.2.2.2.1, bt122.2.2.2.2, false))) else (some (bt122.1, bt122.2.1, bt122.2.2.1, bt122.2.2.2.1, bt122.2.2.2.2, false)))))) = some (r1, r2, r3, r4, r5, r6) := h
 clear h
 replace H := Option.bind_eq_some_iff.mp H
 obtain ⟨⟨t122, t123, t124, t125, t128⟩, A30, H⟩ := H
 replace H : ((frame_answer.f k t122 t123 t124 t125 t128 a1_0 a1_1 a1_2 a1_3 a1_4 a1_5 l1_6).bind fun bt129 => ((frame_at.f t122 t123 t124 t125 t128 a1_1).bind fun bt131 => (if bt129.2 = true then (if bt131.2 = true then (if 0 ≤ a1_1 then (if a1_1 < (t125.length : Int) then (some (t122, t123, wrap64 (t124 + 1), (t125.set (a1_1 : Int).toNat bt129.1), t128, true)) else (none)) else (none)) else (some (t122, t123, t124, t125, t128, false))) else (some (t122, t123, t124, t125, t128, false))))) = some (r1, r2, r3, r4, r5, r6) := H
 have A3 := Aside0.mk A30
 clear A30
 replace H := Option.bind_eq_some_iff.mp H
 obtain ⟨⟨t129, t130⟩, A40, H⟩ := H
 replace H : ((frame_at.f t122 t123 t124 t125 t128 a1_1).bind fun bt131 => (if t130 = true then (if bt131.2 = true then (if 0 ≤ a1_1 then (if a1_1 < (t125.length : Int) then (some (t122, t123, wrap64 (t124 + 1), (t125.set (a1_1 : Int).toNat t129), t128, true)) else (none)) else (none)) else (some (t122, t123, t124, t125, t128, false))) else (some (t122, t123, t124, t125, t128, false)))) = some (r1, r2, r3, r4, r5, r6) := H
 have A4 := Aside0.mk A40
 clear A40
 replace H := Option.bind_eq_some_iff.mp H
 obtain ⟨⟨t131, t132⟩, A50, H⟩ := H
 replace H : (if t130 = true then (if t132 = true then (if 0 ≤ a1_1 then (if a1_1 < (t125.length : Int) then (some (t122, t123, wrap64 (t124 + 1), (t125.set (a1_1 : Int).toNat t129), t128, true)) else (none)) else (none)) else (some (t122, t123, t124, t125, t128, false))) else (some (t122, t123, t124, t125, t128, false))) = some (r1, r2, r3, r4, r5, r6) := H
 have A5 := Aside0.mk A50
 clear A50
 by_cases c6 : t130 = true
 ·subst c6
  have H1 : (if t132 = true then (if 0 ≤ a1_1 then (if a1_1 < (t125.length : Int) then (some (t122, t123, wrap64 (t124 + 1), (t125.set (a1_1 : Int).toNat t129), t128, true)) else (none)) else (none)) else (some (t122, t123, t124, t125, t128, false))) = some (r1, r2, r3, r4, r5, r6) := by rw [if_pos rfl] at H; exact H
  clear H
  have H := H1
  clear H1
  by_cases c7 : t132 = true
  ·subst c7
   have H1 : (if 0 ≤ a1_1 then (if a1_1 < (t125.length : Int) then (some (t122, t123, wrap64 (t124 + 1), (t125.set (a1_1 : Int).toNat t129), t128, true)) else (none)) else (none)) = some (r1, r2, r3, r4, r5, r6) := by rw [if_pos rfl] at H; exact H
   clear H
   have H := H1
   clear H1
   by_cases c8 : 0 ≤ a1_1
   ·rw [if_pos c8] at H
    have c8b0 : decide (0 ≤ a1_1) = true := decide_eq_true c8
    clear c8
    by_cases c9 : a1_1 < (t125.length : Int)
    ·rw [if_pos c9] at H
     have c9b0 : decide (a1_1 < (t125.length : Int)) = true := decide_eq_true c9
     clear c9
     obtain ⟨y133, hy133⟩ : ∃ y_ : List Int, y_ = (t125.set (a1_1 : Int).toNat t129) := ⟨_, rfl⟩
     replace H : (some (t122, t123, wrap64 (t124 + 1), y133, t128, true)) = some (r1, r2, r3, r4, r5, r6) := by first | (rw [hy133]; with_reducible exact H) | (have H2_ := (Option.bind_some _ _).symm.trans H; rw [hy133]; with_reducible exact H2_) | (have H2_ := (Option.bind_some _ _).symm.trans H; with_reducible exact H2_) | with_reducible exact H | (rw [hy133]; exact H) | exact H
     have Ny133 := Aside0.mk hy133
     clear hy133
     simp only [Option.some.injEq, Prod.mk.injEq] at H
     obtain ⟨rfl, rfl, rfl, rfl, rfl, rfl⟩ := H
     go_enter Try.func28, Try.ntmps28
     go_wp2_with (first | ((with_reducible refine gate_dst (N := 2) rfl ?_); refine box_event ?hg (N := 2) ?hd (cs := #[.int .i64 a0_0, .int .i64 a0_1, .int .i64 a0_2, .slice A0_3 l0_3.length c0_3, .int .u16 a0_4]) (t := 55) ?hr ?_; (case hd => rfl); (case hg => rfl); (case hr => first | (go_simp; done) | (go_simp; rfl)); intro gb119 hg w11 hbox hb; have n0_ := Aside0.mk (below_step (by repeat (first | (with_reducible first | exact HB.out | apply below_alloc | apply pw_below_drewN | apply below_drew1) | exact HB.out)) hb); have n1_ := Aside0.mk (hbox); have n2_ := Aside0.mk ((by rw [hg]; exact (below_size (by repeat (first | (with_reducible first | exact HB.out | apply below_alloc | apply pw_below_drewN | apply below_drew1) | exact HB.out))) : w.heap.size ≤ gb119)); have n3_ := Aside0.mk ((by rw [hg]; exact (below_size (by repeat (first | (with_reducible first | exact HB.out | apply below_alloc | apply pw_below_drewN | apply below_drew1) | exact HB.out))) : w.heap.size ≤ gb119)); clear HB; have HB := n0_; have BK119 := n1_; have GW119 := n2_; have GE119 := n3_; clear n0_ n1_ n2_ n3_; clear hb hbox hg) | ((with_reducible refine gate_dst (N := 3) rfl ?_); refine box_event ?hg (N := 3) ?hd (cs := #[.int .i64 a1_0, .int .i64 a1_1, .int .i64 a1_2, .int .i64 a1_3, .int .u16 a1_4, .int .i64 a1_5, .slice A1_6 l1_6.length c1_6]) (t := 49) ?hr ?_; (case hd => rfl); (case hg => rfl); (case hr => first | (go_simp; done) | (go_simp; rfl)); intro gb120 hg w12 hbox hb; have n0_ := Aside0.mk (blk_below (g := gb119) (o := .cells #[.int .i64 a0_0, .int .i64 a0_1, .int .i64 a0_2, .slice A0_3 l0_3.length c0_3, .int .u16 a0_4] 55 (0, 0)) (by (with_reducible repeat (first | refine blk_drewN ?_ _ | refine blk_drew ?_ | refine blk_alloc ?_ _)); exact BK119.out) hb); have n1_ := Aside0.mk (below_step (by repeat (first | (with_reducible first | exact HB.out | apply below_alloc | apply pw_below_drewN | apply below_drew1 | refine below_set ?_ GE119.out) | exact HB.out)) hb); have n2_ := Aside0.mk (hbox); have n3_ := Aside0.mk ((by rw [hg]; exact (below_size (by repeat (first | (with_reducible first | exact HB.out | apply below_alloc | apply pw_below_drewN | apply below_drew1 | refine below_set ?_ GE119.out) | exact HB.out))) : w.heap.size ≤ gb120)); have n4_ := Aside0.mk ((by rw [hg]; exact (below_size (by repeat (first | (with_reducible first | exact HB.out | apply below_alloc | apply pw_below_drewN | apply below_drew1 | refine below_set ?_ GE119.out) | exact HB.out))) : w.heap.size ≤ gb120)); have n5_ := Aside0.mk ((by rw [hg]; exact Nat.ne_of_lt (blk_lt (g := gb119) (o := .cells #[.int .i64 a0_0, .int .i64 a0_1, .int .i64 a0_2, .slice A0_3 l0_3.length c0_3, .int .u16 a0_4] 55 (0, 0)) (by (with_reducible repeat (first | refine blk_drewN ?_ _ | refine blk_drew ?_ | refine blk_alloc ?_ _)); exact BK119.out)) : gb119 ≠ gb120)); have n6_ := Aside0.mk ((by rw [hg]; exact Nat.ne_of_gt (blk_lt (g := gb119) (o := .cells #[.int .i64 a0_0, .int .i64 a0_1, .int .i64 a0_2, .slice A0_3 l0_3.length c0_3, .int .u16 a0_4] 55 (0, 0)) (by (with_reducible repeat (first | refine blk_drewN ?_ _ | refine blk_drew ?_ | refine blk_alloc ?_ _)); exact BK119.out)) : gb120 ≠ gb119)); clear BK119; clear HB; have BK119 := n0_; have HB := n1_; have BK120 := n2_; have GW120 := n3_; have GE120 := n4_; have NB119_120 := n5_; have NB120_119 := n6_; clear n0_ n1_ n2_ n3_ n4_ n5_ n6_; clear hb hbox hg) | ((with_reducible refine gate_dst (N := 4) rfl ?_); refine box_event ?hg (N := 4) ?hd (cs := #[.int .i64 0, .int .i64 0, .int .i64 0, .slice none 0 0, .int .u16 0]) (t := 55) ?hr ?_; (case hd => rfl); (case hg => rfl); (case hr => first | (go_simp; done) | (go_simp; rfl)); intro gb121 hg w13 hbox hb; have n0_ := Aside0.mk (blk_below (g := gb119) (o := .cells #[.int .i64 a0_0, .int .i64 a0_1, .int .i64 a0_2, .slice A0_3 l0_3.length c0_3, .int .u16 a0_4] 55 (0, 0)) (by (with_reducible repeat (first | refine blk_drewN ?_ _ | refine blk_drew ?_ | refine blk_alloc ?_ _)); exact BK119.out) hb); have n1_ := Aside0.mk (blk_below (g := gb120) (o := .cells #[.int .i64 a1_0, .int .i64 a1_1, .int .i64 a1_2, .int .i64 a1_3, .int .u16 a1_4, .int .i64 a1_5, .slice A1_6 l1_6.length c1_6] 49 (0, 0)) (by (with_reducible repeat (first | refine blk_drewN ?_ _ | refine blk_drew ?_ | refine blk_alloc ?_ _)); exact BK120.out) hb); have n2_ := Aside0.mk (below_step (by repeat (first | (with_reducible first | exact HB.out | apply below_alloc | apply pw_below_drewN | apply below_drew1 | refine below_set ?_ GE119.out | refine below_set ?_ GE120.out) | exact HB.out)) hb); have n3_ := Aside0.mk (hbox); have n4_ := Aside0.mk ((by rw [hg]; exact (below_size (by repeat (first | (with_reducible first | exact HB.out | apply below_alloc | apply pw_below_drewN | apply below_drew1 | refine below_set ?_ GE119.out | refine below_set ?_ GE120.out) | exact HB.out))) : w.heap.size ≤ gb121)); have n5_ := Aside0.mk ((by rw [hg]; exact (below_size (by repeat (first | (with_reducible first | exact HB.out | apply below_alloc | apply pw_below_drewN | apply below_drew1 | refine below_set ?_ GE119.out | refine below_set ?_ GE120.out) | exact HB.out))) : w.heap.size ≤ gb121)); have n6_ := Aside0.mk ((by rw [hg]; exact Nat.ne_of_lt (blk_lt (g := gb119) (o := .cells #[.int .i64 a0_0, .int .i64 a0_1, .int .i64 a0_2, .slice A0_3 l0_3.length c0_3, .int .u16 a0_4] 55 (0, 0)) (by (with_reducible repeat (first | refine blk_drewN ?_ _ | refine blk_drew ?_ | refine blk_alloc ?_ _)); exact BK119.out)) : gb119 ≠ gb121)); have n7_ := Aside0.mk ((by rw [hg]; exact Nat.ne_of_gt (blk_lt (g := gb119) (o := .cells #[.int .i64 a0_0, .int .i64 a0_1, .int .i64 a0_2, .slice A0_3 l0_3.length c0_3, .int .u16 a0_4] 55 (0, 0)) (by (with_reducible repeat (first | refine blk_drewN ?_ _ | refine blk_drew ?_ | refine blk_alloc ?_ _)); exact BK119.out)) : gb121 ≠ gb119)); have n8_ := Aside0.mk ((by rw [hg]; exact Nat.ne_of_lt (blk_lt (g := gb120) (o := .cells #[.int .i64 a1_0, .int .i64 a1_1, .int .i64 a1_2, .int .i64 a1_3, .int .u16 a1_4, .int .i64 a1_5, .slice A1_6 l1_6.length c1_6] 49 (0, 0)) (by (with_reducible repeat (first | refine blk_drewN ?_ _ | refine blk_drew ?_ | refine blk_alloc ?_ _)); exact BK120.out)) : gb120 ≠ gb121)); have n9_ := Aside0.mk ((by rw [hg]; exact Nat.ne_of_gt (blk_lt (g := gb120) (o := .cells #[.int .i64 a1_0, .int .i64 a1_1, .int .i64 a1_2, .int .i64 a1_3, .int .u16 a1_4, .int .i64 a1_5, .slice A1_6 l1_6.length c1_6] 49 (0, 0)) (by (with_reducible repeat (first | refine blk_drewN ?_ _ | refine blk_drew ?_ | refine blk_alloc ?_ _)); exact BK120.out)) : gb121 ≠ gb120)); clear BK119; clear BK120; clear HB; have BK119 := n0_; have BK120 := n1_; have HB := n2_; have BK121 := n3_; have GW121 := n4_; have GE121 := n5_; have NB119_121 := n6_; have NB121_119 := n7_; have NB120_121 := n8_; have NB121_120 := n9_; clear n0_ n1_ n2_ n3_ n4_ n5_ n6_ n7_ n8_ n9_; clear hb hbox hg; have hnb14 := NB119_120.out; have hnc14 := NB120_119.out; have hnb15 := NB119_121.out; have hnc15 := NB121_119.out; have hcz16_0 : w13.cell? ⟨gb119, 0, none⟩ = some (.int .i64 a0_0) := (blk_cell BK119.out 0).trans rfl; have hcz16_1 : w13.cell? ⟨gb119, 1, none⟩ = some (.int .i64 a0_1) := (blk_cell BK119.out 1).trans rfl; have hcz16_2 : w13.cell? ⟨gb119, 2, none⟩ = some (.int .i64 a0_2) := (blk_cell BK119.out 2).trans rfl; have hcz16_3 : w13.cell? ⟨gb119, 3, none⟩ = some (.slice A0_3 l0_3.length c0_3) := (blk_cell BK119.out 3).trans rfl; have hcz16_4 : w13.cell? ⟨gb119, 4, none⟩ = some (.int .u16 a0_4) := (blk_cell BK119.out 4).trans rfl; have hfz16_0 := blk_frozen BK119.out 0; have hfz16_1 := blk_frozen BK119.out 1; have hfz16_2 := blk_frozen BK119.out 2; have hfz16_3 := blk_frozen BK119.out 3; have hfz16_4 := blk_frozen BK119.out 4) | ((with_reducible refine gate_callee (f := 69) rfl ?_); refine goesL_ (some 11) rfl rfl Try.func69 (by kernel_rfl) rfl #[.agg #[.int .i64 a0_0, .int .i64 a0_1, .int .i64 a0_2, .slice A0_3 l0_3.length c0_3, .int .u16 a0_4]] rfl (by (try simp only [List.map_toArray, List.map_cons, List.map_nil]); first | done | rfl | (simp only [List.length_drop, List.length_take]; rfl)) ?_; (with_reducible refine (frame_copied.calls a0_0 a0_1 a0_2 _ _ l0_3 a0_4 t122 t123 t124 t125 t128 _ ?side1 ?side2 A3.out).mono ?_); (case side1 => repeat (first | exact (Kd.C_below HR0_3.out HB.out) | (with_reducible refine Kd.C_alloc ?_ _) | (with_reducible refine Kd.C_drewN ?_ _) | (with_reducible refine Kd.C_drew ?_))); (case side2 => exact HC0_3.out); rintro e w17 ⟨v126, rfl, ho0, hb⟩; refine ⟨_, rfl, ?_⟩; have n0_ := Aside0.mk (Kd.R_lower ho0 (below_size (by repeat (first | (with_reducible first | exact HB.out | apply below_alloc | apply pw_below_drewN | apply below_drew1 | refine below_set ?_ GE119.out | refine below_set ?_ GE120.out | refine below_set ?_ GE121.out) | exact HB.out)))); have n1_ := Aside0.mk (blk_below (g := gb119) (o := .cells #[.int .i64 a0_0, .int .i64 a0_1, .int .i64 a0_2, .slice A0_3 l0_3.length c0_3, .int .u16 a0_4] 55 (0, 0)) (by (with_reducible repeat (first | refine blk_drewN ?_ _ | refine blk_drew ?_ | refine blk_alloc ?_ _)); exact BK119.out) hb); have n2_ := Aside0.mk (blk_below (g := gb120) (o := .cells #[.int .i64 a1_0, .int .i64 a1_1, .int .i64 a1_2, .int .i64 a1_3, .int .u16 a1_4, .int .i64 a1_5, .slice A1_6 l1_6.length c1_6] 49 (0, 0)) (by (with_reducible repeat (first | refine blk_drewN ?_ _ | refine blk_drew ?_ | refine blk_alloc ?_ _)); exact BK120.out) hb); have n3_ := Aside0.mk (blk_below (g := gb121) (o := .cells #[.int .i64 0, .int .i64 0, .int .i64 0, .slice none 0 0, .int .u16 0] 55 (0, 0)) (by (with_reducible repeat (first | refine blk_drewN ?_ _ | refine blk_drew ?_ | refine blk_alloc ?_ _)); exact BK121.out) hb); have n4_ := Aside0.mk (below_step (by repeat (first | (with_reducible first | exact HB.out | apply below_alloc | apply pw_below_drewN | apply below_drew1 | refine below_set ?_ GE119.out | refine below_set ?_ GE120.out | refine below_set ?_ GE121.out) | exact HB.out)) hb); clear BK119; clear BK120; clear BK121; clear HB; have HO127 := n0_; have BK119 := n1_; have BK120 := n2_; have BK121 := n3_; have HB := n4_; clear n0_ n1_ n2_ n3_ n4_; (try clear hb); (try clear hb2); (try clear hk); (try clear hi); (try clear ho0); have hcz18_0 : w17.cell? ⟨gb119, 0, none⟩ = some (.int .i64 a0_0) := (blk_cell BK119.out 0).trans rfl; have hcz18_1 : w17.cell? ⟨gb119, 1, none⟩ = some (.int .i64 a0_1) := (blk_cell BK119.out 1).trans rfl; have hcz18_2 : w17.cell? ⟨gb119, 2, none⟩ = some (.int .i64 a0_2) := (blk_cell BK119.out 2).trans rfl; have hcz18_3 : w17.cell? ⟨gb119, 3, none⟩ = some (.slice A0_3 l0_3.length c0_3) := (blk_cell BK119.out 3).trans rfl; have hcz18_4 : w17.cell? ⟨gb119, 4, none⟩ = some (.int .u16 a0_4) := (blk_cell BK119.out 4).trans rfl; have hfz18_0 := blk_frozen BK119.out 0; have hfz18_1 := blk_frozen BK119.out 1; have hfz18_2 := blk_frozen BK119.out 2; have hfz18_3 := blk_frozen BK119.out 3; have hfz18_4 := blk_frozen BK119.out 4; obtain ⟨Ao19, co19, eo19⟩ := Kd.R_slice HO127.out; subst eo19; have hnb20 := NB120_121.out; have hnc20 := NB121_120.out; have hcz21_0 : w17.cell? ⟨gb120, 0, none⟩ = some (.int .i64 a1_0) := (blk_cell BK120.out 0).trans rfl; have hcz21_1 : w17.cell? ⟨gb120, 1, none⟩ = some (.int .i64 a1_1) := (blk_cell BK120.out 1).trans rfl; have hcz21_2 : w17.cell? ⟨gb120, 2, none⟩ = some (.int .i64 a1_2) := (blk_cell BK120.out 2).trans rfl; have hcz21_3 : w17.cell? ⟨gb120, 3, none⟩ = some (.int .i64 a1_3) := (blk_cell BK120.out 3).trans rfl; have hcz21_4 : w17.cell? ⟨gb120, 4, none⟩ = some (.int .u16 a1_4) := (blk_cell BK120.out 4).trans rfl; have hcz21_5 : w17.cell? ⟨gb120, 5, none⟩ = some (.int .i64 a1_5) := (blk_cell BK120.out 5).trans rfl; have hcz21_6 : w17.cell? ⟨gb120, 6, none⟩ = some (.slice A1_6 l1_6.length c1_6) := (blk_cell BK120.out 6).trans rfl; have hfz21_0 := blk_frozen BK120.out 0; have hfz21_1 := blk_frozen BK120.out 1; have hfz21_2 := blk_frozen BK120.out 2; have hfz21_3 := blk_frozen BK120.out 3; have hfz21_4 := blk_frozen BK120.out 4; have hfz21_5 := blk_frozen BK120.out 5; have hfz21_6 := blk_frozen BK120.out 6) | ((with_reducible refine gate_callee (f := 70) rfl ?_); refine goesL_ (some 15) rfl rfl Try.func70 (by kernel_rfl) rfl #[.agg #[.int .i64 t122, .int .i64 t123, .int .i64 t124, .slice Ao19 t125.length co19, .int .u16 t128], .agg #[.int .i64 a1_0, .int .i64 a1_1, .int .i64 a1_2, .int .i64 a1_3, .int .u16 a1_4, .int .i64 a1_5, .slice A1_6 l1_6.length c1_6]] rfl (by (try simp only [List.map_toArray, List.map_cons, List.map_nil]); first | done | rfl | (simp only [List.length_drop, List.length_take]; rfl)) ?_; (with_reducible refine (frame_answer.calls k t122 t123 t124 _ _ t125 t128 a1_0 a1_1 a1_2 a1_3 a1_4 a1_5 _ _ l1_6 t129 true _ ?side1 ?side2 ?side3 ?side4 A4.out).mono ?_); (case side1 => refine (Kd.R_reads' (e := 44) (base := w.heap.size) (ok := fun k_ => True) (n := t125.length) (c := co19) ?_).2.2; exact (by (with_reducible repeat (first | apply Kd.R_alloc | apply Kd.R_drewN | apply Kd.R_drew)); exact (Kd.R_mono (Kd.R_far (p := ⟨gb119, 4, none⟩) (Kd.R_far (p := ⟨gb119, 3, none⟩) (Kd.R_far (p := ⟨gb119, 2, none⟩) (Kd.R_far (p := ⟨gb119, 1, none⟩) (Kd.R_far (p := ⟨gb119, 0, none⟩) (Kd.R_types HO127.out BK119.out (by decide)) (fun _ hk => hk.2) (.int .i64 t122)) (fun _ hk => hk.2) (.int .i64 t123)) (fun _ hk => hk.2) (.int .i64 t124)) (fun _ hk => hk.2) (.slice Ao19 t125.length co19)) (fun _ hk => hk.2) (.int .u16 t128)) (fun _ h_ => h_.1)))); (case side2 => exact (Kd.R_reads' HO127.out).2.1); (case side3 => exact Kd.C_below HR1_6.out (by repeat (first | (with_reducible first | exact HB.out | apply below_alloc | apply pw_below_drewN | apply below_drew1 | refine below_set ?_ GE119.out | refine below_set ?_ GE120.out | refine below_set ?_ GE121.out) | exact HB.out))); (case side4 => exact HC1_6.out); rintro e w22 ⟨rfl, hb⟩; refine ⟨_, rfl, ?_⟩; have n0_ := Aside0.mk (Kd.R_below (by (with_reducible repeat (first | apply Kd.R_alloc | apply Kd.R_drewN | apply Kd.R_drew)); exact (Kd.R_mono (Kd.R_far (p := ⟨gb119, 4, none⟩) (Kd.R_far (p := ⟨gb119, 3, none⟩) (Kd.R_far (p := ⟨gb119, 2, none⟩) (Kd.R_far (p := ⟨gb119, 1, none⟩) (Kd.R_far (p := ⟨gb119, 0, none⟩) (Kd.R_types HO127.out BK119.out (by decide)) (fun _ hk => hk.2) (.int .i64 t122)) (fun _ hk => hk.2) (.int .i64 t123)) (fun _ hk => hk.2) (.int .i64 t124)) (fun _ hk => hk.2) (.slice Ao19 t125.length co19)) (fun _ hk => hk.2) (.int .u16 t128)) (fun _ h_ => h_.1))) hb); have n1_ := Aside0.mk (blk_below (g := gb119) (o := .cells #[.int .i64 t122, .int .i64 t123, .int .i64 t124, .slice Ao19 t125.length co19, .int .u16 t128] 55 (0, 0)) (by (with_reducible repeat (first | refine blk_drewN ?_ _ | refine blk_drew ?_ | refine blk_alloc ?_ _)); refine blk_put (cs := #[.int .i64 t122, .int .i64 t123, .int .i64 t124, .slice Ao19 t125.length co19, .int .u16 a0_4]) ?_ 4 _ rfl; (with_reducible repeat (first | refine blk_drewN ?_ _ | refine blk_drew ?_ | refine blk_alloc ?_ _)); refine blk_put (cs := #[.int .i64 t122, .int .i64 t123, .int .i64 t124, .slice A0_3 l0_3.length c0_3, .int .u16 a0_4]) ?_ 3 _ rfl; (with_reducible repeat (first | refine blk_drewN ?_ _ | refine blk_drew ?_ | refine blk_alloc ?_ _)); refine blk_put (cs := #[.int .i64 t122, .int .i64 t123, .int .i64 a0_2, .slice A0_3 l0_3.length c0_3, .int .u16 a0_4]) ?_ 2 _ rfl; (with_reducible repeat (first | refine blk_drewN ?_ _ | refine blk_drew ?_ | refine blk_alloc ?_ _)); refine blk_put (cs := #[.int .i64 t122, .int .i64 a0_1, .int .i64 a0_2, .slice A0_3 l0_3.length c0_3, .int .u16 a0_4]) ?_ 1 _ rfl; (with_reducible repeat (first | refine blk_drewN ?_ _ | refine blk_drew ?_ | refine blk_alloc ?_ _)); refine blk_put (cs := #[.int .i64 a0_0, .int .i64 a0_1, .int .i64 a0_2, .slice A0_3 l0_3.length c0_3, .int .u16 a0_4]) ?_ 0 _ rfl; (with_reducible repeat (first | refine blk_drewN ?_ _ | refine blk_drew ?_ | refine blk_alloc ?_ _)); exact BK119.out) hb); have n2_ := Aside0.mk (blk_below (g := gb120) (o := .cells #[.int .i64 a1_0, .int .i64 a1_1, .int .i64 a1_2, .int .i64 a1_3, .int .u16 a1_4, .int .i64 a1_5, .slice A1_6 l1_6.length c1_6] 49 (0, 0)) (by (with_reducible repeat (first | refine blk_drewN ?_ _ | refine blk_drew ?_ | refine blk_alloc ?_ _)); refine blk_far ?_ NB120_119.out _; (with_reducible repeat (first | refine blk_drewN ?_ _ | refine blk_drew ?_ | refine blk_alloc ?_ _)); refine blk_far ?_ NB120_119.out _; (with_reducible repeat (first | refine blk_drewN ?_ _ | refine blk_drew ?_ | refine blk_alloc ?_ _)); refine blk_far ?_ NB120_119.out _; (with_reducible repeat (first | refine blk_drewN ?_ _ | refine blk_drew ?_ | refine blk_alloc ?_ _)); refine blk_far ?_ NB120_119.out _; (with_reducible repeat (first | refine blk_drewN ?_ _ | refine blk_drew ?_ | refine blk_alloc ?_ _)); refine blk_far ?_ NB120_119.out _; (with_reducible repeat (first | refine blk_drewN ?_ _ | refine blk_drew ?_ | refine blk_alloc ?_ _)); exact BK120.out) hb); have n3_ := Aside0.mk (blk_below (g := gb121) (o := .cells #[.int .i64 0, .int .i64 0, .int .i64 0, .slice none 0 0, .int .u16 0] 55 (0, 0)) (by (with_reducible repeat (first | refine blk_drewN ?_ _ | refine blk_drew ?_ | refine blk_alloc ?_ _)); refine blk_far ?_ NB121_119.out _; (with_reducible repeat (first | refine blk_drewN ?_ _ | refine blk_drew ?_ | refine blk_alloc ?_ _)); refine blk_far ?_ NB121_119.out _; (with_reducible repeat (first | refine blk_drewN ?_ _ | refine blk_drew ?_ | refine blk_alloc ?_ _)); refine blk_far ?_ NB121_119.out _; (with_reducible repeat (first | refine blk_drewN ?_ _ | refine blk_drew ?_ | refine blk_alloc ?_ _)); refine blk_far ?_ NB121_119.out _; (with_reducible repeat (first | refine blk_drewN ?_ _ | refine blk_drew ?_ | refine blk_alloc ?_ _)); refine blk_far ?_ NB121_119.out _; (with_reducible repeat (first | refine blk_drewN ?_ _ | refine blk_drew ?_ | refine blk_alloc ?_ _)); exact BK121.out) hb); have n4_ := Aside0.mk (below_step (by repeat (first | (with_reducible first | exact HB.out | apply below_alloc | apply pw_below_drewN | apply below_drew1 | refine below_set ?_ GE119.out | refine below_set ?_ GE120.out | refine below_set ?_ GE121.out) | exact HB.out)) hb); clear HO127; clear BK119; clear BK120; clear BK121; clear HB; have HO127 := n0_; have BK119 := n1_; have BK120 := n2_; have BK121 := n3_; have HB := n4_; clear n0_ n1_ n2_ n3_ n4_; (try clear hb); (try clear hb2); (try clear hk); (try clear hi); have hcz23_0 : w22.cell? ⟨gb119, 0, none⟩ = some (.int .i64 t122) := (blk_cell BK119.out 0).trans rfl; have hcz23_1 : w22.cell? ⟨gb119, 1, none⟩ = some (.int .i64 t123) := (blk_cell BK119.out 1).trans rfl; have hcz23_2 : w22.cell? ⟨gb119, 2, none⟩ = some (.int .i64 t124) := (blk_cell BK119.out 2).trans rfl; have hcz23_3 : w22.cell? ⟨gb119, 3, none⟩ = some (.slice Ao19 t125.length co19) := (blk_cell BK119.out 3).trans rfl; have hcz23_4 : w22.cell? ⟨gb119, 4, none⟩ = some (.int .u16 t128) := (blk_cell BK119.out 4).trans rfl; have hfz23_0 := blk_frozen BK119.out 0; have hfz23_1 := blk_frozen BK119.out 1; have hfz23_2 := blk_frozen BK119.out 2; have hfz23_3 := blk_frozen BK119.out 3; have hfz23_4 := blk_frozen BK119.out 4; have hcz24_0 : w22.cell? ⟨gb120, 0, none⟩ = some (.int .i64 a1_0) := (blk_cell BK120.out 0).trans rfl; have hcz24_1 : w22.cell? ⟨gb120, 1, none⟩ = some (.int .i64 a1_1) := (blk_cell BK120.out 1).trans rfl; have hcz24_2 : w22.cell? ⟨gb120, 2, none⟩ = some (.int .i64 a1_2) := (blk_cell BK120.out 2).trans rfl; have hcz24_3 : w22.cell? ⟨gb120, 3, none⟩ = some (.int .i64 a1_3) := (blk_cell BK120.out 3).trans rfl; have hcz24_4 : w22.cell? ⟨gb120, 4, none⟩ = some (.int .u16 a1_4) := (blk_cell BK120.out 4).trans rfl; have hcz24_5 : w22.cell? ⟨gb120, 5, none⟩ = some (.int .i64 a1_5) := (blk_cell BK120.out 5).trans rfl; have hcz24_6 : w22.cell? ⟨gb120, 6, none⟩ = some (.slice A1_6 l1_6.length c1_6) := (blk_cell BK120.out 6).trans rfl; have hfz24_0 := blk_frozen BK120.out 0; have hfz24_1 := blk_frozen BK120.out 1; have hfz24_2 := blk_frozen BK120.out 2; have hfz24_3 := blk_frozen BK120.out 3; have hfz24_4 := blk_frozen BK120.out 4; have hfz24_5 := blk_frozen BK120.out 5; have hfz24_6 := blk_frozen BK120.out 6) | ((with_reducible refine gate_callee (f := 71) rfl ?_); refine goesL_ (some 22) rfl rfl Try.func71 (by kernel_rfl) rfl #[.agg #[.int .i64 t122, .int .i64 t123, .int .i64 t124, .slice Ao19 t125.length co19, .int .u16 t128], .int .i64 a1_1] rfl (by (try simp only [List.map_toArray, List.map_cons, List.map_nil]); first | done | rfl | (simp only [List.length_drop, List.length_take]; rfl)) ?_; (with_reducible refine (frame_at.calls t122 t123 t124 _ _ t125 t128 a1_1 t131 true _ ?side1 ?side2 A5.out).mono ?_); (case side1 => repeat (first | exact (Kd.R_reads' HO127.out).2.2 | (with_reducible refine Kd.C_alloc ?_ _) | (with_reducible refine Kd.C_drewN ?_ _) | (with_reducible refine Kd.C_drew ?_))); (case side2 => exact (Kd.R_reads' HO127.out).2.1); rintro e w25 ⟨rfl, hb⟩; refine ⟨_, rfl, ?_⟩; have n0_ := Aside0.mk (Kd.R_below (by (with_reducible repeat (first | apply Kd.R_alloc | apply Kd.R_drewN | apply Kd.R_drew)); exact HO127.out) hb); have n1_ := Aside0.mk (blk_below (g := gb119) (o := .cells #[.int .i64 t122, .int .i64 t123, .int .i64 t124, .slice Ao19 t125.length co19, .int .u16 t128] 55 (0, 0)) (by (with_reducible repeat (first | refine blk_drewN ?_ _ | refine blk_drew ?_ | refine blk_alloc ?_ _)); exact BK119.out) hb); have n2_ := Aside0.mk (blk_below (g := gb120) (o := .cells #[.int .i64 a1_0, .int .i64 a1_1, .int .i64 a1_2, .int .i64 a1_3, .int .u16 a1_4, .int .i64 a1_5, .slice A1_6 l1_6.length c1_6] 49 (0, 0)) (by (with_reducible repeat (first | refine blk_drewN ?_ _ | refine blk_drew ?_ | refine blk_alloc ?_ _)); exact BK120.out) hb); have n3_ := Aside0.mk (blk_below (g := gb121) (o := .cells #[.int .i64 0, .int .i64 0, .int .i64 0, .slice none 0 0, .int .u16 0] 55 (0, 0)) (by (with_reducible repeat (first | refine blk_drewN ?_ _ | refine blk_drew ?_ | refine blk_alloc ?_ _)); exact BK121.out) hb); have n4_ := Aside0.mk (below_step (by repeat (first | (with_reducible first | exact HB.out | apply below_alloc | apply pw_below_drewN | apply below_drew1 | refine below_set ?_ GE119.out | refine below_set ?_ GE120.out | refine below_set ?_ GE121.out) | exact HB.out)) hb); clear HO127; clear BK119; clear BK120; clear BK121; clear HB; have HO127 := n0_; have BK119 := n1_; have BK120 := n2_; have BK121 := n3_; have HB := n4_; clear n0_ n1_ n2_ n3_ n4_; (try clear hb); (try clear hb2); (try clear hk); (try clear hi); have hcz26_0 : w25.cell? ⟨gb119, 0, none⟩ = some (.int .i64 t122) := (blk_cell BK119.out 0).trans rfl; have hcz26_1 : w25.cell? ⟨gb119, 1, none⟩ = some (.int .i64 t123) := (blk_cell BK119.out 1).trans rfl; have hcz26_2 : w25.cell? ⟨gb119, 2, none⟩ = some (.int .i64 t124) := (blk_cell BK119.out 2).trans rfl; have hcz26_3 : w25.cell? ⟨gb119, 3, none⟩ = some (.slice Ao19 t125.length co19) := (blk_cell BK119.out 3).trans rfl; have hcz26_4 : w25.cell? ⟨gb119, 4, none⟩ = some (.int .u16 t128) := (blk_cell BK119.out 4).trans rfl; have hfz26_0 := blk_frozen BK119.out 0; have hfz26_1 := blk_frozen BK119.out 1; have hfz26_2 := blk_frozen BK119.out 2; have hfz26_3 := blk_frozen BK119.out 3; have hfz26_4 := blk_frozen BK119.out 4; have hcz27_0 : w25.cell? ⟨gb120, 0, none⟩ = some (.int .i64 a1_0) := (blk_cell BK120.out 0).trans rfl; have hcz27_1 : w25.cell? ⟨gb120, 1, none⟩ = some (.int .i64 a1_1) := (blk_cell BK120.out 1).trans rfl; have hcz27_2 : w25.cell? ⟨gb120, 2, none⟩ = some (.int .i64 a1_2) := (blk_cell BK120.out 2).trans rfl; have hcz27_3 : w25.cell? ⟨gb120, 3, none⟩ = some (.int .i64 a1_3) := (blk_cell BK120.out 3).trans rfl; have hcz27_4 : w25.cell? ⟨gb120, 4, none⟩ = some (.int .u16 a1_4) := (blk_cell BK120.out 4).trans rfl; have hcz27_5 : w25.cell? ⟨gb120, 5, none⟩ = some (.int .i64 a1_5) := (blk_cell BK120.out 5).trans rfl; have hcz27_6 : w25.cell? ⟨gb120, 6, none⟩ = some (.slice A1_6 l1_6.length c1_6) := (blk_cell BK120.out 6).trans rfl; have hfz27_0 := blk_frozen BK120.out 0; have hfz27_1 := blk_frozen BK120.out 1; have hfz27_2 := blk_frozen BK120.out 2; have hfz27_3 := blk_frozen BK120.out 3; have hfz27_4 := blk_frozen BK120.out 4; have hfz27_5 := blk_frozen BK120.out 5; have hfz27_6 := blk_frozen BK120.out 6; have p10 : 0 ≤ (a1_1 : Int) := of_decide_eq_true (by first | (with_reducible assumption) | assumption); have q10 : (a1_1 : Int) < ((t125.length : Int) : Int) := of_decide_eq_true (by first | (with_reducible assumption) | assumption); obtain ⟨go10, co10, eo10, gb10, gl10, cl10, HG10⟩ := Kd.R_form HO127.out (by omega); (first | cases eo10 | (injection eo10 with ea_ en_ ec_; (first | subst ea_ | (injection ea_ with ea_; subst ea_)); subst ec_; clear en_)); have GB10 := Aside0.mk gb10; have GG10 := Aside0.mk HG10; clear gb10 gl10 HG10; obtain ⟨hx10_0, hf10_0⟩ := Kd.R_celln 0 HO127.out (a1_1 : Int) p10 q10; replace p10 := eq_true p10; replace q10 := eq_true q10; obtain ⟨hy28_, hz28_⟩ := Kd.R_celln 0 HO127.out (a1_1 : Int) (of_decide_eq_true (by first | (with_reducible assumption) | assumption)) (of_decide_eq_true (by first | (with_reducible assumption) | assumption)); have HP28 := Kd.R_putg HO127.out (a1_1 : Int) t129) | ((with_reducible refine gate_store (t := 44) (p := 37) rfl ?_); refine store_event (t := 44) (p := 37) (v := ?vo_w29) (w1 := (w25.setCell ⟨go10, (a1_1 : Int).toNat, none⟩ (.int .u16 t129))) ?hg ?ho ?hn ?hr ?_; (case ho => rfl); (case hg => rfl); (case hn => rfl); (case hr => first | (go_simp; done) | (go_simp; rfl)); intro w29 hw; have hg : w25.grownBy w29 (some go10) := (by rw [hw]; exact HP28.2); have hp_ : Kd.R (Kd.int .u16) 44 w29 w.heap.size (fun _ => True) (.slice (some ⟨go10, 0, none⟩) t125.length co19) y133 := (by rw [hw, Ny133.out]; exact HP28.1); clear HP28; have n0_ := Aside0.mk (blk_grown (g := gb119) (o := .cells #[.int .i64 t122, .int .i64 t123, .int .i64 t124, .slice (some ⟨go10, 0, none⟩) t125.length co19, .int .u16 t128] 55 (0, 0)) (by (with_reducible repeat (first | refine blk_drewN ?_ _ | refine blk_drew ?_ | refine blk_alloc ?_ _)); exact BK119.out) hg (Kd.R_ne HO127.out BK119.out (by decide))); have n1_ := Aside0.mk (blk_grown (g := gb120) (o := .cells #[.int .i64 a1_0, .int .i64 a1_1, .int .i64 a1_2, .int .i64 a1_3, .int .u16 a1_4, .int .i64 a1_5, .slice A1_6 l1_6.length c1_6] 49 (0, 0)) (by (with_reducible repeat (first | refine blk_drewN ?_ _ | refine blk_drew ?_ | refine blk_alloc ?_ _)); exact BK120.out) hg (Kd.R_ne HO127.out BK120.out (by decide))); have n2_ := Aside0.mk (blk_grown (g := gb121) (o := .cells #[.int .i64 0, .int .i64 0, .int .i64 0, .slice none 0 0, .int .u16 0] 55 (0, 0)) (by (with_reducible repeat (first | refine blk_drewN ?_ _ | refine blk_drew ?_ | refine blk_alloc ?_ _)); exact BK121.out) hg (Kd.R_ne HO127.out BK121.out (by decide))); have n3_ := Aside0.mk (hp_); have n4_ := Aside0.mk ((by rw [hw]; exact below_set (HB.out) GB10.out : Below w.heap.size w w29)); clear BK119; clear BK120; clear BK121; clear HO127; clear HB; have BK119 := n0_; have BK120 := n1_; have BK121 := n2_; have HO127 := n3_; have HB := n4_; clear n0_ n1_ n2_ n3_ n4_; clear hg hw hp_; have hcz30_0 : w29.cell? ⟨gb119, 0, none⟩ = some (.int .i64 t122) := (blk_cell BK119.out 0).trans rfl; have hcz30_1 : w29.cell? ⟨gb119, 1, none⟩ = some (.int .i64 t123) := (blk_cell BK119.out 1).trans rfl; have hcz30_2 : w29.cell? ⟨gb119, 2, none⟩ = some (.int .i64 t124) := (blk_cell BK119.out 2).trans rfl; have hcz30_3 : w29.cell? ⟨gb119, 3, none⟩ = some (.slice (some ⟨go10, 0, none⟩) t125.length co19) := (blk_cell BK119.out 3).trans rfl; have hcz30_4 : w29.cell? ⟨gb119, 4, none⟩ = some (.int .u16 t128) := (blk_cell BK119.out 4).trans rfl; have hfz30_0 := blk_frozen BK119.out 0; have hfz30_1 := blk_frozen BK119.out 1; have hfz30_2 := blk_frozen BK119.out 2; have hfz30_3 := blk_frozen BK119.out 3; have hfz30_4 := blk_frozen BK119.out 4; have hcz31_0 : w29.cell? ⟨gb121, 0, none⟩ = some (.int .i64 0) := (blk_cell BK121.out 0).trans rfl; have hcz31_1 : w29.cell? ⟨gb121, 1, none⟩ = some (.int .i64 0) := (blk_cell BK121.out 1).trans rfl; have hcz31_2 : w29.cell? ⟨gb121, 2, none⟩ = some (.int .i64 0) := (blk_cell BK121.out 2).trans rfl; have hcz31_3 : w29.cell? ⟨gb121, 3, none⟩ = some (.slice none 0 0) := (blk_cell BK121.out 3).trans rfl; have hcz31_4 : w29.cell? ⟨gb121, 4, none⟩ = some (.int .u16 0) := (blk_cell BK121.out 4).trans rfl; have hfz31_0 := blk_frozen BK121.out 0; have hfz31_1 := blk_frozen BK121.out 1; have hfz31_2 := blk_frozen BK121.out 2; have hfz31_3 := blk_frozen BK121.out 3; have hfz31_4 := blk_frozen BK121.out 4))
     refine bodyPost_ret (results_ct rfl _ _ gb121 55 #[.int .i64 t122, .int .i64 t123, .int .i64 (wrap64 (t124 + 1)), .slice (some ⟨go10, 0, none⟩) t125.length co19, .int .u16 t128] (0, 0) _ rfl (by (with_reducible repeat (first | refine blk_drewN ?_ _ | refine blk_drew ?_ | refine blk_alloc ?_ _)); refine blk_put (cs := #[.int .i64 t122, .int .i64 t123, .int .i64 (wrap64 (t124 + 1)), .slice (some ⟨go10, 0, none⟩) t125.length co19, .int .u16 0]) ?_ 4 _ rfl; (with_reducible repeat (first | refine blk_drewN ?_ _ | refine blk_drew ?_ | refine blk_alloc ?_ _)); refine blk_put (cs := #[.int .i64 t122, .int .i64 t123, .int .i64 (wrap64 (t124 + 1)), .slice none 0 0, .int .u16 0]) ?_ 3 _ rfl; (with_reducible repeat (first | refine blk_drewN ?_ _ | refine blk_drew ?_ | refine blk_alloc ?_ _)); refine blk_put (cs := #[.int .i64 t122, .int .i64 t123, .int .i64 0, .slice none 0 0, .int .u16 0]) ?_ 2 _ rfl; (with_reducible repeat (first | refine blk_drewN ?_ _ | refine blk_drew ?_ | refine blk_alloc ?_ _)); refine blk_put (cs := #[.int .i64 t122, .int .i64 0, .int .i64 0, .slice none 0 0, .int .u16 0]) ?_ 1 _ rfl; (with_reducible repeat (first | refine blk_drewN ?_ _ | refine blk_drew ?_ | refine blk_alloc ?_ _)); refine blk_put (cs := #[.int .i64 0, .int .i64 0, .int .i64 0, .slice none 0 0, .int .u16 0]) ?_ 0 _ rfl; (with_reducible repeat (first | refine blk_drewN ?_ _ | refine blk_drew ?_ | refine blk_alloc ?_ _)); refine blk_far ?_ NB121_119.out _; (with_reducible repeat (first | refine blk_drewN ?_ _ | refine blk_drew ?_ | refine blk_alloc ?_ _)); exact BK121.out) Try.underlying55 rfl (by kernel_rfl)) rfl ?_
     exact ⟨_, by first | rfl | (simp [errW_none, errW_some] <;> rfl) | (simp [*, errW_none, errW_some] <;> rfl), by (with_reducible repeat (first | apply Kd.R_alloc | apply Kd.R_drewN | apply Kd.R_drew)); exact Kd.R_mono (Kd.R_far (p := ⟨gb121, 4, none⟩) (Kd.R_far (p := ⟨gb121, 3, none⟩) (Kd.R_far (p := ⟨gb121, 2, none⟩) (Kd.R_far (p := ⟨gb121, 1, none⟩) (Kd.R_far (p := ⟨gb121, 0, none⟩) (Kd.R_far (p := ⟨gb119, 2, none⟩) (Kd.R_types (Kd.R_types HO127.out BK119.out (by decide)) BK121.out (by decide)) (fun _ hk => hk.1.2) (.int .i64 (wrap64 (t124 + 1)))) (fun _ hk => hk.2) (.int .i64 t122)) (fun _ hk => hk.2) (.int .i64 t123)) (fun _ hk => hk.2) (.int .i64 (wrap64 (t124 + 1)))) (fun _ hk => hk.2) (.slice (some ⟨go10, 0, none⟩) t125.length co19)) (fun _ hk => hk.2) (.int .u16 t128)) (fun _ hk => trivial), by repeat (first | (with_reducible first | exact HB.out | apply below_alloc | apply pw_below_drewN | apply below_drew1 | refine below_set ?_ GE119.out | refine below_set ?_ GE120.out | refine below_set ?_ GE121.out) | exact HB.out)⟩
    ·rw [if_neg c9] at H
     exact absurd H (by simp)
   ·rw [if_neg c8] at H
    exact absurd H (by simp)
  ·replace c7 := Bool.eq_false_iff.mpr c7
   subst c7
   have H1 : (some (t122, t123, t124, t125, t128, false)) = some (r1, r2, r3, r4, r5, r6) := by rw [if_neg (show ¬ (false = true) by decide)] at H; exact H
   clear H
   have H := H1
   clear H1
   simp only [Option.some.injEq, Prod.mk.injEq] at H
   obtain ⟨rfl, rfl, rfl, rfl, rfl, rfl⟩ := H
   go_enter Try.func28, Try.ntmps28
   go_wp2_with (first | ((with_reducible refine gate_dst (N := 2) rfl ?_); refine box_event ?hg (N := 2) ?hd (cs := #[.int .i64 a0_0, .int .i64 a0_1, .int .i64 a0_2, .slice A0_3 l0_3.length c0_3, .int .u16 a0_4]) (t := 55) ?hr ?_; (case hd => rfl); (case hg => rfl); (case hr => first | (go_simp; done) | (go_simp; rfl)); intro gb119 hg w32 hbox hb; have n0_ := Aside0.mk (below_step (by repeat (first | (with_reducible first | exact HB.out | apply below_alloc | apply pw_below_drewN | apply below_drew1) | exact HB.out)) hb); have n1_ := Aside0.mk (hbox); have n2_ := Aside0.mk ((by rw [hg]; exact (below_size (by repeat (first | (with_reducible first | exact HB.out | apply below_alloc | apply pw_below_drewN | apply below_drew1) | exact HB.out))) : w.heap.size ≤ gb119)); have n3_ := Aside0.mk ((by rw [hg]; exact (below_size (by repeat (first | (with_reducible first | exact HB.out | apply below_alloc | apply pw_below_drewN | apply below_drew1) | exact HB.out))) : w.heap.size ≤ gb119)); clear HB; have HB := n0_; have BK119 := n1_; have GW119 := n2_; have GE119 := n3_; clear n0_ n1_ n2_ n3_; clear hb hbox hg) | ((with_reducible refine gate_dst (N := 3) rfl ?_); refine box_event ?hg (N := 3) ?hd (cs := #[.int .i64 a1_0, .int .i64 a1_1, .int .i64 a1_2, .int .i64 a1_3, .int .u16 a1_4, .int .i64 a1_5, .slice A1_6 l1_6.length c1_6]) (t := 49) ?hr ?_; (case hd => rfl); (case hg => rfl); (case hr => first | (go_simp; done) | (go_simp; rfl)); intro gb120 hg w33 hbox hb; have n0_ := Aside0.mk (blk_below (g := gb119) (o := .cells #[.int .i64 a0_0, .int .i64 a0_1, .int .i64 a0_2, .slice A0_3 l0_3.length c0_3, .int .u16 a0_4] 55 (0, 0)) (by (with_reducible repeat (first | refine blk_drewN ?_ _ | refine blk_drew ?_ | refine blk_alloc ?_ _)); exact BK119.out) hb); have n1_ := Aside0.mk (below_step (by repeat (first | (with_reducible first | exact HB.out | apply below_alloc | apply pw_below_drewN | apply below_drew1 | refine below_set ?_ GE119.out) | exact HB.out)) hb); have n2_ := Aside0.mk (hbox); have n3_ := Aside0.mk ((by rw [hg]; exact (below_size (by repeat (first | (with_reducible first | exact HB.out | apply below_alloc | apply pw_below_drewN | apply below_drew1 | refine below_set ?_ GE119.out) | exact HB.out))) : w.heap.size ≤ gb120)); have n4_ := Aside0.mk ((by rw [hg]; exact (below_size (by repeat (first | (with_reducible first | exact HB.out | apply below_alloc | apply pw_below_drewN | apply below_drew1 | refine below_set ?_ GE119.out) | exact HB.out))) : w.heap.size ≤ gb120)); have n5_ := Aside0.mk ((by rw [hg]; exact Nat.ne_of_lt (blk_lt (g := gb119) (o := .cells #[.int .i64 a0_0, .int .i64 a0_1, .int .i64 a0_2, .slice A0_3 l0_3.length c0_3, .int .u16 a0_4] 55 (0, 0)) (by (with_reducible repeat (first | refine blk_drewN ?_ _ | refine blk_drew ?_ | refine blk_alloc ?_ _)); exact BK119.out)) : gb119 ≠ gb120)); have n6_ := Aside0.mk ((by rw [hg]; exact Nat.ne_of_gt (blk_lt (g := gb119) (o := .cells #[.int .i64 a0_0, .int .i64 a0_1, .int .i64 a0_2, .slice A0_3 l0_3.length c0_3, .int .u16 a0_4] 55 (0, 0)) (by (with_reducible repeat (first | refine blk_drewN ?_ _ | refine blk_drew ?_ | refine blk_alloc ?_ _)); exact BK119.out)) : gb120 ≠ gb119)); clear BK119; clear HB; have BK119 := n0_; have HB := n1_; have BK120 := n2_; have GW120 := n3_; have GE120 := n4_; have NB119_120 := n5_; have NB120_119 := n6_; clear n0_ n1_ n2_ n3_ n4_ n5_ n6_; clear hb hbox hg) | ((with_reducible refine gate_dst (N := 4) rfl ?_); refine box_event ?hg (N := 4) ?hd (cs := #[.int .i64 0, .int .i64 0, .int .i64 0, .slice none 0 0, .int .u16 0]) (t := 55) ?hr ?_; (case hd => rfl); (case hg => rfl); (case hr => first | (go_simp; done) | (go_simp; rfl)); intro gb121 hg w34 hbox hb; have n0_ := Aside0.mk (blk_below (g := gb119) (o := .cells #[.int .i64 a0_0, .int .i64 a0_1, .int .i64 a0_2, .slice A0_3 l0_3.length c0_3, .int .u16 a0_4] 55 (0, 0)) (by (with_reducible repeat (first | refine blk_drewN ?_ _ | refine blk_drew ?_ | refine blk_alloc ?_ _)); exact BK119.out) hb); have n1_ := Aside0.mk (blk_below (g := gb120) (o := .cells #[.int .i64 a1_0, .int .i64 a1_1, .int .i64 a1_2, .int .i64 a1_3, .int .u16 a1_4, .int .i64 a1_5, .slice A1_6 l1_6.length c1_6] 49 (0, 0)) (by (with_reducible repeat (first | refine blk_drewN ?_ _ | refine blk_drew ?_ | refine blk_alloc ?_ _)); exact BK120.out) hb); have n2_ := Aside0.mk (below_step (by repeat (first | (with_reducible first | exact HB.out | apply below_alloc | apply pw_below_drewN | apply below_drew1 | refine below_set ?_ GE119.out | refine below_set ?_ GE120.out) | exact HB.out)) hb); have n3_ := Aside0.mk (hbox); have n4_ := Aside0.mk ((by rw [hg]; exact (below_size (by repeat (first | (with_reducible first | exact HB.out | apply below_alloc | apply pw_below_drewN | apply below_drew1 | refine below_set ?_ GE119.out | refine below_set ?_ GE120.out) | exact HB.out))) : w.heap.size ≤ gb121)); have n5_ := Aside0.mk ((by rw [hg]; exact (below_size (by repeat (first | (with_reducible first | exact HB.out | apply below_alloc | apply pw_below_drewN | apply below_drew1 | refine below_set ?_ GE119.out | refine below_set ?_ GE120.out) | exact HB.out))) : w.heap.size ≤ gb121)); have n6_ := Aside0.mk ((by rw [hg]; exact Nat.ne_of_lt (blk_lt (g := gb119) (o := .cells #[.int .i64 a0_0, .int .i64 a0_1, .int .i64 a0_2, .slice A0_3 l0_3.length c0_3, .int .u16 a0_4] 55 (0, 0)) (by (with_reducible repeat (first | refine blk_drewN ?_ _ | refine blk_drew ?_ | refine blk_alloc ?_ _)); exact BK119.out)) : gb119 ≠ gb121)); have n7_ := Aside0.mk ((by rw [hg]; exact Nat.ne_of_gt (blk_lt (g := gb119) (o := .cells #[.int .i64 a0_0, .int .i64 a0_1, .int .i64 a0_2, .slice A0_3 l0_3.length c0_3, .int .u16 a0_4] 55 (0, 0)) (by (with_reducible repeat (first | refine blk_drewN ?_ _ | refine blk_drew ?_ | refine blk_alloc ?_ _)); exact BK119.out)) : gb121 ≠ gb119)); have n8_ := Aside0.mk ((by rw [hg]; exact Nat.ne_of_lt (blk_lt (g := gb120) (o := .cells #[.int .i64 a1_0, .int .i64 a1_1, .int .i64 a1_2, .int .i64 a1_3, .int .u16 a1_4, .int .i64 a1_5, .slice A1_6 l1_6.length c1_6] 49 (0, 0)) (by (with_reducible repeat (first | refine blk_drewN ?_ _ | refine blk_drew ?_ | refine blk_alloc ?_ _)); exact BK120.out)) : gb120 ≠ gb121)); have n9_ := Aside0.mk ((by rw [hg]; exact Nat.ne_of_gt (blk_lt (g := gb120) (o := .cells #[.int .i64 a1_0, .int .i64 a1_1, .int .i64 a1_2, .int .i64 a1_3, .int .u16 a1_4, .int .i64 a1_5, .slice A1_6 l1_6.length c1_6] 49 (0, 0)) (by (with_reducible repeat (first | refine blk_drewN ?_ _ | refine blk_drew ?_ | refine blk_alloc ?_ _)); exact BK120.out)) : gb121 ≠ gb120)); clear BK119; clear BK120; clear HB; have BK119 := n0_; have BK120 := n1_; have HB := n2_; have BK121 := n3_; have GW121 := n4_; have GE121 := n5_; have NB119_121 := n6_; have NB121_119 := n7_; have NB120_121 := n8_; have NB121_120 := n9_; clear n0_ n1_ n2_ n3_ n4_ n5_ n6_ n7_ n8_ n9_; clear hb hbox hg; have hnb35 := NB119_120.out; have hnc35 := NB120_119.out; have hnb36 := NB119_121.out; have hnc36 := NB121_119.out; have hcz37_0 : w34.cell? ⟨gb119, 0, none⟩ = some (.int .i64 a0_0) := (blk_cell BK119.out 0).trans rfl; have hcz37_1 : w34.cell? ⟨gb119, 1, none⟩ = some (.int .i64 a0_1) := (blk_cell BK119.out 1).trans rfl; have hcz37_2 : w34.cell? ⟨gb119, 2, none⟩ = some (.int .i64 a0_2) := (blk_cell BK119.out 2).trans rfl; have hcz37_3 : w34.cell? ⟨gb119, 3, none⟩ = some (.slice A0_3 l0_3.length c0_3) := (blk_cell BK119.out 3).trans rfl; have hcz37_4 : w34.cell? ⟨gb119, 4, none⟩ = some (.int .u16 a0_4) := (blk_cell BK119.out 4).trans rfl; have hfz37_0 := blk_frozen BK119.out 0; have hfz37_1 := blk_frozen BK119.out 1; have hfz37_2 := blk_frozen BK119.out 2; have hfz37_3 := blk_frozen BK119.out 3; have hfz37_4 := blk_frozen BK119.out 4) | ((with_reducible refine gate_callee (f := 69) rfl ?_); refine goesL_ (some 11) rfl rfl Try.func69 (by kernel_rfl) rfl #[.agg #[.int .i64 a0_0, .int .i64 a0_1, .int .i64 a0_2, .slice A0_3 l0_3.length c0_3, .int .u16 a0_4]] rfl (by (try simp only [List.map_toArray, List.map_cons, List.map_nil]); first | done | rfl | (simp only [List.length_drop, List.length_take]; rfl)) ?_; (with_reducible refine (frame_copied.calls a0_0 a0_1 a0_2 _ _ l0_3 a0_4 t122 t123 t124 t125 t128 _ ?side1 ?side2 A3.out).mono ?_); (case side1 => repeat (first | exact (Kd.C_below HR0_3.out HB.out) | (with_reducible refine Kd.C_alloc ?_ _) | (with_reducible refine Kd.C_drewN ?_ _) | (with_reducible refine Kd.C_drew ?_))); (case side2 => exact HC0_3.out); rintro e w38 ⟨v126, rfl, ho0, hb⟩; refine ⟨_, rfl, ?_⟩; have n0_ := Aside0.mk (Kd.R_lower ho0 (below_size (by repeat (first | (with_reducible first | exact HB.out | apply below_alloc | apply pw_below_drewN | apply below_drew1 | refine below_set ?_ GE119.out | refine below_set ?_ GE120.out | refine below_set ?_ GE121.out) | exact HB.out)))); have n1_ := Aside0.mk (blk_below (g := gb119) (o := .cells #[.int .i64 a0_0, .int .i64 a0_1, .int .i64 a0_2, .slice A0_3 l0_3.length c0_3, .int .u16 a0_4] 55 (0, 0)) (by (with_reducible repeat (first | refine blk_drewN ?_ _ | refine blk_drew ?_ | refine blk_alloc ?_ _)); exact BK119.out) hb); have n2_ := Aside0.mk (blk_below (g := gb120) (o := .cells #[.int .i64 a1_0, .int .i64 a1_1, .int .i64 a1_2, .int .i64 a1_3, .int .u16 a1_4, .int .i64 a1_5, .slice A1_6 l1_6.length c1_6] 49 (0, 0)) (by (with_reducible repeat (first | refine blk_drewN ?_ _ | refine blk_drew ?_ | refine blk_alloc ?_ _)); exact BK120.out) hb); have n3_ := Aside0.mk (blk_below (g := gb121) (o := .cells #[.int .i64 0, .int .i64 0, .int .i64 0, .slice none 0 0, .int .u16 0] 55 (0, 0)) (by (with_reducible repeat (first | refine blk_drewN ?_ _ | refine blk_drew ?_ | refine blk_alloc ?_ _)); exact BK121.out) hb); have n4_ := Aside0.mk (below_step (by repeat (first | (with_reducible first | exact HB.out | apply below_alloc | apply pw_below_drewN | apply below_drew1 | refine below_set ?_ GE119.out | refine below_set ?_ GE120.out | refine below_set ?_ GE121.out) | exact HB.out)) hb); clear BK119; clear BK120; clear BK121; clear HB; have HO127 := n0_; have BK119 := n1_; have BK120 := n2_; have BK121 := n3_; have HB := n4_; clear n0_ n1_ n2_ n3_ n4_; (try clear hb); (try clear hb2); (try clear hk); (try clear hi); (try clear ho0); have hcz39_0 : w38.cell? ⟨gb119, 0, none⟩ = some (.int .i64 a0_0) := (blk_cell BK119.out 0).trans rfl; have hcz39_1 : w38.cell? ⟨gb119, 1, none⟩ = some (.int .i64 a0_1) := (blk_cell BK119.out 1).trans rfl; have hcz39_2 : w38.cell? ⟨gb119, 2, none⟩ = some (.int .i64 a0_2) := (blk_cell BK119.out 2).trans rfl; have hcz39_3 : w38.cell? ⟨gb119, 3, none⟩ = some (.slice A0_3 l0_3.length c0_3) := (blk_cell BK119.out 3).trans rfl; have hcz39_4 : w38.cell? ⟨gb119, 4, none⟩ = some (.int .u16 a0_4) := (blk_cell BK119.out 4).trans rfl; have hfz39_0 := blk_frozen BK119.out 0; have hfz39_1 := blk_frozen BK119.out 1; have hfz39_2 := blk_frozen BK119.out 2; have hfz39_3 := blk_frozen BK119.out 3; have hfz39_4 := blk_frozen BK119.out 4; obtain ⟨Ao40, co40, eo40⟩ := Kd.R_slice HO127.out; subst eo40; have hnb41 := NB120_121.out; have hnc41 := NB121_120.out; have hcz42_0 : w38.cell? ⟨gb120, 0, none⟩ = some (.int .i64 a1_0) := (blk_cell BK120.out 0).trans rfl; have hcz42_1 : w38.cell? ⟨gb120, 1, none⟩ = some (.int .i64 a1_1) := (blk_cell BK120.out 1).trans rfl; have hcz42_2 : w38.cell? ⟨gb120, 2, none⟩ = some (.int .i64 a1_2) := (blk_cell BK120.out 2).trans rfl; have hcz42_3 : w38.cell? ⟨gb120, 3, none⟩ = some (.int .i64 a1_3) := (blk_cell BK120.out 3).trans rfl; have hcz42_4 : w38.cell? ⟨gb120, 4, none⟩ = some (.int .u16 a1_4) := (blk_cell BK120.out 4).trans rfl; have hcz42_5 : w38.cell? ⟨gb120, 5, none⟩ = some (.int .i64 a1_5) := (blk_cell BK120.out 5).trans rfl; have hcz42_6 : w38.cell? ⟨gb120, 6, none⟩ = some (.slice A1_6 l1_6.length c1_6) := (blk_cell BK120.out 6).trans rfl; have hfz42_0 := blk_frozen BK120.out 0; have hfz42_1 := blk_frozen BK120.out 1; have hfz42_2 := blk_frozen BK120.out 2; have hfz42_3 := blk_frozen BK120.out 3; have hfz42_4 := blk_frozen BK120.out 4; have hfz42_5 := blk_frozen BK120.out 5; have hfz42_6 := blk_frozen BK120.out 6) | ((with_reducible refine gate_callee (f := 70) rfl ?_); refine goesL_ (some 15) rfl rfl Try.func70 (by kernel_rfl) rfl #[.agg #[.int .i64 t122, .int .i64 t123, .int .i64 t124, .slice Ao40 t125.length co40, .int .u16 t128], .agg #[.int .i64 a1_0, .int .i64 a1_1, .int .i64 a1_2, .int .i64 a1_3, .int .u16 a1_4, .int .i64 a1_5, .slice A1_6 l1_6.length c1_6]] rfl (by (try simp only [List.map_toArray, List.map_cons, List.map_nil]); first | done | rfl | (simp only [List.length_drop, List.length_take]; rfl)) ?_; (with_reducible refine (frame_answer.calls k t122 t123 t124 _ _ t125 t128 a1_0 a1_1 a1_2 a1_3 a1_4 a1_5 _ _ l1_6 t129 true _ ?side1 ?side2 ?side3 ?side4 A4.out).mono ?_); (case side1 => refine (Kd.R_reads' (e := 44) (base := w.heap.size) (ok := fun k_ => True) (n := t125.length) (c := co40) ?_).2.2; exact (by (with_reducible repeat (first | apply Kd.R_alloc | apply Kd.R_drewN | apply Kd.R_drew)); exact (Kd.R_mono (Kd.R_far (p := ⟨gb119, 4, none⟩) (Kd.R_far (p := ⟨gb119, 3, none⟩) (Kd.R_far (p := ⟨gb119, 2, none⟩) (Kd.R_far (p := ⟨gb119, 1, none⟩) (Kd.R_far (p := ⟨gb119, 0, none⟩) (Kd.R_types HO127.out BK119.out (by decide)) (fun _ hk => hk.2) (.int .i64 t122)) (fun _ hk => hk.2) (.int .i64 t123)) (fun _ hk => hk.2) (.int .i64 t124)) (fun _ hk => hk.2) (.slice Ao40 t125.length co40)) (fun _ hk => hk.2) (.int .u16 t128)) (fun _ h_ => h_.1)))); (case side2 => exact (Kd.R_reads' HO127.out).2.1); (case side3 => exact Kd.C_below HR1_6.out (by repeat (first | (with_reducible first | exact HB.out | apply below_alloc | apply pw_below_drewN | apply below_drew1 | refine below_set ?_ GE119.out | refine below_set ?_ GE120.out | refine below_set ?_ GE121.out) | exact HB.out))); (case side4 => exact HC1_6.out); rintro e w43 ⟨rfl, hb⟩; refine ⟨_, rfl, ?_⟩; have n0_ := Aside0.mk (Kd.R_below (by (with_reducible repeat (first | apply Kd.R_alloc | apply Kd.R_drewN | apply Kd.R_drew)); exact (Kd.R_mono (Kd.R_far (p := ⟨gb119, 4, none⟩) (Kd.R_far (p := ⟨gb119, 3, none⟩) (Kd.R_far (p := ⟨gb119, 2, none⟩) (Kd.R_far (p := ⟨gb119, 1, none⟩) (Kd.R_far (p := ⟨gb119, 0, none⟩) (Kd.R_types HO127.out BK119.out (by decide)) (fun _ hk => hk.2) (.int .i64 t122)) (fun _ hk => hk.2) (.int .i64 t123)) (fun _ hk => hk.2) (.int .i64 t124)) (fun _ hk => hk.2) (.slice Ao40 t125.length co40)) (fun _ hk => hk.2) (.int .u16 t128)) (fun _ h_ => h_.1))) hb); have n1_ := Aside0.mk (blk_below (g := gb119) (o := .cells #[.int .i64 t122, .int .i64 t123, .int .i64 t124, .slice Ao40 t125.length co40, .int .u16 t128] 55 (0, 0)) (by (with_reducible repeat (first | refine blk_drewN ?_ _ | refine blk_drew ?_ | refine blk_alloc ?_ _)); refine blk_put (cs := #[.int .i64 t122, .int .i64 t123, .int .i64 t124, .slice Ao40 t125.length co40, .int .u16 a0_4]) ?_ 4 _ rfl; (with_reducible repeat (first | refine blk_drewN ?_ _ | refine blk_drew ?_ | refine blk_alloc ?_ _)); refine blk_put (cs := #[.int .i64 t122, .int .i64 t123, .int .i64 t124, .slice A0_3 l0_3.length c0_3, .int .u16 a0_4]) ?_ 3 _ rfl; (with_reducible repeat (first | refine blk_drewN ?_ _ | refine blk_drew ?_ | refine blk_alloc ?_ _)); refine blk_put (cs := #[.int .i64 t122, .int .i64 t123, .int .i64 a0_2, .slice A0_3 l0_3.length c0_3, .int .u16 a0_4]) ?_ 2 _ rfl; (with_reducible repeat (first | refine blk_drewN ?_ _ | refine blk_drew ?_ | refine blk_alloc ?_ _)); refine blk_put (cs := #[.int .i64 t122, .int .i64 a0_1, .int .i64 a0_2, .slice A0_3 l0_3.length c0_3, .int .u16 a0_4]) ?_ 1 _ rfl; (with_reducible repeat (first | refine blk_drewN ?_ _ | refine blk_drew ?_ | refine blk_alloc ?_ _)); refine blk_put (cs := #[.int .i64 a0_0, .int .i64 a0_1, .int .i64 a0_2, .slice A0_3 l0_3.length c0_3, .int .u16 a0_4]) ?_ 0 _ rfl; (with_reducible repeat (first | refine blk_drewN ?_ _ | refine blk_drew ?_ | refine blk_alloc ?_ _)); exact BK119.out) hb); have n2_ := Aside0.mk (blk_below (g := gb120) (o := .cells #[.int .i64 a1_0, .int .i64 a1_1, .int .i64 a1_2, .int .i64 a1_3, .int .u16 a1_4, .int .i64 a1_5, .slice A1_6 l1_6.length c1_6] 49 (0, 0)) (by (with_reducible repeat (first | refine blk_drewN ?_ _ | refine blk_drew ?_ | refine blk_alloc ?_ _)); refine blk_far ?_ NB120_119.out _; (with_reducible repeat (first | refine blk_drewN ?_ _ | refine blk_drew ?_ | refine blk_alloc ?_ _)); refine blk_far ?_ NB120_119.out _; (with_reducible repeat (first | refine blk_drewN ?_ _ | refine blk_drew ?_ | refine blk_alloc ?_ _)); refine blk_far ?_ NB120_119.out _; (with_reducible repeat (first | refine blk_drewN ?_ _ | refine blk_drew ?_ | refine blk_alloc ?_ _)); refine blk_far ?_ NB120_119.out _; (with_reducible repeat (first | refine blk_drewN ?_ _ | refine blk_drew ?_ | refine blk_alloc ?_ _)); refine blk_far ?_ NB120_119.out _; (with_reducible repeat (first | refine blk_drewN ?_ _ | refine blk_drew ?_ | refine blk_alloc ?_ _)); exact BK120.out) hb); have n3_ := Aside0.mk (blk_below (g := gb121) (o := .cells #[.int .i64 0, .int .i64 0, .int .i64 0, .slice none 0 0, .int .u16 0] 55 (0, 0)) (by (with_reducible repeat (first | refine blk_drewN ?_ _ | refine blk_drew ?_ | refine blk_alloc ?_ _)); refine blk_far ?_ NB121_119.out _; (with_reducible repeat (first | refine blk_drewN ?_ _ | refine blk_drew ?_ | refine blk_alloc ?_ _)); refine blk_far ?_ NB121_119.out _; (with_reducible repeat (first | refine blk_drewN ?_ _ | refine blk_drew ?_ | refine blk_alloc ?_ _)); refine blk_far ?_ NB121_119.out _; (with_reducible repeat (first | refine blk_drewN ?_ _ | refine blk_drew ?_ | refine blk_alloc ?_ _)); refine blk_far ?_ NB121_119.out _; (with_reducible repeat (first | refine blk_drewN ?_ _ | refine blk_drew ?_ | refine blk_alloc ?_ _)); refine blk_far ?_ NB121_119.out _; (with_reducible repeat (first | refine blk_drewN ?_ _ | refine blk_drew ?_ | refine blk_alloc ?_ _)); exact BK121.out) hb); have n4_ := Aside0.mk (below_step (by repeat (first | (with_reducible first | exact HB.out | apply below_alloc | apply pw_below_drewN | apply below_drew1 | refine below_set ?_ GE119.out | refine below_set ?_ GE120.out | refine below_set ?_ GE121.out) | exact HB.out)) hb); clear HO127; clear BK119; clear BK120; clear BK121; clear HB; have HO127 := n0_; have BK119 := n1_; have BK120 := n2_; have BK121 := n3_; have HB := n4_; clear n0_ n1_ n2_ n3_ n4_; (try clear hb); (try clear hb2); (try clear hk); (try clear hi); have hcz44_0 : w43.cell? ⟨gb119, 0, none⟩ = some (.int .i64 t122) := (blk_cell BK119.out 0).trans rfl; have hcz44_1 : w43.cell? ⟨gb119, 1, none⟩ = some (.int .i64 t123) := (blk_cell BK119.out 1).trans rfl; have hcz44_2 : w43.cell? ⟨gb119, 2, none⟩ = some (.int .i64 t124) := (blk_cell BK119.out 2).trans rfl; have hcz44_3 : w43.cell? ⟨gb119, 3, none⟩ = some (.slice Ao40 t125.length co40) := (blk_cell BK119.out 3).trans rfl; have hcz44_4 : w43.cell? ⟨gb119, 4, none⟩ = some (.int .u16 t128) := (blk_cell BK119.out 4).trans rfl; have hfz44_0 := blk_frozen BK119.out 0; have hfz44_1 := blk_frozen BK119.out 1; have hfz44_2 := blk_frozen BK119.out 2; have hfz44_3 := blk_frozen BK119.out 3; have hfz44_4 := blk_frozen BK119.out 4; have hcz45_0 : w43.cell? ⟨gb120, 0, none⟩ = some (.int .i64 a1_0) := (blk_cell BK120.out 0).trans rfl; have hcz45_1 : w43.cell? ⟨gb120, 1, none⟩ = some (.int .i64 a1_1) := (blk_cell BK120.out 1).trans rfl; have hcz45_2 : w43.cell? ⟨gb120, 2, none⟩ = some (.int .i64 a1_2) := (blk_cell BK120.out 2).trans rfl; have hcz45_3 : w43.cell? ⟨gb120, 3, none⟩ = some (.int .i64 a1_3) := (blk_cell BK120.out 3).trans rfl; have hcz45_4 : w43.cell? ⟨gb120, 4, none⟩ = some (.int .u16 a1_4) := (blk_cell BK120.out 4).trans rfl; have hcz45_5 : w43.cell? ⟨gb120, 5, none⟩ = some (.int .i64 a1_5) := (blk_cell BK120.out 5).trans rfl; have hcz45_6 : w43.cell? ⟨gb120, 6, none⟩ = some (.slice A1_6 l1_6.length c1_6) := (blk_cell BK120.out 6).trans rfl; have hfz45_0 := blk_frozen BK120.out 0; have hfz45_1 := blk_frozen BK120.out 1; have hfz45_2 := blk_frozen BK120.out 2; have hfz45_3 := blk_frozen BK120.out 3; have hfz45_4 := blk_frozen BK120.out 4; have hfz45_5 := blk_frozen BK120.out 5; have hfz45_6 := blk_frozen BK120.out 6) | ((with_reducible refine gate_callee (f := 71) rfl ?_); refine goesL_ (some 22) rfl rfl Try.func71 (by kernel_rfl) rfl #[.agg #[.int .i64 t122, .int .i64 t123, .int .i64 t124, .slice Ao40 t125.length co40, .int .u16 t128], .int .i64 a1_1] rfl (by (try simp only [List.map_toArray, List.map_cons, List.map_nil]); first | done | rfl | (simp only [List.length_drop, List.length_take]; rfl)) ?_; (with_reducible refine (frame_at.calls t122 t123 t124 _ _ t125 t128 a1_1 t131 false _ ?side1 ?side2 A5.out).mono ?_); (case side1 => repeat (first | exact (Kd.R_reads' HO127.out).2.2 | (with_reducible refine Kd.C_alloc ?_ _) | (with_reducible refine Kd.C_drewN ?_ _) | (with_reducible refine Kd.C_drew ?_))); (case side2 => exact (Kd.R_reads' HO127.out).2.1); rintro e w46 ⟨rfl, hb⟩; refine ⟨_, rfl, ?_⟩; have n0_ := Aside0.mk (Kd.R_below (by (with_reducible repeat (first | apply Kd.R_alloc | apply Kd.R_drewN | apply Kd.R_drew)); exact HO127.out) hb); have n1_ := Aside0.mk (blk_below (g := gb119) (o := .cells #[.int .i64 t122, .int .i64 t123, .int .i64 t124, .slice Ao40 t125.length co40, .int .u16 t128] 55 (0, 0)) (by (with_reducible repeat (first | refine blk_drewN ?_ _ | refine blk_drew ?_ | refine blk_alloc ?_ _)); exact BK119.out) hb); have n2_ := Aside0.mk (blk_below (g := gb120) (o := .cells #[.int .i64 a1_0, .int .i64 a1_1, .int .i64 a1_2, .int .i64 a1_3, .int .u16 a1_4, .int .i64 a1_5, .slice A1_6 l1_6.length c1_6] 49 (0, 0)) (by (with_reducible repeat (first | refine blk_drewN ?_ _ | refine blk_drew ?_ | refine blk_alloc ?_ _)); exact BK120.out) hb); have n3_ := Aside0.mk (blk_below (g := gb121) (o := .cells #[.int .i64 0, .int .i64 0, .int .i64 0, .slice none 0 0, .int .u16 0] 55 (0, 0)) (by (with_reducible repeat (first | refine blk_drewN ?_ _ | refine blk_drew ?_ | refine blk_alloc ?_ _)); exact BK121.out) hb); have n4_ := Aside0.mk (below_step (by repeat (first | (with_reducible first | exact HB.out | apply below_alloc | apply pw_below_drewN | apply below_drew1 | refine below_set ?_ GE119.out | refine below_set ?_ GE120.out | refine below_set ?_ GE121.out) | exact HB.out)) hb); clear HO127; clear BK119; clear BK120; clear BK121; clear HB; have HO127 := n0_; have BK119 := n1_; have BK120 := n2_; have BK121 := n3_; have HB := n4_; clear n0_ n1_ n2_ n3_ n4_; (try clear hb); (try clear hb2); (try clear hk); (try clear hi); have hcz47_0 : w46.cell? ⟨gb119, 0, none⟩ = some (.int .i64 t122) := (blk_cell BK119.out 0).trans rfl; have hcz47_1 : w46.cell? ⟨gb119, 1, none⟩ = some (.int .i64 t123) := (blk_cell BK119.out 1).trans rfl; have hcz47_2 : w46.cell? ⟨gb119, 2, none⟩ = some (.int .i64 t124) := (blk_cell BK119.out 2).trans rfl; have hcz47_3 : w46.cell? ⟨gb119, 3, none⟩ = some (.slice Ao40 t125.length co40) := (blk_cell BK119.out 3).trans rfl; have hcz47_4 : w46.cell? ⟨gb119, 4, none⟩ = some (.int .u16 t128) := (blk_cell BK119.out 4).trans rfl; have hfz47_0 := blk_frozen BK119.out 0; have hfz47_1 := blk_frozen BK119.out 1; have hfz47_2 := blk_frozen BK119.out 2; have hfz47_3 := blk_frozen BK119.out 3; have hfz47_4 := blk_frozen BK119.out 4; have hcz48_0 : w46.cell? ⟨gb121, 0, none⟩ = some (.int .i64 0) := (blk_cell BK121.out 0).trans rfl; have hcz48_1 : w46.cell? ⟨gb121, 1, none⟩ = some (.int .i64 0) := (blk_cell BK121.out 1).trans rfl; have hcz48_2 : w46.cell? ⟨gb121, 2, none⟩ = some (.int .i64 0) := (blk_cell BK121.out 2).trans rfl; have hcz48_3 : w46.cell? ⟨gb121, 3, none⟩ = some (.slice none 0 0) := (blk_cell BK121.out 3).trans rfl; have hcz48_4 : w46.cell? ⟨gb121, 4, none⟩ = some (.int .u16 0) := (blk_cell BK121.out 4).trans rfl; have hfz48_0 := blk_frozen BK121.out 0; have hfz48_1 := blk_frozen BK121.out 1; have hfz48_2 := blk_frozen BK121.out 2; have hfz48_3 := blk_frozen BK121.out 3; have hfz48_4 := blk_frozen BK121.out 4))
   refine bodyPost_ret (results_ct rfl _ _ gb121 55 #[.int .i64 t122, .int .i64 t123, .int .i64 t124, .slice Ao40 t125.length co40, .int .u16 t128] (0, 0) _ rfl (by (with_reducible repeat (first | refine blk_drewN ?_ _ | refine blk_drew ?_ | refine blk_alloc ?_ _)); refine blk_put (cs := #[.int .i64 t122, .int .i64 t123, .int .i64 t124, .slice Ao40 t125.length co40, .int .u16 0]) ?_ 4 _ rfl; (with_reducible repeat (first | refine blk_drewN ?_ _ | refine blk_drew ?_ | refine blk_alloc ?_ _)); refine blk_put (cs := #[.int .i64 t122, .int .i64 t123, .int .i64 t124, .slice none 0 0, .int .u16 0]) ?_ 3 _ rfl; (with_reducible repeat (first | refine blk_drewN ?_ _ | refine blk_drew ?_ | refine blk_alloc ?_ _)); refine blk_put (cs := #[.int .i64 t122, .int .i64 t123, .int .i64 0, .slice none 0 0, .int .u16 0]) ?_ 2 _ rfl; (with_reducible repeat (first | refine blk_drewN ?_ _ | refine blk_drew ?_ | refine blk_alloc ?_ _)); refine blk_put (cs := #[.int .i64 t122, .int .i64 0, .int .i64 0, .slice none 0 0, .int .u16 0]) ?_ 1 _ rfl; (with_reducible repeat (first | refine blk_drewN ?_ _ | refine blk_drew ?_ | refine blk_alloc ?_ _)); refine blk_put (cs := #[.int .i64 0, .int .i64 0, .int .i64 0, .slice none 0 0, .int .u16 0]) ?_ 0 _ rfl; (with_reducible repeat (first | refine blk_drewN ?_ _ | refine blk_drew ?_ | refine blk_alloc ?_ _)); exact BK121.out) Try.underlying55 rfl (by kernel_rfl)) rfl ?_
   exact ⟨_, by first | rfl | (simp [errW_none, errW_some] <;> rfl) | (simp [*, errW_none, errW_some] <;> rfl), by (with_reducible repeat (first | apply Kd.R_alloc | apply Kd.R_drewN | apply Kd.R_drew)); exact Kd.R_mono (Kd.R_far (p := ⟨gb121, 4, none⟩) (Kd.R_far (p := ⟨gb121, 3, none⟩) (Kd.R_far (p := ⟨gb121, 2, none⟩) (Kd.R_far (p := ⟨gb121, 1, none⟩) (Kd.R_far (p := ⟨gb121, 0, none⟩) (Kd.R_types HO127.out BK121.out (by decide)) (fun _ hk => hk.2) (.int .i64 t122)) (fun _ hk => hk.2) (.int .i64 t123)) (fun _ hk => hk.2) (.int .i64 t124)) (fun _ hk => hk.2) (.slice Ao40 t125.length co40)) (fun _ hk => hk.2) (.int .u16 t128)) (fun _ hk => trivial), by repeat (first | (with_reducible first | exact HB.out | apply below_alloc | apply pw_below_drewN | apply below_drew1 | refine below_set ?_ GE119.out | refine below_set ?_ GE120.out | refine below_set ?_ GE121.out) | exact HB.out)⟩
 ·replace c6 := Bool.eq_false_iff.mpr c6
  subst c6
  have H1 : (some (t122, t123, t124, t125, t128, false)) = some (r1, r2, r3, r4, r5, r6) := by rw [if_neg (show ¬ (false = true) by decide)] at H; exact H
  clear H
  have H := H1
  clear H1
  simp only [Option.some.injEq, Prod.mk.injEq] at H
  obtain ⟨rfl, rfl, rfl, rfl, rfl, rfl⟩ := H
  go_enter Try.func28, Try.ntmps28
  go_wp2_with (first | ((with_reducible refine gate_dst (N := 2) rfl ?_); refine box_event ?hg (N := 2) ?hd (cs := #[.int .i64 a0_0, .int .i64 a0_1, .int .i64 a0_2, .slice A0_3 l0_3.length c0_3, .int .u16 a0_4]) (t := 55) ?hr ?_; (case hd => rfl); (case hg => rfl); (case hr => first | (go_simp; done) | (go_simp; rfl)); intro gb119 hg w49 hbox hb; have n0_ := Aside0.mk (below_step (by repeat (first | (with_reducible first | exact HB.out | apply below_alloc | apply pw_below_drewN | apply below_drew1) | exact HB.out)) hb); have n1_ := Aside0.mk (hbox); have n2_ := Aside0.mk ((by rw [hg]; exact (below_size (by repeat (first | (with_reducible first | exact HB.out | apply below_alloc | apply pw_below_drewN | apply below_drew1) | exact HB.out))) : w.heap.size ≤ gb119)); have n3_ := Aside0.mk ((by rw [hg]; exact (below_size (by repeat (first | (with_reducible first | exact HB.out | apply below_alloc | apply pw_below_drewN | apply below_drew1) | exact HB.out))) : w.heap.size ≤ gb119)); clear HB; have HB := n0_; have BK119 := n1_; have GW119 := n2_; have GE119 := n3_; clear n0_ n1_ n2_ n3_; clear hb hbox hg) | ((with_reducible refine gate_dst (N := 3) rfl ?_); refine box_event ?hg (N := 3) ?hd (cs := #[.int .i64 a1_0, .int .i64 a1_1, .int .i64 a1_2, .int .i64 a1_3, .int .u16 a1_4, .int .i64 a1_5, .slice A1_6 l1_6.length c1_6]) (t := 49) ?hr ?_; (case hd => rfl); (case hg => rfl); (case hr => first | (go_simp; done) | (go_simp; rfl)); intro gb120 hg w50 hbox hb; have n0_ := Aside0.mk (blk_below (g := gb119) (o := .cells #[.int .i64 a0_0, .int .i64 a0_1, .int .i64 a0_2, .slice A0_3 l0_3.length c0_3, .int .u16 a0_4] 55 (0, 0)) (by (with_reducible repeat (first | refine blk_drewN ?_ _ | refine blk_drew ?_ | refine blk_alloc ?_ _)); exact BK119.out) hb); have n1_ := Aside0.mk (below_step (by repeat (first | (with_reducible first | exact HB.out | apply below_alloc | apply pw_below_drewN | apply below_drew1 | refine below_set ?_ GE119.out) | exact HB.out)) hb); have n2_ := Aside0.mk (hbox); have n3_ := Aside0.mk ((by rw [hg]; exact (below_size (by repeat (first | (with_reducible first | exact HB.out | apply below_alloc | apply pw_below_drewN | apply below_drew1 | refine below_set ?_ GE119.out) | exact HB.out))) : w.heap.size ≤ gb120)); have n4_ := Aside0.mk ((by rw [hg]; exact (below_size (by repeat (first | (with_reducible first | exact HB.out | apply below_alloc | apply pw_below_drewN | apply below_drew1 | refine below_set ?_ GE119.out) | exact HB.out))) : w.heap.size ≤ gb120)); have n5_ := Aside0.mk ((by rw [hg]; exact Nat.ne_of_lt (blk_lt (g := gb119) (o := .cells #[.int .i64 a0_0, .int .i64 a0_1, .int .i64 a0_2, .slice A0_3 l0_3.length c0_3, .int .u16 a0_4] 55 (0, 0)) (by (with_reducible repeat (first | refine blk_drewN ?_ _ | refine blk_drew ?_ | refine blk_alloc ?_ _)); exact BK119.out)) : gb119 ≠ gb120)); have n6_ := Aside0.mk ((by rw [hg]; exact Nat.ne_of_gt (blk_lt (g := gb119) (o := .cells #[.int .i64 a0_0, .int .i64 a0_1, .int .i64 a0_2, .slice A0_3 l0_3.length c0_3, .int .u16 a0_4] 55 (0, 0)) (by (with_reducible repeat (first | refine blk_drewN ?_ _ | refine blk_drew ?_ | refine blk_alloc ?_ _)); exact BK119.out)) : gb120 ≠ gb119)); clear BK119; clear HB; have BK119 := n0_; have HB := n1_; have BK120 := n2_; have GW120 := n3_; have GE120 := n4_; have NB119_120 := n5_; have NB120_119 := n6_; clear n0_ n1_ n2_ n3_ n4_ n5_ n6_; clear hb hbox hg) | ((with_reducible refine gate_dst (N := 4) rfl ?_); refine box_event ?hg (N := 4) ?hd (cs := #[.int .i64 0, .int .i64 0, .int .i64 0, .slice none 0 0, .int .u16 0]) (t := 55) ?hr ?_; (case hd => rfl); (case hg => rfl); (case hr => first | (go_simp; done) | (go_simp; rfl)); intro gb121 hg w51 hbox hb; have n0_ := Aside0.mk (blk_below (g := gb119) (o := .cells #[.int .i64 a0_0, .int .i64 a0_1, .int .i64 a0_2, .slice A0_3 l0_3.length c0_3, .int .u16 a0_4] 55 (0, 0)) (by (with_reducible repeat (first | refine blk_drewN ?_ _ | refine blk_drew ?_ | refine blk_alloc ?_ _)); exact BK119.out) hb); have n1_ := Aside0.mk (blk_below (g := gb120) (o := .cells #[.int .i64 a1_0, .int .i64 a1_1, .int .i64 a1_2, .int .i64 a1_3, .int .u16 a1_4, .int .i64 a1_5, .slice A1_6 l1_6.length c1_6] 49 (0, 0)) (by (with_reducible repeat (first | refine blk_drewN ?_ _ | refine blk_drew ?_ | refine blk_alloc ?_ _)); exact BK120.out) hb); have n2_ := Aside0.mk (below_step (by repeat (first | (with_reducible first | exact HB.out | apply below_alloc | apply pw_below_drewN | apply below_drew1 | refine below_set ?_ GE119.out | refine below_set ?_ GE120.out) | exact HB.out)) hb); have n3_ := Aside0.mk (hbox); have n4_ := Aside0.mk ((by rw [hg]; exact (below_size (by repeat (first | (with_reducible first | exact HB.out | apply below_alloc | apply pw_below_drewN | apply below_drew1 | refine below_set ?_ GE119.out | refine below_set ?_ GE120.out) | exact HB.out))) : w.heap.size ≤ gb121)); have n5_ := Aside0.mk ((by rw [hg]; exact (below_size (by repeat (first | (with_reducible first | exact HB.out | apply below_alloc | apply pw_below_drewN | apply below_drew1 | refine below_set ?_ GE119.out | refine below_set ?_ GE120.out) | exact HB.out))) : w.heap.size ≤ gb121)); have n6_ := Aside0.mk ((by rw [hg]; exact Nat.ne_of_lt (blk_lt (g := gb119) (o := .cells #[.int .i64 a0_0, .int .i64 a0_1, .int .i64 a0_2, .slice A0_3 l0_3.length c0_3, .int .u16 a0_4] 55 (0, 0)) (by (with_reducible repeat (first | refine blk_drewN ?_ _ | refine blk_drew ?_ | refine blk_alloc ?_ _)); exact BK119.out)) : gb119 ≠ gb121)); have n7_ := Aside0.mk ((by rw [hg]; exact Nat.ne_of_gt (blk_lt (g := gb119) (o := .cells #[.int .i64 a0_0, .int .i64 a0_1, .int .i64 a0_2, .slice A0_3 l0_3.length c0_3, .int .u16 a0_4] 55 (0, 0)) (by (with_reducible repeat (first | refine blk_drewN ?_ _ | refine blk_drew ?_ | refine blk_alloc ?_ _)); exact BK119.out)) : gb121 ≠ gb119)); have n8_ := Aside0.mk ((by rw [hg]; exact Nat.ne_of_lt (blk_lt (g := gb120) (o := .cells #[.int .i64 a1_0, .int .i64 a1_1, .int .i64 a1_2, .int .i64 a1_3, .int .u16 a1_4, .int .i64 a1_5, .slice A1_6 l1_6.length c1_6] 49 (0, 0)) (by (with_reducible repeat (first | refine blk_drewN ?_ _ | refine blk_drew ?_ | refine blk_alloc ?_ _)); exact BK120.out)) : gb120 ≠ gb121)); have n9_ := Aside0.mk ((by rw [hg]; exact Nat.ne_of_gt (blk_lt (g := gb120) (o := .cells #[.int .i64 a1_0, .int .i64 a1_1, .int .i64 a1_2, .int .i64 a1_3, .int .u16 a1_4, .int .i64 a1_5, .slice A1_6 l1_6.length c1_6] 49 (0, 0)) (by (with_reducible repeat (first | refine blk_drewN ?_ _ | refine blk_drew ?_ | refine blk_alloc ?_ _)); exact BK120.out)) : gb121 ≠ gb120)); clear BK119; clear BK120; clear HB; have BK119 := n0_; have BK120 := n1_; have HB := n2_; have BK121 := n3_; have GW121 := n4_; have GE121 := n5_; have NB119_121 := n6_; have NB121_119 := n7_; have NB120_121 := n8_; have NB121_120 := n9_; clear n0_ n1_ n2_ n3_ n4_ n5_ n6_ n7_ n8_ n9_; clear hb hbox hg; have hnb52 := NB119_120.out; have hnc52 := NB120_119.out; have hnb53 := NB119_121.out; have hnc53 := NB121_119.out; have hcz54_0 : w51.cell? ⟨gb119, 0, none⟩ = some (.int .i64 a0_0) := (blk_cell BK119.out 0).trans rfl; have hcz54_1 : w51.cell? ⟨gb119, 1, none⟩ = some (.int .i64 a0_1) := (blk_cell BK119.out 1).trans rfl; have hcz54_2 : w51.cell? ⟨gb119, 2, none⟩ = some (.int .i64 a0_2) := (blk_cell BK119.out 2).trans rfl; have hcz54_3 : w51.cell? ⟨gb119, 3, none⟩ = some (.slice A0_3 l0_3.length c0_3) := (blk_cell BK119.out 3).trans rfl; have hcz54_4 : w51.cell? ⟨gb119, 4, none⟩ = some (.int .u16 a0_4) := (blk_cell BK119.out 4).trans rfl; have hfz54_0 := blk_frozen BK119.out 0; have hfz54_1 := blk_frozen BK119.out 1; have hfz54_2 := blk_frozen BK119.out 2; have hfz54_3 := blk_frozen BK119.out 3; have hfz54_4 := blk_frozen BK119.out 4) | ((with_reducible refine gate_callee (f := 69) rfl ?_); refine goesL_ (some 11) rfl rfl Try.func69 (by kernel_rfl) rfl #[.agg #[.int .i64 a0_0, .int .i64 a0_1, .int .i64 a0_2, .slice A0_3 l0_3.length c0_3, .int .u16 a0_4]] rfl (by (try simp only [List.map_toArray, List.map_cons, List.map_nil]); first | done | rfl | (simp only [List.length_drop, List.length_take]; rfl)) ?_; (with_reducible refine (frame_copied.calls a0_0 a0_1 a0_2 _ _ l0_3 a0_4 t122 t123 t124 t125 t128 _ ?side1 ?side2 A3.out).mono ?_); (case side1 => repeat (first | exact (Kd.C_below HR0_3.out HB.out) | (with_reducible refine Kd.C_alloc ?_ _) | (with_reducible refine Kd.C_drewN ?_ _) | (with_reducible refine Kd.C_drew ?_))); (case side2 => exact HC0_3.out); rintro e w55 ⟨v126, rfl, ho0, hb⟩; refine ⟨_, rfl, ?_⟩; have n0_ := Aside0.mk (Kd.R_lower ho0 (below_size (by repeat (first | (with_reducible first | exact HB.out | apply below_alloc | apply pw_below_drewN | apply below_drew1 | refine below_set ?_ GE119.out | refine below_set ?_ GE120.out | refine below_set ?_ GE121.out) | exact HB.out)))); have n1_ := Aside0.mk (blk_below (g := gb119) (o := .cells #[.int .i64 a0_0, .int .i64 a0_1, .int .i64 a0_2, .slice A0_3 l0_3.length c0_3, .int .u16 a0_4] 55 (0, 0)) (by (with_reducible repeat (first | refine blk_drewN ?_ _ | refine blk_drew ?_ | refine blk_alloc ?_ _)); exact BK119.out) hb); have n2_ := Aside0.mk (blk_below (g := gb120) (o := .cells #[.int .i64 a1_0, .int .i64 a1_1, .int .i64 a1_2, .int .i64 a1_3, .int .u16 a1_4, .int .i64 a1_5, .slice A1_6 l1_6.length c1_6] 49 (0, 0)) (by (with_reducible repeat (first | refine blk_drewN ?_ _ | refine blk_drew ?_ | refine blk_alloc ?_ _)); exact BK120.out) hb); have n3_ := Aside0.mk (blk_below (g := gb121) (o := .cells #[.int .i64 0, .int .i64 0, .int .i64 0, .slice none 0 0, .int .u16 0] 55 (0, 0)) (by (with_reducible repeat (first | refine blk_drewN ?_ _ | refine blk_drew ?_ | refine blk_alloc ?_ _)); exact BK121.out) hb); have n4_ := Aside0.mk (below_step (by repeat (first | (with_reducible first | exact HB.out | apply below_alloc | apply pw_below_drewN | apply below_drew1 | refine below_set ?_ GE119.out | refine below_set ?_ GE120.out | refine below_set ?_ GE121.out) | exact HB.out)) hb); clear BK119; clear BK120; clear BK121; clear HB; have HO127 := n0_; have BK119 := n1_; have BK120 := n2_; have BK121 := n3_; have HB := n4_; clear n0_ n1_ n2_ n3_ n4_; (try clear hb); (try clear hb2); (try clear hk); (try clear hi); (try clear ho0); have hcz56_0 : w55.cell? ⟨gb119, 0, none⟩ = some (.int .i64 a0_0) := (blk_cell BK119.out 0).trans rfl; have hcz56_1 : w55.cell? ⟨gb119, 1, none⟩ = some (.int .i64 a0_1) := (blk_cell BK119.out 1).trans rfl; have hcz56_2 : w55.cell? ⟨gb119, 2, none⟩ = some (.int .i64 a0_2) := (blk_cell BK119.out 2).trans rfl; have hcz56_3 : w55.cell? ⟨gb119, 3, none⟩ = some (.slice A0_3 l0_3.length c0_3) := (blk_cell BK119.out 3).trans rfl; have hcz56_4 : w55.cell? ⟨gb119, 4, none⟩ = some (.int .u16 a0_4) := (blk_cell BK119.out 4).trans rfl; have hfz56_0 := blk_frozen BK119.out 0; have hfz56_1 := blk_frozen BK119.out 1; have hfz56_2 := blk_frozen BK119.out 2; have hfz56_3 := blk_frozen BK119.out 3; have hfz56_4 := blk_frozen BK119.out 4; obtain ⟨Ao57, co57, eo57⟩ := Kd.R_slice HO127.out; subst eo57; have hnb58 := NB120_121.out; have hnc58 := NB121_120.out; have hcz59_0 : w55.cell? ⟨gb120, 0, none⟩ = some (.int .i64 a1_0) := (blk_cell BK120.out 0).trans rfl; have hcz59_1 : w55.cell? ⟨gb120, 1, none⟩ = some (.int .i64 a1_1) := (blk_cell BK120.out 1).trans rfl; have hcz59_2 : w55.cell? ⟨gb120, 2, none⟩ = some (.int .i64 a1_2) := (blk_cell BK120.out 2).trans rfl; have hcz59_3 : w55.cell? ⟨gb120, 3, none⟩ = some (.int .i64 a1_3) := (blk_cell BK120.out 3).trans rfl; have hcz59_4 : w55.cell? ⟨gb120, 4, none⟩ = some (.int .u16 a1_4) := (blk_cell BK120.out 4).trans rfl; have hcz59_5 : w55.cell? ⟨gb120, 5, none⟩ = some (.int .i64 a1_5) := (blk_cell BK120.out 5).trans rfl; have hcz59_6 : w55.cell? ⟨gb120, 6, none⟩ = some (.slice A1_6 l1_6.length c1_6) := (blk_cell BK120.out 6).trans rfl; have hfz59_0 := blk_frozen BK120.out 0; have hfz59_1 := blk_frozen BK120.out 1; have hfz59_2 := blk_frozen BK120.out 2; have hfz59_3 := blk_frozen BK120.out 3; have hfz59_4 := blk_frozen BK120.out 4; have hfz59_5 := blk_frozen BK120.out 5; have hfz59_6 := blk_frozen BK120.out 6) | ((with_reducible refine gate_callee (f := 70) rfl ?_); refine goesL_ (some 15) rfl rfl Try.func70 (by kernel_rfl) rfl #[.agg #[.int .i64 t122, .int .i64 t123, .int .i64 t124, .slice Ao57 t125.length co57, .int .u16 t128], .agg #[.int .i64 a1_0, .int .i64 a1_1, .int .i64 a1_2, .int .i64 a1_3, .int .u16 a1_4, .int .i64 a1_5, .slice A1_6 l1_6.length c1_6]] rfl (by (try simp only [List.map_toArray, List.map_cons, List.map_nil]); first | done | rfl | (simp only [List.length_drop, List.length_take]; rfl)) ?_; (with_reducible refine (frame_answer.calls k t122 t123 t124 _ _ t125 t128 a1_0 a1_1 a1_2 a1_3 a1_4 a1_5 _ _ l1_6 t129 false _ ?side1 ?side2 ?side3 ?side4 A4.out).mono ?_); (case side1 => refine (Kd.R_reads' (e := 44) (base := w.heap.size) (ok := fun k_ => True) (n := t125.length) (c := co57) ?_).2.2; exact (by (with_reducible repeat (first | apply Kd.R_alloc | apply Kd.R_drewN | apply Kd.R_drew)); exact (Kd.R_mono (Kd.R_far (p := ⟨gb119, 4, none⟩) (Kd.R_far (p := ⟨gb119, 3, none⟩) (Kd.R_far (p := ⟨gb119, 2, none⟩) (Kd.R_far (p := ⟨gb119, 1, none⟩) (Kd.R_far (p := ⟨gb119, 0, none⟩) (Kd.R_types HO127.out BK119.out (by decide)) (fun _ hk => hk.2) (.int .i64 t122)) (fun _ hk => hk.2) (.int .i64 t123)) (fun _ hk => hk.2) (.int .i64 t124)) (fun _ hk => hk.2) (.slice Ao57 t125.length co57)) (fun _ hk => hk.2) (.int .u16 t128)) (fun _ h_ => h_.1)))); (case side2 => exact (Kd.R_reads' HO127.out).2.1); (case side3 => exact Kd.C_below HR1_6.out (by repeat (first | (with_reducible first | exact HB.out | apply below_alloc | apply pw_below_drewN | apply below_drew1 | refine below_set ?_ GE119.out | refine below_set ?_ GE120.out | refine below_set ?_ GE121.out) | exact HB.out))); (case side4 => exact HC1_6.out); rintro e w60 ⟨rfl, hb⟩; refine ⟨_, rfl, ?_⟩; have n0_ := Aside0.mk (Kd.R_below (by (with_reducible repeat (first | apply Kd.R_alloc | apply Kd.R_drewN | apply Kd.R_drew)); exact (Kd.R_mono (Kd.R_far (p := ⟨gb119, 4, none⟩) (Kd.R_far (p := ⟨gb119, 3, none⟩) (Kd.R_far (p := ⟨gb119, 2, none⟩) (Kd.R_far (p := ⟨gb119, 1, none⟩) (Kd.R_far (p := ⟨gb119, 0, none⟩) (Kd.R_types HO127.out BK119.out (by decide)) (fun _ hk => hk.2) (.int .i64 t122)) (fun _ hk => hk.2) (.int .i64 t123)) (fun _ hk => hk.2) (.int .i64 t124)) (fun _ hk => hk.2) (.slice Ao57 t125.length co57)) (fun _ hk => hk.2) (.int .u16 t128)) (fun _ h_ => h_.1))) hb); have n1_ := Aside0.mk (blk_below (g := gb119) (o := .cells #[.int .i64 t122, .int .i64 t123, .int .i64 t124, .slice Ao57 t125.length co57, .int .u16 t128] 55 (0, 0)) (by (with_reducible repeat (first | refine blk_drewN ?_ _ | refine blk_drew ?_ | refine blk_alloc ?_ _)); refine blk_put (cs := #[.int .i64 t122, .int .i64 t123, .int .i64 t124, .slice Ao57 t125.length co57, .int .u16 a0_4]) ?_ 4 _ rfl; (with_reducible repeat (first | refine blk_drewN ?_ _ | refine blk_drew ?_ | refine blk_alloc ?_ _)); refine blk_put (cs := #[.int .i64 t122, .int .i64 t123, .int .i64 t124, .slice A0_3 l0_3.length c0_3, .int .u16 a0_4]) ?_ 3 _ rfl; (with_reducible repeat (first | refine blk_drewN ?_ _ | refine blk_drew ?_ | refine blk_alloc ?_ _)); refine blk_put (cs := #[.int .i64 t122, .int .i64 t123, .int .i64 a0_2, .slice A0_3 l0_3.length c0_3, .int .u16 a0_4]) ?_ 2 _ rfl; (with_reducible repeat (first | refine blk_drewN ?_ _ | refine blk_drew ?_ | refine blk_alloc ?_ _)); refine blk_put (cs := #[.int .i64 t122, .int .i64 a0_1, .int .i64 a0_2, .slice A0_3 l0_3.length c0_3, .int .u16 a0_4]) ?_ 1 _ rfl; (with_reducible repeat (first | refine blk_drewN ?_ _ | refine blk_drew ?_ | refine blk_alloc ?_ _)); refine blk_put (cs := #[.int .i64 a0_0, .int .i64 a0_1, .int .i64 a0_2, .slice A0_3 l0_3.length c0_3, .int .u16 a0_4]) ?_ 0 _ rfl; (with_reducible repeat (first | refine blk_drewN ?_ _ | refine blk_drew ?_ | refine blk_alloc ?_ _)); exact BK119.out) hb); have n2_ := Aside0.mk (blk_below (g := gb120) (o := .cells #[.int .i64 a1_0, .int .i64 a1_1, .int .i64 a1_2, .int .i64 a1_3, .int .u16 a1_4, .int .i64 a1_5, .slice A1_6 l1_6.length c1_6] 49 (0, 0)) (by (with_reducible repeat (first | refine blk_drewN ?_ _ | refine blk_drew ?_ | refine blk_alloc ?_ _)); refine blk_far ?_ NB120_119.out _; (with_reducible repeat (first | refine blk_drewN ?_ _ | refine blk_drew ?_ | refine blk_alloc ?_ _)); refine blk_far ?_ NB120_119.out _; (with_reducible repeat (first | refine blk_drewN ?_ _ | refine blk_drew ?_ | refine blk_alloc ?_ _)); refine blk_far ?_ NB120_119.out _; (with_reducible repeat (first | refine blk_drewN ?_ _ | refine blk_drew ?_ | refine blk_alloc ?_ _)); refine blk_far ?_ NB120_119.out _; (with_reducible repeat (first | refine blk_drewN ?_ _ | refine blk_drew ?_ | refine blk_alloc ?_ _)); refine blk_far ?_ NB120_119.out _; (with_reducible repeat (first | refine blk_drewN ?_ _ | refine blk_drew ?_ | refine blk_alloc ?_ _)); exact BK120.out) hb); have n3_ := Aside0.mk (blk_below (g := gb121) (o := .cells #[.int .i64 0, .int .i64 0, .int .i64 0, .slice none 0 0, .int .u16 0] 55 (0, 0)) (by (with_reducible repeat (first | refine blk_drewN ?_ _ | refine blk_drew ?_ | refine blk_alloc ?_ _)); refine blk_far ?_ NB121_119.out _; (with_reducible repeat (first | refine blk_drewN ?_ _ | refine blk_drew ?_ | refine blk_alloc ?_ _)); refine blk_far ?_ NB121_119.out _; (with_reducible repeat (first | refine blk_drewN ?_ _ | refine blk_drew ?_ | refine blk_alloc ?_ _)); refine blk_far ?_ NB121_119.out _; (with_reducible repeat (first | refine blk_drewN ?_ _ | refine blk_drew ?_ | refine blk_alloc ?_ _)); refine blk_far ?_ NB121_119.out _; (with_reducible repeat (first | refine blk_drewN ?_ _ | refine blk_drew ?_ | refine blk_alloc ?_ _)); refine blk_far ?_ NB121_119.out _; (with_reducible repeat (first | refine blk_drewN ?_ _ | refine blk_drew ?_ | refine blk_alloc ?_ _)); exact BK121.out) hb); have n4_ := Aside0.mk (below_step (by repeat (first | (with_reducible first | exact HB.out | apply below_alloc | apply pw_below_drewN | apply below_drew1 | refine below_set ?_ GE119.out | refine below_set ?_ GE120.out | refine below_set ?_ GE121.out) | exact HB.out)) hb); clear HO127; clear BK119; clear BK120; clear BK121; clear HB; have HO127 := n0_; have BK119 := n1_; have BK120 := n2_; have BK121 := n3_; have HB := n4_; clear n0_ n1_ n2_ n3_ n4_; (try clear hb); (try clear hb2); (try clear hk); (try clear hi); have hcz61_0 : w60.cell? ⟨gb119, 0, none⟩ = some (.int .i64 t122) := (blk_cell BK119.out 0).trans rfl; have hcz61_1 : w60.cell? ⟨gb119, 1, none⟩ = some (.int .i64 t123) := (blk_cell BK119.out 1).trans rfl; have hcz61_2 : w60.cell? ⟨gb119, 2, none⟩ = some (.int .i64 t124) := (blk_cell BK119.out 2).trans rfl; have hcz61_3 : w60.cell? ⟨gb119, 3, none⟩ = some (.slice Ao57 t125.length co57) := (blk_cell BK119.out 3).trans rfl; have hcz61_4 : w60.cell? ⟨gb119, 4, none⟩ = some (.int .u16 t128) := (blk_cell BK119.out 4).trans rfl; have hfz61_0 := blk_frozen BK119.out 0; have hfz61_1 := blk_frozen BK119.out 1; have hfz61_2 := blk_frozen BK119.out 2; have hfz61_3 := blk_frozen BK119.out 3; have hfz61_4 := blk_frozen BK119.out 4; have hcz62_0 : w60.cell? ⟨gb120, 0, none⟩ = some (.int .i64 a1_0) := (blk_cell BK120.out 0).trans rfl; have hcz62_1 : w60.cell? ⟨gb120, 1, none⟩ = some (.int .i64 a1_1) := (blk_cell BK120.out 1).trans rfl; have hcz62_2 : w60.cell? ⟨gb120, 2, none⟩ = some (.int .i64 a1_2) := (blk_cell BK120.out 2).trans rfl; have hcz62_3 : w60.cell? ⟨gb120, 3, none⟩ = some (.int .i64 a1_3) := (blk_cell BK120.out 3).trans rfl; have hcz62_4 : w60.cell? ⟨gb120, 4, none⟩ = some (.int .u16 a1_4) := (blk_cell BK120.out 4).trans rfl; have hcz62_5 : w60.cell? ⟨gb120, 5, none⟩ = some (.int .i64 a1_5) := (blk_cell BK120.out 5).trans rfl; have hcz62_6 : w60.cell? ⟨gb120, 6, none⟩ = some (.slice A1_6 l1_6.length c1_6) := (blk_cell BK120.out 6).trans rfl; have hfz62_0 := blk_frozen BK120.out 0; have hfz62_1 := blk_frozen BK120.out 1; have hfz62_2 := blk_frozen BK120.out 2; have hfz62_3 := blk_frozen BK120.out 3; have hfz62_4 := blk_frozen BK120.out 4; have hfz62_5 := blk_frozen BK120.out 5; have hfz62_6 := blk_frozen BK120.out 6) | ((with_reducible refine gate_callee (f := 71) rfl ?_); refine goesL_ (some 22) rfl rfl Try.func71 (by kernel_rfl) rfl #[.agg #[.int .i64 t122, .int .i64 t123, .int .i64 t124, .slice Ao57 t125.length co57, .int .u16 t128], .int .i64 a1_1] rfl (by (try simp only [List.map_toArray, List.map_cons, List.map_nil]); first | done | rfl | (simp only [List.length_drop, List.length_take]; rfl)) ?_; (with_reducible refine (frame_at.calls t122 t123 t124 _ _ t125 t128 a1_1 t131 t132 _ ?side1 ?side2 A5.out).mono ?_); (case side1 => repeat (first | exact (Kd.R_reads' HO127.out).2.2 | (with_reducible refine Kd.C_alloc ?_ _) | (with_reducible refine Kd.C_drewN ?_ _) | (with_reducible refine Kd.C_drew ?_))); (case side2 => exact (Kd.R_reads' HO127.out).2.1); rintro e w63 ⟨rfl, hb⟩; refine ⟨_, rfl, ?_⟩; have n0_ := Aside0.mk (Kd.R_below (by (with_reducible repeat (first | apply Kd.R_alloc | apply Kd.R_drewN | apply Kd.R_drew)); exact HO127.out) hb); have n1_ := Aside0.mk (blk_below (g := gb119) (o := .cells #[.int .i64 t122, .int .i64 t123, .int .i64 t124, .slice Ao57 t125.length co57, .int .u16 t128] 55 (0, 0)) (by (with_reducible repeat (first | refine blk_drewN ?_ _ | refine blk_drew ?_ | refine blk_alloc ?_ _)); exact BK119.out) hb); have n2_ := Aside0.mk (blk_below (g := gb120) (o := .cells #[.int .i64 a1_0, .int .i64 a1_1, .int .i64 a1_2, .int .i64 a1_3, .int .u16 a1_4, .int .i64 a1_5, .slice A1_6 l1_6.length c1_6] 49 (0, 0)) (by (with_reducible repeat (first | refine blk_drewN ?_ _ | refine blk_drew ?_ | refine blk_alloc ?_ _)); exact BK120.out) hb); have n3_ := Aside0.mk (blk_below (g := gb121) (o := .cells #[.int .i64 0, .int .i64 0, .int .i64 0, .slice none 0 0, .int .u16 0] 55 (0, 0)) (by (with_reducible repeat (first | refine blk_drewN ?_ _ | refine blk_drew ?_ | refine blk_alloc ?_ _)); exact BK121.out) hb); have n4_ := Aside0.mk (below_step (by repeat (first | (with_reducible first | exact HB.out | apply below_alloc | apply pw_below_drewN | apply below_drew1 | refine below_set ?_ GE119.out | refine below_set ?_ GE120.out | refine below_set ?_ GE121.out) | exact HB.out)) hb); clear HO127; clear BK119; clear BK120; clear BK121; clear HB; have HO127 := n0_; have BK119 := n1_; have BK120 := n2_; have BK121 := n3_; have HB := n4_; clear n0_ n1_ n2_ n3_ n4_; (try clear hb); (try clear hb2); (try clear hk); (try clear hi); have hcz64_0 : w63.cell? ⟨gb119, 0, none⟩ = some (.int .i64 t122) := (blk_cell BK119.out 0).trans rfl; have hcz64_1 : w63.cell? ⟨gb119, 1, none⟩ = some (.int .i64 t123) := (blk_cell BK119.out 1).trans rfl; have hcz64_2 : w63.cell? ⟨gb119, 2, none⟩ = some (.int .i64 t124) := (blk_cell BK119.out 2).trans rfl; have hcz64_3 : w63.cell? ⟨gb119, 3, none⟩ = some (.slice Ao57 t125.length co57) := (blk_cell BK119.out 3).trans rfl; have hcz64_4 : w63.cell? ⟨gb119, 4, none⟩ = some (.int .u16 t128) := (blk_cell BK119.out 4).trans rfl; have hfz64_0 := blk_frozen BK119.out 0; have hfz64_1 := blk_frozen BK119.out 1; have hfz64_2 := blk_frozen BK119.out 2; have hfz64_3 := blk_frozen BK119.out 3; have hfz64_4 := blk_frozen BK119.out 4; have hcz65_0 : w63.cell? ⟨gb121, 0, none⟩ = some (.int .i64 0) := (blk_cell BK121.out 0).trans rfl; have hcz65_1 : w63.cell? ⟨gb121, 1, none⟩ = some (.int .i64 0) := (blk_cell BK121.out 1).trans rfl; have hcz65_2 : w63.cell? ⟨gb121, 2, none⟩ = some (.int .i64 0) := (blk_cell BK121.out 2).trans rfl; have hcz65_3 : w63.cell? ⟨gb121, 3, none⟩ = some (.slice none 0 0) := (blk_cell BK121.out 3).trans rfl; have hcz65_4 : w63.cell? ⟨gb121, 4, none⟩ = some (.int .u16 0) := (blk_cell BK121.out 4).trans rfl; have hfz65_0 := blk_frozen BK121.out 0; have hfz65_1 := blk_frozen BK121.out 1; have hfz65_2 := blk_frozen BK121.out 2; have hfz65_3 := blk_frozen BK121.out 3; have hfz65_4 := blk_frozen BK121.out 4))
  refine bodyPost_ret (results_ct rfl _ _ gb121 55 #[.int .i64 t122, .int .i64 t123, .int .i64 t124, .slice Ao57 t125.length co57, .int .u16 t128] (0, 0) _ rfl (by (with_reducible repeat (first | refine blk_drewN ?_ _ | refine blk_drew ?_ | refine blk_alloc ?_ _)); refine blk_put (cs := #[.int .i64 t122, .int .i64 t123, .int .i64 t124, .slice Ao57 t125.length co57, .int .u16 0]) ?_ 4 _ rfl; (with_reducible repeat (first | refine blk_drewN ?_ _ | refine blk_drew ?_ | refine blk_alloc ?_ _)); refine blk_put (cs := #[.int .i64 t122, .int .i64 t123, .int .i64 t124, .slice none 0 0, .int .u16 0]) ?_ 3 _ rfl; (with_reducible repeat (first | refine blk_drewN ?_ _ | refine blk_drew ?_ | refine blk_alloc ?_ _)); refine blk_put (cs := #[.int .i64 t122, .int .i64 t123, .int .i64 0, .slice none 0 0, .int .u16 0]) ?_ 2 _ rfl; (with_reducible repeat (first | refine blk_drewN ?_ _ | refine blk_drew ?_ | refine blk_alloc ?_ _)); refine blk_put (cs := #[.int .i64 t122, .int .i64 0, .int .i64 0, .slice none 0 0, .int .u16 0]) ?_ 1 _ rfl; (with_reducible repeat (first | refine blk_drewN ?_ _ | refine blk_drew ?_ | refine blk_alloc ?_ _)); refine blk_put (cs := #[.int .i64 0, .int .i64 0, .int .i64 0, .slice none 0 0, .int .u16 0]) ?_ 0 _ rfl; (with_reducible repeat (first | refine blk_drewN ?_ _ | refine blk_drew ?_ | refine blk_alloc ?_ _)); exact BK121.out) Try.underlying55 rfl (by kernel_rfl)) rfl ?_
  exact ⟨_, by first | rfl | (simp [errW_none, errW_some] <;> rfl) | (simp [*, errW_none, errW_some] <;> rfl), by (with_reducible repeat (first | apply Kd.R_alloc | apply Kd.R_drewN | apply Kd.R_drew)); exact Kd.R_mono (Kd.R_far (p := ⟨gb121, 4, none⟩) (Kd.R_far (p := ⟨gb121, 3, none⟩) (Kd.R_far (p := ⟨gb121, 2, none⟩) (Kd.R_far (p := ⟨gb121, 1, none⟩) (Kd.R_far (p := ⟨gb121, 0, none⟩) (Kd.R_types HO127.out BK121.out (by decide)) (fun _ hk => hk.2) (.int .i64 t122)) (fun _ hk => hk.2) (.int .i64 t123)) (fun _ hk => hk.2) (.int .i64 t124)) (fun _ hk => hk.2) (.slice Ao57 t125.length co57)) (fun _ hk => hk.2) (.int .u16 t128)) (fun _ hk => trivial), by repeat (first | (with_reducible first | exact HB.out | apply below_alloc | apply pw_below_drewN | apply below_drew1 | refine below_set ?_ GE119.out | refine below_set ?_ GE120.out | refine below_set ?_ GE121.out) | exact HB.out)⟩
end
end Go.Proofs.Ytbfialebaoeicaa.X
namespace Go.Proofs.Ytbfialebaoeicaa.X
open Go.RowKit Go.Proofs.YtbfialebaoeicaaW.PrintWords Go.Proofs.YtbfialebaoeicaaW.PrintLast Go.Proofs.YtbfialebaoeicaaW.PrintMore
attribute [local go_sem] max2_int min2_int max_two min_two max_three min_three max_four min_four
set_option linter.all false
noncomputable section
def slices_Index_uint16_uint16.l0 : Nat → List Int → Int → Int → Int → Option (Int)
 | 0, _, _, _, _ => none
 | k + 1, x0, x1, x7, x8 => if x8 < x7 then (if 0 ≤ x8 then (if x8 < (x0.length : Int) then (if x1 = (rd x0 x8) then (some x8) else (slices_Index_uint16_uint16.l0 k x0 x1 x7 (wrap64 (x8 + 1)))) else (none)) else (none)) else (some (-1))
def slices_Index_uint16_uint16.f (k : Nat) (l0 : List Int) (a1 : Int) : Option (Int) := slices_Index_uint16_uint16.l0 k l0 a1 (l0.length : Int) 0
theorem slices_Index_uint16_uint16.mono_l : ∀ k, (∀ y0 y1 y2 y3, LeO (slices_Index_uint16_uint16.l0 k y0 y1 y2 y3) (slices_Index_uint16_uint16.l0 (k + 1) y0 y1 y2 y3))
 | 0 => fun _ _ _ _ r h => by simp [slices_Index_uint16_uint16.l0] at h
 | k + 1 => by
  have ih0 := slices_Index_uint16_uint16.mono_l k
  ·intro y0 y1 y2 y3
   unfold slices_Index_uint16_uint16.l0
   repeat' first
   | (with_reducible exact ih0 _ _ _ _)
   | (with_reducible exact LeO.refl _)
   | (with_reducible exact LeO.none _)
   | (with_reducible refine LeO.ite ?_ ?_)
   | (with_reducible refine LeO.bind ?_ (fun _ => ?_))
   | exact ih0 _ _ _ _
   | exact LeO.none _
   | refine LeO.ite ?_ ?_
   | refine LeO.bind ?_ (fun _ => ?_)
theorem slices_Index_uint16_uint16.mono : ∀ a0 a1 k, LeO (slices_Index_uint16_uint16.f k a0 a1) (slices_Index_uint16_uint16.f (k + 1) a0 a1) := by
 intro a0 a1 k
 have ih0 := slices_Index_uint16_uint16.mono_l k
 unfold slices_Index_uint16_uint16.f
 repeat' first
   | (with_reducible exact ih0 _ _ _ _)
   | (with_reducible exact LeO.refl _)
   | (with_reducible exact LeO.none _)
   | (with_reducible refine LeO.ite ?_ ?_)
   | (with_reducible refine LeO.bind ?_ (fun _ => ?_))
   | exact ih0 _ _ _ _
   | exact LeO.none _
   | refine LeO.ite ?_ ?_
   | refine LeO.bind ?_ (fun _ => ?_)
set_option maxHeartbeats 8000000 in
set_option maxRecDepth 100000 in
theorem slices_Index_uint16_uint16.calls (k : Nat) (A0 : Option Addr) (c0 : Nat) (l0 : List Int) (a1 : Int) (r : Int) (w : World) (hr0 : Kd.C (Kd.int .u16) w A0 l0.length l0) (hc0 : l0.length ≤ c0) (h : slices_Index_uint16_uint16.f k l0 a1 = some r) :
  Calls Try.prog 98 #[.slice A0 l0.length c0, .int .u16 a1] w fun e w' => e = .returned (.int .i64 r) ∧ Drawn0 w w' := by
 have HR0 := Aside0.mk hr0
 have HC0 := Aside0.mk hc0
 clear hr0 hc0
 have H : (slices_Index_uint16_uint16.l0 k l0 a1 (l0.length : Int) 0) = some r := h
 clear h
 have H' := Aside0.mk H
 clear H
 go_enter Try.func98, Try.ntmps98
 go_wp2
 go_loopg [8] k (fun kq v8 w' => ∃ (x8_1 : Int), v8 = .int .i64 x8_1 ∧ Aside0 (slices_Index_uint16_uint16.l0 kq l0 a1 (l0.length : Int) x8_1 = some r) ∧ Aside0 (kq ≤ k) ∧ Drawn0 w w')
 case atStart => exact ⟨(0), (by first | rfl | (simp; done) | (simp [*]; done)), H', ⟨Nat.le_refl _⟩, by repeat (first | exact Drawn0.refl _ | apply Drawn0.step)⟩
 case round =>
  clear H'
  try clear p2
  obtain ⟨x8_1, rfl, HA, HK1, ⟨m1, rfl⟩⟩ := hrel
  cases gk with
  | zero => exact absurd HA.out (by simp [slices_Index_uint16_uint16.l0])
  | succ k1 =>
   have H := HA.out
   clear HA
   simp only [slices_Index_uint16_uint16.l0] at H
   by_cases c3 : x8_1 < (l0.length : Int)
   ·rw [if_pos c3] at H
    have c3b0 : decide (x8_1 < (l0.length : Int)) = true := decide_eq_true c3
    clear c3
    by_cases c4 : 0 ≤ x8_1
    ·rw [if_pos c4] at H
     have c4b0 : decide (0 ≤ x8_1) = true := decide_eq_true c4
     clear c4
     by_cases c5 : x8_1 < (l0.length : Int)
     ·rw [if_pos c5] at H
      have c5b0 : decide (x8_1 < (l0.length : Int)) = true := decide_eq_true c5
      clear c5
      by_cases c6 : a1 = (rd l0 x8_1)
      ·rw [if_pos c6] at H
       have c6b0 : (a1 == (rd l0 x8_1)) = true := beq_iff_eq.mpr c6
       have c6b1 : (a1 != (rd l0 x8_1)) = false := bne_eq_false_iff_eq.mpr c6
       clear c6
       obtain rfl := Option.some.inj H
       have p134 : 0 ≤ (x8_1 : Int) := of_decide_eq_true (by first | (with_reducible assumption) | assumption)
       have q134 : x8_1 < (l0.length : Int) := of_decide_eq_true (by first | (with_reducible assumption) | assumption)
       obtain ⟨ad134, e134, hx134_0⟩ := Kd.at_int HR0.out x8_1 p134 q134
       cases e134
       replace p134 := eq_true p134
       replace q134 := eq_true q134
       go_wp2
       go_ret
       exact ⟨by first | rfl | (simp; done) | (simp [*]; done), by repeat (first | exact Drawn0.refl _ | apply Drawn0.step)⟩
      ·rw [if_neg c6] at H
       have c6b0 : (a1 == (rd l0 x8_1)) = false := beq_eq_false_iff_ne.mpr c6
       have c6b1 : (a1 != (rd l0 x8_1)) = true := bne_iff_ne.mpr c6
       have H' := Aside0.mk H
       clear H
       have p134 : 0 ≤ (x8_1 : Int) := of_decide_eq_true (by first | (with_reducible assumption) | assumption)
       have q134 : x8_1 < (l0.length : Int) := of_decide_eq_true (by first | (with_reducible assumption) | assumption)
       obtain ⟨ad134, e134, hx134_0⟩ := Kd.at_int HR0.out x8_1 p134 q134
       cases e134
       replace p134 := eq_true p134
       replace q134 := eq_true q134
       go_wp2
       go_roundg k1
       case measure => have := HK1.out; omega
       case rel => exact ⟨(wrap64 (x8_1 + 1)), (by first | rfl | (simp; done) | (simp [*]; done)), H', ⟨by have := HK1.out; omega⟩, by repeat (first | exact Drawn0.refl _ | apply Drawn0.step)⟩
     ·rw [if_neg c5] at H
      exact absurd H (by simp)
    ·rw [if_neg c4] at H
     exact absurd H (by simp)
   ·rw [if_neg c3] at H
    have c3b0 : decide (x8_1 < (l0.length : Int)) = false := decide_eq_false c3
    clear c3
    obtain rfl := Option.some.inj H
    go_wp2
    go_ret
    exact ⟨by first | rfl | (simp; done) | (simp [*]; done), by repeat (first | exact Drawn0.refl _ | apply Drawn0.step)⟩
end
end Go.Proofs.Ytbfialebaoeicaa.X
namespace Go.Proofs.Ytbfialebaoeicaa.X
open Go.RowKit Go.Proofs.YtbfialebaoeicaaW.PrintWords Go.Proofs.YtbfialebaoeicaaW.PrintLast Go.Proofs.YtbfialebaoeicaaW.PrintMore
attribute [local go_sem] max2_int min2_int max_two min_two max_three min_three max_four min_four
set_option linter.all false
noncomputable section
def slices_Contains_uint16_uint16.f (k : Nat) (l0 : List Int) (a1 : Int) : Option (Bool) := (slices_Index_uint16_uint16.f k l0 a1).bind fun t135 => (some (decide (t135 ≥ 0)))
theorem slices_Contains_uint16_uint16.mono : ∀ a0 a1 k, LeO (slices_Contains_uint16_uint16.f k a0 a1) (slices_Contains_uint16_uint16.f (k + 1) a0 a1) := by
 intro a0 a1 k
 unfold slices_Contains_uint16_uint16.f
 repeat' first
   | (with_reducible exact slices_Index_uint16_uint16.mono _ _ _)
   | (with_reducible exact LeO.refl _)
   | (with_reducible exact LeO.none _)
   | (with_reducible refine LeO.ite ?_ ?_)
   | (with_reducible refine LeO.bind ?_ (fun _ => ?_))
   | exact slices_Index_uint16_uint16.mono _ _ _
   | exact LeO.none _
   | refine LeO.ite ?_ ?_
   | refine LeO.bind ?_ (fun _ => ?_)
set_option maxHeartbeats 8000000 in
set_option maxRecDepth 100000 in
theorem slices_Contains_uint16_uint16.calls (k : Nat) (A0 : Option Addr) (c0 : Nat) (l0 : List Int) (a1 : Int) (r : Bool) (w : World) (hr0 : Kd.C (Kd.int .u16) w A0 l0.length l0) (hc0 : l0.length ≤ c0) (h : slices_Contains_uint16_uint16.f k l0 a1 = some r) :
  Calls Try.prog 75 #[.slice A0 l0.length c0, .int .u16 a1] w fun e w' => e = .returned (.bool r) ∧ Drawn0 w w' := by
 have HR0 := Aside0.mk hr0
 have HC0 := Aside0.mk hc0
 clear hr0 hc0
 have H : ((slices_Index_uint16_uint16.f k l0 a1).bind fun t135 => (some (decide (t135 ≥ 0)))) = some r := h
 clear h
 replace H := Option.bind_eq_some_iff.mp H
 obtain ⟨t135, A30, H⟩ := H
 replace H : (some (decide (t135 ≥ 0))) = some r := H
 have A3 := Aside0.mk A30
 clear A30
 obtain rfl := Option.some.inj H
 go_enter Try.func75, Try.ntmps75
 go_wp2_with (first | ((with_reducible refine gate_callee (f := 98) rfl ?_); refine goesL_ (some 7) rfl rfl Try.func98 (by kernel_rfl) rfl #[.slice A0 l0.length c0, .int .u16 a1] rfl (by (try simp only [List.map_toArray, List.map_cons, List.map_nil]); first | done | rfl | (simp only [List.length_drop, List.length_take]; rfl)) ?_; (with_reducible refine (slices_Index_uint16_uint16.calls k _ _ l0 a1 t135 _ ?side1 ?side2 A3.out).mono ?_); (case side1 => repeat (first | exact HR0.out | (with_reducible refine Kd.C_alloc ?_ _) | (with_reducible refine Kd.C_drewN ?_ _) | (with_reducible refine Kd.C_drew ?_))); (case side2 => exact HC0.out); rintro e w' ⟨rfl, ⟨nd, rfl⟩⟩; refine ⟨_, rfl, ?_⟩))
 go_ret
 exact ⟨by first | rfl | (simp; done) | (simp [*]; done), by repeat (first | exact Drawn0.refl _ | apply Drawn0.step)⟩
end
end Go.Proofs.Ytbfialebaoeicaa.X
namespace Go.Proofs.Ytbfialebaoeicaa.X
open Go.RowKit Go.Proofs.YtbfialebaoeicaaW.PrintWords Go.Proofs.YtbfialebaoeicaaW.PrintLast Go.Proofs.YtbfialebaoeicaaW.PrintMore
attribute [local go_sem] max2_int min2_int max_two min_two max_three min_three max_four min_four
set_option linter.all false
noncomputable section
def frame_Catches.f (k : Nat) (a0_0 : Int) (l0_1 : List Int) (a0_2 : Bool) (a0_3 : Bool) (a1 : Int) : Option (Bool) := if a0_2 = true then (some true) else ((slices_Contains_uint16_uint16.f k l0_1 a1).bind fun t137 => (some t137))
theorem frame_Catches.mono : ∀ a0 a1 a2 a3 a4 k, LeO (frame_Catches.f k a0 a1 a2 a3 a4) (frame_Catches.f (k + 1) a0 a1 a2 a3 a4) := by
 intro a0 a1 a2 a3 a4 k
 unfold frame_Catches.f
 repeat' first
   | (with_reducible exact slices_Contains_uint16_uint16.mono _ _ _)
   | (with_reducible exact LeO.refl _)
   | (with_reducible exact LeO.none _)
   | (with_reducible refine LeO.ite ?_ ?_)
   | (with_reducible refine LeO.bind ?_ (fun _ => ?_))
   | exact slices_Contains_uint16_uint16.mono _ _ _
   | exact LeO.none _
   | refine LeO.ite ?_ ?_
   | refine LeO.bind ?_ (fun _ => ?_)
set_option maxHeartbeats 8000000 in
set_option maxRecDepth 100000 in
theorem frame_Catches.calls (k : Nat) (a0_0 : Int) (A0_1 : Option Addr) (c0_1 : Nat) (l0_1 : List Int) (a0_2 : Bool) (a0_3 : Bool) (a1 : Int) (r : Bool) (w : World) (hr0_1 : Kd.C (Kd.int .u16) w A0_1 l0_1.length l0_1) (hc0_1 : l0_1.length ≤ c0_1) (h : frame_Catches.f k a0_0 l0_1 a0_2 a0_3 a1 = some r) :
  Calls Try.prog 31 #[.agg #[.int .i64 a0_0, .slice A0_1 l0_1.length c0_1, .bool a0_2, .bool a0_3], .int .u16 a1] w fun e w' => e = .returned (.bool r) ∧ Below w.heap.size w w' := by
 have hu35 := Try.underlying35
 have HR0_1 := Aside0.mk hr0_1
 have HC0_1 := Aside0.mk hc0_1
 clear hr0_1 hc0_1
 have HB := Aside0.mk (Below.refl w.heap.size w)
 have H : (if a0_2 = true then (some true) else ((slices_Contains_uint16_uint16.f k l0_1 a1).bind fun t137 => (some t137))) = some r := h
 clear h
 by_cases c3 : a0_2 = true
 ·subst c3
  have H1 : (some true) = some r := by rw [if_pos rfl] at H; exact H
  clear H
  have H := H1
  clear H1
  obtain rfl := Option.some.inj H
  go_enter Try.func31, Try.ntmps31
  go_wp2_with (first | ((with_reducible refine gate_dst (N := 2) rfl ?_); refine box_event ?hg (N := 2) ?hd (cs := #[.int .i64 a0_0, .slice A0_1 l0_1.length c0_1, .bool true, .bool a0_3]) (t := 35) ?hr ?_; (case hd => rfl); (case hg => rfl); (case hr => first | (go_simp; done) | (go_simp; rfl)); intro gb136 hg w4 hbox hb; have n0_ := Aside0.mk (below_step (by repeat (first | (with_reducible first | exact HB.out | apply below_alloc | apply pw_below_drewN | apply below_drew1) | exact HB.out)) hb); have n1_ := Aside0.mk (hbox); have n2_ := Aside0.mk ((by rw [hg]; exact (below_size (by repeat (first | (with_reducible first | exact HB.out | apply below_alloc | apply pw_below_drewN | apply below_drew1) | exact HB.out))) : w.heap.size ≤ gb136)); have n3_ := Aside0.mk ((by rw [hg]; exact (below_size (by repeat (first | (with_reducible first | exact HB.out | apply below_alloc | apply pw_below_drewN | apply below_drew1) | exact HB.out))) : w.heap.size ≤ gb136)); clear HB; have HB := n0_; have BK136 := n1_; have GW136 := n2_; have GE136 := n3_; clear n0_ n1_ n2_ n3_; clear hb hbox hg; have hcz5_0 : w4.cell? ⟨gb136, 0, none⟩ = some (.int .i64 a0_0) := (blk_cell BK136.out 0).trans rfl; have hcz5_1 : w4.cell? ⟨gb136, 1, none⟩ = some (.slice A0_1 l0_1.length c0_1) := (blk_cell BK136.out 1).trans rfl; have hcz5_2 : w4.cell? ⟨gb136, 2, none⟩ = some (.bool true) := (blk_cell BK136.out 2).trans rfl; have hcz5_3 : w4.cell? ⟨gb136, 3, none⟩ = some (.bool a0_3) := (blk_cell BK136.out 3).trans rfl; have hfz5_0 := blk_frozen BK136.out 0; have hfz5_1 := blk_frozen BK136.out 1; have hfz5_2 := blk_frozen BK136.out 2; have hfz5_3 := blk_frozen BK136.out 3))
  go_ret
  exact ⟨by first | rfl | (simp [errW_none, errW_some] <;> rfl) | (simp [*, errW_none, errW_some] <;> rfl), by repeat (first | (with_reducible first | exact HB.out | apply below_alloc | apply pw_below_drewN | apply below_drew1 | refine below_set ?_ GE136.out) | exact HB.out)⟩
 ·replace c3 := Bool.eq_false_iff.mpr c3
  subst c3
  have H1 : ((slices_Contains_uint16_uint16.f k l0_1 a1).bind fun t137 => (some t137)) = some r := by rw [if_neg (show ¬ (false = true) by decide)] at H; exact H
  clear H
  have H := H1
  clear H1
  replace H := Option.bind_eq_some_iff.mp H
  obtain ⟨t137, A60, H⟩ := H
  replace H : (some t137) = some r := H
  have A6 := Aside0.mk A60
  clear A60
  obtain rfl := Option.some.inj H
  go_enter Try.func31, Try.ntmps31
  go_wp2_with (first | ((with_reducible refine gate_dst (N := 2) rfl ?_); refine box_event ?hg (N := 2) ?hd (cs := #[.int .i64 a0_0, .slice A0_1 l0_1.length c0_1, .bool false, .bool a0_3]) (t := 35) ?hr ?_; (case hd => rfl); (case hg => rfl); (case hr => first | (go_simp; done) | (go_simp; rfl)); intro gb136 hg w7 hbox hb; have n0_ := Aside0.mk (below_step (by repeat (first | (with_reducible first | exact HB.out | apply below_alloc | apply pw_below_drewN | apply below_drew1) | exact HB.out)) hb); have n1_ := Aside0.mk (hbox); have n2_ := Aside0.mk ((by rw [hg]; exact (below_size (by repeat (first | (with_reducible first | exact HB.out | apply below_alloc | apply pw_below_drewN | apply below_drew1) | exact HB.out))) : w.heap.size ≤ gb136)); have n3_ := Aside0.mk ((by rw [hg]; exact (below_size (by repeat (first | (with_reducible first | exact HB.out | apply below_alloc | apply pw_below_drewN | apply below_drew1) | exact HB.out))) : w.heap.size ≤ gb136)); clear HB; have HB := n0_; have BK136 := n1_; have GW136 := n2_; have GE136 := n3_; clear n0_ n1_ n2_ n3_; clear hb hbox hg; have hcz8_0 : w7.cell? ⟨gb136, 0, none⟩ = some (.int .i64 a0_0) := (blk_cell BK136.out 0).trans rfl; have hcz8_1 : w7.cell? ⟨gb136, 1, none⟩ = some (.slice A0_1 l0_1.length c0_1) := (blk_cell BK136.out 1).trans rfl; have hcz8_2 : w7.cell? ⟨gb136, 2, none⟩ = some (.bool false) := (blk_cell BK136.out 2).trans rfl; have hcz8_3 : w7.cell? ⟨gb136, 3, none⟩ = some (.bool a0_3) := (blk_cell BK136.out 3).trans rfl; have hfz8_0 := blk_frozen BK136.out 0; have hfz8_1 := blk_frozen BK136.out 1; have hfz8_2 := blk_frozen BK136.out 2; have hfz8_3 := blk_frozen BK136.out 3) | (go_at_call 75; (with_reducible refine (slices_Contains_uint16_uint16.calls k _ _ l0_1 a1 t137 _ ?side1 ?side2 A6.out).mono ?_); (case side1 => repeat (first | exact (Kd.C_below HR0_1.out HB.out) | (with_reducible refine Kd.C_alloc ?_ _) | (with_reducible refine Kd.C_drewN ?_ _) | (with_reducible refine Kd.C_drew ?_))); (case side2 => exact HC0_1.out); rintro e w' ⟨rfl, ⟨nd, rfl⟩⟩))
  go_ret
  exact ⟨by first | rfl | (simp [errW_none, errW_some] <;> rfl) | (simp [*, errW_none, errW_some] <;> rfl), by repeat (first | (with_reducible first | exact HB.out | apply below_alloc | apply pw_below_drewN | apply below_drew1 | refine below_set ?_ GE136.out) | exact HB.out)⟩
end
end Go.Proofs.Ytbfialebaoeicaa.X
