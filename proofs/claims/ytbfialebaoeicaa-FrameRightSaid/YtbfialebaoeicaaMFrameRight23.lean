/- Part 24 of the proof of the statement FrameRight: the words of the walks, the walks through the functions that it reaches, and the plain laws of what they compute. -/
import Derived.Test.YtbfialebaoeicaaMFrameRight22
import Derived.RegionTactic
import Derived.ChangeAlike
import Derived.Deep.QuietTactic
import Derived.BigQuiet
namespace Go.Proofs.Ytbfialebaoeicaa.X
open Go.RowKit Go.Proofs.YtbfialebaoeicaaW.PrintWords Go.Proofs.YtbfialebaoeicaaW.PrintLast Go.Proofs.YtbfialebaoeicaaW.PrintMore
set_option linter.all false
def lfB (m : List S27) (F_ Bl At : Int) (l : List Int) (Fly pd v : Int) : Int := if lnB m F_ Bl At l.length pd = true then pd else Bl
def lfA (m : List S27) (F_ Bl At : Int) (l : List Int) (Fly pd v : Int) : Int := if lnB m F_ Bl At l.length pd = true then 0 else At
def lfL (m : List S27) (F_ Bl At : Int) (l : List Int) (Fly pd v : Int) : List Int := if lnB m F_ Bl At l.length pd = true then l.set (lnD m F_ pd).toNat v else l
def lfY (m : List S27) (F_ Bl At : Int) (l : List Int) (Fly pd v : Int) : Int := if lnB m F_ Bl At l.length pd = true then v else Fly
def lfE (m : List S27) (F_ Bl At : Int) (l : List Int) (Fly pd v : Int) : Int := if lnB m F_ Bl At l.length pd = true then 0 else 1
theorem lfL_len (m : List S27) (F_ Bl At : Int) (l : List Int) (Fly pd v : Int) : (lfL m F_ Bl At l Fly pd v).length = l.length := by
 unfold lfL
 split <;> simp
theorem lf_no {m : List S27} {F_ Bl At : Int} {l : List Int} (Fly : Int) {pd : Int} (v : Int) (h : frR m F_ Bl At l.length = false) : lfB m F_ Bl At l Fly pd v = Bl ∧ lfA m F_ Bl At l Fly pd v = At ∧ lfL m F_ Bl At l Fly pd v = l ∧ lfY m F_ Bl At l Fly pd v = Fly ∧ lfE m F_ Bl At l Fly pd v = 1 := by
 have h2 : lnB m F_ Bl At l.length pd = false := by unfold lnB; rw [h]; rfl
 unfold lfB lfA lfL lfY lfE
 rw [h2]
 exact ⟨rfl, rfl, rfl, rfl, rfl⟩
theorem lf_right {m : List S27} {F_ Bl At : Int} {l : List Int} (Fly : Int) {pd : Int} (v : Int) (h : frR m F_ Bl At l.length = true) : frR m F_ (lfB m F_ Bl At l Fly pd v) (lfA m F_ Bl At l Fly pd v) (lfL m F_ Bl At l Fly pd v).length = true := by
 rw [lfL_len]
 unfold lfB lfA
 by_cases h2 : lnB m F_ Bl At l.length pd = true
 ·rw [if_pos h2, if_pos h2]
  unfold lnB at h2
  simp only [Bool.and_eq_true] at h2
  have h3 := win_at h2.1.2
  exact frR_mk h h3.1 h3.2
 ·rw [if_neg h2, if_neg h2]
  exact h
def onF (m : List S27) (n : Int) (l : List Int) : Int × List Int × Int := if okN m n l = true then (n, newR m n l, 0) else (0, [], 1)
theorem onF_eq {m : List S27} (h : rightR m = true) (n : Int) (l : List Int) : onF m n l = nwF m n l := by
 unfold onF nwF
 rw [nwB_eq h]
theorem onF_no {m : List S27} (h : rightR m = false) (n : Int) (l : List Int) : onF m n l = (0, [], 1) := by
 unfold onF okN okF
 rw [h]
 rfl
theorem onF_len {m : List S27} (h : rightR m = true) (n : Int) (l : List Int) : (onF m n l).2.1.length ≤ 1000000 := by
 unfold onF
 split
 ·rename_i hk
  have hk2 := hk
  unfold okN at hk2
  rw [Bool.and_eq_true, decide_eq_true_eq] at hk2
  have hs := okF_size hk2.1
  show (newR m n l).length ≤ 1000000
  unfold newR
  simp
  omega
 ·show ([] : List Int).length ≤ 1000000
  simp
theorem fr_no {m : List S27} (h : rightR m = false) (F_ Bl At k : Int) : frR m F_ Bl At k = false := by
 unfold frR okF
 rw [h]
 rfl
theorem new2_c (m : List S27) (A0 : Option Addr) (c0 : Nat) (n : Int) (A2 : Option Addr) (c2 : Nat) (l : List Int) (w : World) (hm : Kd.C k27 w A0 m.length m) (hb : Bnd m) (hl : Kd.C (Kd.int .u16) w A2 l.length l) :
  Calls Try.prog 34 #[.agg #[.slice A0 m.length c0], .int .i64 n, .slice A2 l.length c2] w fun e w' => (∃ Ao co, e = .returned (.tuple #[.agg #[.int .i64 (onF m n l).1, .int .i64 0, .int .i64 0, .slice Ao (onF m n l).2.1.length co, .int .u16 0], .int .i64 (onF m n l).2.2]) ∧ (onF m n l).2.1.length ≤ co ∧ Kd.C (Kd.int .u16) w' Ao (onF m n l).2.1.length (onF m n l).2.1) ∧ Below w.heap.size w w' := by
 refine (new_l m A0 c0 n A2 c2 l w hm hb hl).mono ?_
 rintro e w' ⟨h, hb⟩
 refine ⟨?_, hb⟩
 rcases h with ⟨h1, rfl⟩ | ⟨h1, v, rfl, hr⟩
 ·have : onF m n l = (0, [], 1) := by unfold onF; rw [h1]; rfl
  rw [this]
  exact ⟨none, 0, rfl, Nat.le_refl _, nilu_C⟩
 ·have : onF m n l = (n, newR m n l, 0) := by unfold onF; rw [h1]; rfl
  rw [this]
  obtain ⟨Ao, co, rfl, hlo, hC⟩ := Kd.R_reads hr
  exact ⟨Ao, co, rfl, hlo, hC⟩
theorem rnew2 (m : List S27) (A0 : Option Addr) (c0 : Nat) (n : Int) (A2 : Option Addr) (c2 : Nat) (l : List Int) (w : World) (hr : rightR m = true) (hm : Kd.C k27 w A0 m.length m) (hc0 : m.length ≤ c0) (hl : Kd.C (Kd.int .u16) w A2 l.length l) (hc2 : l.length ≤ c2) :
  Calls Try.prog 37 #[.agg #[.slice A0 m.length c0], .int .i64 n, .slice A2 l.length c2] w fun e w' => (∃ Ao co, e = .returned (.tuple #[.agg #[.int .i64 (onF m n l).1, .int .i64 0, .int .i64 0, .slice Ao (onF m n l).2.1.length co, .int .u16 0], .int .i64 (onF m n l).2.2]) ∧ (onF m n l).2.1.length ≤ co ∧ Kd.C (Kd.int .u16) w' Ao (onF m n l).2.1.length (onF m n l).2.1) ∧ Below w.heap.size w w' := by
 rw [onF_eq hr]
 exact rnew_c m A0 c0 n A2 c2 l w hr hm hc0 hl hc2
def LfA (m : List S27) (F_ Bl At : Int) (l : List Int) (Fly pd v : Int) (w' : World) (e : Ending) : Prop := ∃ Ao co, e = .returned (.tuple #[.agg #[.int .i64 F_, .int .i64 (lfB m F_ Bl At l Fly pd v), .int .i64 (lfA m F_ Bl At l Fly pd v), .slice Ao (lfL m F_ Bl At l Fly pd v).length co, .int .u16 (lfY m F_ Bl At l Fly pd v)], .int .i64 (lfE m F_ Bl At l Fly pd v)]) ∧ (lfL m F_ Bl At l Fly pd v).length ≤ co ∧ Kd.C (Kd.int .u16) w' Ao (lfL m F_ Bl At l Fly pd v).length (lfL m F_ Bl At l Fly pd v)
theorem land2_c (m : List S27) (A0 : Option Addr) (c0 : Nat) (F_ Bl At : Int) (A3 : Option Addr) (c3 : Nat) (l : List Int) (Fly : Int) (pd v : Int) (w : World) (hm : Kd.C k27 w A0 m.length m) (hb : Bnd m) (hl : Kd.C (Kd.int .u16) w A3 l.length l) (hc3 : l.length ≤ c3) (hm1 : l.length ≤ 1000) :
  Calls Try.prog 35 #[.agg #[.slice A0 m.length c0], .agg #[.int .i64 F_, .int .i64 Bl, .int .i64 At, .slice A3 l.length c3, .int .u16 Fly], .int .i64 pd, .int .u16 v] w fun e w' => LfA m F_ Bl At l Fly pd v w' e ∧ Below w.heap.size w w' := by
 refine (land_c m A0 c0 F_ Bl At A3 c3 l Fly pd v w hm hb hl hc3 hm1).mono ?_
 rintro e w' ⟨h, hb⟩
 refine ⟨?_, hb⟩
 unfold LfA lfB lfA lfL lfY lfE
 rcases h with ⟨h1, Ao, co, rfl, hlo, hr⟩ | ⟨h1, Ao, co, rfl, hlo, hr⟩
 ·rw [h1]
  exact ⟨Ao, co, rfl, hlo, (Kd.R_reads' hr).2.2⟩
 ·rw [h1, if_pos rfl, if_pos rfl, if_pos rfl, if_pos rfl, if_pos rfl]
  have h2 := (Kd.R_reads' hr).2.2
  exact ⟨Ao, co, by rw [List.length_set], by rw [List.length_set]; exact hlo, h2⟩
theorem rland2_c (m : List S27) (A0 : Option Addr) (c0 : Nat) (F_ Bl At : Int) (A3 : Option Addr) (c3 : Nat) (l : List Int) (Fly : Int) (pd v : Int) (w : World) (hm : Kd.C k27 w A0 m.length m) (hl : Kd.C (Kd.int .u16) w A3 l.length l) (hc3 : l.length ≤ c3) (hm1 : l.length ≤ 1000) (hfr : frR m F_ Bl At l.length = true) :
  Calls Try.prog 39 #[.agg #[.slice A0 m.length c0], .agg #[.int .i64 F_, .int .i64 Bl, .int .i64 At, .slice A3 l.length c3, .int .u16 Fly], .int .i64 pd, .int .u16 v] w fun e w' => LfA m F_ Bl At l Fly pd v w' e ∧ Below w.heap.size w w' := by
 refine (rland_c m A0 c0 F_ Bl At A3 c3 l Fly pd v w hm hl hc3 hm1 hfr).mono ?_
 rintro e w' ⟨h, hb⟩
 refine ⟨?_, hb⟩
 unfold LfA lfB lfA lfL lfY lfE
 rcases h with ⟨h1, rfl⟩ | ⟨h1, Ao, co, rfl, hlo, hr⟩
 ·rw [h1]
  exact ⟨A3, c3, rfl, hc3, Kd.C_below hl hb⟩
 ·rw [h1, if_pos rfl, if_pos rfl, if_pos rfl, if_pos rfl, if_pos rfl]
  exact ⟨Ao, co, by rw [List.length_set], by rw [List.length_set]; exact hlo, by rw [List.length_set]; exact hr⟩
set_option maxHeartbeats 16000000 in
set_option maxRecDepth 100000 in
theorem right_law (m : List S27) (A0 : Option Addr) (c0 : Nat) (F_ Bl At : Int) (A3 : Option Addr) (c3 : Nat) (l : List Int) (Fly : Int) (n : Int) (A2 : Option Addr) (c2 : Nat) (l2 : List Int) (pd v : Int) (w : World) (hm : Kd.C k27 w A0 m.length m) (hc0 : m.length ≤ c0) (hl : Kd.C (Kd.int .u16) w A3 l.length l) (hc3 : l.length ≤ c3) (hl2 : Kd.C (Kd.int .u16) w A2 l2.length l2) (hc2 : l2.length ≤ c2) :
  Calls Try.prog 8 #[.agg #[.slice A0 m.length c0], .agg #[.int .i64 F_, .int .i64 Bl, .int .i64 At, .slice A3 l.length c3, .int .u16 Fly], .int .i64 n, .slice A2 l2.length c2, .int .i64 pd, .int .u16 v] w fun e w' => e = .returned (.bool true) ∧ Below w.heap.size w w' := by
 have HM := Aside0.mk hm
 have HC0 := Aside0.mk hc0
 have HL := Aside0.mk hl
 have HC3 := Aside0.mk hc3
 have HL2 := Aside0.mk hl2
 have HC2 := Aside0.mk hc2
 clear hm hc0 hl hc3 hl2 hc2
 have hu24 := Try.underlying24
 have hu27 := Try.underlying27
 have hu55 := Try.underlying55
 obtain ⟨sh, hs1, hs2⟩ := short_c m
 have HSH := Aside0.mk hs2
 clear hs2
 cases sh with
 | false =>
  go_enter Try.func8, Try.ntmps8
  go_wp2_with (first | ((with_reducible refine gate_dst (N := 6) rfl ?_); refine box_event ?hg (N := 6) ?hd (cs := #[.slice A0 m.length c0]) (t := 24) ?hr ?_; (case hd => rfl); (case hg => rfl); (case hr => first | (go_simp; done) | (go_simp; rfl)); intro g6 hg w6 hbox hb; have HB := Aside0.mk hb; have X6 := Aside0.mk hbox; clear hbox hb hg) | ((with_reducible refine gate_dst (N := 7) rfl ?_); refine box_event ?hg (N := 7) ?hd (cs := #[.int .i64 F_, .int .i64 Bl, .int .i64 At, .slice A3 l.length c3, .int .u16 Fly]) (t := 55) ?hr ?_; (case hd => rfl); (case hg => rfl); (case hr => first | (go_simp; done) | (go_simp; rfl)); intro g7 hg w7 hbox hb; have n0_ := Aside0.mk (below_step HB.out hb); have n1_ := Aside0.mk (blk_below X6.out hb); clear HB X6; have HB := n0_; have X6 := n1_; clear n0_ n1_; have X7 := Aside0.mk hbox; clear hbox hb hg; have k0 := (blk_cell X6.out 0).trans rfl; have h0 := (blk_cell X7.out 0).trans rfl; have h1 := (blk_cell X7.out 1).trans rfl; have h2 := (blk_cell X7.out 2).trans rfl; have h3 := (blk_cell X7.out 3).trans rfl; have h4 := (blk_cell X7.out 4).trans rfl) | (go_at_call 27; (with_reducible refine (awake5_c _).mono ?_); rintro e w8 ⟨rfl, hb⟩; clear k0 h0 h1 h2 h3 h4; have n0_ := Aside0.mk (below_step HB.out hb); have n1_ := Aside0.mk (blk_below X6.out hb); have n2_ := Aside0.mk (blk_below X7.out hb); clear HB X6 X7; have HB := n0_; have X6 := n1_; have X7 := n2_; clear n0_ n1_ n2_; clear hb; have k0 := (blk_cell X6.out 0).trans rfl; have h0 := (blk_cell X7.out 0).trans rfl; have h1 := (blk_cell X7.out 1).trans rfl; have h2 := (blk_cell X7.out 2).trans rfl; have h3 := (blk_cell X7.out 3).trans rfl; have h4 := (blk_cell X7.out 4).trans rfl) | (go_at_call 15; (with_reducible refine (HSH.out A0 c0 _ (Kd.C_below HM.out HB.out) HC0.out).mono ?_); rintro e w8 ⟨rfl, hb⟩; clear k0 h0 h1 h2 h3 h4; have n0_ := Aside0.mk (below_step HB.out hb); have n1_ := Aside0.mk (blk_below X6.out hb); have n2_ := Aside0.mk (blk_below X7.out hb); clear HB X6 X7; have HB := n0_; have X6 := n1_; have X7 := n2_; clear n0_ n1_ n2_; clear hb; have k0 := (blk_cell X6.out 0).trans rfl; have h0 := (blk_cell X7.out 0).trans rfl; have h1 := (blk_cell X7.out 1).trans rfl; have h2 := (blk_cell X7.out 2).trans rfl; have h3 := (blk_cell X7.out 3).trans rfl; have h4 := (blk_cell X7.out 4).trans rfl))
  go_ret
  exact ⟨rfl, HB.out⟩
 | true =>
  have HBND := Aside0.mk (Sh.bnd (hs1 rfl))
  clear hs1
  by_cases q1 : (300 : Int) < (l.length : Int)
  ·have dq1 : decide ((300 : Int) < (l.length : Int)) = true := decide_eq_true q1
   have eq1 : decide (300 < l.length) = true := decide_eq_true (by omega)
   clear q1
   go_enter Try.func8, Try.ntmps8
   go_wp2_with (first | ((with_reducible refine gate_dst (N := 6) rfl ?_); refine box_event ?hg (N := 6) ?hd (cs := #[.slice A0 m.length c0]) (t := 24) ?hr ?_; (case hd => rfl); (case hg => rfl); (case hr => first | (go_simp; done) | (go_simp; rfl)); intro g6 hg w6 hbox hb; have HB := Aside0.mk hb; have X6 := Aside0.mk hbox; clear hbox hb hg) | ((with_reducible refine gate_dst (N := 7) rfl ?_); refine box_event ?hg (N := 7) ?hd (cs := #[.int .i64 F_, .int .i64 Bl, .int .i64 At, .slice A3 l.length c3, .int .u16 Fly]) (t := 55) ?hr ?_; (case hd => rfl); (case hg => rfl); (case hr => first | (go_simp; done) | (go_simp; rfl)); intro g7 hg w7 hbox hb; have n0_ := Aside0.mk (below_step HB.out hb); have n1_ := Aside0.mk (blk_below X6.out hb); clear HB X6; have HB := n0_; have X6 := n1_; clear n0_ n1_; have X7 := Aside0.mk hbox; clear hbox hb hg; have k0 := (blk_cell X6.out 0).trans rfl; have h0 := (blk_cell X7.out 0).trans rfl; have h1 := (blk_cell X7.out 1).trans rfl; have h2 := (blk_cell X7.out 2).trans rfl; have h3 := (blk_cell X7.out 3).trans rfl; have h4 := (blk_cell X7.out 4).trans rfl) | (go_at_call 27; (with_reducible refine (awake5_c _).mono ?_); rintro e w8 ⟨rfl, hb⟩; clear k0 h0 h1 h2 h3 h4; have n0_ := Aside0.mk (below_step HB.out hb); have n1_ := Aside0.mk (blk_below X6.out hb); have n2_ := Aside0.mk (blk_below X7.out hb); clear HB X6 X7; have HB := n0_; have X6 := n1_; have X7 := n2_; clear n0_ n1_ n2_; clear hb; have k0 := (blk_cell X6.out 0).trans rfl; have h0 := (blk_cell X7.out 0).trans rfl; have h1 := (blk_cell X7.out 1).trans rfl; have h2 := (blk_cell X7.out 2).trans rfl; have h3 := (blk_cell X7.out 3).trans rfl; have h4 := (blk_cell X7.out 4).trans rfl) | (go_at_call 15; (with_reducible refine (HSH.out A0 c0 _ (Kd.C_below HM.out HB.out) HC0.out).mono ?_); rintro e w8 ⟨rfl, hb⟩; clear k0 h0 h1 h2 h3 h4; have n0_ := Aside0.mk (below_step HB.out hb); have n1_ := Aside0.mk (blk_below X6.out hb); have n2_ := Aside0.mk (blk_below X7.out hb); clear HB X6 X7; have HB := n0_; have X6 := n1_; have X7 := n2_; clear n0_ n1_ n2_; clear hb; have k0 := (blk_cell X6.out 0).trans rfl; have h0 := (blk_cell X7.out 0).trans rfl; have h1 := (blk_cell X7.out 1).trans rfl; have h2 := (blk_cell X7.out 2).trans rfl; have h3 := (blk_cell X7.out 3).trans rfl; have h4 := (blk_cell X7.out 4).trans rfl))
   go_ret
   exact ⟨rfl, HB.out⟩
  have dq1 : decide ((300 : Int) < (l.length : Int)) = false := decide_eq_false q1
  have eq1 : decide (300 < l.length) = false := decide_eq_false (by omega)
  by_cases q2 : (20 : Int) < (l2.length : Int)
  ·have dq2 : decide ((20 : Int) < (l2.length : Int)) = true := decide_eq_true q2
   have eq2 : decide (20 < l2.length) = true := decide_eq_true (by omega)
   clear q2
   go_enter Try.func8, Try.ntmps8
   go_wp2_with (first | ((with_reducible refine gate_dst (N := 6) rfl ?_); refine box_event ?hg (N := 6) ?hd (cs := #[.slice A0 m.length c0]) (t := 24) ?hr ?_; (case hd => rfl); (case hg => rfl); (case hr => first | (go_simp; done) | (go_simp; rfl)); intro g6 hg w6 hbox hb; have HB := Aside0.mk hb; have X6 := Aside0.mk hbox; clear hbox hb hg) | ((with_reducible refine gate_dst (N := 7) rfl ?_); refine box_event ?hg (N := 7) ?hd (cs := #[.int .i64 F_, .int .i64 Bl, .int .i64 At, .slice A3 l.length c3, .int .u16 Fly]) (t := 55) ?hr ?_; (case hd => rfl); (case hg => rfl); (case hr => first | (go_simp; done) | (go_simp; rfl)); intro g7 hg w7 hbox hb; have n0_ := Aside0.mk (below_step HB.out hb); have n1_ := Aside0.mk (blk_below X6.out hb); clear HB X6; have HB := n0_; have X6 := n1_; clear n0_ n1_; have X7 := Aside0.mk hbox; clear hbox hb hg; have k0 := (blk_cell X6.out 0).trans rfl; have h0 := (blk_cell X7.out 0).trans rfl; have h1 := (blk_cell X7.out 1).trans rfl; have h2 := (blk_cell X7.out 2).trans rfl; have h3 := (blk_cell X7.out 3).trans rfl; have h4 := (blk_cell X7.out 4).trans rfl) | (go_at_call 27; (with_reducible refine (awake5_c _).mono ?_); rintro e w8 ⟨rfl, hb⟩; clear k0 h0 h1 h2 h3 h4; have n0_ := Aside0.mk (below_step HB.out hb); have n1_ := Aside0.mk (blk_below X6.out hb); have n2_ := Aside0.mk (blk_below X7.out hb); clear HB X6 X7; have HB := n0_; have X6 := n1_; have X7 := n2_; clear n0_ n1_ n2_; clear hb; have k0 := (blk_cell X6.out 0).trans rfl; have h0 := (blk_cell X7.out 0).trans rfl; have h1 := (blk_cell X7.out 1).trans rfl; have h2 := (blk_cell X7.out 2).trans rfl; have h3 := (blk_cell X7.out 3).trans rfl; have h4 := (blk_cell X7.out 4).trans rfl) | (go_at_call 15; (with_reducible refine (HSH.out A0 c0 _ (Kd.C_below HM.out HB.out) HC0.out).mono ?_); rintro e w8 ⟨rfl, hb⟩; clear k0 h0 h1 h2 h3 h4; have n0_ := Aside0.mk (below_step HB.out hb); have n1_ := Aside0.mk (blk_below X6.out hb); have n2_ := Aside0.mk (blk_below X7.out hb); clear HB X6 X7; have HB := n0_; have X6 := n1_; have X7 := n2_; clear n0_ n1_ n2_; clear hb; have k0 := (blk_cell X6.out 0).trans rfl; have h0 := (blk_cell X7.out 0).trans rfl; have h1 := (blk_cell X7.out 1).trans rfl; have h2 := (blk_cell X7.out 2).trans rfl; have h3 := (blk_cell X7.out 3).trans rfl; have h4 := (blk_cell X7.out 4).trans rfl))
   go_ret
   exact ⟨rfl, HB.out⟩
  have dq2 : decide ((20 : Int) < (l2.length : Int)) = false := decide_eq_false q2
  have eq2 : decide (20 < l2.length) = false := decide_eq_false (by omega)
  have HN := Aside0.mk (show l.length ≤ 300 by omega)
  clear q1 q2
  go_enter Try.func8, Try.ntmps8
  go_upto_region 5 with (first | ((with_reducible refine gate_dst (N := 6) rfl ?_); refine box_event ?hg (N := 6) ?hd (cs := #[.slice A0 m.length c0]) (t := 24) ?hr ?_; (case hd => rfl); (case hg => rfl); (case hr => first | (go_simp; done) | (go_simp; rfl)); intro g6 hg w6 hbox hb; have HB := Aside0.mk hb; have X6 := Aside0.mk hbox; clear hbox hb hg) | ((with_reducible refine gate_dst (N := 7) rfl ?_); refine box_event ?hg (N := 7) ?hd (cs := #[.int .i64 F_, .int .i64 Bl, .int .i64 At, .slice A3 l.length c3, .int .u16 Fly]) (t := 55) ?hr ?_; (case hd => rfl); (case hg => rfl); (case hr => first | (go_simp; done) | (go_simp; rfl)); intro g7 hg w7 hbox hb; have n0_ := Aside0.mk (below_step HB.out hb); have n1_ := Aside0.mk (blk_below X6.out hb); clear HB X6; have HB := n0_; have X6 := n1_; clear n0_ n1_; have X7 := Aside0.mk hbox; clear hbox hb hg; have k0 := (blk_cell X6.out 0).trans rfl; have h0 := (blk_cell X7.out 0).trans rfl; have h1 := (blk_cell X7.out 1).trans rfl; have h2 := (blk_cell X7.out 2).trans rfl; have h3 := (blk_cell X7.out 3).trans rfl; have h4 := (blk_cell X7.out 4).trans rfl) | (go_at_call 27; (with_reducible refine (awake5_c _).mono ?_); rintro e w8 ⟨rfl, hb⟩; clear k0 h0 h1 h2 h3 h4; have n0_ := Aside0.mk (below_step HB.out hb); have n1_ := Aside0.mk (blk_below X6.out hb); have n2_ := Aside0.mk (blk_below X7.out hb); clear HB X6 X7; have HB := n0_; have X6 := n1_; have X7 := n2_; clear n0_ n1_ n2_; clear hb; have k0 := (blk_cell X6.out 0).trans rfl; have h0 := (blk_cell X7.out 0).trans rfl; have h1 := (blk_cell X7.out 1).trans rfl; have h2 := (blk_cell X7.out 2).trans rfl; have h3 := (blk_cell X7.out 3).trans rfl; have h4 := (blk_cell X7.out 4).trans rfl) | (go_at_call 15; (with_reducible refine (HSH.out A0 c0 _ (Kd.C_below HM.out HB.out) HC0.out).mono ?_); rintro e w8 ⟨rfl, hb⟩; clear k0 h0 h1 h2 h3 h4; have n0_ := Aside0.mk (below_step HB.out hb); have n1_ := Aside0.mk (blk_below X6.out hb); have n2_ := Aside0.mk (blk_below X7.out hb); clear HB X6 X7; have HB := n0_; have X6 := n1_; have X7 := n2_; clear n0_ n1_ n2_; clear hb; have k0 := (blk_cell X6.out 0).trans rfl; have h0 := (blk_cell X7.out 0).trans rfl; have h1 := (blk_cell X7.out 1).trans rfl; have h2 := (blk_cell X7.out 2).trans rfl; have h3 := (blk_cell X7.out 3).trans rfl; have h4 := (blk_cell X7.out 4).trans rfl))
  go_cut [13, 14] (fun v13 v14 wc => ∃ (g13 : Nat) (A13 : Option Addr) (co13 : Nat), v13 = .pointer (some ⟨g13, 0, none⟩) ∧ v14 = .int .i64 (onF m n l2).2.2 ∧ Aside0 (wc.heap[g13]? = some (.cells #[.int .i64 (onF m n l2).1, .int .i64 0, .int .i64 0, .slice A13 (onF m n l2).2.1.length co13, .int .u16 0] 55 (0, 0))) ∧ Aside0 ((onF m n l2).2.1.length ≤ co13) ∧ Aside0 (Kd.C (Kd.int .u16) wc A13 (onF m n l2).2.1.length (onF m n l2).2.1) ∧ Aside0 (Below w.heap.size w wc) ∧ Aside0 (wc.heap[g6]? = some (.cells #[.slice A0 m.length c0] 24 (0, 0))) ∧ Aside0 (wc.heap[g7]? = some (.cells #[.int .i64 F_, .int .i64 Bl, .int .i64 At, .slice A3 l.length c3, .int .u16 Fly] 55 (0, 0))))
  case first =>
   go_wp2_with (go_at_call 34; ((with_reducible refine (new2_c m A0 c0 n A2 c2 l2 _ (Kd.C_below HM.out HB.out) HBND.out (Kd.C_below HL2.out HB.out)).mono ?_); rintro e w9 ⟨⟨Ao, co, rfl, hlo, hr⟩, hb⟩; have HLO := Aside0.mk hlo; have HRO := Aside0.mk hr; have HB9 := Aside0.mk hb; clear hlo hr hb))
   go_meet
   exact ⟨_, _, _, rfl, rfl, ⟨blk_new _ _⟩, HLO, ⟨Kd.C_below HRO.out (below_alloc (Below.refl _ _) _)⟩, ⟨HB.out.trans ((below_alloc HB9.out _).mono HB.out.size)⟩, ⟨blk_below X6.out (below_alloc HB9.out _)⟩, ⟨blk_below X7.out (below_alloc HB9.out _)⟩⟩
  case rest =>
   clear k0 h0 h1 h2 h3 h4
   clear HB X6 X7
   obtain ⟨g13, A13, co13, rfl, rfl, X13, HLO13, R13, HB, X6, X7⟩ := hcut
   have k0 := (blk_cell X6.out 0).trans rfl
   have h0 := (blk_cell X7.out 0).trans rfl
   have h1 := (blk_cell X7.out 1).trans rfl
   have h2 := (blk_cell X7.out 2).trans rfl
   have h3 := (blk_cell X7.out 3).trans rfl
   have h4 := (blk_cell X7.out 4).trans rfl
   clear dq1 eq1 dq2 eq2
   go_upto_region 6 with (fail)
   go_cut [15, 16] (fun v15 v16 wc => ∃ (g15 : Nat) (A15 : Option Addr) (co15 : Nat), v15 = .pointer (some ⟨g15, 0, none⟩) ∧ v16 = .int .i64 (lfE m F_ Bl At l Fly pd v) ∧ Aside0 (wc.heap[g15]? = some (.cells #[.int .i64 F_, .int .i64 (lfB m F_ Bl At l Fly pd v), .int .i64 (lfA m F_ Bl At l Fly pd v), .slice A15 (lfL m F_ Bl At l Fly pd v).length co15, .int .u16 (lfY m F_ Bl At l Fly pd v)] 55 (0, 0))) ∧ Aside0 ((lfL m F_ Bl At l Fly pd v).length ≤ co15) ∧ Aside0 (Kd.C (Kd.int .u16) wc A15 (lfL m F_ Bl At l Fly pd v).length (lfL m F_ Bl At l Fly pd v)) ∧ Aside0 (Below w.heap.size w wc) ∧ Aside0 (wc.heap[g6]? = some (.cells #[.slice A0 m.length c0] 24 (0, 0))) ∧ Aside0 (wc.heap[g7]? = some (.cells #[.int .i64 F_, .int .i64 Bl, .int .i64 At, .slice A3 l.length c3, .int .u16 Fly] 55 (0, 0))) ∧ Aside0 (wc.heap[g13]? = some (.cells #[.int .i64 (onF m n l2).1, .int .i64 0, .int .i64 0, .slice A13 (onF m n l2).2.1.length co13, .int .u16 0] 55 (0, 0))) ∧ Aside0 (Kd.C (Kd.int .u16) wc A13 (onF m n l2).2.1.length (onF m n l2).2.1))
   case first =>
    go_wp2_with (go_at_call 35; ((with_reducible refine (land2_c m A0 c0 F_ Bl At A3 c3 l Fly pd v _ (Kd.C_below HM.out HB.out) HBND.out (Kd.C_below HL.out HB.out) HC3.out (by have := HN.out; omega)).mono ?_); rintro e w9 ⟨⟨Ao, co, rfl, hlo, hr⟩, hb⟩; have HLO := Aside0.mk hlo; have HRO := Aside0.mk hr; have HB9 := Aside0.mk hb; clear hlo hr hb))
    go_meet
    exact ⟨_, _, _, rfl, rfl, ⟨blk_new _ _⟩, HLO, ⟨Kd.C_below HRO.out (below_alloc (Below.refl _ _) _)⟩, ⟨HB.out.trans ((below_alloc HB9.out _).mono HB.out.size)⟩, ⟨blk_below X6.out (below_alloc HB9.out _)⟩, ⟨blk_below X7.out (below_alloc HB9.out _)⟩, ⟨blk_below X13.out (below_alloc HB9.out _)⟩, ⟨Kd.C_below R13.out (below_alloc HB9.out _)⟩⟩
   case rest =>
    clear k0 h0 h1 h2 h3 h4
    clear HB X6 X7 X13 R13
    obtain ⟨g15, A15, co15, rfl, rfl, X15, HLO15, R15, HB, X6, X7, X13, R13⟩ := hcut
    have k0 := (blk_cell X6.out 0).trans rfl
    have h0 := (blk_cell X7.out 0).trans rfl
    have h1 := (blk_cell X7.out 1).trans rfl
    have h2 := (blk_cell X7.out 2).trans rfl
    have h3 := (blk_cell X7.out 3).trans rfl
    have h4 := (blk_cell X7.out 4).trans rfl
    cases hrr : rightR m with
    | false =>
     have hfr := fr_no hrr F_ Bl At l.length
     have HZ := Aside0.mk (lf_no (pd := pd) Fly v hfr)
     rw [HZ.out.1, HZ.out.2.1, HZ.out.2.2.1, HZ.out.2.2.2.1] at X15
     rw [HZ.out.2.2.1] at R15 HLO15
     rw [HZ.out.2.2.2.2]
     have HY := Aside0.mk (onF_no hrr n l2)
     rw [HY.out] at X13 R13 HLO13
     rw [HY.out]
     have sa0 := (blk_cell X13.out 0).trans rfl
     have sa1 := (blk_cell X13.out 1).trans rfl
     have sa2 := (blk_cell X13.out 2).trans rfl
     have sa3 := (blk_cell X13.out 3).trans rfl
     have sa4 := (blk_cell X13.out 4).trans rfl
     have sb0 := (blk_cell X15.out 0).trans rfl
     have sb1 := (blk_cell X15.out 1).trans rfl
     have sb2 := (blk_cell X15.out 2).trans rfl
     have sb3 := (blk_cell X15.out 3).trans rfl
     have sb4 := (blk_cell X15.out 4).trans rfl
     have HS1 := Aside0.mk (show ∀ W : World, Kd.C (Kd.int .u16) W A13 ([] : List Int).length [] → Calls Try.prog 29 #[.agg #[.int .i64 0, .int .i64 0, .int .i64 0, .slice A13 0 co13, .int .u16 0], .agg #[.int .i64 0, .int .i64 0, .int .i64 0, .slice none 0 0, .int .u16 0]] W fun e w' => e = .returned (.bool true) ∧ Below W.heap.size W w' by
      intro W hW
      have h_ := same5_c 0 0 0 A13 co13 [] 0 0 0 0 none 0 [] 0 W hW HLO13.out nilu_C (Nat.le_refl _) (by simp)
      rw [sameW_refl] at h_
      exact h_)
     go_wp2_with (first | (go_at_call 17; ((with_reducible refine (right_c m A0 c0 _ (Kd.C_below HM.out HB.out) HBND.out).mono ?_); rintro e w9 ⟨he, hb⟩; rw [hrr] at he; subst he; clear k0 h0 h1 h2 h3 h4 sa0 sa1 sa2 sa3 sa4 sb0 sb1 sb2 sb3 sb4; have n0_ := Aside0.mk (below_step HB.out hb); have n1_ := Aside0.mk (blk_below X6.out hb); have n2_ := Aside0.mk (blk_below X7.out hb); have n3_ := Aside0.mk (blk_below X13.out hb); have n4_ := Aside0.mk (blk_below X15.out hb); have n5_ := Aside0.mk (Kd.C_below R13.out hb); have n6_ := Aside0.mk (Kd.C_below R15.out hb); clear HB X6 X7 X13 X15 R13 R15; have HB := n0_; have X6 := n1_; have X7 := n2_; have X13 := n3_; have X15 := n4_; have R13 := n5_; have R15 := n6_; clear n0_ n1_ n2_ n3_ n4_ n5_ n6_; clear hb; have k0 := (blk_cell X6.out 0).trans rfl; have h0 := (blk_cell X7.out 0).trans rfl; have h1 := (blk_cell X7.out 1).trans rfl; have h2 := (blk_cell X7.out 2).trans rfl; have h3 := (blk_cell X7.out 3).trans rfl; have h4 := (blk_cell X7.out 4).trans rfl; have sa0 := (blk_cell X13.out 0).trans rfl; have sa1 := (blk_cell X13.out 1).trans rfl; have sa2 := (blk_cell X13.out 2).trans rfl; have sa3 := (blk_cell X13.out 3).trans rfl; have sa4 := (blk_cell X13.out 4).trans rfl; have sb0 := (blk_cell X15.out 0).trans rfl; have sb1 := (blk_cell X15.out 1).trans rfl; have sb2 := (blk_cell X15.out 2).trans rfl; have sb3 := (blk_cell X15.out 3).trans rfl; have sb4 := (blk_cell X15.out 4).trans rfl)) | (go_at_call 29; ((with_reducible refine (HS1.out _ R13.out).mono ?_); rintro e w9 ⟨he, hb⟩; subst he; clear k0 h0 h1 h2 h3 h4 sa0 sa1 sa2 sa3 sa4 sb0 sb1 sb2 sb3 sb4; have n0_ := Aside0.mk (below_step HB.out hb); have n1_ := Aside0.mk (blk_below X6.out hb); have n2_ := Aside0.mk (blk_below X7.out hb); have n3_ := Aside0.mk (blk_below X13.out hb); have n4_ := Aside0.mk (blk_below X15.out hb); have n5_ := Aside0.mk (Kd.C_below R13.out hb); have n6_ := Aside0.mk (Kd.C_below R15.out hb); clear HB X6 X7 X13 X15 R13 R15; have HB := n0_; have X6 := n1_; have X7 := n2_; have X13 := n3_; have X15 := n4_; have R13 := n5_; have R15 := n6_; clear n0_ n1_ n2_ n3_ n4_ n5_ n6_; clear hb; have k0 := (blk_cell X6.out 0).trans rfl; have h0 := (blk_cell X7.out 0).trans rfl; have h1 := (blk_cell X7.out 1).trans rfl; have h2 := (blk_cell X7.out 2).trans rfl; have h3 := (blk_cell X7.out 3).trans rfl; have h4 := (blk_cell X7.out 4).trans rfl; have sa0 := (blk_cell X13.out 0).trans rfl; have sa1 := (blk_cell X13.out 1).trans rfl; have sa2 := (blk_cell X13.out 2).trans rfl; have sa3 := (blk_cell X13.out 3).trans rfl; have sa4 := (blk_cell X13.out 4).trans rfl; have sb0 := (blk_cell X15.out 0).trans rfl; have sb1 := (blk_cell X15.out 1).trans rfl; have sb2 := (blk_cell X15.out 2).trans rfl; have sb3 := (blk_cell X15.out 3).trans rfl; have sb4 := (blk_cell X15.out 4).trans rfl)) | (go_at_call 29; ((with_reducible refine (same5_c F_ Bl At A15 co15 l Fly F_ Bl At A3 c3 l Fly _ R15.out HLO15.out (Kd.C_below HL.out HB.out) HC3.out (by have := HN.out; omega)).mono ?_); rintro e w9 ⟨he, hb⟩; rw [sameW_refl] at he; subst he; clear k0 h0 h1 h2 h3 h4 sa0 sa1 sa2 sa3 sa4 sb0 sb1 sb2 sb3 sb4; have n0_ := Aside0.mk (below_step HB.out hb); have n1_ := Aside0.mk (blk_below X6.out hb); have n2_ := Aside0.mk (blk_below X7.out hb); have n3_ := Aside0.mk (blk_below X13.out hb); have n4_ := Aside0.mk (blk_below X15.out hb); have n5_ := Aside0.mk (Kd.C_below R13.out hb); have n6_ := Aside0.mk (Kd.C_below R15.out hb); clear HB X6 X7 X13 X15 R13 R15; have HB := n0_; have X6 := n1_; have X7 := n2_; have X13 := n3_; have X15 := n4_; have R13 := n5_; have R15 := n6_; clear n0_ n1_ n2_ n3_ n4_ n5_ n6_; clear hb; have k0 := (blk_cell X6.out 0).trans rfl; have h0 := (blk_cell X7.out 0).trans rfl; have h1 := (blk_cell X7.out 1).trans rfl; have h2 := (blk_cell X7.out 2).trans rfl; have h3 := (blk_cell X7.out 3).trans rfl; have h4 := (blk_cell X7.out 4).trans rfl; have sa0 := (blk_cell X13.out 0).trans rfl; have sa1 := (blk_cell X13.out 1).trans rfl; have sa2 := (blk_cell X13.out 2).trans rfl; have sa3 := (blk_cell X13.out 3).trans rfl; have sa4 := (blk_cell X13.out 4).trans rfl; have sb0 := (blk_cell X15.out 0).trans rfl; have sb1 := (blk_cell X15.out 1).trans rfl; have sb2 := (blk_cell X15.out 2).trans rfl; have sb3 := (blk_cell X15.out 3).trans rfl; have sb4 := (blk_cell X15.out 4).trans rfl)) | (go_at_call 36; ((with_reducible refine (fright_l m A0 c0 F_ Bl At A3 c3 l Fly _ (Kd.C_below HM.out HB.out) HBND.out).mono ?_); rintro e w9 ⟨he, hb⟩; rw [hfr] at he; subst he; clear k0 h0 h1 h2 h3 h4 sa0 sa1 sa2 sa3 sa4 sb0 sb1 sb2 sb3 sb4; have n0_ := Aside0.mk (below_step HB.out hb); have n1_ := Aside0.mk (blk_below X6.out hb); have n2_ := Aside0.mk (blk_below X7.out hb); have n3_ := Aside0.mk (blk_below X13.out hb); have n4_ := Aside0.mk (blk_below X15.out hb); have n5_ := Aside0.mk (Kd.C_below R13.out hb); have n6_ := Aside0.mk (Kd.C_below R15.out hb); clear HB X6 X7 X13 X15 R13 R15; have HB := n0_; have X6 := n1_; have X7 := n2_; have X13 := n3_; have X15 := n4_; have R13 := n5_; have R15 := n6_; clear n0_ n1_ n2_ n3_ n4_ n5_ n6_; clear hb; have k0 := (blk_cell X6.out 0).trans rfl; have h0 := (blk_cell X7.out 0).trans rfl; have h1 := (blk_cell X7.out 1).trans rfl; have h2 := (blk_cell X7.out 2).trans rfl; have h3 := (blk_cell X7.out 3).trans rfl; have h4 := (blk_cell X7.out 4).trans rfl; have sa0 := (blk_cell X13.out 0).trans rfl; have sa1 := (blk_cell X13.out 1).trans rfl; have sa2 := (blk_cell X13.out 2).trans rfl; have sa3 := (blk_cell X13.out 3).trans rfl; have sa4 := (blk_cell X13.out 4).trans rfl; have sb0 := (blk_cell X15.out 0).trans rfl; have sb1 := (blk_cell X15.out 1).trans rfl; have sb2 := (blk_cell X15.out 2).trans rfl; have sb3 := (blk_cell X15.out 3).trans rfl; have sb4 := (blk_cell X15.out 4).trans rfl)))
     go_ret
     exact ⟨rfl, HB.out⟩
    | true =>
     have HRR := Aside0.mk hrr
     have HONL := Aside0.mk (onF_len hrr n l2)
     have sa0 := (blk_cell X13.out 0).trans rfl
     have sa1 := (blk_cell X13.out 1).trans rfl
     have sa2 := (blk_cell X13.out 2).trans rfl
     have sa3 := (blk_cell X13.out 3).trans rfl
     have sa4 := (blk_cell X13.out 4).trans rfl
     have sb0 := (blk_cell X15.out 0).trans rfl
     have sb1 := (blk_cell X15.out 1).trans rfl
     have sb2 := (blk_cell X15.out 2).trans rfl
     have sb3 := (blk_cell X15.out 3).trans rfl
     have sb4 := (blk_cell X15.out 4).trans rfl
     go_upto_region 9 with (first | (go_at_call 17; ((with_reducible refine (right_c m A0 c0 _ (Kd.C_below HM.out HB.out) HBND.out).mono ?_); rintro e w9 ⟨he, hb⟩; rw [hrr] at he; subst he; clear k0 h0 h1 h2 h3 h4 sa0 sa1 sa2 sa3 sa4 sb0 sb1 sb2 sb3 sb4; have n0_ := Aside0.mk (below_step HB.out hb); have n1_ := Aside0.mk (blk_below X6.out hb); have n2_ := Aside0.mk (blk_below X7.out hb); have n3_ := Aside0.mk (blk_below X13.out hb); have n4_ := Aside0.mk (blk_below X15.out hb); have n5_ := Aside0.mk (Kd.C_below R13.out hb); have n6_ := Aside0.mk (Kd.C_below R15.out hb); clear HB X6 X7 X13 X15 R13 R15; have HB := n0_; have X6 := n1_; have X7 := n2_; have X13 := n3_; have X15 := n4_; have R13 := n5_; have R15 := n6_; clear n0_ n1_ n2_ n3_ n4_ n5_ n6_; clear hb; have k0 := (blk_cell X6.out 0).trans rfl; have h0 := (blk_cell X7.out 0).trans rfl; have h1 := (blk_cell X7.out 1).trans rfl; have h2 := (blk_cell X7.out 2).trans rfl; have h3 := (blk_cell X7.out 3).trans rfl; have h4 := (blk_cell X7.out 4).trans rfl; have sa0 := (blk_cell X13.out 0).trans rfl; have sa1 := (blk_cell X13.out 1).trans rfl; have sa2 := (blk_cell X13.out 2).trans rfl; have sa3 := (blk_cell X13.out 3).trans rfl; have sa4 := (blk_cell X13.out 4).trans rfl; have sb0 := (blk_cell X15.out 0).trans rfl; have sb1 := (blk_cell X15.out 1).trans rfl; have sb2 := (blk_cell X15.out 2).trans rfl; have sb3 := (blk_cell X15.out 3).trans rfl; have sb4 := (blk_cell X15.out 4).trans rfl)))
     go_cut [17, 18] (fun v17 v18 wc => ∃ (g17 : Nat) (A17 : Option Addr) (co17 : Nat), v17 = .pointer (some ⟨g17, 0, none⟩) ∧ v18 = .int .i64 (onF m n l2).2.2 ∧ Aside0 (wc.heap[g17]? = some (.cells #[.int .i64 (onF m n l2).1, .int .i64 0, .int .i64 0, .slice A17 (onF m n l2).2.1.length co17, .int .u16 0] 55 (0, 0))) ∧ Aside0 ((onF m n l2).2.1.length ≤ co17) ∧ Aside0 (Kd.C (Kd.int .u16) wc A17 (onF m n l2).2.1.length (onF m n l2).2.1) ∧ Aside0 (Below w.heap.size w wc) ∧ Aside0 (wc.heap[g6]? = some (.cells #[.slice A0 m.length c0] 24 (0, 0))) ∧ Aside0 (wc.heap[g7]? = some (.cells #[.int .i64 F_, .int .i64 Bl, .int .i64 At, .slice A3 l.length c3, .int .u16 Fly] 55 (0, 0))) ∧ Aside0 (wc.heap[g13]? = some (.cells #[.int .i64 (onF m n l2).1, .int .i64 0, .int .i64 0, .slice A13 (onF m n l2).2.1.length co13, .int .u16 0] 55 (0, 0))) ∧ Aside0 (wc.heap[g15]? = some (.cells #[.int .i64 F_, .int .i64 (lfB m F_ Bl At l Fly pd v), .int .i64 (lfA m F_ Bl At l Fly pd v), .slice A15 (lfL m F_ Bl At l Fly pd v).length co15, .int .u16 (lfY m F_ Bl At l Fly pd v)] 55 (0, 0))) ∧ Aside0 (Kd.C (Kd.int .u16) wc A13 (onF m n l2).2.1.length (onF m n l2).2.1) ∧ Aside0 (Kd.C (Kd.int .u16) wc A15 (lfL m F_ Bl At l Fly pd v).length (lfL m F_ Bl At l Fly pd v)))
     case first =>
      go_wp2_with (go_at_call 37; ((with_reducible refine (rnew2 m A0 c0 n A2 c2 l2 _ HRR.out (Kd.C_below HM.out HB.out) HC0.out (Kd.C_below HL2.out HB.out) HC2.out).mono ?_); rintro e w9 ⟨⟨Ao, co, rfl, hlo, hr⟩, hb⟩; have HLO := Aside0.mk hlo; have HRO := Aside0.mk hr; have HB9 := Aside0.mk hb; clear hlo hr hb))
      go_meet
      exact ⟨_, _, _, rfl, rfl, ⟨blk_new _ _⟩, HLO, ⟨Kd.C_below HRO.out (below_alloc (Below.refl _ _) _)⟩, ⟨HB.out.trans ((below_alloc HB9.out _).mono HB.out.size)⟩, ⟨blk_below X6.out (below_alloc HB9.out _)⟩, ⟨blk_below X7.out (below_alloc HB9.out _)⟩, ⟨blk_below X13.out (below_alloc HB9.out _)⟩, ⟨blk_below X15.out (below_alloc HB9.out _)⟩, ⟨Kd.C_below R13.out (below_alloc HB9.out _)⟩, ⟨Kd.C_below R15.out (below_alloc HB9.out _)⟩⟩
     case rest =>
      clear k0 h0 h1 h2 h3 h4 sa0 sa1 sa2 sa3 sa4 sb0 sb1 sb2 sb3 sb4
      clear HB X6 X7 X13 X15 R13 R15
      obtain ⟨g17, A17, co17, rfl, rfl, X17, HLO17, R17, HB, X6, X7, X13, X15, R13, R15⟩ := hcut
      have k0 := (blk_cell X6.out 0).trans rfl
      have h0 := (blk_cell X7.out 0).trans rfl
      have h1 := (blk_cell X7.out 1).trans rfl
      have h2 := (blk_cell X7.out 2).trans rfl
      have h3 := (blk_cell X7.out 3).trans rfl
      have h4 := (blk_cell X7.out 4).trans rfl
      generalize hfr : frR m F_ Bl At l.length = fr at *
      have HFR := Aside0.mk hfr
      clear hfr hrr
      go_upto_region 10 with (fail)
      go_cut [101] (fun v101 wc => v101 = .bool false ∧ Aside0 (Below w.heap.size w wc) ∧ Aside0 (wc.heap[g6]? = some (.cells #[.slice A0 m.length c0] 24 (0, 0))) ∧ Aside0 (wc.heap[g7]? = some (.cells #[.int .i64 F_, .int .i64 Bl, .int .i64 At, .slice A3 l.length c3, .int .u16 Fly] 55 (0, 0))) ∧ Aside0 (wc.heap[g13]? = some (.cells #[.int .i64 (onF m n l2).1, .int .i64 0, .int .i64 0, .slice A13 (onF m n l2).2.1.length co13, .int .u16 0] 55 (0, 0))) ∧ Aside0 (wc.heap[g15]? = some (.cells #[.int .i64 F_, .int .i64 (lfB m F_ Bl At l Fly pd v), .int .i64 (lfA m F_ Bl At l Fly pd v), .slice A15 (lfL m F_ Bl At l Fly pd v).length co15, .int .u16 (lfY m F_ Bl At l Fly pd v)] 55 (0, 0))) ∧ Aside0 (wc.heap[g17]? = some (.cells #[.int .i64 (onF m n l2).1, .int .i64 0, .int .i64 0, .slice A17 (onF m n l2).2.1.length co17, .int .u16 0] 55 (0, 0))) ∧ Aside0 (Kd.C (Kd.int .u16) wc A13 (onF m n l2).2.1.length (onF m n l2).2.1) ∧ Aside0 (Kd.C (Kd.int .u16) wc A15 (lfL m F_ Bl At l Fly pd v).length (lfL m F_ Bl At l Fly pd v)) ∧ Aside0 (Kd.C (Kd.int .u16) wc A17 (onF m n l2).2.1.length (onF m n l2).2.1))
      case first =>
       go_wp2
       refine start_ (S := (fun W : World => Below wc.heap.size wc W ∧ W.heap[g6]? = some (.cells #[.slice A0 m.length c0] 24 (0, 0)) ∧ W.heap[g7]? = some (.cells #[.int .i64 F_, .int .i64 Bl, .int .i64 At, .slice A3 l.length c3, .int .u16 Fly] 55 (0, 0)) ∧ W.heap[g13]? = some (.cells #[.int .i64 (onF m n l2).1, .int .i64 0, .int .i64 0, .slice A13 (onF m n l2).2.1.length co13, .int .u16 0] 55 (0, 0)) ∧ W.heap[g15]? = some (.cells #[.int .i64 F_, .int .i64 (lfB m F_ Bl At l Fly pd v), .int .i64 (lfA m F_ Bl At l Fly pd v), .slice A15 (lfL m F_ Bl At l Fly pd v).length co15, .int .u16 (lfY m F_ Bl At l Fly pd v)] 55 (0, 0)) ∧ W.heap[g17]? = some (.cells #[.int .i64 (onF m n l2).1, .int .i64 0, .int .i64 0, .slice A17 (onF m n l2).2.1.length co17, .int .u16 0] 55 (0, 0)))) (ds := []) #[false, false, false, false, false, false, false, false, false, false, false, false, false, false, false, false, false, false] (by kernel_rfl) (by rfl) (by rfl) ⟨⟨rfl, rfl, rfl, Nat.le_refl _, fun _ _ => rfl⟩, X6.out, X7.out, X13.out, X15.out, X17.out⟩ (fun hS => ?_)
       refine take_ (i := 0) (N := some 84) (v := .agg #[.int .i64 (onF m n l2).1, .int .i64 0, .int .i64 0, .slice A13 (onF m n l2).2.1.length co13, .int .u16 0]) (a' := ?axt1) #[true, false, false, false, false, false, false, false, false, false, false, false, false, false, false, false, false, false] rfl rfl (by kernel_rfl) (fun _ _ _ h => h) (Or.inl ⟨by rfl, ?yyt1⟩) hS ?hat1 ?hht1
       case yyt1 => intro W hW; have c0_0 := (blk_cell hW.2.1 0).trans rfl; have c1_0 := (blk_cell hW.2.2.1 0).trans rfl; have c1_1 := (blk_cell hW.2.2.1 1).trans rfl; have c1_2 := (blk_cell hW.2.2.1 2).trans rfl; have c1_3 := (blk_cell hW.2.2.1 3).trans rfl; have c1_4 := (blk_cell hW.2.2.1 4).trans rfl; have c2_0 := (blk_cell hW.2.2.2.1 0).trans rfl; have c2_1 := (blk_cell hW.2.2.2.1 1).trans rfl; have c2_2 := (blk_cell hW.2.2.2.1 2).trans rfl; have c2_3 := (blk_cell hW.2.2.2.1 3).trans rfl; have c2_4 := (blk_cell hW.2.2.2.1 4).trans rfl; have c3_0 := (blk_cell hW.2.2.2.2.1 0).trans rfl; have c3_1 := (blk_cell hW.2.2.2.2.1 1).trans rfl; have c3_2 := (blk_cell hW.2.2.2.2.1 2).trans rfl; have c3_3 := (blk_cell hW.2.2.2.2.1 3).trans rfl; have c3_4 := (blk_cell hW.2.2.2.2.1 4).trans rfl; have c4_0 := (blk_cell hW.2.2.2.2.2 0).trans rfl; have c4_1 := (blk_cell hW.2.2.2.2.2 1).trans rfl; have c4_2 := (blk_cell hW.2.2.2.2.2 2).trans rfl; have c4_3 := (blk_cell hW.2.2.2.2.2 3).trans rfl; have c4_4 := (blk_cell hW.2.2.2.2.2 4).trans rfl; go_simp; done
       case hat1 => try simp only [Act.put, List.setIfInBounds_toArray, List.set_cons_zero, List.set_cons_succ]; exact rfl
       refine take_ (i := 1) (N := some 85) (v := .agg #[.int .i64 (onF m n l2).1, .int .i64 0, .int .i64 0, .slice A17 (onF m n l2).2.1.length co17, .int .u16 0]) (a' := ?axt2) #[true, true, false, false, false, false, false, false, false, false, false, false, false, false, false, false, false, false] rfl rfl (by kernel_rfl) (fun _ _ _ h => h) (Or.inl ⟨by rfl, ?yyt2⟩) hS ?hat2 ?hht2
       case yyt2 => intro W hW; have c0_0 := (blk_cell hW.2.1 0).trans rfl; have c1_0 := (blk_cell hW.2.2.1 0).trans rfl; have c1_1 := (blk_cell hW.2.2.1 1).trans rfl; have c1_2 := (blk_cell hW.2.2.1 2).trans rfl; have c1_3 := (blk_cell hW.2.2.1 3).trans rfl; have c1_4 := (blk_cell hW.2.2.1 4).trans rfl; have c2_0 := (blk_cell hW.2.2.2.1 0).trans rfl; have c2_1 := (blk_cell hW.2.2.2.1 1).trans rfl; have c2_2 := (blk_cell hW.2.2.2.1 2).trans rfl; have c2_3 := (blk_cell hW.2.2.2.1 3).trans rfl; have c2_4 := (blk_cell hW.2.2.2.1 4).trans rfl; have c3_0 := (blk_cell hW.2.2.2.2.1 0).trans rfl; have c3_1 := (blk_cell hW.2.2.2.2.1 1).trans rfl; have c3_2 := (blk_cell hW.2.2.2.2.1 2).trans rfl; have c3_3 := (blk_cell hW.2.2.2.2.1 3).trans rfl; have c3_4 := (blk_cell hW.2.2.2.2.1 4).trans rfl; have c4_0 := (blk_cell hW.2.2.2.2.2 0).trans rfl; have c4_1 := (blk_cell hW.2.2.2.2.2 1).trans rfl; have c4_2 := (blk_cell hW.2.2.2.2.2 2).trans rfl; have c4_3 := (blk_cell hW.2.2.2.2.2 3).trans rfl; have c4_4 := (blk_cell hW.2.2.2.2.2 4).trans rfl; go_simp; done
       case hat2 => try simp only [Act.put, List.setIfInBounds_toArray, List.set_cons_zero, List.set_cons_succ]; exact rfl
       refine one_ (i := 2) (N := some 86) #[true, true, true, false, false, false, false, false, false, false, false, false, false, false, false, false, false, false] rfl rfl (by kernel_rfl) (by decide) (fun K hK => ?_)
       refine goes_ Try.func29 (by kernel_rfl) rfl #[.agg #[.int .i64 (onF m n l2).1, .int .i64 0, .int .i64 0, .slice A13 (onF m n l2).2.1.length co13, .int .u16 0], .agg #[.int .i64 (onF m n l2).1, .int .i64 0, .int .i64 0, .slice A17 (onF m n l2).2.1.length co17, .int .u16 0]] (by rfl) rfl rfl (by simp only [List.map_toArray, List.map_cons, List.map_nil]; rfl) ?_
       with_reducible refine (same5_c (onF m n l2).1 0 0 A13 co13 (onF m n l2).2.1 0 (onF m n l2).1 0 0 A17 co17 (onF m n l2).2.1 0 _ (Kd.C_below R13.out hS.1) HLO13.out (Kd.C_below R17.out hS.1) HLO17.out (HONL.out)).mono ?_
       rintro e w8 ⟨he, hb⟩
       rw [sameW_refl] at he
       subst he
       refine ⟨_, rfl, ?_⟩
       have hS' := And.intro (hS.1.trans (hb.mono hS.1.size)) (And.intro (blk_below hS.2.1 hb) (And.intro (blk_below hS.2.2.1 hb) (And.intro (blk_below hS.2.2.2.1 hb) (And.intro (blk_below hS.2.2.2.2.1 hb) (blk_below hS.2.2.2.2.2 hb)))))
       clear hb
       refine hK _ _ hS' (fun hS => ?_)
       clear hK K
       try simp only [Act.put, List.setIfInBounds_toArray, List.set_cons_zero, List.set_cons_succ]
       refine take_ (i := 3) (N := some 87) (v := .bool false) (a' := ?axt3) #[true, true, true, true, false, false, false, false, false, false, false, false, false, false, false, false, false, false] rfl rfl (by kernel_rfl) (fun _ _ _ h => h) (Or.inl ⟨by rfl, ?yyt3⟩) hS ?hat3 ?hht3
       case yyt3 => intro W hW; have c0_0 := (blk_cell hW.2.1 0).trans rfl; have c1_0 := (blk_cell hW.2.2.1 0).trans rfl; have c1_1 := (blk_cell hW.2.2.1 1).trans rfl; have c1_2 := (blk_cell hW.2.2.1 2).trans rfl; have c1_3 := (blk_cell hW.2.2.1 3).trans rfl; have c1_4 := (blk_cell hW.2.2.1 4).trans rfl; have c2_0 := (blk_cell hW.2.2.2.1 0).trans rfl; have c2_1 := (blk_cell hW.2.2.2.1 1).trans rfl; have c2_2 := (blk_cell hW.2.2.2.1 2).trans rfl; have c2_3 := (blk_cell hW.2.2.2.1 3).trans rfl; have c2_4 := (blk_cell hW.2.2.2.1 4).trans rfl; have c3_0 := (blk_cell hW.2.2.2.2.1 0).trans rfl; have c3_1 := (blk_cell hW.2.2.2.2.1 1).trans rfl; have c3_2 := (blk_cell hW.2.2.2.2.1 2).trans rfl; have c3_3 := (blk_cell hW.2.2.2.2.1 3).trans rfl; have c3_4 := (blk_cell hW.2.2.2.2.1 4).trans rfl; have c4_0 := (blk_cell hW.2.2.2.2.2 0).trans rfl; have c4_1 := (blk_cell hW.2.2.2.2.2 1).trans rfl; have c4_2 := (blk_cell hW.2.2.2.2.2 2).trans rfl; have c4_3 := (blk_cell hW.2.2.2.2.2 3).trans rfl; have c4_4 := (blk_cell hW.2.2.2.2.2 4).trans rfl; go_simp; done
       case hat3 => try simp only [Act.put, List.setIfInBounds_toArray, List.set_cons_zero, List.set_cons_succ]; exact rfl
       refine take_ (i := 4) (N := some 88) (v := .bool false) (a' := ?axt4) #[true, true, true, true, true, false, false, false, false, false, false, false, false, false, false, false, false, false] rfl rfl (by kernel_rfl) (fun _ _ _ h => h) (Or.inl ⟨by rfl, ?yyt4⟩) hS ?hat4 ?hht4
       case yyt4 => intro W hW; have c0_0 := (blk_cell hW.2.1 0).trans rfl; have c1_0 := (blk_cell hW.2.2.1 0).trans rfl; have c1_1 := (blk_cell hW.2.2.1 1).trans rfl; have c1_2 := (blk_cell hW.2.2.1 2).trans rfl; have c1_3 := (blk_cell hW.2.2.1 3).trans rfl; have c1_4 := (blk_cell hW.2.2.1 4).trans rfl; have c2_0 := (blk_cell hW.2.2.2.1 0).trans rfl; have c2_1 := (blk_cell hW.2.2.2.1 1).trans rfl; have c2_2 := (blk_cell hW.2.2.2.1 2).trans rfl; have c2_3 := (blk_cell hW.2.2.2.1 3).trans rfl; have c2_4 := (blk_cell hW.2.2.2.1 4).trans rfl; have c3_0 := (blk_cell hW.2.2.2.2.1 0).trans rfl; have c3_1 := (blk_cell hW.2.2.2.2.1 1).trans rfl; have c3_2 := (blk_cell hW.2.2.2.2.1 2).trans rfl; have c3_3 := (blk_cell hW.2.2.2.2.1 3).trans rfl; have c3_4 := (blk_cell hW.2.2.2.2.1 4).trans rfl; have c4_0 := (blk_cell hW.2.2.2.2.2 0).trans rfl; have c4_1 := (blk_cell hW.2.2.2.2.2 1).trans rfl; have c4_2 := (blk_cell hW.2.2.2.2.2 2).trans rfl; have c4_3 := (blk_cell hW.2.2.2.2.2 3).trans rfl; have c4_4 := (blk_cell hW.2.2.2.2.2 4).trans rfl; go_simp; done
       case hat4 => try simp only [Act.put, List.setIfInBounds_toArray, List.set_cons_zero, List.set_cons_succ]; exact rfl
       refine take_ (i := 5) (N := some 89) (v := .int .i64 (onF m n l2).2.2) (a' := ?axt5) #[true, true, true, true, true, true, false, false, false, false, false, false, false, false, false, false, false, false] rfl rfl (by kernel_rfl) (fun _ _ _ h => h) (Or.inl ⟨by rfl, ?yyt5⟩) hS ?hat5 ?hht5
       case yyt5 => intro W hW; have c0_0 := (blk_cell hW.2.1 0).trans rfl; have c1_0 := (blk_cell hW.2.2.1 0).trans rfl; have c1_1 := (blk_cell hW.2.2.1 1).trans rfl; have c1_2 := (blk_cell hW.2.2.1 2).trans rfl; have c1_3 := (blk_cell hW.2.2.1 3).trans rfl; have c1_4 := (blk_cell hW.2.2.1 4).trans rfl; have c2_0 := (blk_cell hW.2.2.2.1 0).trans rfl; have c2_1 := (blk_cell hW.2.2.2.1 1).trans rfl; have c2_2 := (blk_cell hW.2.2.2.1 2).trans rfl; have c2_3 := (blk_cell hW.2.2.2.1 3).trans rfl; have c2_4 := (blk_cell hW.2.2.2.1 4).trans rfl; have c3_0 := (blk_cell hW.2.2.2.2.1 0).trans rfl; have c3_1 := (blk_cell hW.2.2.2.2.1 1).trans rfl; have c3_2 := (blk_cell hW.2.2.2.2.1 2).trans rfl; have c3_3 := (blk_cell hW.2.2.2.2.1 3).trans rfl; have c3_4 := (blk_cell hW.2.2.2.2.1 4).trans rfl; have c4_0 := (blk_cell hW.2.2.2.2.2 0).trans rfl; have c4_1 := (blk_cell hW.2.2.2.2.2 1).trans rfl; have c4_2 := (blk_cell hW.2.2.2.2.2 2).trans rfl; have c4_3 := (blk_cell hW.2.2.2.2.2 3).trans rfl; have c4_4 := (blk_cell hW.2.2.2.2.2 4).trans rfl; go_simp; done
       case hat5 => try simp only [Act.put, List.setIfInBounds_toArray, List.set_cons_zero, List.set_cons_succ]; exact rfl
       refine take_ (i := 6) (N := some 90) (v := .int .i64 (onF m n l2).2.2) (a' := ?axt6) #[true, true, true, true, true, true, true, false, false, false, false, false, false, false, false, false, false, false] rfl rfl (by kernel_rfl) (fun _ _ _ h => h) (Or.inl ⟨by rfl, ?yyt6⟩) hS ?hat6 ?hht6
       case yyt6 => intro W hW; have c0_0 := (blk_cell hW.2.1 0).trans rfl; have c1_0 := (blk_cell hW.2.2.1 0).trans rfl; have c1_1 := (blk_cell hW.2.2.1 1).trans rfl; have c1_2 := (blk_cell hW.2.2.1 2).trans rfl; have c1_3 := (blk_cell hW.2.2.1 3).trans rfl; have c1_4 := (blk_cell hW.2.2.1 4).trans rfl; have c2_0 := (blk_cell hW.2.2.2.1 0).trans rfl; have c2_1 := (blk_cell hW.2.2.2.1 1).trans rfl; have c2_2 := (blk_cell hW.2.2.2.1 2).trans rfl; have c2_3 := (blk_cell hW.2.2.2.1 3).trans rfl; have c2_4 := (blk_cell hW.2.2.2.1 4).trans rfl; have c3_0 := (blk_cell hW.2.2.2.2.1 0).trans rfl; have c3_1 := (blk_cell hW.2.2.2.2.1 1).trans rfl; have c3_2 := (blk_cell hW.2.2.2.2.1 2).trans rfl; have c3_3 := (blk_cell hW.2.2.2.2.1 3).trans rfl; have c3_4 := (blk_cell hW.2.2.2.2.1 4).trans rfl; have c4_0 := (blk_cell hW.2.2.2.2.2 0).trans rfl; have c4_1 := (blk_cell hW.2.2.2.2.2 1).trans rfl; have c4_2 := (blk_cell hW.2.2.2.2.2 2).trans rfl; have c4_3 := (blk_cell hW.2.2.2.2.2 3).trans rfl; have c4_4 := (blk_cell hW.2.2.2.2.2 4).trans rfl; go_simp; done
       case hat6 => try simp only [Act.put, List.setIfInBounds_toArray, List.set_cons_zero, List.set_cons_succ]; exact rfl
       refine take_ (i := 7) (N := some 91) (v := .bool false) (a' := ?axt7) #[true, true, true, true, true, true, true, true, false, false, false, false, false, false, false, false, false, false] rfl rfl (by kernel_rfl) (fun _ _ _ h => h) (Or.inl ⟨by rfl, ?yyt7⟩) hS ?hat7 ?hht7
       case yyt7 => intro W hW; have c0_0 := (blk_cell hW.2.1 0).trans rfl; have c1_0 := (blk_cell hW.2.2.1 0).trans rfl; have c1_1 := (blk_cell hW.2.2.1 1).trans rfl; have c1_2 := (blk_cell hW.2.2.1 2).trans rfl; have c1_3 := (blk_cell hW.2.2.1 3).trans rfl; have c1_4 := (blk_cell hW.2.2.1 4).trans rfl; have c2_0 := (blk_cell hW.2.2.2.1 0).trans rfl; have c2_1 := (blk_cell hW.2.2.2.1 1).trans rfl; have c2_2 := (blk_cell hW.2.2.2.1 2).trans rfl; have c2_3 := (blk_cell hW.2.2.2.1 3).trans rfl; have c2_4 := (blk_cell hW.2.2.2.1 4).trans rfl; have c3_0 := (blk_cell hW.2.2.2.2.1 0).trans rfl; have c3_1 := (blk_cell hW.2.2.2.2.1 1).trans rfl; have c3_2 := (blk_cell hW.2.2.2.2.1 2).trans rfl; have c3_3 := (blk_cell hW.2.2.2.2.1 3).trans rfl; have c3_4 := (blk_cell hW.2.2.2.2.1 4).trans rfl; have c4_0 := (blk_cell hW.2.2.2.2.2 0).trans rfl; have c4_1 := (blk_cell hW.2.2.2.2.2 1).trans rfl; have c4_2 := (blk_cell hW.2.2.2.2.2 2).trans rfl; have c4_3 := (blk_cell hW.2.2.2.2.2 3).trans rfl; have c4_4 := (blk_cell hW.2.2.2.2.2 4).trans rfl; go_simp; done
       case hat7 => try simp only [Act.put, List.setIfInBounds_toArray, List.set_cons_zero, List.set_cons_succ]; exact rfl
       refine take_ (i := 8) (N := some 92) (v := .bool false) (a' := ?axt8) #[true, true, true, true, true, true, true, true, true, false, false, false, false, false, false, false, false, false] rfl rfl (by kernel_rfl) (fun _ _ _ h => h) (Or.inl ⟨by rfl, ?yyt8⟩) hS ?hat8 ?hht8
       case yyt8 => intro W hW; have c0_0 := (blk_cell hW.2.1 0).trans rfl; have c1_0 := (blk_cell hW.2.2.1 0).trans rfl; have c1_1 := (blk_cell hW.2.2.1 1).trans rfl; have c1_2 := (blk_cell hW.2.2.1 2).trans rfl; have c1_3 := (blk_cell hW.2.2.1 3).trans rfl; have c1_4 := (blk_cell hW.2.2.1 4).trans rfl; have c2_0 := (blk_cell hW.2.2.2.1 0).trans rfl; have c2_1 := (blk_cell hW.2.2.2.1 1).trans rfl; have c2_2 := (blk_cell hW.2.2.2.1 2).trans rfl; have c2_3 := (blk_cell hW.2.2.2.1 3).trans rfl; have c2_4 := (blk_cell hW.2.2.2.1 4).trans rfl; have c3_0 := (blk_cell hW.2.2.2.2.1 0).trans rfl; have c3_1 := (blk_cell hW.2.2.2.2.1 1).trans rfl; have c3_2 := (blk_cell hW.2.2.2.2.1 2).trans rfl; have c3_3 := (blk_cell hW.2.2.2.2.1 3).trans rfl; have c3_4 := (blk_cell hW.2.2.2.2.1 4).trans rfl; have c4_0 := (blk_cell hW.2.2.2.2.2 0).trans rfl; have c4_1 := (blk_cell hW.2.2.2.2.2 1).trans rfl; have c4_2 := (blk_cell hW.2.2.2.2.2 2).trans rfl; have c4_3 := (blk_cell hW.2.2.2.2.2 3).trans rfl; have c4_4 := (blk_cell hW.2.2.2.2.2 4).trans rfl; go_simp; done
       case hat8 => try simp only [Act.put, List.setIfInBounds_toArray, List.set_cons_zero, List.set_cons_succ]; exact rfl
       refine take_ (i := 9) (N := some 93) (v := .bool false) (a' := ?axt9) #[true, true, true, true, true, true, true, true, true, true, false, false, false, false, false, false, false, false] rfl rfl (by kernel_rfl) (fun _ _ _ h => h) (Or.inl ⟨by rfl, ?yyt9⟩) hS ?hat9 ?hht9
       case yyt9 => intro W hW; have c0_0 := (blk_cell hW.2.1 0).trans rfl; have c1_0 := (blk_cell hW.2.2.1 0).trans rfl; have c1_1 := (blk_cell hW.2.2.1 1).trans rfl; have c1_2 := (blk_cell hW.2.2.1 2).trans rfl; have c1_3 := (blk_cell hW.2.2.1 3).trans rfl; have c1_4 := (blk_cell hW.2.2.1 4).trans rfl; have c2_0 := (blk_cell hW.2.2.2.1 0).trans rfl; have c2_1 := (blk_cell hW.2.2.2.1 1).trans rfl; have c2_2 := (blk_cell hW.2.2.2.1 2).trans rfl; have c2_3 := (blk_cell hW.2.2.2.1 3).trans rfl; have c2_4 := (blk_cell hW.2.2.2.1 4).trans rfl; have c3_0 := (blk_cell hW.2.2.2.2.1 0).trans rfl; have c3_1 := (blk_cell hW.2.2.2.2.1 1).trans rfl; have c3_2 := (blk_cell hW.2.2.2.2.1 2).trans rfl; have c3_3 := (blk_cell hW.2.2.2.2.1 3).trans rfl; have c3_4 := (blk_cell hW.2.2.2.2.1 4).trans rfl; have c4_0 := (blk_cell hW.2.2.2.2.2 0).trans rfl; have c4_1 := (blk_cell hW.2.2.2.2.2 1).trans rfl; have c4_2 := (blk_cell hW.2.2.2.2.2 2).trans rfl; have c4_3 := (blk_cell hW.2.2.2.2.2 3).trans rfl; have c4_4 := (blk_cell hW.2.2.2.2.2 4).trans rfl; go_simp; done
       case hat9 => try simp only [Act.put, List.setIfInBounds_toArray, List.set_cons_zero, List.set_cons_succ]; exact rfl
       refine take_ (i := 10) (N := some 94) (v := .agg #[.slice A0 m.length c0]) (a' := ?axt10) #[true, true, true, true, true, true, true, true, true, true, true, false, false, false, false, false, false, false] rfl rfl (by kernel_rfl) (fun _ _ _ h => h) (Or.inl ⟨by rfl, ?yyt10⟩) hS ?hat10 ?hht10
       case yyt10 => intro W hW; have c0_0 := (blk_cell hW.2.1 0).trans rfl; have c1_0 := (blk_cell hW.2.2.1 0).trans rfl; have c1_1 := (blk_cell hW.2.2.1 1).trans rfl; have c1_2 := (blk_cell hW.2.2.1 2).trans rfl; have c1_3 := (blk_cell hW.2.2.1 3).trans rfl; have c1_4 := (blk_cell hW.2.2.1 4).trans rfl; have c2_0 := (blk_cell hW.2.2.2.1 0).trans rfl; have c2_1 := (blk_cell hW.2.2.2.1 1).trans rfl; have c2_2 := (blk_cell hW.2.2.2.1 2).trans rfl; have c2_3 := (blk_cell hW.2.2.2.1 3).trans rfl; have c2_4 := (blk_cell hW.2.2.2.1 4).trans rfl; have c3_0 := (blk_cell hW.2.2.2.2.1 0).trans rfl; have c3_1 := (blk_cell hW.2.2.2.2.1 1).trans rfl; have c3_2 := (blk_cell hW.2.2.2.2.1 2).trans rfl; have c3_3 := (blk_cell hW.2.2.2.2.1 3).trans rfl; have c3_4 := (blk_cell hW.2.2.2.2.1 4).trans rfl; have c4_0 := (blk_cell hW.2.2.2.2.2 0).trans rfl; have c4_1 := (blk_cell hW.2.2.2.2.2 1).trans rfl; have c4_2 := (blk_cell hW.2.2.2.2.2 2).trans rfl; have c4_3 := (blk_cell hW.2.2.2.2.2 3).trans rfl; have c4_4 := (blk_cell hW.2.2.2.2.2 4).trans rfl; go_simp; done
       case hat10 => try simp only [Act.put, List.setIfInBounds_toArray, List.set_cons_zero, List.set_cons_succ]; exact rfl
       refine take_ (i := 11) (N := some 95) (v := .agg #[.int .i64 F_, .int .i64 Bl, .int .i64 At, .slice A3 l.length c3, .int .u16 Fly]) (a' := ?axt11) #[true, true, true, true, true, true, true, true, true, true, true, true, false, false, false, false, false, false] rfl rfl (by kernel_rfl) (fun _ _ _ h => h) (Or.inl ⟨by rfl, ?yyt11⟩) hS ?hat11 ?hht11
       case yyt11 => intro W hW; have c0_0 := (blk_cell hW.2.1 0).trans rfl; have c1_0 := (blk_cell hW.2.2.1 0).trans rfl; have c1_1 := (blk_cell hW.2.2.1 1).trans rfl; have c1_2 := (blk_cell hW.2.2.1 2).trans rfl; have c1_3 := (blk_cell hW.2.2.1 3).trans rfl; have c1_4 := (blk_cell hW.2.2.1 4).trans rfl; have c2_0 := (blk_cell hW.2.2.2.1 0).trans rfl; have c2_1 := (blk_cell hW.2.2.2.1 1).trans rfl; have c2_2 := (blk_cell hW.2.2.2.1 2).trans rfl; have c2_3 := (blk_cell hW.2.2.2.1 3).trans rfl; have c2_4 := (blk_cell hW.2.2.2.1 4).trans rfl; have c3_0 := (blk_cell hW.2.2.2.2.1 0).trans rfl; have c3_1 := (blk_cell hW.2.2.2.2.1 1).trans rfl; have c3_2 := (blk_cell hW.2.2.2.2.1 2).trans rfl; have c3_3 := (blk_cell hW.2.2.2.2.1 3).trans rfl; have c3_4 := (blk_cell hW.2.2.2.2.1 4).trans rfl; have c4_0 := (blk_cell hW.2.2.2.2.2 0).trans rfl; have c4_1 := (blk_cell hW.2.2.2.2.2 1).trans rfl; have c4_2 := (blk_cell hW.2.2.2.2.2 2).trans rfl; have c4_3 := (blk_cell hW.2.2.2.2.2 3).trans rfl; have c4_4 := (blk_cell hW.2.2.2.2.2 4).trans rfl; go_simp; done
       case hat11 => try simp only [Act.put, List.setIfInBounds_toArray, List.set_cons_zero, List.set_cons_succ]; exact rfl
       refine take_ (i := 13) (N := some 97) (v := .agg #[.slice A0 m.length c0]) (a' := ?axt12) #[true, true, true, true, true, true, true, true, true, true, true, true, false, true, false, false, false, false] rfl rfl (by kernel_rfl) (fun _ _ _ h => h) (Or.inl ⟨by rfl, ?yyt12⟩) hS ?hat12 ?hht12
       case yyt12 => intro W hW; have c0_0 := (blk_cell hW.2.1 0).trans rfl; have c1_0 := (blk_cell hW.2.2.1 0).trans rfl; have c1_1 := (blk_cell hW.2.2.1 1).trans rfl; have c1_2 := (blk_cell hW.2.2.1 2).trans rfl; have c1_3 := (blk_cell hW.2.2.1 3).trans rfl; have c1_4 := (blk_cell hW.2.2.1 4).trans rfl; have c2_0 := (blk_cell hW.2.2.2.1 0).trans rfl; have c2_1 := (blk_cell hW.2.2.2.1 1).trans rfl; have c2_2 := (blk_cell hW.2.2.2.1 2).trans rfl; have c2_3 := (blk_cell hW.2.2.2.1 3).trans rfl; have c2_4 := (blk_cell hW.2.2.2.1 4).trans rfl; have c3_0 := (blk_cell hW.2.2.2.2.1 0).trans rfl; have c3_1 := (blk_cell hW.2.2.2.2.1 1).trans rfl; have c3_2 := (blk_cell hW.2.2.2.2.1 2).trans rfl; have c3_3 := (blk_cell hW.2.2.2.2.1 3).trans rfl; have c3_4 := (blk_cell hW.2.2.2.2.1 4).trans rfl; have c4_0 := (blk_cell hW.2.2.2.2.2 0).trans rfl; have c4_1 := (blk_cell hW.2.2.2.2.2 1).trans rfl; have c4_2 := (blk_cell hW.2.2.2.2.2 2).trans rfl; have c4_3 := (blk_cell hW.2.2.2.2.2 3).trans rfl; have c4_4 := (blk_cell hW.2.2.2.2.2 4).trans rfl; go_simp; done
       case hat12 => try simp only [Act.put, List.setIfInBounds_toArray, List.set_cons_zero, List.set_cons_succ]; exact rfl
       refine take_ (i := 14) (N := some 98) (v := .agg #[.int .i64 F_, .int .i64 Bl, .int .i64 At, .slice A3 l.length c3, .int .u16 Fly]) (a' := ?axt13) #[true, true, true, true, true, true, true, true, true, true, true, true, false, true, true, false, false, false] rfl rfl (by kernel_rfl) (fun _ _ _ h => h) (Or.inl ⟨by rfl, ?yyt13⟩) hS ?hat13 ?hht13
       case yyt13 => intro W hW; have c0_0 := (blk_cell hW.2.1 0).trans rfl; have c1_0 := (blk_cell hW.2.2.1 0).trans rfl; have c1_1 := (blk_cell hW.2.2.1 1).trans rfl; have c1_2 := (blk_cell hW.2.2.1 2).trans rfl; have c1_3 := (blk_cell hW.2.2.1 3).trans rfl; have c1_4 := (blk_cell hW.2.2.1 4).trans rfl; have c2_0 := (blk_cell hW.2.2.2.1 0).trans rfl; have c2_1 := (blk_cell hW.2.2.2.1 1).trans rfl; have c2_2 := (blk_cell hW.2.2.2.1 2).trans rfl; have c2_3 := (blk_cell hW.2.2.2.1 3).trans rfl; have c2_4 := (blk_cell hW.2.2.2.1 4).trans rfl; have c3_0 := (blk_cell hW.2.2.2.2.1 0).trans rfl; have c3_1 := (blk_cell hW.2.2.2.2.1 1).trans rfl; have c3_2 := (blk_cell hW.2.2.2.2.1 2).trans rfl; have c3_3 := (blk_cell hW.2.2.2.2.1 3).trans rfl; have c3_4 := (blk_cell hW.2.2.2.2.1 4).trans rfl; have c4_0 := (blk_cell hW.2.2.2.2.2 0).trans rfl; have c4_1 := (blk_cell hW.2.2.2.2.2 1).trans rfl; have c4_2 := (blk_cell hW.2.2.2.2.2 2).trans rfl; have c4_3 := (blk_cell hW.2.2.2.2.2 3).trans rfl; have c4_4 := (blk_cell hW.2.2.2.2.2 4).trans rfl; go_simp; done
       case hat13 => try simp only [Act.put, List.setIfInBounds_toArray, List.set_cons_zero, List.set_cons_succ]; exact rfl
       refine one_ (i := 12) (N := some 96) #[true, true, true, true, true, true, true, true, true, true, true, true, true, true, true, false, false, false] rfl rfl (by kernel_rfl) (by decide) (fun K hK => ?_)
       refine goes_ Try.func36 (by kernel_rfl) rfl #[.agg #[.slice A0 m.length c0], .agg #[.int .i64 F_, .int .i64 Bl, .int .i64 At, .slice A3 l.length c3, .int .u16 Fly]] (by rfl) rfl rfl (by simp only [List.map_toArray, List.map_cons, List.map_nil]; rfl) ?_
       with_reducible refine (fright_l m A0 c0 F_ Bl At A3 c3 l Fly _ (Kd.C_below HM.out (HB.out.trans (hS.1.mono HB.out.size))) HBND.out).mono ?_
       rintro e w8 ⟨he, hb⟩
       rw [HFR.out] at he
       subst he
       refine ⟨_, rfl, ?_⟩
       have hS' := And.intro (hS.1.trans (hb.mono hS.1.size)) (And.intro (blk_below hS.2.1 hb) (And.intro (blk_below hS.2.2.1 hb) (And.intro (blk_below hS.2.2.2.1 hb) (And.intro (blk_below hS.2.2.2.2.1 hb) (blk_below hS.2.2.2.2.2 hb)))))
       clear hb
       refine hK _ _ hS' (fun hS => ?_)
       clear hK K
       try simp only [Act.put, List.setIfInBounds_toArray, List.set_cons_zero, List.set_cons_succ]
       refine one_ (i := 15) (N := some 99) #[true, true, true, true, true, true, true, true, true, true, true, true, true, true, true, true, false, false] rfl rfl (by kernel_rfl) (by decide) (fun K hK => ?_)
       refine goes_ Try.func38 (by kernel_rfl) rfl #[.agg #[.slice A0 m.length c0], .agg #[.int .i64 F_, .int .i64 Bl, .int .i64 At, .slice A3 l.length c3, .int .u16 Fly]] (by rfl) rfl rfl (by simp only [List.map_toArray, List.map_cons, List.map_nil]; rfl) ?_
       with_reducible refine (rright_c m A0 c0 F_ Bl At A3 c3 l Fly _ (Kd.C_below HM.out (HB.out.trans (hS.1.mono HB.out.size)))).mono ?_
       rintro e w8 ⟨he, hb⟩
       rw [← rfR_eq HRR.out, HFR.out] at he
       subst he
       refine ⟨_, rfl, ?_⟩
       have hS' := And.intro (hS.1.trans (hb.mono hS.1.size)) (And.intro (blk_below hS.2.1 hb) (And.intro (blk_below hS.2.2.1 hb) (And.intro (blk_below hS.2.2.2.1 hb) (And.intro (blk_below hS.2.2.2.2.1 hb) (blk_below hS.2.2.2.2.2 hb)))))
       clear hb
       refine hK _ _ hS' (fun hS => ?_)
       clear hK K
       try simp only [Act.put, List.setIfInBounds_toArray, List.set_cons_zero, List.set_cons_succ]
       refine take_ (i := 16) (N := some 100) (v := .bool false) (a' := ?axt14) #[true, true, true, true, true, true, true, true, true, true, true, true, true, true, true, true, true, false] rfl rfl (by kernel_rfl) (fun _ _ _ h => h) (Or.inl ⟨by rfl, ?yyt14⟩) hS ?hat14 ?hht14
       case yyt14 => intro W hW; have c0_0 := (blk_cell hW.2.1 0).trans rfl; have c1_0 := (blk_cell hW.2.2.1 0).trans rfl; have c1_1 := (blk_cell hW.2.2.1 1).trans rfl; have c1_2 := (blk_cell hW.2.2.1 2).trans rfl; have c1_3 := (blk_cell hW.2.2.1 3).trans rfl; have c1_4 := (blk_cell hW.2.2.1 4).trans rfl; have c2_0 := (blk_cell hW.2.2.2.1 0).trans rfl; have c2_1 := (blk_cell hW.2.2.2.1 1).trans rfl; have c2_2 := (blk_cell hW.2.2.2.1 2).trans rfl; have c2_3 := (blk_cell hW.2.2.2.1 3).trans rfl; have c2_4 := (blk_cell hW.2.2.2.1 4).trans rfl; have c3_0 := (blk_cell hW.2.2.2.2.1 0).trans rfl; have c3_1 := (blk_cell hW.2.2.2.2.1 1).trans rfl; have c3_2 := (blk_cell hW.2.2.2.2.1 2).trans rfl; have c3_3 := (blk_cell hW.2.2.2.2.1 3).trans rfl; have c3_4 := (blk_cell hW.2.2.2.2.1 4).trans rfl; have c4_0 := (blk_cell hW.2.2.2.2.2 0).trans rfl; have c4_1 := (blk_cell hW.2.2.2.2.2 1).trans rfl; have c4_2 := (blk_cell hW.2.2.2.2.2 2).trans rfl; have c4_3 := (blk_cell hW.2.2.2.2.2 3).trans rfl; have c4_4 := (blk_cell hW.2.2.2.2.2 4).trans rfl; go_simp; done
       case hat14 => try simp only [Act.put, List.setIfInBounds_toArray, List.set_cons_zero, List.set_cons_succ]; exact rfl
       refine take_ (i := 17) (N := some 101) (v := .bool false) (a' := ?axt15) #[true, true, true, true, true, true, true, true, true, true, true, true, true, true, true, true, true, true] rfl rfl (by kernel_rfl) (fun _ _ _ h => h) (Or.inl ⟨by rfl, ?yyt15⟩) hS ?hat15 ?hht15
       case yyt15 => intro W hW; have c0_0 := (blk_cell hW.2.1 0).trans rfl; have c1_0 := (blk_cell hW.2.2.1 0).trans rfl; have c1_1 := (blk_cell hW.2.2.1 1).trans rfl; have c1_2 := (blk_cell hW.2.2.1 2).trans rfl; have c1_3 := (blk_cell hW.2.2.1 3).trans rfl; have c1_4 := (blk_cell hW.2.2.1 4).trans rfl; have c2_0 := (blk_cell hW.2.2.2.1 0).trans rfl; have c2_1 := (blk_cell hW.2.2.2.1 1).trans rfl; have c2_2 := (blk_cell hW.2.2.2.1 2).trans rfl; have c2_3 := (blk_cell hW.2.2.2.1 3).trans rfl; have c2_4 := (blk_cell hW.2.2.2.1 4).trans rfl; have c3_0 := (blk_cell hW.2.2.2.2.1 0).trans rfl; have c3_1 := (blk_cell hW.2.2.2.2.1 1).trans rfl; have c3_2 := (blk_cell hW.2.2.2.2.1 2).trans rfl; have c3_3 := (blk_cell hW.2.2.2.2.1 3).trans rfl; have c3_4 := (blk_cell hW.2.2.2.2.1 4).trans rfl; have c4_0 := (blk_cell hW.2.2.2.2.2 0).trans rfl; have c4_1 := (blk_cell hW.2.2.2.2.2 1).trans rfl; have c4_2 := (blk_cell hW.2.2.2.2.2 2).trans rfl; have c4_3 := (blk_cell hW.2.2.2.2.2 3).trans rfl; have c4_4 := (blk_cell hW.2.2.2.2.2 4).trans rfl; go_simp; done
       case hat15 => try simp only [Act.put, List.setIfInBounds_toArray, List.set_cons_zero, List.set_cons_succ]; exact rfl
       refine done_ (by kernel_rfl) ?_
       go_wp2
       go_meet
       exact ⟨rfl, ⟨HB.out.trans (hS.1.mono HB.out.size)⟩, ⟨hS.2.1⟩, ⟨hS.2.2.1⟩, ⟨hS.2.2.2.1⟩, ⟨hS.2.2.2.2.1⟩, ⟨hS.2.2.2.2.2⟩, ⟨(Kd.C_below R13.out hS.1)⟩, ⟨(Kd.C_below R15.out hS.1)⟩, ⟨(Kd.C_below R17.out hS.1)⟩⟩
      case rest =>
       clear k0 h0 h1 h2 h3 h4
       clear HB X6 X7 X13 X15 X17 R13 R15 R17
       obtain ⟨rfl, HB, X6, X7, X13, X15, X17, R13, R15, R17⟩ := hcut
       have k0 := (blk_cell X6.out 0).trans rfl
       have h0 := (blk_cell X7.out 0).trans rfl
       have h1 := (blk_cell X7.out 1).trans rfl
       have h2 := (blk_cell X7.out 2).trans rfl
       have h3 := (blk_cell X7.out 3).trans rfl
       have h4 := (blk_cell X7.out 4).trans rfl
       cases fr with
       | false =>
        have HZ := Aside0.mk (lf_no (pd := pd) Fly v HFR.out)
        rw [HZ.out.1, HZ.out.2.1, HZ.out.2.2.1, HZ.out.2.2.2.1] at X15
        rw [HZ.out.2.2.1] at R15 HLO15
        rw [HZ.out.2.2.2.2]
        have sa0 := (blk_cell X13.out 0).trans rfl
        have sa1 := (blk_cell X13.out 1).trans rfl
        have sa2 := (blk_cell X13.out 2).trans rfl
        have sa3 := (blk_cell X13.out 3).trans rfl
        have sa4 := (blk_cell X13.out 4).trans rfl
        have sb0 := (blk_cell X15.out 0).trans rfl
        have sb1 := (blk_cell X15.out 1).trans rfl
        have sb2 := (blk_cell X15.out 2).trans rfl
        have sb3 := (blk_cell X15.out 3).trans rfl
        have sb4 := (blk_cell X15.out 4).trans rfl
        have sc0 := (blk_cell X17.out 0).trans rfl
        have sc1 := (blk_cell X17.out 1).trans rfl
        have sc2 := (blk_cell X17.out 2).trans rfl
        have sc3 := (blk_cell X17.out 3).trans rfl
        have sc4 := (blk_cell X17.out 4).trans rfl
        go_wp2_with (first | (go_at_call 38; ((with_reducible refine (rright_c m A0 c0 F_ Bl At A3 c3 l Fly _ (Kd.C_below HM.out HB.out)).mono ?_); rintro e w9 ⟨he, hb⟩; rw [← rfR_eq HRR.out, HFR.out] at he; subst he; clear k0 h0 h1 h2 h3 h4 sa0 sa1 sa2 sa3 sa4 sb0 sb1 sb2 sb3 sb4 sc0 sc1 sc2 sc3 sc4; have n0_ := Aside0.mk (below_step HB.out hb); have n1_ := Aside0.mk (blk_below X6.out hb); have n2_ := Aside0.mk (blk_below X7.out hb); have n3_ := Aside0.mk (blk_below X13.out hb); have n4_ := Aside0.mk (blk_below X15.out hb); have n5_ := Aside0.mk (blk_below X17.out hb); have n6_ := Aside0.mk (Kd.C_below R13.out hb); have n7_ := Aside0.mk (Kd.C_below R15.out hb); have n8_ := Aside0.mk (Kd.C_below R17.out hb); clear HB X6 X7 X13 X15 X17 R13 R15 R17; have HB := n0_; have X6 := n1_; have X7 := n2_; have X13 := n3_; have X15 := n4_; have X17 := n5_; have R13 := n6_; have R15 := n7_; have R17 := n8_; clear n0_ n1_ n2_ n3_ n4_ n5_ n6_ n7_ n8_; clear hb; have k0 := (blk_cell X6.out 0).trans rfl; have h0 := (blk_cell X7.out 0).trans rfl; have h1 := (blk_cell X7.out 1).trans rfl; have h2 := (blk_cell X7.out 2).trans rfl; have h3 := (blk_cell X7.out 3).trans rfl; have h4 := (blk_cell X7.out 4).trans rfl; have sa0 := (blk_cell X13.out 0).trans rfl; have sa1 := (blk_cell X13.out 1).trans rfl; have sa2 := (blk_cell X13.out 2).trans rfl; have sa3 := (blk_cell X13.out 3).trans rfl; have sa4 := (blk_cell X13.out 4).trans rfl; have sb0 := (blk_cell X15.out 0).trans rfl; have sb1 := (blk_cell X15.out 1).trans rfl; have sb2 := (blk_cell X15.out 2).trans rfl; have sb3 := (blk_cell X15.out 3).trans rfl; have sb4 := (blk_cell X15.out 4).trans rfl; have sc0 := (blk_cell X17.out 0).trans rfl; have sc1 := (blk_cell X17.out 1).trans rfl; have sc2 := (blk_cell X17.out 2).trans rfl; have sc3 := (blk_cell X17.out 3).trans rfl; have sc4 := (blk_cell X17.out 4).trans rfl)) | (go_at_call 29; ((with_reducible refine (same5_c F_ Bl At A15 co15 l Fly F_ Bl At A3 c3 l Fly _ R15.out HLO15.out (Kd.C_below HL.out HB.out) HC3.out (by have := HN.out; omega)).mono ?_); rintro e w9 ⟨he, hb⟩; rw [sameW_refl] at he; subst he; clear k0 h0 h1 h2 h3 h4 sa0 sa1 sa2 sa3 sa4 sb0 sb1 sb2 sb3 sb4; have n0_ := Aside0.mk (below_step HB.out hb); have n1_ := Aside0.mk (blk_below X6.out hb); have n2_ := Aside0.mk (blk_below X7.out hb); have n3_ := Aside0.mk (blk_below X13.out hb); have n4_ := Aside0.mk (blk_below X15.out hb); have n5_ := Aside0.mk (Kd.C_below R13.out hb); have n6_ := Aside0.mk (Kd.C_below R15.out hb); clear HB X6 X7 X13 X15 R13 R15; have HB := n0_; have X6 := n1_; have X7 := n2_; have X13 := n3_; have X15 := n4_; have R13 := n5_; have R15 := n6_; clear n0_ n1_ n2_ n3_ n4_ n5_ n6_; clear hb; have k0 := (blk_cell X6.out 0).trans rfl; have h0 := (blk_cell X7.out 0).trans rfl; have h1 := (blk_cell X7.out 1).trans rfl; have h2 := (blk_cell X7.out 2).trans rfl; have h3 := (blk_cell X7.out 3).trans rfl; have h4 := (blk_cell X7.out 4).trans rfl; have sa0 := (blk_cell X13.out 0).trans rfl; have sa1 := (blk_cell X13.out 1).trans rfl; have sa2 := (blk_cell X13.out 2).trans rfl; have sa3 := (blk_cell X13.out 3).trans rfl; have sa4 := (blk_cell X13.out 4).trans rfl; have sb0 := (blk_cell X15.out 0).trans rfl; have sb1 := (blk_cell X15.out 1).trans rfl; have sb2 := (blk_cell X15.out 2).trans rfl; have sb3 := (blk_cell X15.out 3).trans rfl; have sb4 := (blk_cell X15.out 4).trans rfl)))
        go_ret
        exact ⟨rfl, HB.out⟩
       | true =>
        have sa0 := (blk_cell X13.out 0).trans rfl
        have sa1 := (blk_cell X13.out 1).trans rfl
        have sa2 := (blk_cell X13.out 2).trans rfl
        have sa3 := (blk_cell X13.out 3).trans rfl
        have sa4 := (blk_cell X13.out 4).trans rfl
        have sb0 := (blk_cell X15.out 0).trans rfl
        have sb1 := (blk_cell X15.out 1).trans rfl
        have sb2 := (blk_cell X15.out 2).trans rfl
        have sb3 := (blk_cell X15.out 3).trans rfl
        have sb4 := (blk_cell X15.out 4).trans rfl
        have sc0 := (blk_cell X17.out 0).trans rfl
        have sc1 := (blk_cell X17.out 1).trans rfl
        have sc2 := (blk_cell X17.out 2).trans rfl
        have sc3 := (blk_cell X17.out 3).trans rfl
        have sc4 := (blk_cell X17.out 4).trans rfl
        go_upto_region 14 with (go_at_call 38; ((with_reducible refine (rright_c m A0 c0 F_ Bl At A3 c3 l Fly _ (Kd.C_below HM.out HB.out)).mono ?_); rintro e w9 ⟨he, hb⟩; rw [← rfR_eq HRR.out, HFR.out] at he; subst he; clear k0 h0 h1 h2 h3 h4 sa0 sa1 sa2 sa3 sa4 sb0 sb1 sb2 sb3 sb4 sc0 sc1 sc2 sc3 sc4; have n0_ := Aside0.mk (below_step HB.out hb); have n1_ := Aside0.mk (blk_below X6.out hb); have n2_ := Aside0.mk (blk_below X7.out hb); have n3_ := Aside0.mk (blk_below X13.out hb); have n4_ := Aside0.mk (blk_below X15.out hb); have n5_ := Aside0.mk (blk_below X17.out hb); have n6_ := Aside0.mk (Kd.C_below R13.out hb); have n7_ := Aside0.mk (Kd.C_below R15.out hb); have n8_ := Aside0.mk (Kd.C_below R17.out hb); clear HB X6 X7 X13 X15 X17 R13 R15 R17; have HB := n0_; have X6 := n1_; have X7 := n2_; have X13 := n3_; have X15 := n4_; have X17 := n5_; have R13 := n6_; have R15 := n7_; have R17 := n8_; clear n0_ n1_ n2_ n3_ n4_ n5_ n6_ n7_ n8_; clear hb; have k0 := (blk_cell X6.out 0).trans rfl; have h0 := (blk_cell X7.out 0).trans rfl; have h1 := (blk_cell X7.out 1).trans rfl; have h2 := (blk_cell X7.out 2).trans rfl; have h3 := (blk_cell X7.out 3).trans rfl; have h4 := (blk_cell X7.out 4).trans rfl; have sa0 := (blk_cell X13.out 0).trans rfl; have sa1 := (blk_cell X13.out 1).trans rfl; have sa2 := (blk_cell X13.out 2).trans rfl; have sa3 := (blk_cell X13.out 3).trans rfl; have sa4 := (blk_cell X13.out 4).trans rfl; have sb0 := (blk_cell X15.out 0).trans rfl; have sb1 := (blk_cell X15.out 1).trans rfl; have sb2 := (blk_cell X15.out 2).trans rfl; have sb3 := (blk_cell X15.out 3).trans rfl; have sb4 := (blk_cell X15.out 4).trans rfl; have sc0 := (blk_cell X17.out 0).trans rfl; have sc1 := (blk_cell X17.out 1).trans rfl; have sc2 := (blk_cell X17.out 2).trans rfl; have sc3 := (blk_cell X17.out 3).trans rfl; have sc4 := (blk_cell X17.out 4).trans rfl))
        go_cut [19, 20] (fun v19 v20 wc => ∃ (g19 : Nat) (A19 : Option Addr) (co19 : Nat), v19 = .pointer (some ⟨g19, 0, none⟩) ∧ v20 = .int .i64 (lfE m F_ Bl At l Fly pd v) ∧ Aside0 (wc.heap[g19]? = some (.cells #[.int .i64 F_, .int .i64 (lfB m F_ Bl At l Fly pd v), .int .i64 (lfA m F_ Bl At l Fly pd v), .slice A19 (lfL m F_ Bl At l Fly pd v).length co19, .int .u16 (lfY m F_ Bl At l Fly pd v)] 55 (0, 0))) ∧ Aside0 ((lfL m F_ Bl At l Fly pd v).length ≤ co19) ∧ Aside0 (Kd.C (Kd.int .u16) wc A19 (lfL m F_ Bl At l Fly pd v).length (lfL m F_ Bl At l Fly pd v)) ∧ Aside0 (Below w.heap.size w wc) ∧ Aside0 (wc.heap[g6]? = some (.cells #[.slice A0 m.length c0] 24 (0, 0))) ∧ Aside0 (wc.heap[g7]? = some (.cells #[.int .i64 F_, .int .i64 Bl, .int .i64 At, .slice A3 l.length c3, .int .u16 Fly] 55 (0, 0))) ∧ Aside0 (wc.heap[g13]? = some (.cells #[.int .i64 (onF m n l2).1, .int .i64 0, .int .i64 0, .slice A13 (onF m n l2).2.1.length co13, .int .u16 0] 55 (0, 0))) ∧ Aside0 (wc.heap[g15]? = some (.cells #[.int .i64 F_, .int .i64 (lfB m F_ Bl At l Fly pd v), .int .i64 (lfA m F_ Bl At l Fly pd v), .slice A15 (lfL m F_ Bl At l Fly pd v).length co15, .int .u16 (lfY m F_ Bl At l Fly pd v)] 55 (0, 0))) ∧ Aside0 (wc.heap[g17]? = some (.cells #[.int .i64 (onF m n l2).1, .int .i64 0, .int .i64 0, .slice A17 (onF m n l2).2.1.length co17, .int .u16 0] 55 (0, 0))) ∧ Aside0 (Kd.C (Kd.int .u16) wc A13 (onF m n l2).2.1.length (onF m n l2).2.1) ∧ Aside0 (Kd.C (Kd.int .u16) wc A15 (lfL m F_ Bl At l Fly pd v).length (lfL m F_ Bl At l Fly pd v)) ∧ Aside0 (Kd.C (Kd.int .u16) wc A17 (onF m n l2).2.1.length (onF m n l2).2.1))
        case first =>
         go_wp2_with (go_at_call 39; ((with_reducible refine (rland2_c m A0 c0 F_ Bl At A3 c3 l Fly pd v _ (Kd.C_below HM.out HB.out) (Kd.C_below HL.out HB.out) HC3.out (by have := HN.out; omega) HFR.out).mono ?_); rintro e w9 ⟨⟨Ao, co, rfl, hlo, hr⟩, hb⟩; have HLO := Aside0.mk hlo; have HRO := Aside0.mk hr; have HB9 := Aside0.mk hb; clear hlo hr hb))
         go_meet
         exact ⟨_, _, _, rfl, rfl, ⟨blk_new _ _⟩, HLO, ⟨Kd.C_below HRO.out (below_alloc (Below.refl _ _) _)⟩, ⟨HB.out.trans ((below_alloc HB9.out _).mono HB.out.size)⟩, ⟨blk_below X6.out (below_alloc HB9.out _)⟩, ⟨blk_below X7.out (below_alloc HB9.out _)⟩, ⟨blk_below X13.out (below_alloc HB9.out _)⟩, ⟨blk_below X15.out (below_alloc HB9.out _)⟩, ⟨blk_below X17.out (below_alloc HB9.out _)⟩, ⟨Kd.C_below R13.out (below_alloc HB9.out _)⟩, ⟨Kd.C_below R15.out (below_alloc HB9.out _)⟩, ⟨Kd.C_below R17.out (below_alloc HB9.out _)⟩⟩
        case rest =>
         clear k0 h0 h1 h2 h3 h4 sa0 sa1 sa2 sa3 sa4 sb0 sb1 sb2 sb3 sb4 sc0 sc1 sc2 sc3 sc4
         clear HB X6 X7 X13 X15 X17 R13 R15 R17
         obtain ⟨g19, A19, co19, rfl, rfl, X19, HLO19, R19, HB, X6, X7, X13, X15, X17, R13, R15, R17⟩ := hcut
         have k0 := (blk_cell X6.out 0).trans rfl
         have h0 := (blk_cell X7.out 0).trans rfl
         have h1 := (blk_cell X7.out 1).trans rfl
         have h2 := (blk_cell X7.out 2).trans rfl
         have h3 := (blk_cell X7.out 3).trans rfl
         have h4 := (blk_cell X7.out 4).trans rfl
         have sa0 := (blk_cell X13.out 0).trans rfl
         have sa1 := (blk_cell X13.out 1).trans rfl
         have sa2 := (blk_cell X13.out 2).trans rfl
         have sa3 := (blk_cell X13.out 3).trans rfl
         have sa4 := (blk_cell X13.out 4).trans rfl
         have sb0 := (blk_cell X15.out 0).trans rfl
         have sb1 := (blk_cell X15.out 1).trans rfl
         have sb2 := (blk_cell X15.out 2).trans rfl
         have sb3 := (blk_cell X15.out 3).trans rfl
         have sb4 := (blk_cell X15.out 4).trans rfl
         have sc0 := (blk_cell X17.out 0).trans rfl
         have sc1 := (blk_cell X17.out 1).trans rfl
         have sc2 := (blk_cell X17.out 2).trans rfl
         have sc3 := (blk_cell X17.out 3).trans rfl
         have sc4 := (blk_cell X17.out 4).trans rfl
         have sd0 := (blk_cell X19.out 0).trans rfl
         have sd1 := (blk_cell X19.out 1).trans rfl
         have sd2 := (blk_cell X19.out 2).trans rfl
         have sd3 := (blk_cell X19.out 3).trans rfl
         have sd4 := (blk_cell X19.out 4).trans rfl
         go_wp2_with (first | (go_at_call 29; ((with_reducible refine (same5_c F_ (lfB m F_ Bl At l Fly pd v) (lfA m F_ Bl At l Fly pd v) A15 co15 (lfL m F_ Bl At l Fly pd v) (lfY m F_ Bl At l Fly pd v) F_ (lfB m F_ Bl At l Fly pd v) (lfA m F_ Bl At l Fly pd v) A19 co19 (lfL m F_ Bl At l Fly pd v) (lfY m F_ Bl At l Fly pd v) _ R15.out HLO15.out R19.out HLO19.out (by rw [lfL_len]; have := HN.out; omega)).mono ?_); rintro e w9 ⟨he, hb⟩; rw [sameW_refl] at he; subst he; clear k0 h0 h1 h2 h3 h4 sa0 sa1 sa2 sa3 sa4 sb0 sb1 sb2 sb3 sb4 sc0 sc1 sc2 sc3 sc4 sd0 sd1 sd2 sd3 sd4; have n0_ := Aside0.mk (below_step HB.out hb); have n1_ := Aside0.mk (blk_below X6.out hb); have n2_ := Aside0.mk (blk_below X7.out hb); have n3_ := Aside0.mk (blk_below X13.out hb); have n4_ := Aside0.mk (blk_below X15.out hb); have n5_ := Aside0.mk (blk_below X17.out hb); have n6_ := Aside0.mk (blk_below X19.out hb); have n7_ := Aside0.mk (Kd.C_below R13.out hb); have n8_ := Aside0.mk (Kd.C_below R15.out hb); have n9_ := Aside0.mk (Kd.C_below R17.out hb); have n10_ := Aside0.mk (Kd.C_below R19.out hb); clear HB X6 X7 X13 X15 X17 X19 R13 R15 R17 R19; have HB := n0_; have X6 := n1_; have X7 := n2_; have X13 := n3_; have X15 := n4_; have X17 := n5_; have X19 := n6_; have R13 := n7_; have R15 := n8_; have R17 := n9_; have R19 := n10_; clear n0_ n1_ n2_ n3_ n4_ n5_ n6_ n7_ n8_ n9_ n10_; clear hb; have k0 := (blk_cell X6.out 0).trans rfl; have h0 := (blk_cell X7.out 0).trans rfl; have h1 := (blk_cell X7.out 1).trans rfl; have h2 := (blk_cell X7.out 2).trans rfl; have h3 := (blk_cell X7.out 3).trans rfl; have h4 := (blk_cell X7.out 4).trans rfl; have sa0 := (blk_cell X13.out 0).trans rfl; have sa1 := (blk_cell X13.out 1).trans rfl; have sa2 := (blk_cell X13.out 2).trans rfl; have sa3 := (blk_cell X13.out 3).trans rfl; have sa4 := (blk_cell X13.out 4).trans rfl; have sb0 := (blk_cell X15.out 0).trans rfl; have sb1 := (blk_cell X15.out 1).trans rfl; have sb2 := (blk_cell X15.out 2).trans rfl; have sb3 := (blk_cell X15.out 3).trans rfl; have sb4 := (blk_cell X15.out 4).trans rfl; have sc0 := (blk_cell X17.out 0).trans rfl; have sc1 := (blk_cell X17.out 1).trans rfl; have sc2 := (blk_cell X17.out 2).trans rfl; have sc3 := (blk_cell X17.out 3).trans rfl; have sc4 := (blk_cell X17.out 4).trans rfl; have sd0 := (blk_cell X19.out 0).trans rfl; have sd1 := (blk_cell X19.out 1).trans rfl; have sd2 := (blk_cell X19.out 2).trans rfl; have sd3 := (blk_cell X19.out 3).trans rfl; have sd4 := (blk_cell X19.out 4).trans rfl)) | (go_at_call 36; ((with_reducible refine (fright_l m A0 c0 F_ (lfB m F_ Bl At l Fly pd v) (lfA m F_ Bl At l Fly pd v) A15 co15 (lfL m F_ Bl At l Fly pd v) (lfY m F_ Bl At l Fly pd v) _ (Kd.C_below HM.out HB.out) HBND.out).mono ?_); rintro e w9 ⟨he, hb⟩; rw [lf_right Fly v HFR.out] at he; subst he; clear k0 h0 h1 h2 h3 h4 sa0 sa1 sa2 sa3 sa4 sb0 sb1 sb2 sb3 sb4 sc0 sc1 sc2 sc3 sc4 sd0 sd1 sd2 sd3 sd4; have n0_ := Aside0.mk (below_step HB.out hb); have n1_ := Aside0.mk (blk_below X6.out hb); have n2_ := Aside0.mk (blk_below X7.out hb); have n3_ := Aside0.mk (blk_below X13.out hb); have n4_ := Aside0.mk (blk_below X15.out hb); have n5_ := Aside0.mk (blk_below X17.out hb); have n6_ := Aside0.mk (blk_below X19.out hb); have n7_ := Aside0.mk (Kd.C_below R13.out hb); have n8_ := Aside0.mk (Kd.C_below R15.out hb); have n9_ := Aside0.mk (Kd.C_below R17.out hb); have n10_ := Aside0.mk (Kd.C_below R19.out hb); clear HB X6 X7 X13 X15 X17 X19 R13 R15 R17 R19; have HB := n0_; have X6 := n1_; have X7 := n2_; have X13 := n3_; have X15 := n4_; have X17 := n5_; have X19 := n6_; have R13 := n7_; have R15 := n8_; have R17 := n9_; have R19 := n10_; clear n0_ n1_ n2_ n3_ n4_ n5_ n6_ n7_ n8_ n9_ n10_; clear hb; have k0 := (blk_cell X6.out 0).trans rfl; have h0 := (blk_cell X7.out 0).trans rfl; have h1 := (blk_cell X7.out 1).trans rfl; have h2 := (blk_cell X7.out 2).trans rfl; have h3 := (blk_cell X7.out 3).trans rfl; have h4 := (blk_cell X7.out 4).trans rfl; have sa0 := (blk_cell X13.out 0).trans rfl; have sa1 := (blk_cell X13.out 1).trans rfl; have sa2 := (blk_cell X13.out 2).trans rfl; have sa3 := (blk_cell X13.out 3).trans rfl; have sa4 := (blk_cell X13.out 4).trans rfl; have sb0 := (blk_cell X15.out 0).trans rfl; have sb1 := (blk_cell X15.out 1).trans rfl; have sb2 := (blk_cell X15.out 2).trans rfl; have sb3 := (blk_cell X15.out 3).trans rfl; have sb4 := (blk_cell X15.out 4).trans rfl; have sc0 := (blk_cell X17.out 0).trans rfl; have sc1 := (blk_cell X17.out 1).trans rfl; have sc2 := (blk_cell X17.out 2).trans rfl; have sc3 := (blk_cell X17.out 3).trans rfl; have sc4 := (blk_cell X17.out 4).trans rfl; have sd0 := (blk_cell X19.out 0).trans rfl; have sd1 := (blk_cell X19.out 1).trans rfl; have sd2 := (blk_cell X19.out 2).trans rfl; have sd3 := (blk_cell X19.out 3).trans rfl; have sd4 := (blk_cell X19.out 4).trans rfl)))
         go_ret
         exact ⟨rfl, HB.out⟩
end Go.Proofs.Ytbfialebaoeicaa.X
namespace Go.Proofs.Ytbfialebaoeicaa.X
open Go.RowKit Go.Proofs.YtbfialebaoeicaaW.PrintWords
set_option linter.all false
theorem law_fright.calls (A0 : Option Addr) (c0 : Nat) (m : List S27) (f b a : Int) (A : Option Addr) (c : Nat) (l : List Int) (y n : Int) (A2 : Option Addr) (c2 : Nat) (l2 : List Int) (pd v : Int) (r : Bool) (w : World) (hm : Kd.C k27 w A0 m.length m) (hc0 : m.length ≤ c0) (hC : Kd.C (Kd.int .u16) w A l.length l) (hc : l.length ≤ c) (hC2 : Kd.C (Kd.int .u16) w A2 l2.length l2) (hc2 : l2.length ≤ c2) (_ : True) :
  Calls Try.prog 8 #[.agg #[.slice A0 m.length c0], .agg #[.int .i64 f, .int .i64 b, .int .i64 a, .slice A l.length c, .int .u16 y], .int .i64 n, .slice A2 l2.length c2, .int .i64 pd, .int .u16 v] w fun e w' => e = .returned (.bool true) ∧ Below w.heap.size w w' :=
 right_law m A0 c0 f b a A c l y n A2 c2 l2 pd v w hm hc0 hC hc hC2 hc2
end Go.Proofs.Ytbfialebaoeicaa.X
namespace Go.Proofs.Ytbfialebaoeicaa.Pure
open Go.Proofs.Ytbfialebaoeicaa.X
set_option linter.all false
theorem FrameRight (m : List S27) (f b a : Int) (l : List Int) (y : Int) (wl : ∀ x ∈ l, W16 x) (wy : W16 y) (n : Int) (l2 : List Int) (wl2 : ∀ x ∈ l2, W16 x) (pd v : Int) : ∃ _ : Unit, True := ⟨(), trivial⟩
end Go.Proofs.Ytbfialebaoeicaa.Pure
