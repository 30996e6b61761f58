/- Part 19 of the proof of the statement FrameLands: the words of the walks, the walks through the functions that it reaches, and the plain laws of what they compute. -/
import Derived.Test.YtbfialebaoeicaaMFrameLands17
import Derived.RegionTactic
import Derived.ChangeAlike
import Derived.Deep.QuietTactic
import Derived.BigQuiet
namespace Go.Proofs.Ytbfialebaoeicaa.X
open Go.RowKit Go.Proofs.YtbfialebaoeicaaW.PrintWords Go.Proofs.YtbfialebaoeicaaW.PrintLast Go.Proofs.YtbfialebaoeicaaW.PrintMore
set_option linter.all false
theorem frR_mk {m : List S27} {F_ Bl At k n : Int} (h : frR m F_ Bl At k = true) (h0 : 0 ≤ n) (h1 : n < ((rd_T27 m F_).f2.length : Int)) : frR m F_ n 0 k = true := by
 have h2 := frR_open h
 unfold frR win
 rw [h2.1, decide_eq_true h0, decide_eq_true h1, decide_eq_true h2.2.2.2, decide_eq_true (show (0 : Int) ≤ 0 by omega), decide_eq_true (show (0 : Int) ≤ ((rd_T41 (rd_T27 m F_).f2 n).f2.length : Int) by omega)]
 rfl
theorem okF_blocks {m : List S27} {F_ : Int} (h : okF m F_ = true) : 1 ≤ (rd_T27 m F_).f2.length ∧ (rd_T27 m F_).f2.length ≤ 64 := by
 unfold okF at h
 rw [Bool.and_eq_true] at h
 obtain ⟨h1, h2⟩ := h
 have h3 := win_at h2
 have hm := rd_mem' m z27 F_ h3.1 h3.2
 unfold rightR at h1
 simp only [Bool.and_eq_true, List.all_eq_true] at h1
 have h4 := h1.2 _ hm
 unfold funcR sizeR at h4
 simp only [Bool.and_eq_true, decide_eq_true_eq] at h4
 exact ⟨h4.1.1.1.2, h4.1.1.2⟩
theorem LandA.no {m : List S27} {F_ Bl At : Int} {l : List Int} {Fly n v : Int} {base : Nat} {w' : World} {e : Ending} (h : LandA m F_ Bl At l Fly n v base w' e) (hz : lnB m F_ Bl At l.length n = false) : ∃ Ao co, e = .returned (.tuple #[.agg #[.int .i64 F_, .int .i64 Bl, .int .i64 At, .slice Ao l.length co, .int .u16 Fly], .int .i64 1]) ∧ l.length ≤ co ∧ Kd.R (Kd.int .u16) 44 w' base (fun _ => True) (.slice Ao l.length co) l := by
 rcases h with ⟨_, h⟩ | ⟨h, _⟩
 ·exact h
 ·rw [hz] at h; cases h
theorem LandA.yes {m : List S27} {F_ Bl At : Int} {l : List Int} {Fly n v : Int} {base : Nat} {w' : World} {e : Ending} (h : LandA m F_ Bl At l Fly n v base w' e) (hz : lnB m F_ Bl At l.length n = true) : ∃ Ao co, e = .returned (.tuple #[.agg #[.int .i64 F_, .int .i64 n, .int .i64 0, .slice Ao l.length co, .int .u16 v], .int .i64 0]) ∧ l.length ≤ co ∧ Kd.R (Kd.int .u16) 44 w' base (fun _ => True) (.slice Ao l.length co) (l.set (lnD m F_ n).toNat v) := by
 rcases h with ⟨h, _⟩ | ⟨_, h⟩
 ·rw [hz] at h; cases h
 ·exact h
theorem mod_in {pd : Int} {n : Nat} (h : 0 ≤ pd ∧ pd ≤ 255) (hn : 1 ≤ n) : 0 ≤ (wrap64 pd).tmod n ∧ (wrap64 pd).tmod n < (n : Int) := by
 rw [wrap_in pd (by omega) (by omega), Int.tmod_eq_emod_of_nonneg h.1]
 exact ⟨Int.emod_nonneg _ (by omega), Int.emod_lt_of_pos _ (by omega)⟩
set_option maxHeartbeats 16000000 in
set_option maxRecDepth 100000 in
theorem lands_c (m : List S27) (A0 : Option Addr) (c0 : Nat) (F_ Bl At : Int) (A3 : Option Addr) (c3 : Nat) (l : List Int) (Fly : Int) (pd v : Int) (w : World) (hm : Kd.C k27 w A0 m.length m) (hc0 : m.length ≤ c0) (hl : Kd.C (Kd.int .u16) w A3 l.length l) (hc3 : l.length ≤ c3) (hp : 0 ≤ pd ∧ pd ≤ 255) :
  Calls Try.prog 9 #[.agg #[.slice A0 m.length c0], .agg #[.int .i64 F_, .int .i64 Bl, .int .i64 At, .slice A3 l.length c3, .int .u16 Fly], .int .u8 pd, .int .u16 v] w fun e w' => e = .returned (.bool true) ∧ Below w.heap.size w w' := by
 have HM := Aside0.mk hm
 have HC0 := Aside0.mk hc0
 have HL := Aside0.mk hl
 have HC3 := Aside0.mk hc3
 have HP := Aside0.mk hp
 clear hm hc0 hl hc3 hp
 have hu24 := Try.underlying24
 have hu27 := Try.underlying27
 have hu55 := Try.underlying55
 have hu41 := Try.underlying41
 have hu35 := Try.underlying35
 obtain ⟨sh, hs1, hs2⟩ := short_c m
 have HSH := Aside0.mk hs2
 clear hs2
 cases sh with
 | false =>
  go_enter Try.func9, Try.ntmps9
  go_wp2_with (first | ((with_reducible refine gate_dst (N := 4) rfl ?_); refine box_event ?hg (N := 4) ?hd (cs := #[.slice A0 m.length c0]) (t := 24) ?hr ?_; (case hd => rfl); (case hg => rfl); (case hr => first | (go_simp; done) | (go_simp; rfl)); intro g4 hg w4 hbox hb; have HB := Aside0.mk hb; have X4 := Aside0.mk hbox; clear hbox hb hg) | ((with_reducible refine gate_dst (N := 5) rfl ?_); refine box_event ?hg (N := 5) ?hd (cs := #[.int .i64 F_, .int .i64 Bl, .int .i64 At, .slice A3 l.length c3, .int .u16 Fly]) (t := 55) ?hr ?_; (case hd => rfl); (case hg => rfl); (case hr => first | (go_simp; done) | (go_simp; rfl)); intro g5 hg w5 hbox hb; have n0_ := Aside0.mk (below_step HB.out hb); have n1_ := Aside0.mk (blk_below X4.out hb); clear HB X4; have HB := n0_; have X4 := n1_; clear n0_ n1_; have X5 := Aside0.mk hbox; clear hbox hb hg; have k0 := (blk_cell X4.out 0).trans rfl; have h0 := (blk_cell X5.out 0).trans rfl; have h1 := (blk_cell X5.out 1).trans rfl; have h2 := (blk_cell X5.out 2).trans rfl; have h3 := (blk_cell X5.out 3).trans rfl; have h4 := (blk_cell X5.out 4).trans rfl) | (go_at_call 27; (with_reducible refine (awake5_c _).mono ?_); rintro e w8 ⟨rfl, hb⟩; clear k0 h0 h1 h2 h3 h4; have n0_ := Aside0.mk (below_step HB.out hb); have n1_ := Aside0.mk (blk_below X4.out hb); have n2_ := Aside0.mk (blk_below X5.out hb); clear HB X4 X5; have HB := n0_; have X4 := n1_; have X5 := n2_; clear n0_ n1_ n2_; clear hb; have k0 := (blk_cell X4.out 0).trans rfl; have h0 := (blk_cell X5.out 0).trans rfl; have h1 := (blk_cell X5.out 1).trans rfl; have h2 := (blk_cell X5.out 2).trans rfl; have h3 := (blk_cell X5.out 3).trans rfl; have h4 := (blk_cell X5.out 4).trans rfl) | (go_at_call 15; (with_reducible refine (HSH.out A0 c0 _ (Kd.C_below HM.out HB.out) HC0.out).mono ?_); rintro e w8 ⟨rfl, hb⟩; clear k0 h0 h1 h2 h3 h4; have n0_ := Aside0.mk (below_step HB.out hb); have n1_ := Aside0.mk (blk_below X4.out hb); have n2_ := Aside0.mk (blk_below X5.out hb); clear HB X4 X5; have HB := n0_; have X4 := n1_; have X5 := n2_; clear n0_ n1_ n2_; clear hb; have k0 := (blk_cell X4.out 0).trans rfl; have h0 := (blk_cell X5.out 0).trans rfl; have h1 := (blk_cell X5.out 1).trans rfl; have h2 := (blk_cell X5.out 2).trans rfl; have h3 := (blk_cell X5.out 3).trans rfl; have h4 := (blk_cell X5.out 4).trans rfl))
  go_ret
  exact ⟨rfl, HB.out⟩
 | true =>
  have HS := Aside0.mk (hs1 rfl)
  have HBND := Aside0.mk (Sh.bnd (hs1 rfl))
  clear hs1
  by_cases q1 : (300 : Int) < (l.length : Int)
  ·have d1 : decide ((300 : Int) < (l.length : Int)) = true := decide_eq_true q1
   have d1' : decide (300 < l.length) = true := decide_eq_true (by omega)
   clear q1
   go_enter Try.func9, Try.ntmps9
   go_wp2_with (first | ((with_reducible refine gate_dst (N := 4) rfl ?_); refine box_event ?hg (N := 4) ?hd (cs := #[.slice A0 m.length c0]) (t := 24) ?hr ?_; (case hd => rfl); (case hg => rfl); (case hr => first | (go_simp; done) | (go_simp; rfl)); intro g4 hg w4 hbox hb; have HB := Aside0.mk hb; have X4 := Aside0.mk hbox; clear hbox hb hg) | ((with_reducible refine gate_dst (N := 5) rfl ?_); refine box_event ?hg (N := 5) ?hd (cs := #[.int .i64 F_, .int .i64 Bl, .int .i64 At, .slice A3 l.length c3, .int .u16 Fly]) (t := 55) ?hr ?_; (case hd => rfl); (case hg => rfl); (case hr => first | (go_simp; done) | (go_simp; rfl)); intro g5 hg w5 hbox hb; have n0_ := Aside0.mk (below_step HB.out hb); have n1_ := Aside0.mk (blk_below X4.out hb); clear HB X4; have HB := n0_; have X4 := n1_; clear n0_ n1_; have X5 := Aside0.mk hbox; clear hbox hb hg; have k0 := (blk_cell X4.out 0).trans rfl; have h0 := (blk_cell X5.out 0).trans rfl; have h1 := (blk_cell X5.out 1).trans rfl; have h2 := (blk_cell X5.out 2).trans rfl; have h3 := (blk_cell X5.out 3).trans rfl; have h4 := (blk_cell X5.out 4).trans rfl) | (go_at_call 27; (with_reducible refine (awake5_c _).mono ?_); rintro e w8 ⟨rfl, hb⟩; clear k0 h0 h1 h2 h3 h4; have n0_ := Aside0.mk (below_step HB.out hb); have n1_ := Aside0.mk (blk_below X4.out hb); have n2_ := Aside0.mk (blk_below X5.out hb); clear HB X4 X5; have HB := n0_; have X4 := n1_; have X5 := n2_; clear n0_ n1_ n2_; clear hb; have k0 := (blk_cell X4.out 0).trans rfl; have h0 := (blk_cell X5.out 0).trans rfl; have h1 := (blk_cell X5.out 1).trans rfl; have h2 := (blk_cell X5.out 2).trans rfl; have h3 := (blk_cell X5.out 3).trans rfl; have h4 := (blk_cell X5.out 4).trans rfl) | (go_at_call 15; (with_reducible refine (HSH.out A0 c0 _ (Kd.C_below HM.out HB.out) HC0.out).mono ?_); rintro e w8 ⟨rfl, hb⟩; clear k0 h0 h1 h2 h3 h4; have n0_ := Aside0.mk (below_step HB.out hb); have n1_ := Aside0.mk (blk_below X4.out hb); have n2_ := Aside0.mk (blk_below X5.out hb); clear HB X4 X5; have HB := n0_; have X4 := n1_; have X5 := n2_; clear n0_ n1_ n2_; clear hb; have k0 := (blk_cell X4.out 0).trans rfl; have h0 := (blk_cell X5.out 0).trans rfl; have h1 := (blk_cell X5.out 1).trans rfl; have h2 := (blk_cell X5.out 2).trans rfl; have h3 := (blk_cell X5.out 3).trans rfl; have h4 := (blk_cell X5.out 4).trans rfl))
   go_ret
   exact ⟨rfl, HB.out⟩
  have d1 : decide ((300 : Int) < (l.length : Int)) = false := decide_eq_false q1
  have d1' : decide (300 < l.length) = false := decide_eq_false (by omega)
  have HN := Aside0.mk (show l.length ≤ 300 by omega)
  clear q1
  cases hfr : frR m F_ Bl At l.length with
  | false =>
   go_enter Try.func9, Try.ntmps9
   go_wp2_with (first | ((with_reducible refine gate_dst (N := 4) rfl ?_); refine box_event ?hg (N := 4) ?hd (cs := #[.slice A0 m.length c0]) (t := 24) ?hr ?_; (case hd => rfl); (case hg => rfl); (case hr => first | (go_simp; done) | (go_simp; rfl)); intro g4 hg w4 hbox hb; have HB := Aside0.mk hb; have X4 := Aside0.mk hbox; clear hbox hb hg) | ((with_reducible refine gate_dst (N := 5) rfl ?_); refine box_event ?hg (N := 5) ?hd (cs := #[.int .i64 F_, .int .i64 Bl, .int .i64 At, .slice A3 l.length c3, .int .u16 Fly]) (t := 55) ?hr ?_; (case hd => rfl); (case hg => rfl); (case hr => first | (go_simp; done) | (go_simp; rfl)); intro g5 hg w5 hbox hb; have n0_ := Aside0.mk (below_step HB.out hb); have n1_ := Aside0.mk (blk_below X4.out hb); clear HB X4; have HB := n0_; have X4 := n1_; clear n0_ n1_; have X5 := Aside0.mk hbox; clear hbox hb hg; have k0 := (blk_cell X4.out 0).trans rfl; have h0 := (blk_cell X5.out 0).trans rfl; have h1 := (blk_cell X5.out 1).trans rfl; have h2 := (blk_cell X5.out 2).trans rfl; have h3 := (blk_cell X5.out 3).trans rfl; have h4 := (blk_cell X5.out 4).trans rfl) | (go_at_call 27; (with_reducible refine (awake5_c _).mono ?_); rintro e w8 ⟨rfl, hb⟩; clear k0 h0 h1 h2 h3 h4; have n0_ := Aside0.mk (below_step HB.out hb); have n1_ := Aside0.mk (blk_below X4.out hb); have n2_ := Aside0.mk (blk_below X5.out hb); clear HB X4 X5; have HB := n0_; have X4 := n1_; have X5 := n2_; clear n0_ n1_ n2_; clear hb; have k0 := (blk_cell X4.out 0).trans rfl; have h0 := (blk_cell X5.out 0).trans rfl; have h1 := (blk_cell X5.out 1).trans rfl; have h2 := (blk_cell X5.out 2).trans rfl; have h3 := (blk_cell X5.out 3).trans rfl; have h4 := (blk_cell X5.out 4).trans rfl) | (go_at_call 15; (with_reducible refine (HSH.out A0 c0 _ (Kd.C_below HM.out HB.out) HC0.out).mono ?_); rintro e w8 ⟨rfl, hb⟩; clear k0 h0 h1 h2 h3 h4; have n0_ := Aside0.mk (below_step HB.out hb); have n1_ := Aside0.mk (blk_below X4.out hb); have n2_ := Aside0.mk (blk_below X5.out hb); clear HB X4 X5; have HB := n0_; have X4 := n1_; have X5 := n2_; clear n0_ n1_ n2_; clear hb; have k0 := (blk_cell X4.out 0).trans rfl; have h0 := (blk_cell X5.out 0).trans rfl; have h1 := (blk_cell X5.out 1).trans rfl; have h2 := (blk_cell X5.out 2).trans rfl; have h3 := (blk_cell X5.out 3).trans rfl; have h4 := (blk_cell X5.out 4).trans rfl) | (go_at_call 36; (with_reducible refine (fright_l m A0 c0 F_ Bl At A3 c3 l Fly _ (Kd.C_below HM.out HB.out) HBND.out).mono ?_); rintro e w8 ⟨he, hb⟩; rw [hfr] at he; subst he; clear k0 h0 h1 h2 h3 h4; have n0_ := Aside0.mk (below_step HB.out hb); have n1_ := Aside0.mk (blk_below X4.out hb); have n2_ := Aside0.mk (blk_below X5.out hb); clear HB X4 X5; have HB := n0_; have X4 := n1_; have X5 := n2_; clear n0_ n1_ n2_; clear hb; have k0 := (blk_cell X4.out 0).trans rfl; have h0 := (blk_cell X5.out 0).trans rfl; have h1 := (blk_cell X5.out 1).trans rfl; have h2 := (blk_cell X5.out 2).trans rfl; have h3 := (blk_cell X5.out 3).trans rfl; have h4 := (blk_cell X5.out 4).trans rfl))
   go_ret
   exact ⟨rfl, HB.out⟩
  | true =>
   have HFR := Aside0.mk hfr
   have HO := Aside0.mk (frR_open hfr)
   have HBK := Aside0.mk (okF_blocks HO.out.1)
   obtain ⟨ad, A1, c1, e1, y0, y1, y2, hl1, hC1⟩ := at_T27 HM.out F_ HO.out.2.1 HO.out.2.2.1
   subst e1
   have p0 : (0 ≤ F_) = True := eq_true HO.out.2.1
   have p1 : (F_ < (m.length : Int)) = True := eq_true HO.out.2.2.1
   have HC1 := Aside0.mk hC1
   clear hl1 hC1
   go_enter Try.func9, Try.ntmps9
   go_upto_region 5 with (first | ((with_reducible refine gate_dst (N := 4) rfl ?_); refine box_event ?hg (N := 4) ?hd (cs := #[.slice (some ad) m.length c0]) (t := 24) ?hr ?_; (case hd => rfl); (case hg => rfl); (case hr => first | (go_simp; done) | (go_simp; rfl)); intro g4 hg w4 hbox hb; have HB := Aside0.mk hb; have X4 := Aside0.mk hbox; clear hbox hb hg) | ((with_reducible refine gate_dst (N := 5) rfl ?_); refine box_event ?hg (N := 5) ?hd (cs := #[.int .i64 F_, .int .i64 Bl, .int .i64 At, .slice A3 l.length c3, .int .u16 Fly]) (t := 55) ?hr ?_; (case hd => rfl); (case hg => rfl); (case hr => first | (go_simp; done) | (go_simp; rfl)); intro g5 hg w5 hbox hb; have n0_ := Aside0.mk (below_step HB.out hb); have n1_ := Aside0.mk (blk_below X4.out hb); clear HB X4; have HB := n0_; have X4 := n1_; clear n0_ n1_; have X5 := Aside0.mk hbox; clear hbox hb hg; have k0 := (blk_cell X4.out 0).trans rfl; have h0 := (blk_cell X5.out 0).trans rfl; have h1 := (blk_cell X5.out 1).trans rfl; have h2 := (blk_cell X5.out 2).trans rfl; have h3 := (blk_cell X5.out 3).trans rfl; have h4 := (blk_cell X5.out 4).trans rfl; have u0 := pw_cell_below HB.out y0; have u1 := pw_cell_below HB.out y1; have u2 := pw_cell_below HB.out y2) | (go_at_call 27; (with_reducible refine (awake5_c _).mono ?_); rintro e w8 ⟨rfl, hb⟩; clear k0 h0 h1 h2 h3 h4 u0 u1 u2; have n0_ := Aside0.mk (below_step HB.out hb); have n1_ := Aside0.mk (blk_below X4.out hb); have n2_ := Aside0.mk (blk_below X5.out hb); clear HB X4 X5; have HB := n0_; have X4 := n1_; have X5 := n2_; clear n0_ n1_ n2_; clear hb; have k0 := (blk_cell X4.out 0).trans rfl; have h0 := (blk_cell X5.out 0).trans rfl; have h1 := (blk_cell X5.out 1).trans rfl; have h2 := (blk_cell X5.out 2).trans rfl; have h3 := (blk_cell X5.out 3).trans rfl; have h4 := (blk_cell X5.out 4).trans rfl; have u0 := pw_cell_below HB.out y0; have u1 := pw_cell_below HB.out y1; have u2 := pw_cell_below HB.out y2) | (go_at_call 15; (with_reducible refine (HSH.out (some ad) c0 _ (Kd.C_below HM.out HB.out) HC0.out).mono ?_); rintro e w8 ⟨rfl, hb⟩; clear k0 h0 h1 h2 h3 h4 u0 u1 u2; have n0_ := Aside0.mk (below_step HB.out hb); have n1_ := Aside0.mk (blk_below X4.out hb); have n2_ := Aside0.mk (blk_below X5.out hb); clear HB X4 X5; have HB := n0_; have X4 := n1_; have X5 := n2_; clear n0_ n1_ n2_; clear hb; have k0 := (blk_cell X4.out 0).trans rfl; have h0 := (blk_cell X5.out 0).trans rfl; have h1 := (blk_cell X5.out 1).trans rfl; have h2 := (blk_cell X5.out 2).trans rfl; have h3 := (blk_cell X5.out 3).trans rfl; have h4 := (blk_cell X5.out 4).trans rfl; have u0 := pw_cell_below HB.out y0; have u1 := pw_cell_below HB.out y1; have u2 := pw_cell_below HB.out y2) | (go_at_call 36; (with_reducible refine (fright_l m (some ad) c0 F_ Bl At A3 c3 l Fly _ (Kd.C_below HM.out HB.out) HBND.out).mono ?_); rintro e w8 ⟨he, hb⟩; rw [hfr] at he; subst he; clear k0 h0 h1 h2 h3 h4 u0 u1 u2; have n0_ := Aside0.mk (below_step HB.out hb); have n1_ := Aside0.mk (blk_below X4.out hb); have n2_ := Aside0.mk (blk_below X5.out hb); clear HB X4 X5; have HB := n0_; have X4 := n1_; have X5 := n2_; clear n0_ n1_ n2_; clear hb; have k0 := (blk_cell X4.out 0).trans rfl; have h0 := (blk_cell X5.out 0).trans rfl; have h1 := (blk_cell X5.out 1).trans rfl; have h2 := (blk_cell X5.out 2).trans rfl; have h3 := (blk_cell X5.out 3).trans rfl; have h4 := (blk_cell X5.out 4).trans rfl; have u0 := pw_cell_below HB.out y0; have u1 := pw_cell_below HB.out y1; have u2 := pw_cell_below HB.out y2))
   go_cut [9] (fun v9 wc => ∃ g9 : Nat, v9 = .pointer (some ⟨g9, 0, none⟩) ∧ Aside0 (Below w.heap.size w wc) ∧ Aside0 (wc.heap[g4]? = some (.cells #[.slice (some ad) m.length c0] 24 (0, 0))) ∧ Aside0 (wc.heap[g5]? = some (.cells #[.int .i64 F_, .int .i64 Bl, .int .i64 At, .slice A3 l.length c3, .int .u16 Fly] 55 (0, 0))) ∧ Aside0 (wc.heap[g9]? = some (.cells #[.int .i64 (rd_T27 m F_).f0, .int .i64 (rd_T27 m F_).f1, .slice A1 (rd_T27 m F_).f2.length c1] 27 (0, 0))))
   case first =>
    go_wp2
    go_meet
    exact ⟨_, rfl, ⟨below_alloc HB.out _⟩, ⟨blk_alloc X4.out _⟩, ⟨blk_alloc X5.out _⟩, ⟨blk_new _ _⟩⟩
   case rest =>
    clear k0 h0 h1 h2 h3 h4 u0 u1 u2
    clear HB X4 X5 d1 d1'
    obtain ⟨g9, rfl, HB, X4, X5, X9⟩ := hcut
    have m0 := (blk_cell X9.out 0).trans rfl
    have m1 := (blk_cell X9.out 1).trans rfl
    have m2 := (blk_cell X9.out 2).trans rfl
    have hl0 : ((rd_T27 m F_).f2.length : Int) ≠ 0 := by have := HBK.out; omega
    have hl1 : (((rd_T27 m F_).f2.length : Int) == 0) = false := beq_eq_false_iff_ne.2 hl0
    have hl2 : (((rd_T27 m F_).f2.length : Int) = 0) = False := eq_false hl0
    go_upto_region 6 with (fail)
    go_cut [10] (fun v10 wc => ∃ K : Int, v10 = .int .i64 K ∧ Aside0 (0 ≤ K ∧ K < ((rd_T27 m F_).f2.length : Int)) ∧ Aside0 (Below w.heap.size w wc) ∧ Aside0 (wc.heap[g4]? = some (.cells #[.slice (some ad) m.length c0] 24 (0, 0))) ∧ Aside0 (wc.heap[g5]? = some (.cells #[.int .i64 F_, .int .i64 Bl, .int .i64 At, .slice A3 l.length c3, .int .u16 Fly] 55 (0, 0))) ∧ Aside0 (wc.heap[g9]? = some (.cells #[.int .i64 (rd_T27 m F_).f0, .int .i64 (rd_T27 m F_).f1, .slice A1 (rd_T27 m F_).f2.length c1] 27 (0, 0))))
    case first =>
     go_wp2
     go_meet
     exact ⟨_, rfl, ⟨mod_in HP.out HBK.out.1⟩, HB, X4, X5, X9⟩
    case rest =>
     clear hl0 hl1 hl2 m0 m1 m2
     clear HB X4 X5 X9
     obtain ⟨K, rfl, HK, HB, X4, X5, X9⟩ := hcut
     obtain ⟨ad2, A4, c4, A5, c5, A6, c6, e1, z0, z1, z2, z3, z4, z5, z6, z7, z8, z9, z10, z11, z12, z13, _⟩ := at_T41 HC1.out K HK.out.1 HK.out.2
     subst e1
     clear z2 z3 z4 z5 z6 z7 z8 z9 z10 z11 z12 z13
     have p2 : (0 ≤ K) = True := eq_true HK.out.1
     have p3 : (K < ((rd_T27 m F_).f2.length : Int)) = True := eq_true HK.out.2
     cases hld : (rd_T41 (rd_T27 m F_).f2 K).f0 with
     | false =>
      rw [hld] at z0
      have HZ := Aside0.mk (show lnB m F_ Bl At l.length K = false by unfold lnB; rw [hld, Bool.and_false])
      have k0 := (blk_cell X4.out 0).trans rfl
      have h0 := (blk_cell X5.out 0).trans rfl
      have h1 := (blk_cell X5.out 1).trans rfl
      have h2 := (blk_cell X5.out 2).trans rfl
      have h3 := (blk_cell X5.out 3).trans rfl
      have h4 := (blk_cell X5.out 4).trans rfl
      have u0 := pw_cell_below HB.out y0
      have u1 := pw_cell_below HB.out y1
      have u2 := pw_cell_below HB.out y2
      have u3 := pw_cell_below HB.out z0
      have u4 := pw_cell_below HB.out z1
      have m0 := (blk_cell X9.out 0).trans rfl
      have m1 := (blk_cell X9.out 1).trans rfl
      have m2 := (blk_cell X9.out 2).trans rfl
      go_upto_region 7 with (fail)
      go_cut [11, 12] (fun v11 v12 wc => ∃ (g11 : Nat) (Ao : Option Addr) (co : Nat), v11 = .pointer (some ⟨g11, 0, none⟩) ∧ v12 = .int .i64 1 ∧ Aside0 (Below w.heap.size w wc) ∧ Aside0 (wc.heap[g4]? = some (.cells #[.slice (some ad) m.length c0] 24 (0, 0))) ∧ Aside0 (wc.heap[g5]? = some (.cells #[.int .i64 F_, .int .i64 Bl, .int .i64 At, .slice A3 l.length c3, .int .u16 Fly] 55 (0, 0))) ∧ Aside0 (wc.heap[g9]? = some (.cells #[.int .i64 (rd_T27 m F_).f0, .int .i64 (rd_T27 m F_).f1, .slice (some ad2) (rd_T27 m F_).f2.length c1] 27 (0, 0))) ∧ Aside0 (wc.heap[g11]? = some (.cells #[.int .i64 F_, .int .i64 Bl, .int .i64 At, .slice Ao l.length co, .int .u16 Fly] 55 (0, 0))) ∧ Aside0 (l.length ≤ co) ∧ Aside0 (Kd.C (Kd.int .u16) wc Ao l.length l))
      case first =>
       go_wp2_with (go_at_call 35; go_loud ((with_reducible refine (land_c m (some ad) c0 F_ Bl At A3 c3 l Fly K v _ (Kd.C_below HM.out HB.out) HBND.out (Kd.C_below HL.out HB.out) HC3.out (by have := HN.out; omega)).mono ?_); rintro e w8 ⟨he, hb⟩; obtain ⟨Ao, co, rfl, hlo, hr⟩ := LandA.no he HZ.out; have HLO := Aside0.mk hlo; have HRO := Aside0.mk hr; have HB8 := Aside0.mk hb; clear he hlo hr hb))
       go_meet
       exact ⟨_, Ao, co, rfl, rfl, ⟨below_alloc (HB.out.trans (HB8.out.mono HB.out.size)) _⟩, ⟨blk_alloc (blk_below X4.out HB8.out) _⟩, ⟨blk_alloc (blk_below X5.out HB8.out) _⟩, ⟨blk_alloc (blk_below X9.out HB8.out) _⟩, ⟨blk_new _ _⟩, HLO, ⟨Kd.C_below (Kd.R_reads' HRO.out).2.2 (below_alloc (Below.refl _ _) _)⟩⟩
      case rest =>
       clear k0 h0 h1 h2 h3 h4 u0 u1 u2 u3 u4 m0 m1 m2
       clear HB X4 X5 X9
       obtain ⟨g11, Ao, co, rfl, rfl, HB, X4, X5, X9, X11, HLO, HR⟩ := hcut
       have k0 := (blk_cell X4.out 0).trans rfl
       have h0 := (blk_cell X5.out 0).trans rfl
       have h1 := (blk_cell X5.out 1).trans rfl
       have h2 := (blk_cell X5.out 2).trans rfl
       have h3 := (blk_cell X5.out 3).trans rfl
       have h4 := (blk_cell X5.out 4).trans rfl
       have u0 := pw_cell_below HB.out y0
       have u1 := pw_cell_below HB.out y1
       have u2 := pw_cell_below HB.out y2
       have u3 := pw_cell_below HB.out z0
       have u4 := pw_cell_below HB.out z1
       have m0 := (blk_cell X9.out 0).trans rfl
       have m1 := (blk_cell X9.out 1).trans rfl
       have m2 := (blk_cell X9.out 2).trans rfl
       have s0 := (blk_cell X11.out 0).trans rfl
       have s1 := (blk_cell X11.out 1).trans rfl
       have s2 := (blk_cell X11.out 2).trans rfl
       have s3 := (blk_cell X11.out 3).trans rfl
       have s4 := (blk_cell X11.out 4).trans rfl
       go_wp2_with (go_at_call 29; go_loud (with_reducible refine (same5_c F_ Bl At Ao co l Fly F_ Bl At A3 c3 l Fly _ HR.out HLO.out (Kd.C_below HL.out HB.out) HC3.out (by have := HN.out; omega)).mono ?_); rintro e w8 ⟨he, hb⟩; rw [sameW_refl] at he; subst he; have HB8 := Aside0.mk (HB.out.trans (hb.mono HB.out.size)); clear hb)
       go_ret
       exact ⟨rfl, HB8.out⟩
     | true =>
      rw [hld] at z0
      have HZ := Aside0.mk (show lnB m F_ Bl At l.length K = true by unfold lnB win; rw [HFR.out, hld, decide_eq_true HK.out.1, decide_eq_true HK.out.2]; rfl)
      have HD := Aside0.mk (lnB_dst HZ.out)
      have HFM := Aside0.mk (frR_mk HFR.out HK.out.1 HK.out.2)
      have hzd : (rd_T41 (rd_T27 m F_).f2 K).f1.f0 = lnD m F_ K := rfl
      rw [hzd] at z1
      clear hzd
      have k0 := (blk_cell X4.out 0).trans rfl
      have h0 := (blk_cell X5.out 0).trans rfl
      have h1 := (blk_cell X5.out 1).trans rfl
      have h2 := (blk_cell X5.out 2).trans rfl
      have h3 := (blk_cell X5.out 3).trans rfl
      have h4 := (blk_cell X5.out 4).trans rfl
      have u0 := pw_cell_below HB.out y0
      have u1 := pw_cell_below HB.out y1
      have u2 := pw_cell_below HB.out y2
      have u3 := pw_cell_below HB.out z0
      have u4 := pw_cell_below HB.out z1
      have m0 := (blk_cell X9.out 0).trans rfl
      have m1 := (blk_cell X9.out 1).trans rfl
      have m2 := (blk_cell X9.out 2).trans rfl
      go_upto_region 7 with (fail)
      go_cut [11, 12] (fun v11 v12 wc => ∃ (g11 : Nat) (Ao : Option Addr) (co : Nat), v11 = .pointer (some ⟨g11, 0, none⟩) ∧ v12 = .int .i64 0 ∧ Aside0 (Below w.heap.size w wc) ∧ Aside0 (wc.heap[g4]? = some (.cells #[.slice (some ad) m.length c0] 24 (0, 0))) ∧ Aside0 (wc.heap[g5]? = some (.cells #[.int .i64 F_, .int .i64 Bl, .int .i64 At, .slice A3 l.length c3, .int .u16 Fly] 55 (0, 0))) ∧ Aside0 (wc.heap[g9]? = some (.cells #[.int .i64 (rd_T27 m F_).f0, .int .i64 (rd_T27 m F_).f1, .slice (some ad2) (rd_T27 m F_).f2.length c1] 27 (0, 0))) ∧ Aside0 (wc.heap[g11]? = some (.cells #[.int .i64 F_, .int .i64 K, .int .i64 0, .slice Ao l.length co, .int .u16 v] 55 (0, 0))) ∧ Aside0 (l.length ≤ co) ∧ Aside0 (Kd.C (Kd.int .u16) wc Ao l.length (l.set (lnD m F_ K).toNat v)))
      case first =>
       go_wp2_with (go_at_call 35; go_loud ((with_reducible refine (land_c m (some ad) c0 F_ Bl At A3 c3 l Fly K v _ (Kd.C_below HM.out HB.out) HBND.out (Kd.C_below HL.out HB.out) HC3.out (by have := HN.out; omega)).mono ?_); rintro e w8 ⟨he, hb⟩; obtain ⟨Ao, co, rfl, hlo, hr⟩ := LandA.yes he HZ.out; have HLO := Aside0.mk hlo; have HRO := Aside0.mk hr; have HB8 := Aside0.mk hb; clear he hlo hr hb))
       go_meet
       exact ⟨_, Ao, co, rfl, rfl, ⟨below_alloc (HB.out.trans (HB8.out.mono HB.out.size)) _⟩, ⟨blk_alloc (blk_below X4.out HB8.out) _⟩, ⟨blk_alloc (blk_below X5.out HB8.out) _⟩, ⟨blk_alloc (blk_below X9.out HB8.out) _⟩, ⟨blk_new _ _⟩, HLO, ⟨Kd.C_below (by have h_ := (Kd.R_reads' HRO.out).2.2; rwa [List.length_set] at h_) (below_alloc (Below.refl _ _) _)⟩⟩
      case rest =>
       clear k0 h0 h1 h2 h3 h4 u0 u1 u2 u3 u4 m0 m1 m2
       clear HB X4 X5 X9
       obtain ⟨g11, Ao, co, rfl, rfl, HB, X4, X5, X9, X11, HLO, HR⟩ := hcut
       generalize hDD : lnD m F_ K = D at *
       clear hDD HZ
       have k0 := (blk_cell X4.out 0).trans rfl
       have h0 := (blk_cell X5.out 0).trans rfl
       have h1 := (blk_cell X5.out 1).trans rfl
       have h2 := (blk_cell X5.out 2).trans rfl
       have h3 := (blk_cell X5.out 3).trans rfl
       have h4 := (blk_cell X5.out 4).trans rfl
       have u0 := pw_cell_below HB.out y0
       have u1 := pw_cell_below HB.out y1
       have u2 := pw_cell_below HB.out y2
       have u3 := pw_cell_below HB.out z0
       have u4 := pw_cell_below HB.out z1
       have m0 := (blk_cell X9.out 0).trans rfl
       have m1 := (blk_cell X9.out 1).trans rfl
       have m2 := (blk_cell X9.out 2).trans rfl
       have s0 := (blk_cell X11.out 0).trans rfl
       have s1 := (blk_cell X11.out 1).trans rfl
       have s2 := (blk_cell X11.out 2).trans rfl
       have s3 := (blk_cell X11.out 3).trans rfl
       have s4 := (blk_cell X11.out 4).trans rfl
       go_wp2
       clear k0 h0 h1 h2 h3 h4 u0 u1 u2 u3 u4 m0 m1 m2 s0 s1 s2 s3 s4
       go_loopg [13] 1000000 (fun gg s wr => ∃ y : Int, s = .int .i64 y ∧ Aside0 (0 ≤ y ∧ y ≤ l.length ∧ (l.length : Int) - y ≤ gg) ∧ Aside0 (Below w.heap.size w wr) ∧ Aside0 (wr.heap[g4]? = some (.cells #[.slice (some ad) m.length c0] 24 (0, 0))) ∧ Aside0 (wr.heap[g5]? = some (.cells #[.int .i64 F_, .int .i64 Bl, .int .i64 At, .slice A3 l.length c3, .int .u16 Fly] 55 (0, 0))) ∧ Aside0 (wr.heap[g9]? = some (.cells #[.int .i64 (rd_T27 m F_).f0, .int .i64 (rd_T27 m F_).f1, .slice (some ad2) (rd_T27 m F_).f2.length c1] 27 (0, 0))) ∧ Aside0 (wr.heap[g11]? = some (.cells #[.int .i64 F_, .int .i64 K, .int .i64 0, .slice Ao l.length co, .int .u16 v] 55 (0, 0))) ∧ Aside0 (Kd.C (Kd.int .u16) wr Ao l.length (l.set D.toNat v)))
       case atStart => exact ⟨0, rfl, ⟨by have := HN.out; omega⟩, HB, X4, X5, X9, X11, HR⟩
       case round =>
        clear HB X4 X5 X9 X11 HR
        obtain ⟨y, rfl, HYY, HB, X4, X5, X9, X11, HR⟩ := hrel
        have k0 := (blk_cell X4.out 0).trans rfl
        have h0 := (blk_cell X5.out 0).trans rfl
        have h1 := (blk_cell X5.out 1).trans rfl
        have h2 := (blk_cell X5.out 2).trans rfl
        have h3 := (blk_cell X5.out 3).trans rfl
        have h4 := (blk_cell X5.out 4).trans rfl
        have u0 := pw_cell_below HB.out y0
        have u1 := pw_cell_below HB.out y1
        have u2 := pw_cell_below HB.out y2
        have u3 := pw_cell_below HB.out z0
        have u4 := pw_cell_below HB.out z1
        have m0 := (blk_cell X9.out 0).trans rfl
        have m1 := (blk_cell X9.out 1).trans rfl
        have m2 := (blk_cell X9.out 2).trans rfl
        have s0 := (blk_cell X11.out 0).trans rfl
        have s1 := (blk_cell X11.out 1).trans rfl
        have s2 := (blk_cell X11.out 2).trans rfl
        have s3 := (blk_cell X11.out 3).trans rfl
        have s4 := (blk_cell X11.out 4).trans rfl
        by_cases hlt : y < (l.length : Int)
        rotate_left
        ·have hd : decide (y < (l.length : Int)) = false := decide_eq_false hlt
         clear hlt
         go_wp2_with (go_at_call 36; go_loud ((with_reducible refine (fright_l m (some ad) c0 F_ K 0 Ao co l v _ (Kd.C_below HM.out HB.out) HBND.out).mono ?_); rintro e w8 ⟨he, hb⟩; rw [HFM.out] at he; subst he; have HB8 := Aside0.mk (HB.out.trans (hb.mono HB.out.size)); clear hb))
         go_ret
         exact ⟨rfl, HB8.out⟩
        have hd : decide (y < (l.length : Int)) = true := decide_eq_true hlt
        have HLT := Aside0.mk hlt
        clear hlt
        have q1 : (0 ≤ y) = True := eq_true HYY.out.1
        have q2 : (y < (l.length : Int)) = True := eq_true HLT.out
        obtain ⟨ad3, x1, hv⟩ := Kd.at_int HR.out y HYY.out.1 HLT.out
        subst x1
        obtain ⟨ad4, x1, hv'⟩ := Kd.at_int (Kd.C_below HL.out HB.out) y HYY.out.1 HLT.out
        subst x1
        cases hq : (y == D) with
        | true =>
         rw [beq_iff_eq.1 hq, rd_set_same l D v HD.out.1 HD.out.2] at hv
         rw [← beq_iff_eq.1 hq] at hv
         go_wp2
         have W1 := Aside0.mk (show wrap64 (y + 1) = y + 1 from wrap_in _ (by have := HYY.out; omega) (by have := HLT.out; have := HN.out; omega))
         go_roundg ((l.length : Int) - (y + 1)).toNat
         case measure => have h1_ := HYY.out; have h2_ := HLT.out; omega
         case rel => exact ⟨y + 1, by first | (rw [W1.out]; done) | rfl | (simp only [W1.out]; done), ⟨by have := HYY.out; have := HLT.out; omega⟩, HB, X4, X5, X9, X11, HR⟩
        | false =>
         rw [rd_set_ne l D y v HD.out.1 HYY.out.1 (beq_eq_false_iff_ne.1 hq)] at hv
         go_wp2
         have W1 := Aside0.mk (show wrap64 (y + 1) = y + 1 from wrap_in _ (by have := HYY.out; omega) (by have := HLT.out; have := HN.out; omega))
         go_roundg ((l.length : Int) - (y + 1)).toNat
         case measure => have h1_ := HYY.out; have h2_ := HLT.out; omega
         case rel => exact ⟨y + 1, by first | (rw [W1.out]; done) | rfl | (simp only [W1.out]; done), ⟨by have := HYY.out; have := HLT.out; omega⟩, HB, X4, X5, X9, X11, HR⟩
end Go.Proofs.Ytbfialebaoeicaa.X
namespace Go.Proofs.Ytbfialebaoeicaa.X
open Go.RowKit Go.Proofs.YtbfialebaoeicaaW.PrintWords
set_option linter.all false
theorem law_lands.calls (A0 : Option Addr) (c0 : Nat) (m : List S27) (f b a : Int) (A : Option Addr) (c : Nat) (l : List Int) (y : Int) (pd v : Int) (r : Bool) (w : World) (hm : Kd.C k27 w A0 m.length m) (hc0 : m.length ≤ c0) (hC : Kd.C (Kd.int .u16) w A l.length l) (hc : l.length ≤ c) (hp : 0 ≤ pd ∧ pd ≤ 255) :
  Calls Try.prog 9 #[.agg #[.slice A0 m.length c0], .agg #[.int .i64 f, .int .i64 b, .int .i64 a, .slice A l.length c, .int .u16 y], .int .u8 pd, .int .u16 v] w fun e w' => e = .returned (.bool true) ∧ Below w.heap.size w w' :=
 lands_c m A0 c0 f b a A c l y pd v w hm hc0 hC hc hp
end Go.Proofs.Ytbfialebaoeicaa.X
namespace Go.Proofs.Ytbfialebaoeicaa.Pure
open Go.Proofs.Ytbfialebaoeicaa.X
set_option linter.all false
theorem FrameLands (m : List S27) (f b a : Int) (l : List Int) (y : Int) (wl : ∀ x ∈ l, W16 x) (wy : W16 y) (pd : Int) (wp : (Go.Lit.int .u8 pd).wf = true) (v : Int) (wv : (Go.Lit.int .u16 v).wf = true) : ∃ _ : Unit, 0 ≤ pd ∧ pd ≤ 255 := ⟨(), by simp [Go.Lit.wf, Go.IntKind.min, Go.IntKind.max, Go.IntKind.signed, Go.IntKind.bits] at wp; omega⟩
end Go.Proofs.Ytbfialebaoeicaa.Pure
