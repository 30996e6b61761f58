/- Part 20 of the proof of the statement FrameRight: the words of the walks, the walks through the functions that it reaches, and the plain laws of what they compute. -/
import Derived.Test.YtbfialebaoeicaaMFrameRight18
import Derived.RegionTactic
import Derived.ChangeAlike
import Derived.Deep.QuietTactic
import Derived.BigQuiet
namespace Go.Proofs.Ytbfialebaoeicaa.X
open Go.RowKit Go.Proofs.YtbfialebaoeicaaW.PrintWords Go.Proofs.YtbfialebaoeicaaW.PrintLast Go.Proofs.YtbfialebaoeicaaW.PrintMore
set_option linter.all false
def lnB (m : List S27) (F_ Bl At k n : Int) : Bool := frR m F_ Bl At k && win n (rd_T27 m F_).f2.length && (rd_T41 (rd_T27 m F_).f2 n).f0
def lnD (m : List S27) (F_ n : Int) : Int := (rd_T41 (rd_T27 m F_).f2 n).f1.f0
theorem frR_open {m : List S27} {F_ Bl At k : Int} (h : frR m F_ Bl At k = true) : okF m F_ = true ∧ 0 ≤ F_ ∧ F_ < (m.length : Int) ∧ k = (rd_T27 m F_).f1 := by
 unfold frR at h
 simp only [Bool.and_eq_true, decide_eq_true_eq] at h
 have h1 := h.1.1.1.1
 refine ⟨h1, ?_, ?_, h.1.1.2⟩
 ·unfold okF at h1
  rw [Bool.and_eq_true] at h1
  exact (win_at h1.2).1
 ·unfold okF at h1
  rw [Bool.and_eq_true] at h1
  exact (win_at h1.2).2
theorem okF_block {m : List S27} {F_ n : Int} (h : okF m F_ = true) (h0 : 0 ≤ n) (h1 : n < ((rd_T27 m F_).f2.length : Int)) : padR (rd_T27 m F_).f1 (rd_T41 (rd_T27 m F_).f2 n) = true := by
 unfold okF at h
 rw [Bool.and_eq_true] at h
 obtain ⟨h2, h3⟩ := h
 have h4 := win_at h3
 have hm := rd_mem' m z27 F_ h4.1 h4.2
 unfold rightR at h2
 simp only [Bool.and_eq_true, List.all_eq_true] at h2
 have h5 := h2.2 _ hm
 unfold funcR at h5
 simp only [Bool.and_eq_true, List.all_eq_true] at h5
 have h6 := h5.2 _ (rd_mem' _ z41 n h0 h1)
 unfold blockR at h6
 simp only [Bool.and_eq_true] at h6
 exact h6.1.1.2
theorem lnB_dst {m : List S27} {F_ Bl At k n : Int} (h : lnB m F_ Bl At k n = true) : 0 ≤ lnD m F_ n ∧ lnD m F_ n < k := by
 unfold lnB at h
 simp only [Bool.and_eq_true] at h
 have h1 := frR_open h.1.1
 have h2 := win_at h.1.2
 have h3 := okF_block h1.1 h2.1 h2.2
 unfold padR at h3
 rw [if_pos h.2] at h3
 simp only [Bool.and_eq_true] at h3
 have h4 := h3.1.2
 unfold win at h4
 simp only [Bool.and_eq_true, decide_eq_true_eq] at h4
 unfold lnD
 rw [h1.2.2.2]
 exact h4
def LandA (m : List S27) (F_ Bl At : Int) (l : List Int) (Fly n v : Int) (base : Nat) (w' : World) (e : Ending) : Prop :=
 (lnB m F_ Bl At l.length n = false ∧ ∃ Ao co, e = .returned (.tuple #[.agg #[.int .i64 F_, .int .i64 Bl, .int .i64 At, .slice Ao l.length co, .int .u16 Fly], .int .i64 1]) ∧ l.length ≤ co ∧ Kd.R (Kd.int .u16) 44 w' base (fun _ => True) (.slice Ao l.length co) l) ∨
 (lnB m F_ Bl At l.length n = true ∧ ∃ Ao co, e = .returned (.tuple #[.agg #[.int .i64 F_, .int .i64 n, .int .i64 0, .slice Ao l.length co, .int .u16 v], .int .i64 0]) ∧ l.length ≤ co ∧ Kd.R (Kd.int .u16) 44 w' base (fun _ => True) (.slice Ao l.length co) (l.set (lnD m F_ n).toNat v))
set_option maxHeartbeats 16000000 in
set_option maxRecDepth 100000 in
theorem land_c (m : List S27) (A0 : Option Addr) (c0 : Nat) (F_ Bl At : Int) (A3 : Option Addr) (c3 : Nat) (l : List Int) (Fly : Int) (n v : Int) (w : World) (hm : Kd.C k27 w A0 m.length m) (hb : Bnd m) (hl : Kd.C (Kd.int .u16) w A3 l.length l) (hc3 : l.length ≤ c3) (hm1 : l.length ≤ 1000) :
  Calls Try.prog 35 #[.agg #[.slice A0 m.length c0], .agg #[.int .i64 F_, .int .i64 Bl, .int .i64 At, .slice A3 l.length c3, .int .u16 Fly], .int .i64 n, .int .u16 v] w fun e w' => LandA m F_ Bl At l Fly n v w.heap.size w' e ∧ Below w.heap.size w w' := by
 have HM := Aside0.mk hm
 have HN := Aside0.mk hb
 have HL := Aside0.mk hl
 have HC3 := Aside0.mk hc3
 have HNN := Aside0.mk hm1
 clear hm hb hl hc3 hm1
 have hu24 := Try.underlying24
 have hu27 := Try.underlying27
 have hu55 := Try.underlying55
 have hu41 := Try.underlying41
 have hu35 := Try.underlying35
 cases hfr : frR m F_ Bl At l.length with
 | false =>
  have HZ := Aside0.mk (show lnB m F_ Bl At l.length n = false by unfold lnB; rw [hfr]; rfl)
  go_enter Try.func35, Try.ntmps35
  go_upto_region 1 with (first | ((with_reducible refine gate_dst (N := 4) rfl ?_); refine box_event ?hg (N := 4) ?hd (cs := #[.slice A0 m.length c0]) (t := 24) ?hr ?_; (case hd => rfl); (case hg => rfl); (case hr => first | (go_simp; done) | (go_simp; rfl)); intro g4 hg w4 hbox hb; have HB := Aside0.mk hb; have X4 := Aside0.mk hbox; clear hbox hb hg; have k0 := (blk_cell X4.out 0).trans rfl) | ((with_reducible refine gate_dst (N := 5) rfl ?_); refine box_event ?hg (N := 5) ?hd (cs := #[.int .i64 F_, .int .i64 Bl, .int .i64 At, .slice A3 l.length c3, .int .u16 Fly]) (t := 55) ?hr ?_; (case hd => rfl); (case hg => rfl); (case hr => first | (go_simp; done) | (go_simp; rfl)); intro g5 hg w5 hbox hb; have HLX5 := Aside0.mk (show w.heap.size ≤ g5 by rw [hg]; exact HB.out.size); have HN45 := Aside0.mk (show g4 ≠ g5 by rw [hg]; exact Nat.ne_of_lt (blk_lt X4.out)); have n0_ := Aside0.mk (below_step HB.out hb); have n1_ := Aside0.mk (blk_below X4.out hb); clear HB X4; have HB := n0_; have X4 := n1_; clear n0_ n1_; have X5 := Aside0.mk hbox; clear hbox hb hg; have h0 := (blk_cell X5.out 0).trans rfl; have h1 := (blk_cell X5.out 1).trans rfl; have h2 := (blk_cell X5.out 2).trans rfl; have h3 := (blk_cell X5.out 3).trans rfl; have h4 := (blk_cell X5.out 4).trans rfl; have zh0 := blk_frozen X5.out 0; have zh1 := blk_frozen X5.out 1; have zh2 := blk_frozen X5.out 2; have zh3 := blk_frozen X5.out 3; have zh4 := blk_frozen X5.out 4; clear k0; have k0 := (blk_cell X4.out 0).trans rfl) | ((with_reducible refine gate_dst (N := 8) rfl ?_); refine box_event ?hg (N := 8) ?hd (cs := #[.int .i64 0, .int .i64 0, .int .i64 0, .slice none 0 0, .int .u16 0]) (t := 55) ?hr ?_; (case hd => rfl); (case hg => rfl); (case hr => first | (go_simp; done) | (go_simp; rfl)); intro g8 hg w8 hbox hb; have HLX8 := Aside0.mk (show w.heap.size ≤ g8 by rw [hg]; exact HB.out.size); have HN48 := Aside0.mk (show g4 ≠ g8 by rw [hg]; exact Nat.ne_of_lt (blk_lt X4.out)); have HN58 := Aside0.mk (show g5 ≠ g8 by rw [hg]; exact Nat.ne_of_lt (blk_lt X5.out)); have n0_ := Aside0.mk (below_step HB.out hb); have n1_ := Aside0.mk (blk_below X4.out hb); have n2_ := Aside0.mk (blk_below X5.out hb); clear HB X4 X5; have HB := n0_; have X4 := n1_; have X5 := n2_; clear n0_ n1_ n2_; have X8 := Aside0.mk hbox; clear hbox hb hg; have r0 := (blk_cell X8.out 0).trans rfl; have r1 := (blk_cell X8.out 1).trans rfl; have r2 := (blk_cell X8.out 2).trans rfl; have r3 := (blk_cell X8.out 3).trans rfl; have r4 := (blk_cell X8.out 4).trans rfl; have zr0 := blk_frozen X8.out 0; have zr1 := blk_frozen X8.out 1; have zr2 := blk_frozen X8.out 2; have zr3 := blk_frozen X8.out 3; have zr4 := blk_frozen X8.out 4; clear k0; clear h0 zh0 h1 zh1 h2 zh2 h3 zh3 h4 zh4; have k0 := (blk_cell X4.out 0).trans rfl; have h0 := (blk_cell X5.out 0).trans rfl; have h1 := (blk_cell X5.out 1).trans rfl; have h2 := (blk_cell X5.out 2).trans rfl; have h3 := (blk_cell X5.out 3).trans rfl; have h4 := (blk_cell X5.out 4).trans rfl; have zh0 := blk_frozen X5.out 0; have zh1 := blk_frozen X5.out 1; have zh2 := blk_frozen X5.out 2; have zh3 := blk_frozen X5.out 3; have zh4 := blk_frozen X5.out 4))
  go_cut [] (fun wc => ∃ Ao co, Aside0 (Below w.heap.size w wc) ∧ Aside0 (wc.heap[g4]? = some (.cells #[.slice A0 m.length c0] 24 (0, 0))) ∧ Aside0 (wc.heap[g5]? = some (.cells #[.int .i64 F_, .int .i64 Bl, .int .i64 At, .slice Ao l.length co, .int .u16 Fly] 55 (0, 0))) ∧ Aside0 (wc.heap[g8]? = some (.cells #[.int .i64 0, .int .i64 0, .int .i64 0, .slice none 0 0, .int .u16 0] 55 (0, 0))) ∧ Aside0 (l.length ≤ co) ∧ Aside0 (Kd.R (Kd.int .u16) 44 wc w.heap.size (fun _ => True) (.slice Ao l.length co) (l)))
  case first =>
   go_wp2_with (go_at_call 69; go_loud ((with_reducible refine (copied_c F_ Bl At A3 c3 l Fly _ (Kd.C_below HL.out HB.out) HC3.out (by have := HNN.out; omega)).mono ?_); rintro e w6 ⟨⟨Ao, co, rfl, hlo, hr⟩, hb⟩; have HLO := Aside0.mk hlo; have HR := Aside0.mk (Kd.R_lower hr HB.out.size); clear k0; clear h0 zh0 h1 zh1 h2 zh2 h3 zh3 h4 zh4; clear r0 zr0 r1 zr1 r2 zr2 r3 zr3 r4 zr4; have n0_ := Aside0.mk (below_step HB.out hb); have n1_ := Aside0.mk (blk_below X4.out hb); have n2_ := Aside0.mk (blk_below X5.out hb); have n3_ := Aside0.mk (blk_below X8.out hb); clear HB X4 X5 X8; have HB := n0_; have X4 := n1_; have X5 := n2_; have X8 := n3_; clear n0_ n1_ n2_ n3_; clear hlo hr hb; have k0 := (blk_cell X4.out 0).trans rfl; have h0 := (blk_cell X5.out 0).trans rfl; have h1 := (blk_cell X5.out 1).trans rfl; have h2 := (blk_cell X5.out 2).trans rfl; have h3 := (blk_cell X5.out 3).trans rfl; have h4 := (blk_cell X5.out 4).trans rfl; have zh0 := blk_frozen X5.out 0; have zh1 := blk_frozen X5.out 1; have zh2 := blk_frozen X5.out 2; have zh3 := blk_frozen X5.out 3; have zh4 := blk_frozen X5.out 4; have r0 := (blk_cell X8.out 0).trans rfl; have r1 := (blk_cell X8.out 1).trans rfl; have r2 := (blk_cell X8.out 2).trans rfl; have r3 := (blk_cell X8.out 3).trans rfl; have r4 := (blk_cell X8.out 4).trans rfl; have zr0 := blk_frozen X8.out 0; have zr1 := blk_frozen X8.out 1; have zr2 := blk_frozen X8.out 2; have zr3 := blk_frozen X8.out 3; have zr4 := blk_frozen X8.out 4))
   go_meet
   exact ⟨Ao, co, ⟨below_set (below_set (below_set (below_set (below_set (HB.out) HLX5.out) HLX5.out) HLX5.out) HLX5.out) HLX5.out⟩, ⟨(blk_far (blk_far (blk_far (blk_far (blk_far X4.out (p := ⟨g5, 0, none⟩) HN45.out _) (p := ⟨g5, 1, none⟩) HN45.out _) (p := ⟨g5, 2, none⟩) HN45.out _) (p := ⟨g5, 3, none⟩) HN45.out _) (p := ⟨g5, 4, none⟩) HN45.out _)⟩, ⟨set_blk _ _ (set_blk _ _ (set_blk _ _ (set_blk _ _ (set_blk _ _ (X5.out) rfl) rfl) rfl) rfl) rfl⟩, ⟨(blk_far (blk_far (blk_far (blk_far (blk_far X8.out (p := ⟨g5, 0, none⟩) HN58.out.symm _) (p := ⟨g5, 1, none⟩) HN58.out.symm _) (p := ⟨g5, 2, none⟩) HN58.out.symm _) (p := ⟨g5, 3, none⟩) HN58.out.symm _) (p := ⟨g5, 4, none⟩) HN58.out.symm _)⟩, HLO, ⟨(Kd.R_mono (Kd.R_far (p := ⟨g5, 4, none⟩) (Kd.R_far (p := ⟨g5, 3, none⟩) (Kd.R_far (p := ⟨g5, 2, none⟩) (Kd.R_far (p := ⟨g5, 1, none⟩) (Kd.R_far (p := ⟨g5, 0, none⟩) (C_farg HR.out X5.out) (fun _ hk => hk.2) _) (fun _ hk => hk.2) _) (fun _ hk => hk.2) _) (fun _ hk => hk.2) _) (fun _ hk => hk.2) _) (fun _ _ => trivial))⟩⟩
  case rest =>
   clear k0; clear h0 zh0 h1 zh1 h2 zh2 h3 zh3 h4 zh4; clear r0 zr0 r1 zr1 r2 zr2 r3 zr3 r4 zr4; clear HB X4 X5 X8
   obtain ⟨Ao, co, HB, X4, X5, X8, HLO, HR⟩ := hcut
   have k0 := (blk_cell X4.out 0).trans rfl
   have h0 := (blk_cell X5.out 0).trans rfl
   have h1 := (blk_cell X5.out 1).trans rfl
   have h2 := (blk_cell X5.out 2).trans rfl
   have h3 := (blk_cell X5.out 3).trans rfl
   have h4 := (blk_cell X5.out 4).trans rfl
   have zh0 := blk_frozen X5.out 0
   have zh1 := blk_frozen X5.out 1
   have zh2 := blk_frozen X5.out 2
   have zh3 := blk_frozen X5.out 3
   have zh4 := blk_frozen X5.out 4
   have r0 := (blk_cell X8.out 0).trans rfl
   have r1 := (blk_cell X8.out 1).trans rfl
   have r2 := (blk_cell X8.out 2).trans rfl
   have r3 := (blk_cell X8.out 3).trans rfl
   have r4 := (blk_cell X8.out 4).trans rfl
   have zr0 := blk_frozen X8.out 0
   have zr1 := blk_frozen X8.out 1
   have zr2 := blk_frozen X8.out 2
   have zr3 := blk_frozen X8.out 3
   have zr4 := blk_frozen X8.out 4
   go_wp2_with (go_at_call 36; (with_reducible refine (fright_l m A0 c0 F_ Bl At Ao co l Fly _ (Kd.C_below HM.out HB.out) HN.out).mono ?_); rintro e w7 ⟨he, hb⟩; rw [hfr] at he; subst he; clear k0; clear h0 zh0 h1 zh1 h2 zh2 h3 zh3 h4 zh4; clear r0 zr0 r1 zr1 r2 zr2 r3 zr3 r4 zr4; have n0_ := Aside0.mk (below_step HB.out hb); have n1_ := Aside0.mk (blk_below X4.out hb); have n2_ := Aside0.mk (blk_below X5.out hb); have n3_ := Aside0.mk (blk_below X8.out hb); have n4_ := Aside0.mk (Kd.R_below HR.out hb); clear HB X4 X5 X8 HR; have HB := n0_; have X4 := n1_; have X5 := n2_; have X8 := n3_; have HR := n4_; clear n0_ n1_ n2_ n3_ n4_; clear hb; have k0 := (blk_cell X4.out 0).trans rfl; have h0 := (blk_cell X5.out 0).trans rfl; have h1 := (blk_cell X5.out 1).trans rfl; have h2 := (blk_cell X5.out 2).trans rfl; have h3 := (blk_cell X5.out 3).trans rfl; have h4 := (blk_cell X5.out 4).trans rfl; have zh0 := blk_frozen X5.out 0; have zh1 := blk_frozen X5.out 1; have zh2 := blk_frozen X5.out 2; have zh3 := blk_frozen X5.out 3; have zh4 := blk_frozen X5.out 4; have r0 := (blk_cell X8.out 0).trans rfl; have r1 := (blk_cell X8.out 1).trans rfl; have r2 := (blk_cell X8.out 2).trans rfl; have r3 := (blk_cell X8.out 3).trans rfl; have r4 := (blk_cell X8.out 4).trans rfl; have zr0 := blk_frozen X8.out 0; have zr1 := blk_frozen X8.out 1; have zr2 := blk_frozen X8.out 2; have zr3 := blk_frozen X8.out 3; have zr4 := blk_frozen X8.out 4)
   refine bodyPost_ret (results_ct rfl _ _ g8 55 #[.int .i64 F_, .int .i64 Bl, .int .i64 At, .slice Ao l.length co, .int .u16 Fly] (0, 0) _ rfl (set_blk _ _ (set_blk _ _ (set_blk _ _ (set_blk _ _ (set_blk _ _ (X8.out) rfl) rfl) rfl) rfl) rfl) Try.underlying55 rfl (by kernel_rfl)) rfl ?_
   exact ⟨.inl ⟨HZ.out, Ao, co, rfl, HLO.out, (Kd.R_mono (Kd.R_far (p := ⟨g8, 4, none⟩) (Kd.R_far (p := ⟨g8, 3, none⟩) (Kd.R_far (p := ⟨g8, 2, none⟩) (Kd.R_far (p := ⟨g8, 1, none⟩) (Kd.R_far (p := ⟨g8, 0, none⟩) (C_farg HR.out X8.out) (fun _ hk => hk.2) _) (fun _ hk => hk.2) _) (fun _ hk => hk.2) _) (fun _ hk => hk.2) _) (fun _ hk => hk.2) _) (fun _ _ => trivial))⟩, below_set (below_set (below_set (below_set (below_set (HB.out) HLX8.out) HLX8.out) HLX8.out) HLX8.out) HLX8.out⟩
 | true =>
  have HO := Aside0.mk (frR_open hfr)
  obtain ⟨ad, A1, c1, e1, y0, y1, y2, hl1, hC1⟩ := at_T27 HM.out F_ HO.out.2.1 HO.out.2.2.1
  subst e1
  have p0 : (0 ≤ F_) = True := eq_true HO.out.2.1
  have p1 : (F_ < (m.length : Int)) = True := eq_true HO.out.2.2.1
  have HC1 := Aside0.mk hC1
  clear y0 y1 hl1 hC1
  by_cases b0 : 0 ≤ n
  rotate_left
  ·have d0 : decide (n < 0) = true := decide_eq_true (by omega)
   have HZ := Aside0.mk (show lnB m F_ Bl At l.length n = false by unfold lnB win; rw [decide_eq_false b0, Bool.false_and, Bool.and_false, Bool.false_and])
   clear b0
   go_enter Try.func35, Try.ntmps35
   go_upto_region 1 with (first | ((with_reducible refine gate_dst (N := 4) rfl ?_); refine box_event ?hg (N := 4) ?hd (cs := #[.slice (some ad) m.length c0]) (t := 24) ?hr ?_; (case hd => rfl); (case hg => rfl); (case hr => first | (go_simp; done) | (go_simp; rfl)); intro g4 hg w4 hbox hb; have HB := Aside0.mk hb; have X4 := Aside0.mk hbox; clear hbox hb hg; have k0 := (blk_cell X4.out 0).trans rfl) | ((with_reducible refine gate_dst (N := 5) rfl ?_); refine box_event ?hg (N := 5) ?hd (cs := #[.int .i64 F_, .int .i64 Bl, .int .i64 At, .slice A3 l.length c3, .int .u16 Fly]) (t := 55) ?hr ?_; (case hd => rfl); (case hg => rfl); (case hr => first | (go_simp; done) | (go_simp; rfl)); intro g5 hg w5 hbox hb; have HLX5 := Aside0.mk (show w.heap.size ≤ g5 by rw [hg]; exact HB.out.size); have HN45 := Aside0.mk (show g4 ≠ g5 by rw [hg]; exact Nat.ne_of_lt (blk_lt X4.out)); have n0_ := Aside0.mk (below_step HB.out hb); have n1_ := Aside0.mk (blk_below X4.out hb); clear HB X4; have HB := n0_; have X4 := n1_; clear n0_ n1_; have X5 := Aside0.mk hbox; clear hbox hb hg; have h0 := (blk_cell X5.out 0).trans rfl; have h1 := (blk_cell X5.out 1).trans rfl; have h2 := (blk_cell X5.out 2).trans rfl; have h3 := (blk_cell X5.out 3).trans rfl; have h4 := (blk_cell X5.out 4).trans rfl; have zh0 := blk_frozen X5.out 0; have zh1 := blk_frozen X5.out 1; have zh2 := blk_frozen X5.out 2; have zh3 := blk_frozen X5.out 3; have zh4 := blk_frozen X5.out 4; clear k0; have k0 := (blk_cell X4.out 0).trans rfl) | ((with_reducible refine gate_dst (N := 8) rfl ?_); refine box_event ?hg (N := 8) ?hd (cs := #[.int .i64 0, .int .i64 0, .int .i64 0, .slice none 0 0, .int .u16 0]) (t := 55) ?hr ?_; (case hd => rfl); (case hg => rfl); (case hr => first | (go_simp; done) | (go_simp; rfl)); intro g8 hg w8 hbox hb; have HLX8 := Aside0.mk (show w.heap.size ≤ g8 by rw [hg]; exact HB.out.size); have HN48 := Aside0.mk (show g4 ≠ g8 by rw [hg]; exact Nat.ne_of_lt (blk_lt X4.out)); have HN58 := Aside0.mk (show g5 ≠ g8 by rw [hg]; exact Nat.ne_of_lt (blk_lt X5.out)); have n0_ := Aside0.mk (below_step HB.out hb); have n1_ := Aside0.mk (blk_below X4.out hb); have n2_ := Aside0.mk (blk_below X5.out hb); clear HB X4 X5; have HB := n0_; have X4 := n1_; have X5 := n2_; clear n0_ n1_ n2_; have X8 := Aside0.mk hbox; clear hbox hb hg; have r0 := (blk_cell X8.out 0).trans rfl; have r1 := (blk_cell X8.out 1).trans rfl; have r2 := (blk_cell X8.out 2).trans rfl; have r3 := (blk_cell X8.out 3).trans rfl; have r4 := (blk_cell X8.out 4).trans rfl; have zr0 := blk_frozen X8.out 0; have zr1 := blk_frozen X8.out 1; have zr2 := blk_frozen X8.out 2; have zr3 := blk_frozen X8.out 3; have zr4 := blk_frozen X8.out 4; clear k0; clear h0 zh0 h1 zh1 h2 zh2 h3 zh3 h4 zh4; have k0 := (blk_cell X4.out 0).trans rfl; have h0 := (blk_cell X5.out 0).trans rfl; have h1 := (blk_cell X5.out 1).trans rfl; have h2 := (blk_cell X5.out 2).trans rfl; have h3 := (blk_cell X5.out 3).trans rfl; have h4 := (blk_cell X5.out 4).trans rfl; have zh0 := blk_frozen X5.out 0; have zh1 := blk_frozen X5.out 1; have zh2 := blk_frozen X5.out 2; have zh3 := blk_frozen X5.out 3; have zh4 := blk_frozen X5.out 4))
   go_cut [] (fun wc => ∃ Ao co, Aside0 (Below w.heap.size w wc) ∧ Aside0 (wc.heap[g4]? = some (.cells #[.slice (some ad) m.length c0] 24 (0, 0))) ∧ Aside0 (wc.heap[g5]? = some (.cells #[.int .i64 F_, .int .i64 Bl, .int .i64 At, .slice Ao l.length co, .int .u16 Fly] 55 (0, 0))) ∧ Aside0 (wc.heap[g8]? = some (.cells #[.int .i64 0, .int .i64 0, .int .i64 0, .slice none 0 0, .int .u16 0] 55 (0, 0))) ∧ Aside0 (l.length ≤ co) ∧ Aside0 (Kd.R (Kd.int .u16) 44 wc w.heap.size (fun _ => True) (.slice Ao l.length co) (l)))
   case first =>
    go_wp2_with (go_at_call 69; go_loud ((with_reducible refine (copied_c F_ Bl At A3 c3 l Fly _ (Kd.C_below HL.out HB.out) HC3.out (by have := HNN.out; omega)).mono ?_); rintro e w6 ⟨⟨Ao, co, rfl, hlo, hr⟩, hb⟩; have HLO := Aside0.mk hlo; have HR := Aside0.mk (Kd.R_lower hr HB.out.size); clear k0; clear h0 zh0 h1 zh1 h2 zh2 h3 zh3 h4 zh4; clear r0 zr0 r1 zr1 r2 zr2 r3 zr3 r4 zr4; have n0_ := Aside0.mk (below_step HB.out hb); have n1_ := Aside0.mk (blk_below X4.out hb); have n2_ := Aside0.mk (blk_below X5.out hb); have n3_ := Aside0.mk (blk_below X8.out hb); clear HB X4 X5 X8; have HB := n0_; have X4 := n1_; have X5 := n2_; have X8 := n3_; clear n0_ n1_ n2_ n3_; clear hlo hr hb; have k0 := (blk_cell X4.out 0).trans rfl; have h0 := (blk_cell X5.out 0).trans rfl; have h1 := (blk_cell X5.out 1).trans rfl; have h2 := (blk_cell X5.out 2).trans rfl; have h3 := (blk_cell X5.out 3).trans rfl; have h4 := (blk_cell X5.out 4).trans rfl; have zh0 := blk_frozen X5.out 0; have zh1 := blk_frozen X5.out 1; have zh2 := blk_frozen X5.out 2; have zh3 := blk_frozen X5.out 3; have zh4 := blk_frozen X5.out 4; have r0 := (blk_cell X8.out 0).trans rfl; have r1 := (blk_cell X8.out 1).trans rfl; have r2 := (blk_cell X8.out 2).trans rfl; have r3 := (blk_cell X8.out 3).trans rfl; have r4 := (blk_cell X8.out 4).trans rfl; have zr0 := blk_frozen X8.out 0; have zr1 := blk_frozen X8.out 1; have zr2 := blk_frozen X8.out 2; have zr3 := blk_frozen X8.out 3; have zr4 := blk_frozen X8.out 4))
    go_meet
    exact ⟨Ao, co, ⟨below_set (below_set (below_set (below_set (below_set (HB.out) HLX5.out) HLX5.out) HLX5.out) HLX5.out) HLX5.out⟩, ⟨(blk_far (blk_far (blk_far (blk_far (blk_far X4.out (p := ⟨g5, 0, none⟩) HN45.out _) (p := ⟨g5, 1, none⟩) HN45.out _) (p := ⟨g5, 2, none⟩) HN45.out _) (p := ⟨g5, 3, none⟩) HN45.out _) (p := ⟨g5, 4, none⟩) HN45.out _)⟩, ⟨set_blk _ _ (set_blk _ _ (set_blk _ _ (set_blk _ _ (set_blk _ _ (X5.out) rfl) rfl) rfl) rfl) rfl⟩, ⟨(blk_far (blk_far (blk_far (blk_far (blk_far X8.out (p := ⟨g5, 0, none⟩) HN58.out.symm _) (p := ⟨g5, 1, none⟩) HN58.out.symm _) (p := ⟨g5, 2, none⟩) HN58.out.symm _) (p := ⟨g5, 3, none⟩) HN58.out.symm _) (p := ⟨g5, 4, none⟩) HN58.out.symm _)⟩, HLO, ⟨(Kd.R_mono (Kd.R_far (p := ⟨g5, 4, none⟩) (Kd.R_far (p := ⟨g5, 3, none⟩) (Kd.R_far (p := ⟨g5, 2, none⟩) (Kd.R_far (p := ⟨g5, 1, none⟩) (Kd.R_far (p := ⟨g5, 0, none⟩) (C_farg HR.out X5.out) (fun _ hk => hk.2) _) (fun _ hk => hk.2) _) (fun _ hk => hk.2) _) (fun _ hk => hk.2) _) (fun _ hk => hk.2) _) (fun _ _ => trivial))⟩⟩
   case rest =>
    clear k0; clear h0 zh0 h1 zh1 h2 zh2 h3 zh3 h4 zh4; clear r0 zr0 r1 zr1 r2 zr2 r3 zr3 r4 zr4; clear HB X4 X5 X8
    obtain ⟨Ao, co, HB, X4, X5, X8, HLO, HR⟩ := hcut
    have k0 := (blk_cell X4.out 0).trans rfl
    have h0 := (blk_cell X5.out 0).trans rfl
    have h1 := (blk_cell X5.out 1).trans rfl
    have h2 := (blk_cell X5.out 2).trans rfl
    have h3 := (blk_cell X5.out 3).trans rfl
    have h4 := (blk_cell X5.out 4).trans rfl
    have zh0 := blk_frozen X5.out 0
    have zh1 := blk_frozen X5.out 1
    have zh2 := blk_frozen X5.out 2
    have zh3 := blk_frozen X5.out 3
    have zh4 := blk_frozen X5.out 4
    have r0 := (blk_cell X8.out 0).trans rfl
    have r1 := (blk_cell X8.out 1).trans rfl
    have r2 := (blk_cell X8.out 2).trans rfl
    have r3 := (blk_cell X8.out 3).trans rfl
    have r4 := (blk_cell X8.out 4).trans rfl
    have zr0 := blk_frozen X8.out 0
    have zr1 := blk_frozen X8.out 1
    have zr2 := blk_frozen X8.out 2
    have zr3 := blk_frozen X8.out 3
    have zr4 := blk_frozen X8.out 4
    have u0 := pw_cell_below HB.out y2
    go_wp2_with (go_at_call 36; (with_reducible refine (fright_l m (some ad) c0 F_ Bl At Ao co l Fly _ (Kd.C_below HM.out HB.out) HN.out).mono ?_); rintro e w7 ⟨he, hb⟩; rw [hfr] at he; subst he; clear u0; clear k0; clear h0 zh0 h1 zh1 h2 zh2 h3 zh3 h4 zh4; clear r0 zr0 r1 zr1 r2 zr2 r3 zr3 r4 zr4; have n0_ := Aside0.mk (below_step HB.out hb); have n1_ := Aside0.mk (blk_below X4.out hb); have n2_ := Aside0.mk (blk_below X5.out hb); have n3_ := Aside0.mk (blk_below X8.out hb); have n4_ := Aside0.mk (Kd.R_below HR.out hb); clear HB X4 X5 X8 HR; have HB := n0_; have X4 := n1_; have X5 := n2_; have X8 := n3_; have HR := n4_; clear n0_ n1_ n2_ n3_ n4_; clear hb; have k0 := (blk_cell X4.out 0).trans rfl; have h0 := (blk_cell X5.out 0).trans rfl; have h1 := (blk_cell X5.out 1).trans rfl; have h2 := (blk_cell X5.out 2).trans rfl; have h3 := (blk_cell X5.out 3).trans rfl; have h4 := (blk_cell X5.out 4).trans rfl; have zh0 := blk_frozen X5.out 0; have zh1 := blk_frozen X5.out 1; have zh2 := blk_frozen X5.out 2; have zh3 := blk_frozen X5.out 3; have zh4 := blk_frozen X5.out 4; have r0 := (blk_cell X8.out 0).trans rfl; have r1 := (blk_cell X8.out 1).trans rfl; have r2 := (blk_cell X8.out 2).trans rfl; have r3 := (blk_cell X8.out 3).trans rfl; have r4 := (blk_cell X8.out 4).trans rfl; have zr0 := blk_frozen X8.out 0; have zr1 := blk_frozen X8.out 1; have zr2 := blk_frozen X8.out 2; have zr3 := blk_frozen X8.out 3; have zr4 := blk_frozen X8.out 4; have u0 := pw_cell_below HB.out y2)
    refine bodyPost_ret (results_ct rfl _ _ g8 55 #[.int .i64 F_, .int .i64 Bl, .int .i64 At, .slice Ao l.length co, .int .u16 Fly] (0, 0) _ rfl (set_blk _ _ (set_blk _ _ (set_blk _ _ (set_blk _ _ (set_blk _ _ (X8.out) rfl) rfl) rfl) rfl) rfl) Try.underlying55 rfl (by kernel_rfl)) rfl ?_
    exact ⟨.inl ⟨HZ.out, Ao, co, rfl, HLO.out, (Kd.R_mono (Kd.R_far (p := ⟨g8, 4, none⟩) (Kd.R_far (p := ⟨g8, 3, none⟩) (Kd.R_far (p := ⟨g8, 2, none⟩) (Kd.R_far (p := ⟨g8, 1, none⟩) (Kd.R_far (p := ⟨g8, 0, none⟩) (C_farg HR.out X8.out) (fun _ hk => hk.2) _) (fun _ hk => hk.2) _) (fun _ hk => hk.2) _) (fun _ hk => hk.2) _) (fun _ hk => hk.2) _) (fun _ _ => trivial))⟩, below_set (below_set (below_set (below_set (below_set (HB.out) HLX8.out) HLX8.out) HLX8.out) HLX8.out) HLX8.out⟩
  have d0 : decide (n < 0) = false := decide_eq_false (by omega)
  by_cases b1 : n < ((rd_T27 m F_).f2.length : Int)
  rotate_left
  ·have d1 : decide (((rd_T27 m F_).f2.length : Int) ≤ n) = true := decide_eq_true (by omega)
   have HZ := Aside0.mk (show lnB m F_ Bl At l.length n = false by unfold lnB win; rw [decide_eq_false b1, Bool.and_false, Bool.and_false, Bool.false_and])
   clear b0 b1
   go_enter Try.func35, Try.ntmps35
   go_upto_region 1 with (first | ((with_reducible refine gate_dst (N := 4) rfl ?_); refine box_event ?hg (N := 4) ?hd (cs := #[.slice (some ad) m.length c0]) (t := 24) ?hr ?_; (case hd => rfl); (case hg => rfl); (case hr => first | (go_simp; done) | (go_simp; rfl)); intro g4 hg w4 hbox hb; have HB := Aside0.mk hb; have X4 := Aside0.mk hbox; clear hbox hb hg; have k0 := (blk_cell X4.out 0).trans rfl) | ((with_reducible refine gate_dst (N := 5) rfl ?_); refine box_event ?hg (N := 5) ?hd (cs := #[.int .i64 F_, .int .i64 Bl, .int .i64 At, .slice A3 l.length c3, .int .u16 Fly]) (t := 55) ?hr ?_; (case hd => rfl); (case hg => rfl); (case hr => first | (go_simp; done) | (go_simp; rfl)); intro g5 hg w5 hbox hb; have HLX5 := Aside0.mk (show w.heap.size ≤ g5 by rw [hg]; exact HB.out.size); have HN45 := Aside0.mk (show g4 ≠ g5 by rw [hg]; exact Nat.ne_of_lt (blk_lt X4.out)); have n0_ := Aside0.mk (below_step HB.out hb); have n1_ := Aside0.mk (blk_below X4.out hb); clear HB X4; have HB := n0_; have X4 := n1_; clear n0_ n1_; have X5 := Aside0.mk hbox; clear hbox hb hg; have h0 := (blk_cell X5.out 0).trans rfl; have h1 := (blk_cell X5.out 1).trans rfl; have h2 := (blk_cell X5.out 2).trans rfl; have h3 := (blk_cell X5.out 3).trans rfl; have h4 := (blk_cell X5.out 4).trans rfl; have zh0 := blk_frozen X5.out 0; have zh1 := blk_frozen X5.out 1; have zh2 := blk_frozen X5.out 2; have zh3 := blk_frozen X5.out 3; have zh4 := blk_frozen X5.out 4; clear k0; have k0 := (blk_cell X4.out 0).trans rfl) | ((with_reducible refine gate_dst (N := 8) rfl ?_); refine box_event ?hg (N := 8) ?hd (cs := #[.int .i64 0, .int .i64 0, .int .i64 0, .slice none 0 0, .int .u16 0]) (t := 55) ?hr ?_; (case hd => rfl); (case hg => rfl); (case hr => first | (go_simp; done) | (go_simp; rfl)); intro g8 hg w8 hbox hb; have HLX8 := Aside0.mk (show w.heap.size ≤ g8 by rw [hg]; exact HB.out.size); have HN48 := Aside0.mk (show g4 ≠ g8 by rw [hg]; exact Nat.ne_of_lt (blk_lt X4.out)); have HN58 := Aside0.mk (show g5 ≠ g8 by rw [hg]; exact Nat.ne_of_lt (blk_lt X5.out)); have n0_ := Aside0.mk (below_step HB.out hb); have n1_ := Aside0.mk (blk_below X4.out hb); have n2_ := Aside0.mk (blk_below X5.out hb); clear HB X4 X5; have HB := n0_; have X4 := n1_; have X5 := n2_; clear n0_ n1_ n2_; have X8 := Aside0.mk hbox; clear hbox hb hg; have r0 := (blk_cell X8.out 0).trans rfl; have r1 := (blk_cell X8.out 1).trans rfl; have r2 := (blk_cell X8.out 2).trans rfl; have r3 := (blk_cell X8.out 3).trans rfl; have r4 := (blk_cell X8.out 4).trans rfl; have zr0 := blk_frozen X8.out 0; have zr1 := blk_frozen X8.out 1; have zr2 := blk_frozen X8.out 2; have zr3 := blk_frozen X8.out 3; have zr4 := blk_frozen X8.out 4; clear k0; clear h0 zh0 h1 zh1 h2 zh2 h3 zh3 h4 zh4; have k0 := (blk_cell X4.out 0).trans rfl; have h0 := (blk_cell X5.out 0).trans rfl; have h1 := (blk_cell X5.out 1).trans rfl; have h2 := (blk_cell X5.out 2).trans rfl; have h3 := (blk_cell X5.out 3).trans rfl; have h4 := (blk_cell X5.out 4).trans rfl; have zh0 := blk_frozen X5.out 0; have zh1 := blk_frozen X5.out 1; have zh2 := blk_frozen X5.out 2; have zh3 := blk_frozen X5.out 3; have zh4 := blk_frozen X5.out 4))
   go_cut [] (fun wc => ∃ Ao co, Aside0 (Below w.heap.size w wc) ∧ Aside0 (wc.heap[g4]? = some (.cells #[.slice (some ad) m.length c0] 24 (0, 0))) ∧ Aside0 (wc.heap[g5]? = some (.cells #[.int .i64 F_, .int .i64 Bl, .int .i64 At, .slice Ao l.length co, .int .u16 Fly] 55 (0, 0))) ∧ Aside0 (wc.heap[g8]? = some (.cells #[.int .i64 0, .int .i64 0, .int .i64 0, .slice none 0 0, .int .u16 0] 55 (0, 0))) ∧ Aside0 (l.length ≤ co) ∧ Aside0 (Kd.R (Kd.int .u16) 44 wc w.heap.size (fun _ => True) (.slice Ao l.length co) (l)))
   case first =>
    go_wp2_with (go_at_call 69; go_loud ((with_reducible refine (copied_c F_ Bl At A3 c3 l Fly _ (Kd.C_below HL.out HB.out) HC3.out (by have := HNN.out; omega)).mono ?_); rintro e w6 ⟨⟨Ao, co, rfl, hlo, hr⟩, hb⟩; have HLO := Aside0.mk hlo; have HR := Aside0.mk (Kd.R_lower hr HB.out.size); clear k0; clear h0 zh0 h1 zh1 h2 zh2 h3 zh3 h4 zh4; clear r0 zr0 r1 zr1 r2 zr2 r3 zr3 r4 zr4; have n0_ := Aside0.mk (below_step HB.out hb); have n1_ := Aside0.mk (blk_below X4.out hb); have n2_ := Aside0.mk (blk_below X5.out hb); have n3_ := Aside0.mk (blk_below X8.out hb); clear HB X4 X5 X8; have HB := n0_; have X4 := n1_; have X5 := n2_; have X8 := n3_; clear n0_ n1_ n2_ n3_; clear hlo hr hb; have k0 := (blk_cell X4.out 0).trans rfl; have h0 := (blk_cell X5.out 0).trans rfl; have h1 := (blk_cell X5.out 1).trans rfl; have h2 := (blk_cell X5.out 2).trans rfl; have h3 := (blk_cell X5.out 3).trans rfl; have h4 := (blk_cell X5.out 4).trans rfl; have zh0 := blk_frozen X5.out 0; have zh1 := blk_frozen X5.out 1; have zh2 := blk_frozen X5.out 2; have zh3 := blk_frozen X5.out 3; have zh4 := blk_frozen X5.out 4; have r0 := (blk_cell X8.out 0).trans rfl; have r1 := (blk_cell X8.out 1).trans rfl; have r2 := (blk_cell X8.out 2).trans rfl; have r3 := (blk_cell X8.out 3).trans rfl; have r4 := (blk_cell X8.out 4).trans rfl; have zr0 := blk_frozen X8.out 0; have zr1 := blk_frozen X8.out 1; have zr2 := blk_frozen X8.out 2; have zr3 := blk_frozen X8.out 3; have zr4 := blk_frozen X8.out 4))
    go_meet
    exact ⟨Ao, co, ⟨below_set (below_set (below_set (below_set (below_set (HB.out) HLX5.out) HLX5.out) HLX5.out) HLX5.out) HLX5.out⟩, ⟨(blk_far (blk_far (blk_far (blk_far (blk_far X4.out (p := ⟨g5, 0, none⟩) HN45.out _) (p := ⟨g5, 1, none⟩) HN45.out _) (p := ⟨g5, 2, none⟩) HN45.out _) (p := ⟨g5, 3, none⟩) HN45.out _) (p := ⟨g5, 4, none⟩) HN45.out _)⟩, ⟨set_blk _ _ (set_blk _ _ (set_blk _ _ (set_blk _ _ (set_blk _ _ (X5.out) rfl) rfl) rfl) rfl) rfl⟩, ⟨(blk_far (blk_far (blk_far (blk_far (blk_far X8.out (p := ⟨g5, 0, none⟩) HN58.out.symm _) (p := ⟨g5, 1, none⟩) HN58.out.symm _) (p := ⟨g5, 2, none⟩) HN58.out.symm _) (p := ⟨g5, 3, none⟩) HN58.out.symm _) (p := ⟨g5, 4, none⟩) HN58.out.symm _)⟩, HLO, ⟨(Kd.R_mono (Kd.R_far (p := ⟨g5, 4, none⟩) (Kd.R_far (p := ⟨g5, 3, none⟩) (Kd.R_far (p := ⟨g5, 2, none⟩) (Kd.R_far (p := ⟨g5, 1, none⟩) (Kd.R_far (p := ⟨g5, 0, none⟩) (C_farg HR.out X5.out) (fun _ hk => hk.2) _) (fun _ hk => hk.2) _) (fun _ hk => hk.2) _) (fun _ hk => hk.2) _) (fun _ hk => hk.2) _) (fun _ _ => trivial))⟩⟩
   case rest =>
    clear k0; clear h0 zh0 h1 zh1 h2 zh2 h3 zh3 h4 zh4; clear r0 zr0 r1 zr1 r2 zr2 r3 zr3 r4 zr4; clear HB X4 X5 X8
    obtain ⟨Ao, co, HB, X4, X5, X8, HLO, HR⟩ := hcut
    have k0 := (blk_cell X4.out 0).trans rfl
    have h0 := (blk_cell X5.out 0).trans rfl
    have h1 := (blk_cell X5.out 1).trans rfl
    have h2 := (blk_cell X5.out 2).trans rfl
    have h3 := (blk_cell X5.out 3).trans rfl
    have h4 := (blk_cell X5.out 4).trans rfl
    have zh0 := blk_frozen X5.out 0
    have zh1 := blk_frozen X5.out 1
    have zh2 := blk_frozen X5.out 2
    have zh3 := blk_frozen X5.out 3
    have zh4 := blk_frozen X5.out 4
    have r0 := (blk_cell X8.out 0).trans rfl
    have r1 := (blk_cell X8.out 1).trans rfl
    have r2 := (blk_cell X8.out 2).trans rfl
    have r3 := (blk_cell X8.out 3).trans rfl
    have r4 := (blk_cell X8.out 4).trans rfl
    have zr0 := blk_frozen X8.out 0
    have zr1 := blk_frozen X8.out 1
    have zr2 := blk_frozen X8.out 2
    have zr3 := blk_frozen X8.out 3
    have zr4 := blk_frozen X8.out 4
    have u0 := pw_cell_below HB.out y2
    go_wp2_with (go_at_call 36; (with_reducible refine (fright_l m (some ad) c0 F_ Bl At Ao co l Fly _ (Kd.C_below HM.out HB.out) HN.out).mono ?_); rintro e w7 ⟨he, hb⟩; rw [hfr] at he; subst he; clear u0; clear k0; clear h0 zh0 h1 zh1 h2 zh2 h3 zh3 h4 zh4; clear r0 zr0 r1 zr1 r2 zr2 r3 zr3 r4 zr4; have n0_ := Aside0.mk (below_step HB.out hb); have n1_ := Aside0.mk (blk_below X4.out hb); have n2_ := Aside0.mk (blk_below X5.out hb); have n3_ := Aside0.mk (blk_below X8.out hb); have n4_ := Aside0.mk (Kd.R_below HR.out hb); clear HB X4 X5 X8 HR; have HB := n0_; have X4 := n1_; have X5 := n2_; have X8 := n3_; have HR := n4_; clear n0_ n1_ n2_ n3_ n4_; clear hb; have k0 := (blk_cell X4.out 0).trans rfl; have h0 := (blk_cell X5.out 0).trans rfl; have h1 := (blk_cell X5.out 1).trans rfl; have h2 := (blk_cell X5.out 2).trans rfl; have h3 := (blk_cell X5.out 3).trans rfl; have h4 := (blk_cell X5.out 4).trans rfl; have zh0 := blk_frozen X5.out 0; have zh1 := blk_frozen X5.out 1; have zh2 := blk_frozen X5.out 2; have zh3 := blk_frozen X5.out 3; have zh4 := blk_frozen X5.out 4; have r0 := (blk_cell X8.out 0).trans rfl; have r1 := (blk_cell X8.out 1).trans rfl; have r2 := (blk_cell X8.out 2).trans rfl; have r3 := (blk_cell X8.out 3).trans rfl; have r4 := (blk_cell X8.out 4).trans rfl; have zr0 := blk_frozen X8.out 0; have zr1 := blk_frozen X8.out 1; have zr2 := blk_frozen X8.out 2; have zr3 := blk_frozen X8.out 3; have zr4 := blk_frozen X8.out 4; have u0 := pw_cell_below HB.out y2)
    refine bodyPost_ret (results_ct rfl _ _ g8 55 #[.int .i64 F_, .int .i64 Bl, .int .i64 At, .slice Ao l.length co, .int .u16 Fly] (0, 0) _ rfl (set_blk _ _ (set_blk _ _ (set_blk _ _ (set_blk _ _ (set_blk _ _ (X8.out) rfl) rfl) rfl) rfl) rfl) Try.underlying55 rfl (by kernel_rfl)) rfl ?_
    exact ⟨.inl ⟨HZ.out, Ao, co, rfl, HLO.out, (Kd.R_mono (Kd.R_far (p := ⟨g8, 4, none⟩) (Kd.R_far (p := ⟨g8, 3, none⟩) (Kd.R_far (p := ⟨g8, 2, none⟩) (Kd.R_far (p := ⟨g8, 1, none⟩) (Kd.R_far (p := ⟨g8, 0, none⟩) (C_farg HR.out X8.out) (fun _ hk => hk.2) _) (fun _ hk => hk.2) _) (fun _ hk => hk.2) _) (fun _ hk => hk.2) _) (fun _ hk => hk.2) _) (fun _ _ => trivial))⟩, below_set (below_set (below_set (below_set (below_set (HB.out) HLX8.out) HLX8.out) HLX8.out) HLX8.out) HLX8.out⟩
  have d1 : decide (((rd_T27 m F_).f2.length : Int) ≤ n) = false := decide_eq_false (by omega)
  have HW := Aside0.mk (And.intro b0 b1)
  have p2 : (0 ≤ n) = True := eq_true b0
  have p3 : (n < ((rd_T27 m F_).f2.length : Int)) = True := eq_true b1
  obtain ⟨ad2, A4, c4, A5, c5, A6, c6, e1, z0, z1, z2, z3, z4, z5, z6, z7, z8, z9, z10, z11, z12, z13, _⟩ := at_T41 HC1.out n b0 b1
  subst e1
  clear z2 z3 z4 z5 z6 z7 z8 z9 z10 z11 z12 z13 b0 b1
  cases hld : (rd_T41 (rd_T27 m F_).f2 n).f0 with
  | false =>
   rw [hld] at z0
   have HZ := Aside0.mk (show lnB m F_ Bl At l.length n = false by unfold lnB; rw [hld, Bool.and_false])
   go_enter Try.func35, Try.ntmps35
   go_upto_region 1 with (first | ((with_reducible refine gate_dst (N := 4) rfl ?_); refine box_event ?hg (N := 4) ?hd (cs := #[.slice (some ad) m.length c0]) (t := 24) ?hr ?_; (case hd => rfl); (case hg => rfl); (case hr => first | (go_simp; done) | (go_simp; rfl)); intro g4 hg w4 hbox hb; have HB := Aside0.mk hb; have X4 := Aside0.mk hbox; clear hbox hb hg; have k0 := (blk_cell X4.out 0).trans rfl) | ((with_reducible refine gate_dst (N := 5) rfl ?_); refine box_event ?hg (N := 5) ?hd (cs := #[.int .i64 F_, .int .i64 Bl, .int .i64 At, .slice A3 l.length c3, .int .u16 Fly]) (t := 55) ?hr ?_; (case hd => rfl); (case hg => rfl); (case hr => first | (go_simp; done) | (go_simp; rfl)); intro g5 hg w5 hbox hb; have HLX5 := Aside0.mk (show w.heap.size ≤ g5 by rw [hg]; exact HB.out.size); have HN45 := Aside0.mk (show g4 ≠ g5 by rw [hg]; exact Nat.ne_of_lt (blk_lt X4.out)); have n0_ := Aside0.mk (below_step HB.out hb); have n1_ := Aside0.mk (blk_below X4.out hb); clear HB X4; have HB := n0_; have X4 := n1_; clear n0_ n1_; have X5 := Aside0.mk hbox; clear hbox hb hg; have h0 := (blk_cell X5.out 0).trans rfl; have h1 := (blk_cell X5.out 1).trans rfl; have h2 := (blk_cell X5.out 2).trans rfl; have h3 := (blk_cell X5.out 3).trans rfl; have h4 := (blk_cell X5.out 4).trans rfl; have zh0 := blk_frozen X5.out 0; have zh1 := blk_frozen X5.out 1; have zh2 := blk_frozen X5.out 2; have zh3 := blk_frozen X5.out 3; have zh4 := blk_frozen X5.out 4; clear k0; have k0 := (blk_cell X4.out 0).trans rfl) | ((with_reducible refine gate_dst (N := 8) rfl ?_); refine box_event ?hg (N := 8) ?hd (cs := #[.int .i64 0, .int .i64 0, .int .i64 0, .slice none 0 0, .int .u16 0]) (t := 55) ?hr ?_; (case hd => rfl); (case hg => rfl); (case hr => first | (go_simp; done) | (go_simp; rfl)); intro g8 hg w8 hbox hb; have HLX8 := Aside0.mk (show w.heap.size ≤ g8 by rw [hg]; exact HB.out.size); have HN48 := Aside0.mk (show g4 ≠ g8 by rw [hg]; exact Nat.ne_of_lt (blk_lt X4.out)); have HN58 := Aside0.mk (show g5 ≠ g8 by rw [hg]; exact Nat.ne_of_lt (blk_lt X5.out)); have n0_ := Aside0.mk (below_step HB.out hb); have n1_ := Aside0.mk (blk_below X4.out hb); have n2_ := Aside0.mk (blk_below X5.out hb); clear HB X4 X5; have HB := n0_; have X4 := n1_; have X5 := n2_; clear n0_ n1_ n2_; have X8 := Aside0.mk hbox; clear hbox hb hg; have r0 := (blk_cell X8.out 0).trans rfl; have r1 := (blk_cell X8.out 1).trans rfl; have r2 := (blk_cell X8.out 2).trans rfl; have r3 := (blk_cell X8.out 3).trans rfl; have r4 := (blk_cell X8.out 4).trans rfl; have zr0 := blk_frozen X8.out 0; have zr1 := blk_frozen X8.out 1; have zr2 := blk_frozen X8.out 2; have zr3 := blk_frozen X8.out 3; have zr4 := blk_frozen X8.out 4; clear k0; clear h0 zh0 h1 zh1 h2 zh2 h3 zh3 h4 zh4; have k0 := (blk_cell X4.out 0).trans rfl; have h0 := (blk_cell X5.out 0).trans rfl; have h1 := (blk_cell X5.out 1).trans rfl; have h2 := (blk_cell X5.out 2).trans rfl; have h3 := (blk_cell X5.out 3).trans rfl; have h4 := (blk_cell X5.out 4).trans rfl; have zh0 := blk_frozen X5.out 0; have zh1 := blk_frozen X5.out 1; have zh2 := blk_frozen X5.out 2; have zh3 := blk_frozen X5.out 3; have zh4 := blk_frozen X5.out 4))
   go_cut [] (fun wc => ∃ Ao co, Aside0 (Below w.heap.size w wc) ∧ Aside0 (wc.heap[g4]? = some (.cells #[.slice (some ad) m.length c0] 24 (0, 0))) ∧ Aside0 (wc.heap[g5]? = some (.cells #[.int .i64 F_, .int .i64 Bl, .int .i64 At, .slice Ao l.length co, .int .u16 Fly] 55 (0, 0))) ∧ Aside0 (wc.heap[g8]? = some (.cells #[.int .i64 0, .int .i64 0, .int .i64 0, .slice none 0 0, .int .u16 0] 55 (0, 0))) ∧ Aside0 (l.length ≤ co) ∧ Aside0 (Kd.R (Kd.int .u16) 44 wc w.heap.size (fun _ => True) (.slice Ao l.length co) (l)))
   case first =>
    go_wp2_with (go_at_call 69; go_loud ((with_reducible refine (copied_c F_ Bl At A3 c3 l Fly _ (Kd.C_below HL.out HB.out) HC3.out (by have := HNN.out; omega)).mono ?_); rintro e w6 ⟨⟨Ao, co, rfl, hlo, hr⟩, hb⟩; have HLO := Aside0.mk hlo; have HR := Aside0.mk (Kd.R_lower hr HB.out.size); clear k0; clear h0 zh0 h1 zh1 h2 zh2 h3 zh3 h4 zh4; clear r0 zr0 r1 zr1 r2 zr2 r3 zr3 r4 zr4; have n0_ := Aside0.mk (below_step HB.out hb); have n1_ := Aside0.mk (blk_below X4.out hb); have n2_ := Aside0.mk (blk_below X5.out hb); have n3_ := Aside0.mk (blk_below X8.out hb); clear HB X4 X5 X8; have HB := n0_; have X4 := n1_; have X5 := n2_; have X8 := n3_; clear n0_ n1_ n2_ n3_; clear hlo hr hb; have k0 := (blk_cell X4.out 0).trans rfl; have h0 := (blk_cell X5.out 0).trans rfl; have h1 := (blk_cell X5.out 1).trans rfl; have h2 := (blk_cell X5.out 2).trans rfl; have h3 := (blk_cell X5.out 3).trans rfl; have h4 := (blk_cell X5.out 4).trans rfl; have zh0 := blk_frozen X5.out 0; have zh1 := blk_frozen X5.out 1; have zh2 := blk_frozen X5.out 2; have zh3 := blk_frozen X5.out 3; have zh4 := blk_frozen X5.out 4; have r0 := (blk_cell X8.out 0).trans rfl; have r1 := (blk_cell X8.out 1).trans rfl; have r2 := (blk_cell X8.out 2).trans rfl; have r3 := (blk_cell X8.out 3).trans rfl; have r4 := (blk_cell X8.out 4).trans rfl; have zr0 := blk_frozen X8.out 0; have zr1 := blk_frozen X8.out 1; have zr2 := blk_frozen X8.out 2; have zr3 := blk_frozen X8.out 3; have zr4 := blk_frozen X8.out 4))
    go_meet
    exact ⟨Ao, co, ⟨below_set (below_set (below_set (below_set (below_set (HB.out) HLX5.out) HLX5.out) HLX5.out) HLX5.out) HLX5.out⟩, ⟨(blk_far (blk_far (blk_far (blk_far (blk_far X4.out (p := ⟨g5, 0, none⟩) HN45.out _) (p := ⟨g5, 1, none⟩) HN45.out _) (p := ⟨g5, 2, none⟩) HN45.out _) (p := ⟨g5, 3, none⟩) HN45.out _) (p := ⟨g5, 4, none⟩) HN45.out _)⟩, ⟨set_blk _ _ (set_blk _ _ (set_blk _ _ (set_blk _ _ (set_blk _ _ (X5.out) rfl) rfl) rfl) rfl) rfl⟩, ⟨(blk_far (blk_far (blk_far (blk_far (blk_far X8.out (p := ⟨g5, 0, none⟩) HN58.out.symm _) (p := ⟨g5, 1, none⟩) HN58.out.symm _) (p := ⟨g5, 2, none⟩) HN58.out.symm _) (p := ⟨g5, 3, none⟩) HN58.out.symm _) (p := ⟨g5, 4, none⟩) HN58.out.symm _)⟩, HLO, ⟨(Kd.R_mono (Kd.R_far (p := ⟨g5, 4, none⟩) (Kd.R_far (p := ⟨g5, 3, none⟩) (Kd.R_far (p := ⟨g5, 2, none⟩) (Kd.R_far (p := ⟨g5, 1, none⟩) (Kd.R_far (p := ⟨g5, 0, none⟩) (C_farg HR.out X5.out) (fun _ hk => hk.2) _) (fun _ hk => hk.2) _) (fun _ hk => hk.2) _) (fun _ hk => hk.2) _) (fun _ hk => hk.2) _) (fun _ _ => trivial))⟩⟩
   case rest =>
    clear k0; clear h0 zh0 h1 zh1 h2 zh2 h3 zh3 h4 zh4; clear r0 zr0 r1 zr1 r2 zr2 r3 zr3 r4 zr4; clear HB X4 X5 X8
    obtain ⟨Ao, co, HB, X4, X5, X8, HLO, HR⟩ := hcut
    have k0 := (blk_cell X4.out 0).trans rfl
    have h0 := (blk_cell X5.out 0).trans rfl
    have h1 := (blk_cell X5.out 1).trans rfl
    have h2 := (blk_cell X5.out 2).trans rfl
    have h3 := (blk_cell X5.out 3).trans rfl
    have h4 := (blk_cell X5.out 4).trans rfl
    have zh0 := blk_frozen X5.out 0
    have zh1 := blk_frozen X5.out 1
    have zh2 := blk_frozen X5.out 2
    have zh3 := blk_frozen X5.out 3
    have zh4 := blk_frozen X5.out 4
    have r0 := (blk_cell X8.out 0).trans rfl
    have r1 := (blk_cell X8.out 1).trans rfl
    have r2 := (blk_cell X8.out 2).trans rfl
    have r3 := (blk_cell X8.out 3).trans rfl
    have r4 := (blk_cell X8.out 4).trans rfl
    have zr0 := blk_frozen X8.out 0
    have zr1 := blk_frozen X8.out 1
    have zr2 := blk_frozen X8.out 2
    have zr3 := blk_frozen X8.out 3
    have zr4 := blk_frozen X8.out 4
    have u0 := pw_cell_below HB.out y2
    have u1 := pw_cell_below HB.out z0
    go_wp2_with (go_at_call 36; (with_reducible refine (fright_l m (some ad) c0 F_ Bl At Ao co l Fly _ (Kd.C_below HM.out HB.out) HN.out).mono ?_); rintro e w7 ⟨he, hb⟩; rw [hfr] at he; subst he; clear u0 u1; clear k0; clear h0 zh0 h1 zh1 h2 zh2 h3 zh3 h4 zh4; clear r0 zr0 r1 zr1 r2 zr2 r3 zr3 r4 zr4; have n0_ := Aside0.mk (below_step HB.out hb); have n1_ := Aside0.mk (blk_below X4.out hb); have n2_ := Aside0.mk (blk_below X5.out hb); have n3_ := Aside0.mk (blk_below X8.out hb); have n4_ := Aside0.mk (Kd.R_below HR.out hb); clear HB X4 X5 X8 HR; have HB := n0_; have X4 := n1_; have X5 := n2_; have X8 := n3_; have HR := n4_; clear n0_ n1_ n2_ n3_ n4_; clear hb; have k0 := (blk_cell X4.out 0).trans rfl; have h0 := (blk_cell X5.out 0).trans rfl; have h1 := (blk_cell X5.out 1).trans rfl; have h2 := (blk_cell X5.out 2).trans rfl; have h3 := (blk_cell X5.out 3).trans rfl; have h4 := (blk_cell X5.out 4).trans rfl; have zh0 := blk_frozen X5.out 0; have zh1 := blk_frozen X5.out 1; have zh2 := blk_frozen X5.out 2; have zh3 := blk_frozen X5.out 3; have zh4 := blk_frozen X5.out 4; have r0 := (blk_cell X8.out 0).trans rfl; have r1 := (blk_cell X8.out 1).trans rfl; have r2 := (blk_cell X8.out 2).trans rfl; have r3 := (blk_cell X8.out 3).trans rfl; have r4 := (blk_cell X8.out 4).trans rfl; have zr0 := blk_frozen X8.out 0; have zr1 := blk_frozen X8.out 1; have zr2 := blk_frozen X8.out 2; have zr3 := blk_frozen X8.out 3; have zr4 := blk_frozen X8.out 4; have u0 := pw_cell_below HB.out y2; have u1 := pw_cell_below HB.out z0)
    refine bodyPost_ret (results_ct rfl _ _ g8 55 #[.int .i64 F_, .int .i64 Bl, .int .i64 At, .slice Ao l.length co, .int .u16 Fly] (0, 0) _ rfl (set_blk _ _ (set_blk _ _ (set_blk _ _ (set_blk _ _ (set_blk _ _ (X8.out) rfl) rfl) rfl) rfl) rfl) Try.underlying55 rfl (by kernel_rfl)) rfl ?_
    exact ⟨.inl ⟨HZ.out, Ao, co, rfl, HLO.out, (Kd.R_mono (Kd.R_far (p := ⟨g8, 4, none⟩) (Kd.R_far (p := ⟨g8, 3, none⟩) (Kd.R_far (p := ⟨g8, 2, none⟩) (Kd.R_far (p := ⟨g8, 1, none⟩) (Kd.R_far (p := ⟨g8, 0, none⟩) (C_farg HR.out X8.out) (fun _ hk => hk.2) _) (fun _ hk => hk.2) _) (fun _ hk => hk.2) _) (fun _ hk => hk.2) _) (fun _ hk => hk.2) _) (fun _ _ => trivial))⟩, below_set (below_set (below_set (below_set (below_set (HB.out) HLX8.out) HLX8.out) HLX8.out) HLX8.out) HLX8.out⟩
  | true =>
   rw [hld] at z0
   have HZ := Aside0.mk (show lnB m F_ Bl At l.length n = true by unfold lnB win; rw [hfr, hld, decide_eq_true HW.out.1, decide_eq_true HW.out.2]; rfl)
   have HD := Aside0.mk (lnB_dst HZ.out)
   have hzd : (rd_T41 (rd_T27 m F_).f2 n).f1.f0 = lnD m F_ n := rfl
   rw [hzd] at z1
   clear hzd
   generalize hDD : lnD m F_ n = D at *
   have HDD := Aside0.mk hDD
   clear hDD
   go_enter Try.func35, Try.ntmps35
   go_upto_region 1 with (first | ((with_reducible refine gate_dst (N := 4) rfl ?_); refine box_event ?hg (N := 4) ?hd (cs := #[.slice (some ad) m.length c0]) (t := 24) ?hr ?_; (case hd => rfl); (case hg => rfl); (case hr => first | (go_simp; done) | (go_simp; rfl)); intro g4 hg w4 hbox hb; have HB := Aside0.mk hb; have X4 := Aside0.mk hbox; clear hbox hb hg; have k0 := (blk_cell X4.out 0).trans rfl) | ((with_reducible refine gate_dst (N := 5) rfl ?_); refine box_event ?hg (N := 5) ?hd (cs := #[.int .i64 F_, .int .i64 Bl, .int .i64 At, .slice A3 l.length c3, .int .u16 Fly]) (t := 55) ?hr ?_; (case hd => rfl); (case hg => rfl); (case hr => first | (go_simp; done) | (go_simp; rfl)); intro g5 hg w5 hbox hb; have HLX5 := Aside0.mk (show w.heap.size ≤ g5 by rw [hg]; exact HB.out.size); have HN45 := Aside0.mk (show g4 ≠ g5 by rw [hg]; exact Nat.ne_of_lt (blk_lt X4.out)); have n0_ := Aside0.mk (below_step HB.out hb); have n1_ := Aside0.mk (blk_below X4.out hb); clear HB X4; have HB := n0_; have X4 := n1_; clear n0_ n1_; have X5 := Aside0.mk hbox; clear hbox hb hg; have h0 := (blk_cell X5.out 0).trans rfl; have h1 := (blk_cell X5.out 1).trans rfl; have h2 := (blk_cell X5.out 2).trans rfl; have h3 := (blk_cell X5.out 3).trans rfl; have h4 := (blk_cell X5.out 4).trans rfl; have zh0 := blk_frozen X5.out 0; have zh1 := blk_frozen X5.out 1; have zh2 := blk_frozen X5.out 2; have zh3 := blk_frozen X5.out 3; have zh4 := blk_frozen X5.out 4; clear k0; have k0 := (blk_cell X4.out 0).trans rfl) | ((with_reducible refine gate_dst (N := 8) rfl ?_); refine box_event ?hg (N := 8) ?hd (cs := #[.int .i64 0, .int .i64 0, .int .i64 0, .slice none 0 0, .int .u16 0]) (t := 55) ?hr ?_; (case hd => rfl); (case hg => rfl); (case hr => first | (go_simp; done) | (go_simp; rfl)); intro g8 hg w8 hbox hb; have HLX8 := Aside0.mk (show w.heap.size ≤ g8 by rw [hg]; exact HB.out.size); have HN48 := Aside0.mk (show g4 ≠ g8 by rw [hg]; exact Nat.ne_of_lt (blk_lt X4.out)); have HN58 := Aside0.mk (show g5 ≠ g8 by rw [hg]; exact Nat.ne_of_lt (blk_lt X5.out)); have n0_ := Aside0.mk (below_step HB.out hb); have n1_ := Aside0.mk (blk_below X4.out hb); have n2_ := Aside0.mk (blk_below X5.out hb); clear HB X4 X5; have HB := n0_; have X4 := n1_; have X5 := n2_; clear n0_ n1_ n2_; have X8 := Aside0.mk hbox; clear hbox hb hg; have r0 := (blk_cell X8.out 0).trans rfl; have r1 := (blk_cell X8.out 1).trans rfl; have r2 := (blk_cell X8.out 2).trans rfl; have r3 := (blk_cell X8.out 3).trans rfl; have r4 := (blk_cell X8.out 4).trans rfl; have zr0 := blk_frozen X8.out 0; have zr1 := blk_frozen X8.out 1; have zr2 := blk_frozen X8.out 2; have zr3 := blk_frozen X8.out 3; have zr4 := blk_frozen X8.out 4; clear k0; clear h0 zh0 h1 zh1 h2 zh2 h3 zh3 h4 zh4; have k0 := (blk_cell X4.out 0).trans rfl; have h0 := (blk_cell X5.out 0).trans rfl; have h1 := (blk_cell X5.out 1).trans rfl; have h2 := (blk_cell X5.out 2).trans rfl; have h3 := (blk_cell X5.out 3).trans rfl; have h4 := (blk_cell X5.out 4).trans rfl; have zh0 := blk_frozen X5.out 0; have zh1 := blk_frozen X5.out 1; have zh2 := blk_frozen X5.out 2; have zh3 := blk_frozen X5.out 3; have zh4 := blk_frozen X5.out 4))
   go_cut [] (fun wc => ∃ Ao co, Aside0 (Below w.heap.size w wc) ∧ Aside0 (wc.heap[g4]? = some (.cells #[.slice (some ad) m.length c0] 24 (0, 0))) ∧ Aside0 (wc.heap[g5]? = some (.cells #[.int .i64 F_, .int .i64 Bl, .int .i64 At, .slice Ao l.length co, .int .u16 Fly] 55 (0, 0))) ∧ Aside0 (wc.heap[g8]? = some (.cells #[.int .i64 0, .int .i64 0, .int .i64 0, .slice none 0 0, .int .u16 0] 55 (0, 0))) ∧ Aside0 (l.length ≤ co) ∧ Aside0 (Kd.R (Kd.int .u16) 44 wc w.heap.size (fun _ => True) (.slice Ao l.length co) (l)))
   case first =>
    go_wp2_with (go_at_call 69; go_loud ((with_reducible refine (copied_c F_ Bl At A3 c3 l Fly _ (Kd.C_below HL.out HB.out) HC3.out (by have := HNN.out; omega)).mono ?_); rintro e w6 ⟨⟨Ao, co, rfl, hlo, hr⟩, hb⟩; have HLO := Aside0.mk hlo; have HR := Aside0.mk (Kd.R_lower hr HB.out.size); clear k0; clear h0 zh0 h1 zh1 h2 zh2 h3 zh3 h4 zh4; clear r0 zr0 r1 zr1 r2 zr2 r3 zr3 r4 zr4; have n0_ := Aside0.mk (below_step HB.out hb); have n1_ := Aside0.mk (blk_below X4.out hb); have n2_ := Aside0.mk (blk_below X5.out hb); have n3_ := Aside0.mk (blk_below X8.out hb); clear HB X4 X5 X8; have HB := n0_; have X4 := n1_; have X5 := n2_; have X8 := n3_; clear n0_ n1_ n2_ n3_; clear hlo hr hb; have k0 := (blk_cell X4.out 0).trans rfl; have h0 := (blk_cell X5.out 0).trans rfl; have h1 := (blk_cell X5.out 1).trans rfl; have h2 := (blk_cell X5.out 2).trans rfl; have h3 := (blk_cell X5.out 3).trans rfl; have h4 := (blk_cell X5.out 4).trans rfl; have zh0 := blk_frozen X5.out 0; have zh1 := blk_frozen X5.out 1; have zh2 := blk_frozen X5.out 2; have zh3 := blk_frozen X5.out 3; have zh4 := blk_frozen X5.out 4; have r0 := (blk_cell X8.out 0).trans rfl; have r1 := (blk_cell X8.out 1).trans rfl; have r2 := (blk_cell X8.out 2).trans rfl; have r3 := (blk_cell X8.out 3).trans rfl; have r4 := (blk_cell X8.out 4).trans rfl; have zr0 := blk_frozen X8.out 0; have zr1 := blk_frozen X8.out 1; have zr2 := blk_frozen X8.out 2; have zr3 := blk_frozen X8.out 3; have zr4 := blk_frozen X8.out 4))
    go_meet
    exact ⟨Ao, co, ⟨below_set (below_set (below_set (below_set (below_set (HB.out) HLX5.out) HLX5.out) HLX5.out) HLX5.out) HLX5.out⟩, ⟨(blk_far (blk_far (blk_far (blk_far (blk_far X4.out (p := ⟨g5, 0, none⟩) HN45.out _) (p := ⟨g5, 1, none⟩) HN45.out _) (p := ⟨g5, 2, none⟩) HN45.out _) (p := ⟨g5, 3, none⟩) HN45.out _) (p := ⟨g5, 4, none⟩) HN45.out _)⟩, ⟨set_blk _ _ (set_blk _ _ (set_blk _ _ (set_blk _ _ (set_blk _ _ (X5.out) rfl) rfl) rfl) rfl) rfl⟩, ⟨(blk_far (blk_far (blk_far (blk_far (blk_far X8.out (p := ⟨g5, 0, none⟩) HN58.out.symm _) (p := ⟨g5, 1, none⟩) HN58.out.symm _) (p := ⟨g5, 2, none⟩) HN58.out.symm _) (p := ⟨g5, 3, none⟩) HN58.out.symm _) (p := ⟨g5, 4, none⟩) HN58.out.symm _)⟩, HLO, ⟨(Kd.R_mono (Kd.R_far (p := ⟨g5, 4, none⟩) (Kd.R_far (p := ⟨g5, 3, none⟩) (Kd.R_far (p := ⟨g5, 2, none⟩) (Kd.R_far (p := ⟨g5, 1, none⟩) (Kd.R_far (p := ⟨g5, 0, none⟩) (C_farg HR.out X5.out) (fun _ hk => hk.2) _) (fun _ hk => hk.2) _) (fun _ hk => hk.2) _) (fun _ hk => hk.2) _) (fun _ hk => hk.2) _) (fun _ _ => trivial))⟩⟩
   case rest =>
    clear k0; clear h0 zh0 h1 zh1 h2 zh2 h3 zh3 h4 zh4; clear r0 zr0 r1 zr1 r2 zr2 r3 zr3 r4 zr4; clear HB X4 X5 X8
    obtain ⟨Ao, co, HB, X4, X5, X8, HLO, HR⟩ := hcut
    have k0 := (blk_cell X4.out 0).trans rfl
    have h0 := (blk_cell X5.out 0).trans rfl
    have h1 := (blk_cell X5.out 1).trans rfl
    have h2 := (blk_cell X5.out 2).trans rfl
    have h3 := (blk_cell X5.out 3).trans rfl
    have h4 := (blk_cell X5.out 4).trans rfl
    have zh0 := blk_frozen X5.out 0
    have zh1 := blk_frozen X5.out 1
    have zh2 := blk_frozen X5.out 2
    have zh3 := blk_frozen X5.out 3
    have zh4 := blk_frozen X5.out 4
    have r0 := (blk_cell X8.out 0).trans rfl
    have r1 := (blk_cell X8.out 1).trans rfl
    have r2 := (blk_cell X8.out 2).trans rfl
    have r3 := (blk_cell X8.out 3).trans rfl
    have r4 := (blk_cell X8.out 4).trans rfl
    have zr0 := blk_frozen X8.out 0
    have zr1 := blk_frozen X8.out 1
    have zr2 := blk_frozen X8.out 2
    have zr3 := blk_frozen X8.out 3
    have zr4 := blk_frozen X8.out 4
    have u0 := pw_cell_below HB.out y2
    have u1 := pw_cell_below HB.out z0
    have u2 := pw_cell_below HB.out z1
    go_upto_region 4 with (go_at_call 36; (with_reducible refine (fright_l m (some ad) c0 F_ Bl At Ao co l Fly _ (Kd.C_below HM.out HB.out) HN.out).mono ?_); rintro e w7 ⟨he, hb⟩; rw [hfr] at he; subst he; clear u0 u1 u2; clear k0; clear h0 zh0 h1 zh1 h2 zh2 h3 zh3 h4 zh4; clear r0 zr0 r1 zr1 r2 zr2 r3 zr3 r4 zr4; have n0_ := Aside0.mk (below_step HB.out hb); have n1_ := Aside0.mk (blk_below X4.out hb); have n2_ := Aside0.mk (blk_below X5.out hb); have n3_ := Aside0.mk (blk_below X8.out hb); have n4_ := Aside0.mk (Kd.R_below HR.out hb); clear HB X4 X5 X8 HR; have HB := n0_; have X4 := n1_; have X5 := n2_; have X8 := n3_; have HR := n4_; clear n0_ n1_ n2_ n3_ n4_; clear hb; have k0 := (blk_cell X4.out 0).trans rfl; have h0 := (blk_cell X5.out 0).trans rfl; have h1 := (blk_cell X5.out 1).trans rfl; have h2 := (blk_cell X5.out 2).trans rfl; have h3 := (blk_cell X5.out 3).trans rfl; have h4 := (blk_cell X5.out 4).trans rfl; have zh0 := blk_frozen X5.out 0; have zh1 := blk_frozen X5.out 1; have zh2 := blk_frozen X5.out 2; have zh3 := blk_frozen X5.out 3; have zh4 := blk_frozen X5.out 4; have r0 := (blk_cell X8.out 0).trans rfl; have r1 := (blk_cell X8.out 1).trans rfl; have r2 := (blk_cell X8.out 2).trans rfl; have r3 := (blk_cell X8.out 3).trans rfl; have r4 := (blk_cell X8.out 4).trans rfl; have zr0 := blk_frozen X8.out 0; have zr1 := blk_frozen X8.out 1; have zr2 := blk_frozen X8.out 2; have zr3 := blk_frozen X8.out 3; have zr4 := blk_frozen X8.out 4; have u0 := pw_cell_below HB.out y2; have u1 := pw_cell_below HB.out z0; have u2 := pw_cell_below HB.out z1)
    go_cut [] (fun wc => ∃ Ao co, Aside0 (Below w.heap.size w wc) ∧ Aside0 (wc.heap[g4]? = some (.cells #[.slice (some ad) m.length c0] 24 (0, 0))) ∧ Aside0 (wc.heap[g5]? = some (.cells #[.int .i64 F_, .int .i64 n, .int .i64 0, .slice Ao l.length co, .int .u16 Fly] 55 (0, 0))) ∧ Aside0 (wc.heap[g8]? = some (.cells #[.int .i64 0, .int .i64 0, .int .i64 0, .slice none 0 0, .int .u16 0] 55 (0, 0))) ∧ Aside0 (l.length ≤ co) ∧ Aside0 (Kd.R (Kd.int .u16) 44 wc w.heap.size (fun _ => True) (.slice Ao l.length co) (l)))
    case first =>
     go_wp2_with (go_at_call 33; go_loud ((with_reducible refine (go_c F_ Bl At Ao co l Fly n _ (Kd.R_reads' HR.out).2.2 HLO.out (by have := HNN.out; omega)).mono ?_); rintro e w6 ⟨⟨Ao2, co2, rfl, hlo, hr⟩, hb⟩; have HLO2 := Aside0.mk hlo; have HR2 := Aside0.mk (Kd.R_lower hr HB.out.size); clear u0 u1 u2; clear k0; clear h0 zh0 h1 zh1 h2 zh2 h3 zh3 h4 zh4; clear r0 zr0 r1 zr1 r2 zr2 r3 zr3 r4 zr4; have n0_ := Aside0.mk (below_step HB.out hb); have n1_ := Aside0.mk (blk_below X4.out hb); have n2_ := Aside0.mk (blk_below X5.out hb); have n3_ := Aside0.mk (blk_below X8.out hb); clear HB X4 X5 X8; have HB := n0_; have X4 := n1_; have X5 := n2_; have X8 := n3_; clear n0_ n1_ n2_ n3_; clear hlo hr hb; have k0 := (blk_cell X4.out 0).trans rfl; have h0 := (blk_cell X5.out 0).trans rfl; have h1 := (blk_cell X5.out 1).trans rfl; have h2 := (blk_cell X5.out 2).trans rfl; have h3 := (blk_cell X5.out 3).trans rfl; have h4 := (blk_cell X5.out 4).trans rfl; have zh0 := blk_frozen X5.out 0; have zh1 := blk_frozen X5.out 1; have zh2 := blk_frozen X5.out 2; have zh3 := blk_frozen X5.out 3; have zh4 := blk_frozen X5.out 4; have r0 := (blk_cell X8.out 0).trans rfl; have r1 := (blk_cell X8.out 1).trans rfl; have r2 := (blk_cell X8.out 2).trans rfl; have r3 := (blk_cell X8.out 3).trans rfl; have r4 := (blk_cell X8.out 4).trans rfl; have zr0 := blk_frozen X8.out 0; have zr1 := blk_frozen X8.out 1; have zr2 := blk_frozen X8.out 2; have zr3 := blk_frozen X8.out 3; have zr4 := blk_frozen X8.out 4))
     go_meet
     exact ⟨Ao2, co2, ⟨below_set (below_set (below_set (below_set (below_set (HB.out) HLX5.out) HLX5.out) HLX5.out) HLX5.out) HLX5.out⟩, ⟨(blk_far (blk_far (blk_far (blk_far (blk_far X4.out (p := ⟨g5, 0, none⟩) HN45.out _) (p := ⟨g5, 1, none⟩) HN45.out _) (p := ⟨g5, 2, none⟩) HN45.out _) (p := ⟨g5, 3, none⟩) HN45.out _) (p := ⟨g5, 4, none⟩) HN45.out _)⟩, ⟨set_blk _ _ (set_blk _ _ (set_blk _ _ (set_blk _ _ (set_blk _ _ (X5.out) rfl) rfl) rfl) rfl) rfl⟩, ⟨(blk_far (blk_far (blk_far (blk_far (blk_far X8.out (p := ⟨g5, 0, none⟩) HN58.out.symm _) (p := ⟨g5, 1, none⟩) HN58.out.symm _) (p := ⟨g5, 2, none⟩) HN58.out.symm _) (p := ⟨g5, 3, none⟩) HN58.out.symm _) (p := ⟨g5, 4, none⟩) HN58.out.symm _)⟩, HLO2, ⟨(Kd.R_mono (Kd.R_far (p := ⟨g5, 4, none⟩) (Kd.R_far (p := ⟨g5, 3, none⟩) (Kd.R_far (p := ⟨g5, 2, none⟩) (Kd.R_far (p := ⟨g5, 1, none⟩) (Kd.R_far (p := ⟨g5, 0, none⟩) (C_farg HR2.out X5.out) (fun _ hk => hk.2) _) (fun _ hk => hk.2) _) (fun _ hk => hk.2) _) (fun _ hk => hk.2) _) (fun _ hk => hk.2) _) (fun _ _ => trivial))⟩⟩
    case rest =>
     clear u0 u1 u2
     clear k0; clear h0 zh0 h1 zh1 h2 zh2 h3 zh3 h4 zh4; clear r0 zr0 r1 zr1 r2 zr2 r3 zr3 r4 zr4
     clear HB X4 X5 X8 HLO HR
     obtain ⟨Ao, co, HB, X4, X5, X8, HLO, HR⟩ := hcut
     obtain ⟨gr, cr, ef, hgr, _, cls, hcl⟩ := Kd.R_form HR.out (by have := HD.out; omega)
     injection ef with ef1 ef2 ef3
     subst ef1
     clear ef2 ef3
     have HGR := Aside0.mk (And.intro hgr (And.intro (show gr ≠ g4 from fun e => by rw [e, X4.out] at hcl; cases hcl) (And.intro (show gr ≠ g5 from fun e => by rw [e, X5.out] at hcl; cases hcl) (show gr ≠ g8 from fun e => by rw [e, X8.out] at hcl; cases hcl))))
     clear hcl hgr
     have q0 : (0 ≤ D) = True := eq_true HD.out.1
     have q1 : (D < (l.length : Int)) = True := eq_true HD.out.2
     go_upto_region 5 with (fail)
     go_cut [] (fun wc => Aside0 (Below w.heap.size w wc) ∧ Aside0 (wc.heap[g5]? = some (.cells #[.int .i64 F_, .int .i64 n, .int .i64 0, .slice (some ⟨gr, 0, none⟩) l.length co, .int .u16 Fly] 55 (0, 0))) ∧ Aside0 (wc.heap[g8]? = some (.cells #[.int .i64 0, .int .i64 0, .int .i64 0, .slice none 0 0, .int .u16 0] 55 (0, 0))) ∧ Aside0 (Kd.R (Kd.int .u16) 44 wc w.heap.size (fun _ => True) (.slice (some ⟨gr, 0, none⟩) l.length co) (l.set D.toNat v)))
     case first =>
      refine start_ (S := (fun W : World => Below wc.heap.size wc W ∧ W.heap[g5]? = some (.cells #[.int .i64 F_, .int .i64 n, .int .i64 0, .slice (some ⟨gr, 0, none⟩) l.length co, .int .u16 Fly] 55 (0, 0)) ∧ W.heap[g4]? = some (.cells #[.slice (some ad) m.length c0] 24 (0, 0)) ∧ W.heap[g8]? = some (.cells #[.int .i64 0, .int .i64 0, .int .i64 0, .slice none 0 0, .int .u16 0] 55 (0, 0)))) (ds := [16]) #[false, false, false, false, false, false, false, false, false, false, false, false, false, false, false, false, false] (by kernel_rfl) (by rfl) (by rfl) ⟨⟨rfl, rfl, rfl, Nat.le_refl _, fun _ _ => rfl⟩, X5.out, X4.out, X8.out⟩ (fun hS => ?_)
      refine take_ (i := 0) (N := some 50) (v := .pointer (some ⟨g5, 3, none⟩)) (a' := ?axs1) #[true, false, false, false, false, false, false, false, false, false, false, false, false, false, false, false, false] rfl rfl (by kernel_rfl) (fun _ _ _ h => h) (Or.inl ⟨by rfl, ?yys1⟩) hS ?has1 ?hhs1
      case yys1 => intro W hW; have c0_0 := (blk_cell hW.2.1 0).trans rfl; have c0_1 := (blk_cell hW.2.1 1).trans rfl; have c0_2 := (blk_cell hW.2.1 2).trans rfl; have c0_3 := (blk_cell hW.2.1 3).trans rfl; have c0_4 := (blk_cell hW.2.1 4).trans rfl; have c1_0 := (blk_cell hW.2.2.1 0).trans rfl; have u0 := pw_cell_below (HB.out.trans (hW.1.mono HB.out.size)) y2; have u1 := pw_cell_below (HB.out.trans (hW.1.mono HB.out.size)) z1; go_simp; done
      case has1 => try simp only [Act.put, List.setIfInBounds_toArray, List.set_cons_zero, List.set_cons_succ]; exact rfl
      refine take_ (i := 1) (N := some 51) (v := .slice (some ⟨gr, 0, none⟩) l.length co) (a' := ?axs2) #[true, true, false, false, false, false, false, false, false, false, false, false, false, false, false, false, false] rfl rfl (by kernel_rfl) (fun _ _ _ h => h) (Or.inl ⟨by rfl, ?yys2⟩) hS ?has2 ?hhs2
      case yys2 => intro W hW; have c0_0 := (blk_cell hW.2.1 0).trans rfl; have c0_1 := (blk_cell hW.2.1 1).trans rfl; have c0_2 := (blk_cell hW.2.1 2).trans rfl; have c0_3 := (blk_cell hW.2.1 3).trans rfl; have c0_4 := (blk_cell hW.2.1 4).trans rfl; have c1_0 := (blk_cell hW.2.2.1 0).trans rfl; have u0 := pw_cell_below (HB.out.trans (hW.1.mono HB.out.size)) y2; have u1 := pw_cell_below (HB.out.trans (hW.1.mono HB.out.size)) z1; go_simp; done
      case has2 => try simp only [Act.put, List.setIfInBounds_toArray, List.set_cons_zero, List.set_cons_succ]; exact rfl
      refine take_ (i := 2) (N := some 52) (v := .pointer (some ⟨g4, 0, none⟩)) (a' := ?axs3) #[true, true, true, false, false, false, false, false, false, false, false, false, false, false, false, false, false] rfl rfl (by kernel_rfl) (fun _ _ _ h => h) (Or.inl ⟨by rfl, ?yys3⟩) hS ?has3 ?hhs3
      case yys3 => intro W hW; have c0_0 := (blk_cell hW.2.1 0).trans rfl; have c0_1 := (blk_cell hW.2.1 1).trans rfl; have c0_2 := (blk_cell hW.2.1 2).trans rfl; have c0_3 := (blk_cell hW.2.1 3).trans rfl; have c0_4 := (blk_cell hW.2.1 4).trans rfl; have c1_0 := (blk_cell hW.2.2.1 0).trans rfl; have u0 := pw_cell_below (HB.out.trans (hW.1.mono HB.out.size)) y2; have u1 := pw_cell_below (HB.out.trans (hW.1.mono HB.out.size)) z1; go_simp; done
      case has3 => try simp only [Act.put, List.setIfInBounds_toArray, List.set_cons_zero, List.set_cons_succ]; exact rfl
      refine take_ (i := 3) (N := some 53) (v := .slice (some ad) m.length c0) (a' := ?axs4) #[true, true, true, true, false, false, false, false, false, false, false, false, false, false, false, false, false] rfl rfl (by kernel_rfl) (fun _ _ _ h => h) (Or.inl ⟨by rfl, ?yys4⟩) hS ?has4 ?hhs4
      case yys4 => intro W hW; have c0_0 := (blk_cell hW.2.1 0).trans rfl; have c0_1 := (blk_cell hW.2.1 1).trans rfl; have c0_2 := (blk_cell hW.2.1 2).trans rfl; have c0_3 := (blk_cell hW.2.1 3).trans rfl; have c0_4 := (blk_cell hW.2.1 4).trans rfl; have c1_0 := (blk_cell hW.2.2.1 0).trans rfl; have u0 := pw_cell_below (HB.out.trans (hW.1.mono HB.out.size)) y2; have u1 := pw_cell_below (HB.out.trans (hW.1.mono HB.out.size)) z1; go_simp; done
      case has4 => try simp only [Act.put, List.setIfInBounds_toArray, List.set_cons_zero, List.set_cons_succ]; exact rfl
      refine take_ (i := 4) (N := some 54) (v := .pointer (some ⟨g5, 0, none⟩)) (a' := ?axs5) #[true, true, true, true, true, false, false, false, false, false, false, false, false, false, false, false, false] rfl rfl (by kernel_rfl) (fun _ _ _ h => h) (Or.inl ⟨by rfl, ?yys5⟩) hS ?has5 ?hhs5
      case yys5 => intro W hW; have c0_0 := (blk_cell hW.2.1 0).trans rfl; have c0_1 := (blk_cell hW.2.1 1).trans rfl; have c0_2 := (blk_cell hW.2.1 2).trans rfl; have c0_3 := (blk_cell hW.2.1 3).trans rfl; have c0_4 := (blk_cell hW.2.1 4).trans rfl; have c1_0 := (blk_cell hW.2.2.1 0).trans rfl; have u0 := pw_cell_below (HB.out.trans (hW.1.mono HB.out.size)) y2; have u1 := pw_cell_below (HB.out.trans (hW.1.mono HB.out.size)) z1; go_simp; done
      case has5 => try simp only [Act.put, List.setIfInBounds_toArray, List.set_cons_zero, List.set_cons_succ]; exact rfl
      refine take_ (i := 5) (N := some 55) (v := .int .i64 F_) (a' := ?axs6) #[true, true, true, true, true, true, false, false, false, false, false, false, false, false, false, false, false] rfl rfl (by kernel_rfl) (fun _ _ _ h => h) (Or.inl ⟨by rfl, ?yys6⟩) hS ?has6 ?hhs6
      case yys6 => intro W hW; have c0_0 := (blk_cell hW.2.1 0).trans rfl; have c0_1 := (blk_cell hW.2.1 1).trans rfl; have c0_2 := (blk_cell hW.2.1 2).trans rfl; have c0_3 := (blk_cell hW.2.1 3).trans rfl; have c0_4 := (blk_cell hW.2.1 4).trans rfl; have c1_0 := (blk_cell hW.2.2.1 0).trans rfl; have u0 := pw_cell_below (HB.out.trans (hW.1.mono HB.out.size)) y2; have u1 := pw_cell_below (HB.out.trans (hW.1.mono HB.out.size)) z1; go_simp; done
      case has6 => try simp only [Act.put, List.setIfInBounds_toArray, List.set_cons_zero, List.set_cons_succ]; exact rfl
      refine take_ (i := 6) (N := some 56) (v := .pointer (some (ad.add (F_.toNat * 3)))) (a' := ?axs7) #[true, true, true, true, true, true, true, false, false, false, false, false, false, false, false, false, false] rfl rfl (by kernel_rfl) (fun _ _ _ h => h) (Or.inl ⟨by rfl, ?yys7⟩) hS ?has7 ?hhs7
      case yys7 => intro W hW; have c0_0 := (blk_cell hW.2.1 0).trans rfl; have c0_1 := (blk_cell hW.2.1 1).trans rfl; have c0_2 := (blk_cell hW.2.1 2).trans rfl; have c0_3 := (blk_cell hW.2.1 3).trans rfl; have c0_4 := (blk_cell hW.2.1 4).trans rfl; have c1_0 := (blk_cell hW.2.2.1 0).trans rfl; have u0 := pw_cell_below (HB.out.trans (hW.1.mono HB.out.size)) y2; have u1 := pw_cell_below (HB.out.trans (hW.1.mono HB.out.size)) z1; go_simp; done
      case has7 => try simp only [Act.put, List.setIfInBounds_toArray, List.set_cons_zero, List.set_cons_succ]; exact rfl
      refine take_ (i := 7) (N := some 57) (v := .pointer (some ⟨(ad.add (F_.toNat * 3)).block, (ad.add (F_.toNat * 3)).off + 2, none⟩)) (a' := ?axs8) #[true, true, true, true, true, true, true, true, false, false, false, false, false, false, false, false, false] rfl rfl (by kernel_rfl) (fun _ _ _ h => h) (Or.inl ⟨by rfl, ?yys8⟩) hS ?has8 ?hhs8
      case yys8 => intro W hW; have c0_0 := (blk_cell hW.2.1 0).trans rfl; have c0_1 := (blk_cell hW.2.1 1).trans rfl; have c0_2 := (blk_cell hW.2.1 2).trans rfl; have c0_3 := (blk_cell hW.2.1 3).trans rfl; have c0_4 := (blk_cell hW.2.1 4).trans rfl; have c1_0 := (blk_cell hW.2.2.1 0).trans rfl; have u0 := pw_cell_below (HB.out.trans (hW.1.mono HB.out.size)) y2; have u1 := pw_cell_below (HB.out.trans (hW.1.mono HB.out.size)) z1; go_simp; done
      case has8 => try simp only [Act.put, List.setIfInBounds_toArray, List.set_cons_zero, List.set_cons_succ]; exact rfl
      refine take_ (i := 8) (N := some 58) (v := .slice (some ad2) (rd_T27 m F_).f2.length c1) (a' := ?axs9) #[true, true, true, true, true, true, true, true, true, false, false, false, false, false, false, false, false] rfl rfl (by kernel_rfl) (fun _ _ _ h => h) (Or.inl ⟨by rfl, ?yys9⟩) hS ?has9 ?hhs9
      case yys9 => intro W hW; have c0_0 := (blk_cell hW.2.1 0).trans rfl; have c0_1 := (blk_cell hW.2.1 1).trans rfl; have c0_2 := (blk_cell hW.2.1 2).trans rfl; have c0_3 := (blk_cell hW.2.1 3).trans rfl; have c0_4 := (blk_cell hW.2.1 4).trans rfl; have c1_0 := (blk_cell hW.2.2.1 0).trans rfl; have u0 := pw_cell_below (HB.out.trans (hW.1.mono HB.out.size)) y2; have u1 := pw_cell_below (HB.out.trans (hW.1.mono HB.out.size)) z1; go_simp; done
      case has9 => try simp only [Act.put, List.setIfInBounds_toArray, List.set_cons_zero, List.set_cons_succ]; exact rfl
      refine take_ (i := 9) (N := some 59) (v := .int .i64 n) (a' := ?axs10) #[true, true, true, true, true, true, true, true, true, true, false, false, false, false, false, false, false] rfl rfl (by kernel_rfl) (fun _ _ _ h => h) (Or.inl ⟨by rfl, ?yys10⟩) hS ?has10 ?hhs10
      case yys10 => intro W hW; have c0_0 := (blk_cell hW.2.1 0).trans rfl; have c0_1 := (blk_cell hW.2.1 1).trans rfl; have c0_2 := (blk_cell hW.2.1 2).trans rfl; have c0_3 := (blk_cell hW.2.1 3).trans rfl; have c0_4 := (blk_cell hW.2.1 4).trans rfl; have c1_0 := (blk_cell hW.2.2.1 0).trans rfl; have u0 := pw_cell_below (HB.out.trans (hW.1.mono HB.out.size)) y2; have u1 := pw_cell_below (HB.out.trans (hW.1.mono HB.out.size)) z1; go_simp; done
      case has10 => try simp only [Act.put, List.setIfInBounds_toArray, List.set_cons_zero, List.set_cons_succ]; exact rfl
      refine take_ (i := 10) (N := some 60) (v := .pointer (some (ad2.add (n.toNat * 14)))) (a' := ?axs11) #[true, true, true, true, true, true, true, true, true, true, true, false, false, false, false, false, false] rfl rfl (by kernel_rfl) (fun _ _ _ h => h) (Or.inl ⟨by rfl, ?yys11⟩) hS ?has11 ?hhs11
      case yys11 => intro W hW; have c0_0 := (blk_cell hW.2.1 0).trans rfl; have c0_1 := (blk_cell hW.2.1 1).trans rfl; have c0_2 := (blk_cell hW.2.1 2).trans rfl; have c0_3 := (blk_cell hW.2.1 3).trans rfl; have c0_4 := (blk_cell hW.2.1 4).trans rfl; have c1_0 := (blk_cell hW.2.2.1 0).trans rfl; have u0 := pw_cell_below (HB.out.trans (hW.1.mono HB.out.size)) y2; have u1 := pw_cell_below (HB.out.trans (hW.1.mono HB.out.size)) z1; go_simp; done
      case has11 => try simp only [Act.put, List.setIfInBounds_toArray, List.set_cons_zero, List.set_cons_succ]; exact rfl
      refine take_ (i := 11) (N := some 61) (v := .pointer (some ⟨(ad2.add (n.toNat * 14)).block, (ad2.add (n.toNat * 14)).off + 1, none⟩)) (a' := ?axs12) #[true, true, true, true, true, true, true, true, true, true, true, true, false, false, false, false, false] rfl rfl (by kernel_rfl) (fun _ _ _ h => h) (Or.inl ⟨by rfl, ?yys12⟩) hS ?has12 ?hhs12
      case yys12 => intro W hW; have c0_0 := (blk_cell hW.2.1 0).trans rfl; have c0_1 := (blk_cell hW.2.1 1).trans rfl; have c0_2 := (blk_cell hW.2.1 2).trans rfl; have c0_3 := (blk_cell hW.2.1 3).trans rfl; have c0_4 := (blk_cell hW.2.1 4).trans rfl; have c1_0 := (blk_cell hW.2.2.1 0).trans rfl; have u0 := pw_cell_below (HB.out.trans (hW.1.mono HB.out.size)) y2; have u1 := pw_cell_below (HB.out.trans (hW.1.mono HB.out.size)) z1; go_simp; done
      case has12 => try simp only [Act.put, List.setIfInBounds_toArray, List.set_cons_zero, List.set_cons_succ]; exact rfl
      refine take_ (i := 12) (N := some 62) (v := .pointer (some ⟨(ad2.add (n.toNat * 14)).block, (ad2.add (n.toNat * 14)).off + 1, none⟩)) (a' := ?axs13) #[true, true, true, true, true, true, true, true, true, true, true, true, true, false, false, false, false] rfl rfl (by kernel_rfl) (fun _ _ _ h => h) (Or.inl ⟨by rfl, ?yys13⟩) hS ?has13 ?hhs13
      case yys13 => intro W hW; have c0_0 := (blk_cell hW.2.1 0).trans rfl; have c0_1 := (blk_cell hW.2.1 1).trans rfl; have c0_2 := (blk_cell hW.2.1 2).trans rfl; have c0_3 := (blk_cell hW.2.1 3).trans rfl; have c0_4 := (blk_cell hW.2.1 4).trans rfl; have c1_0 := (blk_cell hW.2.2.1 0).trans rfl; have u0 := pw_cell_below (HB.out.trans (hW.1.mono HB.out.size)) y2; have u1 := pw_cell_below (HB.out.trans (hW.1.mono HB.out.size)) z1; go_simp; done
      case has13 => try simp only [Act.put, List.setIfInBounds_toArray, List.set_cons_zero, List.set_cons_succ]; exact rfl
      refine take_ (i := 13) (N := some 63) (v := .int .i64 D) (a' := ?axs14) #[true, true, true, true, true, true, true, true, true, true, true, true, true, true, false, false, false] rfl rfl (by kernel_rfl) (fun _ _ _ h => h) (Or.inl ⟨by rfl, ?yys14⟩) hS ?has14 ?hhs14
      case yys14 => intro W hW; have c0_0 := (blk_cell hW.2.1 0).trans rfl; have c0_1 := (blk_cell hW.2.1 1).trans rfl; have c0_2 := (blk_cell hW.2.1 2).trans rfl; have c0_3 := (blk_cell hW.2.1 3).trans rfl; have c0_4 := (blk_cell hW.2.1 4).trans rfl; have c1_0 := (blk_cell hW.2.2.1 0).trans rfl; have u0 := pw_cell_below (HB.out.trans (hW.1.mono HB.out.size)) y2; have u1 := pw_cell_below (HB.out.trans (hW.1.mono HB.out.size)) z1; go_simp; done
      case has14 => try simp only [Act.put, List.setIfInBounds_toArray, List.set_cons_zero, List.set_cons_succ]; exact rfl
      refine take_ (i := 14) (N := some 64) (v := .int .u16 v) (a' := ?axs15) #[true, true, true, true, true, true, true, true, true, true, true, true, true, true, true, false, false] rfl rfl (by kernel_rfl) (fun _ _ _ h => h) (Or.inl ⟨by rfl, ?yys15⟩) hS ?has15 ?hhs15
      case yys15 => intro W hW; have c0_0 := (blk_cell hW.2.1 0).trans rfl; have c0_1 := (blk_cell hW.2.1 1).trans rfl; have c0_2 := (blk_cell hW.2.1 2).trans rfl; have c0_3 := (blk_cell hW.2.1 3).trans rfl; have c0_4 := (blk_cell hW.2.1 4).trans rfl; have c1_0 := (blk_cell hW.2.2.1 0).trans rfl; have u0 := pw_cell_below (HB.out.trans (hW.1.mono HB.out.size)) y2; have u1 := pw_cell_below (HB.out.trans (hW.1.mono HB.out.size)) z1; go_simp; done
      case has15 => try simp only [Act.put, List.setIfInBounds_toArray, List.set_cons_zero, List.set_cons_succ]; exact rfl
      refine take_ (i := 15) (N := some 65) (v := .pointer (some ⟨gr, D.toNat, none⟩)) (a' := ?axs16) #[true, true, true, true, true, true, true, true, true, true, true, true, true, true, true, true, false] rfl rfl (by kernel_rfl) (fun _ _ _ h => h) (Or.inl ⟨by rfl, ?yys16⟩) hS ?has16 ?hhs16
      case yys16 => intro W hW; have c0_0 := (blk_cell hW.2.1 0).trans rfl; have c0_1 := (blk_cell hW.2.1 1).trans rfl; have c0_2 := (blk_cell hW.2.1 2).trans rfl; have c0_3 := (blk_cell hW.2.1 3).trans rfl; have c0_4 := (blk_cell hW.2.1 4).trans rfl; have c1_0 := (blk_cell hW.2.2.1 0).trans rfl; have u0 := pw_cell_below (HB.out.trans (hW.1.mono HB.out.size)) y2; have u1 := pw_cell_below (HB.out.trans (hW.1.mono HB.out.size)) z1; go_simp; done
      case has16 => try simp only [Act.put, List.setIfInBounds_toArray, List.set_cons_zero, List.set_cons_succ]; exact rfl
      obtain ⟨hq1, hq2⟩ := Kd.R_celln (0 : Int) (Kd.R_below HR.out hS.1) D HD.out.1 HD.out.2
      refine last_ (i := 16) (N := none) #[true, true, true, true, true, true, true, true, true, true, true, true, true, true, true, true, true] rfl rfl (by kernel_rfl) (by decide) (fun K hK => ?_)
      refine skip_ (w1 := ?_) (by rfl) rfl ?_ ?_
      rotate_left
      ·go_simp
       rfl
      refine hK _ _ ?_
      clear hK K
      try simp only [Act.put, List.setIfInBounds_toArray, List.set_cons_zero, List.set_cons_succ]
      refine done_ (by kernel_rfl) ?_
      go_wp2
      go_meet
      exact ⟨⟨below_set (HB.out.trans (hS.1.mono HB.out.size)) HGR.out.1⟩, ⟨blk_far hS.2.1 (p := ⟨gr, D.toNat, none⟩) HGR.out.2.2.1.symm _⟩, ⟨blk_far hS.2.2.2 (p := ⟨gr, D.toNat, none⟩) HGR.out.2.2.2.symm _⟩, ⟨(Kd.R_putg (Kd.R_below HR.out hS.1) D v).1⟩⟩
     case rest =>
      clear HB X4 X5 X8 HR
      obtain ⟨HB, X5, X8, HR⟩ := hcut
      have h0 := (blk_cell X5.out 0).trans rfl
      have h1 := (blk_cell X5.out 1).trans rfl
      have h2 := (blk_cell X5.out 2).trans rfl
      have h3 := (blk_cell X5.out 3).trans rfl
      have h4 := (blk_cell X5.out 4).trans rfl
      have zh0 := blk_frozen X5.out 0
      have zh1 := blk_frozen X5.out 1
      have zh2 := blk_frozen X5.out 2
      have zh3 := blk_frozen X5.out 3
      have zh4 := blk_frozen X5.out 4
      have r0 := (blk_cell X8.out 0).trans rfl
      have r1 := (blk_cell X8.out 1).trans rfl
      have r2 := (blk_cell X8.out 2).trans rfl
      have r3 := (blk_cell X8.out 3).trans rfl
      have r4 := (blk_cell X8.out 4).trans rfl
      have zr0 := blk_frozen X8.out 0
      have zr1 := blk_frozen X8.out 1
      have zr2 := blk_frozen X8.out 2
      have zr3 := blk_frozen X8.out 3
      have zr4 := blk_frozen X8.out 4
      have hne1 := HN58.out
      have hne2 := HN58.out.symm
      go_wp2
      refine bodyPost_ret (results_ct rfl _ _ g8 55 #[.int .i64 F_, .int .i64 n, .int .i64 0, .slice (some ⟨gr, 0, none⟩) l.length co, .int .u16 v] (0, 0) _ rfl ((set_blk _ _ (set_blk _ _ (set_blk _ _ (set_blk _ _ (set_blk _ _ ((blk_far X8.out (p := ⟨g5, 4, none⟩) HN58.out.symm _)) rfl) rfl) rfl) rfl) rfl)) Try.underlying55 rfl (by kernel_rfl)) rfl ?_
      exact ⟨.inr ⟨HZ.out, some ⟨gr, 0, none⟩, co, rfl, HLO.out, (by rw [HDD.out]; exact (Kd.R_mono (Kd.R_far (p := ⟨g8, 4, none⟩) (Kd.R_far (p := ⟨g8, 3, none⟩) (Kd.R_far (p := ⟨g8, 2, none⟩) (Kd.R_far (p := ⟨g8, 1, none⟩) (Kd.R_far (p := ⟨g8, 0, none⟩) (C_farg (Kd.R_mono (Kd.R_far (p := ⟨g5, 4, none⟩) (C_farg HR.out X5.out) (fun _ hk => hk.2) _) (fun _ _ => trivial)) (blk_far X8.out (p := ⟨g5, 4, none⟩) HN58.out.symm _)) (fun _ hk => hk.2) _) (fun _ hk => hk.2) _) (fun _ hk => hk.2) _) (fun _ hk => hk.2) _) (fun _ hk => hk.2) _) (fun _ _ => trivial)))⟩, below_set (below_set (below_set (below_set (below_set (below_set (HB.out) HLX5.out) HLX8.out) HLX8.out) HLX8.out) HLX8.out) HLX8.out⟩
end Go.Proofs.Ytbfialebaoeicaa.X
namespace Go.Proofs.Ytbfialebaoeicaa.X
open Go.RowKit Go.Proofs.YtbfialebaoeicaaW.PrintWords Go.Proofs.YtbfialebaoeicaaW.PrintLast Go.Proofs.YtbfialebaoeicaaW.PrintMore
set_option linter.all false
def rfR (m : List S27) (F_ Bl At n : Int) : Bool := win F_ m.length && (decide (n = (rd_T27 m F_).f1) && win Bl (rd_T27 m F_).f2.length && decide (0 ≤ At) && decide (At ≤ ((rd_T41 (rd_T27 m F_).f2 Bl).f2.length : Int)))
theorem rfR_eq {m : List S27} (h : rightR m = true) (F_ Bl At n : Int) : frR m F_ Bl At n = rfR m F_ Bl At n := by
 unfold frR rfR okF
 rw [h, Bool.true_and]
 cases win F_ m.length <;> cases win Bl (rd_T27 m F_).f2.length <;> cases decide (n = (rd_T27 m F_).f1) <;> simp
set_option maxHeartbeats 16000000 in
set_option maxRecDepth 100000 in
theorem rright_c (m : List S27) (A0 : Option Addr) (c0 : Nat) (F_ Bl At : Int) (A3 : Option Addr) (c3 : Nat) (l : List Int) (Fly : Int) (w : World) (hm : Kd.C k27 w A0 m.length m) :
  Calls Try.prog 38 #[.agg #[.slice A0 m.length c0], .agg #[.int .i64 F_, .int .i64 Bl, .int .i64 At, .slice A3 l.length c3, .int .u16 Fly]] w fun e w' => e = .returned (.bool (rfR m F_ Bl At l.length)) ∧ Below w.heap.size w w' := by
 have HM := Aside0.mk hm
 clear hm
 have hu24 := Try.underlying24
 have hu27 := Try.underlying27
 have hu55 := Try.underlying55
 have hu41 := Try.underlying41
 by_cases h0 : 0 ≤ F_
 rotate_left
 ·have HZ := Aside0.mk (show rfR m F_ Bl At l.length = false by unfold rfR win; rw [decide_eq_false h0]; rfl)
  have d0 : decide (F_ < 0) = true := decide_eq_true (by omega)
  clear h0
  go_enter Try.func38, Try.ntmps38
  go_wp2_with (first | ((with_reducible refine gate_dst (N := 2) rfl ?_); refine box_event ?hg (N := 2) ?hd (cs := #[.slice A0 m.length c0]) (t := 24) ?hr ?_; (case hd => rfl); (case hg => rfl); (case hr => first | (go_simp; done) | (go_simp; rfl)); intro g2 hg w2 hbox hb; have HB := Aside0.mk hb; have X2 := Aside0.mk hbox; clear hbox hb hg) | ((with_reducible refine gate_dst (N := 3) rfl ?_); refine box_event ?hg (N := 3) ?hd (cs := #[.int .i64 F_, .int .i64 Bl, .int .i64 At, .slice A3 l.length c3, .int .u16 Fly]) (t := 55) ?hr ?_; (case hd => rfl); (case hg => rfl); (case hr => first | (go_simp; done) | (go_simp; rfl)); intro g3 hg w3 hbox hb; have n0_ := Aside0.mk (below_step HB.out hb); have n1_ := Aside0.mk (blk_below X2.out hb); clear HB X2; have HB := n0_; have X2 := n1_; clear n0_ n1_; have X3 := Aside0.mk hbox; clear hbox hb hg; have k0 := (blk_cell X2.out 0).trans rfl; have h0 := (blk_cell X3.out 0).trans rfl; have h1 := (blk_cell X3.out 1).trans rfl; have h2 := (blk_cell X3.out 2).trans rfl; have h3 := (blk_cell X3.out 3).trans rfl; have h4 := (blk_cell X3.out 4).trans rfl))
  go_ret
  exact ⟨ret_b HZ.out.symm, HB.out⟩
 have d0 : decide (F_ < 0) = false := decide_eq_false (by omega)
 by_cases h1 : F_ < (m.length : Int)
 rotate_left
 ·have HZ := Aside0.mk (show rfR m F_ Bl At l.length = false by unfold rfR win; rw [decide_eq_false h1, Bool.and_false]; rfl)
  have d1 : decide ((m.length : Int) ≤ F_) = true := decide_eq_true (by omega)
  clear h0 h1
  go_enter Try.func38, Try.ntmps38
  go_wp2_with (first | ((with_reducible refine gate_dst (N := 2) rfl ?_); refine box_event ?hg (N := 2) ?hd (cs := #[.slice A0 m.length c0]) (t := 24) ?hr ?_; (case hd => rfl); (case hg => rfl); (case hr => first | (go_simp; done) | (go_simp; rfl)); intro g2 hg w2 hbox hb; have HB := Aside0.mk hb; have X2 := Aside0.mk hbox; clear hbox hb hg) | ((with_reducible refine gate_dst (N := 3) rfl ?_); refine box_event ?hg (N := 3) ?hd (cs := #[.int .i64 F_, .int .i64 Bl, .int .i64 At, .slice A3 l.length c3, .int .u16 Fly]) (t := 55) ?hr ?_; (case hd => rfl); (case hg => rfl); (case hr => first | (go_simp; done) | (go_simp; rfl)); intro g3 hg w3 hbox hb; have n0_ := Aside0.mk (below_step HB.out hb); have n1_ := Aside0.mk (blk_below X2.out hb); clear HB X2; have HB := n0_; have X2 := n1_; clear n0_ n1_; have X3 := Aside0.mk hbox; clear hbox hb hg; have k0 := (blk_cell X2.out 0).trans rfl; have h0 := (blk_cell X3.out 0).trans rfl; have h1 := (blk_cell X3.out 1).trans rfl; have h2 := (blk_cell X3.out 2).trans rfl; have h3 := (blk_cell X3.out 3).trans rfl; have h4 := (blk_cell X3.out 4).trans rfl))
  go_ret
  exact ⟨ret_b HZ.out.symm, HB.out⟩
 have d1 : decide ((m.length : Int) ≤ F_) = false := decide_eq_false (by omega)
 have p0 : (0 ≤ F_) = True := eq_true h0
 have p1 : (F_ < (m.length : Int)) = True := eq_true h1
 obtain ⟨ad, A1, c1, e1, y0, y1, y2, hl1, hC1⟩ := at_T27 HM.out F_ h0 h1
 subst e1
 have HC1 := Aside0.mk hC1
 have HV := Aside0.mk (show rfR m F_ Bl At l.length = (decide ((l.length : Int) = (rd_T27 m F_).f1) && win Bl (rd_T27 m F_).f2.length && decide (0 ≤ At) && decide (At ≤ ((rd_T41 (rd_T27 m F_).f2 Bl).f2.length : Int))) by unfold rfR win; rw [decide_eq_true h0, decide_eq_true h1]; rfl)
 clear hl1 hC1 h0 h1
 go_enter Try.func38, Try.ntmps38
 go_upto_region 3 with (first | ((with_reducible refine gate_dst (N := 2) rfl ?_); refine box_event ?hg (N := 2) ?hd (cs := #[.slice (some ad) m.length c0]) (t := 24) ?hr ?_; (case hd => rfl); (case hg => rfl); (case hr => first | (go_simp; done) | (go_simp; rfl)); intro g2 hg w2 hbox hb; have HB := Aside0.mk hb; have X2 := Aside0.mk hbox; clear hbox hb hg) | ((with_reducible refine gate_dst (N := 3) rfl ?_); refine box_event ?hg (N := 3) ?hd (cs := #[.int .i64 F_, .int .i64 Bl, .int .i64 At, .slice A3 l.length c3, .int .u16 Fly]) (t := 55) ?hr ?_; (case hd => rfl); (case hg => rfl); (case hr => first | (go_simp; done) | (go_simp; rfl)); intro g3 hg w3 hbox hb; have n0_ := Aside0.mk (below_step HB.out hb); have n1_ := Aside0.mk (blk_below X2.out hb); clear HB X2; have HB := n0_; have X2 := n1_; clear n0_ n1_; have X3 := Aside0.mk hbox; clear hbox hb hg; have k0 := (blk_cell X2.out 0).trans rfl; have h0 := (blk_cell X3.out 0).trans rfl; have h1 := (blk_cell X3.out 1).trans rfl; have h2 := (blk_cell X3.out 2).trans rfl; have h3 := (blk_cell X3.out 3).trans rfl; have h4 := (blk_cell X3.out 4).trans rfl; have u0 := pw_cell_below HB.out y0; have u1 := pw_cell_below HB.out y1; have u2 := pw_cell_below HB.out y2))
 go_cut [5] (fun v5 wc => ∃ g5 : Nat, v5 = .pointer (some ⟨g5, 0, none⟩) ∧ Aside0 (Below w.heap.size w wc) ∧ Aside0 (wc.heap[g3]? = some (.cells #[.int .i64 F_, .int .i64 Bl, .int .i64 At, .slice A3 l.length c3, .int .u16 Fly] 55 (0, 0))) ∧ Aside0 (wc.heap[g5]? = some (.cells #[.int .i64 (rd_T27 m F_).f0, .int .i64 (rd_T27 m F_).f1, .slice A1 (rd_T27 m F_).f2.length c1] 27 (0, 0))))
 case first => go_wp2; go_meet; exact ⟨_, rfl, ⟨below_alloc HB.out _⟩, ⟨blk_alloc X3.out _⟩, ⟨blk_new _ _⟩⟩
 case rest =>
  clear HB X2 X3 k0 h0 h1 h2 h3 h4 u0 u1 u2 d0 d1 p0 p1 y0 y1 y2
  obtain ⟨g5, rfl, HB, X3, X5⟩ := hcut
  generalize (rd_T27 m F_) = g at *
  have h0 := (blk_cell X3.out 0).trans rfl
  have h1 := (blk_cell X3.out 1).trans rfl
  have h2 := (blk_cell X3.out 2).trans rfl
  have h3 := (blk_cell X3.out 3).trans rfl
  have h4 := (blk_cell X3.out 4).trans rfl
  have r0 := (blk_cell X5.out 0).trans rfl
  have r1 := (blk_cell X5.out 1).trans rfl
  have r2 := (blk_cell X5.out 2).trans rfl
  cases b2 : ((l.length : Int) == g.f1) with
  | false =>
   have b4 := beq_eq_false_iff_ne.1 b2
   have HZ := Aside0.mk (HV.out.trans (show _ = false by rw [decide_eq_false b4]; rfl))
   go_wp2
   go_quiet (fail)
   go_wp2
   go_ret
   exact ⟨ret_b HZ.out.symm, pw_below_drewN HB.out _⟩
  | true =>
   have b4 := beq_iff_eq.1 b2
   by_cases b0 : 0 ≤ Bl
   rotate_left
   ·have d0 : decide (0 ≤ Bl) = false := decide_eq_false b0
    have HZ := Aside0.mk (HV.out.trans (show _ = false by unfold win; rw [decide_eq_false b0, Bool.false_and, Bool.and_false]; rfl))
    go_wp2
    go_quiet (fail)
    go_wp2
    go_ret
    exact ⟨ret_b HZ.out.symm, pw_below_drewN HB.out _⟩
   have d0 : decide (0 ≤ Bl) = true := decide_eq_true b0
   by_cases b1 : Bl < (g.f2.length : Int)
   rotate_left
   ·have d1 : decide (Bl < (g.f2.length : Int)) = false := decide_eq_false b1
    have HZ := Aside0.mk (HV.out.trans (show _ = false by unfold win; rw [decide_eq_false b1, Bool.and_false, Bool.and_false]; rfl))
    go_wp2
    go_quiet (fail)
    go_wp2
    go_ret
    exact ⟨ret_b HZ.out.symm, pw_below_drewN HB.out _⟩
   have d1 : decide (Bl < (g.f2.length : Int)) = true := decide_eq_true b1
   have hwin : win Bl g.f2.length = true := by unfold win; rw [d0, d1]; rfl
   cases a0 : decide (0 ≤ At) with
   | false =>
    have HZ := Aside0.mk (HV.out.trans (show _ = false by rw [a0, Bool.and_false]; rfl))
    go_wp2
    go_quiet (fail)
    go_wp2
    go_ret
    exact ⟨ret_b HZ.out.symm, pw_below_drewN HB.out _⟩
   | true =>
    obtain ⟨ad4, A4, c4, A5, c5, A6, c6, e1, z0, z1, z2, z3, z4, z5, z6, z7, z8, z9, z10, z11, z12, z13, _⟩ := at_T41 (Kd.C_below HC1.out HB.out) Bl b0 b1
    subst e1
    clear z0 z1 z2 z3 z4 z6 z7 z8 z9 z10 z11 z12 z13
    have p0 : (0 ≤ Bl) = True := eq_true b0
    have p1 : (Bl < (g.f2.length : Int)) = True := eq_true b1
    have HZ := Aside0.mk (HV.out.trans (show _ = decide (At ≤ ((rd_T41 g.f2 Bl).f2.length : Int)) by rw [decide_eq_true b4, hwin, a0]; rfl))
    go_wp2
    go_quiet (fail)
    go_wp2
    go_ret
    exact ⟨ret_b HZ.out.symm, pw_below_drewN HB.out _⟩
end Go.Proofs.Ytbfialebaoeicaa.X
