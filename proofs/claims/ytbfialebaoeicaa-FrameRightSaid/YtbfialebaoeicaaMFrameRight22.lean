/- Part 23 of the proof of the statement FrameRight: the words of the walks, the walks through the functions that it reaches, and the plain laws of what they compute. -/
import Derived.Test.YtbfialebaoeicaaMFrameRight21
import Derived.RegionTactic
import Derived.ChangeAlike
import Derived.Deep.QuietTactic
import Derived.BigQuiet
import Derived.StillTailTactics
namespace Go.Proofs.Ytbfialebaoeicaa.X
open Go.RowKit Go.Proofs.YtbfialebaoeicaaW.PrintWords Go.Proofs.YtbfialebaoeicaaW.PrintLast Go.Proofs.YtbfialebaoeicaaW.PrintMore
set_option linter.all false
theorem frR_mk {m : List S27} {F_ Bl At k n : Int} (h : frR m F_ Bl At k = true) (h0 : 0 ≤ n) (h1 : n < ((rd_T27 m F_).f2.length : Int)) : frR m F_ n 0 k = true := by
 have h2 := frR_open h
 unfold frR win
 rw [h2.1, decide_eq_true h0, decide_eq_true h1, decide_eq_true h2.2.2.2, decide_eq_true (show (0 : Int) ≤ 0 by omega), decide_eq_true (show (0 : Int) ≤ ((rd_T41 (rd_T27 m F_).f2 n).f2.length : Int) by omega)]
 rfl
end Go.Proofs.Ytbfialebaoeicaa.X
namespace Go.Proofs.Ytbfialebaoeicaa.X
open Go.RowKit Go.Proofs.YtbfialebaoeicaaW.PrintWords Go.Proofs.YtbfialebaoeicaaW.PrintLast Go.Proofs.YtbfialebaoeicaaW.PrintMore
set_option linter.all false
set_option maxHeartbeats 16000000 in
set_option maxRecDepth 100000 in
theorem right_c (m : List S27) (A0 : Option Addr) (c0 : Nat) (w : World) (hm : Kd.C k27 w A0 m.length m) (hb : Bnd m) :
  Calls Try.prog 17 #[.agg #[.slice A0 m.length c0]] w fun e w' => e = .returned (.bool (rightR m)) ∧ Below w.heap.size w w' := by
 have HM := Aside0.mk hm
 have HN := Aside0.mk hb
 clear hm hb
 have hu24 := Try.underlying24
 have hu27 := Try.underlying27
 by_cases h0 : m.length = 0
 ·have hz : ((m.length : Int) == 0) = true := by rw [h0]; rfl
  have HZ := Aside0.mk (show rightR m = false by unfold rightR; rw [decide_eq_false (show ¬ 1 ≤ m.length by omega)]; rfl)
  clear h0
  go_enter Try.func17, Try.ntmps17
  go_wp2_with (first | ((with_reducible refine gate_dst (N := 1) rfl ?_); refine box_event ?hg (N := 1) ?hd (cs := #[.slice A0 m.length c0]) (t := 24) ?hr ?_; (case hd => rfl); (case hg => rfl); (case hr => first | (go_simp; done) | (go_simp; rfl)); intro g1 hg w1 hbox hb; have HB := Aside0.mk hb; have X1 := Aside0.mk hbox; clear hbox hb hg; have m0 := (blk_cell X1.out 0).trans rfl))
  go_ret
  exact ⟨ret_b HZ.out.symm, HB.out⟩
 have hz : ((m.length : Int) == 0) = false := beq_eq_false_iff_ne.2 (by omega)
 obtain ⟨ad, e1, hx⟩ := first_F HM.out (by omega)
 subst e1
 have hx' : w.cell? ad = some (.int .i64 (rd_T27 m 0).f0) := hx
 have q0 : (0 < m.length) = True := eq_true (by omega)
 have HPOS := Aside0.mk (show 0 < m.length by omega)
 clear h0 hx
 go_enter Try.func17, Try.ntmps17
 go_upto_region 1 with ((with_reducible refine gate_dst (N := 1) rfl ?_); refine box_event ?hg (N := 1) ?hd (cs := #[.slice (some ad) m.length c0]) (t := 24) ?hr ?_; (case hd => rfl); (case hg => rfl); (case hr => first | (go_simp; done) | (go_simp; rfl)); intro g1 hg w1 hbox hb; have HB := Aside0.mk hb; have X1 := Aside0.mk hbox; clear hbox hb hg; have m0 := (blk_cell X1.out 0).trans rfl; have hx := pw_cell_below HB.out hx')
 go_cut [21] (fun v21 wc => v21 = .bool (!(decide (1 ≤ m.length) && decide (m.length ≤ 16) && ((rd_T27 m 0).f0 == 0))) ∧ Aside0 (Below w.heap.size w wc) ∧ Aside0 (wc.heap[g1]? = some (.cells #[.slice (some ad) m.length c0] 24 (0, 0))))
 case first =>
  have d4 : decide (1 ≤ m.length) = true := decide_eq_true (by have := HPOS.out; omega)
  cases hz0 : ((rd_T27 m 0).f0 == 0) <;> (have hz1 : ((rd_T27 m 0).f0 != 0) = !((rd_T27 m 0).f0 == 0) := rfl; rw [hz0] at hz1; simp only [Bool.not_true, Bool.not_false] at hz1; by_cases hl : m.length ≤ 16)
  ·have d1 : decide ((16 : Int) < (m.length : Int)) = false := decide_eq_false (by omega)
   have d2 : decide (16 < m.length) = false := decide_eq_false (by omega)
   have d3 : decide (m.length ≤ 16) = true := decide_eq_true hl
   clear hl
   go_wp2
   go_meet
   exact ⟨congrArg Value.bool (by rw [d3, d4, hz0]; rfl), HB, X1⟩
  ·have d1 : decide ((16 : Int) < (m.length : Int)) = true := decide_eq_true (by omega)
   have d2 : decide (16 < m.length) = true := decide_eq_true (by omega)
   have d3 : decide (m.length ≤ 16) = false := decide_eq_false hl
   clear hl
   go_wp2
   go_meet
   exact ⟨congrArg Value.bool (by rw [d3, d4, hz0]; rfl), HB, X1⟩
  ·have d1 : decide ((16 : Int) < (m.length : Int)) = false := decide_eq_false (by omega)
   have d2 : decide (16 < m.length) = false := decide_eq_false (by omega)
   have d3 : decide (m.length ≤ 16) = true := decide_eq_true hl
   clear hl
   go_wp2
   go_meet
   exact ⟨congrArg Value.bool (by rw [d3, d4, hz0]; rfl), HB, X1⟩
  ·have d1 : decide ((16 : Int) < (m.length : Int)) = true := decide_eq_true (by omega)
   have d2 : decide (16 < m.length) = true := decide_eq_true (by omega)
   have d3 : decide (m.length ≤ 16) = false := decide_eq_false hl
   clear hl
   go_wp2
   go_meet
   exact ⟨congrArg Value.bool (by rw [d3, d4, hz0]; rfl), HB, X1⟩
 case rest =>
  clear HB X1 m0 hx hx' hz q0
  obtain ⟨rfl, HB, X1⟩ := hcut
  have m0 := (blk_cell X1.out 0).trans rfl
  cases hs : (decide (1 ≤ m.length) && decide (m.length ≤ 16) && ((rd_T27 m 0).f0 == 0)) with
  | false =>
   have HZ := Aside0.mk (show rightR m = false by unfold rightR; rw [hs]; rfl)
   go_wp2
   go_ret
   exact ⟨ret_b HZ.out.symm, HB.out⟩
  | true =>
   have HSP := Aside0.mk (show rightR m = m.all (funcR m) by unfold rightR; rw [hs]; rfl)
   clear hs
   go_wp2
   clear m0
   go_loopg [3] 1000000 (fun gg s3 wr => ∃ x : Int, s3 = .int .i64 x ∧ Aside0 (0 ≤ x ∧ x ≤ m.length ∧ (m.length : Int) - x ≤ gg) ∧ Aside0 ((m.take x.toNat).all (funcR m) = true) ∧ Aside0 (Below w.heap.size w wr) ∧ Aside0 (wr.heap[g1]? = some (.cells #[.slice (some ad) m.length c0] 24 (0, 0))))
   case atStart => exact ⟨0, rfl, ⟨by have := HN.out.nf; omega⟩, ⟨by simp⟩, HB, X1⟩
   case round =>
    clear HB X1
    obtain ⟨x, rfl, HX, HA, HB, X1⟩ := hrel
    have m0 := (blk_cell X1.out 0).trans rfl
    by_cases hlt : x < (m.length : Int)
    rotate_left
    ·have hd : decide (x < (m.length : Int)) = false := decide_eq_false hlt
     have HE := Aside0.mk (show m.all (funcR m) = true by rw [← all_end m _ x hlt]; exact HA.out)
     clear hlt
     go_wp2
     go_ret
     exact ⟨ret_b (by rw [HSP.out, HE.out]), HB.out⟩
    have hd : decide (x < (m.length : Int)) = true := decide_eq_true hlt
    have HLT := Aside0.mk hlt
    clear hlt
    have p1 : (0 ≤ x) = True := eq_true HX.out.1
    have p2 : (x < (m.length : Int)) = True := eq_true HLT.out
    obtain ⟨ad', A2, c2, e1, y0, y1, y2, _, hC2⟩ := at_T27 (Kd.C_below HM.out HB.out) x HX.out.1 HLT.out
    cases e1
    have HMB := Aside0.mk (rd_mem' m z27 x HX.out.1 HLT.out)
    have HST := Aside0.mk (all_step m z27 (funcR m) x HX.out.1 HLT.out)
    have HNO := Aside0.mk (all_no m z27 (funcR m) x HX.out.1 HLT.out)
    have hrd : m.getD x.toNat z27 = rd_T27 m x := rfl
    rw [hrd] at HMB HST HNO
    clear hrd
    generalize rd_T27 m x = f at y0 y1 y2 hC2 HMB HST HNO
    have C2 := Aside0.mk hC2
    have HFN := Aside0.mk (HN.out.f f HMB.out)
    clear hC2
    go_wp2
    go_still_tail 6, (by kernel_rfl)
    have n0_ := Aside0.mk (below_drew HB.out)
    have n1_ := Aside0.mk (blk_drew X1.out)
    have n2_ := Aside0.mk (Kd.C_drew C2.out)
    clear HB X1 C2
    have HB := n0_
    have X1 := n1_
    have C2 := n2_
    clear n0_ n1_ n2_
    change wpList _ _ _ _ _ wr.drew
    generalize wr.drew = w2 at *
    cases hiq : funcR m f with
    | false =>
     have HIQ := Aside0.mk hiq
     clear hiq
     go_wp2_with (go_at_call 19; (with_reducible refine (func_c m (some ad) c0 f A2 c2 _ (Kd.C_below HM.out HB.out) C2.out HFN.out).mono ?_); rintro e w8 ⟨rfl, hb⟩; have n0_ := Aside0.mk (below_step HB.out hb); have n1_ := Aside0.mk (blk_below X1.out hb); clear HB X1; have HB := n0_; have X1 := n1_; clear n0_ n1_; clear hb C2; rw [HIQ.out])
     go_ret
     exact ⟨ret_b (by rw [HSP.out, HNO.out HIQ.out]), HB.out⟩
    | true =>
     have HIQ := Aside0.mk hiq
     clear hiq
     go_wp2_with (go_at_call 19; (with_reducible refine (func_c m (some ad) c0 f A2 c2 _ (Kd.C_below HM.out HB.out) C2.out HFN.out).mono ?_); rintro e w8 ⟨rfl, hb⟩; have n0_ := Aside0.mk (below_step HB.out hb); have n1_ := Aside0.mk (blk_below X1.out hb); clear HB X1; have HB := n0_; have X1 := n1_; clear n0_ n1_; clear hb C2; rw [HIQ.out])
     have W1 := Aside0.mk (show wrap64 (x + 1) = x + 1 from wrap_in _ (by have := HX.out; omega) (by have := HLT.out; have := HN.out.nf; omega))
     go_roundg ((m.length : Int) - (x + 1)).toNat
     case measure => have h1_ := HX.out; have h2_ := HLT.out; omega
     case rel => exact ⟨x + 1, by first | (rw [W1.out]; done) | rfl | (simp only [W1.out]; done), ⟨by have := HX.out; have := HLT.out; omega⟩, ⟨by rw [HST.out, HA.out, HIQ.out]; rfl⟩, HB, X1⟩
end Go.Proofs.Ytbfialebaoeicaa.X
