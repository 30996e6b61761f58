/- Part 29 of the proof of the statement PadsRight: the words of the walks, the walks through the functions that it reaches, and the plain laws of what they compute. -/
import Derived.Test.YtbfialebaoeicaaMPadsRight27
import Derived.RegionTactic
import Derived.ChangeAlike
import Derived.Deep.QuietTactic
import Derived.BigQuiet
import Derived.StillTailTactics
import Derived.Deep.MidRow
import Derived.Test.YtbfialebaoeicaaRows
import Derived.WalkKit
import Derived.ProofKit
import Derived.OpenShut
import Derived.ShutString
import Derived.ChangeOld
import Derived.Below
import Derived.SizedLaws
import Derived.Carry
namespace Go.Proofs.Ytbfialebaoeicaa.X
open Go.RowKit Go.Proofs.YtbfialebaoeicaaW.PrintWords Go.Proofs.YtbfialebaoeicaaW.PrintLast Go.Proofs.YtbfialebaoeicaaW.PrintMore
set_option linter.all false
set_option maxHeartbeats 16000000 in
set_option maxRecDepth 100000 in
theorem right_c (m : List S27) (A0 : Option Addr) (c0 : Nat) (w : World) (hm : Kd.C k27 w A0 m.length m) (hb : Bnd m) :
  Calls Try.prog 17 #[.agg #[.slice A0 m.length c0]] w fun e w' => e = .returned (.bool (rightR m)) ∧ Below w.heap.size w w' := by
 have HM := Aside0.mk hm
 have HN := Aside0.mk hb
 clear hm hb
 have hu24 := Try.underlying24
 have hu27 := Try.underlying27
 by_cases h0 : m.length = 0
 ·have hz : ((m.length : Int) == 0) = true := by rw [h0]; rfl
  have HZ := Aside0.mk (show rightR m = false by unfold rightR; rw [decide_eq_false (show ¬ 1 ≤ m.length by omega)]; rfl)
  clear h0
  go_enter Try.func17, Try.ntmps17
  go_wp2_with (first | ((with_reducible refine gate_dst (N := 1) rfl ?_); refine box_event ?hg (N := 1) ?hd (cs := #[.slice A0 m.length c0]) (t := 24) ?hr ?_; (case hd => rfl); (case hg => rfl); (case hr => first | (go_simp; done) | (go_simp; rfl)); intro g1 hg w1 hbox hb; have HB := Aside0.mk hb; have X1 := Aside0.mk hbox; clear hbox hb hg; have m0 := (blk_cell X1.out 0).trans rfl))
  go_ret
  exact ⟨ret_b HZ.out.symm, HB.out⟩
 have hz : ((m.length : Int) == 0) = false := beq_eq_false_iff_ne.2 (by omega)
 obtain ⟨ad, e1, hx⟩ := first_F HM.out (by omega)
 subst e1
 have hx' : w.cell? ad = some (.int .i64 (rd_T27 m 0).f0) := hx
 have q0 : (0 < m.length) = True := eq_true (by omega)
 have HPOS := Aside0.mk (show 0 < m.length by omega)
 clear h0 hx
 go_enter Try.func17, Try.ntmps17
 go_upto_region 1 with ((with_reducible refine gate_dst (N := 1) rfl ?_); refine box_event ?hg (N := 1) ?hd (cs := #[.slice (some ad) m.length c0]) (t := 24) ?hr ?_; (case hd => rfl); (case hg => rfl); (case hr => first | (go_simp; done) | (go_simp; rfl)); intro g1 hg w1 hbox hb; have HB := Aside0.mk hb; have X1 := Aside0.mk hbox; clear hbox hb hg; have m0 := (blk_cell X1.out 0).trans rfl; have hx := pw_cell_below HB.out hx')
 go_cut [21] (fun v21 wc => v21 = .bool (!(decide (1 ≤ m.length) && decide (m.length ≤ 16) && ((rd_T27 m 0).f0 == 0))) ∧ Aside0 (Below w.heap.size w wc) ∧ Aside0 (wc.heap[g1]? = some (.cells #[.slice (some ad) m.length c0] 24 (0, 0))))
 case first =>
  have d4 : decide (1 ≤ m.length) = true := decide_eq_true (by have := HPOS.out; omega)
  cases hz0 : ((rd_T27 m 0).f0 == 0) <;> (have hz1 : ((rd_T27 m 0).f0 != 0) = !((rd_T27 m 0).f0 == 0) := rfl; rw [hz0] at hz1; simp only [Bool.not_true, Bool.not_false] at hz1; by_cases hl : m.length ≤ 16)
  ·have d1 : decide ((16 : Int) < (m.length : Int)) = false := decide_eq_false (by omega)
   have d2 : decide (16 < m.length) = false := decide_eq_false (by omega)
   have d3 : decide (m.length ≤ 16) = true := decide_eq_true hl
   clear hl
   go_wp2
   go_meet
   exact ⟨congrArg Value.bool (by rw [d3, d4, hz0]; rfl), HB, X1⟩
  ·have d1 : decide ((16 : Int) < (m.length : Int)) = true := decide_eq_true (by omega)
   have d2 : decide (16 < m.length) = true := decide_eq_true (by omega)
   have d3 : decide (m.length ≤ 16) = false := decide_eq_false hl
   clear hl
   go_wp2
   go_meet
   exact ⟨congrArg Value.bool (by rw [d3, d4, hz0]; rfl), HB, X1⟩
  ·have d1 : decide ((16 : Int) < (m.length : Int)) = false := decide_eq_false (by omega)
   have d2 : decide (16 < m.length) = false := decide_eq_false (by omega)
   have d3 : decide (m.length ≤ 16) = true := decide_eq_true hl
   clear hl
   go_wp2
   go_meet
   exact ⟨congrArg Value.bool (by rw [d3, d4, hz0]; rfl), HB, X1⟩
  ·have d1 : decide ((16 : Int) < (m.length : Int)) = true := decide_eq_true (by omega)
   have d2 : decide (16 < m.length) = true := decide_eq_true (by omega)
   have d3 : decide (m.length ≤ 16) = false := decide_eq_false hl
   clear hl
   go_wp2
   go_meet
   exact ⟨congrArg Value.bool (by rw [d3, d4, hz0]; rfl), HB, X1⟩
 case rest =>
  clear HB X1 m0 hx hx' hz q0
  obtain ⟨rfl, HB, X1⟩ := hcut
  have m0 := (blk_cell X1.out 0).trans rfl
  cases hs : (decide (1 ≤ m.length) && decide (m.length ≤ 16) && ((rd_T27 m 0).f0 == 0)) with
  | false =>
   have HZ := Aside0.mk (show rightR m = false by unfold rightR; rw [hs]; rfl)
   go_wp2
   go_ret
   exact ⟨ret_b HZ.out.symm, HB.out⟩
  | true =>
   have HSP := Aside0.mk (show rightR m = m.all (funcR m) by unfold rightR; rw [hs]; rfl)
   clear hs
   go_wp2
   clear m0
   go_loopg [3] 1000000 (fun gg s3 wr => ∃ x : Int, s3 = .int .i64 x ∧ Aside0 (0 ≤ x ∧ x ≤ m.length ∧ (m.length : Int) - x ≤ gg) ∧ Aside0 ((m.take x.toNat).all (funcR m) = true) ∧ Aside0 (Below w.heap.size w wr) ∧ Aside0 (wr.heap[g1]? = some (.cells #[.slice (some ad) m.length c0] 24 (0, 0))))
   case atStart => exact ⟨0, rfl, ⟨by have := HN.out.nf; omega⟩, ⟨by simp⟩, HB, X1⟩
   case round =>
    clear HB X1
    obtain ⟨x, rfl, HX, HA, HB, X1⟩ := hrel
    have m0 := (blk_cell X1.out 0).trans rfl
    by_cases hlt : x < (m.length : Int)
    rotate_left
    ·have hd : decide (x < (m.length : Int)) = false := decide_eq_false hlt
     have HE := Aside0.mk (show m.all (funcR m) = true by rw [← all_end m _ x hlt]; exact HA.out)
     clear hlt
     go_wp2
     go_ret
     exact ⟨ret_b (by rw [HSP.out, HE.out]), HB.out⟩
    have hd : decide (x < (m.length : Int)) = true := decide_eq_true hlt
    have HLT := Aside0.mk hlt
    clear hlt
    have p1 : (0 ≤ x) = True := eq_true HX.out.1
    have p2 : (x < (m.length : Int)) = True := eq_true HLT.out
    obtain ⟨ad', A2, c2, e1, y0, y1, y2, _, hC2⟩ := at_T27 (Kd.C_below HM.out HB.out) x HX.out.1 HLT.out
    cases e1
    have HMB := Aside0.mk (rd_mem' m z27 x HX.out.1 HLT.out)
    have HST := Aside0.mk (all_step m z27 (funcR m) x HX.out.1 HLT.out)
    have HNO := Aside0.mk (all_no m z27 (funcR m) x HX.out.1 HLT.out)
    have hrd : m.getD x.toNat z27 = rd_T27 m x := rfl
    rw [hrd] at HMB HST HNO
    clear hrd
    generalize rd_T27 m x = f at y0 y1 y2 hC2 HMB HST HNO
    have C2 := Aside0.mk hC2
    have HFN := Aside0.mk (HN.out.f f HMB.out)
    clear hC2
    go_wp2
    go_still_tail 6, (by kernel_rfl)
    replace HB := Aside0.mk (below_drew HB.out)
    replace X1 := Aside0.mk (blk_drew X1.out)
    replace C2 := Aside0.mk (Kd.C_drew C2.out)
    change wpList _ _ _ _ _ wr.drew
    generalize wr.drew = w2 at *
    cases hiq : funcR m f with
    | false =>
     have HIQ := Aside0.mk hiq
     clear hiq
     go_wp2_with (go_at_call 19; (with_reducible refine (func_c m (some ad) c0 f A2 c2 _ (Kd.C_below HM.out HB.out) C2.out HFN.out).mono ?_); rintro e w8 ⟨rfl, hb⟩; replace HB := Aside0.mk (below_step HB.out hb); replace X1 := Aside0.mk (blk_below X1.out hb); clear hb C2; rw [HIQ.out])
     go_ret
     exact ⟨ret_b (by rw [HSP.out, HNO.out HIQ.out]), HB.out⟩
    | true =>
     have HIQ := Aside0.mk hiq
     clear hiq
     go_wp2_with (go_at_call 19; (with_reducible refine (func_c m (some ad) c0 f A2 c2 _ (Kd.C_below HM.out HB.out) C2.out HFN.out).mono ?_); rintro e w8 ⟨rfl, hb⟩; replace HB := Aside0.mk (below_step HB.out hb); replace X1 := Aside0.mk (blk_below X1.out hb); clear hb C2; rw [HIQ.out])
     have W1 := Aside0.mk (show wrap64 (x + 1) = x + 1 from wrap_in _ (by have := HX.out; omega) (by have := HLT.out; have := HN.out.nf; omega))
     go_roundg ((m.length : Int) - (x + 1)).toNat
     case measure => have h1_ := HX.out; have h2_ := HLT.out; omega
     case rel => exact ⟨x + 1, by first | (rw [W1.out]; done) | rfl | (simp only [W1.out]; done), ⟨by have := HX.out; have := HLT.out; omega⟩, ⟨by rw [HST.out, HA.out, HIQ.out]; rfl⟩, HB, X1⟩
end Go.Proofs.Ytbfialebaoeicaa.X
namespace Go.Proofs.Ytbfialebaoeicaa.X
open Go.RowKit Go.Proofs.YtbfialebaoeicaaW.PrintWords Go.Proofs.YtbfialebaoeicaaW.PrintLast Go.Proofs.YtbfialebaoeicaaW.PrintMore
set_option linter.all false
open Go.Proofs.Ytbfialebaoeicaa.G
theorem trimP_len (q : S35) : (trimP q).f1.length ≤ q.f1.length := by
 unfold trimP
 split
 ·exact Nat.zero_le _
 ·exact Nat.le_refl _
theorem bnd_pads {m : List S27} (h : BC m) (hb : Bnd m) : Bnd (m.map padF) := by
 refine ⟨by rw [List.length_map]; exact hb.nf, fun f hf => ?_⟩
 obtain ⟨f0, h0, rfl⟩ := List.mem_map.1 hf
 have hF := hb.f f0 h0
 refine ⟨by show (f0.f2.map _).length ≤ _; rw [List.length_map]; exact hF.nb, fun b hbm => ?_, fun b hbm => ?_, fun b hbm => ?_, fun b hbm x hx => ?_⟩ <;> (obtain ⟨b0, h1, rfl⟩ := List.mem_map.1 hbm)
 ·have h2 := h.ni f0 h0 b0 h1
  unfold padB
  split
  ·show (b0.f2 ++ [newI (trimB b0)]).length ≤ _
   rw [List.length_append]
   show b0.f2.length + 1 ≤ _
   omega
  ·show b0.f2.length ≤ _
   omega
 ·have h2 := hF.nc b0 h1
  have h3 := trimP_len b0.f1
  unfold padB
  split
  ·exact Nat.le_trans h3 h2
  ·exact Nat.le_trans h3 h2
 ·have h2 := hF.ne b0 h1
  unfold padB
  split
  ·exact Nat.zero_le _
  ·exact h2
 ·have h2 := hF.na b0 h1
  have h3 := hF.ne b0 h1
  unfold padB at hx
  split at hx
  ·rcases List.mem_append.1 (show x ∈ b0.f2 ++ [newI (trimB b0)] from hx) with hx | hx
   ·exact h2 x hx
   ·rw [List.mem_singleton.1 hx]
    exact h3
  ·exact h2 x hx
theorem same_pads (m : List S27) (Bn : Option Addr) (cn : Nat) (Dm : Option Addr) (km : Nat) (w : World) (h1 : Kd.C k27 w Bn (m.map padF).length (m.map padF)) (h2 : Kd.C k27 w Dm m.length (m.map padF)) (hb : Bnd (m.map padF)) :
  Calls Try.prog 26 #[.agg #[.slice Bn m.length cn], .agg #[.slice Dm m.length km]] w fun e w' => e = .returned (.bool true) ∧ Below w.heap.size w w' := by
 have h := rsame_c (m.map padF) Bn cn (m.map padF) Dm km w h1 (by rw [List.length_map]; exact h2) hb
 rw [List.length_map, eqL_refl funcE_refl] at h
 exact h
theorem rsame_same (m : List S27) (Bn : Option Addr) (cn : Nat) (Dm : Option Addr) (km : Nat) (w : World) (h1 : Kd.C k27 w Bn m.length m) (h2 : Kd.C k27 w Dm m.length m) (hb : Bnd m) :
  Calls Try.prog 26 #[.agg #[.slice Bn m.length cn], .agg #[.slice Dm m.length km]] w fun e w' => e = .returned (.bool true) ∧ Below w.heap.size w w' := by
 have h := rsame_c m Bn cn m Dm km w h1 h2 hb
 rw [eqL_refl funcE_refl] at h
 exact h
theorem rpad_same (q : S35) (A : Option Addr) (c : Nat) (A' : Option Addr) (c' : Nat) (w : World) (hl : Kd.C (Kd.int .u16) w A q.f1.length q.f1) (hc : q.f1.length ≤ c) (hr : Kd.C (Kd.int .u16) w A' q.f1.length q.f1) (hc' : q.f1.length ≤ c') (hm : q.f1.length ≤ 1000000) :
  Calls Try.prog 44 #[.agg #[.int .i64 q.f0, .slice A q.f1.length c, .bool q.f2, .bool q.f3], .agg #[.int .i64 q.f0, .slice A' q.f1.length c', .bool q.f2, .bool q.f3]] w fun e w' => e = .returned (.bool true) ∧ Below w.heap.size w w' := by
 have h := rpad_c q A c q A' c' w hl hc hr hc' hm
 rw [padE_refl] at h
 exact h
set_option maxHeartbeats 16000000 in
set_option maxRecDepth 100000 in
theorem pright_c (m : List S27) (A0 : Option Addr) (c0 : Nat) (b : S41) (A4 : Option Addr) (c4 : Nat) (A5 : Option Addr) (c5 : Nat) (A6 : Option Addr) (c6 : Nat) (w : World) (hm : Kd.C k27 w A0 m.length m) (hc0 : m.length ≤ c0)
  (h4 : Kd.C (Kd.int .u16) w A4 b.f1.f1.length b.f1.f1) (k4 : b.f1.f1.length ≤ c4) (h5 : Kd.C k49 w A5 b.f2.length b.f2) (k5 : b.f2.length ≤ c5) (h6 : Kd.C (Kd.int .i64) w A6 b.f3.f4.length b.f3.f4) (k6 : b.f3.f4.length ≤ c6) :
  Calls Try.prog 10 #[.agg #[.slice A0 m.length c0], .agg #[.bool b.f0, .int .i64 b.f1.f0, .slice A4 b.f1.f1.length c4, .bool b.f1.f2, .bool b.f1.f3, .slice A5 b.f2.length c5, .int .i64 b.f3.f0, .int .i64 b.f3.f1, .int .i64 b.f3.f2, .int .i64 b.f3.f3, .slice A6 b.f3.f4.length c6, .int .i64 b.f3.f5, .int .i64 b.f3.f6, .int .i64 b.f3.f7]] w fun e w' => e = .returned (.bool true) ∧ Below w.heap.size w w' := by
 have HM := Aside0.mk hm
 have HC0 := Aside0.mk hc0
 have H4 := Aside0.mk h4
 have H5 := Aside0.mk h5
 have H6 := Aside0.mk h6
 have HK := Aside0.mk (And.intro k4 (And.intro k5 k6))
 clear hm hc0 h4 h5 h6 k4 k5 k6
 have hu24 := Try.underlying24
 have hu27 := Try.underlying27
 have hu41 := Try.underlying41
 have hu49 := Try.underlying49
 have hu35 := Try.underlying35
 have hu39 := Try.underlying39
 obtain ⟨sh, hs1, hs2⟩ := short_c m
 have HSH := Aside0.mk hs2
 clear hs2
 cases sh with
 | false =>
  go_enter Try.func10, Try.ntmps10
  go_wp2_with (first | ((with_reducible refine gate_dst (N := 2) rfl ?_); refine box_event ?hg (N := 2) ?hd (cs := #[.slice A0 m.length c0]) (t := 24) ?hr ?_; (case hd => rfl); (case hg => rfl); (case hr => first | (go_simp; done) | (go_simp; rfl)); intro g2 hg w2 hbox hb; have HLX2 := Aside0.mk (show w.heap.size ≤ g2 by rw [hg]; exact Nat.le_refl _); have HB := Aside0.mk hb; have X2 := Aside0.mk hbox; clear hbox hb hg; have m0 := (blk_cell X2.out 0).trans rfl; have zm0 := blk_frozen X2.out 0) | ((with_reducible refine gate_dst (N := 3) rfl ?_); refine box_event ?hg (N := 3) ?hd (cs := #[.bool b.f0, .int .i64 b.f1.f0, .slice A4 b.f1.f1.length c4, .bool b.f1.f2, .bool b.f1.f3, .slice A5 b.f2.length c5, .int .i64 b.f3.f0, .int .i64 b.f3.f1, .int .i64 b.f3.f2, .int .i64 b.f3.f3, .slice A6 b.f3.f4.length c6, .int .i64 b.f3.f5, .int .i64 b.f3.f6, .int .i64 b.f3.f7]) (t := 41) ?hr ?_; (case hd => rfl); (case hg => rfl); (case hr => first | (go_simp; done) | (go_simp; rfl)); intro g3 hg w3 hbox hb; have HLX3 := Aside0.mk (show w.heap.size ≤ g3 by rw [hg]; exact HB.out.size); replace HB := Aside0.mk (below_step HB.out hb); replace X2 := Aside0.mk (blk_below X2.out hb); have X3 := Aside0.mk hbox; clear hbox hb hg; obtain ⟨h0, h1, h2, h3, h4, h5, h6, h7, h8, h9, h10, h11, h12, h13⟩ := cl14 X3.out; obtain ⟨zh0, zh1, zh2, zh3, zh4, zh5, zh6, zh7, zh8, zh9, zh10, zh11, zh12, zh13⟩ := fz14 X3.out; clear m0 zm0; have m0 := (blk_cell X2.out 0).trans rfl; have zm0 := blk_frozen X2.out 0) | (go_at_call 40; go_loud ((with_reducible refine (awake15_c _).mono ?_); rintro e w8 ⟨rfl, hb⟩; clear m0 zm0 h0 zh0 h1 zh1 h2 zh2 h3 zh3 h4 zh4 h5 zh5 h6 zh6 h7 zh7 h8 zh8 h9 zh9 h10 zh10 h11 zh11 h12 zh12 h13 zh13; replace HB := Aside0.mk (below_step HB.out hb); replace X2 := Aside0.mk (blk_below X2.out hb); replace X3 := Aside0.mk (blk_below X3.out hb); clear hb; have m0 := (blk_cell X2.out 0).trans rfl; have zm0 := blk_frozen X2.out 0; obtain ⟨h0, h1, h2, h3, h4, h5, h6, h7, h8, h9, h10, h11, h12, h13⟩ := cl14 X3.out; obtain ⟨zh0, zh1, zh2, zh3, zh4, zh5, zh6, zh7, zh8, zh9, zh10, zh11, zh12, zh13⟩ := fz14 X3.out)) | (go_at_call 15; go_loud ((with_reducible refine (HSH.out A0 c0 _ (Kd.C_below HM.out HB.out) HC0.out).mono ?_); rintro e w8 ⟨rfl, hb⟩; clear m0 zm0 h0 zh0 h1 zh1 h2 zh2 h3 zh3 h4 zh4 h5 zh5 h6 zh6 h7 zh7 h8 zh8 h9 zh9 h10 zh10 h11 zh11 h12 zh12 h13 zh13; replace HB := Aside0.mk (below_step HB.out hb); replace X2 := Aside0.mk (blk_below X2.out hb); replace X3 := Aside0.mk (blk_below X3.out hb); clear hb; have m0 := (blk_cell X2.out 0).trans rfl; have zm0 := blk_frozen X2.out 0; obtain ⟨h0, h1, h2, h3, h4, h5, h6, h7, h8, h9, h10, h11, h12, h13⟩ := cl14 X3.out; obtain ⟨zh0, zh1, zh2, zh3, zh4, zh5, zh6, zh7, zh8, zh9, zh10, zh11, zh12, zh13⟩ := fz14 X3.out)))
  go_ret
  exact ⟨rfl, HB.out⟩
 | true =>
  have HS := Aside0.mk (hs1 rfl)
  have HBND := Aside0.mk (Sh.bnd (hs1 rfl))
  have HN := Aside0.mk (Sh_bc (hs1 rfl))
  have HBP := Aside0.mk (bnd_pads HN.out HBND.out)
  clear hs1
  by_cases h20 : 20 < b.f1.f1.length
  ·have hd : decide ((20 : Int) < (b.f1.f1.length : Int)) = true := decide_eq_true (by omega)
   have hd2 : decide (20 < b.f1.f1.length) = true := decide_eq_true h20
   clear h20
   go_enter Try.func10, Try.ntmps10
   go_wp2_with (first | ((with_reducible refine gate_dst (N := 2) rfl ?_); refine box_event ?hg (N := 2) ?hd (cs := #[.slice A0 m.length c0]) (t := 24) ?hr ?_; (case hd => rfl); (case hg => rfl); (case hr => first | (go_simp; done) | (go_simp; rfl)); intro g2 hg w2 hbox hb; have HLX2 := Aside0.mk (show w.heap.size ≤ g2 by rw [hg]; exact Nat.le_refl _); have HB := Aside0.mk hb; have X2 := Aside0.mk hbox; clear hbox hb hg; have m0 := (blk_cell X2.out 0).trans rfl; have zm0 := blk_frozen X2.out 0) | ((with_reducible refine gate_dst (N := 3) rfl ?_); refine box_event ?hg (N := 3) ?hd (cs := #[.bool b.f0, .int .i64 b.f1.f0, .slice A4 b.f1.f1.length c4, .bool b.f1.f2, .bool b.f1.f3, .slice A5 b.f2.length c5, .int .i64 b.f3.f0, .int .i64 b.f3.f1, .int .i64 b.f3.f2, .int .i64 b.f3.f3, .slice A6 b.f3.f4.length c6, .int .i64 b.f3.f5, .int .i64 b.f3.f6, .int .i64 b.f3.f7]) (t := 41) ?hr ?_; (case hd => rfl); (case hg => rfl); (case hr => first | (go_simp; done) | (go_simp; rfl)); intro g3 hg w3 hbox hb; have HLX3 := Aside0.mk (show w.heap.size ≤ g3 by rw [hg]; exact HB.out.size); replace HB := Aside0.mk (below_step HB.out hb); replace X2 := Aside0.mk (blk_below X2.out hb); have X3 := Aside0.mk hbox; clear hbox hb hg; obtain ⟨h0, h1, h2, h3, h4, h5, h6, h7, h8, h9, h10, h11, h12, h13⟩ := cl14 X3.out; obtain ⟨zh0, zh1, zh2, zh3, zh4, zh5, zh6, zh7, zh8, zh9, zh10, zh11, zh12, zh13⟩ := fz14 X3.out; clear m0 zm0; have m0 := (blk_cell X2.out 0).trans rfl; have zm0 := blk_frozen X2.out 0) | (go_at_call 40; go_loud ((with_reducible refine (awake15_c _).mono ?_); rintro e w8 ⟨rfl, hb⟩; clear m0 zm0 h0 zh0 h1 zh1 h2 zh2 h3 zh3 h4 zh4 h5 zh5 h6 zh6 h7 zh7 h8 zh8 h9 zh9 h10 zh10 h11 zh11 h12 zh12 h13 zh13; replace HB := Aside0.mk (below_step HB.out hb); replace X2 := Aside0.mk (blk_below X2.out hb); replace X3 := Aside0.mk (blk_below X3.out hb); clear hb; have m0 := (blk_cell X2.out 0).trans rfl; have zm0 := blk_frozen X2.out 0; obtain ⟨h0, h1, h2, h3, h4, h5, h6, h7, h8, h9, h10, h11, h12, h13⟩ := cl14 X3.out; obtain ⟨zh0, zh1, zh2, zh3, zh4, zh5, zh6, zh7, zh8, zh9, zh10, zh11, zh12, zh13⟩ := fz14 X3.out)) | (go_at_call 15; go_loud ((with_reducible refine (HSH.out A0 c0 _ (Kd.C_below HM.out HB.out) HC0.out).mono ?_); rintro e w8 ⟨rfl, hb⟩; clear m0 zm0 h0 zh0 h1 zh1 h2 zh2 h3 zh3 h4 zh4 h5 zh5 h6 zh6 h7 zh7 h8 zh8 h9 zh9 h10 zh10 h11 zh11 h12 zh12 h13 zh13; replace HB := Aside0.mk (below_step HB.out hb); replace X2 := Aside0.mk (blk_below X2.out hb); replace X3 := Aside0.mk (blk_below X3.out hb); clear hb; have m0 := (blk_cell X2.out 0).trans rfl; have zm0 := blk_frozen X2.out 0; obtain ⟨h0, h1, h2, h3, h4, h5, h6, h7, h8, h9, h10, h11, h12, h13⟩ := cl14 X3.out; obtain ⟨zh0, zh1, zh2, zh3, zh4, zh5, zh6, zh7, zh8, zh9, zh10, zh11, zh12, zh13⟩ := fz14 X3.out)))
   go_ret
   exact ⟨rfl, HB.out⟩
  have hd : decide ((20 : Int) < (b.f1.f1.length : Int)) = false := decide_eq_false (by omega)
  have hd2 : decide (20 < b.f1.f1.length) = false := decide_eq_false h20
  have HL := Aside0.mk (show b.f1.f1.length ≤ 20 by omega)
  have HTL := Aside0.mk (Nat.le_trans (trimP_len b.f1) HL.out)
  clear h20
  go_enter Try.func10, Try.ntmps10
  go_upto_region 5 with (first | ((with_reducible refine gate_dst (N := 2) rfl ?_); refine box_event ?hg (N := 2) ?hd (cs := #[.slice A0 m.length c0]) (t := 24) ?hr ?_; (case hd => rfl); (case hg => rfl); (case hr => first | (go_simp; done) | (go_simp; rfl)); intro g2 hg w2 hbox hb; have HLX2 := Aside0.mk (show w.heap.size ≤ g2 by rw [hg]; exact Nat.le_refl _); have HB := Aside0.mk hb; have X2 := Aside0.mk hbox; clear hbox hb hg; have m0 := (blk_cell X2.out 0).trans rfl; have zm0 := blk_frozen X2.out 0) | ((with_reducible refine gate_dst (N := 3) rfl ?_); refine box_event ?hg (N := 3) ?hd (cs := #[.bool b.f0, .int .i64 b.f1.f0, .slice A4 b.f1.f1.length c4, .bool b.f1.f2, .bool b.f1.f3, .slice A5 b.f2.length c5, .int .i64 b.f3.f0, .int .i64 b.f3.f1, .int .i64 b.f3.f2, .int .i64 b.f3.f3, .slice A6 b.f3.f4.length c6, .int .i64 b.f3.f5, .int .i64 b.f3.f6, .int .i64 b.f3.f7]) (t := 41) ?hr ?_; (case hd => rfl); (case hg => rfl); (case hr => first | (go_simp; done) | (go_simp; rfl)); intro g3 hg w3 hbox hb; have HLX3 := Aside0.mk (show w.heap.size ≤ g3 by rw [hg]; exact HB.out.size); replace HB := Aside0.mk (below_step HB.out hb); replace X2 := Aside0.mk (blk_below X2.out hb); have X3 := Aside0.mk hbox; clear hbox hb hg; obtain ⟨h0, h1, h2, h3, h4, h5, h6, h7, h8, h9, h10, h11, h12, h13⟩ := cl14 X3.out; obtain ⟨zh0, zh1, zh2, zh3, zh4, zh5, zh6, zh7, zh8, zh9, zh10, zh11, zh12, zh13⟩ := fz14 X3.out; clear m0 zm0; have m0 := (blk_cell X2.out 0).trans rfl; have zm0 := blk_frozen X2.out 0) | (go_at_call 40; go_loud ((with_reducible refine (awake15_c _).mono ?_); rintro e w8 ⟨rfl, hb⟩; clear m0 zm0 h0 zh0 h1 zh1 h2 zh2 h3 zh3 h4 zh4 h5 zh5 h6 zh6 h7 zh7 h8 zh8 h9 zh9 h10 zh10 h11 zh11 h12 zh12 h13 zh13; replace HB := Aside0.mk (below_step HB.out hb); replace X2 := Aside0.mk (blk_below X2.out hb); replace X3 := Aside0.mk (blk_below X3.out hb); clear hb; have m0 := (blk_cell X2.out 0).trans rfl; have zm0 := blk_frozen X2.out 0; obtain ⟨h0, h1, h2, h3, h4, h5, h6, h7, h8, h9, h10, h11, h12, h13⟩ := cl14 X3.out; obtain ⟨zh0, zh1, zh2, zh3, zh4, zh5, zh6, zh7, zh8, zh9, zh10, zh11, zh12, zh13⟩ := fz14 X3.out)) | (go_at_call 15; go_loud ((with_reducible refine (HSH.out A0 c0 _ (Kd.C_below HM.out HB.out) HC0.out).mono ?_); rintro e w8 ⟨rfl, hb⟩; clear m0 zm0 h0 zh0 h1 zh1 h2 zh2 h3 zh3 h4 zh4 h5 zh5 h6 zh6 h7 zh7 h8 zh8 h9 zh9 h10 zh10 h11 zh11 h12 zh12 h13 zh13; replace HB := Aside0.mk (below_step HB.out hb); replace X2 := Aside0.mk (blk_below X2.out hb); replace X3 := Aside0.mk (blk_below X3.out hb); clear hb; have m0 := (blk_cell X2.out 0).trans rfl; have zm0 := blk_frozen X2.out 0; obtain ⟨h0, h1, h2, h3, h4, h5, h6, h7, h8, h9, h10, h11, h12, h13⟩ := cl14 X3.out; obtain ⟨zh0, zh1, zh2, zh3, zh4, zh5, zh6, zh7, zh8, zh9, zh10, zh11, zh12, zh13⟩ := fz14 X3.out)))
  go_cut [5] (fun v5 wc => ∃ (g5 : Nat) (Bc : Option Addr) (cc : Nat), v5 = .pointer (some ⟨g5, 0, none⟩) ∧ Aside0 (Below w.heap.size w wc) ∧ Aside0 (wc.heap[g2]? = some (.cells #[.slice A0 m.length c0] 24 (0, 0))) ∧ Aside0 (wc.heap[g3]? = some (.cells #[.bool b.f0, .int .i64 b.f1.f0, .slice A4 b.f1.f1.length c4, .bool b.f1.f2, .bool b.f1.f3, .slice A5 b.f2.length c5, .int .i64 b.f3.f0, .int .i64 b.f3.f1, .int .i64 b.f3.f2, .int .i64 b.f3.f3, .slice A6 b.f3.f4.length c6, .int .i64 b.f3.f5, .int .i64 b.f3.f6, .int .i64 b.f3.f7] 41 (0, 0))) ∧ Aside0 (wc.heap[g5]? = some (.cells #[.slice Bc m.length cc] 24 (0, 0))) ∧ Aside0 (Kd.C k27 wc Bc m.length m))
  case first =>
   go_wp2_with (go_at_call 24; go_loud ((with_reducible refine (copy_c m A0 c0 _ (Kd.C_below HM.out HB.out) HC0.out HN.out).mono ?_); rintro e w6 ⟨⟨v6, rfl, hs⟩, hb⟩; obtain ⟨Bc, cc, rfl, hl, hC⟩ := SM_reads hs; have HCN := Aside0.mk hC; have HB6 := Aside0.mk hb; clear hs hl hC hb))
   go_meet
   exact ⟨_, Bc, cc, rfl, ⟨below_alloc (HB.out.trans (HB6.out.mono HB.out.size)) _⟩, ⟨blk_alloc (blk_below X2.out HB6.out) _⟩, ⟨blk_alloc (blk_below X3.out HB6.out) _⟩, ⟨blk_new _ _⟩, ⟨Kd.C_below HCN.out (below_alloc (Below.refl _ _) _)⟩⟩
  case rest =>
   clear m0 zm0 h0 zh0 h1 zh1 h2 zh2 h3 zh3 h4 zh4 h5 zh5 h6 zh6 h7 zh7 h8 zh8 h9 zh9 h10 zh10 h11 zh11 h12 zh12 h13 zh13
   clear hd hd2 HB X2 X3
   obtain ⟨g5, Bc, cc, rfl, HB, X2, X3, X5, HCC⟩ := hcut
   have m0 := (blk_cell X2.out 0).trans rfl
   have zm0 := blk_frozen X2.out 0
   obtain ⟨h0, h1, h2, h3, h4, h5, h6, h7, h8, h9, h10, h11, h12, h13⟩ := cl14 X3.out
   obtain ⟨zh0, zh1, zh2, zh3, zh4, zh5, zh6, zh7, zh8, zh9, zh10, zh11, zh12, zh13⟩ := fz14 X3.out
   have n0 := (blk_cell X5.out 0).trans rfl
   have zn0 := blk_frozen X5.out 0
   go_upto_region 6 with (fail)
   go_cut [6, 7] (fun v6 v7 wc => ∃ (g6 : Nat) (Bn : Option Addr) (cn : Nat), v6 = .pointer (some ⟨g6, 0, none⟩) ∧ v7 = .int .i64 (padsE m) ∧ Aside0 (Below w.heap.size w wc) ∧ Aside0 (wc.heap[g2]? = some (.cells #[.slice A0 m.length c0] 24 (0, 0))) ∧ Aside0 (wc.heap[g3]? = some (.cells #[.bool b.f0, .int .i64 b.f1.f0, .slice A4 b.f1.f1.length c4, .bool b.f1.f2, .bool b.f1.f3, .slice A5 b.f2.length c5, .int .i64 b.f3.f0, .int .i64 b.f3.f1, .int .i64 b.f3.f2, .int .i64 b.f3.f3, .slice A6 b.f3.f4.length c6, .int .i64 b.f3.f5, .int .i64 b.f3.f6, .int .i64 b.f3.f7] 41 (0, 0))) ∧ Aside0 (wc.heap[g5]? = some (.cells #[.slice Bc m.length cc] 24 (0, 0))) ∧ Aside0 (Kd.C k27 wc Bc m.length m) ∧ Aside0 (wc.heap[g6]? = some (.cells #[.slice Bn (padsM m).length cn] 24 (0, 0))) ∧ Aside0 (Kd.C k27 wc Bn (padsM m).length (padsM m)))
   case first =>
    go_wp2_with (go_at_call 41; go_loud ((with_reducible refine (pmod_c m A0 c0 _ (Kd.C_below HM.out HB.out) HC0.out HN.out HBND.out).mono ?_); rintro e w6 ⟨⟨v6, rfl, hs⟩, hb⟩; obtain ⟨Bn, cn, rfl, hl, hC⟩ := SM_reads hs; have HCN := Aside0.mk hC; have HB6 := Aside0.mk hb; clear hs hl hC hb))
    go_meet
    exact ⟨_, Bn, cn, rfl, rfl, ⟨below_alloc (HB.out.trans (HB6.out.mono HB.out.size)) _⟩, ⟨blk_alloc (blk_below X2.out HB6.out) _⟩, ⟨blk_alloc (blk_below X3.out HB6.out) _⟩, ⟨blk_alloc (blk_below X5.out HB6.out) _⟩, ⟨Kd.C_alloc (Kd.C_below HCC.out HB6.out) _⟩, ⟨blk_new _ _⟩, ⟨Kd.C_below HCN.out (below_alloc (Below.refl _ _) _)⟩⟩
   case rest =>
    clear m0 zm0 h0 zh0 h1 zh1 h2 zh2 h3 zh3 h4 zh4 h5 zh5 h6 zh6 h7 zh7 h8 zh8 h9 zh9 h10 zh10 h11 zh11 h12 zh12 h13 zh13
    clear n0 zn0
    clear HB X2 X3 X5 HCC
    obtain ⟨g6, Bn, cn, rfl, rfl, HB, X2, X3, X5, HCC, X6, HCN⟩ := hcut
    go_upto_region 7 with (fail)
    go_cut [47] (fun v47 wd => v47 = .bool false ∧ Aside0 (Below w.heap.size w wd) ∧ Aside0 (wd.heap[g2]? = some (.cells #[.slice A0 m.length c0] 24 (0, 0))) ∧ Aside0 (wd.heap[g3]? = some (.cells #[.bool b.f0, .int .i64 b.f1.f0, .slice A4 b.f1.f1.length c4, .bool b.f1.f2, .bool b.f1.f3, .slice A5 b.f2.length c5, .int .i64 b.f3.f0, .int .i64 b.f3.f1, .int .i64 b.f3.f2, .int .i64 b.f3.f3, .slice A6 b.f3.f4.length c6, .int .i64 b.f3.f5, .int .i64 b.f3.f6, .int .i64 b.f3.f7] 41 (0, 0))) ∧ Aside0 (wd.heap[g6]? = some (.cells #[.slice Bn (padsM m).length cn] 24 (0, 0))) ∧ Aside0 (Kd.C k27 wd Bn (padsM m).length (padsM m)))
    case first =>
     go_wp2
     refine start_ (S := (fun W : World => Below wc.heap.size wc W)) (ds := []) #[bF,bF,bF,bF,bF,bF,bF,bF,bF,bF,bF,bF,bF,bF,bF,bF,bF,bF,bF,bF,bF] (by kernel_rfl) (by rfl) (by rfl) (below_drew (Below.refl _ _)) (fun hS => ?_)
     refine take_ (i := 0) (N := some 27) (v := .agg #[.bool b.f0, .int .i64 b.f1.f0, .slice A4 b.f1.f1.length c4, .bool b.f1.f2, .bool b.f1.f3, .slice A5 b.f2.length c5, .int .i64 b.f3.f0, .int .i64 b.f3.f1, .int .i64 b.f3.f2, .int .i64 b.f3.f3, .slice A6 b.f3.f4.length c6, .int .i64 b.f3.f5, .int .i64 b.f3.f6, .int .i64 b.f3.f7]) (a' := ?axra1) #[bT,bF,bF,bF,bF,bF,bF,bF,bF,bF,bF,bF,bF,bF,bF,bF,bF,bF,bF,bF,bF] rfl rfl (by kernel_rfl) (fun _ _ _ h => h) (Or.inl ⟨by rfl, ?yyra1⟩) hS ?hara1 ?hhra1
     case yyra1 => intro W hW; have m0 := (blk_cell (blk_below X2.out hW) 0).trans rfl; have n0 := (blk_cell (blk_below X5.out hW) 0).trans rfl; obtain ⟨h0, h1, h2, h3, h4, h5, h6, h7, h8, h9, h10, h11, h12, h13⟩ := cl14 (blk_below X3.out hW); go_simp; done
     case hara1 => try simp only [Act.put, sA_, sZ_, sS_]; exact rfl
     refine take_ (i := 2) (N := some 29) (v := .agg #[.bool b.f0, .int .i64 b.f1.f0, .slice A4 b.f1.f1.length c4, .bool b.f1.f2, .bool b.f1.f3, .slice A5 b.f2.length c5, .int .i64 b.f3.f0, .int .i64 b.f3.f1, .int .i64 b.f3.f2, .int .i64 b.f3.f3, .slice A6 b.f3.f4.length c6, .int .i64 b.f3.f5, .int .i64 b.f3.f6, .int .i64 b.f3.f7]) (a' := ?axra2) #[bT,bF,bT,bF,bF,bF,bF,bF,bF,bF,bF,bF,bF,bF,bF,bF,bF,bF,bF,bF,bF] rfl rfl (by kernel_rfl) (fun _ _ _ h => h) (Or.inl ⟨by rfl, ?yyra2⟩) hS ?hara2 ?hhra2
     case yyra2 => intro W hW; have m0 := (blk_cell (blk_below X2.out hW) 0).trans rfl; have n0 := (blk_cell (blk_below X5.out hW) 0).trans rfl; obtain ⟨h0, h1, h2, h3, h4, h5, h6, h7, h8, h9, h10, h11, h12, h13⟩ := cl14 (blk_below X3.out hW); go_simp; done
     case hara2 => try simp only [Act.put, sA_, sZ_, sS_]; exact rfl
     refine one_ (i := 1) (N := some 28) #[bT,bT,bT,bF,bF,bF,bF,bF,bF,bF,bF,bF,bF,bF,bF,bF,bF,bF,bF,bF,bF] rfl rfl (by kernel_rfl) (by decide) (fun K hK => ?_)
     refine goes_ Try.func42 (by kernel_rfl) rfl #[.agg #[.bool b.f0, .int .i64 b.f1.f0, .slice A4 b.f1.f1.length c4, .bool b.f1.f2, .bool b.f1.f3, .slice A5 b.f2.length c5, .int .i64 b.f3.f0, .int .i64 b.f3.f1, .int .i64 b.f3.f2, .int .i64 b.f3.f3, .slice A6 b.f3.f4.length c6, .int .i64 b.f3.f5, .int .i64 b.f3.f6, .int .i64 b.f3.f7]] (by rfl) rfl rfl (by simp only [List.map_toArray, List.map_cons, List.map_nil]; rfl) ?_
     refine (noth_c b A4 c4 A5 c5 A6 c6 _ (Kd.C_below H4.out (HB.out.trans (hS.mono HB.out.size))) HK.out.1 (Kd.C_below H5.out (HB.out.trans (hS.mono HB.out.size))) HK.out.2.1 (Kd.C_below H6.out (HB.out.trans (hS.mono HB.out.size))) HK.out.2.2).mono ?_
     rintro e w7 ⟨rfl, hb⟩
     refine ⟨_, rfl, ?_⟩
     have hS' := hS.trans (hb.mono hS.size)
     clear hb
     refine hK _ _ hS' (fun hS => ?_)
     clear hK K
     try simp only [Act.put, sA_, sZ_, sS_]
     refine one_ (i := 3) (N := some 30) #[bT,bT,bT,bT,bF,bF,bF,bF,bF,bF,bF,bF,bF,bF,bF,bF,bF,bF,bF,bF,bF] rfl rfl (by kernel_rfl) (by decide) (fun K hK => ?_)
     refine goes_ Try.func43 (by kernel_rfl) rfl #[.agg #[.bool b.f0, .int .i64 b.f1.f0, .slice A4 b.f1.f1.length c4, .bool b.f1.f2, .bool b.f1.f3, .slice A5 b.f2.length c5, .int .i64 b.f3.f0, .int .i64 b.f3.f1, .int .i64 b.f3.f2, .int .i64 b.f3.f3, .slice A6 b.f3.f4.length c6, .int .i64 b.f3.f5, .int .i64 b.f3.f6, .int .i64 b.f3.f7]] (by rfl) rfl rfl (by simp only [List.map_toArray, List.map_cons, List.map_nil]; rfl) ?_
     refine (noth15_c b A4 c4 A5 c5 A6 c6 _ (Kd.C_below H4.out (HB.out.trans (hS.mono HB.out.size))) HK.out.1 (Kd.C_below H5.out (HB.out.trans (hS.mono HB.out.size))) HK.out.2.1 (Kd.C_below H6.out (HB.out.trans (hS.mono HB.out.size))) HK.out.2.2).mono ?_
     rintro e w7 ⟨rfl, hb⟩
     refine ⟨_, rfl, ?_⟩
     have hS' := hS.trans (hb.mono hS.size)
     clear hb
     refine hK _ _ hS' (fun hS => ?_)
     clear hK K
     try simp only [Act.put, sA_, sZ_, sS_]
     skip
     refine take_ (i := 4) (N := some 31) (v := .bool false) (a' := ?axra3) #[bT,bT,bT,bT,bT,bF,bF,bF,bF,bF,bF,bF,bF,bF,bF,bF,bF,bF,bF,bF,bF] rfl rfl (by kernel_rfl) (fun _ _ _ h => h) (Or.inl ⟨by rfl, ?yyra3⟩) hS ?hara3 ?hhra3
     case yyra3 => intro W hW; have m0 := (blk_cell (blk_below X2.out hW) 0).trans rfl; have n0 := (blk_cell (blk_below X5.out hW) 0).trans rfl; obtain ⟨h0, h1, h2, h3, h4, h5, h6, h7, h8, h9, h10, h11, h12, h13⟩ := cl14 (blk_below X3.out hW); go_simp; done
     case hara3 => try simp only [Act.put, sA_, sZ_, sS_]; exact rfl
     refine take_ (i := 5) (N := some 32) (v := .bool false) (a' := ?axra4) #[bT,bT,bT,bT,bT,bT,bF,bF,bF,bF,bF,bF,bF,bF,bF,bF,bF,bF,bF,bF,bF] rfl rfl (by kernel_rfl) (fun _ _ _ h => h) (Or.inl ⟨by rfl, ?yyra4⟩) hS ?hara4 ?hhra4
     case yyra4 => intro W hW; have m0 := (blk_cell (blk_below X2.out hW) 0).trans rfl; have n0 := (blk_cell (blk_below X5.out hW) 0).trans rfl; obtain ⟨h0, h1, h2, h3, h4, h5, h6, h7, h8, h9, h10, h11, h12, h13⟩ := cl14 (blk_below X3.out hW); go_simp; done
     case hara4 => try simp only [Act.put, sA_, sZ_, sS_]; exact rfl
     refine pure_ (i := 6) (N := some 33) (v := .pointer (some ⟨g3, 1, none⟩)) (a' := ?axra5) #[bT,bT,bT,bT,bT,bT,bT,bF,bF,bF,bF,bF,bF,bF,bF,bF,bF,bF,bF,bF,bF] rfl rfl (by kernel_rfl) (fun _ _ _ h => h) (Or.inl ⟨by rfl, ?yyra5⟩) ?hara5 ?hhra5
     case yyra5 => intro W; go_simp; done
     case hara5 => try simp only [Act.put, sA_, sZ_, sS_]; exact rfl
     refine take_ (i := 7) (N := some 34) (v := .agg #[.int .i64 b.f1.f0, .slice A4 b.f1.f1.length c4, .bool b.f1.f2, .bool b.f1.f3]) (a' := ?axra6) #[bT,bT,bT,bT,bT,bT,bT,bT,bF,bF,bF,bF,bF,bF,bF,bF,bF,bF,bF,bF,bF] rfl rfl (by kernel_rfl) (fun _ _ _ h => h) (Or.inl ⟨by rfl, ?yyra6⟩) hS ?hara6 ?hhra6
     case yyra6 => intro W hW; have m0 := (blk_cell (blk_below X2.out hW) 0).trans rfl; have n0 := (blk_cell (blk_below X5.out hW) 0).trans rfl; obtain ⟨h0, h1, h2, h3, h4, h5, h6, h7, h8, h9, h10, h11, h12, h13⟩ := cl14 (blk_below X3.out hW); go_simp; done
     case hara6 => try simp only [Act.put, sA_, sZ_, sS_]; exact rfl
     refine pure_ (i := 9) (N := some 36) (v := .pointer (some ⟨g3, 1, none⟩)) (a' := ?axra7) #[bT,bT,bT,bT,bT,bT,bT,bT,bF,bT,bF,bF,bF,bF,bF,bF,bF,bF,bF,bF,bF] rfl rfl (by kernel_rfl) (fun _ _ _ h => h) (Or.inl ⟨by rfl, ?yyra7⟩) ?hara7 ?hhra7
     case yyra7 => intro W; go_simp; done
     case hara7 => try simp only [Act.put, sA_, sZ_, sS_]; exact rfl
     refine take_ (i := 10) (N := some 37) (v := .agg #[.int .i64 b.f1.f0, .slice A4 b.f1.f1.length c4, .bool b.f1.f2, .bool b.f1.f3]) (a' := ?axra8) #[bT,bT,bT,bT,bT,bT,bT,bT,bF,bT,bT,bF,bF,bF,bF,bF,bF,bF,bF,bF,bF] rfl rfl (by kernel_rfl) (fun _ _ _ h => h) (Or.inl ⟨by rfl, ?yyra8⟩) hS ?hara8 ?hhra8
     case yyra8 => intro W hW; have m0 := (blk_cell (blk_below X2.out hW) 0).trans rfl; have n0 := (blk_cell (blk_below X5.out hW) 0).trans rfl; obtain ⟨h0, h1, h2, h3, h4, h5, h6, h7, h8, h9, h10, h11, h12, h13⟩ := cl14 (blk_below X3.out hW); go_simp; done
     case hara8 => try simp only [Act.put, sA_, sZ_, sS_]; exact rfl
     refine one_ (i := 8) (N := some 35) #[bT,bT,bT,bT,bT,bT,bT,bT,bT,bT,bT,bF,bF,bF,bF,bF,bF,bF,bF,bF,bF] rfl rfl (by kernel_rfl) (by decide) (fun K hK => ?_)
     refine goes_ Try.func45 (by kernel_rfl) rfl #[.agg #[.int .i64 b.f1.f0, .slice A4 b.f1.f1.length c4, .bool b.f1.f2, .bool b.f1.f3]] (by rfl) rfl rfl (by simp only [List.map_toArray, List.map_cons, List.map_nil]; rfl) ?_
     refine (trim_c b.f1 A4 c4 _ (Kd.C_below H4.out (HB.out.trans (hS.mono HB.out.size))) HK.out.1 (by have := HL.out; omega)).mono ?_
     rintro e w6 ⟨⟨v6, rfl, hr⟩, hb⟩
     refine ⟨_, rfl, ?_⟩
     obtain ⟨D4, k4, rfl, hlk, hCk⟩ := Kd.R_reads hr
     have HT1 := Aside0.mk (And.intro hlk hCk)
     have HTB := Aside0.mk (Below.refl w6.heap.size w6)
     have hS' := hS.trans (hb.mono hS.size)
     clear hb hr hlk hCk
     refine hK _ _ hS' (fun hS => ?_)
     clear hK K
     try simp only [Act.put, sA_, sZ_, sS_]
     refine one_ (i := 11) (N := some 38) #[bT,bT,bT,bT,bT,bT,bT,bT,bT,bT,bT,bT,bF,bF,bF,bF,bF,bF,bF,bF,bF] rfl rfl (by kernel_rfl) (by decide) (fun K hK => ?_)
     refine goes_ Try.func46 (by kernel_rfl) rfl #[.agg #[.int .i64 b.f1.f0, .slice A4 b.f1.f1.length c4, .bool b.f1.f2, .bool b.f1.f3]] (by rfl) rfl rfl (by simp only [List.map_toArray, List.map_cons, List.map_nil]; rfl) ?_
     refine (trim15_c b.f1 A4 c4 _ HK.out.1).mono ?_
     rintro e w7 ⟨⟨D5, k5, rfl, hlk, hD⟩, hb⟩
     refine ⟨_, rfl, ?_⟩
     have HT2 := Aside0.mk (And.intro hlk hD)
     have HTB2 := Aside0.mk hb
     have hS' := hS.trans (hb.mono hS.size)
     clear hb hlk hD
     refine hK _ _ hS' (fun hS => ?_)
     clear hK K
     try simp only [Act.put, sA_, sZ_, sS_]
     refine one_ (i := 12) (N := some 39) #[bT,bT,bT,bT,bT,bT,bT,bT,bT,bT,bT,bT,bT,bF,bF,bF,bF,bF,bF,bF,bF] rfl rfl (by kernel_rfl) (by decide) (fun K hK => ?_)
     refine goes_ Try.func44 (by kernel_rfl) rfl #[.agg #[.int .i64 (trimP b.f1).f0, .slice D4 (trimP b.f1).f1.length k4, .bool (trimP b.f1).f2, .bool (trimP b.f1).f3], .agg #[.int .i64 (trimP b.f1).f0, .slice D5 (trimP b.f1).f1.length k5, .bool (trimP b.f1).f2, .bool (trimP b.f1).f3]] (by rfl) rfl rfl (by simp only [List.map_toArray, List.map_cons, List.map_nil]; rfl) ?_
     refine (rpad_same (trimP b.f1) D4 k4 D5 k5 _ (Kd.C_below HT1.out.2 HTB2.out) HT1.out.1 (Kd.F_now (trim15_F (Kd.C_F (Kd.heap_int _) (Kd.C_below H4.out (HB.out.trans (hS.mono HB.out.size)))) HT2.out.2)) HT2.out.1 (by have := HTL.out; omega)).mono ?_
     rintro e w7 ⟨rfl, hb⟩
     refine ⟨_, rfl, ?_⟩
     have hS' := hS.trans (hb.mono hS.size)
     clear hb
     refine hK _ _ hS' (fun hS => ?_)
     clear hK K
     try simp only [Act.put, sA_, sZ_, sS_]
     refine take_ (i := 13) (N := some 40) (v := .bool false) (a' := ?axra9) #[bT,bT,bT,bT,bT,bT,bT,bT,bT,bT,bT,bT,bT,bT,bF,bF,bF,bF,bF,bF,bF] rfl rfl (by kernel_rfl) (fun _ _ _ h => h) (Or.inl ⟨by rfl, ?yyra9⟩) hS ?hara9 ?hhra9
     case yyra9 => intro W hW; have m0 := (blk_cell (blk_below X2.out hW) 0).trans rfl; have n0 := (blk_cell (blk_below X5.out hW) 0).trans rfl; obtain ⟨h0, h1, h2, h3, h4, h5, h6, h7, h8, h9, h10, h11, h12, h13⟩ := cl14 (blk_below X3.out hW); go_simp; done
     case hara9 => try simp only [Act.put, sA_, sZ_, sS_]; exact rfl
     refine take_ (i := 14) (N := some 41) (v := .bool false) (a' := ?axra10) #[bT,bT,bT,bT,bT,bT,bT,bT,bT,bT,bT,bT,bT,bT,bT,bF,bF,bF,bF,bF,bF] rfl rfl (by kernel_rfl) (fun _ _ _ h => h) (Or.inl ⟨by rfl, ?yyra10⟩) hS ?hara10 ?hhra10
     case yyra10 => intro W hW; have m0 := (blk_cell (blk_below X2.out hW) 0).trans rfl; have n0 := (blk_cell (blk_below X5.out hW) 0).trans rfl; obtain ⟨h0, h1, h2, h3, h4, h5, h6, h7, h8, h9, h10, h11, h12, h13⟩ := cl14 (blk_below X3.out hW); go_simp; done
     case hara10 => try simp only [Act.put, sA_, sZ_, sS_]; exact rfl
     refine take_ (i := 15) (N := some 42) (v := .bool false) (a' := ?axra11) #[bT,bT,bT,bT,bT,bT,bT,bT,bT,bT,bT,bT,bT,bT,bT,bT,bF,bF,bF,bF,bF] rfl rfl (by kernel_rfl) (fun _ _ _ h => h) (Or.inl ⟨by rfl, ?yyra11⟩) hS ?hara11 ?hhra11
     case yyra11 => intro W hW; have m0 := (blk_cell (blk_below X2.out hW) 0).trans rfl; have n0 := (blk_cell (blk_below X5.out hW) 0).trans rfl; obtain ⟨h0, h1, h2, h3, h4, h5, h6, h7, h8, h9, h10, h11, h12, h13⟩ := cl14 (blk_below X3.out hW); go_simp; done
     case hara11 => try simp only [Act.put, sA_, sZ_, sS_]; exact rfl
     refine take_ (i := 16) (N := some 43) (v := .agg #[.slice Bc m.length cc]) (a' := ?axra12) #[bT,bT,bT,bT,bT,bT,bT,bT,bT,bT,bT,bT,bT,bT,bT,bT,bT,bF,bF,bF,bF] rfl rfl (by kernel_rfl) (fun _ _ _ h => h) (Or.inl ⟨by rfl, ?yyra12⟩) hS ?hara12 ?hhra12
     case yyra12 => intro W hW; have m0 := (blk_cell (blk_below X2.out hW) 0).trans rfl; have n0 := (blk_cell (blk_below X5.out hW) 0).trans rfl; obtain ⟨h0, h1, h2, h3, h4, h5, h6, h7, h8, h9, h10, h11, h12, h13⟩ := cl14 (blk_below X3.out hW); go_simp; done
     case hara12 => try simp only [Act.put, sA_, sZ_, sS_]; exact rfl
     refine take_ (i := 17) (N := some 44) (v := .agg #[.slice A0 m.length c0]) (a' := ?axra13) #[bT,bT,bT,bT,bT,bT,bT,bT,bT,bT,bT,bT,bT,bT,bT,bT,bT,bT,bF,bF,bF] rfl rfl (by kernel_rfl) (fun _ _ _ h => h) (Or.inl ⟨by rfl, ?yyra13⟩) hS ?hara13 ?hhra13
     case yyra13 => intro W hW; have m0 := (blk_cell (blk_below X2.out hW) 0).trans rfl; have n0 := (blk_cell (blk_below X5.out hW) 0).trans rfl; obtain ⟨h0, h1, h2, h3, h4, h5, h6, h7, h8, h9, h10, h11, h12, h13⟩ := cl14 (blk_below X3.out hW); go_simp; done
     case hara13 => try simp only [Act.put, sA_, sZ_, sS_]; exact rfl
     refine one_ (i := 18) (N := some 45) #[bT,bT,bT,bT,bT,bT,bT,bT,bT,bT,bT,bT,bT,bT,bT,bT,bT,bT,bT,bF,bF] rfl rfl (by kernel_rfl) (by decide) (fun K hK => ?_)
     refine goes_ Try.func26 (by kernel_rfl) rfl #[.agg #[.slice Bc m.length cc], .agg #[.slice A0 m.length c0]] (by rfl) rfl rfl (by simp only [List.map_toArray, List.map_cons, List.map_nil]; rfl) ?_
     refine (rsame_same m Bc cc A0 c0 _ (Kd.C_below HCC.out hS) (Kd.C_below HM.out (HB.out.trans (hS.mono HB.out.size))) HBND.out).mono ?_
     rintro e w7 ⟨rfl, hb⟩
     refine ⟨_, rfl, ?_⟩
     have hS' := hS.trans (hb.mono hS.size)
     clear hb
     refine hK _ _ hS' (fun hS => ?_)
     clear hK K
     try simp only [Act.put, sA_, sZ_, sS_]
     refine take_ (i := 19) (N := some 46) (v := .bool false) (a' := ?axra14) #[bT,bT,bT,bT,bT,bT,bT,bT,bT,bT,bT,bT,bT,bT,bT,bT,bT,bT,bT,bT,bF] rfl rfl (by kernel_rfl) (fun _ _ _ h => h) (Or.inl ⟨by rfl, ?yyra14⟩) hS ?hara14 ?hhra14
     case yyra14 => intro W hW; have m0 := (blk_cell (blk_below X2.out hW) 0).trans rfl; have n0 := (blk_cell (blk_below X5.out hW) 0).trans rfl; obtain ⟨h0, h1, h2, h3, h4, h5, h6, h7, h8, h9, h10, h11, h12, h13⟩ := cl14 (blk_below X3.out hW); go_simp; done
     case hara14 => try simp only [Act.put, sA_, sZ_, sS_]; exact rfl
     refine take_ (i := 20) (N := some 47) (v := .bool false) (a' := ?axra15) #[bT,bT,bT,bT,bT,bT,bT,bT,bT,bT,bT,bT,bT,bT,bT,bT,bT,bT,bT,bT,bT] rfl rfl (by kernel_rfl) (fun _ _ _ h => h) (Or.inl ⟨by rfl, ?yyra15⟩) hS ?hara15 ?hhra15
     case yyra15 => intro W hW; have m0 := (blk_cell (blk_below X2.out hW) 0).trans rfl; have n0 := (blk_cell (blk_below X5.out hW) 0).trans rfl; obtain ⟨h0, h1, h2, h3, h4, h5, h6, h7, h8, h9, h10, h11, h12, h13⟩ := cl14 (blk_below X3.out hW); go_simp; done
     case hara15 => try simp only [Act.put, sA_, sZ_, sS_]; exact rfl
     refine done_ (by kernel_rfl) ?_
     go_wp2
     go_meet
     exact ⟨rfl, ⟨(HB.out.trans (hS.mono HB.out.size))⟩, ⟨blk_below X2.out hS⟩, ⟨blk_below X3.out hS⟩, ⟨blk_below X6.out hS⟩, ⟨Kd.C_below HCN.out hS⟩⟩
    case rest =>
     clear HB X2 X3 X5 HCC X6 HCN
     obtain ⟨rfl, HB, X2, X3, X6, HCN⟩ := hcut
     have m0 := (blk_cell X2.out 0).trans rfl
     have zm0 := blk_frozen X2.out 0
     obtain ⟨h0, h1, h2, h3, h4, h5, h6, h7, h8, h9, h10, h11, h12, h13⟩ := cl14 X3.out
     obtain ⟨zh0, zh1, zh2, zh3, zh4, zh5, zh6, zh7, zh8, zh9, zh10, zh11, zh12, zh13⟩ := fz14 X3.out
     have r0 := (blk_cell X6.out 0).trans rfl
     have zr0 := blk_frozen X6.out 0
     cases hr : rightR m with
     | false =>
      have HRR := Aside0.mk hr
      have hpm : padsM m = m := by unfold padsM; rw [if_neg (by rw [hr]; simp)]
      have hpe : padsE m = 1 := by unfold padsE; rw [if_neg (by rw [hr]; simp)]
      clear hr
      rw [hpm] at X6 HCN
      rw [hpe]
      clear r0 zr0
      have r0 := (blk_cell X6.out 0).trans rfl
      have zr0 := blk_frozen X6.out 0
      clear hpm hpe
      go_wp2_with (first | (go_at_call 17; go_loud ((with_reducible refine (right_c m A0 c0 _ (Kd.C_below HM.out HB.out) HBND.out).mono ?_); rintro e w6 ⟨he, hb⟩; rw [HRR.out] at he; subst he; clear m0 zm0 h0 zh0 h1 zh1 h2 zh2 h3 zh3 h4 zh4 h5 zh5 h6 zh6 h7 zh7 h8 zh8 h9 zh9 h10 zh10 h11 zh11 h12 zh12 h13 zh13; clear r0 zr0; replace HB := Aside0.mk (below_step HB.out hb); replace X2 := Aside0.mk (blk_below X2.out hb); replace X3 := Aside0.mk (blk_below X3.out hb); replace X6 := Aside0.mk (blk_below X6.out hb); replace HCN := Aside0.mk (Kd.C_below HCN.out hb); clear hb; have m0 := (blk_cell X2.out 0).trans rfl; have zm0 := blk_frozen X2.out 0; obtain ⟨h0, h1, h2, h3, h4, h5, h6, h7, h8, h9, h10, h11, h12, h13⟩ := cl14 X3.out; obtain ⟨zh0, zh1, zh2, zh3, zh4, zh5, zh6, zh7, zh8, zh9, zh10, zh11, zh12, zh13⟩ := fz14 X3.out; have r0 := (blk_cell X6.out 0).trans rfl; have zr0 := blk_frozen X6.out 0)) | (go_at_call 26; go_loud ((with_reducible refine (rsame_c m Bn cn m A0 c0 _ HCN.out (Kd.C_below HM.out HB.out) HBND.out).mono ?_); rintro e w8 ⟨he, hb⟩; rw [eqL_refl funcE_refl] at he; subst he; have HB8 := Aside0.mk (HB.out.trans (hb.mono HB.out.size)); clear hb)))
      go_ret
      exact ⟨rfl, HB8.out⟩
     | true =>
      have HRR := Aside0.mk hr
      have hpm : padsM m = m.map padF := by unfold padsM; rw [if_pos hr]
      have hpe : padsE m = 0 := by unfold padsE; rw [if_pos hr]
      clear hr
      rw [hpm, List.length_map] at X6
      rw [hpm] at HCN
      rw [hpe]
      clear r0 zr0
      have r0 := (blk_cell X6.out 0).trans rfl
      have zr0 := blk_frozen X6.out 0
      clear hpm hpe
      go_upto_region 11 with (go_at_call 17; go_loud ((with_reducible refine (right_c m A0 c0 _ (Kd.C_below HM.out HB.out) HBND.out).mono ?_); rintro e w6 ⟨he, hb⟩; rw [HRR.out] at he; subst he; clear m0 zm0 h0 zh0 h1 zh1 h2 zh2 h3 zh3 h4 zh4 h5 zh5 h6 zh6 h7 zh7 h8 zh8 h9 zh9 h10 zh10 h11 zh11 h12 zh12 h13 zh13; clear r0 zr0; replace HB := Aside0.mk (below_step HB.out hb); replace X2 := Aside0.mk (blk_below X2.out hb); replace X3 := Aside0.mk (blk_below X3.out hb); replace X6 := Aside0.mk (blk_below X6.out hb); replace HCN := Aside0.mk (Kd.C_below HCN.out hb); clear hb; have m0 := (blk_cell X2.out 0).trans rfl; have zm0 := blk_frozen X2.out 0; obtain ⟨h0, h1, h2, h3, h4, h5, h6, h7, h8, h9, h10, h11, h12, h13⟩ := cl14 X3.out; obtain ⟨zh0, zh1, zh2, zh3, zh4, zh5, zh6, zh7, zh8, zh9, zh10, zh11, zh12, zh13⟩ := fz14 X3.out; have r0 := (blk_cell X6.out 0).trans rfl; have zr0 := blk_frozen X6.out 0))
      clear m0 zm0 h0 zh0 h1 zh1 h2 zh2 h3 zh3 h4 zh4 h5 zh5 h6 zh6 h7 zh7 h8 zh8 h9 zh9 h10 zh10 h11 zh11 h12 zh12 h13 zh13
      clear r0 zr0
      go_wp2
      refine start_ (S := (fun W : World => Below w6.heap.size w6 W)) (ds := []) #[bF,bF,bF,bF,bF,bF,bF,bF,bF] (by kernel_rfl) (by rfl) (by rfl) (below_drew (Below.refl _ _)) (fun hS => ?_)
      refine take_ (i := 0) (N := some 58) (v := .int .i64 0) (a' := ?axrb1) #[bT,bF,bF,bF,bF,bF,bF,bF,bF] rfl rfl (by kernel_rfl) (fun _ _ _ h => h) (Or.inl ⟨by rfl, ?yyrb1⟩) hS ?harb1 ?hhrb1
      case yyrb1 => intro W hW; have m0 := (blk_cell (blk_below X2.out hW) 0).trans rfl; have r0 := (blk_cell (blk_below X6.out hW) 0).trans rfl; go_simp; done
      case harb1 => try simp only [Act.put, sA_, sZ_, sS_]; exact rfl
      refine take_ (i := 1) (N := some 59) (v := .bool true) (a' := ?axrb2) #[bT,bT,bF,bF,bF,bF,bF,bF,bF] rfl rfl (by kernel_rfl) (fun _ _ _ h => h) (Or.inl ⟨by rfl, ?yyrb2⟩) hS ?harb2 ?hhrb2
      case yyrb2 => intro W hW; have m0 := (blk_cell (blk_below X2.out hW) 0).trans rfl; have r0 := (blk_cell (blk_below X6.out hW) 0).trans rfl; go_simp; done
      case harb2 => try simp only [Act.put, sA_, sZ_, sS_]; exact rfl
      refine take_ (i := 2) (N := some 60) (v := .bool true) (a' := ?axrb3) #[bT,bT,bT,bF,bF,bF,bF,bF,bF] rfl rfl (by kernel_rfl) (fun _ _ _ h => h) (Or.inl ⟨by rfl, ?yyrb3⟩) hS ?harb3 ?hhrb3
      case yyrb3 => intro W hW; have m0 := (blk_cell (blk_below X2.out hW) 0).trans rfl; have r0 := (blk_cell (blk_below X6.out hW) 0).trans rfl; go_simp; done
      case harb3 => try simp only [Act.put, sA_, sZ_, sS_]; exact rfl
      refine take_ (i := 3) (N := some 61) (v := .agg #[.slice Bn m.length cn]) (a' := ?axrb4) #[bT,bT,bT,bT,bF,bF,bF,bF,bF] rfl rfl (by kernel_rfl) (fun _ _ _ h => h) (Or.inl ⟨by rfl, ?yyrb4⟩) hS ?harb4 ?hhrb4
      case yyrb4 => intro W hW; have m0 := (blk_cell (blk_below X2.out hW) 0).trans rfl; have r0 := (blk_cell (blk_below X6.out hW) 0).trans rfl; go_simp; done
      case harb4 => try simp only [Act.put, sA_, sZ_, sS_]; exact rfl
      refine take_ (i := 4) (N := some 62) (v := .agg #[.slice A0 m.length c0]) (a' := ?axrb5) #[bT,bT,bT,bT,bT,bF,bF,bF,bF] rfl rfl (by kernel_rfl) (fun _ _ _ h => h) (Or.inl ⟨by rfl, ?yyrb5⟩) hS ?harb5 ?hhrb5
      case yyrb5 => intro W hW; have m0 := (blk_cell (blk_below X2.out hW) 0).trans rfl; have r0 := (blk_cell (blk_below X6.out hW) 0).trans rfl; go_simp; done
      case harb5 => try simp only [Act.put, sA_, sZ_, sS_]; exact rfl
      refine one_ (i := 5) (N := some 63) #[bT,bT,bT,bT,bT,bT,bF,bF,bF] rfl rfl (by kernel_rfl) (by decide) (fun K hK => ?_)
      refine goes_ Try.func47 (by kernel_rfl) rfl #[.agg #[.slice A0 m.length c0]] (by rfl) rfl rfl (by simp only [List.map_toArray, List.map_cons, List.map_nil]; rfl) ?_
      refine (rmod_c m A0 c0 _ (Kd.C_below HM.out (HB.out.trans (hS.mono HB.out.size))) HC0.out HN.out HRR.out).mono ?_
      rintro e w7 ⟨⟨Dm, km, rfl, hlm, hCm⟩, hb⟩
      refine ⟨_, rfl, ?_⟩
      have HDM := Aside0.mk hCm
      have HTB := Aside0.mk (Below.refl w7.heap.size w7)
      have hS' := hS.trans (hb.mono hS.size)
      clear hb hlm hCm
      refine hK _ _ hS' (fun hS => ?_)
      clear hK K
      try simp only [Act.put, sA_, sZ_, sS_]
      refine one_ (i := 6) (N := some 64) #[bT,bT,bT,bT,bT,bT,bT,bF,bF] rfl rfl (by kernel_rfl) (by decide) (fun K hK => ?_)
      refine goes_ Try.func26 (by kernel_rfl) rfl #[.agg #[.slice Bn m.length cn], .agg #[.slice Dm m.length km]] (by rfl) rfl rfl (by simp only [List.map_toArray, List.map_cons, List.map_nil]; rfl) ?_
      refine (same_pads m Bn cn Dm km _ (Kd.C_below HCN.out hS) HDM.out HBP.out).mono ?_
      rintro e w8 ⟨rfl, hb⟩
      refine ⟨_, rfl, ?_⟩
      have hS' := hS.trans (hb.mono hS.size)
      clear hb
      refine hK _ _ hS' (fun hS => ?_)
      clear hK K
      try simp only [Act.put, sA_, sZ_, sS_]
      refine take_ (i := 7) (N := some 65) (v := .bool true) (a' := ?axrb6) #[bT,bT,bT,bT,bT,bT,bT,bT,bF] rfl rfl (by kernel_rfl) (fun _ _ _ h => h) (Or.inl ⟨by rfl, ?yyrb6⟩) hS ?harb6 ?hhrb6
      case yyrb6 => intro W hW; have m0 := (blk_cell (blk_below X2.out hW) 0).trans rfl; have r0 := (blk_cell (blk_below X6.out hW) 0).trans rfl; go_simp; done
      case harb6 => try simp only [Act.put, sA_, sZ_, sS_]; exact rfl
      refine take_ (i := 8) (N := some 4) (v := .bool true) (a' := ?axrb7) #[bT,bT,bT,bT,bT,bT,bT,bT,bT] rfl rfl (by kernel_rfl) (fun _ _ _ h => h) (Or.inl ⟨by rfl, ?yyrb7⟩) hS ?harb7 ?hhrb7
      case yyrb7 => intro W hW; have m0 := (blk_cell (blk_below X2.out hW) 0).trans rfl; have r0 := (blk_cell (blk_below X6.out hW) 0).trans rfl; go_simp; done
      case harb7 => try simp only [Act.put, sA_, sZ_, sS_]; exact rfl
      refine done_ (by kernel_rfl) ?_
      go_wp2
      go_ret
      exact ⟨rfl, (HB.out.trans (hS.mono HB.out.size))⟩
end Go.Proofs.Ytbfialebaoeicaa.X
namespace Go.Proofs.Ytbfialebaoeicaa.X
open Go.RowKit Go.Proofs.YtbfialebaoeicaaW.PrintWords
set_option linter.all false
theorem law_pright.calls (A0 : Option Addr) (c0 : Nat) (m : List S27) (b : S41) (A4 : Option Addr) (c4 : Nat) (A5 : Option Addr) (c5 : Nat) (A6 : Option Addr) (c6 : Nat) (r : Bool) (w : World) (hm : Kd.C k27 w A0 m.length m) (hc0 : m.length ≤ c0)
  (h4 : Kd.C (Kd.int .u16) w A4 b.f1.f1.length b.f1.f1) (h5 : Kd.C k49 w A5 b.f2.length b.f2) (h6 : Kd.C (Kd.int .i64) w A6 b.f3.f4.length b.f3.f4) (k4 : b.f1.f1.length ≤ c4) (k5 : b.f2.length ≤ c5) (k6 : b.f3.f4.length ≤ c6) (h : True) :
  Calls Try.prog 10 #[.agg #[.slice A0 m.length c0], .agg #[.bool b.f0, .int .i64 b.f1.f0, .slice A4 b.f1.f1.length c4, .bool b.f1.f2, .bool b.f1.f3, .slice A5 b.f2.length c5, .int .i64 b.f3.f0, .int .i64 b.f3.f1, .int .i64 b.f3.f2, .int .i64 b.f3.f3, .slice A6 b.f3.f4.length c6, .int .i64 b.f3.f5, .int .i64 b.f3.f6, .int .i64 b.f3.f7]] w fun e w' => e = .returned (.bool true) ∧ Below w.heap.size w w' :=
 pright_c m A0 c0 b A4 c4 A5 c5 A6 c6 w hm hc0 h4 k4 h5 k5 h6 k6
end Go.Proofs.Ytbfialebaoeicaa.X
namespace Go.Proofs.Ytbfialebaoeicaa.Pure
open Go.Proofs.Ytbfialebaoeicaa.X
set_option linter.all false
theorem PadsRight (m : List S27) (b : S41) : ∃ _ : Unit, True := ⟨(), trivial⟩
end Go.Proofs.Ytbfialebaoeicaa.Pure
namespace Go.Proofs.Ytbfialebaoeicaa.padsRight
open Go.ChangeShapes Go.WideShapes Go.ChangeAt Go.RowKit Go.Proofs.Ytbfialebaoeicaa.X Go.Proofs.YtbfialebaoeicaaW.PrintWords
set_option linter.all false
theorem own : ownKnob Try.prog.godebug = none := by kernel_rfl
theorem laidOut : laidOutB Try.prog = true := by kernel_rfl
set_option maxRecDepth 100000 in
theorem lifted (os : Os) (started : os.Started) (H : Type) (enc : TypeId × Value → H) :
  ReturnsInHanded {} Try.checked os 10 .any (Rows.padsRightSpec.pre6 enc Try.prog Try.f10 Rows.padsRightRow.domain false) (Rows.padsRightSpec.post enc Try.prog Try.f10 false true false false) := by
 refine returnsInHanded_of_change_sized (C := Try.checked) own started (by kernel_rfl) Try.func10
  (ChangeSpec.witness6 (enc := enc) (C := Try.checked) false ⟨#[], #[.agg #[.slice none 0 0], .agg #[.bool false, .int .i64 0, .slice none 0 0, .bool false, .bool false, .slice none 0 0, .int .i64 0, .int .i64 0, .int .i64 0, .int .i64 0, .slice none 0 0, .int .i64 0, .int .i64 0, .int .i64 0]], []⟩ 8 (by kernel_rfl) (by kernel_rfl) (by kernel_rfl) (by kernel_rfl)) ?_
 intro W base args ds gs before hval0 hW hcnd hsz0 _
 have hval : ∀ (j : Nat) t v, Try.f10.params[j]? = some t → args[j]? = some v → Value.okWide Try.prog W .any base t v := hval0
 have hW' := hW
 obtain ⟨p, q, hA0, hV, rfl, hfz, hnd⟩ := hW
 have hA : DataW.TrodAll enc Try.prog W 0 (fun _ => true) true Try.f10.params.toList args.toList ds p := hA0
 rw [Try.params10] at hA hval
 obtain ⟨v0, vs0, d0, ds0, p0, q0, hargs, rfl, rfl, h0, r0⟩ := trodAll_cons hA
 obtain ⟨v1, vs1, d1, ds1, p1, q1, rfl, rfl, rfl, h1, r1⟩ := trodAll_cons r0
 obtain ⟨rfl, rfl, rfl⟩ := trodAll_nil r1
 obtain rfl : args = #[v0, v1] := by cases args; simp_all
 obtain ⟨rfl, rfl⟩ := trodVars_none hV
 have k0 := h0
 have lt0 : ∀ x ∈ p0, x.block < W.heap.size := by obtain ⟨m, hm⟩ := k0; exact DataW.trod_lt m _ _ _ hm
 obtain ⟨A_0, c_0, m_0, rfl, hC_0, hc_0⟩ := open_mod (hval 0 24 v0 rfl rfl) h0
 have k1 := h1
 have lt1 : ∀ x ∈ p1, x.block < W.heap.size := by obtain ⟨m, hm⟩ := k1; exact DataW.trod_lt m _ _ _ hm
 obtain ⟨b_1, A_1, c_1, A2_1, c2_1, A3_1, c3_1, rfl, h4_1, h5_1, h6_1, k4_1, k5_1, k6_1⟩ := open_block (hval 1 41 v1 rfl rfl) h1
 clear hA0 hval0 hsz0
 obtain ⟨k, hk⟩ := Pure.PadsRight m_0 b_1
 refine (law_pright.calls  A_0 c_0 m_0 b_1 A_1 c_1 A2_1 c2_1 A3_1 c3_1 true W hC_0 hc_0 h4_1 h5_1 h6_1 k4_1 k5_1 k6_1 hk).mono fun e W' ⟨he, bel⟩ => ?_
 subst he
 exact ⟨_, rfl, _, _, _, [], _, [], hW', trodAll_mk1 (shut_bool Try.underlying4 _), (trodAll_cons_mk (Below.trod laidOut (by kernel_rfl) (of_decide_eq_true (by kernel_rfl)) k0 bel lt0) (trodAll_cons_mk (Below.trod laidOut (by kernel_rfl) (of_decide_eq_true (by kernel_rfl)) k1 bel lt1) trodAll_mk0)), rfl, bel.frame _, fun h => by cases h⟩
theorem over : Rows.padsRightRow.holds Try.pinned (OpenSpec.ofChange Rows.padsRightSpec) :=
 OpenClaim.holds_of_wide 10 Try.f10 rfl rfl rfl rfl rfl rfl rfl ⟨rfl, rfl, rfl, rfl, rfl⟩ rfl rfl rfl rfl rfl (by kernel_rfl) Try.func10 (by kernel_rfl)
  (of_decide_eq_true (by kernel_rfl)) (by unfold Func.isWrapper; first | (rw [if_pos (by decide +kernel)]; kernel_rfl) | (rw [if_neg (by decide +kernel)]; exact ⟨rfl, rfl⟩))
  (fun os started H enc _ => lifted os started H enc)
theorem proved : Rows.PadsRightSaid := over
#print axioms proved
end Go.Proofs.Ytbfialebaoeicaa.padsRight
namespace Go.Proofs.Ytbfialebaoeicaa
theorem padsRight_holds : Rows.PadsRightSaid := padsRight.proved
end Go.Proofs.Ytbfialebaoeicaa
