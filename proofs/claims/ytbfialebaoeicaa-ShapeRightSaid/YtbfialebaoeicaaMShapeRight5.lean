/- Part 6 of the proof of the statement ShapeRight: the words of the walks, the walks through the functions that it reaches, and the plain laws of what they compute. -/
import Derived.Test.YtbfialebaoeicaaMShapeRight4
import Derived.RegionTactic
import Derived.ChangeAlike
import Derived.Deep.QuietTactic
import Derived.BigQuiet
namespace Go.Proofs.Ytbfialebaoeicaa.X
open Go.RowKit Go.Proofs.YtbfialebaoeicaaW.PrintWords Go.Proofs.YtbfialebaoeicaaW.PrintLast Go.Proofs.YtbfialebaoeicaaW.PrintMore
set_option linter.all false
theorem nodup_step (l : List Int) (x : Int) (h0 : 0 ≤ x) (h1 : x < (l.length : Int)) (h : (l.take x.toNat).Nodup) (hne : ∀ k : Int, 0 ≤ k → k < x → rd l k ≠ rd l x) : (l.take (x + 1).toNat).Nodup := by
 have e : (x + 1).toNat = x.toNat + 1 := by omega
 have hl : x.toNat < l.length := by omega
 rw [e, List.take_succ_eq_append_getElem hl, List.nodup_append]
 refine ⟨h, by simp, fun a ha b hb => ?_⟩
 rw [List.mem_singleton] at hb
 obtain ⟨j, hj, rfl⟩ := List.getElem_of_mem ha
 rw [List.length_take] at hj
 have := hne j (by omega) (by omega)
 unfold rd at this
 rw [List.getD_eq_getElem?_getD, List.getD_eq_getElem?_getD, List.getElem?_eq_getElem (by omega), List.getElem?_eq_getElem hl] at this
 rw [hb, List.getElem_take]
 exact this
theorem nodup_no (l : List Int) (k x : Int) (h0 : 0 ≤ k) (hk : k < x) (h1 : x < (l.length : Int)) (he : rd l k = rd l x) : ¬ l.Nodup := by
 intro h
 have a1 : k.toNat < l.length := by omega
 have a2 : x.toNat < l.length := by omega
 unfold rd at he
 rw [List.getD_eq_getElem?_getD, List.getD_eq_getElem?_getD, List.getElem?_eq_getElem a1, List.getElem?_eq_getElem a2] at he
 have := (List.getElem_inj (h₀ := a1) (h₁ := a2) h).1 he
 omega
set_option maxHeartbeats 16000000 in
set_option maxRecDepth 100000 in
theorem pad_c (f : S27) (A1 : Option Addr) (c1 : Nat) (b : S41) (A4 : Option Addr) (c4 : Nat) (A5 : Option Addr) (c5 : Nat) (A6 : Option Addr) (c6 : Nat) (w : World) (hl : Kd.C (Kd.int .u16) w A4 b.f1.f1.length b.f1.f1) (hb : b.f1.f1.length ≤ 1000000) :
  Calls Try.prog 55 #[.agg #[.int .i64 f.f0, .int .i64 f.f1, .slice A1 f.f2.length c1], .agg #[.bool b.f0, .int .i64 b.f1.f0, .slice A4 b.f1.f1.length c4, .bool b.f1.f2, .bool b.f1.f3, .slice A5 b.f2.length c5, .int .i64 b.f3.f0, .int .i64 b.f3.f1, .int .i64 b.f3.f2, .int .i64 b.f3.f3, .slice A6 b.f3.f4.length c6, .int .i64 b.f3.f5, .int .i64 b.f3.f6, .int .i64 b.f3.f7]] w fun e w' => e = .returned (.bool (padR f.f1 b)) ∧ Below w.heap.size w w' := by
 have HL := Aside0.mk hl
 have HN := Aside0.mk hb
 clear hl hb
 have hu27 := Try.underlying27
 have hu35 := Try.underlying35
 have hu41 := Try.underlying41
 go_enter Try.func55, Try.ntmps55
 go_upto_region 1 with (first | ((with_reducible refine gate_dst (N := 2) rfl ?_); refine box_event ?hg (N := 2) ?hd (cs := #[.int .i64 f.f0, .int .i64 f.f1, .slice A1 f.f2.length c1]) (t := 27) ?hr ?_; (case hd => rfl); (case hg => rfl); (case hr => first | (go_simp; done) | (go_simp; rfl)); intro g2 hg w2 hbox hb; have HB := Aside0.mk hb; have X2 := Aside0.mk hbox; clear hbox hb hg) | ((with_reducible refine gate_dst (N := 3) rfl ?_); refine box_event ?hg (N := 3) ?hd (cs := #[.bool b.f0, .int .i64 b.f1.f0, .slice A4 b.f1.f1.length c4, .bool b.f1.f2, .bool b.f1.f3, .slice A5 b.f2.length c5, .int .i64 b.f3.f0, .int .i64 b.f3.f1, .int .i64 b.f3.f2, .int .i64 b.f3.f3, .slice A6 b.f3.f4.length c6, .int .i64 b.f3.f5, .int .i64 b.f3.f6, .int .i64 b.f3.f7]) (t := 41) ?hr ?_; (case hd => rfl); (case hg => rfl); (case hr => first | (go_simp; done) | (go_simp; rfl)); intro g3 hg w3 hbox hb; replace HB := Aside0.mk (below_step HB.out hb); replace X2 := Aside0.mk (blk_below X2.out hb); have X3 := Aside0.mk hbox; clear hbox hb hg; obtain ⟨h0, h1, h2, h3, h4⟩ := cl5 X3.out))
 go_cut [5] (fun v5 wc => ∃ g4 : Nat, v5 = .pointer (some ⟨g4, 0, none⟩) ∧ Aside0 (Below w.heap.size w wc) ∧ Aside0 (wc.heap[g2]? = some (.cells #[.int .i64 f.f0, .int .i64 f.f1, .slice A1 f.f2.length c1] 27 (0, 0))) ∧ Aside0 (wc.heap[g3]? = some (.cells #[.bool b.f0, .int .i64 b.f1.f0, .slice A4 b.f1.f1.length c4, .bool b.f1.f2, .bool b.f1.f3, .slice A5 b.f2.length c5, .int .i64 b.f3.f0, .int .i64 b.f3.f1, .int .i64 b.f3.f2, .int .i64 b.f3.f3, .slice A6 b.f3.f4.length c6, .int .i64 b.f3.f5, .int .i64 b.f3.f6, .int .i64 b.f3.f7] 41 (0, 0))) ∧ Aside0 (wc.heap[g4]? = some (.cells #[.int .i64 b.f1.f0, .slice A4 b.f1.f1.length c4, .bool b.f1.f2, .bool b.f1.f3] 35 (0, 0))))
 case first => go_wp2; go_meet; exact ⟨_, rfl, ⟨below_alloc HB.out _⟩, ⟨blk_alloc X2.out _⟩, ⟨blk_alloc X3.out _⟩, ⟨blk_new _ _⟩⟩
 case rest =>
  clear HB X2 X3 h0 h1 h2 h3 h4
  obtain ⟨g4, rfl, HB, X2, X3, X4⟩ := hcut
  have h0 := (blk_cell X3.out 0).trans rfl
  obtain ⟨k0, k1, k2, k3⟩ := cl4 X4.out
  have i1 := (blk_cell X2.out 1).trans rfl
  cases hb0 : b.f0 with
  | false =>
   rw [hb0] at h0
   go_wp2
   all_goals (go_ret; exact ⟨by simp [padR, *], HB.out⟩)
  | true =>
   rw [hb0] at h0
   have HSP := Aside0.mk (show padR f.f1 b = (decide (b.f1.f1.length ≤ 8) && decide b.f1.f1.Nodup && win b.f1.f0 f.f1 && (decide (0 < b.f1.f1.length) || b.f1.f2 || b.f1.f3)) by unfold padR; rw [if_pos hb0])
   clear hb0
   go_wp2
   clear h0 k0 k1 k2 k3 i1
   go_loopg [6] 1000000 (fun gg s6 wr => ∃ x : Int, s6 = .int .i64 x ∧ Aside0 (0 ≤ x ∧ x ≤ b.f1.f1.length ∧ (b.f1.f1.length : Int) - x ≤ gg) ∧ Aside0 ((b.f1.f1.take x.toNat).Nodup ∧ x ≤ 8) ∧ Aside0 (Below w.heap.size w wr) ∧ Aside0 (wr.heap[g2]? = some (.cells #[.int .i64 f.f0, .int .i64 f.f1, .slice A1 f.f2.length c1] 27 (0, 0))) ∧ Aside0 (wr.heap[g4]? = some (.cells #[.int .i64 b.f1.f0, .slice A4 b.f1.f1.length c4, .bool b.f1.f2, .bool b.f1.f3] 35 (0, 0))))
   case atStart => exact ⟨0, rfl, ⟨by have := HN.out; omega⟩, ⟨by simp⟩, HB, X2, X4⟩
   case round =>
    clear HB X2 X3 X4
    obtain ⟨x, rfl, HX, HA, HB, X2, X4⟩ := hrel
    obtain ⟨k0, k1, k2, k3⟩ := cl4 X4.out
    have i1 := (blk_cell X2.out 1).trans rfl
    by_cases hlt : x < (b.f1.f1.length : Int)
    rotate_left
    ·have hd : decide (x < (b.f1.f1.length : Int)) = false := decide_eq_false hlt
     have HE := Aside0.mk (show b.f1.f1.Nodup ∧ b.f1.f1.length ≤ 8 from ⟨by have := HA.out.1; rwa [List.take_of_length_le (by omega)] at this, by have := HA.out.2; omega⟩)
     clear hlt
     have HSQ := Aside0.mk (show padR f.f1 b = (win b.f1.f0 f.f1 && (decide (0 < b.f1.f1.length) || b.f1.f2 || b.f1.f3)) by rw [HSP.out, decide_eq_true HE.out.1, decide_eq_true HE.out.2]; rfl)
     obtain ⟨q0, hq0⟩ : ∃ q0, q0 = decide (0 < b.f1.f1.length) := ⟨_, rfl⟩
     have hq1 : decide ((0 : Int) < (b.f1.f1.length : Int)) = q0 := by rw [hq0]; exact decide_eq_decide.2 (by omega)
     rw [← hq0] at HSQ
     have hq2 := hq0.symm
     clear hq0
     cases hf2 : b.f1.f2 <;> cases hf3 : b.f1.f3 <;> cases q0 <;> rw [hf2] at k2 HSQ <;> rw [hf3] at k3 HSQ <;> cases hww : win b.f1.f0 f.f1 <;> (rw [hww] at HSQ; have HWW := Aside0.mk hww; clear hww; go_wp2_with (go_at_call 88; (with_reducible refine (win_c _ _ _).mono ?_); rintro e w' ⟨rfl, rfl⟩; rw [HWW.out]); go_ret; exact ⟨ret_b HSQ.out.symm, HB.out⟩)
    have hd : decide (x < (b.f1.f1.length : Int)) = true := decide_eq_true hlt
    have HLT := Aside0.mk hlt
    clear hlt
    by_cases h8 : 8 ≤ x
    ·have hd8 : decide (8 ≤ x) = true := decide_eq_true h8
     have HE := Aside0.mk (show ¬ b.f1.f1.length ≤ 8 by have := HLT.out; omega)
     clear h8
     go_wp2
     go_ret
     exact ⟨ret_b (by rw [HSP.out, decide_eq_false HE.out]; rfl), HB.out⟩
    have hd8 : decide (8 ≤ x) = false := decide_eq_false h8
    have H8 := Aside0.mk h8
    clear h8
    go_wp2
    clear hd hd8 k0 k1 k2 k3 i1
    go_loopg [7] 1000000 (fun gg s7 wr => ∃ y : Int, s7 = .int .i64 y ∧ Aside0 (0 ≤ y ∧ y ≤ x ∧ x - y ≤ gg) ∧ Aside0 (∀ k : Int, 0 ≤ k → k < y → rd b.f1.f1 k ≠ rd b.f1.f1 x) ∧ Aside0 (Below w.heap.size w wr) ∧ Aside0 (wr.heap[g2]? = some (.cells #[.int .i64 f.f0, .int .i64 f.f1, .slice A1 f.f2.length c1] 27 (0, 0))) ∧ Aside0 (wr.heap[g4]? = some (.cells #[.int .i64 b.f1.f0, .slice A4 b.f1.f1.length c4, .bool b.f1.f2, .bool b.f1.f3] 35 (0, 0))))
    case atStart => exact ⟨0, rfl, ⟨by have := HX.out; have := HN.out; omega⟩, ⟨fun k h1 h2 => by omega⟩, HB, X2, X4⟩
    case round =>
     clear HB X2 X4
     obtain ⟨y, rfl, HY, HC, HB, X2, X4⟩ := hrel
     obtain ⟨k0, k1, k2, k3⟩ := cl4 X4.out
     by_cases hlt : y < x
     rotate_left
     ·have hd : decide (y < x) = false := decide_eq_false hlt
      have HND := Aside0.mk (nodup_step b.f1.f1 x HX.out.1 HLT.out HA.out.1 (fun k h1 h2 => HC.out k h1 (by omega)))
      clear hlt
      go_wp2
      have W1 := Aside0.mk (show wrap64 (x + 1) = x + 1 from wrap_in _ (by have := HX.out; omega) (by have := HX.out; have := HN.out; omega))
      go_roundg ((b.f1.f1.length : Int) - (x + 1)).toNat
      case measure => have h1_ := HX.out; have h2_ := HLT.out; omega
      case rel => exact ⟨x + 1, by first | (rw [W1.out]; done) | rfl | (simp only [W1.out]; done), ⟨by have := HX.out; have := HLT.out; omega⟩, ⟨HND.out, by have := H8.out; omega⟩, HB, X2, X4⟩
     have hd : decide (y < x) = true := decide_eq_true hlt
     have HLY := Aside0.mk hlt
     have p1 : (0 ≤ y) = True := eq_true HY.out.1
     have p2 : (y < (b.f1.f1.length : Int)) = True := eq_true (by have := HLT.out; omega)
     have p3 : (0 ≤ x) = True := eq_true HX.out.1
     have p4 : (x < (b.f1.f1.length : Int)) = True := eq_true HLT.out
     obtain ⟨ad, e1, hv⟩ := Kd.at_int (Kd.C_below HL.out HB.out) y HY.out.1 (by have := HLT.out; omega)
     obtain ⟨ad', e2, hu⟩ := Kd.at_int (Kd.C_below HL.out HB.out) x HX.out.1 HLT.out
     have e3 := e2
     rw [e1] at e3
     cases e3
     clear e2
     clear hlt
     rw [e1] at k1
     have HE1 := Aside0.mk e1
     clear e1
     have HEQ := Aside0.mk (nodup_no b.f1.f1 y x HY.out.1 HLY.out HLT.out)
     obtain ⟨u, hu0⟩ : ∃ u, u = rd b.f1.f1 x := ⟨_, rfl⟩
     obtain ⟨v, hv0⟩ : ∃ v, v = rd b.f1.f1 y := ⟨_, rfl⟩
     rw [← hu0] at hu HEQ HC
     rw [← hv0] at hv HEQ
     have HV := Aside0.mk hv0
     have HU := Aside0.mk hu0
     clear hv0 hu0
     cases hvu : (v == u) with
     | true =>
      go_wp2
      go_quiet (fail)
      go_wp2
      go_ret
      exact ⟨ret_b (by rw [HSP.out, decide_eq_false (HEQ.out (beq_iff_eq.1 hvu)), Bool.and_false]; rfl), pw_below_drewN HB.out _⟩
     | false =>
      go_wp2
      go_quiet (fail)
      go_wp2
      have W1 := Aside0.mk (show wrap64 (y + 1) = y + 1 from wrap_in _ (by have := HY.out; omega) (by have := HLY.out; have := HLT.out; have := HN.out; omega))
      go_roundg (x - (y + 1)).toNat
      case measure => have h1_ := HY.out; have h2_ := HLY.out; omega
      case rel => exact ⟨y + 1, by first | (rw [W1.out]; done) | rfl | (simp only [W1.out]; done), ⟨by have := HY.out; have := HLY.out; omega⟩, ⟨fun k h1 h2 => by rw [← HU.out]; by_cases e : k = y; (rw [e, ← HV.out]; exact beq_eq_false_iff_ne.1 hvu); exact HC.out k h1 (by omega)⟩, ⟨pw_below_drewN HB.out _⟩, ⟨blk_drewN X2.out _⟩, ⟨blk_drewN X4.out _⟩⟩
end Go.Proofs.Ytbfialebaoeicaa.X
