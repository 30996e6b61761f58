/- Part 7 of the proof of the statement ShapeRight: the words of the walks, the walks through the functions that it reaches, and the plain laws of what they compute. -/
import Derived.Test.YtbfialebaoeicaaMShapeRight5
import Derived.RegionTactic
import Derived.ChangeAlike
import Derived.Deep.QuietTactic
import Derived.BigQuiet
import Derived.StillTailTactics
namespace Go.Proofs.Ytbfialebaoeicaa.X
open Go.RowKit Go.Proofs.YtbfialebaoeicaaW.PrintWords Go.Proofs.YtbfialebaoeicaaW.PrintLast Go.Proofs.YtbfialebaoeicaaW.PrintMore
set_option linter.all false
structure BndF (f : S27) : Prop where
 nb : f.f2.length ≤ 1000000
 ni : ∀ b ∈ f.f2, b.f2.length ≤ 1000000
 nc : ∀ b ∈ f.f2, b.f1.f1.length ≤ 20
 ne : ∀ b ∈ f.f2, b.f3.f4.length ≤ 1000000
 na : ∀ b ∈ f.f2, ∀ x ∈ b.f2, x.f6.length ≤ 1000000
structure Bnd (m : List S27) : Prop where
 nf : m.length ≤ 1000000
 f : ∀ f ∈ m, BndF f
theorem first_B {w : World} {A : Option Addr} {n : Nat} {xs : List S41} (h : Kd.C k41 w A n xs) (h1 : 0 < n) : ∃ ad, A = some ad ∧ w.cell? ad = some (.bool (rd_T41 xs 0).f0) := by
 obtain ⟨ad, _, _, _, _, _, _, e, hx, _⟩ := at_T41 h 0 (by omega) (by omega)
 refine ⟨ad, e, ?_⟩
 rw [show ((0 : Int)).toNat = 0 from rfl, show 0 * 14 = 0 from rfl, Addr.add_zero'] at hx
 exact hx
theorem first_F {w : World} {A : Option Addr} {n : Nat} {xs : List S27} (h : Kd.C k27 w A n xs) (h1 : 0 < n) : ∃ ad, A = some ad ∧ w.cell? ad = some (.int .i64 (rd_T27 xs 0).f0) := by
 obtain ⟨ad, _, _, e, hx, _⟩ := at_T27 h 0 (by omega) (by omega)
 refine ⟨ad, e, ?_⟩
 rw [show ((0 : Int)).toNat = 0 from rfl, show 0 * 3 = 0 from rfl, Addr.add_zero'] at hx
 exact hx
theorem rd_mem' {α : Type} (l : List α) (z : α) (x : Int) (h0 : 0 ≤ x) (h1 : x < (l.length : Int)) : l.getD x.toNat z ∈ l := by
 have hl : x.toNat < l.length := by omega
 rw [List.getD_eq_getElem?_getD, List.getElem?_eq_getElem hl]
 exact List.getElem_mem hl
set_option maxHeartbeats 16000000 in
set_option maxRecDepth 100000 in
theorem func_c (m : List S27) (A0 : Option Addr) (c0 : Nat) (f : S27) (A1 : Option Addr) (c1 : Nat) (w : World) (hm : Kd.C k27 w A0 m.length m) (hbl : Kd.C k41 w A1 f.f2.length f.f2) (hb : BndF f) :
  Calls Try.prog 19 #[.agg #[.slice A0 m.length c0], .agg #[.int .i64 f.f0, .int .i64 f.f1, .slice A1 f.f2.length c1]] w fun e w' => e = .returned (.bool (funcR m f)) ∧ Below w.heap.size w w' := by
 have HM := Aside0.mk hm
 have HBL := Aside0.mk hbl
 have HN := Aside0.mk hb
 clear hm hbl hb
 have hu24 := Try.underlying24
 have hu27 := Try.underlying27
 have hu41 := Try.underlying41
 by_cases h0 : f.f2.length = 0
 ·have hz : ((f.f2.length : Int) == 0) = true := by rw [h0]; rfl
  have HZ := Aside0.mk (show funcR m f = false by unfold funcR sizeR; rw [decide_eq_false (show ¬ 1 ≤ f.f2.length by omega)]; simp)
  clear h0
  go_enter Try.func19, Try.ntmps19
  go_wp2_with (first | ((with_reducible refine gate_dst (N := 2) rfl ?_); refine box_event ?hg (N := 2) ?hd (cs := #[.slice A0 m.length c0]) (t := 24) ?hr ?_; (case hd => rfl); (case hg => rfl); (case hr => first | (go_simp; done) | (go_simp; rfl)); intro g1 hg w1 hbox hb; have HB := Aside0.mk hb; have X1 := Aside0.mk hbox; clear hbox hb hg) | ((with_reducible refine gate_dst (N := 3) rfl ?_); refine box_event ?hg (N := 3) ?hd (cs := #[.int .i64 f.f0, .int .i64 f.f1, .slice A1 f.f2.length c1]) (t := 27) ?hr ?_; (case hd => rfl); (case hg => rfl); (case hr => first | (go_simp; done) | (go_simp; rfl)); intro g2 hg w2 hbox hb; replace HB := Aside0.mk (below_step HB.out hb); replace X1 := Aside0.mk (blk_below X1.out hb); have X2 := Aside0.mk hbox; clear hbox hb hg; obtain ⟨i0, i1, i2⟩ := cl3 X2.out))
  all_goals (go_ret; exact ⟨ret_b HZ.out.symm, HB.out⟩)
 have hz : ((f.f2.length : Int) == 0) = false := beq_eq_false_iff_ne.2 (by omega)
 obtain ⟨ad, e1, hx⟩ := first_B HBL.out (by omega)
 subst e1
 have hx' : w.cell? ad = some (.bool (rd_T41 f.f2 0).f0) := hx
 have q0 : (0 < f.f2.length) = True := eq_true (by omega)
 have HPOS := Aside0.mk (show 0 < f.f2.length by omega)
 clear h0 hx
 go_enter Try.func19, Try.ntmps19
 go_upto_region 1 with (first | ((with_reducible refine gate_dst (N := 2) rfl ?_); refine box_event ?hg (N := 2) ?hd (cs := #[.slice A0 m.length c0]) (t := 24) ?hr ?_; (case hd => rfl); (case hg => rfl); (case hr => first | (go_simp; done) | (go_simp; rfl)); intro g1 hg w1 hbox hb; have HB := Aside0.mk hb; have X1 := Aside0.mk hbox; clear hbox hb hg) | ((with_reducible refine gate_dst (N := 3) rfl ?_); refine box_event ?hg (N := 3) ?hd (cs := #[.int .i64 f.f0, .int .i64 f.f1, .slice (some ad) f.f2.length c1]) (t := 27) ?hr ?_; (case hd => rfl); (case hg => rfl); (case hr => first | (go_simp; done) | (go_simp; rfl)); intro g2 hg w2 hbox hb; replace HB := Aside0.mk (below_step HB.out hb); replace X1 := Aside0.mk (blk_below X1.out hb); have X2 := Aside0.mk hbox; clear hbox hb hg; have m0 := (blk_cell X1.out 0).trans rfl; obtain ⟨i0, i1, i2⟩ := cl3 X2.out; have hx := pw_cell_below HB.out hx'))
 go_cut [46] (fun v46 wc => v46 = .bool (!sizeR f) ∧ Aside0 (Below w.heap.size w wc) ∧ Aside0 (wc.heap[g1]? = some (.cells #[.slice A0 m.length c0] 24 (0, 0))) ∧ Aside0 (wc.heap[g2]? = some (.cells #[.int .i64 f.f0, .int .i64 f.f1, .slice (some ad) f.f2.length c1] 27 (0, 0))))
 case first =>
  have d4 : decide (1 ≤ f.f2.length) = true := decide_eq_true (by have := HPOS.out; omega)
  by_cases hl : f.f2.length ≤ 64
  ·have d1 : decide ((64 : Int) < (f.f2.length : Int)) = false := decide_eq_false (by omega)
   have d2 : decide (64 < f.f2.length) = false := decide_eq_false (by omega)
   have d3 : decide (f.f2.length ≤ 64) = true := decide_eq_true hl
   clear hl
   go_wp2
   all_goals (go_meet; exact ⟨congrArg Value.bool (by unfold sizeR; rw [d3, d4]; first | (simp [*]; done) | (simp [*]; omega)), HB, X1, X2⟩)
  ·have d1 : decide ((64 : Int) < (f.f2.length : Int)) = true := decide_eq_true (by omega)
   have d2 : decide (64 < f.f2.length) = true := decide_eq_true (by omega)
   have d3 : decide (f.f2.length ≤ 64) = false := decide_eq_false hl
   clear hl
   go_wp2
   all_goals (go_meet; exact ⟨congrArg Value.bool (by unfold sizeR; rw [d3, d4]; simp), HB, X1, X2⟩)
 case rest =>
  clear HB X1 X2 m0 i0 i1 i2 hx hx' hz q0
  obtain ⟨rfl, HB, X1, X2⟩ := hcut
  have m0 := (blk_cell X1.out 0).trans rfl
  obtain ⟨i0, i1, i2⟩ := cl3 X2.out
  cases hs : sizeR f with
  | false =>
   have HZ := Aside0.mk (show funcR m f = false by unfold funcR; rw [hs]; rfl)
   go_wp2
   go_ret
   exact ⟨ret_b HZ.out.symm, HB.out⟩
  | true =>
   have HSP := Aside0.mk (show funcR m f = f.f2.all (blockR m f) by unfold funcR; rw [hs]; rfl)
   clear hs
   go_wp2
   clear m0 i0 i1 i2
   go_loopg [5] 1000000 (fun gg s5 wr => ∃ x : Int, s5 = .int .i64 x ∧ Aside0 (0 ≤ x ∧ x ≤ f.f2.length ∧ (f.f2.length : Int) - x ≤ gg) ∧ Aside0 ((f.f2.take x.toNat).all (blockR m f) = true) ∧ Aside0 (Below w.heap.size w wr) ∧ Aside0 (wr.heap[g1]? = some (.cells #[.slice A0 m.length c0] 24 (0, 0))) ∧ Aside0 (wr.heap[g2]? = some (.cells #[.int .i64 f.f0, .int .i64 f.f1, .slice (some ad) f.f2.length c1] 27 (0, 0))))
   case atStart => exact ⟨0, rfl, ⟨by have := HN.out.nb; omega⟩, ⟨by simp⟩, HB, X1, X2⟩
   case round =>
    clear HB X1 X2
    obtain ⟨x, rfl, HX, HA, HB, X1, X2⟩ := hrel
    have m0 := (blk_cell X1.out 0).trans rfl
    obtain ⟨i0, i1, i2⟩ := cl3 X2.out
    by_cases hlt : x < (f.f2.length : Int)
    rotate_left
    ·have hd : decide (x < (f.f2.length : Int)) = false := decide_eq_false hlt
     have HE := Aside0.mk (show f.f2.all (blockR m f) = true by rw [← all_end f.f2 _ x hlt]; exact HA.out)
     clear hlt
     go_wp2
     go_ret
     exact ⟨ret_b (by rw [HSP.out, HE.out]), HB.out⟩
    have hd : decide (x < (f.f2.length : Int)) = true := decide_eq_true hlt
    have HLT := Aside0.mk hlt
    clear hlt
    have p1 : (0 ≤ x) = True := eq_true HX.out.1
    have p2 : (x < (f.f2.length : Int)) = True := eq_true HLT.out
    obtain ⟨ad', A4, c4, A5, c5, A6, c6, e1, y0, y1, y2, y3, y4, y5, y6, y7, y8, y9, y10, y11, y12, y13, _, hC4, hl5, hC5, _, hC6⟩ := at_T41 (Kd.C_below HBL.out HB.out) x HX.out.1 HLT.out
    cases e1
    have HMB := Aside0.mk (rd_mem' f.f2 z41 x HX.out.1 HLT.out)
    have HST := Aside0.mk (all_step f.f2 z41 (blockR m f) x HX.out.1 HLT.out)
    have HNO := Aside0.mk (all_no f.f2 z41 (blockR m f) x HX.out.1 HLT.out)
    have hrd : f.f2.getD x.toNat z41 = rd_T41 f.f2 x := rfl
    rw [hrd] at HMB HST HNO
    clear hrd
    generalize rd_T41 f.f2 x = b at y0 y1 y2 y3 y4 y5 y6 y7 y8 y9 y10 y11 y12 y13 hC4 hl5 hC5 hC6 HMB HST HNO
    have C4 := Aside0.mk hC4
    have C5 := Aside0.mk hC5
    have C6 := Aside0.mk hC6
    clear hC4 hC5 hC6 hl5
    go_upto_region 6 with (fail)
    go_cut [6] (fun v6 wc => ∃ g4 : Nat, v6 = .pointer (some ⟨g4, 0, none⟩) ∧ Aside0 (Below w.heap.size w wc) ∧ Aside0 (wc.heap[g1]? = some (.cells #[.slice A0 m.length c0] 24 (0, 0))) ∧ Aside0 (wc.heap[g2]? = some (.cells #[.int .i64 f.f0, .int .i64 f.f1, .slice (some ad) f.f2.length c1] 27 (0, 0))) ∧ Aside0 (wc.heap[g4]? = some (.cells #[.bool b.f0, .int .i64 b.f1.f0, .slice A4 b.f1.f1.length c4, .bool b.f1.f2, .bool b.f1.f3, .slice A5 b.f2.length c5, .int .i64 b.f3.f0, .int .i64 b.f3.f1, .int .i64 b.f3.f2, .int .i64 b.f3.f3, .slice A6 b.f3.f4.length c6, .int .i64 b.f3.f5, .int .i64 b.f3.f6, .int .i64 b.f3.f7] 41 (0, 0))) ∧ Aside0 (Kd.C (Kd.int .u16) wc A4 b.f1.f1.length b.f1.f1) ∧ Aside0 (Kd.C k49 wc A5 b.f2.length b.f2) ∧ Aside0 (Kd.C (Kd.int .i64) wc A6 b.f3.f4.length b.f3.f4))
    case first => go_wp2; go_meet; exact ⟨_, rfl, ⟨below_alloc HB.out _⟩, ⟨blk_alloc X1.out _⟩, ⟨blk_alloc X2.out _⟩, ⟨blk_new _ _⟩, ⟨Kd.C_alloc C4.out _⟩, ⟨Kd.C_alloc C5.out _⟩, ⟨Kd.C_alloc C6.out _⟩⟩
    case rest =>
     clear HB X1 X2 C4 C5 C6 p1 p2 m0 i0 i1 i2 y0 y1 y2 y3 y4 y5 y6 y7 y8 y9 y10 y11 y12 y13
     obtain ⟨g4, rfl, HB, X1, X2, X4, C4, C5, C6⟩ := hcut
     have m0 := (blk_cell X1.out 0).trans rfl
     obtain ⟨i0, i1, i2⟩ := cl3 X2.out
     obtain ⟨k0, k1, k2, k3, k4, k5, k6, k7, k8, k9, k10, k11, k12, k13⟩ := cl14 X4.out
     have HBN := Aside0.mk (show b.f1.f1.length ≤ 1000000 ∧ b.f3.f4.length ≤ 1000000 ∧ b.f2.length ≤ 1000000 from ⟨by have := HN.out.nc b HMB.out; omega, HN.out.ne b HMB.out, HN.out.ni b HMB.out⟩)
     have hbr : ∀ q, blockR m f b = q → (blockR m f b = q) := fun q h => h
     clear hbr
     by_cases h64 : (64 : Int) < (b.f2.length : Int)
     ·have d64 : decide ((64 : Int) < (b.f2.length : Int)) = true := decide_eq_true h64
      have d65 : decide (64 < b.f2.length) = true := decide_eq_true (by omega)
      have HNX := Aside0.mk (show blockR m f b = false by unfold blockR; rw [decide_eq_false (show ¬ b.f2.length ≤ 64 by omega)]; rfl)
      clear h64
      go_wp2
      go_ret
      exact ⟨ret_b (by rw [HSP.out, HNO.out HNX.out]), HB.out⟩
     have d64 : decide ((64 : Int) < (b.f2.length : Int)) = false := decide_eq_false h64
     have d65 : decide (64 < b.f2.length) = false := decide_eq_false (by omega)
     have HB1 := Aside0.mk (show blockR m f b = (padR f.f1 b && endR m f b.f3 && b.f2.all (insR m f.f1)) by unfold blockR; rw [decide_eq_true (show b.f2.length ≤ 64 by omega)]; rfl)
     clear h64
     cases hpq : padR f.f1 b with
     | false =>
      have HPQ := Aside0.mk hpq
      have HNX := Aside0.mk (show blockR m f b = false by rw [HB1.out, hpq]; rfl)
      clear hpq
      go_wp2_with (go_at_call 55; (with_reducible refine (pad_c f (some ad) c1 b A4 c4 A5 c5 A6 c6 _ C4.out HBN.out.1).mono ?_); rintro e w6 ⟨rfl, hb⟩; replace HB := Aside0.mk (below_step HB.out hb); replace X1 := Aside0.mk (blk_below X1.out hb); replace X2 := Aside0.mk (blk_below X2.out hb); replace X4 := Aside0.mk (blk_below X4.out hb); replace C4 := Aside0.mk (Kd.C_below C4.out hb); replace C5 := Aside0.mk (Kd.C_below C5.out hb); replace C6 := Aside0.mk (Kd.C_below C6.out hb); clear hb; clear m0 i0 i1 i2 k0 k1 k2 k3 k4 k5 k6 k7 k8 k9 k10 k11 k12 k13; have m0 := (blk_cell X1.out 0).trans rfl; obtain ⟨i0, i1, i2⟩ := cl3 X2.out; obtain ⟨k0, k1, k2, k3, k4, k5, k6, k7, k8, k9, k10, k11, k12, k13⟩ := cl14 X4.out; rw [HPQ.out])
      go_ret
      exact ⟨ret_b (by rw [HSP.out, HNO.out HNX.out]), HB.out⟩
     | true =>
      have HPQ := Aside0.mk hpq
      clear hpq
      cases heq : endR m f b.f3 with
      | false =>
       have HEQ := Aside0.mk heq
       have HNX := Aside0.mk (show blockR m f b = false by rw [HB1.out, HPQ.out, heq]; rfl)
       clear heq
       go_wp2_with (first | (go_at_call 55; (with_reducible refine (pad_c f (some ad) c1 b A4 c4 A5 c5 A6 c6 _ C4.out HBN.out.1).mono ?_); rintro e w6 ⟨rfl, hb⟩; replace HB := Aside0.mk (below_step HB.out hb); replace X1 := Aside0.mk (blk_below X1.out hb); replace X2 := Aside0.mk (blk_below X2.out hb); replace X4 := Aside0.mk (blk_below X4.out hb); replace C4 := Aside0.mk (Kd.C_below C4.out hb); replace C5 := Aside0.mk (Kd.C_below C5.out hb); replace C6 := Aside0.mk (Kd.C_below C6.out hb); clear hb; clear m0 i0 i1 i2 k0 k1 k2 k3 k4 k5 k6 k7 k8 k9 k10 k11 k12 k13; have m0 := (blk_cell X1.out 0).trans rfl; obtain ⟨i0, i1, i2⟩ := cl3 X2.out; obtain ⟨k0, k1, k2, k3, k4, k5, k6, k7, k8, k9, k10, k11, k12, k13⟩ := cl14 X4.out; rw [HPQ.out]) | (go_at_call 56; (with_reducible refine (end_c m A0 c0 f (some ad) c1 b.f3 A6 c6 _ (Kd.C_below HM.out HB.out) (Kd.C_below HBL.out HB.out) HPOS.out C6.out HBN.out.2.1).mono ?_); rintro e w7 ⟨rfl, hb⟩; replace HB := Aside0.mk (below_step HB.out hb); replace X1 := Aside0.mk (blk_below X1.out hb); replace X2 := Aside0.mk (blk_below X2.out hb); replace X4 := Aside0.mk (blk_below X4.out hb); replace C4 := Aside0.mk (Kd.C_below C4.out hb); replace C5 := Aside0.mk (Kd.C_below C5.out hb); replace C6 := Aside0.mk (Kd.C_below C6.out hb); clear hb; clear m0 i0 i1 i2 k0 k1 k2 k3 k4 k5 k6 k7 k8 k9 k10 k11 k12 k13; have m0 := (blk_cell X1.out 0).trans rfl; obtain ⟨i0, i1, i2⟩ := cl3 X2.out; obtain ⟨k0, k1, k2, k3, k4, k5, k6, k7, k8, k9, k10, k11, k12, k13⟩ := cl14 X4.out; rw [HEQ.out]))
       go_ret
       exact ⟨ret_b (by rw [HSP.out, HNO.out HNX.out]), HB.out⟩
      | true =>
       have HEQ := Aside0.mk heq
       have HB2 := Aside0.mk (show blockR m f b = b.f2.all (insR m f.f1) by rw [HB1.out, HPQ.out, heq]; rfl)
       clear heq
       go_wp2_with (first | (go_at_call 55; (with_reducible refine (pad_c f (some ad) c1 b A4 c4 A5 c5 A6 c6 _ C4.out HBN.out.1).mono ?_); rintro e w6 ⟨rfl, hb⟩; replace HB := Aside0.mk (below_step HB.out hb); replace X1 := Aside0.mk (blk_below X1.out hb); replace X2 := Aside0.mk (blk_below X2.out hb); replace X4 := Aside0.mk (blk_below X4.out hb); replace C4 := Aside0.mk (Kd.C_below C4.out hb); replace C5 := Aside0.mk (Kd.C_below C5.out hb); replace C6 := Aside0.mk (Kd.C_below C6.out hb); clear hb; clear m0 i0 i1 i2 k0 k1 k2 k3 k4 k5 k6 k7 k8 k9 k10 k11 k12 k13; have m0 := (blk_cell X1.out 0).trans rfl; obtain ⟨i0, i1, i2⟩ := cl3 X2.out; obtain ⟨k0, k1, k2, k3, k4, k5, k6, k7, k8, k9, k10, k11, k12, k13⟩ := cl14 X4.out; rw [HPQ.out]) | (go_at_call 56; (with_reducible refine (end_c m A0 c0 f (some ad) c1 b.f3 A6 c6 _ (Kd.C_below HM.out HB.out) (Kd.C_below HBL.out HB.out) HPOS.out C6.out HBN.out.2.1).mono ?_); rintro e w7 ⟨rfl, hb⟩; replace HB := Aside0.mk (below_step HB.out hb); replace X1 := Aside0.mk (blk_below X1.out hb); replace X2 := Aside0.mk (blk_below X2.out hb); replace X4 := Aside0.mk (blk_below X4.out hb); replace C4 := Aside0.mk (Kd.C_below C4.out hb); replace C5 := Aside0.mk (Kd.C_below C5.out hb); replace C6 := Aside0.mk (Kd.C_below C6.out hb); clear hb; clear m0 i0 i1 i2 k0 k1 k2 k3 k4 k5 k6 k7 k8 k9 k10 k11 k12 k13; have m0 := (blk_cell X1.out 0).trans rfl; obtain ⟨i0, i1, i2⟩ := cl3 X2.out; obtain ⟨k0, k1, k2, k3, k4, k5, k6, k7, k8, k9, k10, k11, k12, k13⟩ := cl14 X4.out; rw [HEQ.out]))
       clear m0 i0 i1 i2 k0 k1 k2 k3 k4 k5 k6 k7 k8 k9 k10 k11 k12 k13
       go_loopg [7] 1000000 (fun gg s7 wr => ∃ y : Int, s7 = .int .i64 y ∧ Aside0 (0 ≤ y ∧ y ≤ b.f2.length ∧ (b.f2.length : Int) - y ≤ gg) ∧ Aside0 ((b.f2.take y.toNat).all (insR m f.f1) = true) ∧ Aside0 (Below w.heap.size w wr) ∧ Aside0 (wr.heap[g1]? = some (.cells #[.slice A0 m.length c0] 24 (0, 0))) ∧ Aside0 (wr.heap[g2]? = some (.cells #[.int .i64 f.f0, .int .i64 f.f1, .slice (some ad) f.f2.length c1] 27 (0, 0))) ∧ Aside0 (wr.heap[g4]? = some (.cells #[.bool b.f0, .int .i64 b.f1.f0, .slice A4 b.f1.f1.length c4, .bool b.f1.f2, .bool b.f1.f3, .slice A5 b.f2.length c5, .int .i64 b.f3.f0, .int .i64 b.f3.f1, .int .i64 b.f3.f2, .int .i64 b.f3.f3, .slice A6 b.f3.f4.length c6, .int .i64 b.f3.f5, .int .i64 b.f3.f6, .int .i64 b.f3.f7] 41 (0, 0))) ∧ Aside0 (Kd.C k49 wr A5 b.f2.length b.f2))
       case atStart => exact ⟨0, rfl, ⟨by have := HBN.out; omega⟩, ⟨by simp⟩, HB, X1, X2, X4, C5⟩
       case round =>
        clear HB X1 X2 X4 C4 C5 C6 d64 d65 hd
        obtain ⟨y, rfl, HY, HA2, HB, X1, X2, X4, C5⟩ := hrel
        have m0 := (blk_cell X1.out 0).trans rfl
        obtain ⟨i0, i1, i2⟩ := cl3 X2.out
        have k5 := (blk_cell X4.out 5).trans rfl
        by_cases hlt : y < (b.f2.length : Int)
        rotate_left
        ·have hd : decide (y < (b.f2.length : Int)) = false := decide_eq_false hlt
         have HE := Aside0.mk (show blockR m f b = true by rw [HB2.out, ← all_end b.f2 _ y hlt]; exact HA2.out)
         clear hlt
         go_wp2
         have W1 := Aside0.mk (show wrap64 (x + 1) = x + 1 from wrap_in _ (by have := HX.out; omega) (by have := HLT.out; have := HN.out.nb; omega))
         go_roundg ((f.f2.length : Int) - (x + 1)).toNat
         case measure => have h1_ := HX.out; have h2_ := HLT.out; omega
         case rel => exact ⟨x + 1, by first | (rw [W1.out]; done) | rfl | (simp only [W1.out]; done), ⟨by have := HX.out; have := HLT.out; omega⟩, ⟨by rw [HST.out, HA.out, HE.out]; rfl⟩, HB, X1, X2⟩
        have hd : decide (y < (b.f2.length : Int)) = true := decide_eq_true hlt
        have HLY := Aside0.mk hlt
        clear hlt
        have p1 : (0 ≤ y) = True := eq_true HY.out.1
        have p2 : (y < (b.f2.length : Int)) = True := eq_true HLY.out
        obtain ⟨ad5, A7, c7, e1, y0, y1, y2, y3, y4, y5, y6, _, hC7⟩ := at_T49 C5.out y HY.out.1 HLY.out
        subst e1
        have HMI := Aside0.mk (rd_mem' b.f2 z49 y HY.out.1 HLY.out)
        have HST2 := Aside0.mk (all_step b.f2 z49 (insR m f.f1) y HY.out.1 HLY.out)
        have HNO2 := Aside0.mk (all_no b.f2 z49 (insR m f.f1) y HY.out.1 HLY.out)
        have hrd : b.f2.getD y.toNat z49 = rd_T49 b.f2 y := rfl
        rw [hrd] at HMI HST2 HNO2
        clear hrd
        generalize rd_T49 b.f2 y = z at y0 y1 y2 y3 y4 y5 y6 hC7 HMI HST2 HNO2
        have C7 := Aside0.mk hC7
        have HZN := Aside0.mk (HN.out.na b HMB.out z HMI.out)
        clear hC7
        go_wp2
        go_still_tail 7, (by kernel_rfl)
        replace HB := Aside0.mk (below_drew HB.out)
        replace X1 := Aside0.mk (blk_drew X1.out)
        replace X2 := Aside0.mk (blk_drew X2.out)
        replace X4 := Aside0.mk (blk_drew X4.out)
        replace C5 := Aside0.mk (Kd.C_drew C5.out)
        replace C7 := Aside0.mk (Kd.C_drew C7.out)
        change wpList _ _ _ _ _ wr.drew
        generalize wr.drew = w2 at *
        cases hiq : insR m f.f1 z with
        | false =>
         have HIQ := Aside0.mk hiq
         clear hiq
         go_wp2_with (go_at_call 57; (with_reducible refine (ins_c m A0 c0 f (some ad) c1 z A7 c7 _ (Kd.C_below HM.out HB.out) C7.out HZN.out).mono ?_); rintro e w8 ⟨rfl, hb⟩; replace HB := Aside0.mk (below_step HB.out hb); replace X1 := Aside0.mk (blk_below X1.out hb); replace X2 := Aside0.mk (blk_below X2.out hb); replace X4 := Aside0.mk (blk_below X4.out hb); replace C5 := Aside0.mk (Kd.C_below C5.out hb); clear hb C7; rw [HIQ.out])
         go_ret
         exact ⟨ret_b (by rw [HSP.out, HNO.out (by rw [HB2.out, HNO2.out HIQ.out])]), HB.out⟩
        | true =>
         have HIQ := Aside0.mk hiq
         clear hiq
         go_wp2_with (go_at_call 57; (with_reducible refine (ins_c m A0 c0 f (some ad) c1 z A7 c7 _ (Kd.C_below HM.out HB.out) C7.out HZN.out).mono ?_); rintro e w8 ⟨rfl, hb⟩; replace HB := Aside0.mk (below_step HB.out hb); replace X1 := Aside0.mk (blk_below X1.out hb); replace X2 := Aside0.mk (blk_below X2.out hb); replace X4 := Aside0.mk (blk_below X4.out hb); replace C5 := Aside0.mk (Kd.C_below C5.out hb); clear hb C7; rw [HIQ.out])
         have W1 := Aside0.mk (show wrap64 (y + 1) = y + 1 from wrap_in _ (by have := HY.out; omega) (by have := HLY.out; have := HBN.out; omega))
         go_roundg ((b.f2.length : Int) - (y + 1)).toNat
         case measure => have h1_ := HY.out; have h2_ := HLY.out; omega
         case rel => exact ⟨y + 1, by first | (rw [W1.out]; done) | rfl | (simp only [W1.out]; done), ⟨by have := HY.out; have := HLY.out; omega⟩, ⟨by rw [HST2.out, HA2.out, HIQ.out]; rfl⟩, HB, X1, X2, X4, C5⟩
end Go.Proofs.Ytbfialebaoeicaa.X
