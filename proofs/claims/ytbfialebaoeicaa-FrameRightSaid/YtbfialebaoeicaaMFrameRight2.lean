/- Part 3 of the proof of the statement FrameRight: the words of the walks, the walks through the functions that it reaches, and the plain laws of what they compute. -/
import Derived.Test.YtbfialebaoeicaaMFrameRight1
import Derived.RegionTactic
import Derived.ChangeAlike
import Derived.Deep.QuietTactic
import Derived.BigQuiet
namespace Go.Proofs.Ytbfialebaoeicaa.X
open Go.RowKit Go.Proofs.YtbfialebaoeicaaW.PrintWords Go.Proofs.YtbfialebaoeicaaW.PrintLast Go.Proofs.YtbfialebaoeicaaW.PrintMore
set_option linter.all false
theorem take_same {α : Type} (l r : List α) (z : α) (x : Int) (h0 : 0 ≤ x) (h1 : x < (l.length : Int)) (h2 : l.length = r.length) (h : l.take x.toNat = r.take x.toNat) (e : l.getD x.toNat z = r.getD x.toNat z) : l.take (x + 1).toNat = r.take (x + 1).toNat := by
 have e1 : (x + 1).toNat = x.toNat + 1 := by omega
 have hl : x.toNat < l.length := by omega
 have hr : x.toNat < r.length := by omega
 rw [List.getD_eq_getElem?_getD, List.getD_eq_getElem?_getD, List.getElem?_eq_getElem hl, List.getElem?_eq_getElem hr] at e
 rw [e1, List.take_succ_eq_append_getElem hl, List.take_succ_eq_append_getElem hr, h]
 rw [show l[x.toNat] = r[x.toNat] from e]
theorem same_end {α : Type} (l r : List α) (x : Int) (h1 : ¬ x < (l.length : Int)) (h2 : l.length = r.length) (h : l.take x.toNat = r.take x.toNat) : l = r := by rwa [List.take_of_length_le (by omega), List.take_of_length_le (by omega)] at h
def insE (a b : S49) : Bool := (a.f0 == b.f0) && (a.f1 == b.f1) && (a.f2 == b.f2) && (a.f3 == b.f3) && (a.f4 == b.f4) && (a.f5 == b.f5) && (a.f6 == b.f6)
def endE (a b : S39) : Bool := (a.f0 == b.f0) && (a.f1 == b.f1) && (a.f2 == b.f2) && (a.f3 == b.f3) && (a.f4 == b.f4) && (a.f5 == b.f5) && (a.f6 == b.f6) && (a.f7 == b.f7)
def padE (a b : S35) : Bool := (a.f0 == b.f0) && (a.f1 == b.f1) && (a.f2 == b.f2) && (a.f3 == b.f3)
set_option maxHeartbeats 16000000 in
set_option maxRecDepth 100000 in
theorem eqi_c (A : Option Addr) (c : Nat) (l : List Int) (A' : Option Addr) (c' : Nat) (r : List Int) (w : World) (hl : Kd.C (Kd.int .i64) w A l.length l) (hr : Kd.C (Kd.int .i64) w A' r.length r) (hb : l.length ≤ 1000000) :
  Calls Try.prog 111 #[.slice A l.length c, .slice A' r.length c'] w fun e w' => e = .returned (.bool (l == r)) ∧ Below w.heap.size w w' := by
 have HL := Aside0.mk hl
 have HR := Aside0.mk hr
 have HN := Aside0.mk hb
 clear hl hr hb
 by_cases hln : l.length = r.length
 rotate_left
 ·have d1 : ((l.length : Int) == (r.length : Int)) = false := beq_eq_false_iff_ne.2 (by omega)
  have d2 : ((l.length : Int) != (r.length : Int)) = true := bne_iff_ne.2 (by omega)
  have d3 : (l.length == r.length) = false := beq_eq_false_iff_ne.2 hln
  have d4 : (l.length != r.length) = true := bne_iff_ne.2 hln
  have HX := Aside0.mk (show (l == r) = false from beq_eq_false_iff_ne.2 fun e => hln (by rw [e]))
  clear hln
  go_enter Try.func111, Try.ntmps111
  go_wp2
  go_ret
  exact ⟨ret_b HX.out.symm, Below.refl _ _⟩
 have HLN := Aside0.mk hln
 have d1 : ((l.length : Int) == (r.length : Int)) = true := beq_iff_eq.2 (by omega)
 have d2 : ((l.length : Int) != (r.length : Int)) = false := bne_eq_false_iff_eq.2 (by omega)
 have d3 : (l.length == r.length) = true := beq_iff_eq.2 hln
 have d4 : (l.length != r.length) = false := bne_eq_false_iff_eq.2 hln
 clear hln
 go_enter Try.func111, Try.ntmps111
 go_wp2
 clear d1 d2 d3 d4
 go_loopg [13] 1000000 (fun gg s wr => ∃ x : Int, s = .int .i64 x ∧ Aside0 (0 ≤ x ∧ x ≤ l.length ∧ (l.length : Int) - x ≤ gg) ∧ Aside0 (l.take x.toNat = r.take x.toNat) ∧ Aside0 (Below w.heap.size w wr))
 case atStart => exact ⟨0, rfl, ⟨by have := HN.out; omega⟩, ⟨by simp⟩, ⟨Below.refl _ _⟩⟩
 case round =>
  obtain ⟨x, rfl, HX, HA, HB⟩ := hrel
  by_cases hlt : x < (l.length : Int)
  rotate_left
  ·have hd : decide (x < (l.length : Int)) = false := decide_eq_false hlt
   have HE := Aside0.mk (show (l == r) = true from beq_iff_eq.2 (same_end l r x hlt HLN.out HA.out))
   clear hlt
   go_wp2
   go_ret
   exact ⟨ret_b HE.out.symm, HB.out⟩
  have hd : decide (x < (l.length : Int)) = true := decide_eq_true hlt
  have HLT := Aside0.mk hlt
  clear hlt
  have HLT2 := Aside0.mk (show x < (r.length : Int) by have := HLT.out; have := HLN.out; omega)
  have p1 : (0 ≤ x) = True := eq_true HX.out.1
  have p2 : (x < (l.length : Int)) = True := eq_true HLT.out
  have p3 : (x < (r.length : Int)) = True := eq_true HLT2.out
  obtain ⟨ad, e1, hx⟩ := Kd.at_int (Kd.C_below HL.out HB.out) x HX.out.1 HLT.out
  subst e1
  obtain ⟨ad', e1, hy⟩ := Kd.at_int (Kd.C_below HR.out HB.out) x HX.out.1 HLT2.out
  subst e1
  have HST := Aside0.mk (take_same l r 0 x HX.out.1 HLT.out HLN.out HA.out)
  have hr1 : l.getD x.toNat 0 = rd l x := rfl
  have hr2 : r.getD x.toNat 0 = rd r x := rfl
  rw [hr1, hr2] at HST
  clear hr1 hr2
  have HNE := Aside0.mk (show rd l x ≠ rd r x → (l == r) = false from fun h => beq_eq_false_iff_ne.2 fun e => h (by rw [e]))
  generalize rd l x = u at hx HST HNE
  generalize rd r x = v at hy HST HNE
  cases hq : (u == v) with
  | false =>
   have hq2 : (u != v) = true := by rw [bne, hq]; rfl
   go_wp2
   go_quiet (fail)
   go_wp2
   go_ret
   exact ⟨ret_b (HNE.out (beq_eq_false_iff_ne.1 hq)).symm, pw_below_drewN HB.out _⟩
  | true =>
   have hq2 : (u != v) = false := by rw [bne, hq]; rfl
   go_wp2
   go_quiet (fail)
   go_wp2
   have W1 := Aside0.mk (show wrap64 (x + 1) = x + 1 from wrap_in _ (by have := HX.out; omega) (by have := HLT.out; have := HN.out; omega))
   go_roundg ((l.length : Int) - (x + 1)).toNat
   case measure => have h1_ := HX.out; have h2_ := HLT.out; omega
   case rel => exact ⟨x + 1, by first | (rw [W1.out]; done) | rfl | (simp only [W1.out]; done), ⟨by have := HX.out; have := HLT.out; omega⟩, ⟨HST.out (beq_iff_eq.1 hq)⟩, ⟨pw_below_drewN HB.out _⟩⟩
set_option maxHeartbeats 16000000 in
set_option maxRecDepth 100000 in
theorem equ_c (A : Option Addr) (c : Nat) (l : List Int) (A' : Option Addr) (c' : Nat) (r : List Int) (w : World) (hl : Kd.C (Kd.int .u16) w A l.length l) (hr : Kd.C (Kd.int .u16) w A' r.length r) (hb : l.length ≤ 1000000) :
  Calls Try.prog 110 #[.slice A l.length c, .slice A' r.length c'] w fun e w' => e = .returned (.bool (l == r)) ∧ Below w.heap.size w w' := by
 have HL := Aside0.mk hl
 have HR := Aside0.mk hr
 have HN := Aside0.mk hb
 clear hl hr hb
 by_cases hln : l.length = r.length
 rotate_left
 ·have d1 : ((l.length : Int) == (r.length : Int)) = false := beq_eq_false_iff_ne.2 (by omega)
  have d2 : ((l.length : Int) != (r.length : Int)) = true := bne_iff_ne.2 (by omega)
  have d3 : (l.length == r.length) = false := beq_eq_false_iff_ne.2 hln
  have d4 : (l.length != r.length) = true := bne_iff_ne.2 hln
  have HX := Aside0.mk (show (l == r) = false from beq_eq_false_iff_ne.2 fun e => hln (by rw [e]))
  clear hln
  go_enter Try.func110, Try.ntmps110
  go_wp2
  go_ret
  exact ⟨ret_b HX.out.symm, Below.refl _ _⟩
 have HLN := Aside0.mk hln
 have d1 : ((l.length : Int) == (r.length : Int)) = true := beq_iff_eq.2 (by omega)
 have d2 : ((l.length : Int) != (r.length : Int)) = false := bne_eq_false_iff_eq.2 (by omega)
 have d3 : (l.length == r.length) = true := beq_iff_eq.2 hln
 have d4 : (l.length != r.length) = false := bne_eq_false_iff_eq.2 hln
 clear hln
 go_enter Try.func110, Try.ntmps110
 go_wp2
 clear d1 d2 d3 d4
 go_loopg [13] 1000000 (fun gg s wr => ∃ x : Int, s = .int .i64 x ∧ Aside0 (0 ≤ x ∧ x ≤ l.length ∧ (l.length : Int) - x ≤ gg) ∧ Aside0 (l.take x.toNat = r.take x.toNat) ∧ Aside0 (Below w.heap.size w wr))
 case atStart => exact ⟨0, rfl, ⟨by have := HN.out; omega⟩, ⟨by simp⟩, ⟨Below.refl _ _⟩⟩
 case round =>
  obtain ⟨x, rfl, HX, HA, HB⟩ := hrel
  by_cases hlt : x < (l.length : Int)
  rotate_left
  ·have hd : decide (x < (l.length : Int)) = false := decide_eq_false hlt
   have HE := Aside0.mk (show (l == r) = true from beq_iff_eq.2 (same_end l r x hlt HLN.out HA.out))
   clear hlt
   go_wp2
   go_ret
   exact ⟨ret_b HE.out.symm, HB.out⟩
  have hd : decide (x < (l.length : Int)) = true := decide_eq_true hlt
  have HLT := Aside0.mk hlt
  clear hlt
  have HLT2 := Aside0.mk (show x < (r.length : Int) by have := HLT.out; have := HLN.out; omega)
  have p1 : (0 ≤ x) = True := eq_true HX.out.1
  have p2 : (x < (l.length : Int)) = True := eq_true HLT.out
  have p3 : (x < (r.length : Int)) = True := eq_true HLT2.out
  obtain ⟨ad, e1, hx⟩ := Kd.at_int (Kd.C_below HL.out HB.out) x HX.out.1 HLT.out
  subst e1
  obtain ⟨ad', e1, hy⟩ := Kd.at_int (Kd.C_below HR.out HB.out) x HX.out.1 HLT2.out
  subst e1
  have HST := Aside0.mk (take_same l r 0 x HX.out.1 HLT.out HLN.out HA.out)
  have hr1 : l.getD x.toNat 0 = rd l x := rfl
  have hr2 : r.getD x.toNat 0 = rd r x := rfl
  rw [hr1, hr2] at HST
  clear hr1 hr2
  have HNE := Aside0.mk (show rd l x ≠ rd r x → (l == r) = false from fun h => beq_eq_false_iff_ne.2 fun e => h (by rw [e]))
  generalize rd l x = u at hx HST HNE
  generalize rd r x = v at hy HST HNE
  cases hq : (u == v) with
  | false =>
   have hq2 : (u != v) = true := by rw [bne, hq]; rfl
   go_wp2
   go_quiet (fail)
   go_wp2
   go_ret
   exact ⟨ret_b (HNE.out (beq_eq_false_iff_ne.1 hq)).symm, pw_below_drewN HB.out _⟩
  | true =>
   have hq2 : (u != v) = false := by rw [bne, hq]; rfl
   go_wp2
   go_quiet (fail)
   go_wp2
   have W1 := Aside0.mk (show wrap64 (x + 1) = x + 1 from wrap_in _ (by have := HX.out; omega) (by have := HLT.out; have := HN.out; omega))
   go_roundg ((l.length : Int) - (x + 1)).toNat
   case measure => have h1_ := HX.out; have h2_ := HLT.out; omega
   case rel => exact ⟨x + 1, by first | (rw [W1.out]; done) | rfl | (simp only [W1.out]; done), ⟨by have := HX.out; have := HLT.out; omega⟩, ⟨HST.out (beq_iff_eq.1 hq)⟩, ⟨pw_below_drewN HB.out _⟩⟩
set_option maxHeartbeats 16000000 in
set_option maxRecDepth 100000 in
theorem sins_c (a : S49) (A : Option Addr) (c : Nat) (b : S49) (A' : Option Addr) (c' : Nat) (w : World) (hl : Kd.C (Kd.int .i64) w A a.f6.length a.f6) (hr : Kd.C (Kd.int .i64) w A' b.f6.length b.f6) (hb : a.f6.length ≤ 1000000) :
  Calls Try.prog 94 #[.agg #[.int .i64 a.f0, .int .i64 a.f1, .int .i64 a.f2, .int .i64 a.f3, .int .u16 a.f4, .int .i64 a.f5, .slice A a.f6.length c], .agg #[.int .i64 b.f0, .int .i64 b.f1, .int .i64 b.f2, .int .i64 b.f3, .int .u16 b.f4, .int .i64 b.f5, .slice A' b.f6.length c']] w fun e w' => e = .returned (.bool (insE a b)) ∧ Below w.heap.size w w' := by
 have HL := Aside0.mk hl
 have HR := Aside0.mk hr
 have HN := Aside0.mk hb
 clear hl hr hb
 have hu := Try.underlying49
 go_enter Try.func94, Try.ntmps94
 go_wp2_with (first | ((with_reducible refine gate_dst (N := 2) rfl ?_); refine box_event ?hg (N := 2) ?hd (cs := #[.int .i64 a.f0, .int .i64 a.f1, .int .i64 a.f2, .int .i64 a.f3, .int .u16 a.f4, .int .i64 a.f5, .slice A a.f6.length c]) (t := 49) ?hr ?_; (case hd => rfl); (case hg => rfl); (case hr => first | (go_simp; done) | (go_simp; rfl)); intro g1 hg w1 hbox hb; have HB := Aside0.mk hb; have X1 := Aside0.mk hbox; clear hbox hb hg) | ((with_reducible refine gate_dst (N := 3) rfl ?_); refine box_event ?hg (N := 3) ?hd (cs := #[.int .i64 b.f0, .int .i64 b.f1, .int .i64 b.f2, .int .i64 b.f3, .int .u16 b.f4, .int .i64 b.f5, .slice A' b.f6.length c']) (t := 49) ?hr ?_; (case hd => rfl); (case hg => rfl); (case hr => first | (go_simp; done) | (go_simp; rfl)); intro g2 hg w2 hbox hb; have n0_ := Aside0.mk (below_step HB.out hb); have n1_ := Aside0.mk (blk_below X1.out hb); clear HB X1; have HB := n0_; have X1 := n1_; clear n0_ n1_; have X2 := Aside0.mk hbox; clear hbox hb hg; have h0 := (blk_cell X1.out 0).trans rfl; have h1 := (blk_cell X1.out 1).trans rfl; have h2 := (blk_cell X1.out 2).trans rfl; have h3 := (blk_cell X1.out 3).trans rfl; have h4 := (blk_cell X1.out 4).trans rfl; have h5 := (blk_cell X1.out 5).trans rfl; have h6 := (blk_cell X1.out 6).trans rfl; have k0 := (blk_cell X2.out 0).trans rfl; have k1 := (blk_cell X2.out 1).trans rfl; have k2 := (blk_cell X2.out 2).trans rfl; have k3 := (blk_cell X2.out 3).trans rfl; have k4 := (blk_cell X2.out 4).trans rfl; have k5 := (blk_cell X2.out 5).trans rfl; have k6 := (blk_cell X2.out 6).trans rfl) | (go_at_call 111; (with_reducible refine (eqi_c A c a.f6 A' c' b.f6 _ (Kd.C_below HL.out HB.out) (Kd.C_below HR.out HB.out) HN.out).mono ?_); rintro e w6 ⟨rfl, hb⟩; have n0_ := Aside0.mk (below_step HB.out hb); have n1_ := Aside0.mk (blk_below X1.out hb); have n2_ := Aside0.mk (blk_below X2.out hb); clear HB X1 X2; have HB := n0_; have X1 := n1_; have X2 := n2_; clear n0_ n1_ n2_; clear hb h0 h1 h2 h3 h4 h5 h6 k0 k1 k2 k3 k4 k5 k6; have h0 := (blk_cell X1.out 0).trans rfl; have h1 := (blk_cell X1.out 1).trans rfl; have h2 := (blk_cell X1.out 2).trans rfl; have h3 := (blk_cell X1.out 3).trans rfl; have h4 := (blk_cell X1.out 4).trans rfl; have h5 := (blk_cell X1.out 5).trans rfl; have h6 := (blk_cell X1.out 6).trans rfl; have k0 := (blk_cell X2.out 0).trans rfl; have k1 := (blk_cell X2.out 1).trans rfl; have k2 := (blk_cell X2.out 2).trans rfl; have k3 := (blk_cell X2.out 3).trans rfl; have k4 := (blk_cell X2.out 4).trans rfl; have k5 := (blk_cell X2.out 5).trans rfl; have k6 := (blk_cell X2.out 6).trans rfl))
 all_goals (go_ret; exact ⟨ret_b (by simp [insE, *]), HB.out⟩)
set_option maxHeartbeats 16000000 in
set_option maxRecDepth 100000 in
theorem send_c (a : S39) (A : Option Addr) (c : Nat) (b : S39) (A' : Option Addr) (c' : Nat) (w : World) (hl : Kd.C (Kd.int .i64) w A a.f4.length a.f4) (hr : Kd.C (Kd.int .i64) w A' b.f4.length b.f4) (hb : a.f4.length ≤ 1000000) :
  Calls Try.prog 95 #[.agg #[.int .i64 a.f0, .int .i64 a.f1, .int .i64 a.f2, .int .i64 a.f3, .slice A a.f4.length c, .int .i64 a.f5, .int .i64 a.f6, .int .i64 a.f7], .agg #[.int .i64 b.f0, .int .i64 b.f1, .int .i64 b.f2, .int .i64 b.f3, .slice A' b.f4.length c', .int .i64 b.f5, .int .i64 b.f6, .int .i64 b.f7]] w fun e w' => e = .returned (.bool (endE a b)) ∧ Below w.heap.size w w' := by
 have HL := Aside0.mk hl
 have HR := Aside0.mk hr
 have HN := Aside0.mk hb
 clear hl hr hb
 have hu := Try.underlying39
 go_enter Try.func95, Try.ntmps95
 go_wp2_with (first | ((with_reducible refine gate_dst (N := 2) rfl ?_); refine box_event ?hg (N := 2) ?hd (cs := #[.int .i64 a.f0, .int .i64 a.f1, .int .i64 a.f2, .int .i64 a.f3, .slice A a.f4.length c, .int .i64 a.f5, .int .i64 a.f6, .int .i64 a.f7]) (t := 39) ?hr ?_; (case hd => rfl); (case hg => rfl); (case hr => first | (go_simp; done) | (go_simp; rfl)); intro g1 hg w1 hbox hb; have HB := Aside0.mk hb; have X1 := Aside0.mk hbox; clear hbox hb hg) | ((with_reducible refine gate_dst (N := 3) rfl ?_); refine box_event ?hg (N := 3) ?hd (cs := #[.int .i64 b.f0, .int .i64 b.f1, .int .i64 b.f2, .int .i64 b.f3, .slice A' b.f4.length c', .int .i64 b.f5, .int .i64 b.f6, .int .i64 b.f7]) (t := 39) ?hr ?_; (case hd => rfl); (case hg => rfl); (case hr => first | (go_simp; done) | (go_simp; rfl)); intro g2 hg w2 hbox hb; have n0_ := Aside0.mk (below_step HB.out hb); have n1_ := Aside0.mk (blk_below X1.out hb); clear HB X1; have HB := n0_; have X1 := n1_; clear n0_ n1_; have X2 := Aside0.mk hbox; clear hbox hb hg; have h0 := (blk_cell X1.out 0).trans rfl; have h1 := (blk_cell X1.out 1).trans rfl; have h2 := (blk_cell X1.out 2).trans rfl; have h3 := (blk_cell X1.out 3).trans rfl; have h4 := (blk_cell X1.out 4).trans rfl; have h5 := (blk_cell X1.out 5).trans rfl; have h6 := (blk_cell X1.out 6).trans rfl; have h7 := (blk_cell X1.out 7).trans rfl; have k0 := (blk_cell X2.out 0).trans rfl; have k1 := (blk_cell X2.out 1).trans rfl; have k2 := (blk_cell X2.out 2).trans rfl; have k3 := (blk_cell X2.out 3).trans rfl; have k4 := (blk_cell X2.out 4).trans rfl; have k5 := (blk_cell X2.out 5).trans rfl; have k6 := (blk_cell X2.out 6).trans rfl; have k7 := (blk_cell X2.out 7).trans rfl) | (go_at_call 111; (with_reducible refine (eqi_c A c a.f4 A' c' b.f4 _ (Kd.C_below HL.out HB.out) (Kd.C_below HR.out HB.out) HN.out).mono ?_); rintro e w6 ⟨rfl, hb⟩; have n0_ := Aside0.mk (below_step HB.out hb); have n1_ := Aside0.mk (blk_below X1.out hb); have n2_ := Aside0.mk (blk_below X2.out hb); clear HB X1 X2; have HB := n0_; have X1 := n1_; have X2 := n2_; clear n0_ n1_ n2_; clear hb h0 h1 h2 h3 h4 h5 h6 h7 k0 k1 k2 k3 k4 k5 k6 k7; have h0 := (blk_cell X1.out 0).trans rfl; have h1 := (blk_cell X1.out 1).trans rfl; have h2 := (blk_cell X1.out 2).trans rfl; have h3 := (blk_cell X1.out 3).trans rfl; have h4 := (blk_cell X1.out 4).trans rfl; have h5 := (blk_cell X1.out 5).trans rfl; have h6 := (blk_cell X1.out 6).trans rfl; have h7 := (blk_cell X1.out 7).trans rfl; have k0 := (blk_cell X2.out 0).trans rfl; have k1 := (blk_cell X2.out 1).trans rfl; have k2 := (blk_cell X2.out 2).trans rfl; have k3 := (blk_cell X2.out 3).trans rfl; have k4 := (blk_cell X2.out 4).trans rfl; have k5 := (blk_cell X2.out 5).trans rfl; have k6 := (blk_cell X2.out 6).trans rfl; have k7 := (blk_cell X2.out 7).trans rfl))
 all_goals (go_ret; exact ⟨ret_b (by simp [endE, *]), HB.out⟩)
set_option maxHeartbeats 16000000 in
set_option maxRecDepth 100000 in
theorem spad_c (a : S35) (A : Option Addr) (c : Nat) (b : S35) (A' : Option Addr) (c' : Nat) (w : World) (hl : Kd.C (Kd.int .u16) w A a.f1.length a.f1) (hr : Kd.C (Kd.int .u16) w A' b.f1.length b.f1) (hb : a.f1.length ≤ 1000000) :
  Calls Try.prog 92 #[.agg #[.int .i64 a.f0, .slice A a.f1.length c, .bool a.f2, .bool a.f3], .agg #[.int .i64 b.f0, .slice A' b.f1.length c', .bool b.f2, .bool b.f3]] w fun e w' => e = .returned (.bool (padE a b)) ∧ Below w.heap.size w w' := by
 have HL := Aside0.mk hl
 have HR := Aside0.mk hr
 have HN := Aside0.mk hb
 clear hl hr hb
 have hu := Try.underlying35
 go_enter Try.func92, Try.ntmps92
 go_wp2_with (first | ((with_reducible refine gate_dst (N := 2) rfl ?_); refine box_event ?hg (N := 2) ?hd (cs := #[.int .i64 a.f0, .slice A a.f1.length c, .bool a.f2, .bool a.f3]) (t := 35) ?hr ?_; (case hd => rfl); (case hg => rfl); (case hr => first | (go_simp; done) | (go_simp; rfl)); intro g1 hg w1 hbox hb; have HB := Aside0.mk hb; have X1 := Aside0.mk hbox; clear hbox hb hg) | ((with_reducible refine gate_dst (N := 3) rfl ?_); refine box_event ?hg (N := 3) ?hd (cs := #[.int .i64 b.f0, .slice A' b.f1.length c', .bool b.f2, .bool b.f3]) (t := 35) ?hr ?_; (case hd => rfl); (case hg => rfl); (case hr => first | (go_simp; done) | (go_simp; rfl)); intro g2 hg w2 hbox hb; have n0_ := Aside0.mk (below_step HB.out hb); have n1_ := Aside0.mk (blk_below X1.out hb); clear HB X1; have HB := n0_; have X1 := n1_; clear n0_ n1_; have X2 := Aside0.mk hbox; clear hbox hb hg; have h0 := (blk_cell X1.out 0).trans rfl; have h1 := (blk_cell X1.out 1).trans rfl; have h2 := (blk_cell X1.out 2).trans rfl; have h3 := (blk_cell X1.out 3).trans rfl; have k0 := (blk_cell X2.out 0).trans rfl; have k1 := (blk_cell X2.out 1).trans rfl; have k2 := (blk_cell X2.out 2).trans rfl; have k3 := (blk_cell X2.out 3).trans rfl) | (go_at_call 110; (with_reducible refine (equ_c A c a.f1 A' c' b.f1 _ (Kd.C_below HL.out HB.out) (Kd.C_below HR.out HB.out) HN.out).mono ?_); rintro e w6 ⟨rfl, hb⟩; have n0_ := Aside0.mk (below_step HB.out hb); have n1_ := Aside0.mk (blk_below X1.out hb); have n2_ := Aside0.mk (blk_below X2.out hb); clear HB X1 X2; have HB := n0_; have X1 := n1_; have X2 := n2_; clear n0_ n1_ n2_; clear hb h0 h1 h2 h3 k0 k1 k2 k3; have h0 := (blk_cell X1.out 0).trans rfl; have h1 := (blk_cell X1.out 1).trans rfl; have h2 := (blk_cell X1.out 2).trans rfl; have h3 := (blk_cell X1.out 3).trans rfl; have k0 := (blk_cell X2.out 0).trans rfl; have k1 := (blk_cell X2.out 1).trans rfl; have k2 := (blk_cell X2.out 2).trans rfl; have k3 := (blk_cell X2.out 3).trans rfl))
 all_goals (go_ret; exact ⟨ret_b (by simp [padE, *]), HB.out⟩)
end Go.Proofs.Ytbfialebaoeicaa.X
namespace Go.Proofs.Ytbfialebaoeicaa.X
open Go.RowKit Go.Proofs.YtbfialebaoeicaaW.PrintWords Go.Proofs.YtbfialebaoeicaaW.PrintLast Go.Proofs.YtbfialebaoeicaaW.PrintMore
set_option linter.all false
theorem same_l0 (F Bl At : Int) (l : List Int) (Fly F' Bl' At' : Int) (r : List Int) (Fly' : Int) (hn : l.length = r.length) (hm : l.length ≤ 1000000) : ∀ (d : Nat) (x : Int), 0 ≤ x → x + d = l.length → l.take x.toNat = r.take x.toNat →
  davitref05_Same.l0 (d + 1) x F Bl At l Fly F' Bl' At' r Fly' = some (l == r)
 | 0, x, h0, h1, h2 => by
  rw [davitref05_Same.l0]
  rw [if_neg (by omega), beq_iff_eq.2 (same_end l r x (by omega) hn h2)]
 | d + 1, x, h0, h1, h2 => by
  rw [davitref05_Same.l0]
  rw [if_pos (by omega), if_pos h0, if_pos (by omega)]
  by_cases h3 : rd l x = rd r x
  ·rw [if_pos h3, wrap_in (x + 1) (by omega) (by omega)]
   exact same_l0 F Bl At l Fly F' Bl' At' r Fly' hn hm d (x + 1) (by omega) (by omega) (take_same l r 0 x h0 (by omega) hn h2 h3)
  ·rw [if_neg h3, beq_eq_false_iff_ne.2 (fun e => h3 (by rw [e]))]
theorem same_f (F Bl At : Int) (l : List Int) (Fly F' Bl' At' : Int) (r : List Int) (Fly' : Int) (hm : l.length ≤ 1000000) :
  davitref05_Same.f (l.length + 2) F Bl At l Fly F' Bl' At' r Fly' = some (decide (F = F') && decide (Bl = Bl') && decide (At = At') && decide (Fly = Fly') && (l == r)) := by
 unfold davitref05_Same.f
 by_cases h1 : F = F'
 ·rw [if_pos h1, decide_eq_true h1]
  by_cases h2 : Bl = Bl'
  ·rw [if_pos h2, decide_eq_true h2]
   by_cases h3 : At = At'
   ·rw [if_pos h3, decide_eq_true h3]
    by_cases h4 : Fly = Fly'
    ·rw [if_pos h4, decide_eq_true h4]
     by_cases h5 : l.length = r.length
     ·rw [show ((l.length : Int) != (r.length : Int)) = false from bne_eq_false_iff_eq.2 (by omega)]
      rw [davitref05_Same.j0]
      rw [if_neg (by simp), same_l0 F Bl At l Fly F' Bl' At' r Fly' h5 hm l.length 0 (by omega) (by omega) (by simp)]
      rfl
     ·rw [show ((l.length : Int) != (r.length : Int)) = true from bne_iff_ne.2 (by omega)]
      rw [davitref05_Same.j0]
      rw [if_pos rfl, beq_eq_false_iff_ne.2 (fun e => h5 (by rw [e]))]
      simp
    ·rw [if_neg h4, decide_eq_false h4]
     rw [davitref05_Same.j0]
     simp
   ·rw [if_neg h3, decide_eq_false h3]
    rw [davitref05_Same.j0]
    simp
  ·rw [if_neg h2, decide_eq_false h2]
   rw [davitref05_Same.j0]
   simp
 ·rw [if_neg h1, decide_eq_false h1]
  rw [davitref05_Same.j0]
  simp
def sameW (F Bl At : Int) (l : List Int) (Fly F' Bl' At' : Int) (r : List Int) (Fly' : Int) : Bool := decide (F = F') && decide (Bl = Bl') && decide (At = At') && decide (Fly = Fly') && (l == r)
theorem sameW_refl (F Bl At : Int) (l : List Int) (Fly : Int) : sameW F Bl At l Fly F Bl At l Fly = true := by simp [sameW]
theorem same5_c (F Bl At : Int) (A : Option Addr) (c : Nat) (l : List Int) (Fly F' Bl' At' : Int) (A' : Option Addr) (c' : Nat) (r : List Int) (Fly' : Int) (w : World) (hl : Kd.C (Kd.int .u16) w A l.length l) (hc : l.length ≤ c) (hr : Kd.C (Kd.int .u16) w A' r.length r) (hc' : r.length ≤ c') (hm : l.length ≤ 1000000) :
  Calls Try.prog 29 #[.agg #[.int .i64 F, .int .i64 Bl, .int .i64 At, .slice A l.length c, .int .u16 Fly], .agg #[.int .i64 F', .int .i64 Bl', .int .i64 At', .slice A' r.length c', .int .u16 Fly']] w fun e w' => e = .returned (.bool (sameW F Bl At l Fly F' Bl' At' r Fly')) ∧ Below w.heap.size w w' :=
 davitref05_Same.calls (l.length + 2) F Bl At A c l Fly F' Bl' At' A' c' r Fly' _ w hl hc hr hc' (same_f F Bl At l Fly F' Bl' At' r Fly' hm)
end Go.Proofs.Ytbfialebaoeicaa.X
namespace Go.Proofs.Ytbfialebaoeicaa.X
open Go.RowKit Go.Proofs.YtbfialebaoeicaaW.PrintWords Go.Proofs.YtbfialebaoeicaaW.PrintLast Go.Proofs.YtbfialebaoeicaaW.PrintMore
attribute [local go_sem] max2_int min2_int max_two min_two max_three min_three max_four min_four
set_option linter.all false
noncomputable section
def slices_Index_uint16_uint16.l0 : Nat → List Int → Int → Int → Int → Option (Int)
 | 0, _, _, _, _ => none
 | k + 1, x0, x1, x7, x8 => if x8 < x7 then (if 0 ≤ x8 then (if x8 < (x0.length : Int) then (if x1 = (rd x0 x8) then (some x8) else (slices_Index_uint16_uint16.l0 k x0 x1 x7 (wrap64 (x8 + 1)))) else (none)) else (none)) else (some (-1))
def slices_Index_uint16_uint16.f (k : Nat) (l0 : List Int) (a1 : Int) : Option (Int) := slices_Index_uint16_uint16.l0 k l0 a1 (l0.length : Int) 0
theorem slices_Index_uint16_uint16.mono_l : ∀ k, (∀ y0 y1 y2 y3, LeO (slices_Index_uint16_uint16.l0 k y0 y1 y2 y3) (slices_Index_uint16_uint16.l0 (k + 1) y0 y1 y2 y3))
 | 0 => fun _ _ _ _ r h => by simp [slices_Index_uint16_uint16.l0] at h
 | k + 1 => by
  have ih0 := slices_Index_uint16_uint16.mono_l k
  ·intro y0 y1 y2 y3
   unfold slices_Index_uint16_uint16.l0
   repeat' first
   | (with_reducible exact ih0 _ _ _ _)
   | (with_reducible exact LeO.refl _)
   | (with_reducible exact LeO.none _)
   | (with_reducible refine LeO.ite ?_ ?_)
   | (with_reducible refine LeO.bind ?_ (fun _ => ?_))
   | exact ih0 _ _ _ _
   | exact LeO.none _
   | refine LeO.ite ?_ ?_
   | refine LeO.bind ?_ (fun _ => ?_)
theorem slices_Index_uint16_uint16.mono : ∀ a0 a1 k, LeO (slices_Index_uint16_uint16.f k a0 a1) (slices_Index_uint16_uint16.f (k + 1) a0 a1) := by
 intro a0 a1 k
 have ih0 := slices_Index_uint16_uint16.mono_l k
 unfold slices_Index_uint16_uint16.f
 repeat' first
   | (with_reducible exact ih0 _ _ _ _)
   | (with_reducible exact LeO.refl _)
   | (with_reducible exact LeO.none _)
   | (with_reducible refine LeO.ite ?_ ?_)
   | (with_reducible refine LeO.bind ?_ (fun _ => ?_))
   | exact ih0 _ _ _ _
   | exact LeO.none _
   | refine LeO.ite ?_ ?_
   | refine LeO.bind ?_ (fun _ => ?_)
set_option maxHeartbeats 8000000 in
set_option maxRecDepth 100000 in
theorem slices_Index_uint16_uint16.calls (k : Nat) (A0 : Option Addr) (c0 : Nat) (l0 : List Int) (a1 : Int) (r : Int) (w : World) (hr0 : Kd.C (Kd.int .u16) w A0 l0.length l0) (hc0 : l0.length ≤ c0) (h : slices_Index_uint16_uint16.f k l0 a1 = some r) :
  Calls Try.prog 98 #[.slice A0 l0.length c0, .int .u16 a1] w fun e w' => e = .returned (.int .i64 r) ∧ Drawn0 w w' := by
 have HR0 := Aside0.mk hr0
 have HC0 := Aside0.mk hc0
 clear hr0 hc0
 have H : (slices_Index_uint16_uint16.l0 k l0 a1 (l0.length : Int) 0) = some r := h
 clear h
 have H' := Aside0.mk H
 clear H
 go_enter Try.func98, Try.ntmps98
 go_wp2
 go_loopg [8] k (fun kq v8 w' => ∃ (x8_1 : Int), v8 = .int .i64 x8_1 ∧ Aside0 (slices_Index_uint16_uint16.l0 kq l0 a1 (l0.length : Int) x8_1 = some r) ∧ Aside0 (kq ≤ k) ∧ Drawn0 w w')
 case atStart => exact ⟨(0), (by first | rfl | (simp; done) | (simp [*]; done)), H', ⟨Nat.le_refl _⟩, by repeat (first | exact Drawn0.refl _ | apply Drawn0.step)⟩
 case round =>
  clear H'
  try clear p2
  obtain ⟨x8_1, rfl, HA, HK1, ⟨m1, rfl⟩⟩ := hrel
  cases gk with
  | zero => exact absurd HA.out (by simp [slices_Index_uint16_uint16.l0])
  | succ k1 =>
   have H := HA.out
   clear HA
   simp only [slices_Index_uint16_uint16.l0] at H
   by_cases c3 : x8_1 < (l0.length : Int)
   ·rw [if_pos c3] at H
    have c3b0 : decide (x8_1 < (l0.length : Int)) = true := decide_eq_true c3
    clear c3
    by_cases c4 : 0 ≤ x8_1
    ·rw [if_pos c4] at H
     have c4b0 : decide (0 ≤ x8_1) = true := decide_eq_true c4
     clear c4
     by_cases c5 : x8_1 < (l0.length : Int)
     ·rw [if_pos c5] at H
      have c5b0 : decide (x8_1 < (l0.length : Int)) = true := decide_eq_true c5
      clear c5
      by_cases c6 : a1 = (rd l0 x8_1)
      ·rw [if_pos c6] at H
       have c6b0 : (a1 == (rd l0 x8_1)) = true := beq_iff_eq.mpr c6
       have c6b1 : (a1 != (rd l0 x8_1)) = false := bne_eq_false_iff_eq.mpr c6
       clear c6
       obtain rfl := Option.some.inj H
       have p134 : 0 ≤ (x8_1 : Int) := of_decide_eq_true (by first | (with_reducible assumption) | assumption)
       have q134 : x8_1 < (l0.length : Int) := of_decide_eq_true (by first | (with_reducible assumption) | assumption)
       obtain ⟨ad134, e134, hx134_0⟩ := Kd.at_int HR0.out x8_1 p134 q134
       cases e134
       replace p134 := eq_true p134
       replace q134 := eq_true q134
       go_wp2
       go_ret
       exact ⟨by first | rfl | (simp; done) | (simp [*]; done), by repeat (first | exact Drawn0.refl _ | apply Drawn0.step)⟩
      ·rw [if_neg c6] at H
       have c6b0 : (a1 == (rd l0 x8_1)) = false := beq_eq_false_iff_ne.mpr c6
       have c6b1 : (a1 != (rd l0 x8_1)) = true := bne_iff_ne.mpr c6
       have H' := Aside0.mk H
       clear H
       have p134 : 0 ≤ (x8_1 : Int) := of_decide_eq_true (by first | (with_reducible assumption) | assumption)
       have q134 : x8_1 < (l0.length : Int) := of_decide_eq_true (by first | (with_reducible assumption) | assumption)
       obtain ⟨ad134, e134, hx134_0⟩ := Kd.at_int HR0.out x8_1 p134 q134
       cases e134
       replace p134 := eq_true p134
       replace q134 := eq_true q134
       go_wp2
       go_roundg k1
       case measure => have := HK1.out; omega
       case rel => exact ⟨(wrap64 (x8_1 + 1)), (by first | rfl | (simp; done) | (simp [*]; done)), H', ⟨by have := HK1.out; omega⟩, by repeat (first | exact Drawn0.refl _ | apply Drawn0.step)⟩
     ·rw [if_neg c5] at H
      exact absurd H (by simp)
    ·rw [if_neg c4] at H
     exact absurd H (by simp)
   ·rw [if_neg c3] at H
    have c3b0 : decide (x8_1 < (l0.length : Int)) = false := decide_eq_false c3
    clear c3
    obtain rfl := Option.some.inj H
    go_wp2
    go_ret
    exact ⟨by first | rfl | (simp; done) | (simp [*]; done), by repeat (first | exact Drawn0.refl _ | apply Drawn0.step)⟩
end
end Go.Proofs.Ytbfialebaoeicaa.X
namespace Go.Proofs.Ytbfialebaoeicaa.X
open Go.RowKit Go.Proofs.YtbfialebaoeicaaW.PrintWords Go.Proofs.YtbfialebaoeicaaW.PrintLast Go.Proofs.YtbfialebaoeicaaW.PrintMore
attribute [local go_sem] max2_int min2_int max_two min_two max_three min_three max_four min_four
set_option linter.all false
noncomputable section
def slices_Contains_uint16_uint16.f (k : Nat) (l0 : List Int) (a1 : Int) : Option (Bool) := (slices_Index_uint16_uint16.f k l0 a1).bind fun t135 => (some (decide (t135 ≥ 0)))
theorem slices_Contains_uint16_uint16.mono : ∀ a0 a1 k, LeO (slices_Contains_uint16_uint16.f k a0 a1) (slices_Contains_uint16_uint16.f (k + 1) a0 a1) := by
 intro a0 a1 k
 unfold slices_Contains_uint16_uint16.f
 repeat' first
   | (with_reducible exact slices_Index_uint16_uint16.mono _ _ _)
   | (with_reducible exact LeO.refl _)
   | (with_reducible exact LeO.none _)
   | (with_reducible refine LeO.ite ?_ ?_)
   | (with_reducible refine LeO.bind ?_ (fun _ => ?_))
   | exact slices_Index_uint16_uint16.mono _ _ _
   | exact LeO.none _
   | refine LeO.ite ?_ ?_
   | refine LeO.bind ?_ (fun _ => ?_)
set_option maxHeartbeats 8000000 in
set_option maxRecDepth 100000 in
theorem slices_Contains_uint16_uint16.calls (k : Nat) (A0 : Option Addr) (c0 : Nat) (l0 : List Int) (a1 : Int) (r : Bool) (w : World) (hr0 : Kd.C (Kd.int .u16) w A0 l0.length l0) (hc0 : l0.length ≤ c0) (h : slices_Contains_uint16_uint16.f k l0 a1 = some r) :
  Calls Try.prog 75 #[.slice A0 l0.length c0, .int .u16 a1] w fun e w' => e = .returned (.bool r) ∧ Drawn0 w w' := by
 have HR0 := Aside0.mk hr0
 have HC0 := Aside0.mk hc0
 clear hr0 hc0
 have H : ((slices_Index_uint16_uint16.f k l0 a1).bind fun t135 => (some (decide (t135 ≥ 0)))) = some r := h
 clear h
 replace H := Option.bind_eq_some_iff.mp H
 obtain ⟨t135, A30, H⟩ := H
 replace H : (some (decide (t135 ≥ 0))) = some r := H
 have A3 := Aside0.mk A30
 clear A30
 obtain rfl := Option.some.inj H
 go_enter Try.func75, Try.ntmps75
 go_wp2_with (first | ((with_reducible refine gate_callee (f := 98) rfl ?_); refine goesL_ (some 7) rfl rfl Try.func98 (by kernel_rfl) rfl #[.slice A0 l0.length c0, .int .u16 a1] rfl (by (try simp only [List.map_toArray, List.map_cons, List.map_nil]); first | done | rfl | (simp only [List.length_drop, List.length_take]; rfl)) ?_; (with_reducible refine (slices_Index_uint16_uint16.calls k _ _ l0 a1 t135 _ ?side1 ?side2 A3.out).mono ?_); (case side1 => repeat (first | exact HR0.out | (with_reducible refine Kd.C_alloc ?_ _) | (with_reducible refine Kd.C_drewN ?_ _) | (with_reducible refine Kd.C_drew ?_))); (case side2 => exact HC0.out); rintro e w' ⟨rfl, ⟨nd, rfl⟩⟩; refine ⟨_, rfl, ?_⟩))
 go_ret
 exact ⟨by first | rfl | (simp; done) | (simp [*]; done), by repeat (first | exact Drawn0.refl _ | apply Drawn0.step)⟩
end
end Go.Proofs.Ytbfialebaoeicaa.X
