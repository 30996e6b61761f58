/- Part 6 of the proof of the statement ShapeCopies: the words of the walks, the walks through the functions that it reaches, and the plain laws of what they compute. -/
import Derived.Test.YtbfialebaoeicaaMShapeCopies4
import Derived.RegionTactic
import Derived.ChangeAlike
import Derived.Deep.QuietTactic
import Derived.BigQuiet
namespace Go.Proofs.Ytbfialebaoeicaa.X
open Go.RowKit Go.Proofs.YtbfialebaoeicaaW.PrintWords Go.Proofs.YtbfialebaoeicaaW.PrintLast Go.Proofs.YtbfialebaoeicaaW.PrintMore
set_option linter.all false
theorem take_same {α : Type} (l r : List α) (z : α) (x : Int) (h0 : 0 ≤ x) (h1 : x < (l.length : Int)) (h2 : l.length = r.length) (h : l.take x.toNat = r.take x.toNat) (e : l.getD x.toNat z = r.getD x.toNat z) : l.take (x + 1).toNat = r.take (x + 1).toNat := by
 have e1 : (x + 1).toNat = x.toNat + 1 := by omega
 have hl : x.toNat < l.length := by omega
 have hr : x.toNat < r.length := by omega
 rw [List.getD_eq_getElem?_getD, List.getD_eq_getElem?_getD, List.getElem?_eq_getElem hl, List.getElem?_eq_getElem hr] at e
 rw [e1, List.take_succ_eq_append_getElem hl, List.take_succ_eq_append_getElem hr, h]
 rw [show l[x.toNat] = r[x.toNat] from e]
theorem same_end {α : Type} (l r : List α) (x : Int) (h1 : ¬ x < (l.length : Int)) (h2 : l.length = r.length) (h : l.take x.toNat = r.take x.toNat) : l = r := by rwa [List.take_of_length_le (by omega), List.take_of_length_le (by omega)] at h
def insE (a b : S49) : Bool := (a.f0 == b.f0) && (a.f1 == b.f1) && (a.f2 == b.f2) && (a.f3 == b.f3) && (a.f4 == b.f4) && (a.f5 == b.f5) && (a.f6 == b.f6)
def endE (a b : S39) : Bool := (a.f0 == b.f0) && (a.f1 == b.f1) && (a.f2 == b.f2) && (a.f3 == b.f3) && (a.f4 == b.f4) && (a.f5 == b.f5) && (a.f6 == b.f6) && (a.f7 == b.f7)
def padE (a b : S35) : Bool := (a.f0 == b.f0) && (a.f1 == b.f1) && (a.f2 == b.f2) && (a.f3 == b.f3)
theorem insE_iff (a b : S49) : insE a b = true ↔ a = b := by
 cases a; cases b; simp [insE, and_assoc]
theorem endE_iff (a b : S39) : endE a b = true ↔ a = b := by
 cases a; cases b; simp [endE, and_assoc]
theorem padE_iff (a b : S35) : padE a b = true ↔ a = b := by
 cases a; cases b; simp [padE, and_assoc]
set_option maxHeartbeats 16000000 in
set_option maxRecDepth 100000 in
theorem eqi_c (A : Option Addr) (c : Nat) (l : List Int) (A' : Option Addr) (c' : Nat) (r : List Int) (w : World) (hl : Kd.C (Kd.int .i64) w A l.length l) (hr : Kd.C (Kd.int .i64) w A' r.length r) (hb : l.length ≤ 1000000) :
  Calls Try.prog 111 #[.slice A l.length c, .slice A' r.length c'] w fun e w' => e = .returned (.bool (l == r)) ∧ Below w.heap.size w w' := by
 have HL := Aside0.mk hl
 have HR := Aside0.mk hr
 have HN := Aside0.mk hb
 clear hl hr hb
 by_cases hln : l.length = r.length
 rotate_left
 ·have d1 : ((l.length : Int) == (r.length : Int)) = false := beq_eq_false_iff_ne.2 (by omega)
  have d2 : ((l.length : Int) != (r.length : Int)) = true := bne_iff_ne.2 (by omega)
  have d3 : (l.length == r.length) = false := beq_eq_false_iff_ne.2 hln
  have d4 : (l.length != r.length) = true := bne_iff_ne.2 hln
  have HX := Aside0.mk (show (l == r) = false from beq_eq_false_iff_ne.2 fun e => hln (by rw [e]))
  clear hln
  go_enter Try.func111, Try.ntmps111
  go_wp2
  go_ret
  exact ⟨ret_b HX.out.symm, Below.refl _ _⟩
 have HLN := Aside0.mk hln
 have d1 : ((l.length : Int) == (r.length : Int)) = true := beq_iff_eq.2 (by omega)
 have d2 : ((l.length : Int) != (r.length : Int)) = false := bne_eq_false_iff_eq.2 (by omega)
 have d3 : (l.length == r.length) = true := beq_iff_eq.2 hln
 have d4 : (l.length != r.length) = false := bne_eq_false_iff_eq.2 hln
 clear hln
 go_enter Try.func111, Try.ntmps111
 go_wp2
 clear d1 d2 d3 d4
 go_loopg [13] 1000000 (fun gg s wr => ∃ x : Int, s = .int .i64 x ∧ Aside0 (0 ≤ x ∧ x ≤ l.length ∧ (l.length : Int) - x ≤ gg) ∧ Aside0 (l.take x.toNat = r.take x.toNat) ∧ Aside0 (Below w.heap.size w wr))
 case atStart => exact ⟨0, rfl, ⟨by have := HN.out; omega⟩, ⟨by simp⟩, ⟨Below.refl _ _⟩⟩
 case round =>
  obtain ⟨x, rfl, HX, HA, HB⟩ := hrel
  by_cases hlt : x < (l.length : Int)
  rotate_left
  ·have hd : decide (x < (l.length : Int)) = false := decide_eq_false hlt
   have HE := Aside0.mk (show (l == r) = true from beq_iff_eq.2 (same_end l r x hlt HLN.out HA.out))
   clear hlt
   go_wp2
   go_ret
   exact ⟨ret_b HE.out.symm, HB.out⟩
  have hd : decide (x < (l.length : Int)) = true := decide_eq_true hlt
  have HLT := Aside0.mk hlt
  clear hlt
  have HLT2 := Aside0.mk (show x < (r.length : Int) by have := HLT.out; have := HLN.out; omega)
  have p1 : (0 ≤ x) = True := eq_true HX.out.1
  have p2 : (x < (l.length : Int)) = True := eq_true HLT.out
  have p3 : (x < (r.length : Int)) = True := eq_true HLT2.out
  obtain ⟨ad, e1, hx⟩ := Kd.at_int (Kd.C_below HL.out HB.out) x HX.out.1 HLT.out
  subst e1
  obtain ⟨ad', e1, hy⟩ := Kd.at_int (Kd.C_below HR.out HB.out) x HX.out.1 HLT2.out
  subst e1
  have HST := Aside0.mk (take_same l r 0 x HX.out.1 HLT.out HLN.out HA.out)
  have hr1 : l.getD x.toNat 0 = rd l x := rfl
  have hr2 : r.getD x.toNat 0 = rd r x := rfl
  rw [hr1, hr2] at HST
  clear hr1 hr2
  have HNE := Aside0.mk (show rd l x ≠ rd r x → (l == r) = false from fun h => beq_eq_false_iff_ne.2 fun e => h (by rw [e]))
  generalize rd l x = u at hx HST HNE
  generalize rd r x = v at hy HST HNE
  cases hq : (u == v) with
  | false =>
   have hq2 : (u != v) = true := by rw [bne, hq]; rfl
   go_wp2
   go_quiet (fail)
   go_wp2
   go_ret
   exact ⟨ret_b (HNE.out (beq_eq_false_iff_ne.1 hq)).symm, pw_below_drewN HB.out _⟩
  | true =>
   have hq2 : (u != v) = false := by rw [bne, hq]; rfl
   go_wp2
   go_quiet (fail)
   go_wp2
   have W1 := Aside0.mk (show wrap64 (x + 1) = x + 1 from wrap_in _ (by have := HX.out; omega) (by have := HLT.out; have := HN.out; omega))
   go_roundg ((l.length : Int) - (x + 1)).toNat
   case measure => have h1_ := HX.out; have h2_ := HLT.out; omega
   case rel => exact ⟨x + 1, by first | (rw [W1.out]; done) | rfl | (simp only [W1.out]; done), ⟨by have := HX.out; have := HLT.out; omega⟩, ⟨HST.out (beq_iff_eq.1 hq)⟩, ⟨pw_below_drewN HB.out _⟩⟩
set_option maxHeartbeats 16000000 in
set_option maxRecDepth 100000 in
theorem equ_c (A : Option Addr) (c : Nat) (l : List Int) (A' : Option Addr) (c' : Nat) (r : List Int) (w : World) (hl : Kd.C (Kd.int .u16) w A l.length l) (hr : Kd.C (Kd.int .u16) w A' r.length r) (hb : l.length ≤ 1000000) :
  Calls Try.prog 110 #[.slice A l.length c, .slice A' r.length c'] w fun e w' => e = .returned (.bool (l == r)) ∧ Below w.heap.size w w' := by
 have HL := Aside0.mk hl
 have HR := Aside0.mk hr
 have HN := Aside0.mk hb
 clear hl hr hb
 by_cases hln : l.length = r.length
 rotate_left
 ·have d1 : ((l.length : Int) == (r.length : Int)) = false := beq_eq_false_iff_ne.2 (by omega)
  have d2 : ((l.length : Int) != (r.length : Int)) = true := bne_iff_ne.2 (by omega)
  have d3 : (l.length == r.length) = false := beq_eq_false_iff_ne.2 hln
  have d4 : (l.length != r.length) = true := bne_iff_ne.2 hln
  have HX := Aside0.mk (show (l == r) = false from beq_eq_false_iff_ne.2 fun e => hln (by rw [e]))
  clear hln
  go_enter Try.func110, Try.ntmps110
  go_wp2
  go_ret
  exact ⟨ret_b HX.out.symm, Below.refl _ _⟩
 have HLN := Aside0.mk hln
 have d1 : ((l.length : Int) == (r.length : Int)) = true := beq_iff_eq.2 (by omega)
 have d2 : ((l.length : Int) != (r.length : Int)) = false := bne_eq_false_iff_eq.2 (by omega)
 have d3 : (l.length == r.length) = true := beq_iff_eq.2 hln
 have d4 : (l.length != r.length) = false := bne_eq_false_iff_eq.2 hln
 clear hln
 go_enter Try.func110, Try.ntmps110
 go_wp2
 clear d1 d2 d3 d4
 go_loopg [13] 1000000 (fun gg s wr => ∃ x : Int, s = .int .i64 x ∧ Aside0 (0 ≤ x ∧ x ≤ l.length ∧ (l.length : Int) - x ≤ gg) ∧ Aside0 (l.take x.toNat = r.take x.toNat) ∧ Aside0 (Below w.heap.size w wr))
 case atStart => exact ⟨0, rfl, ⟨by have := HN.out; omega⟩, ⟨by simp⟩, ⟨Below.refl _ _⟩⟩
 case round =>
  obtain ⟨x, rfl, HX, HA, HB⟩ := hrel
  by_cases hlt : x < (l.length : Int)
  rotate_left
  ·have hd : decide (x < (l.length : Int)) = false := decide_eq_false hlt
   have HE := Aside0.mk (show (l == r) = true from beq_iff_eq.2 (same_end l r x hlt HLN.out HA.out))
   clear hlt
   go_wp2
   go_ret
   exact ⟨ret_b HE.out.symm, HB.out⟩
  have hd : decide (x < (l.length : Int)) = true := decide_eq_true hlt
  have HLT := Aside0.mk hlt
  clear hlt
  have HLT2 := Aside0.mk (show x < (r.length : Int) by have := HLT.out; have := HLN.out; omega)
  have p1 : (0 ≤ x) = True := eq_true HX.out.1
  have p2 : (x < (l.length : Int)) = True := eq_true HLT.out
  have p3 : (x < (r.length : Int)) = True := eq_true HLT2.out
  obtain ⟨ad, e1, hx⟩ := Kd.at_int (Kd.C_below HL.out HB.out) x HX.out.1 HLT.out
  subst e1
  obtain ⟨ad', e1, hy⟩ := Kd.at_int (Kd.C_below HR.out HB.out) x HX.out.1 HLT2.out
  subst e1
  have HST := Aside0.mk (take_same l r 0 x HX.out.1 HLT.out HLN.out HA.out)
  have hr1 : l.getD x.toNat 0 = rd l x := rfl
  have hr2 : r.getD x.toNat 0 = rd r x := rfl
  rw [hr1, hr2] at HST
  clear hr1 hr2
  have HNE := Aside0.mk (show rd l x ≠ rd r x → (l == r) = false from fun h => beq_eq_false_iff_ne.2 fun e => h (by rw [e]))
  generalize rd l x = u at hx HST HNE
  generalize rd r x = v at hy HST HNE
  cases hq : (u == v) with
  | false =>
   have hq2 : (u != v) = true := by rw [bne, hq]; rfl
   go_wp2
   go_quiet (fail)
   go_wp2
   go_ret
   exact ⟨ret_b (HNE.out (beq_eq_false_iff_ne.1 hq)).symm, pw_below_drewN HB.out _⟩
  | true =>
   have hq2 : (u != v) = false := by rw [bne, hq]; rfl
   go_wp2
   go_quiet (fail)
   go_wp2
   have W1 := Aside0.mk (show wrap64 (x + 1) = x + 1 from wrap_in _ (by have := HX.out; omega) (by have := HLT.out; have := HN.out; omega))
   go_roundg ((l.length : Int) - (x + 1)).toNat
   case measure => have h1_ := HX.out; have h2_ := HLT.out; omega
   case rel => exact ⟨x + 1, by first | (rw [W1.out]; done) | rfl | (simp only [W1.out]; done), ⟨by have := HX.out; have := HLT.out; omega⟩, ⟨HST.out (beq_iff_eq.1 hq)⟩, ⟨pw_below_drewN HB.out _⟩⟩
set_option maxHeartbeats 16000000 in
set_option maxRecDepth 100000 in
theorem ints_c (A : Option Addr) (c : Nat) (l : List Int) (A' : Option Addr) (c' : Nat) (r : List Int) (w : World) (hl : Kd.C (Kd.int .i64) w A l.length l) (hr : Kd.C (Kd.int .i64) w A' r.length r) (hb : l.length ≤ 1000000) :
  Calls Try.prog 22 #[.slice A l.length c, .slice A' r.length c'] w fun e w' => e = .returned (.bool (l == r)) ∧ Below w.heap.size w w' := by
 have HL := Aside0.mk hl
 have HR := Aside0.mk hr
 have HN := Aside0.mk hb
 clear hl hr hb
 by_cases hln : l.length = r.length
 rotate_left
 ·have d1 : ((l.length : Int) == (r.length : Int)) = false := beq_eq_false_iff_ne.2 (by omega)
  have d2 : ((l.length : Int) != (r.length : Int)) = true := bne_iff_ne.2 (by omega)
  have d3 : (l.length == r.length) = false := beq_eq_false_iff_ne.2 hln
  have d4 : (l.length != r.length) = true := bne_iff_ne.2 hln
  have HX := Aside0.mk (show (l == r) = false from beq_eq_false_iff_ne.2 fun e => hln (by rw [e]))
  clear hln
  go_enter Try.func22, Try.ntmps22
  go_wp2
  go_ret
  exact ⟨ret_b HX.out.symm, Below.refl _ _⟩
 have HLN := Aside0.mk hln
 have d1 : ((l.length : Int) == (r.length : Int)) = true := beq_iff_eq.2 (by omega)
 have d2 : ((l.length : Int) != (r.length : Int)) = false := bne_eq_false_iff_eq.2 (by omega)
 have d3 : (l.length == r.length) = true := beq_iff_eq.2 hln
 have d4 : (l.length != r.length) = false := bne_eq_false_iff_eq.2 hln
 clear hln
 go_enter Try.func22, Try.ntmps22
 go_wp2
 clear d1 d2 d3 d4
 go_loopg [5] 1000000 (fun gg s wr => ∃ x : Int, s = .int .i64 x ∧ Aside0 (0 ≤ x ∧ x ≤ l.length ∧ (l.length : Int) - x ≤ gg) ∧ Aside0 (l.take x.toNat = r.take x.toNat) ∧ Aside0 (Below w.heap.size w wr))
 case atStart => exact ⟨0, rfl, ⟨by have := HN.out; omega⟩, ⟨by simp⟩, ⟨Below.refl _ _⟩⟩
 case round =>
  obtain ⟨x, rfl, HX, HA, HB⟩ := hrel
  by_cases hlt : x < (l.length : Int)
  rotate_left
  ·have hd : decide (x < (l.length : Int)) = false := decide_eq_false hlt
   have HE := Aside0.mk (show (l == r) = true from beq_iff_eq.2 (same_end l r x hlt HLN.out HA.out))
   clear hlt
   go_wp2
   go_ret
   exact ⟨ret_b HE.out.symm, HB.out⟩
  have hd : decide (x < (l.length : Int)) = true := decide_eq_true hlt
  have HLT := Aside0.mk hlt
  clear hlt
  have HLT2 := Aside0.mk (show x < (r.length : Int) by have := HLT.out; have := HLN.out; omega)
  have p1 : (0 ≤ x) = True := eq_true HX.out.1
  have p2 : (x < (l.length : Int)) = True := eq_true HLT.out
  have p3 : (x < (r.length : Int)) = True := eq_true HLT2.out
  obtain ⟨ad, e1, hx⟩ := Kd.at_int (Kd.C_below HL.out HB.out) x HX.out.1 HLT.out
  subst e1
  obtain ⟨ad', e1, hy⟩ := Kd.at_int (Kd.C_below HR.out HB.out) x HX.out.1 HLT2.out
  subst e1
  have HST := Aside0.mk (take_same l r 0 x HX.out.1 HLT.out HLN.out HA.out)
  have hr1 : l.getD x.toNat 0 = rd l x := rfl
  have hr2 : r.getD x.toNat 0 = rd r x := rfl
  rw [hr1, hr2] at HST
  clear hr1 hr2
  have HNE := Aside0.mk (show rd l x ≠ rd r x → (l == r) = false from fun h => beq_eq_false_iff_ne.2 fun e => h (by rw [e]))
  generalize rd l x = u at hx HST HNE
  generalize rd r x = v at hy HST HNE
  cases hq : (u == v) with
  | false =>
   have hq2 : (u != v) = true := by rw [bne, hq]; rfl
   go_wp2
   go_quiet (fail)
   go_wp2
   go_ret
   exact ⟨ret_b (HNE.out (beq_eq_false_iff_ne.1 hq)).symm, pw_below_drewN HB.out _⟩
  | true =>
   have hq2 : (u != v) = false := by rw [bne, hq]; rfl
   go_wp2
   go_quiet (fail)
   go_wp2
   have W1 := Aside0.mk (show wrap64 (x + 1) = x + 1 from wrap_in _ (by have := HX.out; omega) (by have := HLT.out; have := HN.out; omega))
   go_roundg ((l.length : Int) - (x + 1)).toNat
   case measure => have h1_ := HX.out; have h2_ := HLT.out; omega
   case rel => exact ⟨x + 1, by first | (rw [W1.out]; done) | rfl | (simp only [W1.out]; done), ⟨by have := HX.out; have := HLT.out; omega⟩, ⟨HST.out (beq_iff_eq.1 hq)⟩, ⟨pw_below_drewN HB.out _⟩⟩
set_option maxHeartbeats 16000000 in
set_option maxRecDepth 100000 in
theorem sins_c (a : S49) (A : Option Addr) (c : Nat) (b : S49) (A' : Option Addr) (c' : Nat) (w : World) (hl : Kd.C (Kd.int .i64) w A a.f6.length a.f6) (hr : Kd.C (Kd.int .i64) w A' b.f6.length b.f6) (hb : a.f6.length ≤ 1000000) :
  Calls Try.prog 94 #[.agg #[.int .i64 a.f0, .int .i64 a.f1, .int .i64 a.f2, .int .i64 a.f3, .int .u16 a.f4, .int .i64 a.f5, .slice A a.f6.length c], .agg #[.int .i64 b.f0, .int .i64 b.f1, .int .i64 b.f2, .int .i64 b.f3, .int .u16 b.f4, .int .i64 b.f5, .slice A' b.f6.length c']] w fun e w' => e = .returned (.bool (insE a b)) ∧ Below w.heap.size w w' := by
 have HL := Aside0.mk hl
 have HR := Aside0.mk hr
 have HN := Aside0.mk hb
 clear hl hr hb
 have hu := Try.underlying49
 go_enter Try.func94, Try.ntmps94
 go_wp2_with (first | ((with_reducible refine gate_dst (N := 2) rfl ?_); refine box_event ?hg (N := 2) ?hd (cs := #[.int .i64 a.f0, .int .i64 a.f1, .int .i64 a.f2, .int .i64 a.f3, .int .u16 a.f4, .int .i64 a.f5, .slice A a.f6.length c]) (t := 49) ?hr ?_; (case hd => rfl); (case hg => rfl); (case hr => first | (go_simp; done) | (go_simp; rfl)); intro g1 hg w1 hbox hb; have HB := Aside0.mk hb; have X1 := Aside0.mk hbox; clear hbox hb hg) | ((with_reducible refine gate_dst (N := 3) rfl ?_); refine box_event ?hg (N := 3) ?hd (cs := #[.int .i64 b.f0, .int .i64 b.f1, .int .i64 b.f2, .int .i64 b.f3, .int .u16 b.f4, .int .i64 b.f5, .slice A' b.f6.length c']) (t := 49) ?hr ?_; (case hd => rfl); (case hg => rfl); (case hr => first | (go_simp; done) | (go_simp; rfl)); intro g2 hg w2 hbox hb; replace HB := Aside0.mk (below_step HB.out hb); replace X1 := Aside0.mk (blk_below X1.out hb); have X2 := Aside0.mk hbox; clear hbox hb hg; obtain ⟨h0, h1, h2, h3, h4, h5, h6⟩ := cl7 X1.out; obtain ⟨k0, k1, k2, k3, k4, k5, k6⟩ := cl7 X2.out) | (go_at_call 111; (with_reducible refine (eqi_c A c a.f6 A' c' b.f6 _ (Kd.C_below HL.out HB.out) (Kd.C_below HR.out HB.out) HN.out).mono ?_); rintro e w6 ⟨rfl, hb⟩; replace HB := Aside0.mk (below_step HB.out hb); replace X1 := Aside0.mk (blk_below X1.out hb); replace X2 := Aside0.mk (blk_below X2.out hb); clear hb h0 h1 h2 h3 h4 h5 h6 k0 k1 k2 k3 k4 k5 k6; obtain ⟨h0, h1, h2, h3, h4, h5, h6⟩ := cl7 X1.out; obtain ⟨k0, k1, k2, k3, k4, k5, k6⟩ := cl7 X2.out))
 all_goals (go_ret; exact ⟨ret_b (by simp [insE, *]), HB.out⟩)
set_option maxHeartbeats 16000000 in
set_option maxRecDepth 100000 in
theorem send_c (a : S39) (A : Option Addr) (c : Nat) (b : S39) (A' : Option Addr) (c' : Nat) (w : World) (hl : Kd.C (Kd.int .i64) w A a.f4.length a.f4) (hr : Kd.C (Kd.int .i64) w A' b.f4.length b.f4) (hb : a.f4.length ≤ 1000000) :
  Calls Try.prog 95 #[.agg #[.int .i64 a.f0, .int .i64 a.f1, .int .i64 a.f2, .int .i64 a.f3, .slice A a.f4.length c, .int .i64 a.f5, .int .i64 a.f6, .int .i64 a.f7], .agg #[.int .i64 b.f0, .int .i64 b.f1, .int .i64 b.f2, .int .i64 b.f3, .slice A' b.f4.length c', .int .i64 b.f5, .int .i64 b.f6, .int .i64 b.f7]] w fun e w' => e = .returned (.bool (endE a b)) ∧ Below w.heap.size w w' := by
 have HL := Aside0.mk hl
 have HR := Aside0.mk hr
 have HN := Aside0.mk hb
 clear hl hr hb
 have hu := Try.underlying39
 go_enter Try.func95, Try.ntmps95
 go_wp2_with (first | ((with_reducible refine gate_dst (N := 2) rfl ?_); refine box_event ?hg (N := 2) ?hd (cs := #[.int .i64 a.f0, .int .i64 a.f1, .int .i64 a.f2, .int .i64 a.f3, .slice A a.f4.length c, .int .i64 a.f5, .int .i64 a.f6, .int .i64 a.f7]) (t := 39) ?hr ?_; (case hd => rfl); (case hg => rfl); (case hr => first | (go_simp; done) | (go_simp; rfl)); intro g1 hg w1 hbox hb; have HB := Aside0.mk hb; have X1 := Aside0.mk hbox; clear hbox hb hg) | ((with_reducible refine gate_dst (N := 3) rfl ?_); refine box_event ?hg (N := 3) ?hd (cs := #[.int .i64 b.f0, .int .i64 b.f1, .int .i64 b.f2, .int .i64 b.f3, .slice A' b.f4.length c', .int .i64 b.f5, .int .i64 b.f6, .int .i64 b.f7]) (t := 39) ?hr ?_; (case hd => rfl); (case hg => rfl); (case hr => first | (go_simp; done) | (go_simp; rfl)); intro g2 hg w2 hbox hb; replace HB := Aside0.mk (below_step HB.out hb); replace X1 := Aside0.mk (blk_below X1.out hb); have X2 := Aside0.mk hbox; clear hbox hb hg; obtain ⟨h0, h1, h2, h3, h4, h5, h6, h7⟩ := cl8 X1.out; obtain ⟨k0, k1, k2, k3, k4, k5, k6, k7⟩ := cl8 X2.out) | (go_at_call 111; (with_reducible refine (eqi_c A c a.f4 A' c' b.f4 _ (Kd.C_below HL.out HB.out) (Kd.C_below HR.out HB.out) HN.out).mono ?_); rintro e w6 ⟨rfl, hb⟩; replace HB := Aside0.mk (below_step HB.out hb); replace X1 := Aside0.mk (blk_below X1.out hb); replace X2 := Aside0.mk (blk_below X2.out hb); clear hb h0 h1 h2 h3 h4 h5 h6 h7 k0 k1 k2 k3 k4 k5 k6 k7; obtain ⟨h0, h1, h2, h3, h4, h5, h6, h7⟩ := cl8 X1.out; obtain ⟨k0, k1, k2, k3, k4, k5, k6, k7⟩ := cl8 X2.out))
 all_goals (go_ret; exact ⟨ret_b (by simp [endE, *]), HB.out⟩)
set_option maxHeartbeats 16000000 in
set_option maxRecDepth 100000 in
theorem spad_c (a : S35) (A : Option Addr) (c : Nat) (b : S35) (A' : Option Addr) (c' : Nat) (w : World) (hl : Kd.C (Kd.int .u16) w A a.f1.length a.f1) (hr : Kd.C (Kd.int .u16) w A' b.f1.length b.f1) (hb : a.f1.length ≤ 1000000) :
  Calls Try.prog 92 #[.agg #[.int .i64 a.f0, .slice A a.f1.length c, .bool a.f2, .bool a.f3], .agg #[.int .i64 b.f0, .slice A' b.f1.length c', .bool b.f2, .bool b.f3]] w fun e w' => e = .returned (.bool (padE a b)) ∧ Below w.heap.size w w' := by
 have HL := Aside0.mk hl
 have HR := Aside0.mk hr
 have HN := Aside0.mk hb
 clear hl hr hb
 have hu := Try.underlying35
 go_enter Try.func92, Try.ntmps92
 go_wp2_with (first | ((with_reducible refine gate_dst (N := 2) rfl ?_); refine box_event ?hg (N := 2) ?hd (cs := #[.int .i64 a.f0, .slice A a.f1.length c, .bool a.f2, .bool a.f3]) (t := 35) ?hr ?_; (case hd => rfl); (case hg => rfl); (case hr => first | (go_simp; done) | (go_simp; rfl)); intro g1 hg w1 hbox hb; have HB := Aside0.mk hb; have X1 := Aside0.mk hbox; clear hbox hb hg) | ((with_reducible refine gate_dst (N := 3) rfl ?_); refine box_event ?hg (N := 3) ?hd (cs := #[.int .i64 b.f0, .slice A' b.f1.length c', .bool b.f2, .bool b.f3]) (t := 35) ?hr ?_; (case hd => rfl); (case hg => rfl); (case hr => first | (go_simp; done) | (go_simp; rfl)); intro g2 hg w2 hbox hb; replace HB := Aside0.mk (below_step HB.out hb); replace X1 := Aside0.mk (blk_below X1.out hb); have X2 := Aside0.mk hbox; clear hbox hb hg; obtain ⟨h0, h1, h2, h3⟩ := cl4 X1.out; obtain ⟨k0, k1, k2, k3⟩ := cl4 X2.out) | (go_at_call 110; (with_reducible refine (equ_c A c a.f1 A' c' b.f1 _ (Kd.C_below HL.out HB.out) (Kd.C_below HR.out HB.out) HN.out).mono ?_); rintro e w6 ⟨rfl, hb⟩; replace HB := Aside0.mk (below_step HB.out hb); replace X1 := Aside0.mk (blk_below X1.out hb); replace X2 := Aside0.mk (blk_below X2.out hb); clear hb h0 h1 h2 h3 k0 k1 k2 k3; obtain ⟨h0, h1, h2, h3⟩ := cl4 X1.out; obtain ⟨k0, k1, k2, k3⟩ := cl4 X2.out))
 all_goals (go_ret; exact ⟨ret_b (by simp [padE, *]), HB.out⟩)
set_option maxHeartbeats 16000000 in
set_option maxRecDepth 100000 in
theorem rins_c (a : S49) (A : Option Addr) (c : Nat) (b : S49) (A' : Option Addr) (c' : Nat) (w : World) (hl : Kd.C (Kd.int .i64) w A a.f6.length a.f6) (hr : Kd.C (Kd.int .i64) w A' b.f6.length b.f6) (hb : a.f6.length ≤ 1000000) :
  Calls Try.prog 50 #[.agg #[.int .i64 a.f0, .int .i64 a.f1, .int .i64 a.f2, .int .i64 a.f3, .int .u16 a.f4, .int .i64 a.f5, .slice A a.f6.length c], .agg #[.int .i64 b.f0, .int .i64 b.f1, .int .i64 b.f2, .int .i64 b.f3, .int .u16 b.f4, .int .i64 b.f5, .slice A' b.f6.length c']] w fun e w' => e = .returned (.bool (insE a b)) ∧ Below w.heap.size w w' := by
 have HL := Aside0.mk hl
 have HR := Aside0.mk hr
 have HN := Aside0.mk hb
 clear hl hr hb
 have hu := Try.underlying49
 go_enter Try.func50, Try.ntmps50
 go_wp2_with (first | ((with_reducible refine gate_dst (N := 2) rfl ?_); refine box_event ?hg (N := 2) ?hd (cs := #[.int .i64 a.f0, .int .i64 a.f1, .int .i64 a.f2, .int .i64 a.f3, .int .u16 a.f4, .int .i64 a.f5, .slice A a.f6.length c]) (t := 49) ?hr ?_; (case hd => rfl); (case hg => rfl); (case hr => first | (go_simp; done) | (go_simp; rfl)); intro g1 hg w1 hbox hb; have HB := Aside0.mk hb; have X1 := Aside0.mk hbox; clear hbox hb hg) | ((with_reducible refine gate_dst (N := 3) rfl ?_); refine box_event ?hg (N := 3) ?hd (cs := #[.int .i64 b.f0, .int .i64 b.f1, .int .i64 b.f2, .int .i64 b.f3, .int .u16 b.f4, .int .i64 b.f5, .slice A' b.f6.length c']) (t := 49) ?hr ?_; (case hd => rfl); (case hg => rfl); (case hr => first | (go_simp; done) | (go_simp; rfl)); intro g2 hg w2 hbox hb; replace HB := Aside0.mk (below_step HB.out hb); replace X1 := Aside0.mk (blk_below X1.out hb); have X2 := Aside0.mk hbox; clear hbox hb hg; obtain ⟨h0, h1, h2, h3, h4, h5, h6⟩ := cl7 X1.out; obtain ⟨k0, k1, k2, k3, k4, k5, k6⟩ := cl7 X2.out) | (go_at_call 22; (with_reducible refine (ints_c A c a.f6 A' c' b.f6 _ (Kd.C_below HL.out HB.out) (Kd.C_below HR.out HB.out) HN.out).mono ?_); rintro e w6 ⟨rfl, hb⟩; replace HB := Aside0.mk (below_step HB.out hb); replace X1 := Aside0.mk (blk_below X1.out hb); replace X2 := Aside0.mk (blk_below X2.out hb); clear hb h0 h1 h2 h3 h4 h5 h6 k0 k1 k2 k3 k4 k5 k6; obtain ⟨h0, h1, h2, h3, h4, h5, h6⟩ := cl7 X1.out; obtain ⟨k0, k1, k2, k3, k4, k5, k6⟩ := cl7 X2.out))
 all_goals (go_ret; exact ⟨ret_b (by simp [insE, *]), HB.out⟩)
set_option maxHeartbeats 16000000 in
set_option maxRecDepth 100000 in
theorem rend_c (a : S39) (A : Option Addr) (c : Nat) (b : S39) (A' : Option Addr) (c' : Nat) (w : World) (hl : Kd.C (Kd.int .i64) w A a.f4.length a.f4) (hr : Kd.C (Kd.int .i64) w A' b.f4.length b.f4) (hb : a.f4.length ≤ 1000000) :
  Calls Try.prog 51 #[.agg #[.int .i64 a.f0, .int .i64 a.f1, .int .i64 a.f2, .int .i64 a.f3, .slice A a.f4.length c, .int .i64 a.f5, .int .i64 a.f6, .int .i64 a.f7], .agg #[.int .i64 b.f0, .int .i64 b.f1, .int .i64 b.f2, .int .i64 b.f3, .slice A' b.f4.length c', .int .i64 b.f5, .int .i64 b.f6, .int .i64 b.f7]] w fun e w' => e = .returned (.bool (endE a b)) ∧ Below w.heap.size w w' := by
 have HL := Aside0.mk hl
 have HR := Aside0.mk hr
 have HN := Aside0.mk hb
 clear hl hr hb
 have hu := Try.underlying39
 go_enter Try.func51, Try.ntmps51
 go_wp2_with (first | ((with_reducible refine gate_dst (N := 2) rfl ?_); refine box_event ?hg (N := 2) ?hd (cs := #[.int .i64 a.f0, .int .i64 a.f1, .int .i64 a.f2, .int .i64 a.f3, .slice A a.f4.length c, .int .i64 a.f5, .int .i64 a.f6, .int .i64 a.f7]) (t := 39) ?hr ?_; (case hd => rfl); (case hg => rfl); (case hr => first | (go_simp; done) | (go_simp; rfl)); intro g1 hg w1 hbox hb; have HB := Aside0.mk hb; have X1 := Aside0.mk hbox; clear hbox hb hg) | ((with_reducible refine gate_dst (N := 3) rfl ?_); refine box_event ?hg (N := 3) ?hd (cs := #[.int .i64 b.f0, .int .i64 b.f1, .int .i64 b.f2, .int .i64 b.f3, .slice A' b.f4.length c', .int .i64 b.f5, .int .i64 b.f6, .int .i64 b.f7]) (t := 39) ?hr ?_; (case hd => rfl); (case hg => rfl); (case hr => first | (go_simp; done) | (go_simp; rfl)); intro g2 hg w2 hbox hb; replace HB := Aside0.mk (below_step HB.out hb); replace X1 := Aside0.mk (blk_below X1.out hb); have X2 := Aside0.mk hbox; clear hbox hb hg; obtain ⟨h0, h1, h2, h3, h4, h5, h6, h7⟩ := cl8 X1.out; obtain ⟨k0, k1, k2, k3, k4, k5, k6, k7⟩ := cl8 X2.out) | (go_at_call 22; (with_reducible refine (ints_c A c a.f4 A' c' b.f4 _ (Kd.C_below HL.out HB.out) (Kd.C_below HR.out HB.out) HN.out).mono ?_); rintro e w6 ⟨rfl, hb⟩; replace HB := Aside0.mk (below_step HB.out hb); replace X1 := Aside0.mk (blk_below X1.out hb); replace X2 := Aside0.mk (blk_below X2.out hb); clear hb h0 h1 h2 h3 h4 h5 h6 h7 k0 k1 k2 k3 k4 k5 k6 k7; obtain ⟨h0, h1, h2, h3, h4, h5, h6, h7⟩ := cl8 X1.out; obtain ⟨k0, k1, k2, k3, k4, k5, k6, k7⟩ := cl8 X2.out))
 all_goals (go_ret; exact ⟨ret_b (by simp [endE, *]), HB.out⟩)
end Go.Proofs.Ytbfialebaoeicaa.X
