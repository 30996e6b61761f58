/- Part 19 of the proof of the statement ShapeCopies: the words of the walks, the walks through the functions that it reaches, and the plain laws of what they compute. -/
import Derived.Test.YtbfialebaoeicaaMShapeCopies17
import Derived.RegionTactic
import Derived.WalkSpells
import Derived.Shelf.Abstract
import Derived.Lib.SliceRun
import Derived.ChangeAlike
import Derived.Deep.QuietTactic
import Derived.BigQuiet
namespace Go.Proofs.Ytbfialebaoeicaa.X
open Go.RowKit Go.Proofs.YtbfialebaoeicaaW.PrintWords Go.Proofs.YtbfialebaoeicaaW.PrintLast Go.Proofs.YtbfialebaoeicaaW.PrintMore
set_option linter.all false
def eqL {α : Type} (q : α → α → Bool) : List α → List α → Bool
 | [], [] => true
 | x :: l, y :: r => q x y && eqL q l r
 | _, _ => false
theorem eqL_len {α : Type} (q : α → α → Bool) : ∀ (l r : List α), l.length ≠ r.length → eqL q l r = false
 | [], [], h => absurd rfl h
 | [], _ :: _, _ => rfl
 | _ :: _, [], _ => rfl
 | x :: l, y :: r, h => by
  unfold eqL
  rw [eqL_len q l r (fun e => h (by simp [e])), Bool.and_false]
theorem eqL_drop {α : Type} (q : α → α → Bool) (z : α) : ∀ (l r : List α) (x : Nat), x < l.length → x < r.length → eqL q (l.drop x) (r.drop x) = (q (l.getD x z) (r.getD x z) && eqL q (l.drop (x + 1)) (r.drop (x + 1)))
 | a :: l, b :: r, 0, _, _ => rfl
 | a :: l, b :: r, x + 1, h1, h2 => by
  have := eqL_drop q z l r x (by simpa using h1) (by simpa using h2)
  simpa using this
theorem eqL_step {α : Type} (q : α → α → Bool) (z : α) (l r : List α) (x : Int) (h0 : 0 ≤ x) (h1 : x < (l.length : Int)) (h2 : l.length = r.length) : eqL q (l.drop x.toNat) (r.drop x.toNat) = (q (l.getD x.toNat z) (r.getD x.toNat z) && eqL q (l.drop (x + 1).toNat) (r.drop (x + 1).toNat)) := by
 rw [show (x + 1).toNat = x.toNat + 1 by omega]
 exact eqL_drop q z l r x.toNat (by omega) (by omega)
theorem eqL_end {α : Type} (q : α → α → Bool) (l r : List α) (x : Int) (h1 : ¬ x < (l.length : Int)) (h2 : l.length = r.length) : eqL q (l.drop x.toNat) (r.drop x.toNat) = true := by
 rw [List.drop_eq_nil_of_le (by omega), List.drop_eq_nil_of_le (by omega)]
 rfl
theorem Kkins {w W : World} {x : S49} {cs : List Value} (h : k49.K w x cs) (hb : Below w.heap.size w W) : k49.K W x cs := by
 obtain ⟨A, c, rfl, h1, h2⟩ := k49_open h
 exact k49_mk W x h1 (Kd.C_below h2 hb)
theorem Kkblock {w W : World} {x : S41} {cs : List Value} (h : k41.K w x cs) (hb : Below w.heap.size w W) : k41.K W x cs := by
 obtain ⟨A, c, A2, c2, A3, c3, rfl, h1, h2, h3, h4, h5, h6⟩ := k41_open h
 exact k41_mk W x h1 (Kd.C_below h2 hb) h3 (Kd.C_below h4 hb) h5 (Kd.C_below h6 hb)
theorem Kkfunc {w W : World} {x : S27} {cs : List Value} (h : k27.K w x cs) (hb : Below w.heap.size w W) : k27.K W x cs := by
 obtain ⟨A, c, rfl, h1, h2⟩ := k27_open h
 exact k27_mk W x h1 (Kd.C_below h2 hb)
set_option maxHeartbeats 16000000 in
set_option maxRecDepth 100000 in
theorem eqf_ins (A : Option Addr) (c : Nat) (l : List S49) (A' : Option Addr) (c' : Nat) (r : List S49) (g : Nat) (q : S49 → S49 → Bool) (w : World) (eg : ∀ args w, (callFunc g args).run Try.prog w = .ok (.enter g args) w) (hl : Kd.C k49 w A l.length l) (hr : Kd.C k49 w A' r.length r) (hb : l.length ≤ 1000000) (hp : ∀ x ∈ l, ∀ y ∈ r, ∀ W : World, Below w.heap.size w W → ∀ cs ds, k49.K W x cs → k49.K W y ds → Calls Try.prog g #[.agg cs.toArray, .agg ds.toArray] W fun e w' => e = .returned (.bool (q x y)) ∧ Below W.heap.size W w') :
  Calls Try.prog 93 #[.slice A l.length c, .slice A' r.length c', .func (.func g) #[] #[]] w fun e w' => e = .returned (.bool (eqL q l r)) ∧ Below w.heap.size w w' := by
 have HL := Aside0.mk hl
 have HR := Aside0.mk hr
 have HN := Aside0.mk hb
 have HP := Aside0.mk hp
 clear hl hr hb hp
 by_cases hln : l.length = r.length
 rotate_left
 ·have d2 : ((l.length : Int) != (r.length : Int)) = true := bne_iff_ne.2 (by omega)
  have HX := Aside0.mk (eqL_len q l r hln)
  clear hln
  go_enter Try.func93, Try.ntmps93
  go_wp2
  go_ret
  exact ⟨ret_b HX.out.symm, Below.refl _ _⟩
 have HLN := Aside0.mk hln
 have d2 : ((l.length : Int) != (r.length : Int)) = false := bne_eq_false_iff_eq.2 (by omega)
 clear hln
 go_enter Try.func93, Try.ntmps93
 go_wp2
 clear d2
 go_loopg [17] 1000000 (fun gg s wr => ∃ x : Int, s = .int .i64 x ∧ Aside0 (0 ≤ x ∧ x ≤ l.length ∧ (l.length : Int) - x ≤ gg) ∧ Aside0 (eqL q (l.drop x.toNat) (r.drop x.toNat) = eqL q l r) ∧ Aside0 (Below w.heap.size w wr))
 case atStart => exact ⟨0, rfl, ⟨by have := HN.out; omega⟩, ⟨rfl⟩, ⟨Below.refl _ _⟩⟩
 case round =>
  obtain ⟨x, rfl, HX, HA, HB⟩ := hrel
  by_cases hlt : x < (l.length : Int)
  rotate_left
  ·have hd : decide (x < (l.length : Int)) = false := decide_eq_false hlt
   have HE := Aside0.mk (show eqL q l r = true from HA.out.symm.trans (eqL_end q l r x hlt HLN.out))
   clear hlt
   go_wp2
   go_ret
   exact ⟨ret_b HE.out.symm, HB.out⟩
  have hd : decide (x < (l.length : Int)) = true := decide_eq_true hlt
  have HLT := Aside0.mk hlt
  clear hlt
  have HLT2 := Aside0.mk (show x < (r.length : Int) by have := HLT.out; have := HLN.out; omega)
  have p1 : (0 ≤ x) = True := eq_true HX.out.1
  have p2 : (x < (l.length : Int)) = True := eq_true HLT.out
  have p3 : (x < (r.length : Int)) = True := eq_true HLT2.out
  have HST := Aside0.mk (eqL_step q z49 l r x HX.out.1 HLT.out HLN.out)
  have HM1 := Aside0.mk (rd_mem0 l z49 x HX.out.1 HLT.out)
  have HM2 := Aside0.mk (rd_mem0 r z49 x HX.out.1 HLT2.out)
  have hr1 : l.getD x.toNat z49 = rd_T49 l x := rfl
  have hr2 : r.getD x.toNat z49 = rd_T49 r x := rfl
  rw [hr1] at HM1
  rw [hr2] at HM2
  rw [hr1, hr2] at HST
  clear hr1 hr2
  obtain ⟨ad, A7, c7, e1, y0, y1, y2, y3, y4, y5, y6, hl7, hC7⟩ := at_T49 (Kd.C_below HL.out HB.out) x HX.out.1 HLT.out
  subst e1
  obtain ⟨ad', A7', c7', e2, y0', y1', y2', y3', y4', y5', y6', hl7', hC7'⟩ := at_T49 (Kd.C_below HR.out HB.out) x HX.out.1 HLT2.out
  subst e2
  generalize rd_T49 l x = a at *
  generalize rd_T49 r x = b at *
  have HK1 := Aside0.mk (k49_mk wr a hl7 hC7)
  have HK2 := Aside0.mk (k49_mk wr b hl7' hC7')
  clear hl7 hC7 hl7' hC7'
  go_upto_region 5 with (fail)
  go_cut [7, 8, 17] from 17 to 31 (fun v7 v8 v17 wc => ∃ g8 : Nat, v7 = .int .i64 x ∧ v8 = .pointer (some ⟨g8, 0, none⟩) ∧ v17 = .int .i64 x ∧ Aside0 (Below wr.heap.size wr wc) ∧ Aside0 (wc.heap[g8]? = some (.cells #[.int .i64 a.f0, .int .i64 a.f1, .int .i64 a.f2, .int .i64 a.f3, .int .u16 a.f4, .int .i64 a.f5, .slice A7 a.f6.length c7] 49 (0, 0))))
  case first => go_wp2; go_meet; exact ⟨_, rfl, rfl, rfl, ⟨below_alloc (Below.refl _ _) _⟩, ⟨blk_new _ _⟩⟩
  case rest =>
   clear y0 y1 y2 y3 y4 y5 y6
   obtain ⟨g8, rfl, rfl, rfl, HB2, X8⟩ := hcut
   have yy0 := pw_cell_below HB2.out y0'
   have yy1 := pw_cell_below HB2.out y1'
   have yy2 := pw_cell_below HB2.out y2'
   have yy3 := pw_cell_below HB2.out y3'
   have yy4 := pw_cell_below HB2.out y4'
   have yy5 := pw_cell_below HB2.out y5'
   have yy6 := pw_cell_below HB2.out y6'
   go_upto_region 6 with (fail)
   go_cut [9, 17] from 17 to 31 (fun v9 v17 wc => ∃ g9 : Nat, v9 = .pointer (some ⟨g9, 0, none⟩) ∧ v17 = .int .i64 x ∧ Aside0 (Below wr.heap.size wr wc) ∧ Aside0 (wc.heap[g8]? = some (.cells #[.int .i64 a.f0, .int .i64 a.f1, .int .i64 a.f2, .int .i64 a.f3, .int .u16 a.f4, .int .i64 a.f5, .slice A7 a.f6.length c7] 49 (0, 0))) ∧ Aside0 (wc.heap[g9]? = some (.cells #[.int .i64 b.f0, .int .i64 b.f1, .int .i64 b.f2, .int .i64 b.f3, .int .u16 b.f4, .int .i64 b.f5, .slice A7' b.f6.length c7'] 49 (0, 0))))
   case first => go_wp2; go_meet; exact ⟨_, rfl, rfl, ⟨below_alloc HB2.out _⟩, ⟨blk_alloc X8.out _⟩, ⟨blk_new _ _⟩⟩
   case rest =>
    clear HB2 X8 y0' y1' y2' y3' y4' y5' y6' yy0 yy1 yy2 yy3 yy4 yy5 yy6
    obtain ⟨g9, rfl, rfl, HB2, X8, X9⟩ := hcut
    obtain ⟨v0, v1, v2, v3, v4, v5, v6⟩ := cl7 X8.out
    obtain ⟨t0, t1, t2, t3, t4, t5, t6⟩ := cl7 X9.out
    have HCL := HP.out a HM1.out b HM2.out wc (HB.out.trans (HB2.out.mono HB.out.size)) _ _ (Kkins HK1.out HB2.out) (Kkins HK2.out HB2.out)
    have HBC := Aside0.mk (HB.out.trans (HB2.out.mono HB.out.size))
    cases hq : q a b with
    | true =>
     rw [hq] at HCL HST
     have HC := Aside0.mk HCL
     clear HCL hq
     go_wp2_with (go_at_fn g; refine HC.out.mono ?_; rintro e w' ⟨rfl, hb⟩; have HB3 := Aside0.mk (below_step HBC.out hb); clear hb)
     have W1 := Aside0.mk (show wrap64 (x + 1) = x + 1 from wrap_in _ (by have := HX.out; omega) (by have := HLT.out; have := HN.out; omega))
     go_roundg ((l.length : Int) - (x + 1)).toNat
     case measure => have h1_ := HX.out; have h2_ := HLT.out; omega
     case rel => exact ⟨x + 1, by first | (rw [W1.out]; done) | rfl | (simp only [W1.out]; done), ⟨by have := HX.out; have := HLT.out; omega⟩, ⟨by rw [← HA.out, HST.out]; rfl⟩, HB3⟩
    | false =>
     rw [hq] at HCL HST
     have HC := Aside0.mk HCL
     clear HCL hq
     go_wp2_with (go_at_fn g; refine HC.out.mono ?_; rintro e w' ⟨rfl, hb⟩; have HB3 := Aside0.mk (below_step HBC.out hb); clear hb)
     go_ret
     exact ⟨ret_b (by rw [← HA.out, HST.out]; rfl), HB3.out⟩
set_option maxHeartbeats 16000000 in
set_option maxRecDepth 100000 in
theorem eqf_block (A : Option Addr) (c : Nat) (l : List S41) (A' : Option Addr) (c' : Nat) (r : List S41) (g : Nat) (q : S41 → S41 → Bool) (w : World) (eg : ∀ args w, (callFunc g args).run Try.prog w = .ok (.enter g args) w) (hl : Kd.C k41 w A l.length l) (hr : Kd.C k41 w A' r.length r) (hb : l.length ≤ 1000000) (hp : ∀ x ∈ l, ∀ y ∈ r, ∀ W : World, Below w.heap.size w W → ∀ cs ds, k41.K W x cs → k41.K W y ds → Calls Try.prog g #[.agg cs.toArray, .agg ds.toArray] W fun e w' => e = .returned (.bool (q x y)) ∧ Below W.heap.size W w') :
  Calls Try.prog 66 #[.slice A l.length c, .slice A' r.length c', .func (.func g) #[] #[]] w fun e w' => e = .returned (.bool (eqL q l r)) ∧ Below w.heap.size w w' := by
 have HL := Aside0.mk hl
 have HR := Aside0.mk hr
 have HN := Aside0.mk hb
 have HP := Aside0.mk hp
 clear hl hr hb hp
 by_cases hln : l.length = r.length
 rotate_left
 ·have d2 : ((l.length : Int) != (r.length : Int)) = true := bne_iff_ne.2 (by omega)
  have HX := Aside0.mk (eqL_len q l r hln)
  clear hln
  go_enter Try.func66, Try.ntmps66
  go_wp2
  go_ret
  exact ⟨ret_b HX.out.symm, Below.refl _ _⟩
 have HLN := Aside0.mk hln
 have d2 : ((l.length : Int) != (r.length : Int)) = false := bne_eq_false_iff_eq.2 (by omega)
 clear hln
 go_enter Try.func66, Try.ntmps66
 go_wp2
 clear d2
 go_loopg [17] 1000000 (fun gg s wr => ∃ x : Int, s = .int .i64 x ∧ Aside0 (0 ≤ x ∧ x ≤ l.length ∧ (l.length : Int) - x ≤ gg) ∧ Aside0 (eqL q (l.drop x.toNat) (r.drop x.toNat) = eqL q l r) ∧ Aside0 (Below w.heap.size w wr))
 case atStart => exact ⟨0, rfl, ⟨by have := HN.out; omega⟩, ⟨rfl⟩, ⟨Below.refl _ _⟩⟩
 case round =>
  obtain ⟨x, rfl, HX, HA, HB⟩ := hrel
  by_cases hlt : x < (l.length : Int)
  rotate_left
  ·have hd : decide (x < (l.length : Int)) = false := decide_eq_false hlt
   have HE := Aside0.mk (show eqL q l r = true from HA.out.symm.trans (eqL_end q l r x hlt HLN.out))
   clear hlt
   go_wp2
   go_ret
   exact ⟨ret_b HE.out.symm, HB.out⟩
  have hd : decide (x < (l.length : Int)) = true := decide_eq_true hlt
  have HLT := Aside0.mk hlt
  clear hlt
  have HLT2 := Aside0.mk (show x < (r.length : Int) by have := HLT.out; have := HLN.out; omega)
  have p1 : (0 ≤ x) = True := eq_true HX.out.1
  have p2 : (x < (l.length : Int)) = True := eq_true HLT.out
  have p3 : (x < (r.length : Int)) = True := eq_true HLT2.out
  have HST := Aside0.mk (eqL_step q z41 l r x HX.out.1 HLT.out HLN.out)
  have HM1 := Aside0.mk (rd_mem0 l z41 x HX.out.1 HLT.out)
  have HM2 := Aside0.mk (rd_mem0 r z41 x HX.out.1 HLT2.out)
  have hr1 : l.getD x.toNat z41 = rd_T41 l x := rfl
  have hr2 : r.getD x.toNat z41 = rd_T41 r x := rfl
  rw [hr1] at HM1
  rw [hr2] at HM2
  rw [hr1, hr2] at HST
  clear hr1 hr2
  obtain ⟨ad, A4, c4, A5, c5, A6, c6, e1, y0, y1, y2, y3, y4, y5, y6, y7, y8, y9, y10, y11, y12, y13, hl4, hC4, hl5, hC5, hl6, hC6⟩ := at_T41 (Kd.C_below HL.out HB.out) x HX.out.1 HLT.out
  subst e1
  obtain ⟨ad', A4', c4', A5', c5', A6', c6', e2, y0', y1', y2', y3', y4', y5', y6', y7', y8', y9', y10', y11', y12', y13', hl4', hC4', hl5', hC5', hl6', hC6'⟩ := at_T41 (Kd.C_below HR.out HB.out) x HX.out.1 HLT2.out
  subst e2
  generalize rd_T41 l x = a at *
  generalize rd_T41 r x = b at *
  have HK1 := Aside0.mk (k41_mk wr a hl4 hC4 hl5 hC5 hl6 hC6)
  have HK2 := Aside0.mk (k41_mk wr b hl4' hC4' hl5' hC5' hl6' hC6')
  clear hl4 hC4 hl5 hC5 hl6 hC6 hl4' hC4' hl5' hC5' hl6' hC6'
  go_upto_region 5 with (fail)
  go_cut [7, 8, 17] from 17 to 31 (fun v7 v8 v17 wc => ∃ g8 : Nat, v7 = .int .i64 x ∧ v8 = .pointer (some ⟨g8, 0, none⟩) ∧ v17 = .int .i64 x ∧ Aside0 (Below wr.heap.size wr wc) ∧ Aside0 (wc.heap[g8]? = some (.cells #[.bool a.f0, .int .i64 a.f1.f0, .slice A4 a.f1.f1.length c4, .bool a.f1.f2, .bool a.f1.f3, .slice A5 a.f2.length c5, .int .i64 a.f3.f0, .int .i64 a.f3.f1, .int .i64 a.f3.f2, .int .i64 a.f3.f3, .slice A6 a.f3.f4.length c6, .int .i64 a.f3.f5, .int .i64 a.f3.f6, .int .i64 a.f3.f7] 41 (0, 0))))
  case first => go_wp2; go_meet; exact ⟨_, rfl, rfl, rfl, ⟨below_alloc (Below.refl _ _) _⟩, ⟨blk_new _ _⟩⟩
  case rest =>
   clear y0 y1 y2 y3 y4 y5 y6 y7 y8 y9 y10 y11 y12 y13
   obtain ⟨g8, rfl, rfl, rfl, HB2, X8⟩ := hcut
   have yy0 := pw_cell_below HB2.out y0'
   have yy1 := pw_cell_below HB2.out y1'
   have yy2 := pw_cell_below HB2.out y2'
   have yy3 := pw_cell_below HB2.out y3'
   have yy4 := pw_cell_below HB2.out y4'
   have yy5 := pw_cell_below HB2.out y5'
   have yy6 := pw_cell_below HB2.out y6'
   have yy7 := pw_cell_below HB2.out y7'
   have yy8 := pw_cell_below HB2.out y8'
   have yy9 := pw_cell_below HB2.out y9'
   have yy10 := pw_cell_below HB2.out y10'
   have yy11 := pw_cell_below HB2.out y11'
   have yy12 := pw_cell_below HB2.out y12'
   have yy13 := pw_cell_below HB2.out y13'
   go_upto_region 6 with (fail)
   go_cut [9, 17] from 17 to 31 (fun v9 v17 wc => ∃ g9 : Nat, v9 = .pointer (some ⟨g9, 0, none⟩) ∧ v17 = .int .i64 x ∧ Aside0 (Below wr.heap.size wr wc) ∧ Aside0 (wc.heap[g8]? = some (.cells #[.bool a.f0, .int .i64 a.f1.f0, .slice A4 a.f1.f1.length c4, .bool a.f1.f2, .bool a.f1.f3, .slice A5 a.f2.length c5, .int .i64 a.f3.f0, .int .i64 a.f3.f1, .int .i64 a.f3.f2, .int .i64 a.f3.f3, .slice A6 a.f3.f4.length c6, .int .i64 a.f3.f5, .int .i64 a.f3.f6, .int .i64 a.f3.f7] 41 (0, 0))) ∧ Aside0 (wc.heap[g9]? = some (.cells #[.bool b.f0, .int .i64 b.f1.f0, .slice A4' b.f1.f1.length c4', .bool b.f1.f2, .bool b.f1.f3, .slice A5' b.f2.length c5', .int .i64 b.f3.f0, .int .i64 b.f3.f1, .int .i64 b.f3.f2, .int .i64 b.f3.f3, .slice A6' b.f3.f4.length c6', .int .i64 b.f3.f5, .int .i64 b.f3.f6, .int .i64 b.f3.f7] 41 (0, 0))))
   case first => go_wp2; go_meet; exact ⟨_, rfl, rfl, ⟨below_alloc HB2.out _⟩, ⟨blk_alloc X8.out _⟩, ⟨blk_new _ _⟩⟩
   case rest =>
    clear HB2 X8 y0' y1' y2' y3' y4' y5' y6' y7' y8' y9' y10' y11' y12' y13' yy0 yy1 yy2 yy3 yy4 yy5 yy6 yy7 yy8 yy9 yy10 yy11 yy12 yy13
    obtain ⟨g9, rfl, rfl, HB2, X8, X9⟩ := hcut
    obtain ⟨v0, v1, v2, v3, v4, v5, v6, v7, v8, v9, v10, v11, v12, v13⟩ := cl14 X8.out
    obtain ⟨t0, t1, t2, t3, t4, t5, t6, t7, t8, t9, t10, t11, t12, t13⟩ := cl14 X9.out
    have HCL := HP.out a HM1.out b HM2.out wc (HB.out.trans (HB2.out.mono HB.out.size)) _ _ (Kkblock HK1.out HB2.out) (Kkblock HK2.out HB2.out)
    have HBC := Aside0.mk (HB.out.trans (HB2.out.mono HB.out.size))
    cases hq : q a b with
    | true =>
     rw [hq] at HCL HST
     have HC := Aside0.mk HCL
     clear HCL hq
     go_wp2_with (go_at_fn g; refine HC.out.mono ?_; rintro e w' ⟨rfl, hb⟩; have HB3 := Aside0.mk (below_step HBC.out hb); clear hb)
     have W1 := Aside0.mk (show wrap64 (x + 1) = x + 1 from wrap_in _ (by have := HX.out; omega) (by have := HLT.out; have := HN.out; omega))
     go_roundg ((l.length : Int) - (x + 1)).toNat
     case measure => have h1_ := HX.out; have h2_ := HLT.out; omega
     case rel => exact ⟨x + 1, by first | (rw [W1.out]; done) | rfl | (simp only [W1.out]; done), ⟨by have := HX.out; have := HLT.out; omega⟩, ⟨by rw [← HA.out, HST.out]; rfl⟩, HB3⟩
    | false =>
     rw [hq] at HCL HST
     have HC := Aside0.mk HCL
     clear HCL hq
     go_wp2_with (go_at_fn g; refine HC.out.mono ?_; rintro e w' ⟨rfl, hb⟩; have HB3 := Aside0.mk (below_step HBC.out hb); clear hb)
     go_ret
     exact ⟨ret_b (by rw [← HA.out, HST.out]; rfl), HB3.out⟩
set_option maxHeartbeats 16000000 in
set_option maxRecDepth 100000 in
theorem eqf_func (A : Option Addr) (c : Nat) (l : List S27) (A' : Option Addr) (c' : Nat) (r : List S27) (g : Nat) (q : S27 → S27 → Bool) (w : World) (eg : ∀ args w, (callFunc g args).run Try.prog w = .ok (.enter g args) w) (hl : Kd.C k27 w A l.length l) (hr : Kd.C k27 w A' r.length r) (hb : l.length ≤ 1000000) (hp : ∀ x ∈ l, ∀ y ∈ r, ∀ W : World, Below w.heap.size w W → ∀ cs ds, k27.K W x cs → k27.K W y ds → Calls Try.prog g #[.agg cs.toArray, .agg ds.toArray] W fun e w' => e = .returned (.bool (q x y)) ∧ Below W.heap.size W w') :
  Calls Try.prog 64 #[.slice A l.length c, .slice A' r.length c', .func (.func g) #[] #[]] w fun e w' => e = .returned (.bool (eqL q l r)) ∧ Below w.heap.size w w' := by
 have HL := Aside0.mk hl
 have HR := Aside0.mk hr
 have HN := Aside0.mk hb
 have HP := Aside0.mk hp
 clear hl hr hb hp
 by_cases hln : l.length = r.length
 rotate_left
 ·have d2 : ((l.length : Int) != (r.length : Int)) = true := bne_iff_ne.2 (by omega)
  have HX := Aside0.mk (eqL_len q l r hln)
  clear hln
  go_enter Try.func64, Try.ntmps64
  go_wp2
  go_ret
  exact ⟨ret_b HX.out.symm, Below.refl _ _⟩
 have HLN := Aside0.mk hln
 have d2 : ((l.length : Int) != (r.length : Int)) = false := bne_eq_false_iff_eq.2 (by omega)
 clear hln
 go_enter Try.func64, Try.ntmps64
 go_wp2
 clear d2
 go_loopg [17] 1000000 (fun gg s wr => ∃ x : Int, s = .int .i64 x ∧ Aside0 (0 ≤ x ∧ x ≤ l.length ∧ (l.length : Int) - x ≤ gg) ∧ Aside0 (eqL q (l.drop x.toNat) (r.drop x.toNat) = eqL q l r) ∧ Aside0 (Below w.heap.size w wr))
 case atStart => exact ⟨0, rfl, ⟨by have := HN.out; omega⟩, ⟨rfl⟩, ⟨Below.refl _ _⟩⟩
 case round =>
  obtain ⟨x, rfl, HX, HA, HB⟩ := hrel
  by_cases hlt : x < (l.length : Int)
  rotate_left
  ·have hd : decide (x < (l.length : Int)) = false := decide_eq_false hlt
   have HE := Aside0.mk (show eqL q l r = true from HA.out.symm.trans (eqL_end q l r x hlt HLN.out))
   clear hlt
   go_wp2
   go_ret
   exact ⟨ret_b HE.out.symm, HB.out⟩
  have hd : decide (x < (l.length : Int)) = true := decide_eq_true hlt
  have HLT := Aside0.mk hlt
  clear hlt
  have HLT2 := Aside0.mk (show x < (r.length : Int) by have := HLT.out; have := HLN.out; omega)
  have p1 : (0 ≤ x) = True := eq_true HX.out.1
  have p2 : (x < (l.length : Int)) = True := eq_true HLT.out
  have p3 : (x < (r.length : Int)) = True := eq_true HLT2.out
  have HST := Aside0.mk (eqL_step q z27 l r x HX.out.1 HLT.out HLN.out)
  have HM1 := Aside0.mk (rd_mem0 l z27 x HX.out.1 HLT.out)
  have HM2 := Aside0.mk (rd_mem0 r z27 x HX.out.1 HLT2.out)
  have hr1 : l.getD x.toNat z27 = rd_T27 l x := rfl
  have hr2 : r.getD x.toNat z27 = rd_T27 r x := rfl
  rw [hr1] at HM1
  rw [hr2] at HM2
  rw [hr1, hr2] at HST
  clear hr1 hr2
  obtain ⟨ad, A7, c7, e1, y0, y1, y2, hl7, hC7⟩ := at_T27 (Kd.C_below HL.out HB.out) x HX.out.1 HLT.out
  subst e1
  obtain ⟨ad', A7', c7', e2, y0', y1', y2', hl7', hC7'⟩ := at_T27 (Kd.C_below HR.out HB.out) x HX.out.1 HLT2.out
  subst e2
  generalize rd_T27 l x = a at *
  generalize rd_T27 r x = b at *
  have HK1 := Aside0.mk (k27_mk wr a hl7 hC7)
  have HK2 := Aside0.mk (k27_mk wr b hl7' hC7')
  clear hl7 hC7 hl7' hC7'
  go_upto_region 5 with (fail)
  go_cut [7, 8, 17] from 17 to 31 (fun v7 v8 v17 wc => ∃ g8 : Nat, v7 = .int .i64 x ∧ v8 = .pointer (some ⟨g8, 0, none⟩) ∧ v17 = .int .i64 x ∧ Aside0 (Below wr.heap.size wr wc) ∧ Aside0 (wc.heap[g8]? = some (.cells #[.int .i64 a.f0, .int .i64 a.f1, .slice A7 a.f2.length c7] 27 (0, 0))))
  case first => go_wp2; go_meet; exact ⟨_, rfl, rfl, rfl, ⟨below_alloc (Below.refl _ _) _⟩, ⟨blk_new _ _⟩⟩
  case rest =>
   clear y0 y1 y2
   obtain ⟨g8, rfl, rfl, rfl, HB2, X8⟩ := hcut
   have yy0 := pw_cell_below HB2.out y0'
   have yy1 := pw_cell_below HB2.out y1'
   have yy2 := pw_cell_below HB2.out y2'
   go_upto_region 6 with (fail)
   go_cut [9, 17] from 17 to 31 (fun v9 v17 wc => ∃ g9 : Nat, v9 = .pointer (some ⟨g9, 0, none⟩) ∧ v17 = .int .i64 x ∧ Aside0 (Below wr.heap.size wr wc) ∧ Aside0 (wc.heap[g8]? = some (.cells #[.int .i64 a.f0, .int .i64 a.f1, .slice A7 a.f2.length c7] 27 (0, 0))) ∧ Aside0 (wc.heap[g9]? = some (.cells #[.int .i64 b.f0, .int .i64 b.f1, .slice A7' b.f2.length c7'] 27 (0, 0))))
   case first => go_wp2; go_meet; exact ⟨_, rfl, rfl, ⟨below_alloc HB2.out _⟩, ⟨blk_alloc X8.out _⟩, ⟨blk_new _ _⟩⟩
   case rest =>
    clear HB2 X8 y0' y1' y2' yy0 yy1 yy2
    obtain ⟨g9, rfl, rfl, HB2, X8, X9⟩ := hcut
    obtain ⟨v0, v1, v2⟩ := cl3 X8.out
    obtain ⟨t0, t1, t2⟩ := cl3 X9.out
    have HCL := HP.out a HM1.out b HM2.out wc (HB.out.trans (HB2.out.mono HB.out.size)) _ _ (Kkfunc HK1.out HB2.out) (Kkfunc HK2.out HB2.out)
    have HBC := Aside0.mk (HB.out.trans (HB2.out.mono HB.out.size))
    cases hq : q a b with
    | true =>
     rw [hq] at HCL HST
     have HC := Aside0.mk HCL
     clear HCL hq
     go_wp2_with (go_at_fn g; refine HC.out.mono ?_; rintro e w' ⟨rfl, hb⟩; have HB3 := Aside0.mk (below_step HBC.out hb); clear hb)
     have W1 := Aside0.mk (show wrap64 (x + 1) = x + 1 from wrap_in _ (by have := HX.out; omega) (by have := HLT.out; have := HN.out; omega))
     go_roundg ((l.length : Int) - (x + 1)).toNat
     case measure => have h1_ := HX.out; have h2_ := HLT.out; omega
     case rel => exact ⟨x + 1, by first | (rw [W1.out]; done) | rfl | (simp only [W1.out]; done), ⟨by have := HX.out; have := HLT.out; omega⟩, ⟨by rw [← HA.out, HST.out]; rfl⟩, HB3⟩
    | false =>
     rw [hq] at HCL HST
     have HC := Aside0.mk HCL
     clear HCL hq
     go_wp2_with (go_at_fn g; refine HC.out.mono ?_; rintro e w' ⟨rfl, hb⟩; have HB3 := Aside0.mk (below_step HBC.out hb); clear hb)
     go_ret
     exact ⟨ret_b (by rw [← HA.out, HST.out]; rfl), HB3.out⟩
end Go.Proofs.Ytbfialebaoeicaa.X
