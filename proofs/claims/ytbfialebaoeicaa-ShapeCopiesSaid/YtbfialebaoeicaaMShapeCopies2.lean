/- Part 3 of the proof of the statement ShapeCopies: the words of the walks, the walks through the functions that it reaches, and the plain laws of what they compute. -/
import Derived.Test.YtbfialebaoeicaaMShapeCopies1
import Derived.RegionTactic
import Derived.WalkSpells
import Derived.Shelf.Abstract
import Derived.Lib.SliceRun
import Derived.ChangeAlike
import Derived.Deep.QuietTactic
import Derived.BigQuiet
namespace Go.Proofs.Ytbfialebaoeicaa.X
open Go.RowKit Go.Proofs.YtbfialebaoeicaaW.PrintWords Go.Proofs.YtbfialebaoeicaaW.PrintLast Go.Proofs.YtbfialebaoeicaaW.PrintMore
set_option linter.all false
theorem any_step' {α : Type} (l : List α) (z : α) (q : α → Bool) (x : Int) (h0 : 0 ≤ x) (h1 : x < (l.length : Int)) : (l.take (x + 1).toNat).any q = ((l.take x.toNat).any q || q (l.getD x.toNat z)) := by
 have e : (x + 1).toNat = x.toNat + 1 := by omega
 have hl : x.toNat < l.length := by omega
 rw [e, List.take_succ_eq_append_getElem hl, List.any_append, List.any_cons, List.any_nil, Bool.or_false, List.getD_eq_getElem?_getD, List.getElem?_eq_getElem hl]
 rfl
theorem any_end {α : Type} (l : List α) (q : α → Bool) (x : Int) (h1 : ¬ x < (l.length : Int)) : (l.take x.toNat).any q = l.any q := by rw [List.take_of_length_le (by omega)]
theorem rd_mem0 {α : Type} (l : List α) (z : α) (x : Int) (h0 : 0 ≤ x) (h1 : x < (l.length : Int)) : l.getD x.toNat z ∈ l := by
 have hl : x.toNat < l.length := by omega
 rw [List.getD_eq_getElem?_getD, List.getElem?_eq_getElem hl]
 exact List.getElem_mem hl
theorem any_yes {α : Type} (l : List α) (z : α) (q : α → Bool) (x : Int) (h0 : 0 ≤ x) (h1 : x < (l.length : Int)) (h : q (l.getD x.toNat z) = true) : l.any q = true := List.any_eq_true.2 ⟨_, rd_mem0 l z x h0 h1, h⟩
set_option maxHeartbeats 16000000 in
set_option maxRecDepth 100000 in
theorem idx_int (A : Option Addr) (c : Nat) (l : List Int) (g : Nat) (lb : Array Value) (q : Int → Bool) (w : World) (eg : ∀ args w, (callFunc g args).run Try.prog w = .ok (.enter g args) w) (hr : Kd.C (Kd.int .i64) w A l.length l) (hp : ∀ x ∈ l, ∀ W : World, Below w.heap.size w W →  Calls Try.prog g (#[.int .i64 x] ++ lb) W fun e w' => e = .returned (.bool (q x)) ∧ Below W.heap.size W w') :
  Calls Try.prog 129 #[.slice A l.length c, .func (.func g) #[] lb] w fun e w' => (∃ i : Int, e = .returned (.int .i64 i) ∧ decide (0 ≤ i) = l.any q) ∧ Below w.heap.size w w' := by
 have HR := Aside0.mk hr
 have HP := Aside0.mk hp
 have hm := hr.2.1
 clear hr hp
 go_enter Try.func129, Try.ntmps129
 go_wp2
 go_loopg [5, 8] l.length (fun gg _ s8 wr => ∃ x : Int, s8 = .int .i64 x ∧ Aside0 (0 ≤ x ∧ x ≤ l.length ∧ (l.length : Int) - x ≤ gg) ∧ Aside0 (Below w.heap.size w wr) ∧ Aside0 ((l.take x.toNat).any q = false))
 case atStart => exact ⟨0, rfl, ⟨by omega⟩, ⟨Below.refl _ _⟩, ⟨by simp⟩⟩
 case round =>
  obtain ⟨x, rfl, HX, HB, HA⟩ := hrel
  by_cases hlt : x < (l.length : Int)
  rotate_left
  ·have hd : decide (x < (l.length : Int)) = false := decide_eq_false hlt
   have HK := Aside0.mk (show l.any q = false by rw [← any_end l q x hlt]; exact HA.out)
   clear hlt
   go_wp2
   go_ret
   exact ⟨⟨_, rfl, by rw [HK.out]; rfl⟩, HB.out⟩
  have hd : decide (x < (l.length : Int)) = true := decide_eq_true hlt
  have HLT := Aside0.mk hlt
  clear hlt
  obtain ⟨ad, e1, hx⟩ := Kd.at_int (Kd.C_below HR.out HB.out) x HX.out.1 HLT.out
  subst e1
  have HST := Aside0.mk (any_step' l 0 q x HX.out.1 HLT.out)
  have HYES := Aside0.mk (any_yes l 0 q x HX.out.1 HLT.out)
  have HME := Aside0.mk (rd_mem0 l 0 x HX.out.1 HLT.out)
  have hrd : l.getD x.toNat 0 = rd l x := rfl
  rw [hrd] at HST HYES HME
  clear hrd
  have hcall := HP.out (rd l x) HME.out wr HB.out
  have p0 : (0 ≤ x) = True := eq_true HX.out.1
  have q0 : (x < (l.length : Int)) = True := eq_true HLT.out
  have HLN := Aside0.mk hm
  cases hq : q (rd l x) with
  | true =>
   rw [hq] at hcall
   have HCL := Aside0.mk hcall
   have HQ := Aside0.mk hq
   clear hcall hq
   go_wp2_with (go_at_fn g; refine HCL.out.mono ?_; rintro e w' ⟨rfl, hb⟩; have HB2 := Aside0.mk (below_step HB.out hb); clear hb)
   go_ret
   exact ⟨⟨_, rfl, by rw [HYES.out HQ.out]; exact decide_eq_true HX.out.1⟩, HB2.out⟩
  | false =>
   rw [hq] at hcall
   have HCL := Aside0.mk hcall
   have HQ := Aside0.mk hq
   clear hcall hq
   go_wp2_with (go_at_fn g; refine HCL.out.mono ?_; rintro e w' ⟨rfl, hb⟩; have HB2 := Aside0.mk (below_step HB.out hb); clear hb)
   have W1 := Aside0.mk (show wrap64 (x + 1) = x + 1 from wrap_in _ (by have := HX.out; omega) (by have := HLT.out; have := HLN.out; omega))
   go_roundg ((l.length : Int) - (x + 1)).toNat
   case measure => have h1_ := HX.out; have h2_ := HLT.out; omega
   case rel => exact ⟨x + 1, by first | (rw [W1.out]; done) | rfl | (simp only [W1.out]; done), ⟨by have := HX.out; have := HLT.out; omega⟩, HB2, ⟨by rw [HST.out, HA.out, HQ.out]; rfl⟩⟩
set_option maxHeartbeats 16000000 in
set_option maxRecDepth 100000 in
theorem con_int (A : Option Addr) (c : Nat) (l : List Int) (g : Nat) (lb : Array Value) (q : Int → Bool) (w : World) (eg : ∀ args w, (callFunc g args).run Try.prog w = .ok (.enter g args) w) (hr : Kd.C (Kd.int .i64) w A l.length l) (hp : ∀ x ∈ l, ∀ W : World, Below w.heap.size w W →  Calls Try.prog g (#[.int .i64 x] ++ lb) W fun e w' => e = .returned (.bool (q x)) ∧ Below W.heap.size W w') :
  Calls Try.prog 122 #[.slice A l.length c, .func (.func g) #[] lb] w fun e w' => e = .returned (.bool (l.any q)) ∧ Below w.heap.size w w' := by
 have H := Aside0.mk (idx_int A c l g lb q w eg hr hp)
 clear hr hp
 go_enter Try.func122, Try.ntmps122
 go_wp2_with (go_at_call 129; (with_reducible refine H.out.mono ?_); rintro e w' ⟨⟨i, rfl, hi⟩, hb⟩; have HI := Aside0.mk hi; have HB := Aside0.mk hb; clear hi hb)
 all_goals (go_ret; exact ⟨ret_b HI.out, HB.out⟩)
set_option maxHeartbeats 16000000 in
set_option maxRecDepth 100000 in
theorem idx_ins (A : Option Addr) (c : Nat) (l : List S49) (g : Nat) (lb : Array Value) (q : S49 → Bool) (w : World) (eg : ∀ args w, (callFunc g args).run Try.prog w = .ok (.enter g args) w) (hr : Kd.C k49 w A l.length l) (hp : ∀ x ∈ l, ∀ W : World, Below w.heap.size w W → ∀ cs, k49.K W x cs → Calls Try.prog g (#[.agg cs.toArray] ++ lb) W fun e w' => e = .returned (.bool (q x)) ∧ Below W.heap.size W w') :
  Calls Try.prog 109 #[.slice A l.length c, .func (.func g) #[] lb] w fun e w' => (∃ i : Int, e = .returned (.int .i64 i) ∧ decide (0 ≤ i) = l.any q) ∧ Below w.heap.size w w' := by
 have HR := Aside0.mk hr
 have HP := Aside0.mk hp
 have hm := hr.2.1
 clear hr hp
 go_enter Try.func109, Try.ntmps109
 go_wp2
 go_loopg [5, 8] l.length (fun gg _ s8 wr => ∃ x : Int, s8 = .int .i64 x ∧ Aside0 (0 ≤ x ∧ x ≤ l.length ∧ (l.length : Int) - x ≤ gg) ∧ Aside0 (Below w.heap.size w wr) ∧ Aside0 ((l.take x.toNat).any q = false))
 case atStart => exact ⟨0, rfl, ⟨by omega⟩, ⟨Below.refl _ _⟩, ⟨by simp⟩⟩
 case round =>
  obtain ⟨x, rfl, HX, HB, HA⟩ := hrel
  by_cases hlt : x < (l.length : Int)
  rotate_left
  ·have hd : decide (x < (l.length : Int)) = false := decide_eq_false hlt
   have HK := Aside0.mk (show l.any q = false by rw [← any_end l q x hlt]; exact HA.out)
   clear hlt
   go_wp2
   go_ret
   exact ⟨⟨_, rfl, by rw [HK.out]; rfl⟩, HB.out⟩
  have hd : decide (x < (l.length : Int)) = true := decide_eq_true hlt
  have HLT := Aside0.mk hlt
  clear hlt
  obtain ⟨ad, A7, c7, e1, y0, y1, y2, y3, y4, y5, y6, hl7, hC7⟩ := at_T49 (Kd.C_below HR.out HB.out) x HX.out.1 HLT.out
  subst e1
  have HST := Aside0.mk (any_step' l z49 q x HX.out.1 HLT.out)
  have HYES := Aside0.mk (any_yes l z49 q x HX.out.1 HLT.out)
  have HME := Aside0.mk (rd_mem0 l z49 x HX.out.1 HLT.out)
  have hrd : l.getD x.toNat z49 = rd_T49 l x := rfl
  rw [hrd] at HST HYES HME
  clear hrd
  have hcall := HP.out (rd_T49 l x) HME.out wr HB.out _ (k49_mk wr (rd_T49 l x) hl7 hC7)
  clear hl7 hC7
  have p0 : (0 ≤ x) = True := eq_true HX.out.1
  have q0 : (x < (l.length : Int)) = True := eq_true HLT.out
  have HLN := Aside0.mk hm
  cases hq : q (rd_T49 l x) with
  | true =>
   rw [hq] at hcall
   have HCL := Aside0.mk hcall
   have HQ := Aside0.mk hq
   clear hcall hq
   go_wp2_with (go_at_fn g; refine HCL.out.mono ?_; rintro e w' ⟨rfl, hb⟩; have HB2 := Aside0.mk (below_step HB.out hb); clear hb)
   go_ret
   exact ⟨⟨_, rfl, by rw [HYES.out HQ.out]; exact decide_eq_true HX.out.1⟩, HB2.out⟩
  | false =>
   rw [hq] at hcall
   have HCL := Aside0.mk hcall
   have HQ := Aside0.mk hq
   clear hcall hq
   go_wp2_with (go_at_fn g; refine HCL.out.mono ?_; rintro e w' ⟨rfl, hb⟩; have HB2 := Aside0.mk (below_step HB.out hb); clear hb)
   have W1 := Aside0.mk (show wrap64 (x + 1) = x + 1 from wrap_in _ (by have := HX.out; omega) (by have := HLT.out; have := HLN.out; omega))
   go_roundg ((l.length : Int) - (x + 1)).toNat
   case measure => have h1_ := HX.out; have h2_ := HLT.out; omega
   case rel => exact ⟨x + 1, by first | (rw [W1.out]; done) | rfl | (simp only [W1.out]; done), ⟨by have := HX.out; have := HLT.out; omega⟩, HB2, ⟨by rw [HST.out, HA.out, HQ.out]; rfl⟩⟩
set_option maxHeartbeats 16000000 in
set_option maxRecDepth 100000 in
theorem con_ins (A : Option Addr) (c : Nat) (l : List S49) (g : Nat) (lb : Array Value) (q : S49 → Bool) (w : World) (eg : ∀ args w, (callFunc g args).run Try.prog w = .ok (.enter g args) w) (hr : Kd.C k49 w A l.length l) (hp : ∀ x ∈ l, ∀ W : World, Below w.heap.size w W → ∀ cs, k49.K W x cs → Calls Try.prog g (#[.agg cs.toArray] ++ lb) W fun e w' => e = .returned (.bool (q x)) ∧ Below W.heap.size W w') :
  Calls Try.prog 85 #[.slice A l.length c, .func (.func g) #[] lb] w fun e w' => e = .returned (.bool (l.any q)) ∧ Below w.heap.size w w' := by
 have H := Aside0.mk (idx_ins A c l g lb q w eg hr hp)
 clear hr hp
 go_enter Try.func85, Try.ntmps85
 go_wp2_with (go_at_call 109; (with_reducible refine H.out.mono ?_); rintro e w' ⟨⟨i, rfl, hi⟩, hb⟩; have HI := Aside0.mk hi; have HB := Aside0.mk hb; clear hi hb)
 all_goals (go_ret; exact ⟨ret_b HI.out, HB.out⟩)
set_option maxHeartbeats 16000000 in
set_option maxRecDepth 100000 in
theorem idx_func (A : Option Addr) (c : Nat) (l : List S27) (g : Nat) (lb : Array Value) (q : S27 → Bool) (w : World) (eg : ∀ args w, (callFunc g args).run Try.prog w = .ok (.enter g args) w) (hr : Kd.C k27 w A l.length l) (hp : ∀ x ∈ l, ∀ W : World, Below w.heap.size w W → ∀ cs, k27.K W x cs → Calls Try.prog g (#[.agg cs.toArray] ++ lb) W fun e w' => e = .returned (.bool (q x)) ∧ Below W.heap.size W w') :
  Calls Try.prog 82 #[.slice A l.length c, .func (.func g) #[] lb] w fun e w' => (∃ i : Int, e = .returned (.int .i64 i) ∧ decide (0 ≤ i) = l.any q) ∧ Below w.heap.size w w' := by
 have HR := Aside0.mk hr
 have HP := Aside0.mk hp
 have hm := hr.2.1
 clear hr hp
 go_enter Try.func82, Try.ntmps82
 go_wp2
 go_loopg [5, 8] l.length (fun gg _ s8 wr => ∃ x : Int, s8 = .int .i64 x ∧ Aside0 (0 ≤ x ∧ x ≤ l.length ∧ (l.length : Int) - x ≤ gg) ∧ Aside0 (Below w.heap.size w wr) ∧ Aside0 ((l.take x.toNat).any q = false))
 case atStart => exact ⟨0, rfl, ⟨by omega⟩, ⟨Below.refl _ _⟩, ⟨by simp⟩⟩
 case round =>
  obtain ⟨x, rfl, HX, HB, HA⟩ := hrel
  by_cases hlt : x < (l.length : Int)
  rotate_left
  ·have hd : decide (x < (l.length : Int)) = false := decide_eq_false hlt
   have HK := Aside0.mk (show l.any q = false by rw [← any_end l q x hlt]; exact HA.out)
   clear hlt
   go_wp2
   go_ret
   exact ⟨⟨_, rfl, by rw [HK.out]; rfl⟩, HB.out⟩
  have hd : decide (x < (l.length : Int)) = true := decide_eq_true hlt
  have HLT := Aside0.mk hlt
  clear hlt
  obtain ⟨ad, A7, c7, e1, y0, y1, y2, hl7, hC7⟩ := at_T27 (Kd.C_below HR.out HB.out) x HX.out.1 HLT.out
  subst e1
  have HST := Aside0.mk (any_step' l z27 q x HX.out.1 HLT.out)
  have HYES := Aside0.mk (any_yes l z27 q x HX.out.1 HLT.out)
  have HME := Aside0.mk (rd_mem0 l z27 x HX.out.1 HLT.out)
  have hrd : l.getD x.toNat z27 = rd_T27 l x := rfl
  rw [hrd] at HST HYES HME
  clear hrd
  have hcall := HP.out (rd_T27 l x) HME.out wr HB.out _ (k27_mk wr (rd_T27 l x) hl7 hC7)
  clear hl7 hC7
  have p0 : (0 ≤ x) = True := eq_true HX.out.1
  have q0 : (x < (l.length : Int)) = True := eq_true HLT.out
  have HLN := Aside0.mk hm
  cases hq : q (rd_T27 l x) with
  | true =>
   rw [hq] at hcall
   have HCL := Aside0.mk hcall
   have HQ := Aside0.mk hq
   clear hcall hq
   go_wp2_with (go_at_fn g; refine HCL.out.mono ?_; rintro e w' ⟨rfl, hb⟩; have HB2 := Aside0.mk (below_step HB.out hb); clear hb)
   go_ret
   exact ⟨⟨_, rfl, by rw [HYES.out HQ.out]; exact decide_eq_true HX.out.1⟩, HB2.out⟩
  | false =>
   rw [hq] at hcall
   have HCL := Aside0.mk hcall
   have HQ := Aside0.mk hq
   clear hcall hq
   go_wp2_with (go_at_fn g; refine HCL.out.mono ?_; rintro e w' ⟨rfl, hb⟩; have HB2 := Aside0.mk (below_step HB.out hb); clear hb)
   have W1 := Aside0.mk (show wrap64 (x + 1) = x + 1 from wrap_in _ (by have := HX.out; omega) (by have := HLT.out; have := HLN.out; omega))
   go_roundg ((l.length : Int) - (x + 1)).toNat
   case measure => have h1_ := HX.out; have h2_ := HLT.out; omega
   case rel => exact ⟨x + 1, by first | (rw [W1.out]; done) | rfl | (simp only [W1.out]; done), ⟨by have := HX.out; have := HLT.out; omega⟩, HB2, ⟨by rw [HST.out, HA.out, HQ.out]; rfl⟩⟩
set_option maxHeartbeats 16000000 in
set_option maxRecDepth 100000 in
theorem con_func (A : Option Addr) (c : Nat) (l : List S27) (g : Nat) (lb : Array Value) (q : S27 → Bool) (w : World) (eg : ∀ args w, (callFunc g args).run Try.prog w = .ok (.enter g args) w) (hr : Kd.C k27 w A l.length l) (hp : ∀ x ∈ l, ∀ W : World, Below w.heap.size w W → ∀ cs, k27.K W x cs → Calls Try.prog g (#[.agg cs.toArray] ++ lb) W fun e w' => e = .returned (.bool (q x)) ∧ Below W.heap.size W w') :
  Calls Try.prog 52 #[.slice A l.length c, .func (.func g) #[] lb] w fun e w' => e = .returned (.bool (l.any q)) ∧ Below w.heap.size w w' := by
 have H := Aside0.mk (idx_func A c l g lb q w eg hr hp)
 clear hr hp
 go_enter Try.func52, Try.ntmps52
 go_wp2_with (go_at_call 82; (with_reducible refine H.out.mono ?_); rintro e w' ⟨⟨i, rfl, hi⟩, hb⟩; have HI := Aside0.mk hi; have HB := Aside0.mk hb; clear hi hb)
 all_goals (go_ret; exact ⟨ret_b HI.out, HB.out⟩)
end Go.Proofs.Ytbfialebaoeicaa.X
namespace Go.Proofs.Ytbfialebaoeicaa.X
open Go.RowKit Go.Proofs.YtbfialebaoeicaaW.PrintWords Go.Proofs.YtbfialebaoeicaaW.PrintLast Go.Proofs.YtbfialebaoeicaaW.PrintMore
set_option linter.all false
set_option maxHeartbeats 16000000 in
set_option maxRecDepth 100000 in
theorem place_c (m : List S27) (A0 : Option Addr) (c0 : Nat) (f : S27) (A1 : Option Addr) (c1 : Nat) (n : Int) (w : World) :
  Calls Try.prog 104 #[.agg #[.slice A0 m.length c0, .int .i64 f.f0, .int .i64 f.f1, .slice A1 f.f2.length c1], .int .i64 n] w fun e w' => e = .returned (.bool (win n f.f1)) ∧ Below w.heap.size w w' := by
 have hu24 := Try.underlying24
 have hu27 := Try.underlying27
 have hu87 := Try.underlying87
 go_enter Try.func104, Try.ntmps104
 go_wp2_with ((with_reducible refine gate_dst (N := 2) rfl ?_); refine box_event ?hg (N := 2) ?hd (cs := #[.slice A0 m.length c0, .int .i64 f.f0, .int .i64 f.f1, .slice A1 f.f2.length c1]) (t := 87) ?hr ?_; (case hd => rfl); (case hg => rfl); (case hr => first | (go_simp; done) | (go_simp; rfl)); intro g1 hg w1 hbox hb; have HB := Aside0.mk hb; have X1 := Aside0.mk hbox; clear hbox hb hg; obtain ⟨k0, k1, k2, k3⟩ := cl4 X1.out)
 all_goals (go_ret; exact ⟨ret_b (by first | (simp [win, *]; done) | (simp [win, *]; omega)), HB.out⟩)
set_option maxHeartbeats 16000000 in
set_option maxRecDepth 100000 in
theorem goal_l (m : List S27) (A0 : Option Addr) (c0 : Nat) (f : S27) (A1 : Option Addr) (c1 : Nat) (n : Int) (w : World) (hb : Kd.C k41 w A1 f.f2.length f.f2) :
  Calls Try.prog 106 #[.agg #[.slice A0 m.length c0, .int .i64 f.f0, .int .i64 f.f1, .slice A1 f.f2.length c1], .int .i64 n] w fun e w' => e = .returned (.bool (goalR f.f2 n)) ∧ Below w.heap.size w w' := by
 have HL := Aside0.mk hb
 clear hb
 have hu24 := Try.underlying24
 have hu27 := Try.underlying27
 have hu87 := Try.underlying87
 by_cases hw : win n f.f2.length = true
 rotate_left
 ·have hw := Bool.eq_false_iff.2 hw
  have HW := Aside0.mk (show goalR f.f2 n = false by unfold goalR; rw [hw]; rfl)
  by_cases h0 : 0 ≤ n
  ·have g0 : decide (0 ≤ n) = true := decide_eq_true h0
   have g1 : decide (n < (f.f2.length : Int)) = false := decide_eq_false (by intro h; simp [win] at hw; have := hw h0; omega)
   clear hw h0
   go_enter Try.func106, Try.ntmps106
   go_wp2_with ((with_reducible refine gate_dst (N := 2) rfl ?_); refine box_event ?hg (N := 2) ?hd (cs := #[.slice A0 m.length c0, .int .i64 f.f0, .int .i64 f.f1, .slice A1 f.f2.length c1]) (t := 87) ?hr ?_; (case hd => rfl); (case hg => rfl); (case hr => first | (go_simp; done) | (go_simp; rfl)); intro g1 hg w1 hbox hb; have HB := Aside0.mk hb; have X1 := Aside0.mk hbox; clear hbox hb hg; obtain ⟨k0, k1, k2, k3⟩ := cl4 X1.out)
   go_ret
   exact ⟨ret_b HW.out.symm, HB.out⟩
  ·have g0 : decide (0 ≤ n) = false := decide_eq_false h0
   clear hw h0
   go_enter Try.func106, Try.ntmps106
   go_wp2_with ((with_reducible refine gate_dst (N := 2) rfl ?_); refine box_event ?hg (N := 2) ?hd (cs := #[.slice A0 m.length c0, .int .i64 f.f0, .int .i64 f.f1, .slice A1 f.f2.length c1]) (t := 87) ?hr ?_; (case hd => rfl); (case hg => rfl); (case hr => first | (go_simp; done) | (go_simp; rfl)); intro g1 hg w1 hbox hb; have HB := Aside0.mk hb; have X1 := Aside0.mk hbox; clear hbox hb hg; obtain ⟨k0, k1, k2, k3⟩ := cl4 X1.out)
   go_ret
   exact ⟨ret_b HW.out.symm, HB.out⟩
 have hnn := win_at hw
 have hxx := at_T41 HL.out n hnn.1 hnn.2
 obtain ⟨ad, _, _, _, _, _, _, e1, hx, _⟩ := hxx
 subst e1
 have p1 : (0 ≤ n) = True := eq_true hnn.1
 have p2 : (n < (f.f2.length : Int)) = True := eq_true hnn.2
 have HW := Aside0.mk (show goalR f.f2 n = !(rd_T41 f.f2 n).f0 by unfold goalR; rw [hw]; rfl)
 clear hnn hw
 go_enter Try.func106, Try.ntmps106
 go_wp2_with ((with_reducible refine gate_dst (N := 2) rfl ?_); refine box_event ?hg (N := 2) ?hd (cs := #[.slice A0 m.length c0, .int .i64 f.f0, .int .i64 f.f1, .slice (some ad) f.f2.length c1]) (t := 87) ?hr ?_; (case hd => rfl); (case hg => rfl); (case hr => first | (go_simp; done) | (go_simp; rfl)); intro g1 hg w1 hbox hb; have HB := Aside0.mk hb; have X1 := Aside0.mk hbox; clear hbox hb hg; obtain ⟨k0, k1, k2, k3⟩ := cl4 X1.out; have hx1 := pw_cell_below HB.out hx)
 all_goals (go_ret; exact ⟨ret_b HW.out.symm, HB.out⟩)
set_option maxHeartbeats 16000000 in
set_option maxRecDepth 100000 in
theorem land_l (m : List S27) (A0 : Option Addr) (c0 : Nat) (f : S27) (A1 : Option Addr) (c1 : Nat) (n : Int) (w : World) (hb : Kd.C k41 w A1 f.f2.length f.f2) :
  Calls Try.prog 108 #[.agg #[.slice A0 m.length c0, .int .i64 f.f0, .int .i64 f.f1, .slice A1 f.f2.length c1], .int .i64 n] w fun e w' => e = .returned (.bool (landR f.f2 n)) ∧ Below w.heap.size w w' := by
 have HL := Aside0.mk hb
 clear hb
 have hu24 := Try.underlying24
 have hu27 := Try.underlying27
 have hu87 := Try.underlying87
 by_cases hw : win n f.f2.length = true
 rotate_left
 ·have hw := Bool.eq_false_iff.2 hw
  have HW := Aside0.mk (show landR f.f2 n = false by unfold landR; rw [hw]; rfl)
  by_cases h0 : 0 ≤ n
  ·have g0 : decide (0 ≤ n) = true := decide_eq_true h0
   have g1 : decide (n < (f.f2.length : Int)) = false := decide_eq_false (by intro h; simp [win] at hw; have := hw h0; omega)
   clear hw h0
   go_enter Try.func108, Try.ntmps108
   go_wp2_with ((with_reducible refine gate_dst (N := 2) rfl ?_); refine box_event ?hg (N := 2) ?hd (cs := #[.slice A0 m.length c0, .int .i64 f.f0, .int .i64 f.f1, .slice A1 f.f2.length c1]) (t := 87) ?hr ?_; (case hd => rfl); (case hg => rfl); (case hr => first | (go_simp; done) | (go_simp; rfl)); intro g1 hg w1 hbox hb; have HB := Aside0.mk hb; have X1 := Aside0.mk hbox; clear hbox hb hg; obtain ⟨k0, k1, k2, k3⟩ := cl4 X1.out)
   go_ret
   exact ⟨ret_b HW.out.symm, HB.out⟩
  ·have g0 : decide (0 ≤ n) = false := decide_eq_false h0
   clear hw h0
   go_enter Try.func108, Try.ntmps108
   go_wp2_with ((with_reducible refine gate_dst (N := 2) rfl ?_); refine box_event ?hg (N := 2) ?hd (cs := #[.slice A0 m.length c0, .int .i64 f.f0, .int .i64 f.f1, .slice A1 f.f2.length c1]) (t := 87) ?hr ?_; (case hd => rfl); (case hg => rfl); (case hr => first | (go_simp; done) | (go_simp; rfl)); intro g1 hg w1 hbox hb; have HB := Aside0.mk hb; have X1 := Aside0.mk hbox; clear hbox hb hg; obtain ⟨k0, k1, k2, k3⟩ := cl4 X1.out)
   go_ret
   exact ⟨ret_b HW.out.symm, HB.out⟩
 have hnn := win_at hw
 have hxx := at_T41 HL.out n hnn.1 hnn.2
 obtain ⟨ad, _, _, _, _, _, _, e1, hx, _⟩ := hxx
 subst e1
 have p1 : (0 ≤ n) = True := eq_true hnn.1
 have p2 : (n < (f.f2.length : Int)) = True := eq_true hnn.2
 have HW := Aside0.mk (show landR f.f2 n = (rd_T41 f.f2 n).f0 by unfold landR; rw [hw]; rfl)
 clear hnn hw
 go_enter Try.func108, Try.ntmps108
 go_wp2_with ((with_reducible refine gate_dst (N := 2) rfl ?_); refine box_event ?hg (N := 2) ?hd (cs := #[.slice A0 m.length c0, .int .i64 f.f0, .int .i64 f.f1, .slice (some ad) f.f2.length c1]) (t := 87) ?hr ?_; (case hd => rfl); (case hg => rfl); (case hr => first | (go_simp; done) | (go_simp; rfl)); intro g1 hg w1 hbox hb; have HB := Aside0.mk hb; have X1 := Aside0.mk hbox; clear hbox hb hg; obtain ⟨k0, k1, k2, k3⟩ := cl4 X1.out; have hx1 := pw_cell_below HB.out hx)
 all_goals (go_ret; exact ⟨ret_b HW.out.symm, HB.out⟩)
set_option maxHeartbeats 16000000 in
set_option maxRecDepth 100000 in
theorem callp_c (m : List S27) (A0 : Option Addr) (c0 : Nat) (f : S27) (A1 : Option Addr) (c1 : Nat) (g : Nat) (n : Int) (w : World) (hg : w.heap[g]? = some (.cells #[.slice A0 m.length c0, .int .i64 f.f0, .int .i64 f.f1, .slice A1 f.f2.length c1] 87 (0, 0))) :
  Calls Try.prog 123 #[.int .i64 n, .pointer (some ⟨g, 0, none⟩)] w fun e w' => e = .returned (.bool (!(win n f.f1))) ∧ Below w.heap.size w w' := by
 have X1 := Aside0.mk hg
 clear hg
 have hu24 := Try.underlying24
 have hu27 := Try.underlying27
 have hu87 := Try.underlying87
 obtain ⟨k0, k1, k2, k3⟩ := cl4 X1.out
 go_enter Try.func123, Try.ntmps123
 go_wp2_with (go_at_call 104; (with_reducible refine (place_c m A0 c0 f A1 c1 _ _).mono ?_); rintro e w' ⟨rfl, hb⟩; have HB := Aside0.mk hb; clear hb)
 go_ret
 exact ⟨rfl, HB.out⟩
theorem callp_p (m : List S27) (A0 : Option Addr) (c0 : Nat) (f : S27) (A1 : Option Addr) (c1 : Nat) (g : Nat) (l : List Int) (w : World) (hg : w.heap[g]? = some (.cells #[.slice A0 m.length c0, .int .i64 f.f0, .int .i64 f.f1, .slice A1 f.f2.length c1] 87 (0, 0))) : ∀ x ∈ l, ∀ W : World, Below w.heap.size w W →
  Calls Try.prog 123 (#[.int .i64 x] ++ #[.pointer (some ⟨g, 0, none⟩)]) W fun e w' => e = .returned (.bool ((fun x => !(win x f.f1)) x)) ∧ Below W.heap.size W w' := fun x _ W hW => callp_c m A0 c0 f A1 c1 g x W (blk_below hg hW)
theorem any_not {α : Type} (l : List α) (q : α → Bool) : (!(l.any fun x => !(q x))) = l.all q := by
 induction l with
 | nil => rfl
 | cons x l ih => rw [List.any_cons, List.all_cons, Bool.not_or, Bool.not_not, ih]
set_option maxHeartbeats 16000000 in
set_option maxRecDepth 100000 in
theorem call_l (m : List S27) (A0 : Option Addr) (c0 : Nat) (f : S27) (A1 : Option Addr) (c1 : Nat) (n : Int) (A2 : Option Addr) (c2 : Nat) (l : List Int) (w : World) (hm : Kd.C k27 w A0 m.length m) (hl : Kd.C (Kd.int .i64) w A2 l.length l) :
  Calls Try.prog 107 #[.agg #[.slice A0 m.length c0, .int .i64 f.f0, .int .i64 f.f1, .slice A1 f.f2.length c1], .int .i64 n, .slice A2 l.length c2] w fun e w' => e = .returned (.bool (argsR m f.f1 n l)) ∧ Below w.heap.size w w' := by
 have HM := Aside0.mk hm
 have HL := Aside0.mk hl
 clear hm hl
 have hu24 := Try.underlying24
 have hu27 := Try.underlying27
 have hu87 := Try.underlying87
 by_cases hw : win n m.length = true
 rotate_left
 ·have hw := Bool.eq_false_iff.2 hw
  have HW := Aside0.mk (show argsR m f.f1 n l = false by unfold argsR; rw [hw]; rfl)
  by_cases h0 : 0 ≤ n
  ·have g0 : decide (n < 0) = false := decide_eq_false (by omega)
   have g1 : decide ((m.length : Int) ≤ n) = true := decide_eq_true (by simp [win] at hw; have := hw h0; omega)
   clear hw h0
   go_enter Try.func107, Try.ntmps107
   go_wp2_with ((with_reducible refine gate_dst (N := 3) rfl ?_); refine box_event ?hg (N := 3) ?hd (cs := #[.slice A0 m.length c0, .int .i64 f.f0, .int .i64 f.f1, .slice A1 f.f2.length c1]) (t := 87) ?hr ?_; (case hd => rfl); (case hg => rfl); (case hr => first | (go_simp; done) | (go_simp; rfl)); intro g1 hg w1 hbox hb; have HB := Aside0.mk hb; have X1 := Aside0.mk hbox; clear hbox hb hg; obtain ⟨k0, k1, k2, k3⟩ := cl4 X1.out)
   go_ret
   exact ⟨ret_b HW.out.symm, HB.out⟩
  ·have g0 : decide (n < 0) = true := decide_eq_true (by omega)
   clear hw h0
   go_enter Try.func107, Try.ntmps107
   go_wp2_with ((with_reducible refine gate_dst (N := 3) rfl ?_); refine box_event ?hg (N := 3) ?hd (cs := #[.slice A0 m.length c0, .int .i64 f.f0, .int .i64 f.f1, .slice A1 f.f2.length c1]) (t := 87) ?hr ?_; (case hd => rfl); (case hg => rfl); (case hr => first | (go_simp; done) | (go_simp; rfl)); intro g1 hg w1 hbox hb; have HB := Aside0.mk hb; have X1 := Aside0.mk hbox; clear hbox hb hg; obtain ⟨k0, k1, k2, k3⟩ := cl4 X1.out)
   go_ret
   exact ⟨ret_b HW.out.symm, HB.out⟩
 have hnn := win_at hw
 obtain ⟨ad, _, _, e1, hx, _⟩ := at_T27 HM.out n hnn.1 hnn.2
 subst e1
 have p1 : (0 ≤ n) = True := eq_true hnn.1
 have p2 : (n < (m.length : Int)) = True := eq_true hnn.2
 have p3 : decide (n < 0) = false := decide_eq_false (by omega)
 have p4 : decide ((m.length : Int) ≤ n) = false := decide_eq_false (by omega)
 clear hnn
 cases hp : ((l.length : Int) == (rd_T27 m n).f0) with
 | false =>
  have hp1 : ((l.length : Int) != (rd_T27 m n).f0) = true := by rw [bne, hp]; rfl
  have HW := Aside0.mk (show argsR m f.f1 n l = false by unfold argsR; rw [decide_eq_false (beq_eq_false_iff_ne.1 hp), Bool.and_false]; rfl)
  go_enter Try.func107, Try.ntmps107
  go_wp2_with ((with_reducible refine gate_dst (N := 3) rfl ?_); refine box_event ?hg (N := 3) ?hd (cs := #[.slice (some ad) m.length c0, .int .i64 f.f0, .int .i64 f.f1, .slice A1 f.f2.length c1]) (t := 87) ?hr ?_; (case hd => rfl); (case hg => rfl); (case hr => first | (go_simp; done) | (go_simp; rfl)); intro g1 hg w1 hbox hb; have HB := Aside0.mk hb; have X1 := Aside0.mk hbox; clear hbox hb hg; obtain ⟨k0, k1, k2, k3⟩ := cl4 X1.out; have hx1 := pw_cell_below HB.out hx)
  go_ret
  exact ⟨ret_b HW.out.symm, HB.out⟩
 | true =>
  have hp1 : ((l.length : Int) != (rd_T27 m n).f0) = false := by rw [bne, hp]; rfl
  have HW := Aside0.mk (show argsR m f.f1 n l = (!(l.any fun x => !(win x f.f1))) by rw [any_not]; unfold argsR; rw [hw, decide_eq_true (beq_iff_eq.1 hp)]; rfl)
  go_enter Try.func107, Try.ntmps107
  go_wp2_with (first | ((with_reducible refine gate_dst (N := 3) rfl ?_); refine box_event ?hg (N := 3) ?hd (cs := #[.slice (some ad) m.length c0, .int .i64 f.f0, .int .i64 f.f1, .slice A1 f.f2.length c1]) (t := 87) ?hr ?_; (case hd => rfl); (case hg => rfl); (case hr => first | (go_simp; done) | (go_simp; rfl)); intro g1 hg w1 hbox hb; have HB := Aside0.mk hb; have X1 := Aside0.mk hbox; clear hbox hb hg; obtain ⟨k0, k1, k2, k3⟩ := cl4 X1.out; have hx1 := pw_cell_below HB.out hx) | (go_at_call 122; (with_reducible refine (con_int A2 c2 l 123 #[.pointer (some ⟨g1, 0, none⟩)] (fun x => !(win x f.f1)) _ (fun args w => enters_ Try.func123 (by kernel_rfl) rfl args w) (Kd.C_below HL.out HB.out) (callp_p m (some ad) c0 f A1 c1 g1 l _ X1.out)).mono ?_); rintro e w6 ⟨rfl, hb⟩; have n0_ := Aside0.mk (below_step HB.out hb); clear HB hb; have HB := n0_; clear n0_))
  go_ret
  exact ⟨ret_b HW.out.symm, HB.out⟩
theorem set_blk {w : World} {g : Nat} {t : TypeId} {cs cs' : Array Value} (i : Nat) (u : Value) (h : w.heap[g]? = some (.cells cs t (0, 0))) (e : cs.setIfInBounds i u = cs') : (w.setCell ⟨g, i, none⟩ u).heap[g]? = some (.cells cs' t (0, 0)) := by rw [← e]; exact blk_set h i u
theorem nil_C {w : World} : Kd.C (Kd.int .i64) w none ([] : List Int).length [] := ⟨rfl, by decide, fun h => by simp at h⟩
end Go.Proofs.Ytbfialebaoeicaa.X
