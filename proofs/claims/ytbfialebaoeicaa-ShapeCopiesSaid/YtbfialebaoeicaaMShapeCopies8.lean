/- Part 9 of the proof of the statement ShapeCopies: the words of the walks, the walks through the functions that it reaches, and the plain laws of what they compute. -/
import Derived.Test.YtbfialebaoeicaaMShapeCopies7
import Derived.RegionTactic
import Derived.ChangeAlike
import Derived.Deep.QuietTactic
import Derived.BigQuiet
import Derived.Shelf.Small.Bits
import Derived.Shelf.Strconv.Itoa0
import Derived.Test.YtbfialebaoeicaaProg
namespace Go.Proofs.Ytbfialebaoeicaa.X
open Go.RowKit Go.Proofs.YtbfialebaoeicaaW.PrintWords Go.Proofs.YtbfialebaoeicaaW.PrintLast Go.Proofs.YtbfialebaoeicaaW.PrintMore
set_option linter.all false
abbrev RU (W : World) (base g n cap : Nat) (xs : List Int) : Prop := Kd.R (Kd.int .u16) 44 W base (fun _ => True) (.slice (some ⟨g, 0, none⟩) n cap) xs
def SD (base g n cap : Nat) (w W : World) : Prop := (∃ xs, RU W base g n cap xs) ∧ w.grownBy W (some g)
theorem grown_trans {w W V : World} {r : Option Nat} (h : w.grownBy W r) (k : W.grownBy V r) : w.grownBy V r :=
 ⟨k.os.trans h.os, k.tape.trans h.tape, k.output.trans h.output, Nat.le_trans h.size k.size, fun i hi hr => (k.block i (Nat.lt_of_lt_of_le hi h.size) hr).trans (h.block i hi hr)⟩
theorem grown_drewN {w W : World} {r : Option Nat} (h : w.grownBy W r) (m : Nat) : w.grownBy (W.drewN m) r := ⟨h.os, h.tape, h.output, h.size, h.block⟩
theorem grown_drew {w W : World} {r : Option Nat} (h : w.grownBy W r) : w.grownBy W.drew r := ⟨h.os, h.tape, h.output, h.size, h.block⟩
section
variable {base g n cap : Nat} {w W V : World}
theorem SD.refl {xs : List Int} (h : RU w base g n cap xs) : SD base g n cap w w := ⟨⟨xs, h⟩, World.grownBy.refl _ _⟩
theorem SD.trans (h : SD base g n cap w W) (k : SD base g n cap W V) : SD base g n cap w V := ⟨k.1, grown_trans h.2 k.2⟩
theorem SD.drewN (h : SD base g n cap w W) (m : Nat) : SD base g n cap w (W.drewN m) := by
 obtain ⟨⟨xs, hx⟩, hg⟩ := h
 exact ⟨⟨xs, Kd.R_drewN hx m⟩, grown_drewN hg m⟩
theorem SD.drew (h : SD base g n cap w W) : SD base g n cap w W.drew := by
 obtain ⟨⟨xs, hx⟩, hg⟩ := h
 exact ⟨⟨xs, Kd.R_drew hx⟩, grown_drew hg⟩
theorem SD.cell (h : SD base g n cap w W) (i : Int) (h0 : 0 ≤ i) (h1 : i < n) : ∃ u : Int, W.cell? ⟨g, i.toNat, none⟩ = some (.int .u16 u) ∧ W.frozen? ⟨g, i.toNat, none⟩ = false := by
 obtain ⟨⟨xs, hx⟩, _⟩ := h
 exact ⟨_, Kd.R_celln (0 : Int) hx i h0 h1⟩
theorem SD.set (h : SD base g n cap w W) (i u : Int) : SD base g n cap w (W.setCell ⟨g, i.toNat, none⟩ (.int .u16 u)) := by
 obtain ⟨⟨xs, hx⟩, hg⟩ := h
 have := Kd.R_putg hx i u
 exact ⟨⟨_, this.1⟩, grown_trans hg this.2⟩
theorem SD.baseLe (h : SD base g n cap w W) : base ≤ g := by
 obtain ⟨⟨xs, hx⟩, _⟩ := h
 exact Kd.R_base hx g rfl
theorem SD.below (h : SD base g n cap w W) (hb : base ≤ w.heap.size) : Below base w W := by
 have hg := h.2
 exact ⟨hg.os, hg.tape, hg.output, hg.size, fun i hi => hg.block i (by omega) (fun e => by injection e with e; have := h.baseLe; omega)⟩
end
set_option maxHeartbeats 16000000 in
set_option maxRecDepth 100000 in
theorem less_c (a b : Int) (w : World) : Calls Try.prog 136 #[.int .u16 a, .int .u16 b] w fun e w' => e = .returned (.bool (decide (a < b))) ∧ w' = w := by
 have hnan : ∀ (x : Int) (w : World), Calls Try.prog 146 #[.int .u16 x] w fun e w' => e = .returned (.bool false) ∧ w' = w := by
  intro x w
  go_enter Try.func146, Try.ntmps146
  go_wp2
  go_ret
  exact ⟨by simp, rfl⟩
 go_enter Try.func136, Try.ntmps136
 go_wp2_with (go_at_call 146; (with_reducible refine (hnan _ _).mono ?_); rintro e w' ⟨rfl, rfl⟩)
 all_goals (go_ret; exact ⟨by simp [*], rfl⟩)
set_option maxHeartbeats 16000000 in
set_option maxRecDepth 100000 in
theorem rev_c (base g n cap : Nat) (a b : Int) (w : World) (xs : List Int) (h : RU w base g n cap xs) (h0 : 0 ≤ a) (hb : b ≤ n) (hn : n ≤ 1000000) (hab : a ≤ b) :
  Calls Try.prog 134 #[.slice (some ⟨g, 0, none⟩) n cap, .int .i64 a, .int .i64 b] w fun e w' => e = .returned (.tuple #[]) ∧ SD base g n cap w w' := by
 have HD := Aside0.mk (SD.refl h)
 have HA := Aside0.mk (show 0 ≤ a ∧ b ≤ n ∧ (n : Int) ≤ 1000000 ∧ a ≤ b from ⟨h0, hb, by omega, hab⟩)
 have hw0 : wrap64 (b - 1) = b - 1 := wrap_in _ (by omega) (by omega)
 clear h h0 hb hn hab
 go_enter Try.func134, Try.ntmps134
 go_wp2
 (try rw [hw0])
 clear hw0
 go_loopg [6, 7] 2000000 (fun gg s6 s7 wr => ∃ i j : Int, s6 = .int .i64 i ∧ s7 = .int .i64 j ∧ Aside0 (a ≤ i ∧ j < b ∧ (i ≤ b) ∧ -1 ≤ j ∧ j - i < gg) ∧ Aside0 (SD base g n cap w wr))
 case atStart => exact ⟨a, b - 1, rfl, rfl, ⟨by have := HA.out; omega⟩, HD⟩
 case round =>
  clear HD
  obtain ⟨i, j, rfl, rfl, HX, HD⟩ := hrel
  by_cases hlt : i < j
  rotate_left
  ·have hd : decide (i < j) = false := decide_eq_false hlt
   clear hlt
   go_wp2
   first | go_end0 | ((try simp only [Exit.inBlock, Exit.then]); refine bodyPost_ret (results_none rfl _ _ _) rfl ?_)
   exact ⟨rfl, HD.out⟩
  have hd : decide (i < j) = true := decide_eq_true hlt
  have HIJ := Aside0.mk hlt
  have p1 : (0 ≤ i) = True := eq_true (by have := HA.out; have := HX.out; omega)
  have p2 : (i < (n : Int)) = True := eq_true (by have := HA.out; have := HX.out; omega)
  have p3 : (0 ≤ j) = True := eq_true (by have := HA.out; have := HX.out; omega)
  have p4 : (j < (n : Int)) = True := eq_true (by have := HA.out; have := HX.out; omega)
  clear hlt
  obtain ⟨u1, hc1, hf1⟩ := HD.out.cell i (of_eq_true p1) (of_eq_true p2)
  obtain ⟨u2, hc2, hf2⟩ := HD.out.cell j (of_eq_true p3) (of_eq_true p4)
  obtain ⟨u3, hc3, hf3⟩ := (HD.out.set i u2).cell j (of_eq_true p3) (of_eq_true p4)
  obtain ⟨u4, hc4, hf4⟩ := (HD.out.set j u1).cell i (of_eq_true p1) (of_eq_true p2)
  go_wp2
  go_region
  all_goals go_wp2
  all_goals have W1 := Aside0.mk (show wrap64 (i + 1) = i + 1 from wrap_in _ (by have := HX.out; have := HA.out; omega) (by have := HX.out; have := HA.out; omega))
  all_goals have W2 := Aside0.mk (show wrap64 (j - 1) = j - 1 from wrap_in _ (by have := HX.out; have := HA.out; omega) (by have := HX.out; have := HA.out; omega))
  go_roundg (j - 1 - (i + 1) + 1).toNat
  case measure => have h1_ := HX.out; have h2_ := HIJ.out; omega
  case rel => exact ⟨i + 1, j - 1, by first | (rw [W1.out]; done) | (simp only [W1.out]; done), by first | (rw [W2.out]; done) | (simp only [W2.out]; done), ⟨by have := HX.out; have := HIJ.out; have := HA.out; omega⟩, ⟨by first | exact ((HD.out.set i u2).set j u1).drew | exact ((HD.out.set j u1).set i u2).drew⟩⟩
end Go.Proofs.Ytbfialebaoeicaa.X
namespace Go.Proofs.Ytbfialebaoeicaa.X
open Go.RowKit Go.Proofs.YtbfialebaoeicaaW.PrintWords Go.Proofs.YtbfialebaoeicaaW.PrintLast Go.Proofs.YtbfialebaoeicaaW.PrintMore
set_option linter.all false
set_option maxHeartbeats 16000000 in
set_option maxRecDepth 100000 in
theorem sift_c (base g n cap : Nat) (lo hi fi : Int) (w : World) (xs : List Int) (h : RU w base g n cap xs) (h0 : 0 ≤ lo) (h1 : 0 ≤ fi) (h2 : fi + hi ≤ n) (h3 : hi ≤ 1000000) (hn : n ≤ 1000000) (h4 : lo ≤ 1000000) :
  Calls Try.prog 141 #[.slice (some ⟨g, 0, none⟩) n cap, .int .i64 lo, .int .i64 hi, .int .i64 fi] w fun e w' => e = .returned (.tuple #[]) ∧ SD base g n cap w w' := by
 have HD := Aside0.mk (SD.refl h)
 have HA := Aside0.mk (show 0 ≤ lo ∧ 0 ≤ fi ∧ fi + hi ≤ n ∧ (n : Int) ≤ 1000000 ∧ hi ≤ 1000000 from ⟨h0, h1, h2, by omega, h3⟩)
 have HL := Aside0.mk h4
 clear h h0 h1 h2 h3 h4 hn
 go_enter Try.func141, Try.ntmps141
 go_wp2
 go_loopg [8] 3000000 (fun gg s8 wr => ∃ r : Int, s8 = .int .i64 r ∧ Aside0 (0 ≤ r ∧ r ≤ 1000000 ∧ 2000000 - r < gg) ∧ Aside0 (SD base g n cap w wr))
 case atStart => exact ⟨lo, rfl, ⟨by have := HA.out; have := HL.out; omega⟩, HD⟩
 case round =>
  clear HD
  obtain ⟨r, rfl, HX, HD⟩ := hrel
  have s0 : IntKind.i64.wrap (2 * r) = 2 * r := by rw [i64_w]; exact wrap_in _ (by have h1_ := HA.out; have h2_ := HX.out; omega) (by have h1_ := HA.out; have h2_ := HX.out; omega)
  have sw0 : wrap64 (2 * r) = 2 * r := wrap_in _ (by have h1_ := HA.out; have h2_ := HX.out; omega) (by have h1_ := HA.out; have h2_ := HX.out; omega)
  have s1 : IntKind.i64.wrap (2 * r + 1) = 2 * r + 1 := by rw [i64_w]; exact wrap_in _ (by have h1_ := HA.out; have h2_ := HX.out; omega) (by have h1_ := HA.out; have h2_ := HX.out; omega)
  have sw1 : wrap64 (2 * r + 1) = 2 * r + 1 := wrap_in _ (by have h1_ := HA.out; have h2_ := HX.out; omega) (by have h1_ := HA.out; have h2_ := HX.out; omega)
  by_cases hlt : hi ≤ 2 * r + 1
  ·have hd : decide (hi ≤ 2 * r + 1) = true := decide_eq_true hlt
   clear hlt
   go_wp2
   first | go_end0 | ((try simp only [Exit.inBlock, Exit.then]); refine bodyPost_ret (results_none rfl _ _ _) rfl ?_)
   exact ⟨rfl, HD.out⟩
  have hd : decide (hi ≤ 2 * r + 1) = false := decide_eq_false hlt
  have HC := Aside0.mk hlt
  clear hlt
  obtain ⟨c, hc⟩ : ∃ c, c = 2 * r + 1 := ⟨_, rfl⟩
  have HCC := Aside0.mk hc
  have HP := Aside0.mk (show 0 ≤ c ∧ c < hi ∧ r < c ∧ c ≤ 1000000 by have := HA.out; have := HX.out; have := HC.out; omega)
  clear hc
  have hcc : (2 * r + 1 : Int) = c := HCC.out.symm
  rw [hcc] at s1 sw1 hd
  go_upto_region 3 with (fail)
  go_cut [36] (fun v36 wc => ∃ bb : Bool, v36 = .bool bb ∧ Aside0 (bb = true → c + 1 < hi) ∧ Aside0 (SD base g n cap w wc))
  case first =>
   have z0 : IntKind.i64.wrap (c + 1) = c + 1 := by rw [i64_w]; exact wrap_in _ (by have h1_ := HA.out; have h2_ := HX.out; have h3_ := HP.out; omega) (by have h1_ := HA.out; have h2_ := HX.out; have h3_ := HP.out; omega)
   have zw0 : wrap64 (c + 1) = c + 1 := wrap_in _ (by have h1_ := HA.out; have h2_ := HX.out; have h3_ := HP.out; omega) (by have h1_ := HA.out; have h2_ := HX.out; have h3_ := HP.out; omega)
   by_cases hq : c + 1 < hi
   rotate_left
   ·have hd2 : decide (c + 1 < hi) = false := decide_eq_false hq
    clear hq
    go_quiet (fail)
    go_wp2
    go_meet
    exact ⟨false, rfl, ⟨fun h => by cases h⟩, ⟨HD.out.drewN _⟩⟩
   have hd2 : decide (c + 1 < hi) = true := decide_eq_true hq
   have HQ := Aside0.mk hq
   clear hq
   have y0 : IntKind.i64.wrap (fi + c) = fi + c := by rw [i64_w]; exact wrap_in _ (by have h1_ := HA.out; have h2_ := HX.out; have h3_ := HP.out; have h4_ := HQ.out; omega) (by have h1_ := HA.out; have h2_ := HX.out; have h3_ := HP.out; have h4_ := HQ.out; omega)
   have yw0 : wrap64 (fi + c) = fi + c := wrap_in _ (by have h1_ := HA.out; have h2_ := HX.out; have h3_ := HP.out; have h4_ := HQ.out; omega) (by have h1_ := HA.out; have h2_ := HX.out; have h3_ := HP.out; have h4_ := HQ.out; omega)
   have y1 : IntKind.i64.wrap (fi + c + 1) = fi + c + 1 := by rw [i64_w]; exact wrap_in _ (by have h1_ := HA.out; have h2_ := HX.out; have h3_ := HP.out; have h4_ := HQ.out; omega) (by have h1_ := HA.out; have h2_ := HX.out; have h3_ := HP.out; have h4_ := HQ.out; omega)
   have yw1 : wrap64 (fi + c + 1) = fi + c + 1 := wrap_in _ (by have h1_ := HA.out; have h2_ := HX.out; have h3_ := HP.out; have h4_ := HQ.out; omega) (by have h1_ := HA.out; have h2_ := HX.out; have h3_ := HP.out; have h4_ := HQ.out; omega)
   have b0 : (0 ≤ fi + c) = True := eq_true (by have h1_ := HA.out; have h2_ := HX.out; have h3_ := HP.out; have h4_ := HQ.out; omega)
   have bu0 : (fi + c < (n : Int)) = True := eq_true (by have h1_ := HA.out; have h2_ := HX.out; have h3_ := HP.out; have h4_ := HQ.out; omega)
   have b1 : (0 ≤ fi + c + 1) = True := eq_true (by have h1_ := HA.out; have h2_ := HX.out; have h3_ := HP.out; have h4_ := HQ.out; omega)
   have bu1 : (fi + c + 1 < (n : Int)) = True := eq_true (by have h1_ := HA.out; have h2_ := HX.out; have h3_ := HP.out; have h4_ := HQ.out; omega)
   obtain ⟨u1, hc1, hf1⟩ := HD.out.cell (fi + c) (of_eq_true b0) (of_eq_true bu0)
   obtain ⟨u2, hc2, hf2⟩ := HD.out.cell (fi + c + 1) (of_eq_true b1) (of_eq_true bu1)
   go_quiet ((go_at_call 136; exact Calls.quiet_of_same (less_c _ _ _)))
   go_wp2
   go_meet
   exact ⟨_, rfl, ⟨fun _ => HQ.out⟩, ⟨HD.out.drewN _⟩⟩
  case rest =>
   clear HD
   obtain ⟨bb, rfl, HBB, HD⟩ := hcut
   have z0 : IntKind.i64.wrap (c + 1) = c + 1 := by rw [i64_w]; exact wrap_in _ (by have h1_ := HA.out; have h2_ := HX.out; have h3_ := HP.out; omega) (by have h1_ := HA.out; have h2_ := HX.out; have h3_ := HP.out; omega)
   have zw0 : wrap64 (c + 1) = c + 1 := wrap_in _ (by have h1_ := HA.out; have h2_ := HX.out; have h3_ := HP.out; omega) (by have h1_ := HA.out; have h2_ := HX.out; have h3_ := HP.out; omega)
   cases bb with
   | false =>
    have HQ := Aside0.mk (show r < c ∧ c < hi ∧ c ≤ 1000000 ∧ 0 ≤ c by have h2_ := HP.out; omega)
    have y0 : IntKind.i64.wrap (fi + r) = fi + r := by rw [i64_w]; exact wrap_in _ (by have h1_ := HA.out; have h2_ := HX.out; have h3_ := HP.out; have h4_ := HQ.out; omega) (by have h1_ := HA.out; have h2_ := HX.out; have h3_ := HP.out; have h4_ := HQ.out; omega)
    have yw0 : wrap64 (fi + r) = fi + r := wrap_in _ (by have h1_ := HA.out; have h2_ := HX.out; have h3_ := HP.out; have h4_ := HQ.out; omega) (by have h1_ := HA.out; have h2_ := HX.out; have h3_ := HP.out; have h4_ := HQ.out; omega)
    have y1 : IntKind.i64.wrap (fi + c) = fi + c := by rw [i64_w]; exact wrap_in _ (by have h1_ := HA.out; have h2_ := HX.out; have h3_ := HP.out; have h4_ := HQ.out; omega) (by have h1_ := HA.out; have h2_ := HX.out; have h3_ := HP.out; have h4_ := HQ.out; omega)
    have yw1 : wrap64 (fi + c) = fi + c := wrap_in _ (by have h1_ := HA.out; have h2_ := HX.out; have h3_ := HP.out; have h4_ := HQ.out; omega) (by have h1_ := HA.out; have h2_ := HX.out; have h3_ := HP.out; have h4_ := HQ.out; omega)
    have b0 : (0 ≤ fi + r) = True := eq_true (by have h1_ := HA.out; have h2_ := HX.out; have h3_ := HP.out; have h4_ := HQ.out; omega)
    have bu0 : (fi + r < (n : Int)) = True := eq_true (by have h1_ := HA.out; have h2_ := HX.out; have h3_ := HP.out; have h4_ := HQ.out; omega)
    have b1 : (0 ≤ fi + c) = True := eq_true (by have h1_ := HA.out; have h2_ := HX.out; have h3_ := HP.out; have h4_ := HQ.out; omega)
    have bu1 : (fi + c < (n : Int)) = True := eq_true (by have h1_ := HA.out; have h2_ := HX.out; have h3_ := HP.out; have h4_ := HQ.out; omega)
    obtain ⟨u1, hc1, hf1⟩ := HD.out.cell (fi + r) (of_eq_true b0) (of_eq_true bu0)
    obtain ⟨u2, hc2, hf2⟩ := HD.out.cell (fi + c) (of_eq_true b1) (of_eq_true bu1)
    cases hl : decide (u1 < u2) with
    | false =>
     go_wp2
     go_quiet ((go_at_call 136; exact Calls.quiet_of_same (less_c _ _ _)))
     go_wp2
     first | go_end0 | ((try simp only [Exit.inBlock, Exit.then]); refine bodyPost_ret (results_none rfl _ _ _) rfl ?_)
     exact ⟨rfl, HD.out.drewN _⟩
    | true =>
     go_wp2
     go_quiet ((go_at_call 136; exact Calls.quiet_of_same (less_c _ _ _)))
     have n0_ := Aside0.mk (HD.out.drewN nq)
     clear HD hc1 hf1 hc2 hf2 hl
     have HD := n0_
     clear n0_
     generalize wc.drewN nq = wd at HD ⊢
     obtain ⟨u1, hc1, hf1⟩ := HD.out.cell (fi + r) (of_eq_true b0) (of_eq_true bu0)
     obtain ⟨u2, hc2, hf2⟩ := HD.out.cell (fi + c) (of_eq_true b1) (of_eq_true bu1)
     obtain ⟨u3, hc3, hf3⟩ := (HD.out.set (fi + r) u2).cell (fi + c) (of_eq_true b1) (of_eq_true bu1)
     obtain ⟨u4, hc4, hf4⟩ := (HD.out.set (fi + c) u1).cell (fi + r) (of_eq_true b0) (of_eq_true bu0)
     go_wp2
     go_region
     all_goals go_wp2
     go_roundg (2000000 - r).toNat
     case measure => have h1_ := HX.out; omega
     case rel => exact ⟨c, rfl, ⟨by have h1_ := HQ.out; have h2_ := HX.out; omega⟩, ⟨by first | exact ((HD.out.set (fi + r) u2).set (fi + c) u1).drew | exact ((HD.out.set (fi + c) u1).set (fi + r) u2).drew⟩⟩
   | true =>
    obtain ⟨q, hqq⟩ : ∃ q, q = c + 1 := ⟨_, rfl⟩
    have HQ := Aside0.mk (show r < q ∧ q < hi ∧ q ≤ 1000000 ∧ 0 ≤ q by have h2_ := HP.out; have h3_ := HBB.out rfl; have h4_ := HA.out; omega)
    have hqv : c + 1 = q := hqq.symm
    replace z0 := z0.trans hqv
    replace zw0 := zw0.trans hqv
    clear hqq hqv
    have y0 : IntKind.i64.wrap (fi + r) = fi + r := by rw [i64_w]; exact wrap_in _ (by have h1_ := HA.out; have h2_ := HX.out; have h3_ := HP.out; have h4_ := HQ.out; omega) (by have h1_ := HA.out; have h2_ := HX.out; have h3_ := HP.out; have h4_ := HQ.out; omega)
    have yw0 : wrap64 (fi + r) = fi + r := wrap_in _ (by have h1_ := HA.out; have h2_ := HX.out; have h3_ := HP.out; have h4_ := HQ.out; omega) (by have h1_ := HA.out; have h2_ := HX.out; have h3_ := HP.out; have h4_ := HQ.out; omega)
    have y1 : IntKind.i64.wrap (fi + q) = fi + q := by rw [i64_w]; exact wrap_in _ (by have h1_ := HA.out; have h2_ := HX.out; have h3_ := HP.out; have h4_ := HQ.out; omega) (by have h1_ := HA.out; have h2_ := HX.out; have h3_ := HP.out; have h4_ := HQ.out; omega)
    have yw1 : wrap64 (fi + q) = fi + q := wrap_in _ (by have h1_ := HA.out; have h2_ := HX.out; have h3_ := HP.out; have h4_ := HQ.out; omega) (by have h1_ := HA.out; have h2_ := HX.out; have h3_ := HP.out; have h4_ := HQ.out; omega)
    have b0 : (0 ≤ fi + r) = True := eq_true (by have h1_ := HA.out; have h2_ := HX.out; have h3_ := HP.out; have h4_ := HQ.out; omega)
    have bu0 : (fi + r < (n : Int)) = True := eq_true (by have h1_ := HA.out; have h2_ := HX.out; have h3_ := HP.out; have h4_ := HQ.out; omega)
    have b1 : (0 ≤ fi + q) = True := eq_true (by have h1_ := HA.out; have h2_ := HX.out; have h3_ := HP.out; have h4_ := HQ.out; omega)
    have bu1 : (fi + q < (n : Int)) = True := eq_true (by have h1_ := HA.out; have h2_ := HX.out; have h3_ := HP.out; have h4_ := HQ.out; omega)
    obtain ⟨u1, hc1, hf1⟩ := HD.out.cell (fi + r) (of_eq_true b0) (of_eq_true bu0)
    obtain ⟨u2, hc2, hf2⟩ := HD.out.cell (fi + q) (of_eq_true b1) (of_eq_true bu1)
    cases hl : decide (u1 < u2) with
    | false =>
     go_wp2
     go_quiet ((go_at_call 136; exact Calls.quiet_of_same (less_c _ _ _)))
     go_wp2
     first | go_end0 | ((try simp only [Exit.inBlock, Exit.then]); refine bodyPost_ret (results_none rfl _ _ _) rfl ?_)
     exact ⟨rfl, HD.out.drewN _⟩
    | true =>
     go_wp2
     go_quiet ((go_at_call 136; exact Calls.quiet_of_same (less_c _ _ _)))
     have n0_ := Aside0.mk (HD.out.drewN nq)
     clear HD hc1 hf1 hc2 hf2 hl
     have HD := n0_
     clear n0_
     generalize wc.drewN nq = wd at HD ⊢
     obtain ⟨u1, hc1, hf1⟩ := HD.out.cell (fi + r) (of_eq_true b0) (of_eq_true bu0)
     obtain ⟨u2, hc2, hf2⟩ := HD.out.cell (fi + q) (of_eq_true b1) (of_eq_true bu1)
     obtain ⟨u3, hc3, hf3⟩ := (HD.out.set (fi + r) u2).cell (fi + q) (of_eq_true b1) (of_eq_true bu1)
     obtain ⟨u4, hc4, hf4⟩ := (HD.out.set (fi + q) u1).cell (fi + r) (of_eq_true b0) (of_eq_true bu0)
     go_wp2
     go_region
     all_goals go_wp2
     go_roundg (2000000 - r).toNat
     case measure => have h1_ := HX.out; omega
     case rel => exact ⟨q, rfl, ⟨by have h1_ := HQ.out; have h2_ := HX.out; omega⟩, ⟨by first | exact ((HD.out.set (fi + r) u2).set (fi + q) u1).drew | exact ((HD.out.set (fi + q) u1).set (fi + r) u2).drew⟩⟩
set_option maxHeartbeats 16000000 in
set_option maxRecDepth 100000 in
theorem heap_c (base g n cap : Nat) (a b : Int) (w : World) (xs : List Int) (h : RU w base g n cap xs) (h0 : 0 ≤ a) (h1 : a ≤ b) (h2 : b ≤ n) (hn : n ≤ 1000000) :
  Calls Try.prog 131 #[.slice (some ⟨g, 0, none⟩) n cap, .int .i64 a, .int .i64 b] w fun e w' => e = .returned (.tuple #[]) ∧ SD base g n cap w w' := by
 have HD := Aside0.mk (SD.refl h)
 have HA := Aside0.mk (show 0 ≤ a ∧ a ≤ b ∧ b ≤ n ∧ (n : Int) ≤ 1000000 from ⟨h0, h1, h2, by omega⟩)
 clear h h0 h1 h2 hn
 have s0 : IntKind.i64.wrap (b - a) = b - a := by rw [i64_w]; exact wrap_in _ (by have h1_ := HA.out; omega) (by have h1_ := HA.out; omega)
 have sw0 : wrap64 (b - a) = b - a := wrap_in _ (by have h1_ := HA.out; omega) (by have h1_ := HA.out; omega)
 have s1 : IntKind.i64.wrap (b - a - 1) = b - a - 1 := by rw [i64_w]; exact wrap_in _ (by have h1_ := HA.out; omega) (by have h1_ := HA.out; omega)
 have sw1 : wrap64 (b - a - 1) = b - a - 1 := wrap_in _ (by have h1_ := HA.out; omega) (by have h1_ := HA.out; omega)
 obtain ⟨hi, hhi⟩ : ∃ hi, hi = b - a := ⟨_, rfl⟩
 have HHI := Aside0.mk (show hi = b - a ∧ 0 ≤ hi ∧ hi ≤ 1000000 by have h1_ := HA.out; omega)
 have hh : b - a = hi := hhi.symm
 rw [hh] at s1 sw1
 replace s0 := s0.trans hh
 replace sw0 := sw0.trans hh
 clear hh hhi
 obtain ⟨k, hk⟩ : ∃ k, k = (hi - 1).tdiv 2 := ⟨_, rfl⟩
 have HK := Aside0.mk (show 0 ≤ k ∧ k ≤ 1000000 by have h1_ := HHI.out; rcases (by omega : hi = 0 ∨ 0 ≤ hi - 1) with e | e; (rw [hk, e]; decide); (rw [hk, Int.tdiv_eq_ediv_of_nonneg e]; omega))
 have hk1 : (hi - 1).tdiv 2 = k := hk.symm
 clear hk
 have hkw : wrap64 k = k := wrap_in _ (by have := HK.out; omega) (by have := HK.out; omega)
 go_enter Try.func131, Try.ntmps131
 have HKW := Aside0.mk hkw
 go_wp2
 clear hk1 hkw
 go_loopg [9] 2000000 (fun gg s9 wr => ∃ i : Int, s9 = .int .i64 i ∧ Aside0 (-1 ≤ i ∧ i ≤ 1000000 ∧ i < gg) ∧ Aside0 (SD base g n cap w wr))
 case atStart => exact ⟨k, by first | rfl | (rw [HKW.out]; done) | (simp only [HKW.out]; done), ⟨by have := HK.out; omega⟩, HD⟩
 case round =>
  clear HD
  obtain ⟨i, rfl, HX, HD⟩ := hrel
  by_cases hlt : 0 ≤ i
  ·have hd : decide (0 ≤ i) = true := decide_eq_true hlt
   have HI0 := Aside0.mk hlt
   clear hlt
   obtain ⟨xs1, hxs1⟩ := HD.out.1
   have HXS := Aside0.mk hxs1
   clear hxs1
   have B0 := Aside0.mk (show 0 ≤ i by have h1_ := HA.out; have h2_ := HHI.out; have h3_ := HX.out; have h4_ := HI0.out; omega)
   have B1 := Aside0.mk (show 0 ≤ a by have h1_ := HA.out; have h2_ := HHI.out; have h3_ := HX.out; have h4_ := HI0.out; omega)
   have B2 := Aside0.mk (show a + hi ≤ n by have h1_ := HA.out; have h2_ := HHI.out; have h3_ := HX.out; have h4_ := HI0.out; omega)
   have B3 := Aside0.mk (show hi ≤ 1000000 by have h1_ := HA.out; have h2_ := HHI.out; have h3_ := HX.out; have h4_ := HI0.out; omega)
   have B4 := Aside0.mk (show n ≤ 1000000 by have h1_ := HA.out; have h2_ := HHI.out; have h3_ := HX.out; have h4_ := HI0.out; omega)
   have B5 := Aside0.mk (show i ≤ 1000000 by have h1_ := HA.out; have h2_ := HHI.out; have h3_ := HX.out; have h4_ := HI0.out; omega)
   go_wp2_with (go_at_call 141; (with_reducible refine (sift_c base g n cap i hi a _ _ HXS.out B0.out B1.out B2.out B3.out B4.out B5.out).mono ?_); rintro e w6 ⟨rfl, hsd⟩; have n0_ := Aside0.mk (SD.trans HD.out hsd); clear HD hsd; have HD := n0_; clear n0_)
   have W1 := Aside0.mk (show wrap64 (i - 1) = i - 1 from wrap_in _ (by have := HX.out; omega) (by have := HX.out; omega))
   go_roundg i.toNat
   case measure => have h1_ := HX.out; have h2_ := HI0.out; omega
   case rel => exact ⟨i - 1, by first | (rw [W1.out]; done) | (simp only [W1.out]; done), ⟨by have h1_ := HX.out; have h2_ := HI0.out; omega⟩, HD⟩
  have hd : decide (0 ≤ i) = false := decide_eq_false hlt
  clear hlt
  go_wp2
  clear HX hd
  go_loopg [10] 2000000 (fun gg s10 wr => ∃ i : Int, s10 = .int .i64 i ∧ Aside0 (-1 ≤ i ∧ i < hi ∧ i < gg) ∧ Aside0 (SD base g n cap w wr))
  case atStart => exact ⟨hi - 1, rfl, ⟨by have := HHI.out; omega⟩, HD⟩
  case round =>
   clear HD
   obtain ⟨i, rfl, HX, HD⟩ := hrel
   by_cases hlt : 0 ≤ i
   rotate_left
   ·have hd : decide (0 ≤ i) = false := decide_eq_false hlt
    clear hlt
    go_wp2
    first | go_end0 | ((try simp only [Exit.inBlock, Exit.then]); refine bodyPost_ret (results_none rfl _ _ _) rfl ?_)
    exact ⟨rfl, HD.out⟩
   have hd : decide (0 ≤ i) = true := decide_eq_true hlt
   have HI0 := Aside0.mk hlt
   clear hlt
   have y0 : IntKind.i64.wrap (a + i) = a + i := by rw [i64_w]; exact wrap_in _ (by have h1_ := HA.out; have h2_ := HHI.out; have h3_ := HX.out; have h4_ := HI0.out; omega) (by have h1_ := HA.out; have h2_ := HHI.out; have h3_ := HX.out; have h4_ := HI0.out; omega)
   have yw0 : wrap64 (a + i) = a + i := wrap_in _ (by have h1_ := HA.out; have h2_ := HHI.out; have h3_ := HX.out; have h4_ := HI0.out; omega) (by have h1_ := HA.out; have h2_ := HHI.out; have h3_ := HX.out; have h4_ := HI0.out; omega)
   have b0 : (0 ≤ a) = True := eq_true (by have h1_ := HA.out; have h2_ := HHI.out; have h3_ := HX.out; have h4_ := HI0.out; omega)
   have bu0 : (a < (n : Int)) = True := eq_true (by have h1_ := HA.out; have h2_ := HHI.out; have h3_ := HX.out; have h4_ := HI0.out; omega)
   have b1 : (0 ≤ a + i) = True := eq_true (by have h1_ := HA.out; have h2_ := HHI.out; have h3_ := HX.out; have h4_ := HI0.out; omega)
   have bu1 : (a + i < (n : Int)) = True := eq_true (by have h1_ := HA.out; have h2_ := HHI.out; have h3_ := HX.out; have h4_ := HI0.out; omega)
   obtain ⟨u1, hc1, hf1⟩ := HD.out.cell a (of_eq_true b0) (of_eq_true bu0)
   obtain ⟨u2, hc2, hf2⟩ := HD.out.cell (a + i) (of_eq_true b1) (of_eq_true bu1)
   obtain ⟨u3, hc3, hf3⟩ := (HD.out.set a u2).cell (a + i) (of_eq_true b1) (of_eq_true bu1)
   obtain ⟨u4, hc4, hf4⟩ := (HD.out.set (a + i) u1).cell a (of_eq_true b0) (of_eq_true bu0)
   go_upto_region 10 with (fail)
   go_cut [] (fun wc => Aside0 (SD base g n cap w wc))
   case first => go_region; all_goals (go_wp2; go_meet; exact ⟨by first | exact ((HD.out.set a u2).set (a + i) u1).drew | exact ((HD.out.set (a + i) u1).set a u2).drew⟩)
   case rest =>
    clear HD hc1 hf1 hc2 hf2 hc3 hf3 hc4 hf4 y0 yw0 b0 bu0 b1 bu1
    have HD := hcut
    clear hcut
    obtain ⟨xs1, hxs1⟩ := HD.out.1
    have HXS := Aside0.mk hxs1
    clear hxs1
    have B0 := Aside0.mk (show 0 ≤ (0 : Int) by have h1_ := HA.out; have h2_ := HHI.out; have h3_ := HX.out; have h4_ := HI0.out; omega)
    have B1 := Aside0.mk (show 0 ≤ a by have h1_ := HA.out; have h2_ := HHI.out; have h3_ := HX.out; have h4_ := HI0.out; omega)
    have B2 := Aside0.mk (show a + i ≤ n by have h1_ := HA.out; have h2_ := HHI.out; have h3_ := HX.out; have h4_ := HI0.out; omega)
    have B3 := Aside0.mk (show i ≤ 1000000 by have h1_ := HA.out; have h2_ := HHI.out; have h3_ := HX.out; have h4_ := HI0.out; omega)
    have B4 := Aside0.mk (show n ≤ 1000000 by have h1_ := HA.out; have h2_ := HHI.out; have h3_ := HX.out; have h4_ := HI0.out; omega)
    have B5 := Aside0.mk (show (0 : Int) ≤ 1000000 by have h1_ := HA.out; have h2_ := HHI.out; have h3_ := HX.out; have h4_ := HI0.out; omega)
    go_wp2_with (go_at_call 141; (with_reducible refine (sift_c base g n cap 0 i a _ _ HXS.out B0.out B1.out B2.out B3.out B4.out B5.out).mono ?_); rintro e w6 ⟨rfl, hsd⟩; have n0_ := Aside0.mk (SD.trans HD.out hsd); clear HD hsd; have HD := n0_; clear n0_)
    have W1 := Aside0.mk (show wrap64 (i - 1) = i - 1 from wrap_in _ (by have := HX.out; have := HHI.out; omega) (by have := HX.out; have := HHI.out; omega))
    go_roundg i.toNat
    case measure => have h1_ := HX.out; have h2_ := HI0.out; omega
    case rel => exact ⟨i - 1, by first | (rw [W1.out]; done) | (simp only [W1.out]; done), ⟨by have h1_ := HX.out; have h2_ := HI0.out; omega⟩, HD⟩
end Go.Proofs.Ytbfialebaoeicaa.X
namespace Go.Proofs
open Go.Shelf
def Try.lays125_ren : Go.Shelf.Ren := ⟨fun | 125 => 128 | 128 => 139 | 129 => 140 | n => n, fun | 46 => 154 | 3 => 3 | 51 => 166 | 53 => 128 | 4 => 4 | 5 => 5 | 9 => 9 | n => n, fun | n => n⟩
theorem Try.lays125 : Go.Proofs.Lays.n125 Try.prog Try.lays125_ren := {
 mixed := by kernel_rfl
 f125 := Try.func128.trans (congrArg some (by kernel_rfl))
 f128 := Try.func139.trans (congrArg some (by kernel_rfl))
 f129 := Try.func140.trans (congrArg some (by kernel_rfl))
 t3 := Try.underlying3
 a3 := Try.isAgg3
 z3 := Try.sizeOf3
 v3 := Try.zeroValue3
 t4 := Try.underlying4
 a4 := Try.isAgg4
 z4 := Try.sizeOf4
 v4 := Try.zeroValue4
 t5 := Try.underlying5
 a5 := Try.isAgg5
 z5 := Try.sizeOf5
 v5 := Try.zeroValue5
 t9 := Try.underlying9
 a9 := Try.isAgg9
 z9 := Try.sizeOf9
 v9 := Try.zeroValue9
 t46 := Try.underlying154
 a46 := Try.isAgg154
 z46 := Try.sizeOf154
 v46 := Try.zeroValue154
 t51 := Try.underlying166
 a51 := Try.isAgg166
 z51 := Try.sizeOf166
 v51 := Try.zeroValue166
 t53 := Try.underlying128
 a53 := Try.isAgg128
 z53 := Try.sizeOf128
 v53 := Try.zeroValue128 }
theorem Try.bits_Len (x : Int) (w : World) (h0 : 0 ≤ x) (h1 : x ≤ 18446744073709551615) :
  Calls Try.prog 128 #[.int .u64 x] w fun e w' => e = .returned (.int .i64 (Lib.bitLen x.toNat)) ∧ w' = w := Any.bits_Len Try.lays125 x w h0 h1
end Go.Proofs
