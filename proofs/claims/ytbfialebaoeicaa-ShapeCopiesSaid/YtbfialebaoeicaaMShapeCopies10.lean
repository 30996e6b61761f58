/- Part 11 of the proof of the statement ShapeCopies: the words of the walks, the walks through the functions that it reaches, and the plain laws of what they compute. -/
import Derived.Test.YtbfialebaoeicaaMShapeCopies9
import Derived.RegionTactic
import Derived.ChangeAlike
import Derived.Deep.QuietTactic
import Derived.BigQuiet
namespace Go.Proofs.Ytbfialebaoeicaa.X
open Go.RowKit Go.Proofs.YtbfialebaoeicaaW.PrintWords Go.Proofs.YtbfialebaoeicaaW.PrintLast Go.Proofs.YtbfialebaoeicaaW.PrintMore
set_option linter.all false
theorem pow_c (l : Int) (w : World) (h0 : 0 ≤ l) (h1 : l < 1000000) : Calls Try.prog 142 #[.int .i64 l] w fun e w' => e = .returned (.int .u64 ((2 ^ (Lib.bitLen l.toNat) : Nat) : Int)) ∧ w' = w := by
 have H0 := Aside0.mk h0
 have H1 := Aside0.mk h1
 have hw : IntKind.u64.wrap l = l := by
  unfold IntKind.wrap
  simp [IntKind.bits, IntKind.signed]
  omega
 clear h0 h1
 go_enter Try.func142, Try.ntmps142
 go_wp2_with (go_at_call 128; go_loud ((with_reducible refine (Try.bits_Len l _ (H0.out) (by have := H1.out; omega)).mono ?_); rintro e w6 ⟨rfl, rfl⟩))
 have hb : Lib.bitLen l.toNat ≤ 20 := Lib.bitLen_le l.toNat 20 (by omega) (by have := H0.out; have := H1.out; omega)
 have hv : IntKind.u64.wrap (2 ^ min (Lib.bitLen l.toNat) 64) = 2 ^ Lib.bitLen l.toNat := by
  rw [Nat.min_eq_left (by omega)]
  generalize Lib.bitLen l.toNat = q at hb
  have : ∀ q : Nat, q < 21 → IntKind.u64.wrap (2 ^ q) = (2 : Int) ^ q := by decide
  exact this q (by omega)
 go_ret
 exact ⟨by simp [hv], rfl⟩
theorem set_oneD {w : World} {g : Nat} {t : TypeId} {v : Value} (h : w.heap[g]? = some (.cells #[v] t (0, 0))) (u : Value) : (w.setCell ⟨g, 0, none⟩ u).drew.heap[g]? = some (.cells #[u] t (0, 0)) := set_one h u
theorem grown_setD {w W : World} {g : Nat} (h : w.grownBy W (some g)) (i : Nat) (u : Value) : w.grownBy (W.setCell ⟨g, i, none⟩ u).drew (some g) := grown_drew (grown_set h i u)
set_option maxHeartbeats 16000000 in
set_option maxRecDepth 100000 in
theorem next_c (gs : Nat) (k : Int) (w : World) (h : w.heap[gs]? = some (.cells #[.int .u64 k] 168 (0, 0))) : Calls Try.prog 143 #[.pointer (some ⟨gs, 0, none⟩)] w fun e w' => (∃ r : Int, e = .returned (.int .u64 r) ∧ w'.heap[gs]? = some (.cells #[.int .u64 r] 168 (0, 0))) ∧ w.grownBy w' (some gs) := by
 have XS := Aside0.mk h
 have HG := Aside0.mk (World.grownBy.refl w (some gs))
 clear h
 go_enter Try.func143, Try.ntmps143
 go_upto_region 1 with (fail)
 go_cut [5] (fun v1 w1 => ∃ x k : Int, v1 = .int .u64 x ∧ Aside0 (w1.heap[gs]? = some (.cells #[.int .u64 k] 168 (0, 0))) ∧ Aside0 (w.grownBy w1 (some gs)))
 case first =>
  have hs0 := (blk_cell XS.out 0).trans rfl
  have hs1 := blk_frozen XS.out 0
  go_wp2
  go_region
  all_goals go_wp2
  all_goals go_meet
  all_goals exact ⟨_, _, rfl, ⟨set_oneD XS.out _⟩, ⟨grown_setD HG.out _ _⟩⟩
 case rest =>
  clear XS HG
  obtain ⟨x1, k1, rfl, XS, HG⟩ := hcut
  go_upto_region 2 with (fail)
  go_cut [14] (fun v1 w2 => ∃ x k : Int, v1 = .int .u64 x ∧ Aside0 (w2.heap[gs]? = some (.cells #[.int .u64 k] 168 (0, 0))) ∧ Aside0 (w.grownBy w2 (some gs)))
  case first =>
   have hs0 := (blk_cell XS.out 0).trans rfl
   have hs1 := blk_frozen XS.out 0
   go_wp2
   go_region
   all_goals go_wp2
   all_goals go_meet
   all_goals exact ⟨_, _, rfl, ⟨set_oneD XS.out _⟩, ⟨grown_setD HG.out _ _⟩⟩
  case rest =>
   clear XS HG
   obtain ⟨x2, k2, rfl, XS, HG⟩ := hcut
   go_upto_region 3 with (fail)
   go_cut [23] (fun v1 w3 => ∃ x k : Int, v1 = .int .u64 x ∧ Aside0 (w3.heap[gs]? = some (.cells #[.int .u64 k] 168 (0, 0))) ∧ Aside0 (w.grownBy w3 (some gs)))
   case first =>
    have hs0 := (blk_cell XS.out 0).trans rfl
    have hs1 := blk_frozen XS.out 0
    go_wp2
    go_region
    all_goals go_wp2
    all_goals go_meet
    all_goals exact ⟨_, _, rfl, ⟨set_oneD XS.out _⟩, ⟨grown_setD HG.out _ _⟩⟩
   case rest =>
    clear XS HG
    obtain ⟨x3, k3, rfl, XS, HG⟩ := hcut
    have hs0 := (blk_cell XS.out 0).trans rfl
    have hs1 := blk_frozen XS.out 0
    go_wp2
    go_ret
    exact ⟨⟨_, rfl, XS.out⟩, HG.out⟩
theorem pow2_c (l : Int) (w : World) (h0 : 0 < l) (h1 : l < 1000000) : Calls Try.prog 142 #[.int .i64 l] w fun e w' => (∃ M : Int, e = .returned (.int .u64 M) ∧ 0 < M ∧ M ≤ 2 * l) ∧ w' = w := by
 refine (pow_c l w (by omega) h1).mono ?_
 rintro e w' ⟨rfl, rfl⟩
 refine ⟨⟨_, rfl, by exact_mod_cast Nat.two_pow_pos _, ?_⟩, rfl⟩
 have hb : ∀ (f x : Nat), x ≠ 0 → 2 ^ (Lib.bitLenAux f x) ≤ 2 * x := by
  intro f
  induction f with
  | zero =>
   intro x hx
   simp [Lib.bitLenAux]
   omega
  | succ f ih =>
   intro x hx
   simp only [Lib.bitLenAux, if_neg hx]
   by_cases hz : x / 2 = 0
   ·have : Lib.bitLenAux f (x / 2) = 0 := by rw [hz]; cases f <;> simp [Lib.bitLenAux]
    rw [this]
    omega
   ·have := ih _ hz
    rw [Nat.add_comm, Nat.pow_succ]
    omega
 have := hb 64 l.toNat (by omega)
 have e : Lib.bitLen l.toNat = Lib.bitLenAux 64 l.toNat := rfl
 rw [e]
 generalize 2 ^ Lib.bitLenAux 64 l.toNat = q at this ⊢
 omega
theorem and_in (r m : Int) (h0 : 0 ≤ m) (h1 : m < 2000000) : 0 ≤ IntKind.i64.wrap (bits .and .u64 r m) ∧ IntKind.i64.wrap (bits .and .u64 r m) ≤ m := by
 have hb : bits .and .u64 r m = (((BitVec.ofInt 64 r) &&& (BitVec.ofInt 64 m)).toNat : Int) := by
  have := ((BitVec.ofInt 64 r) &&& (BitVec.ofInt 64 m)).isLt
  show IntKind.u64.wrap (((BitVec.ofInt 64 r) &&& (BitVec.ofInt 64 m)).toNat : Int) = _
  generalize ((BitVec.ofInt 64 r) &&& (BitVec.ofInt 64 m)).toNat = q at this
  unfold IntKind.wrap
  simp only [IntKind.bits, IntKind.signed]
  simp
  omega
 have hle : ((BitVec.ofInt 64 r) &&& (BitVec.ofInt 64 m)).toNat ≤ m.toNat := by
  rw [BitVec.toNat_and]
  refine Nat.le_trans Nat.and_le_right ?_
  rw [BitVec.toNat_ofInt]
  omega
 rw [hb]
 have hi : IntKind.i64.wrap (((BitVec.ofInt 64 r) &&& (BitVec.ofInt 64 m)).toNat : Int) = (((BitVec.ofInt 64 r) &&& (BitVec.ofInt 64 m)).toNat : Int) := by
  rw [i64_w]
  exact wrap_in _ (by omega) (by omega)
 rw [hi]
 omega
theorem box_set {w : World} {g gs : Nat} {o : Obj} (h : w.heap[gs]? = some o) (hg : g ≠ gs) (i j : Nat) (u v : Value) : ((w.setCell ⟨g, i, none⟩ u).setCell ⟨g, j, none⟩ v).drew.heap[gs]? = some o :=
 ((Below.heap_setCell _ ⟨g, j, none⟩ v gs (fun e => hg e.symm)).trans ((Below.heap_setCell w ⟨g, i, none⟩ u gs (fun e => hg e.symm)).trans h))
theorem SD.over {base g n cap gs : Nat} {w W V : World} {cs : Array Value} {t : TypeId} (h : SD base g n cap w W) (hk : W.grownBy V (some gs)) (hb : W.heap[gs]? = some (.cells cs t (0, 0))) (ht : 44 ≠ t) (hl : w.heap.size ≤ gs) : SD base g n cap w V := by
 obtain ⟨⟨xs, hx⟩, hg⟩ := h
 refine ⟨⟨xs, RU.over hx hk hb ht⟩, hk.os.trans hg.os, hk.tape.trans hg.tape, hk.output.trans hg.output, Nat.le_trans hg.size hk.size, fun i hi hr => (hk.block i (Nat.lt_of_lt_of_le hi hg.size) (fun e => by injection e with e; omega)).trans (hg.block i hi hr)⟩
set_option maxHeartbeats 16000000 in
set_option maxRecDepth 100000 in
theorem brk_c (base g n cap : Nat) (a b : Int) (w : World) (xs : List Int) (h : RU w base g n cap xs) (h0 : 0 ≤ a) (h1 : a ≤ b) (h2 : b ≤ n) (hn : n < 1000000) :
  Calls Try.prog 132 #[.slice (some ⟨g, 0, none⟩) n cap, .int .i64 a, .int .i64 b] w fun e w' => e = .returned (.tuple #[]) ∧ SD base g n cap w w' := by
 have HD := Aside0.mk (SD.refl h)
 have HR := Aside0.mk h
 have HA := Aside0.mk (show 0 ≤ a ∧ a ≤ b ∧ b ≤ n ∧ (n : Int) < 1000000 from ⟨h0, h1, h2, by omega⟩)
 clear h h0 h1 h2 hn
 have s0 : IntKind.i64.wrap (b - a) = b - a := by rw [i64_w]; exact wrap_in _ (by have h1_ := HA.out; omega) (by have h1_ := HA.out; omega)
 have sw0 : wrap64 (b - a) = b - a := wrap_in _ (by have h1_ := HA.out; omega) (by have h1_ := HA.out; omega)
 obtain ⟨l, hl⟩ : ∃ l, l = b - a := ⟨_, rfl⟩
 have HL := Aside0.mk (show l = b - a ∧ 0 ≤ l ∧ l < 1000000 by have h1_ := HA.out; omega)
 have hh : b - a = l := hl.symm
 replace s0 := s0.trans hh
 replace sw0 := sw0.trans hh
 clear hh hl
 by_cases hq : 8 ≤ l
 rotate_left
 ·have q1 : decide (8 ≤ l) = false := decide_eq_false hq
  clear hq
  go_enter Try.func132, Try.ntmps132
  go_wp2
  first | go_end0 | ((try simp only [Exit.inBlock, Exit.then]); refine bodyPost_ret (results_none rfl _ _ _) rfl ?_)
  exact ⟨rfl, HD.out⟩
 have q1 : decide (8 ≤ l) = true := decide_eq_true hq
 obtain ⟨k, hk⟩ : ∃ k, k = l.tdiv 4 := ⟨_, rfl⟩
 have HK := Aside0.mk (show 2 ≤ k ∧ 4 * k ≤ l by have h1_ := HL.out; rw [hk, Int.tdiv_eq_ediv_of_nonneg (by omega)]; omega)
 have hk1 : l.tdiv 4 = k := hk.symm
 clear hk hq
 have z0 : IntKind.i64.wrap (k) = k := by rw [i64_w]; exact wrap_in _ (by have h1_ := HA.out; have h2_ := HL.out; have h3_ := HK.out; omega) (by have h1_ := HA.out; have h2_ := HL.out; have h3_ := HK.out; omega)
 have zw0 : wrap64 (k) = k := wrap_in _ (by have h1_ := HA.out; have h2_ := HL.out; have h3_ := HK.out; omega) (by have h1_ := HA.out; have h2_ := HL.out; have h3_ := HK.out; omega)
 have z1 : IntKind.i64.wrap (k * 2) = k * 2 := by rw [i64_w]; exact wrap_in _ (by have h1_ := HA.out; have h2_ := HL.out; have h3_ := HK.out; omega) (by have h1_ := HA.out; have h2_ := HL.out; have h3_ := HK.out; omega)
 have zw1 : wrap64 (k * 2) = k * 2 := wrap_in _ (by have h1_ := HA.out; have h2_ := HL.out; have h3_ := HK.out; omega) (by have h1_ := HA.out; have h2_ := HL.out; have h3_ := HK.out; omega)
 have z2 : IntKind.i64.wrap (a + k * 2) = a + k * 2 := by rw [i64_w]; exact wrap_in _ (by have h1_ := HA.out; have h2_ := HL.out; have h3_ := HK.out; omega) (by have h1_ := HA.out; have h2_ := HL.out; have h3_ := HK.out; omega)
 have zw2 : wrap64 (a + k * 2) = a + k * 2 := wrap_in _ (by have h1_ := HA.out; have h2_ := HL.out; have h3_ := HK.out; omega) (by have h1_ := HA.out; have h2_ := HL.out; have h3_ := HK.out; omega)
 have z3 : IntKind.i64.wrap (a + k * 2 - 1) = a + k * 2 - 1 := by rw [i64_w]; exact wrap_in _ (by have h1_ := HA.out; have h2_ := HL.out; have h3_ := HK.out; omega) (by have h1_ := HA.out; have h2_ := HL.out; have h3_ := HK.out; omega)
 have zw3 : wrap64 (a + k * 2 - 1) = a + k * 2 - 1 := wrap_in _ (by have h1_ := HA.out; have h2_ := HL.out; have h3_ := HK.out; omega) (by have h1_ := HA.out; have h2_ := HL.out; have h3_ := HK.out; omega)
 have z4 : IntKind.i64.wrap (a + k * 2 + 1) = a + k * 2 + 1 := by rw [i64_w]; exact wrap_in _ (by have h1_ := HA.out; have h2_ := HL.out; have h3_ := HK.out; omega) (by have h1_ := HA.out; have h2_ := HL.out; have h3_ := HK.out; omega)
 have zw4 : wrap64 (a + k * 2 + 1) = a + k * 2 + 1 := wrap_in _ (by have h1_ := HA.out; have h2_ := HL.out; have h3_ := HK.out; omega) (by have h1_ := HA.out; have h2_ := HL.out; have h3_ := HK.out; omega)
 have zc : IntKind.u64.wrap l = l := by unfold IntKind.wrap; simp [IntKind.bits, IntKind.signed]; have h1_ := HL.out; omega
 go_enter Try.func132, Try.ntmps132
 go_upto_region 2 with (fail)
 go_cut [7] (fun v7 wc => ∃ gs : Nat, v7 = .pointer (some ⟨gs, 0, none⟩) ∧ Aside0 (w.heap.size ≤ gs ∧ g ≠ gs) ∧ Aside0 (∃ k : Int, wc.heap[gs]? = some (.cells #[.int .u64 k] 168 (0, 0))) ∧ Aside0 (SD base g n cap w wc))
 case first =>
  go_wp2
  go_meet
  exact ⟨_, rfl, ⟨Nat.le_refl _, fun e => Kd.R_ne (RU.grown HR.out (World.grownBy_alloc w _ none)) (blk_new w (.cells #[.int .u64 l] 168 (0, 0))) (by decide) (congrArg some e.symm)⟩, ⟨_, blk_new _ _⟩, ⟨⟨_, RU.grown HR.out (World.grownBy_alloc _ _ _)⟩, World.grownBy_alloc _ _ _⟩⟩
 case rest =>
  clear HD
  obtain ⟨gs, rfl, HGS, HX, HD⟩ := hcut
  go_upto_region 3 with (fail)
  go_cut [8] (fun v8 wd => ∃ M : Int, v8 = .int .u64 M ∧ Aside0 (0 < M ∧ M ≤ 2 * l) ∧ Aside0 (wd = wc))
  case first =>
   go_wp2_with (go_at_call 142; (with_reducible refine (pow2_c l _ (by have := HL.out; have := HK.out; omega) (by have := HL.out; omega)).mono ?_); rintro e w6 ⟨⟨M, rfl, hM1, hM2⟩, hw6⟩; have HM := Aside0.mk (show 0 < M ∧ M ≤ 2 * l from ⟨hM1, hM2⟩); have HW6 := Aside0.mk hw6; clear hM1 hM2 hw6)
   go_wp2
   go_meet
   exact ⟨_, rfl, HM, HW6⟩
  case rest =>
   obtain ⟨M, rfl, HM, HW⟩ := hcut
   have hwc := HW.out
   subst hwc
   clear HW
   have zm : IntKind.u64.wrap (M - 1) = M - 1 := by unfold IntKind.wrap; simp [IntKind.bits, IntKind.signed]; have h1_ := HM.out; have h2_ := HL.out; omega
   go_wp2
   go_loopg [9] 2000000 (fun gg s9 wr => ∃ i : Int, s9 = .int .i64 i ∧ Aside0 (a + k * 2 - 1 ≤ i ∧ i ≤ a + k * 2 + 2 ∧ a + k * 2 + 2 - i < gg) ∧ Aside0 (∃ k : Int, wr.heap[gs]? = some (.cells #[.int .u64 k] 168 (0, 0))) ∧ Aside0 (SD base g n cap w wr))
   case atStart => exact ⟨_, rfl, ⟨by have h1_ := HA.out; have h2_ := HL.out; have h3_ := HK.out; omega⟩, HX, HD⟩
   case round =>
    clear HX HD
    obtain ⟨i, rfl, HI, HX, HD⟩ := hrel
    by_cases hlt : i ≤ a + k * 2 + 1
    rotate_left
    ·have hd : decide (i ≤ a + k * 2 + 1) = false := decide_eq_false hlt
     clear hlt
     go_wp2
     first | go_end0 | ((try simp only [Exit.inBlock, Exit.then]); refine bodyPost_ret (results_none rfl _ _ _) rfl ?_)
     exact ⟨rfl, HD.out⟩
    have hd : decide (i ≤ a + k * 2 + 1) = true := decide_eq_true hlt
    have HC := Aside0.mk hlt
    clear hlt
    go_upto_region 7 with (fail)
    go_cut [10] (fun v10 wc => ∃ o : Int, v10 = .int .i64 o ∧ Aside0 (0 ≤ o ∧ o < 2 * l) ∧ Aside0 (∃ k : Int, wc.heap[gs]? = some (.cells #[.int .u64 k] 168 (0, 0))) ∧ Aside0 (SD base g n cap w wc))
    case first =>
     obtain ⟨kk, hkk⟩ := HX.out
     have XK := Aside0.mk hkk
     clear hkk
     go_wp2_with (go_at_call 143; (with_reducible refine (next_c gs kk _ XK.out).mono ?_); rintro e w6 ⟨⟨r, rfl, hr⟩, hg6⟩; have HB6 := Aside0.mk hr; have HG6 := Aside0.mk hg6; clear hr hg6)
     go_wp2
     go_meet
     have hml : M - 1 < 2 * l := by have h2_ := HM.out; omega
     have ha := and_in r (M - 1) (by have := HM.out; omega) (by have := HM.out; have := HL.out; omega)
     exact ⟨_, rfl, ⟨by first | exact ⟨ha.1, Int.lt_of_le_of_lt ha.2 hml⟩ | (rw [i64_w] at ha; exact ⟨ha.1, Int.lt_of_le_of_lt ha.2 hml⟩)⟩, ⟨_, HB6.out⟩, ⟨SD.over HD.out HG6.out XK.out (by decide) HGS.out.1⟩⟩
    case rest =>
     clear HX HD
     obtain ⟨o, rfl, HO, HX, HD⟩ := hcut
     by_cases ho : l ≤ o
     ·have hd2 : decide (l ≤ o) = true := decide_eq_true ho
      have HQ := Aside0.mk ho
      clear ho
      have o0 : IntKind.i64.wrap (o - l) = o - l := by rw [i64_w]; exact wrap_in _ (by have h1_ := HO.out; have h2_ := HL.out; omega) (by have h1_ := HO.out; have h2_ := HL.out; omega)
      have ow0 : wrap64 (o - l) = o - l := wrap_in _ (by have h1_ := HO.out; have h2_ := HL.out; omega) (by have h1_ := HO.out; have h2_ := HL.out; omega)
      obtain ⟨r, hr⟩ : ∃ r, r = o - l := ⟨_, rfl⟩
      have HRR := Aside0.mk (show 0 ≤ r ∧ r < l by have h1_ := HO.out; have h2_ := HQ.out; omega)
      have hr2 : o - l = r := hr.symm
      replace o0 := o0.trans hr2
      replace ow0 := ow0.trans hr2
      clear hr hr2
      have y0 : IntKind.i64.wrap (a + r) = a + r := by rw [i64_w]; exact wrap_in _ (by have h1_ := HA.out; have h2_ := HL.out; have h3_ := HK.out; have h4_ := HI.out; have h5_ := HC.out; have h6_ := HRR.out; omega) (by have h1_ := HA.out; have h2_ := HL.out; have h3_ := HK.out; have h4_ := HI.out; have h5_ := HC.out; have h6_ := HRR.out; omega)
      have yw0 : wrap64 (a + r) = a + r := wrap_in _ (by have h1_ := HA.out; have h2_ := HL.out; have h3_ := HK.out; have h4_ := HI.out; have h5_ := HC.out; have h6_ := HRR.out; omega) (by have h1_ := HA.out; have h2_ := HL.out; have h3_ := HK.out; have h4_ := HI.out; have h5_ := HC.out; have h6_ := HRR.out; omega)
      have y1 : IntKind.i64.wrap (i + 1) = i + 1 := by rw [i64_w]; exact wrap_in _ (by have h1_ := HA.out; have h2_ := HL.out; have h3_ := HK.out; have h4_ := HI.out; have h5_ := HC.out; have h6_ := HRR.out; omega) (by have h1_ := HA.out; have h2_ := HL.out; have h3_ := HK.out; have h4_ := HI.out; have h5_ := HC.out; have h6_ := HRR.out; omega)
      have yw1 : wrap64 (i + 1) = i + 1 := wrap_in _ (by have h1_ := HA.out; have h2_ := HL.out; have h3_ := HK.out; have h4_ := HI.out; have h5_ := HC.out; have h6_ := HRR.out; omega) (by have h1_ := HA.out; have h2_ := HL.out; have h3_ := HK.out; have h4_ := HI.out; have h5_ := HC.out; have h6_ := HRR.out; omega)
      have b0 : (0 ≤ i) = True := eq_true (by have h1_ := HA.out; have h2_ := HL.out; have h3_ := HK.out; have h4_ := HI.out; have h5_ := HC.out; have h6_ := HRR.out; omega)
      have b0u : (i < (n : Int)) = True := eq_true (by have h1_ := HA.out; have h2_ := HL.out; have h3_ := HK.out; have h4_ := HI.out; have h5_ := HC.out; have h6_ := HRR.out; omega)
      have b1 : (0 ≤ a + r) = True := eq_true (by have h1_ := HA.out; have h2_ := HL.out; have h3_ := HK.out; have h4_ := HI.out; have h5_ := HC.out; have h6_ := HRR.out; omega)
      have b1u : (a + r < (n : Int)) = True := eq_true (by have h1_ := HA.out; have h2_ := HL.out; have h3_ := HK.out; have h4_ := HI.out; have h5_ := HC.out; have h6_ := HRR.out; omega)
      obtain ⟨u1, hc1, hf1⟩ := HD.out.cell i (of_eq_true b0) (of_eq_true b0u)
      obtain ⟨u2, hc2, hf2⟩ := HD.out.cell (a + r) (of_eq_true b1) (of_eq_true b1u)
      obtain ⟨u3, hc3, hf3⟩ := (HD.out.set i u2).cell (a + r) (of_eq_true b1) (of_eq_true b1u)
      obtain ⟨u4, hc4, hf4⟩ := (HD.out.set (a + r) u1).cell i (of_eq_true b0) (of_eq_true b0u)
      go_wp2
      go_region
      all_goals go_wp2
      go_roundg (a + k * 2 + 2 - i).toNat
      case measure => have h1_ := HI.out; have h2_ := HC.out; omega
      case rel =>
       obtain ⟨k7, hk7⟩ := HX.out
       exact ⟨i + 1, rfl, ⟨by have h1_ := HI.out; have h2_ := HC.out; omega⟩, ⟨_, box_set hk7 HGS.out.2 _ _ _ _⟩, ⟨by first | exact ((HD.out.set i u2).set (a + r) u1).drew | exact ((HD.out.set (a + r) u1).set i u2).drew⟩⟩
     ·have hd2 : decide (l ≤ o) = false := decide_eq_false ho
      have HQ := Aside0.mk ho
      clear ho
      obtain ⟨r, hr⟩ : ∃ r, r = o := ⟨_, rfl⟩
      have HRR := Aside0.mk (show 0 ≤ r ∧ r < l by have h1_ := HO.out; have h2_ := HQ.out; omega)
      subst hr
      have y0 : IntKind.i64.wrap (a + r) = a + r := by rw [i64_w]; exact wrap_in _ (by have h1_ := HA.out; have h2_ := HL.out; have h3_ := HK.out; have h4_ := HI.out; have h5_ := HC.out; have h6_ := HRR.out; omega) (by have h1_ := HA.out; have h2_ := HL.out; have h3_ := HK.out; have h4_ := HI.out; have h5_ := HC.out; have h6_ := HRR.out; omega)
      have yw0 : wrap64 (a + r) = a + r := wrap_in _ (by have h1_ := HA.out; have h2_ := HL.out; have h3_ := HK.out; have h4_ := HI.out; have h5_ := HC.out; have h6_ := HRR.out; omega) (by have h1_ := HA.out; have h2_ := HL.out; have h3_ := HK.out; have h4_ := HI.out; have h5_ := HC.out; have h6_ := HRR.out; omega)
      have y1 : IntKind.i64.wrap (i + 1) = i + 1 := by rw [i64_w]; exact wrap_in _ (by have h1_ := HA.out; have h2_ := HL.out; have h3_ := HK.out; have h4_ := HI.out; have h5_ := HC.out; have h6_ := HRR.out; omega) (by have h1_ := HA.out; have h2_ := HL.out; have h3_ := HK.out; have h4_ := HI.out; have h5_ := HC.out; have h6_ := HRR.out; omega)
      have yw1 : wrap64 (i + 1) = i + 1 := wrap_in _ (by have h1_ := HA.out; have h2_ := HL.out; have h3_ := HK.out; have h4_ := HI.out; have h5_ := HC.out; have h6_ := HRR.out; omega) (by have h1_ := HA.out; have h2_ := HL.out; have h3_ := HK.out; have h4_ := HI.out; have h5_ := HC.out; have h6_ := HRR.out; omega)
      have b0 : (0 ≤ i) = True := eq_true (by have h1_ := HA.out; have h2_ := HL.out; have h3_ := HK.out; have h4_ := HI.out; have h5_ := HC.out; have h6_ := HRR.out; omega)
      have b0u : (i < (n : Int)) = True := eq_true (by have h1_ := HA.out; have h2_ := HL.out; have h3_ := HK.out; have h4_ := HI.out; have h5_ := HC.out; have h6_ := HRR.out; omega)
      have b1 : (0 ≤ a + r) = True := eq_true (by have h1_ := HA.out; have h2_ := HL.out; have h3_ := HK.out; have h4_ := HI.out; have h5_ := HC.out; have h6_ := HRR.out; omega)
      have b1u : (a + r < (n : Int)) = True := eq_true (by have h1_ := HA.out; have h2_ := HL.out; have h3_ := HK.out; have h4_ := HI.out; have h5_ := HC.out; have h6_ := HRR.out; omega)
      obtain ⟨u1, hc1, hf1⟩ := HD.out.cell i (of_eq_true b0) (of_eq_true b0u)
      obtain ⟨u2, hc2, hf2⟩ := HD.out.cell (a + r) (of_eq_true b1) (of_eq_true b1u)
      obtain ⟨u3, hc3, hf3⟩ := (HD.out.set i u2).cell (a + r) (of_eq_true b1) (of_eq_true b1u)
      obtain ⟨u4, hc4, hf4⟩ := (HD.out.set (a + r) u1).cell i (of_eq_true b0) (of_eq_true b0u)
      go_wp2
      go_region
      all_goals go_wp2
      go_roundg (a + k * 2 + 2 - i).toNat
      case measure => have h1_ := HI.out; have h2_ := HC.out; omega
      case rel =>
       obtain ⟨k7, hk7⟩ := HX.out
       exact ⟨i + 1, rfl, ⟨by have h1_ := HI.out; have h2_ := HC.out; omega⟩, ⟨_, box_set hk7 HGS.out.2 _ _ _ _⟩, ⟨by first | exact ((HD.out.set i u2).set (a + r) u1).drew | exact ((HD.out.set (a + r) u1).set i u2).drew⟩⟩
end Go.Proofs.Ytbfialebaoeicaa.X
namespace Go.Proofs.Ytbfialebaoeicaa.X
open Go.RowKit Go.Proofs.YtbfialebaoeicaaW.PrintWords Go.Proofs.YtbfialebaoeicaaW.PrintLast Go.Proofs.YtbfialebaoeicaaW.PrintMore
set_option linter.all false
def swp (ys : List Int) (i j : Nat) : List Int := (ys.set i (ys.getD j 0)).set j (ys.getD i 0)
theorem swp_get (ys : List Int) (i j p : Nat) (hi : i < ys.length) (hj : j < ys.length) : (swp ys i j).getD p 0 = if p = j then ys.getD i 0 else if p = i then ys.getD j 0 else ys.getD p 0 := by
 unfold swp
 simp only [List.getD_eq_getElem?_getD, List.getElem?_set, List.length_set]
 by_cases h1 : j = p
 ·subst h1
  simp [hj]
 ·have h1' : p ≠ j := fun e => h1 e.symm
  by_cases h2 : i = p
  ·subst h2
   simp [h1, h1', hi]
  ·have h2' : p ≠ i := fun e => h2 e.symm
   simp [h1, h2, h1', h2']
theorem swp_perm (ys : List Int) (i j : Nat) (hi : i < ys.length) (hj : j < ys.length) : (swp ys i j).Perm ys := by
 unfold swp
 have e1 : ys.getD i 0 = ys[i] := by simp [List.getD_eq_getElem?_getD, hi]
 have e2 : ys.getD j 0 = ys[j] := by simp [List.getD_eq_getElem?_getD, hj]
 rw [e1, e2]
 exact List.set_set_perm hi hj
def SRT (ys : List Int) (a i : Int) : Prop := ∀ p q : Nat, a ≤ p → p < q → (q : Int) < i → ys.getD p 0 ≤ ys.getD q 0
def SRJ (ys : List Int) (a i j : Int) : Prop := (∀ p q : Nat, a ≤ p → p < q → (q : Int) ≤ i → (p : Int) ≠ j → (q : Int) ≠ j → ys.getD p 0 ≤ ys.getD q 0) ∧ ∀ q : Nat, j < q → (q : Int) ≤ i → ys.getD j.toNat 0 ≤ ys.getD q 0
theorem SRT.enter {ys : List Int} {a i : Int} (h : SRT ys a i) : SRJ ys a i i := ⟨fun p q h1 h2 h3 _ h5 => h p q h1 h2 (by omega), fun q h1 h2 => absurd h2 (by omega)⟩
theorem SRJ.leave {ys : List Int} {a i j : Int} (h : SRJ ys a i j) (h0 : 0 ≤ a) (ha : a ≤ j) (he : j ≤ a ∨ ys.getD (j.toNat - 1) 0 ≤ ys.getD j.toNat 0) : SRT ys a (i + 1) := by
 intro p q h1 h2 h3
 by_cases hp : (p : Int) = j
 ·have := h.2 q (by omega) (by omega)
  rw [show j.toNat = p by omega] at this
  exact this
 by_cases hq : (q : Int) = j
 ·rcases he with he | he
  ·omega
  ·rw [show j.toNat = q by omega] at he
   by_cases e : p = q - 1
   ·rw [e]; exact he
   ·exact Int.le_trans (h.1 p (q - 1) h1 (by omega) (by omega) hp (by omega)) he
 ·exact h.1 p q h1 h2 (by omega) hp hq
theorem SRJ.swap {ys : List Int} {a i j : Int} (h : SRJ ys a i j) (h0 : 0 ≤ a) (ha : a < j) (hi : j ≤ i) (hl : j < ys.length) (he : ys.getD j.toNat 0 < ys.getD (j.toNat - 1) 0) : SRJ (swp ys j.toNat (j.toNat - 1)) a i (j - 1) := by
 have hg := fun p => swp_get ys j.toNat (j.toNat - 1) p (by omega) (by omega)
 refine ⟨fun p q h1 h2 h3 hp hq => ?_, fun q h1 h2 => ?_⟩
 ·have np : p ≠ j.toNat - 1 := by omega
  have nq : q ≠ j.toNat - 1 := by omega
  rw [hg p, hg q, if_neg np, if_neg nq]
  by_cases e : p = j.toNat
  ·have n2 : q ≠ j.toNat := by omega
   rw [if_pos e, if_neg n2]
   exact h.1 (j.toNat - 1) q (by omega) (by omega) h3 (by omega) (by omega)
  ·rw [if_neg e]
   by_cases e' : q = j.toNat
   ·rw [if_pos e']
    exact h.1 p (j.toNat - 1) h1 (by omega) (by omega) (by omega) (by omega)
   ·rw [if_neg e']
    exact h.1 p q h1 h2 h3 (by omega) (by omega)
 ·have np : (j - 1).toNat = j.toNat - 1 := by omega
  have nq : q ≠ j.toNat - 1 := by omega
  rw [hg (j - 1).toNat, hg q, if_pos np, if_neg nq]
  by_cases e : q = j.toNat
  ·rw [if_pos e]
   exact Int.le_of_lt he
  ·rw [if_neg e]
   exact h.2 q (by omega) h2
def RP (base g n cap : Nat) (w W : World) (xs ys : List Int) : Prop := RU W base g n cap ys ∧ w.grownBy W (some g) ∧ ys.Perm xs
section
variable {base g n cap : Nat} {w W V : World} {xs ys : List Int}
theorem RP.refl (h : RU w base g n cap xs) : RP base g n cap w w xs xs := ⟨h, World.grownBy.refl _ _, .refl _⟩
theorem RP.drewN (h : RP base g n cap w W xs ys) (m : Nat) : RP base g n cap w (W.drewN m) xs ys := ⟨Kd.R_drewN h.1 m, grown_drewN h.2.1 m, h.2.2⟩
theorem RP.cell (h : RP base g n cap w W xs ys) (i : Int) (h0 : 0 ≤ i) (h1 : i < n) : ∃ u : Int, W.cell? ⟨g, i.toNat, none⟩ = some (.int .u16 u) ∧ W.frozen? ⟨g, i.toNat, none⟩ = false ∧ ys.getD i.toNat 0 = u := ⟨_, (Kd.R_celln (0 : Int) h.1 i h0 h1).1, (Kd.R_celln (0 : Int) h.1 i h0 h1).2, rfl⟩
theorem RP.SD (h : RP base g n cap w W xs ys) : SD base g n cap w W := ⟨⟨_, h.1⟩, h.2.1⟩
theorem RP.length (h : RP base g n cap w W xs ys) : ys.length = n := (Kd.R_reads' h.1).1.symm
theorem RP.swap (h : RP base g n cap w W xs ys) (i j : Int) (hi0 : 0 ≤ i) (hj0 : 0 ≤ j) (hi : i < n) (hj : j < n) (u1 u2 : Int) (e1 : ys.getD i.toNat 0 = u1) (e2 : ys.getD j.toNat 0 = u2) :
  RP base g n cap w ((W.setCell ⟨g, i.toNat, none⟩ (.int .u16 u2)).setCell ⟨g, j.toNat, none⟩ (.int .u16 u1)).drew xs (swp ys i.toNat j.toNat) := by
 have hl := h.length
 subst e1 e2
 have a1 := Kd.R_putg h.1 i (ys.getD j.toNat 0)
 have a2 := Kd.R_putg a1.1 j (ys.getD i.toNat 0)
 exact ⟨Kd.R_drew a2.1, grown_drew (grown_trans (grown_trans h.2.1 a1.2) a2.2), (swp_perm ys _ _ (by omega) (by omega)).trans h.2.2⟩
theorem RP.swap' (h : RP base g n cap w W xs ys) (i j : Int) (hi0 : 0 ≤ i) (hj0 : 0 ≤ j) (hi : i < n) (hj : j < n) (hij : i ≠ j) (u1 u2 : Int) (e1 : ys.getD i.toNat 0 = u1) (e2 : ys.getD j.toNat 0 = u2) :
  RP base g n cap w ((W.setCell ⟨g, j.toNat, none⟩ (.int .u16 u1)).setCell ⟨g, i.toNat, none⟩ (.int .u16 u2)).drew xs (swp ys i.toNat j.toNat) := by
 have hl := h.length
 subst e1 e2
 have a1 := Kd.R_putg h.1 j (ys.getD i.toNat 0)
 have a2 := Kd.R_putg a1.1 i (ys.getD j.toNat 0)
 refine ⟨?_, grown_drew (grown_trans (grown_trans h.2.1 a1.2) a2.2), (swp_perm ys _ _ (by omega) (by omega)).trans h.2.2⟩
 have e : swp ys i.toNat j.toNat = (ys.set j.toNat (ys.getD i.toNat 0)).set i.toNat (ys.getD j.toNat 0) := List.set_comm _ _ (by omega)
 rw [e]
 exact Kd.R_drew a2.1
end
set_option maxHeartbeats 16000000 in
set_option maxRecDepth 100000 in
theorem ins_sort (base g n cap : Nat) (a b : Int) (w : World) (xs : List Int) (h : RU w base g n cap xs) (h0 : 0 ≤ a) (h2 : b ≤ n) (hn : n ≤ 1000000) (h1 : a ≤ n) :
  Calls Try.prog 130 #[.slice (some ⟨g, 0, none⟩) n cap, .int .i64 a, .int .i64 b] w fun e w' => e = .returned (.tuple #[]) ∧ ∃ ys, RP base g n cap w w' xs ys ∧ SRT ys a b := by
 have HP := Aside0.mk (RP.refl h)
 have HA := Aside0.mk (show 0 ≤ a ∧ b ≤ n ∧ (n : Int) ≤ 1000000 ∧ a ≤ n from ⟨h0, h2, by omega, by omega⟩)
 have HS := Aside0.mk (show SRT xs a (a + 1) from fun p q h1 h2 h3 => absurd h3 (by omega))
 clear h h0 h1 h2 hn
 have s0 : IntKind.i64.wrap (a + 1) = a + 1 := by rw [i64_w]; exact wrap_in _ (by have h1_ := HA.out; omega) (by have h1_ := HA.out; omega)
 have sw0 : wrap64 (a + 1) = a + 1 := wrap_in _ (by have h1_ := HA.out; omega) (by have h1_ := HA.out; omega)
 go_enter Try.func130, Try.ntmps130
 go_wp2
 go_loopg [6] 2000000 (fun gg s6 wr => ∃ i : Int, s6 = .int .i64 i ∧ Aside0 (a + 1 ≤ i ∧ (i ≤ b ∨ i = a + 1) ∧ 1000002 - i < gg) ∧ ∃ ys, Aside0 (RP base g n cap w wr xs ys) ∧ Aside0 (SRT ys a i))
 case atStart => exact ⟨_, rfl, ⟨by have := HA.out; omega⟩, _, HP, HS⟩
 case round =>
  clear HP HS
  obtain ⟨i, rfl, HI, ys, HP, HS⟩ := hrel
  by_cases hlt : i < b
  rotate_left
  ·have hd : decide (i < b) = false := decide_eq_false hlt
   have HC := Aside0.mk hlt
   clear hlt
   go_wp2
   first | go_end0 | ((try simp only [Exit.inBlock, Exit.then]); refine bodyPost_ret (results_none rfl _ _ _) rfl ?_)
   exact ⟨rfl, ys, HP.out, fun p q h1 h2 h3 => HS.out p q h1 h2 (by have := HC.out; omega)⟩
  have hd : decide (i < b) = true := decide_eq_true hlt
  have HC := Aside0.mk hlt
  clear hlt
  have HJ := Aside0.mk (HS.out.enter)
  clear HS
  have t0 : IntKind.i64.wrap (i + 1) = i + 1 := by rw [i64_w]; exact wrap_in _ (by have h1_ := HA.out; have h2_ := HI.out; have h3_ := HC.out; omega) (by have h1_ := HA.out; have h2_ := HI.out; have h3_ := HC.out; omega)
  have tw0 : wrap64 (i + 1) = i + 1 := wrap_in _ (by have h1_ := HA.out; have h2_ := HI.out; have h3_ := HC.out; omega) (by have h1_ := HA.out; have h2_ := HI.out; have h3_ := HC.out; omega)
  go_wp2
  go_loopg [7] 2000000 (fun hh s7 wr => ∃ j : Int, s7 = .int .i64 j ∧ Aside0 (a ≤ j ∧ j ≤ i ∧ j < hh) ∧ ∃ ys, Aside0 (RP base g n cap w wr xs ys) ∧ Aside0 (SRJ ys a i j))
  case atStart => exact ⟨_, rfl, ⟨by have := HA.out; have := HI.out; have := HC.out; omega⟩, _, HP, HJ⟩
  case round =>
   clear HP HJ
   obtain ⟨j, rfl, HX, ys, HP, HJ⟩ := hrel
   go_upto_region 4 with (fail)
   go_cut [30] (fun v30 wc => ∃ bb : Bool, v30 = .bool bb ∧ Aside0 (bb = true → a < j ∧ ys.getD j.toNat 0 < ys.getD (j.toNat - 1) 0) ∧ Aside0 (bb = false → j ≤ a ∨ ys.getD (j.toNat - 1) 0 ≤ ys.getD j.toNat 0) ∧ Aside0 (RP base g n cap w wc xs ys))
   case first =>
    by_cases hq : a < j
    rotate_left
    ·have hd2 : decide (a < j) = false := decide_eq_false hq
     have HQ := Aside0.mk hq
     clear hq
     go_quiet (fail)
     go_wp2
     go_meet
     exact ⟨false, rfl, ⟨fun h => by cases h⟩, ⟨fun _ => .inl (by have := HQ.out; omega)⟩, ⟨HP.out.drewN _⟩⟩
    have hd2 : decide (a < j) = true := decide_eq_true hq
    have HQ := Aside0.mk hq
    clear hq
    have y0 : IntKind.i64.wrap (j - 1) = j - 1 := by rw [i64_w]; exact wrap_in _ (by have h1_ := HA.out; have h2_ := HI.out; have h3_ := HC.out; have h4_ := HX.out; have h5_ := HQ.out; omega) (by have h1_ := HA.out; have h2_ := HI.out; have h3_ := HC.out; have h4_ := HX.out; have h5_ := HQ.out; omega)
    have yw0 : wrap64 (j - 1) = j - 1 := wrap_in _ (by have h1_ := HA.out; have h2_ := HI.out; have h3_ := HC.out; have h4_ := HX.out; have h5_ := HQ.out; omega) (by have h1_ := HA.out; have h2_ := HI.out; have h3_ := HC.out; have h4_ := HX.out; have h5_ := HQ.out; omega)
    obtain ⟨k, hk⟩ : ∃ k, k = j - 1 := ⟨_, rfl⟩
    have HK := Aside0.mk (show k = j - 1 ∧ 0 ≤ k ∧ k < n ∧ k.toNat = j.toNat - 1 by have h1_ := HA.out; have h2_ := HI.out; have h3_ := HC.out; have h4_ := HX.out; have h5_ := HQ.out; omega)
    have hkk : j - 1 = k := hk.symm
    replace y0 := y0.trans hkk
    replace yw0 := yw0.trans hkk
    clear hk hkk
    have b0 : (0 ≤ j) = True := eq_true (by have h1_ := HA.out; have h2_ := HI.out; have h3_ := HC.out; have h4_ := HX.out; have h5_ := HQ.out; have h6_ := HK.out; omega)
    have b0u : (j < (n : Int)) = True := eq_true (by have h1_ := HA.out; have h2_ := HI.out; have h3_ := HC.out; have h4_ := HX.out; have h5_ := HQ.out; have h6_ := HK.out; omega)
    have b1 : (0 ≤ k) = True := eq_true (by have h1_ := HA.out; have h2_ := HI.out; have h3_ := HC.out; have h4_ := HX.out; have h5_ := HQ.out; have h6_ := HK.out; omega)
    have b1u : (k < (n : Int)) = True := eq_true (by have h1_ := HA.out; have h2_ := HI.out; have h3_ := HC.out; have h4_ := HX.out; have h5_ := HQ.out; have h6_ := HK.out; omega)
    obtain ⟨u1, hc1, hf1, e1⟩ := HP.out.cell j (of_eq_true b0) (of_eq_true b0u)
    obtain ⟨u2, hc2, hf2, e2⟩ := HP.out.cell k (of_eq_true b1) (of_eq_true b1u)
    have E1 := Aside0.mk e1
    have E2 := Aside0.mk e2
    clear e1 e2
    go_quiet ((go_at_call 136; exact Calls.quiet_of_same (less_c _ _ _)))
    go_wp2
    go_meet
    have f1 : ys.getD (j.toNat - 1) 0 = u2 := by rw [← E2.out, HK.out.2.2.2]
    exact ⟨_, rfl, ⟨fun h => ⟨HQ.out, by rw [E1.out, f1]; exact of_decide_eq_true h⟩⟩, ⟨fun h => .inr (by rw [E1.out, f1]; have := of_decide_eq_false h; omega)⟩, ⟨HP.out.drewN _⟩⟩
   case rest =>
    clear HP
    obtain ⟨bb, rfl, HT, HF, HP⟩ := hcut
    cases bb with
    | false =>
     have HS := Aside0.mk (SRJ.leave HJ.out (by have := HA.out; omega) (by have := HX.out; omega) (HF.out rfl))
     clear HJ HF HT
     go_wp2
     go_roundg (1000002 - i).toNat
     case measure => have h1_ := HI.out; have h2_ := HC.out; have h3_ := HA.out; omega
     case rel => exact ⟨i + 1, rfl, ⟨by have h1_ := HI.out; have h2_ := HC.out; have h3_ := HA.out; omega⟩, ys, HP, HS⟩
    | true =>
     have HQ := Aside0.mk (HT.out rfl)
     clear HT HF
     have y0 : IntKind.i64.wrap (j - 1) = j - 1 := by rw [i64_w]; exact wrap_in _ (by have h1_ := HA.out; have h2_ := HI.out; have h3_ := HC.out; have h4_ := HX.out; have h5_ := HQ.out.1; omega) (by have h1_ := HA.out; have h2_ := HI.out; have h3_ := HC.out; have h4_ := HX.out; have h5_ := HQ.out.1; omega)
     have yw0 : wrap64 (j - 1) = j - 1 := wrap_in _ (by have h1_ := HA.out; have h2_ := HI.out; have h3_ := HC.out; have h4_ := HX.out; have h5_ := HQ.out.1; omega) (by have h1_ := HA.out; have h2_ := HI.out; have h3_ := HC.out; have h4_ := HX.out; have h5_ := HQ.out.1; omega)
     obtain ⟨k, hk⟩ : ∃ k, k = j - 1 := ⟨_, rfl⟩
     have HK := Aside0.mk (show k = j - 1 ∧ 0 ≤ k ∧ k < n ∧ k.toNat = j.toNat - 1 by have h1_ := HA.out; have h2_ := HI.out; have h3_ := HC.out; have h4_ := HX.out; have h5_ := HQ.out.1; omega)
     have hkk : j - 1 = k := hk.symm
     replace y0 := y0.trans hkk
     replace yw0 := yw0.trans hkk
     clear hk hkk
     have b0 : (0 ≤ j) = True := eq_true (by have h1_ := HA.out; have h2_ := HI.out; have h3_ := HC.out; have h4_ := HX.out; have h5_ := HQ.out.1; have h6_ := HK.out; omega)
     have b0u : (j < (n : Int)) = True := eq_true (by have h1_ := HA.out; have h2_ := HI.out; have h3_ := HC.out; have h4_ := HX.out; have h5_ := HQ.out.1; have h6_ := HK.out; omega)
     have b1 : (0 ≤ k) = True := eq_true (by have h1_ := HA.out; have h2_ := HI.out; have h3_ := HC.out; have h4_ := HX.out; have h5_ := HQ.out.1; have h6_ := HK.out; omega)
     have b1u : (k < (n : Int)) = True := eq_true (by have h1_ := HA.out; have h2_ := HI.out; have h3_ := HC.out; have h4_ := HX.out; have h5_ := HQ.out.1; have h6_ := HK.out; omega)
     obtain ⟨u1, hc1, hf1, e1⟩ := HP.out.cell j (of_eq_true b0) (of_eq_true b0u)
     obtain ⟨u2, hc2, hf2, e2⟩ := HP.out.cell k (of_eq_true b1) (of_eq_true b1u)
     have E1 := Aside0.mk e1
     have E2 := Aside0.mk e2
     clear e1 e2
     obtain ⟨u3, hc3, hf3⟩ := (HP.out.SD.set j u2).cell k (of_eq_true b1) (of_eq_true b1u)
     obtain ⟨u4, hc4, hf4⟩ := (HP.out.SD.set k u1).cell j (of_eq_true b0) (of_eq_true b0u)
     go_wp2
     go_region
     all_goals go_wp2
     go_roundg j.toNat
     case measure => have h1_ := HX.out; have h2_ := HA.out; have h3_ := HQ.out.1; omega
     case rel =>
      have hln := HP.out.length
      have HW := SRJ.swap HJ.out (by have := HA.out; omega) HQ.out.1 (by have := HX.out; omega) (by have h1_ := HA.out; have h2_ := HC.out; have h3_ := HX.out; omega) HQ.out.2
      have HV := HP.out.swap j k (of_eq_true b0) (of_eq_true b1) (of_eq_true b0u) (of_eq_true b1u) u1 u2 E1.out E2.out
      rw [← HK.out.2.2.2, ← HK.out.1] at HW
      exact ⟨k, rfl, ⟨by have h1_ := HX.out; have h2_ := HQ.out.1; have h3_ := HK.out; omega⟩, _, ⟨by first | exact HV | exact HP.out.swap' j k (of_eq_true b0) (of_eq_true b1) (of_eq_true b0u) (of_eq_true b1u) (by have h3_ := HK.out; omega) u1 u2 E1.out E2.out⟩, ⟨HW⟩⟩
end Go.Proofs.Ytbfialebaoeicaa.X
