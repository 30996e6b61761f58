/- Part 12 of the proof of the statement ShapeCopies: the words of the walks, the walks through the functions that it reaches, and the plain laws of what they compute. -/
import Derived.Test.YtbfialebaoeicaaMShapeCopies10
import Derived.RegionTactic
import Derived.ChangeAlike
import Derived.Deep.QuietTactic
import Derived.BigQuiet
namespace Go.Proofs.Ytbfialebaoeicaa.X
open Go.RowKit Go.Proofs.YtbfialebaoeicaaW.PrintWords Go.Proofs.YtbfialebaoeicaaW.PrintLast Go.Proofs.YtbfialebaoeicaaW.PrintMore
set_option linter.all false
set_option maxHeartbeats 16000000 in
set_option maxRecDepth 100000 in
theorem par_c (base g n cap : Nat) (a b : Int) (w : World) (xs : List Int) (h : RU w base g n cap xs) (h0 : 0 ≤ a) (h1 : a < b) (h2 : b ≤ n) (hl : b - a < 50) (hn : n ≤ 1000000) :
  Calls Try.prog 135 #[.slice (some ⟨g, 0, none⟩) n cap, .int .i64 a, .int .i64 b] w fun e w' => (∃ r : Bool, e = .returned (.bool r)) ∧ SD base g n cap w w' := by
 have HD := Aside0.mk (SD.refl h)
 have HA := Aside0.mk (show 0 ≤ a ∧ a < b ∧ b ≤ n ∧ b - a < 50 ∧ (n : Int) ≤ 1000000 from ⟨h0, h1, h2, hl, by omega⟩)
 clear h h0 h1 h2 hn
 have s0 : IntKind.i64.wrap (a + 1) = a + 1 := by rw [i64_w]; exact wrap_in _ (by have h1_ := HA.out; omega) (by have h1_ := HA.out; omega)
 have sw0 : wrap64 (a + 1) = a + 1 := wrap_in _ (by have h1_ := HA.out; omega) (by have h1_ := HA.out; omega)
 have s1 : IntKind.i64.wrap (b - a) = b - a := by rw [i64_w]; exact wrap_in _ (by have h1_ := HA.out; omega) (by have h1_ := HA.out; omega)
 have sw1 : wrap64 (b - a) = b - a := wrap_in _ (by have h1_ := HA.out; omega) (by have h1_ := HA.out; omega)
 have q1 : decide (b - a < 50) = true := decide_eq_true hl
 clear hl
 go_enter Try.func135, Try.ntmps135
 go_wp2
 go_loopg [7, 8] 2000000 (fun gg s7 s8 wr => s7 = .int .i64 (a + 1) ∧ s8 = .int .i64 0 ∧ Aside0 (SD base g n cap w wr))
 case atStart => exact ⟨rfl, rfl, HD⟩
 case round =>
  clear HD
  obtain ⟨rfl, rfl, HD⟩ := hrel
  go_wp2
  go_loopg [7] 2000000 (fun hh s7 wr => ∃ i : Int, s7 = .int .i64 i ∧ Aside0 (a + 1 ≤ i ∧ i ≤ b ∧ b - i < hh) ∧ Aside0 (SD base g n cap w wr))
  case atStart => exact ⟨_, rfl, ⟨by have := HA.out; omega⟩, HD⟩
  case round =>
   clear HD
   obtain ⟨i, rfl, HI, HD⟩ := hrel
   have y0 : IntKind.i64.wrap (i - 1) = i - 1 := by rw [i64_w]; exact wrap_in _ (by have h1_ := HA.out; have h2_ := HI.out; omega) (by have h1_ := HA.out; have h2_ := HI.out; omega)
   have yw0 : wrap64 (i - 1) = i - 1 := wrap_in _ (by have h1_ := HA.out; have h2_ := HI.out; omega) (by have h1_ := HA.out; have h2_ := HI.out; omega)
   obtain ⟨k, hk⟩ : ∃ k, k = i - 1 := ⟨_, rfl⟩
   have HK := Aside0.mk (show k = i - 1 ∧ 0 ≤ k by have h1_ := HA.out; have h2_ := HI.out; omega)
   have hkk : i - 1 = k := hk.symm
   replace y0 := y0.trans hkk
   replace yw0 := yw0.trans hkk
   clear hk hkk
   go_upto_region 5 with (fail)
   go_cut [32] (fun v wc => ∃ bb : Bool, v = .bool bb ∧ Aside0 (bb = true → i < b) ∧ Aside0 (SD base g n cap w wc))
   case first =>
    by_cases hq : i < b
    rotate_left
    ·have hd2 : decide (i < b) = false := decide_eq_false hq
     clear hq
     go_quiet (fail)
     go_wp2
     go_meet
     exact ⟨false, rfl, ⟨fun h => by cases h⟩, ⟨HD.out.drewN _⟩⟩
    have hd2 : decide (i < b) = true := decide_eq_true hq
    have HQ := Aside0.mk hq
    clear hq
    have b0 : (0 ≤ i) = True := eq_true (by have h1_ := HA.out; have h2_ := HI.out; have h3_ := HK.out; have hq_ := HQ.out; omega)
    have b0u : (i < (n : Int)) = True := eq_true (by have h1_ := HA.out; have h2_ := HI.out; have h3_ := HK.out; have hq_ := HQ.out; omega)
    have b1 : (0 ≤ k) = True := eq_true (by have h1_ := HA.out; have h2_ := HI.out; have h3_ := HK.out; have hq_ := HQ.out; omega)
    have b1u : (k < (n : Int)) = True := eq_true (by have h1_ := HA.out; have h2_ := HI.out; have h3_ := HK.out; have hq_ := HQ.out; omega)
    obtain ⟨u0, hc0, hf0⟩ := HD.out.cell i (of_eq_true b0) (of_eq_true b0u)
    obtain ⟨u1, hc1, hf1⟩ := HD.out.cell k (of_eq_true b1) (of_eq_true b1u)
    go_quiet ((go_at_call 136; exact Calls.quiet_of_same (less_c _ _ _)))
    go_wp2
    go_meet
    exact ⟨_, rfl, ⟨fun _ => HQ.out⟩, ⟨HD.out.drewN _⟩⟩
   case rest =>
    clear HD
    obtain ⟨bb, rfl, HT, HD⟩ := hcut
    cases bb with
    | true =>
     have HQ := Aside0.mk (HT.out rfl)
     clear HT
     have z0 : IntKind.i64.wrap (i + 1) = i + 1 := by rw [i64_w]; exact wrap_in _ (by have h1_ := HA.out; have h2_ := HI.out; omega) (by have h1_ := HA.out; have h2_ := HI.out; omega)
     have zw0 : wrap64 (i + 1) = i + 1 := wrap_in _ (by have h1_ := HA.out; have h2_ := HI.out; omega) (by have h1_ := HA.out; have h2_ := HI.out; omega)
     go_wp2
     go_roundg (b - i).toNat
     case measure => have h2_ := HI.out; have h3_ := HQ.out; omega
     case rel => exact ⟨i + 1, rfl, ⟨by have h2_ := HI.out; have h3_ := HQ.out; omega⟩, HD⟩
    | false =>
     clear HT
     go_wp2
     all_goals go_ret
     all_goals exact ⟨⟨_, rfl⟩, HD.out⟩
set_option maxHeartbeats 16000000 in
set_option maxRecDepth 100000 in
theorem peq_c (base g n cap : Nat) (a b pv : Int) (w : World) (xs : List Int) (h : RU w base g n cap xs) (h0 : 0 ≤ a) (h1 : a < b) (h2 : b ≤ n) (hp : a ≤ pv) (hp2 : pv < b) (hn : n ≤ 1000000) :
  Calls Try.prog 137 #[.slice (some ⟨g, 0, none⟩) n cap, .int .i64 a, .int .i64 b, .int .i64 pv] w fun e w' => (∃ r : Int, e = .returned (.int .i64 r) ∧ a < r ∧ r ≤ b) ∧ SD base g n cap w w' := by
 have HD := Aside0.mk (SD.refl h)
 have HA := Aside0.mk (show 0 ≤ a ∧ a < b ∧ b ≤ n ∧ a ≤ pv ∧ pv < b ∧ (n : Int) ≤ 1000000 from ⟨h0, h1, h2, hp, hp2, by omega⟩)
 clear h h0 h1 h2 hp hp2 hn
 have s0 : IntKind.i64.wrap (a + 1) = a + 1 := by rw [i64_w]; exact wrap_in _ (by have h1_ := HA.out; omega) (by have h1_ := HA.out; omega)
 have sw0 : wrap64 (a + 1) = a + 1 := wrap_in _ (by have h1_ := HA.out; omega) (by have h1_ := HA.out; omega)
 have s1 : IntKind.i64.wrap (b - 1) = b - 1 := by rw [i64_w]; exact wrap_in _ (by have h1_ := HA.out; omega) (by have h1_ := HA.out; omega)
 have sw1 : wrap64 (b - 1) = b - 1 := wrap_in _ (by have h1_ := HA.out; omega) (by have h1_ := HA.out; omega)
 go_enter Try.func137, Try.ntmps137
 go_upto_region 1 with (fail)
 go_cut [24] (fun v wc => Aside0 (SD base g n cap w wc))
 case first =>
  have b0 : (0 ≤ a) = True := eq_true (by have h1_ := HA.out; omega)
  have b0u : (a < (n : Int)) = True := eq_true (by have h1_ := HA.out; omega)
  have b1 : (0 ≤ pv) = True := eq_true (by have h1_ := HA.out; omega)
  have b1u : (pv < (n : Int)) = True := eq_true (by have h1_ := HA.out; omega)
  obtain ⟨u0, hc0, hf0⟩ := HD.out.cell a (of_eq_true b0) (of_eq_true b0u)
  obtain ⟨u1, hc1, hf1⟩ := HD.out.cell pv (of_eq_true b1) (of_eq_true b1u)
  obtain ⟨u3, hc3, hf3⟩ := (HD.out.set a u1).cell pv (of_eq_true b1) (of_eq_true b1u)
  obtain ⟨u4, hc4, hf4⟩ := (HD.out.set pv u0).cell a (of_eq_true b0) (of_eq_true b0u)
  go_wp2
  go_region
  all_goals go_wp2
  go_meet
  exact ⟨by first | exact ((HD.out.set a u1).set pv u0).drew | exact ((HD.out.set pv u0).set a u1).drew⟩
 case rest =>
  clear HD
  have HD := hcut
  clear hcut
  go_wp2
  go_loopg [9, 10] 2000000 (fun gg si sj wr => ∃ i j : Int, si = .int .i64 i ∧ sj = .int .i64 j ∧ Aside0 ((a + 1 ≤ i ∧ i ≤ b ∧ i ≤ j + 2 ∧ a ≤ j ∧ j ≤ b - 1) ∧ j + 3 - i < gg) ∧ Aside0 (SD base g n cap w wr))
  case atStart => exact ⟨_, _, rfl, rfl, ⟨by have h1_ := HA.out; omega⟩, HD⟩
  case round =>
   clear HD
   obtain ⟨i, j, rfl, rfl, HI1, HD⟩ := hrel
   obtain ⟨m, hm⟩ : ∃ m, m = j + 3 - i := ⟨_, rfl⟩
   have HM := Aside0.mk (show m < gk by have h1_ := HI1.out; omega)
   have HI := Aside0.mk (show a + 1 ≤ i ∧ i ≤ b ∧ i ≤ j + 2 ∧ a ≤ j ∧ j ≤ b - 1 ∧ j + 3 - i ≤ m by have h1_ := HI1.out; omega)
   clear hm HI1
   go_wp2
   go_loopg [9] 2000000 (fun hh si wr => ∃ i : Int, si = .int .i64 i ∧ Aside0 ((a + 1 ≤ i ∧ i ≤ b ∧ i ≤ j + 2 ∧ a ≤ j ∧ j ≤ b - 1 ∧ j + 3 - i ≤ m) ∧ j + 3 - i < hh) ∧ Aside0 (SD base g n cap w wr))
   case atStart => exact ⟨_, rfl, ⟨by have h1_ := HA.out; have h2_ := HI.out; omega⟩, HD⟩
   case round =>
    clear HD HI
    obtain ⟨i, rfl, HI, HD⟩ := hrel
    go_upto_region 3 with (fail)
    go_cut [43] (fun v wc => ∃ bb : Bool, v = .bool bb ∧ Aside0 (bb = true → i ≤ j) ∧ Aside0 (SD base g n cap w wc))
    case first =>
     by_cases hq : i ≤ j
     rotate_left
     ·have hd2 : decide (i ≤ j) = false := decide_eq_false hq
      clear hq
      go_quiet (fail)
      go_wp2
      go_meet
      exact ⟨false, rfl, ⟨fun h => by cases h⟩, ⟨HD.out.drewN _⟩⟩
     have hd2 : decide (i ≤ j) = true := decide_eq_true hq
     have HQ := Aside0.mk hq
     clear hq
     have b0 : (0 ≤ i) = True := eq_true (by have h1_ := HA.out; have h2_ := HI.out; have hq_ := HQ.out; omega)
     have b0u : (i < (n : Int)) = True := eq_true (by have h1_ := HA.out; have h2_ := HI.out; have hq_ := HQ.out; omega)
     have b1 : (0 ≤ a) = True := eq_true (by have h1_ := HA.out; have h2_ := HI.out; have hq_ := HQ.out; omega)
     have b1u : (a < (n : Int)) = True := eq_true (by have h1_ := HA.out; have h2_ := HI.out; have hq_ := HQ.out; omega)
     obtain ⟨u0, hc0, hf0⟩ := HD.out.cell i (of_eq_true b0) (of_eq_true b0u)
     obtain ⟨u1, hc1, hf1⟩ := HD.out.cell a (of_eq_true b1) (of_eq_true b1u)
     go_quiet ((go_at_call 136; exact Calls.quiet_of_same (less_c _ _ _)))
     go_wp2
     go_meet
     exact ⟨_, rfl, ⟨fun _ => HQ.out⟩, ⟨HD.out.drewN _⟩⟩
    case rest =>
     clear HD
     obtain ⟨bb, rfl, HT, HD⟩ := hcut
     cases bb with
     | true =>
      have HQ := Aside0.mk (HT.out rfl)
      clear HT
      have z0 : IntKind.i64.wrap (i + 1) = i + 1 := by rw [i64_w]; exact wrap_in _ (by have h1_ := HA.out; have h2_ := HI.out; omega) (by have h1_ := HA.out; have h2_ := HI.out; omega)
      have zw0 : wrap64 (i + 1) = i + 1 := wrap_in _ (by have h1_ := HA.out; have h2_ := HI.out; omega) (by have h1_ := HA.out; have h2_ := HI.out; omega)
      go_wp2
      go_roundg (j + 3 - i).toNat
      case measure => have h2_ := HI.out; have h3_ := HQ.out; omega
      case rel => exact ⟨i + 1, rfl, ⟨by have h2_ := HI.out; have h3_ := HQ.out; omega⟩, HD⟩
     | false =>
      clear HT
      have HI2 := Aside0.mk (show a + 1 ≤ i ∧ i ≤ b ∧ i ≤ j + 2 ∧ a ≤ j ∧ j ≤ b - 1 ∧ j + 3 - i ≤ m from HI.out.1)
      clear HI
      have HI := HI2
      clear HI2
      go_wp2
      go_loopg [10] 2000000 (fun hh sj wr => ∃ j : Int, sj = .int .i64 j ∧ Aside0 ((a + 1 ≤ i ∧ i ≤ b ∧ i ≤ j + 2 ∧ a ≤ j ∧ j ≤ b - 1 ∧ j + 3 - i ≤ m) ∧ j + 3 - i < hh) ∧ Aside0 (SD base g n cap w wr))
      case atStart => exact ⟨_, rfl, ⟨by have h1_ := HA.out; have h2_ := HI.out; omega⟩, HD⟩
      case round =>
       clear HD HI
       obtain ⟨j, rfl, HI, HD⟩ := hrel
       go_upto_region 5 with (fail)
       go_cut [59] (fun v wc => ∃ bb : Bool, v = .bool bb ∧ Aside0 (bb = true → i ≤ j) ∧ Aside0 (SD base g n cap w wc))
       case first =>
        by_cases hq : i ≤ j
        rotate_left
        ·have hd2 : decide (i ≤ j) = false := decide_eq_false hq
         clear hq
         go_quiet (fail)
         go_wp2
         go_meet
         exact ⟨false, rfl, ⟨fun h => by cases h⟩, ⟨HD.out.drewN _⟩⟩
        have hd2 : decide (i ≤ j) = true := decide_eq_true hq
        have HQ := Aside0.mk hq
        clear hq
        have b0 : (0 ≤ j) = True := eq_true (by have h1_ := HA.out; have h2_ := HI.out; have hq_ := HQ.out; omega)
        have b0u : (j < (n : Int)) = True := eq_true (by have h1_ := HA.out; have h2_ := HI.out; have hq_ := HQ.out; omega)
        have b1 : (0 ≤ a) = True := eq_true (by have h1_ := HA.out; have h2_ := HI.out; have hq_ := HQ.out; omega)
        have b1u : (a < (n : Int)) = True := eq_true (by have h1_ := HA.out; have h2_ := HI.out; have hq_ := HQ.out; omega)
        obtain ⟨u0, hc0, hf0⟩ := HD.out.cell j (of_eq_true b0) (of_eq_true b0u)
        obtain ⟨u1, hc1, hf1⟩ := HD.out.cell a (of_eq_true b1) (of_eq_true b1u)
        go_quiet ((go_at_call 136; exact Calls.quiet_of_same (less_c _ _ _)))
        go_wp2
        go_meet
        exact ⟨_, rfl, ⟨fun _ => HQ.out⟩, ⟨HD.out.drewN _⟩⟩
       case rest =>
        clear HD
        obtain ⟨bb, rfl, HT, HD⟩ := hcut
        cases bb with
        | true =>
         have HQ := Aside0.mk (HT.out rfl)
         clear HT
         have z0 : IntKind.i64.wrap (j - 1) = j - 1 := by rw [i64_w]; exact wrap_in _ (by have h1_ := HA.out; have h2_ := HI.out; omega) (by have h1_ := HA.out; have h2_ := HI.out; omega)
         have zw0 : wrap64 (j - 1) = j - 1 := wrap_in _ (by have h1_ := HA.out; have h2_ := HI.out; omega) (by have h1_ := HA.out; have h2_ := HI.out; omega)
         go_wp2
         go_roundg (j + 3 - i).toNat
         case measure => have h2_ := HI.out; have h3_ := HQ.out; omega
         case rel => exact ⟨j - 1, rfl, ⟨by have h2_ := HI.out; have h3_ := HQ.out; omega⟩, HD⟩
        | false =>
         clear HT
         have HI2 := Aside0.mk (show a + 1 ≤ i ∧ i ≤ b ∧ i ≤ j + 2 ∧ a ≤ j ∧ j ≤ b - 1 ∧ j + 3 - i ≤ m from HI.out.1)
         clear HI
         have HI := HI2
         clear HI2
         by_cases he : j < i
         ·have hd3 : decide (j < i) = true := decide_eq_true he
          clear he
          go_wp2
          go_ret
          exact ⟨⟨_, rfl, by have h2_ := HI.out; omega, by have h2_ := HI.out; omega⟩, HD.out⟩
         have hd3 : decide (j < i) = false := decide_eq_false he
         have HQ := Aside0.mk he
         clear he
         go_upto_region 8 with (fail)
         go_cut [78] (fun v wc => Aside0 (SD base g n cap w wc))
         case first =>
          have b0 : (0 ≤ i) = True := eq_true (by have h1_ := HA.out; have h2_ := HI.out; have h3_ := HQ.out; omega)
          have b0u : (i < (n : Int)) = True := eq_true (by have h1_ := HA.out; have h2_ := HI.out; have h3_ := HQ.out; omega)
          have b1 : (0 ≤ j) = True := eq_true (by have h1_ := HA.out; have h2_ := HI.out; have h3_ := HQ.out; omega)
          have b1u : (j < (n : Int)) = True := eq_true (by have h1_ := HA.out; have h2_ := HI.out; have h3_ := HQ.out; omega)
          obtain ⟨u0, hc0, hf0⟩ := HD.out.cell i (of_eq_true b0) (of_eq_true b0u)
          obtain ⟨u1, hc1, hf1⟩ := HD.out.cell j (of_eq_true b1) (of_eq_true b1u)
          obtain ⟨u3, hc3, hf3⟩ := (HD.out.set i u1).cell j (of_eq_true b1) (of_eq_true b1u)
          obtain ⟨u4, hc4, hf4⟩ := (HD.out.set j u0).cell i (of_eq_true b0) (of_eq_true b0u)
          go_wp2
          go_region
          all_goals go_wp2
          go_meet
          exact ⟨by first | exact ((HD.out.set i u1).set j u0).drew | exact ((HD.out.set j u0).set i u1).drew⟩
         case rest =>
          clear HD
          have HD := hcut
          clear hcut
          have z0 : IntKind.i64.wrap (i + 1) = i + 1 := by rw [i64_w]; exact wrap_in _ (by have h1_ := HA.out; have h2_ := HI.out; have h3_ := HQ.out; omega) (by have h1_ := HA.out; have h2_ := HI.out; have h3_ := HQ.out; omega)
          have zw0 : wrap64 (i + 1) = i + 1 := wrap_in _ (by have h1_ := HA.out; have h2_ := HI.out; have h3_ := HQ.out; omega) (by have h1_ := HA.out; have h2_ := HI.out; have h3_ := HQ.out; omega)
          have z1 : IntKind.i64.wrap (j - 1) = j - 1 := by rw [i64_w]; exact wrap_in _ (by have h1_ := HA.out; have h2_ := HI.out; have h3_ := HQ.out; omega) (by have h1_ := HA.out; have h2_ := HI.out; have h3_ := HQ.out; omega)
          have zw1 : wrap64 (j - 1) = j - 1 := wrap_in _ (by have h1_ := HA.out; have h2_ := HI.out; have h3_ := HQ.out; omega) (by have h1_ := HA.out; have h2_ := HI.out; have h3_ := HQ.out; omega)
          go_wp2
          go_roundg (j + 2 - i).toNat
          case measure => have h1_ := HM.out; have h3_ := HI.out; have h4_ := HQ.out; omega
          case rel => exact ⟨i + 1, j - 1, rfl, rfl, ⟨by have h3_ := HI.out; have h4_ := HQ.out; omega⟩, HD⟩
set_option maxHeartbeats 16000000 in
set_option maxRecDepth 100000 in
theorem prt_c (base g n cap : Nat) (a b pv : Int) (w : World) (xs : List Int) (h : RU w base g n cap xs) (h0 : 0 ≤ a) (h1 : a < b) (h2 : b ≤ n) (hp : a ≤ pv) (hp2 : pv < b) (hn : n ≤ 1000000) :
  Calls Try.prog 138 #[.slice (some ⟨g, 0, none⟩) n cap, .int .i64 a, .int .i64 b, .int .i64 pv] w fun e w' => (∃ r : Int, (∃ q : Bool, e = .returned (.tuple #[.int .i64 r, .bool q])) ∧ a ≤ r ∧ r < b) ∧ SD base g n cap w w' := by
 have HD := Aside0.mk (SD.refl h)
 have HA := Aside0.mk (show 0 ≤ a ∧ a < b ∧ b ≤ n ∧ a ≤ pv ∧ pv < b ∧ (n : Int) ≤ 1000000 from ⟨h0, h1, h2, hp, hp2, by omega⟩)
 clear h h0 h1 h2 hp hp2 hn
 have s0 : IntKind.i64.wrap (a + 1) = a + 1 := by rw [i64_w]; exact wrap_in _ (by have h1_ := HA.out; omega) (by have h1_ := HA.out; omega)
 have sw0 : wrap64 (a + 1) = a + 1 := wrap_in _ (by have h1_ := HA.out; omega) (by have h1_ := HA.out; omega)
 have s1 : IntKind.i64.wrap (b - 1) = b - 1 := by rw [i64_w]; exact wrap_in _ (by have h1_ := HA.out; omega) (by have h1_ := HA.out; omega)
 have sw1 : wrap64 (b - 1) = b - 1 := wrap_in _ (by have h1_ := HA.out; omega) (by have h1_ := HA.out; omega)
 go_enter Try.func138, Try.ntmps138
 go_upto_region 1 with (fail)
 go_cut [25] (fun v wc => Aside0 (SD base g n cap w wc))
 case first =>
  have b0 : (0 ≤ a) = True := eq_true (by have h1_ := HA.out; omega)
  have b0u : (a < (n : Int)) = True := eq_true (by have h1_ := HA.out; omega)
  have b1 : (0 ≤ pv) = True := eq_true (by have h1_ := HA.out; omega)
  have b1u : (pv < (n : Int)) = True := eq_true (by have h1_ := HA.out; omega)
  obtain ⟨u0, hc0, hf0⟩ := HD.out.cell a (of_eq_true b0) (of_eq_true b0u)
  obtain ⟨u1, hc1, hf1⟩ := HD.out.cell pv (of_eq_true b1) (of_eq_true b1u)
  obtain ⟨u3, hc3, hf3⟩ := (HD.out.set a u1).cell pv (of_eq_true b1) (of_eq_true b1u)
  obtain ⟨u4, hc4, hf4⟩ := (HD.out.set pv u0).cell a (of_eq_true b0) (of_eq_true b0u)
  go_wp2
  go_region
  all_goals go_wp2
  go_meet
  exact ⟨by first | exact ((HD.out.set a u1).set pv u0).drew | exact ((HD.out.set pv u0).set a u1).drew⟩
 case rest =>
  clear HD
  have HD := hcut
  clear hcut
  obtain ⟨i, hi⟩ : ∃ i, i = a + 1 := ⟨_, rfl⟩
  obtain ⟨j, hj⟩ : ∃ j, j = b - 1 := ⟨_, rfl⟩
  obtain ⟨m, hm⟩ : ∃ m, m = j + 3 - i := ⟨_, rfl⟩
  have HI := Aside0.mk (show a + 1 ≤ i ∧ i ≤ b ∧ i ≤ j + 2 ∧ a ≤ j ∧ j ≤ b - 1 ∧ j + 3 - i ≤ m by have h1_ := HA.out; omega)
  have hi2 : a + 1 = i := hi.symm
  have hj2 : b - 1 = j := hj.symm
  replace s0 := s0.trans hi2
  replace sw0 := sw0.trans hi2
  replace s1 := s1.trans hj2
  replace sw1 := sw1.trans hj2
  clear hi hj hi2 hj2 hm
  go_wp2
  go_loopg [10] 2000000 (fun hh si wr => ∃ i : Int, si = .int .i64 i ∧ Aside0 ((a + 1 ≤ i ∧ i ≤ b ∧ i ≤ j + 2 ∧ a ≤ j ∧ j ≤ b - 1 ∧ j + 3 - i ≤ m) ∧ j + 3 - i < hh) ∧ Aside0 (SD base g n cap w wr))
  case atStart => exact ⟨_, rfl, ⟨by have h1_ := HA.out; have h2_ := HI.out; omega⟩, HD⟩
  case round =>
   clear HD HI
   obtain ⟨i, rfl, HI, HD⟩ := hrel
   go_upto_region 3 with (fail)
   go_cut [43] (fun v wc => ∃ bb : Bool, v = .bool bb ∧ Aside0 (bb = true → i ≤ j) ∧ Aside0 (SD base g n cap w wc))
   case first =>
    by_cases hq : i ≤ j
    rotate_left
    ·have hd2 : decide (i ≤ j) = false := decide_eq_false hq
     clear hq
     go_quiet (fail)
     go_wp2
     go_meet
     exact ⟨false, rfl, ⟨fun h => by cases h⟩, ⟨HD.out.drewN _⟩⟩
    have hd2 : decide (i ≤ j) = true := decide_eq_true hq
    have HQ := Aside0.mk hq
    clear hq
    have b0 : (0 ≤ i) = True := eq_true (by have h1_ := HA.out; have h2_ := HI.out; have hq_ := HQ.out; omega)
    have b0u : (i < (n : Int)) = True := eq_true (by have h1_ := HA.out; have h2_ := HI.out; have hq_ := HQ.out; omega)
    have b1 : (0 ≤ a) = True := eq_true (by have h1_ := HA.out; have h2_ := HI.out; have hq_ := HQ.out; omega)
    have b1u : (a < (n : Int)) = True := eq_true (by have h1_ := HA.out; have h2_ := HI.out; have hq_ := HQ.out; omega)
    obtain ⟨u0, hc0, hf0⟩ := HD.out.cell i (of_eq_true b0) (of_eq_true b0u)
    obtain ⟨u1, hc1, hf1⟩ := HD.out.cell a (of_eq_true b1) (of_eq_true b1u)
    go_quiet ((go_at_call 136; exact Calls.quiet_of_same (less_c _ _ _)))
    go_wp2
    go_meet
    exact ⟨_, rfl, ⟨fun _ => HQ.out⟩, ⟨HD.out.drewN _⟩⟩
   case rest =>
    clear HD
    obtain ⟨bb, rfl, HT, HD⟩ := hcut
    cases bb with
    | true =>
     have HQ := Aside0.mk (HT.out rfl)
     clear HT
     have z0 : IntKind.i64.wrap (i + 1) = i + 1 := by rw [i64_w]; exact wrap_in _ (by have h1_ := HA.out; have h2_ := HI.out; omega) (by have h1_ := HA.out; have h2_ := HI.out; omega)
     have zw0 : wrap64 (i + 1) = i + 1 := wrap_in _ (by have h1_ := HA.out; have h2_ := HI.out; omega) (by have h1_ := HA.out; have h2_ := HI.out; omega)
     go_wp2
     go_roundg (j + 3 - i).toNat
     case measure => have h2_ := HI.out; have h3_ := HQ.out; omega
     case rel => exact ⟨i + 1, rfl, ⟨by have h2_ := HI.out; have h3_ := HQ.out; omega⟩, HD⟩
    | false =>
     clear HT
     have HI2 := Aside0.mk (show a + 1 ≤ i ∧ i ≤ b ∧ i ≤ j + 2 ∧ a ≤ j ∧ j ≤ b - 1 ∧ j + 3 - i ≤ m from HI.out.1)
     clear HI
     have HI := HI2
     clear HI2
     go_wp2
     go_loopg [11] 2000000 (fun hh sj wr => ∃ j : Int, sj = .int .i64 j ∧ Aside0 ((a + 1 ≤ i ∧ i ≤ b ∧ i ≤ j + 2 ∧ a ≤ j ∧ j ≤ b - 1 ∧ j + 3 - i ≤ m) ∧ j + 3 - i < hh) ∧ Aside0 (SD base g n cap w wr))
     case atStart => exact ⟨_, rfl, ⟨by have h1_ := HA.out; have h2_ := HI.out; omega⟩, HD⟩
     case round =>
      clear HD HI
      obtain ⟨j, rfl, HI, HD⟩ := hrel
      go_upto_region 5 with (fail)
      go_cut [60] (fun v wc => ∃ bb : Bool, v = .bool bb ∧ Aside0 (bb = true → i ≤ j) ∧ Aside0 (SD base g n cap w wc))
      case first =>
       by_cases hq : i ≤ j
       rotate_left
       ·have hd2 : decide (i ≤ j) = false := decide_eq_false hq
        clear hq
        go_quiet (fail)
        go_wp2
        go_meet
        exact ⟨false, rfl, ⟨fun h => by cases h⟩, ⟨HD.out.drewN _⟩⟩
       have hd2 : decide (i ≤ j) = true := decide_eq_true hq
       have HQ := Aside0.mk hq
       clear hq
       have b0 : (0 ≤ j) = True := eq_true (by have h1_ := HA.out; have h2_ := HI.out; have hq_ := HQ.out; omega)
       have b0u : (j < (n : Int)) = True := eq_true (by have h1_ := HA.out; have h2_ := HI.out; have hq_ := HQ.out; omega)
       have b1 : (0 ≤ a) = True := eq_true (by have h1_ := HA.out; have h2_ := HI.out; have hq_ := HQ.out; omega)
       have b1u : (a < (n : Int)) = True := eq_true (by have h1_ := HA.out; have h2_ := HI.out; have hq_ := HQ.out; omega)
       obtain ⟨u0, hc0, hf0⟩ := HD.out.cell j (of_eq_true b0) (of_eq_true b0u)
       obtain ⟨u1, hc1, hf1⟩ := HD.out.cell a (of_eq_true b1) (of_eq_true b1u)
       go_quiet ((go_at_call 136; exact Calls.quiet_of_same (less_c _ _ _)))
       go_wp2
       go_meet
       exact ⟨_, rfl, ⟨fun _ => HQ.out⟩, ⟨HD.out.drewN _⟩⟩
      case rest =>
       clear HD
       obtain ⟨bb, rfl, HT, HD⟩ := hcut
       cases bb with
       | true =>
        have HQ := Aside0.mk (HT.out rfl)
        clear HT
        have z0 : IntKind.i64.wrap (j - 1) = j - 1 := by rw [i64_w]; exact wrap_in _ (by have h1_ := HA.out; have h2_ := HI.out; omega) (by have h1_ := HA.out; have h2_ := HI.out; omega)
        have zw0 : wrap64 (j - 1) = j - 1 := wrap_in _ (by have h1_ := HA.out; have h2_ := HI.out; omega) (by have h1_ := HA.out; have h2_ := HI.out; omega)
        go_wp2
        go_roundg (j + 3 - i).toNat
        case measure => have h2_ := HI.out; have h3_ := HQ.out; omega
        case rel => exact ⟨j - 1, rfl, ⟨by have h2_ := HI.out; have h3_ := HQ.out; omega⟩, HD⟩
       | false =>
        clear HT
        have HI2 := Aside0.mk (show a + 1 ≤ i ∧ i ≤ b ∧ i ≤ j + 2 ∧ a ≤ j ∧ j ≤ b - 1 ∧ j + 3 - i ≤ m from HI.out.1)
        clear HI
        have HI := HI2
        clear HI2
        by_cases he : j < i
        ·have hd3 : decide (j < i) = true := decide_eq_true he
         clear he
         go_upto_region 8 with (fail)
         go_cut [79] (fun v wc => Aside0 (SD base g n cap w wc))
         case first =>
          have b0 : (0 ≤ j) = True := eq_true (by have h1_ := HA.out; have h2_ := HI.out; omega)
          have b0u : (j < (n : Int)) = True := eq_true (by have h1_ := HA.out; have h2_ := HI.out; omega)
          have b1 : (0 ≤ a) = True := eq_true (by have h1_ := HA.out; have h2_ := HI.out; omega)
          have b1u : (a < (n : Int)) = True := eq_true (by have h1_ := HA.out; have h2_ := HI.out; omega)
          obtain ⟨u0, hc0, hf0⟩ := HD.out.cell j (of_eq_true b0) (of_eq_true b0u)
          obtain ⟨u1, hc1, hf1⟩ := HD.out.cell a (of_eq_true b1) (of_eq_true b1u)
          obtain ⟨u3, hc3, hf3⟩ := (HD.out.set j u1).cell a (of_eq_true b1) (of_eq_true b1u)
          obtain ⟨u4, hc4, hf4⟩ := (HD.out.set a u0).cell j (of_eq_true b0) (of_eq_true b0u)
          go_wp2
          go_region
          all_goals go_wp2
          go_meet
          exact ⟨by first | exact ((HD.out.set j u1).set a u0).drew | exact ((HD.out.set a u0).set j u1).drew⟩
         case rest =>
          clear HD
          have HD := hcut
          clear hcut
          go_wp2
          go_ret2
          exact ⟨⟨_, ⟨_, rfl⟩, by have h2_ := HI.out; omega, by have h2_ := HI.out; omega⟩, HD.out⟩
        have hd3 : decide (j < i) = false := decide_eq_false he
        have HQ := Aside0.mk he
        clear he
        go_upto_region 10 with (fail)
        go_cut [94] (fun v wc => Aside0 (SD base g n cap w wc))
        case first =>
         have b0 : (0 ≤ i) = True := eq_true (by have h1_ := HA.out; have h2_ := HI.out; have h3_ := HQ.out; omega)
         have b0u : (i < (n : Int)) = True := eq_true (by have h1_ := HA.out; have h2_ := HI.out; have h3_ := HQ.out; omega)
         have b1 : (0 ≤ j) = True := eq_true (by have h1_ := HA.out; have h2_ := HI.out; have h3_ := HQ.out; omega)
         have b1u : (j < (n : Int)) = True := eq_true (by have h1_ := HA.out; have h2_ := HI.out; have h3_ := HQ.out; omega)
         obtain ⟨u0, hc0, hf0⟩ := HD.out.cell i (of_eq_true b0) (of_eq_true b0u)
         obtain ⟨u1, hc1, hf1⟩ := HD.out.cell j (of_eq_true b1) (of_eq_true b1u)
         obtain ⟨u3, hc3, hf3⟩ := (HD.out.set i u1).cell j (of_eq_true b1) (of_eq_true b1u)
         obtain ⟨u4, hc4, hf4⟩ := (HD.out.set j u0).cell i (of_eq_true b0) (of_eq_true b0u)
         go_wp2
         go_region
         all_goals go_wp2
         go_meet
         exact ⟨by first | exact ((HD.out.set i u1).set j u0).drew | exact ((HD.out.set j u0).set i u1).drew⟩
        case rest =>
         clear HD
         have HD := hcut
         clear hcut
         have z0 : IntKind.i64.wrap (i + 1) = i + 1 := by rw [i64_w]; exact wrap_in _ (by have h1_ := HA.out; have h2_ := HI.out; have h3_ := HQ.out; omega) (by have h1_ := HA.out; have h2_ := HI.out; have h3_ := HQ.out; omega)
         have zw0 : wrap64 (i + 1) = i + 1 := wrap_in _ (by have h1_ := HA.out; have h2_ := HI.out; have h3_ := HQ.out; omega) (by have h1_ := HA.out; have h2_ := HI.out; have h3_ := HQ.out; omega)
         have z1 : IntKind.i64.wrap (j - 1) = j - 1 := by rw [i64_w]; exact wrap_in _ (by have h1_ := HA.out; have h2_ := HI.out; have h3_ := HQ.out; omega) (by have h1_ := HA.out; have h2_ := HI.out; have h3_ := HQ.out; omega)
         have zw1 : wrap64 (j - 1) = j - 1 := wrap_in _ (by have h1_ := HA.out; have h2_ := HI.out; have h3_ := HQ.out; omega) (by have h1_ := HA.out; have h2_ := HI.out; have h3_ := HQ.out; omega)
         obtain ⟨i2, hi⟩ : ∃ i2, i2 = i + 1 := ⟨_, rfl⟩
         obtain ⟨j2, hj⟩ : ∃ j2, j2 = j - 1 := ⟨_, rfl⟩
         have HI2 := Aside0.mk (show a + 1 ≤ i2 ∧ i2 ≤ b ∧ i2 ≤ j2 + 2 ∧ a ≤ j2 ∧ j2 ≤ b - 1 by have h1_ := HA.out; have h2_ := HI.out; have h3_ := HQ.out; omega)
         have hi2 : i + 1 = i2 := hi.symm
         have hj2 : j - 1 = j2 := hj.symm
         replace z0 := z0.trans hi2
         replace zw0 := zw0.trans hi2
         replace z1 := z1.trans hj2
         replace zw1 := zw1.trans hj2
         clear hi hj hi2 hj2 HI HQ hd3
         go_wp2
         go_loopg [10, 11] 2000000 (fun gg si sj wr => ∃ i j : Int, si = .int .i64 i ∧ sj = .int .i64 j ∧ Aside0 ((a + 1 ≤ i ∧ i ≤ b ∧ i ≤ j + 2 ∧ a ≤ j ∧ j ≤ b - 1) ∧ j + 3 - i < gg) ∧ Aside0 (SD base g n cap w wr))
         case atStart => exact ⟨_, _, rfl, rfl, ⟨by have h1_ := HA.out; have h2_ := HI2.out; omega⟩, HD⟩
         case round =>
          clear HD HI2 z0 zw0 z1 zw1
          obtain ⟨i, j, rfl, rfl, HI1, HD⟩ := hrel
          obtain ⟨m, hm⟩ : ∃ m, m = j + 3 - i := ⟨_, rfl⟩
          have HM := Aside0.mk (show m < gk by have h1_ := HI1.out; omega)
          have HI := Aside0.mk (show a + 1 ≤ i ∧ i ≤ b ∧ i ≤ j + 2 ∧ a ≤ j ∧ j ≤ b - 1 ∧ j + 3 - i ≤ m by have h1_ := HI1.out; omega)
          clear hm HI1
          go_wp2
          go_loopg [10] 2000000 (fun hh si wr => ∃ i : Int, si = .int .i64 i ∧ Aside0 ((a + 1 ≤ i ∧ i ≤ b ∧ i ≤ j + 2 ∧ a ≤ j ∧ j ≤ b - 1 ∧ j + 3 - i ≤ m) ∧ j + 3 - i < hh) ∧ Aside0 (SD base g n cap w wr))
          case atStart => exact ⟨_, rfl, ⟨by have h1_ := HA.out; have h2_ := HI.out; omega⟩, HD⟩
          case round =>
           clear HD HI
           obtain ⟨i, rfl, HI, HD⟩ := hrel
           go_upto_region 13 with (fail)
           go_cut [112] (fun v wc => ∃ bb : Bool, v = .bool bb ∧ Aside0 (bb = true → i ≤ j) ∧ Aside0 (SD base g n cap w wc))
           case first =>
            by_cases hq : i ≤ j
            rotate_left
            ·have hd2 : decide (i ≤ j) = false := decide_eq_false hq
             clear hq
             go_quiet (fail)
             go_wp2
             go_meet
             exact ⟨false, rfl, ⟨fun h => by cases h⟩, ⟨HD.out.drewN _⟩⟩
            have hd2 : decide (i ≤ j) = true := decide_eq_true hq
            have HQ := Aside0.mk hq
            clear hq
            have b0 : (0 ≤ i) = True := eq_true (by have h1_ := HA.out; have h2_ := HI.out; have hq_ := HQ.out; omega)
            have b0u : (i < (n : Int)) = True := eq_true (by have h1_ := HA.out; have h2_ := HI.out; have hq_ := HQ.out; omega)
            have b1 : (0 ≤ a) = True := eq_true (by have h1_ := HA.out; have h2_ := HI.out; have hq_ := HQ.out; omega)
            have b1u : (a < (n : Int)) = True := eq_true (by have h1_ := HA.out; have h2_ := HI.out; have hq_ := HQ.out; omega)
            obtain ⟨u0, hc0, hf0⟩ := HD.out.cell i (of_eq_true b0) (of_eq_true b0u)
            obtain ⟨u1, hc1, hf1⟩ := HD.out.cell a (of_eq_true b1) (of_eq_true b1u)
            go_quiet ((go_at_call 136; exact Calls.quiet_of_same (less_c _ _ _)))
            go_wp2
            go_meet
            exact ⟨_, rfl, ⟨fun _ => HQ.out⟩, ⟨HD.out.drewN _⟩⟩
           case rest =>
            clear HD
            obtain ⟨bb, rfl, HT, HD⟩ := hcut
            cases bb with
            | true =>
             have HQ := Aside0.mk (HT.out rfl)
             clear HT
             have z0 : IntKind.i64.wrap (i + 1) = i + 1 := by rw [i64_w]; exact wrap_in _ (by have h1_ := HA.out; have h2_ := HI.out; omega) (by have h1_ := HA.out; have h2_ := HI.out; omega)
             have zw0 : wrap64 (i + 1) = i + 1 := wrap_in _ (by have h1_ := HA.out; have h2_ := HI.out; omega) (by have h1_ := HA.out; have h2_ := HI.out; omega)
             go_wp2
             go_roundg (j + 3 - i).toNat
             case measure => have h2_ := HI.out; have h3_ := HQ.out; omega
             case rel => exact ⟨i + 1, rfl, ⟨by have h2_ := HI.out; have h3_ := HQ.out; omega⟩, HD⟩
            | false =>
             clear HT
             have HI2 := Aside0.mk (show a + 1 ≤ i ∧ i ≤ b ∧ i ≤ j + 2 ∧ a ≤ j ∧ j ≤ b - 1 ∧ j + 3 - i ≤ m from HI.out.1)
             clear HI
             have HI := HI2
             clear HI2
             go_wp2
             go_loopg [11] 2000000 (fun hh sj wr => ∃ j : Int, sj = .int .i64 j ∧ Aside0 ((a + 1 ≤ i ∧ i ≤ b ∧ i ≤ j + 2 ∧ a ≤ j ∧ j ≤ b - 1 ∧ j + 3 - i ≤ m) ∧ j + 3 - i < hh) ∧ Aside0 (SD base g n cap w wr))
             case atStart => exact ⟨_, rfl, ⟨by have h1_ := HA.out; have h2_ := HI.out; omega⟩, HD⟩
             case round =>
              clear HD HI
              obtain ⟨j, rfl, HI, HD⟩ := hrel
              go_upto_region 15 with (fail)
              go_cut [129] (fun v wc => ∃ bb : Bool, v = .bool bb ∧ Aside0 (bb = true → i ≤ j) ∧ Aside0 (SD base g n cap w wc))
              case first =>
               by_cases hq : i ≤ j
               rotate_left
               ·have hd2 : decide (i ≤ j) = false := decide_eq_false hq
                clear hq
                go_quiet (fail)
                go_wp2
                go_meet
                exact ⟨false, rfl, ⟨fun h => by cases h⟩, ⟨HD.out.drewN _⟩⟩
               have hd2 : decide (i ≤ j) = true := decide_eq_true hq
               have HQ := Aside0.mk hq
               clear hq
               have b0 : (0 ≤ j) = True := eq_true (by have h1_ := HA.out; have h2_ := HI.out; have hq_ := HQ.out; omega)
               have b0u : (j < (n : Int)) = True := eq_true (by have h1_ := HA.out; have h2_ := HI.out; have hq_ := HQ.out; omega)
               have b1 : (0 ≤ a) = True := eq_true (by have h1_ := HA.out; have h2_ := HI.out; have hq_ := HQ.out; omega)
               have b1u : (a < (n : Int)) = True := eq_true (by have h1_ := HA.out; have h2_ := HI.out; have hq_ := HQ.out; omega)
               obtain ⟨u0, hc0, hf0⟩ := HD.out.cell j (of_eq_true b0) (of_eq_true b0u)
               obtain ⟨u1, hc1, hf1⟩ := HD.out.cell a (of_eq_true b1) (of_eq_true b1u)
               go_quiet ((go_at_call 136; exact Calls.quiet_of_same (less_c _ _ _)))
               go_wp2
               go_meet
               exact ⟨_, rfl, ⟨fun _ => HQ.out⟩, ⟨HD.out.drewN _⟩⟩
              case rest =>
               clear HD
               obtain ⟨bb, rfl, HT, HD⟩ := hcut
               cases bb with
               | true =>
                have HQ := Aside0.mk (HT.out rfl)
                clear HT
                have z0 : IntKind.i64.wrap (j - 1) = j - 1 := by rw [i64_w]; exact wrap_in _ (by have h1_ := HA.out; have h2_ := HI.out; omega) (by have h1_ := HA.out; have h2_ := HI.out; omega)
                have zw0 : wrap64 (j - 1) = j - 1 := wrap_in _ (by have h1_ := HA.out; have h2_ := HI.out; omega) (by have h1_ := HA.out; have h2_ := HI.out; omega)
                go_wp2
                go_roundg (j + 3 - i).toNat
                case measure => have h2_ := HI.out; have h3_ := HQ.out; omega
                case rel => exact ⟨j - 1, rfl, ⟨by have h2_ := HI.out; have h3_ := HQ.out; omega⟩, HD⟩
               | false =>
                clear HT
                have HI2 := Aside0.mk (show a + 1 ≤ i ∧ i ≤ b ∧ i ≤ j + 2 ∧ a ≤ j ∧ j ≤ b - 1 ∧ j + 3 - i ≤ m from HI.out.1)
                clear HI
                have HI := HI2
                clear HI2
                by_cases he : j < i
                ·have hd3 : decide (j < i) = true := decide_eq_true he
                 clear he
                 go_upto_region 21 with (fail)
                 go_cut [166] (fun v wc => Aside0 (SD base g n cap w wc))
                 case first =>
                  have b0 : (0 ≤ j) = True := eq_true (by have h1_ := HA.out; have h2_ := HI.out; omega)
                  have b0u : (j < (n : Int)) = True := eq_true (by have h1_ := HA.out; have h2_ := HI.out; omega)
                  have b1 : (0 ≤ a) = True := eq_true (by have h1_ := HA.out; have h2_ := HI.out; omega)
                  have b1u : (a < (n : Int)) = True := eq_true (by have h1_ := HA.out; have h2_ := HI.out; omega)
                  obtain ⟨u0, hc0, hf0⟩ := HD.out.cell j (of_eq_true b0) (of_eq_true b0u)
                  obtain ⟨u1, hc1, hf1⟩ := HD.out.cell a (of_eq_true b1) (of_eq_true b1u)
                  obtain ⟨u3, hc3, hf3⟩ := (HD.out.set j u1).cell a (of_eq_true b1) (of_eq_true b1u)
                  obtain ⟨u4, hc4, hf4⟩ := (HD.out.set a u0).cell j (of_eq_true b0) (of_eq_true b0u)
                  go_wp2
                  go_region
                  all_goals go_wp2
                  go_meet
                  exact ⟨by first | exact ((HD.out.set j u1).set a u0).drew | exact ((HD.out.set a u0).set j u1).drew⟩
                 case rest =>
                  clear HD
                  have HD := hcut
                  clear hcut
                  go_wp2
                  go_ret2
                  exact ⟨⟨_, ⟨_, rfl⟩, by have h2_ := HI.out; omega, by have h2_ := HI.out; omega⟩, HD.out⟩
                have hd3 : decide (j < i) = false := decide_eq_false he
                have HQ := Aside0.mk he
                clear he
                go_upto_region 18 with (fail)
                go_cut [148] (fun v wc => Aside0 (SD base g n cap w wc))
                case first =>
                 have b0 : (0 ≤ i) = True := eq_true (by have h1_ := HA.out; have h2_ := HI.out; have h3_ := HQ.out; omega)
                 have b0u : (i < (n : Int)) = True := eq_true (by have h1_ := HA.out; have h2_ := HI.out; have h3_ := HQ.out; omega)
                 have b1 : (0 ≤ j) = True := eq_true (by have h1_ := HA.out; have h2_ := HI.out; have h3_ := HQ.out; omega)
                 have b1u : (j < (n : Int)) = True := eq_true (by have h1_ := HA.out; have h2_ := HI.out; have h3_ := HQ.out; omega)
                 obtain ⟨u0, hc0, hf0⟩ := HD.out.cell i (of_eq_true b0) (of_eq_true b0u)
                 obtain ⟨u1, hc1, hf1⟩ := HD.out.cell j (of_eq_true b1) (of_eq_true b1u)
                 obtain ⟨u3, hc3, hf3⟩ := (HD.out.set i u1).cell j (of_eq_true b1) (of_eq_true b1u)
                 obtain ⟨u4, hc4, hf4⟩ := (HD.out.set j u0).cell i (of_eq_true b0) (of_eq_true b0u)
                 go_wp2
                 go_region
                 all_goals go_wp2
                 go_meet
                 exact ⟨by first | exact ((HD.out.set i u1).set j u0).drew | exact ((HD.out.set j u0).set i u1).drew⟩
                case rest =>
                 clear HD
                 have HD := hcut
                 clear hcut
                 have z0 : IntKind.i64.wrap (i + 1) = i + 1 := by rw [i64_w]; exact wrap_in _ (by have h1_ := HA.out; have h2_ := HI.out; have h3_ := HQ.out; omega) (by have h1_ := HA.out; have h2_ := HI.out; have h3_ := HQ.out; omega)
                 have zw0 : wrap64 (i + 1) = i + 1 := wrap_in _ (by have h1_ := HA.out; have h2_ := HI.out; have h3_ := HQ.out; omega) (by have h1_ := HA.out; have h2_ := HI.out; have h3_ := HQ.out; omega)
                 have z1 : IntKind.i64.wrap (j - 1) = j - 1 := by rw [i64_w]; exact wrap_in _ (by have h1_ := HA.out; have h2_ := HI.out; have h3_ := HQ.out; omega) (by have h1_ := HA.out; have h2_ := HI.out; have h3_ := HQ.out; omega)
                 have zw1 : wrap64 (j - 1) = j - 1 := wrap_in _ (by have h1_ := HA.out; have h2_ := HI.out; have h3_ := HQ.out; omega) (by have h1_ := HA.out; have h2_ := HI.out; have h3_ := HQ.out; omega)
                 go_wp2
                 go_roundg (j + 2 - i).toNat
                 case measure => have h1_ := HM.out; have h3_ := HI.out; have h4_ := HQ.out; omega
                 case rel => exact ⟨i + 1, j - 1, rfl, rfl, ⟨by have h3_ := HI.out; have h4_ := HQ.out; omega⟩, HD⟩
end Go.Proofs.Ytbfialebaoeicaa.X
