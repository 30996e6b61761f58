/- Part 13 of the proof of the statement ShapeCopies: the words of the walks, the walks through the functions that it reaches, and the plain laws of what they compute. -/
import Derived.Test.YtbfialebaoeicaaMShapeCopies11
import Derived.RegionTactic
import Derived.ChangeAlike
import Derived.Deep.QuietTactic
import Derived.BigQuiet
namespace Go.Proofs.Ytbfialebaoeicaa.X
open Go.RowKit Go.Proofs.YtbfialebaoeicaaW.PrintWords Go.Proofs.YtbfialebaoeicaaW.PrintLast Go.Proofs.YtbfialebaoeicaaW.PrintMore
set_option linter.all false
set_option maxHeartbeats 16000000 in
set_option maxRecDepth 100000 in
theorem pdq12_c (base g n cap : Nat) (a b l : Int) (w : World) (xs : List Int) (h : RU w base g n cap xs) (h0 : 0 ≤ a) (h1 : a ≤ b) (h2 : b ≤ n) (hn : n ≤ 1000000) (hl : b - a ≤ 12) :
  Calls Try.prog 127 #[.slice (some ⟨g, 0, none⟩) n cap, .int .i64 a, .int .i64 b, .int .i64 l] w fun e w' => e = .returned (.tuple #[]) ∧ ∃ ys, RP base g n cap w w' xs ys ∧ SRT ys a b := by
 have HR := Aside0.mk h
 have HA := Aside0.mk (show 0 ≤ a ∧ a ≤ b ∧ b ≤ n ∧ (n : Int) ≤ 1000000 from ⟨h0, h1, h2, by omega⟩)
 have q1 : decide (b - a ≤ 12) = true := decide_eq_true hl
 clear h h0 h1 h2 hn hl
 have s0 : IntKind.i64.wrap (b - a) = b - a := by rw [i64_w]; exact wrap_in _ (by have h1_ := HA.out; omega) (by have h1_ := HA.out; omega)
 have sw0 : wrap64 (b - a) = b - a := wrap_in _ (by have h1_ := HA.out; omega) (by have h1_ := HA.out; omega)
 go_enter Try.func127, Try.ntmps127
 go_wp2
 go_loopg [1, 2, 3, 8, 9] 2000000 (fun gg s1 s2 s3 s8 s9 wr => s1 = .int .i64 a ∧ s2 = .int .i64 b ∧ s3 = .int .i64 l ∧ s8 = .bool true ∧ s9 = .bool true ∧ wr = w)
 case atStart => exact ⟨rfl, rfl, rfl, rfl, rfl, rfl⟩
 case round =>
  obtain ⟨rfl, rfl, rfl, rfl, rfl, hw⟩ := hrel
  subst hw
  go_wp2_with (go_at_call 130; (with_reducible refine (ins_sort base g n cap a b _ xs HR.out (by have h1_ := HA.out; omega) (by have h1_ := HA.out; omega) (by have h1_ := HA.out; omega) (by have h1_ := HA.out; omega)).mono ?_); rintro e w6 ⟨rfl, hys⟩; (have HY := Aside0.mk hys; clear hys))
  go_wp2
  first | go_end0 | ((try simp only [Exit.inBlock, Exit.then]); refine bodyPost_ret (results_none rfl _ _ _) rfl ?_)
  exact ⟨rfl, HY.out⟩
set_option maxHeartbeats 16000000 in
set_option maxRecDepth 100000 in
theorem pdq_c (base g n cap : Nat) (hn : n ≤ 999999) : ∀ (N : Nat) (a b l : Int) (w : World) (xs : List Int) (h : RU w base g n cap xs) (h0 : 0 ≤ a) (h1 : a ≤ b) (h2 : b ≤ n) (hl : 0 ≤ l) (hl2 : l ≤ 64) (h5 : b - a < 50) (hN : b - a ≤ N),
  Calls Try.prog 127 #[.slice (some ⟨g, 0, none⟩) n cap, .int .i64 a, .int .i64 b, .int .i64 l] w fun e w' => e = .returned (.tuple #[]) ∧ SD base g n cap w w' := by
 intro N
 induction N using Nat.strongRecOn with
 | ind N ih =>
  intro a0 b0 l0 w xs h h0 h1 h2 hl hl2 h5 hN
  have IH := Aside0.mk ih
  clear ih
  have HD := Aside0.mk (SD.refl h)
  have HS := Aside0.mk (show (0 ≤ a0 ∧ a0 ≤ b0 ∧ b0 ≤ n ∧ b0 - a0 < 50 ∧ b0 - a0 ≤ N) ∧ 0 ≤ l0 ∧ l0 ≤ 64 from ⟨⟨h0, h1, h2, h5, hN⟩, hl, hl2⟩)
  have HN := Aside0.mk (show (n : Int) ≤ 999999 by omega)
  clear h h0 h1 h2 hl hl2 h5 hN hn
  go_enter Try.func127, Try.ntmps127
  go_wp2
  go_loopg [1, 2, 3, 8, 9] 2000000 (fun gg s1 s2 s3 s8 s9 wr => ∃ (a b l : Int) (q8 q9 : Bool), s1 = .int .i64 a ∧ s2 = .int .i64 b ∧ s3 = .int .i64 l ∧ s8 = .bool q8 ∧ s9 = .bool q9 ∧ Aside0 ((0 ≤ a ∧ a ≤ b ∧ b ≤ n ∧ b - a < 50 ∧ b - a ≤ N) ∧ (0 ≤ l ∧ l ≤ 64) ∧ b - a < gg) ∧ Aside0 (SD base g n cap w wr))
  case atStart => exact ⟨_, _, _, _, _, rfl, rfl, rfl, rfl, rfl, ⟨by have h1_ := HS.out; omega⟩, HD⟩
  case round =>
   clear HD HS
   obtain ⟨a, b, l, q8, q9, rfl, rfl, rfl, rfl, rfl, HA, HD⟩ := hrel
   have s0 : IntKind.i64.wrap (b - a) = b - a := by rw [i64_w]; exact wrap_in _ (by have h1_ := HA.out; have h2_ := HN.out; omega) (by have h1_ := HA.out; have h2_ := HN.out; omega)
   have sw0 : wrap64 (b - a) = b - a := wrap_in _ (by have h1_ := HA.out; have h2_ := HN.out; omega) (by have h1_ := HA.out; have h2_ := HN.out; omega)
   by_cases h12 : b - a ≤ 12
   ·have q1 : decide (b - a ≤ 12) = true := decide_eq_true h12
    clear h12
    obtain ⟨xs1, hxs1⟩ := HD.out.1
    have HXS := Aside0.mk hxs1
    clear hxs1
    go_wp2_with (go_at_call 130; (with_reducible refine (ins_sort base g n cap a b _ xs1 HXS.out (by have h1_ := HA.out; have h2_ := HN.out; omega) (by have h1_ := HA.out; have h2_ := HN.out; omega) (by have h1_ := HA.out; have h2_ := HN.out; omega) (by have h1_ := HA.out; have h2_ := HN.out; omega)).mono ?_); rintro e w6 ⟨rfl, ys, hys, _⟩; (have HW := Aside0.mk (SD.trans HD.out hys.SD); clear hys))
    go_wp2
    first | go_end0 | ((try simp only [Exit.inBlock, Exit.then]); refine bodyPost_ret (results_none rfl _ _ _) rfl ?_)
    exact ⟨rfl, HW.out⟩
   have q1 : decide (b - a ≤ 12) = false := decide_eq_false h12
   have HG := Aside0.mk (show 12 < b - a by omega)
   clear h12
   cases hl : (l == 0) with
   | true =>
    obtain ⟨xs1, hxs1⟩ := HD.out.1
    have HXS := Aside0.mk hxs1
    clear hxs1
    go_wp2_with (go_at_call 131; (with_reducible refine (heap_c base g n cap a b _ xs1 HXS.out (by have h1_ := HA.out; have h2_ := HN.out; omega) (by have h1_ := HA.out; have h2_ := HN.out; omega) (by have h1_ := HA.out; have h2_ := HN.out; omega) (by have h1_ := HA.out; have h2_ := HN.out; omega) ).mono ?_); rintro e w6 ⟨rfl, hsd⟩; (have HW := Aside0.mk (SD.trans HD.out hsd); clear hsd))
    go_wp2
    first | go_end0 | ((try simp only [Exit.inBlock, Exit.then]); refine bodyPost_ret (results_none rfl _ _ _) rfl ?_)
    exact ⟨rfl, HW.out⟩
   | false =>
    have HL := Aside0.mk (show 1 ≤ l by have h1_ := HA.out; rcases (by omega : l = 0 ∨ 1 ≤ l) with e | e; (rw [e] at hl; cases hl); exact e)
    go_upto_if 35 with (fail)
    go_cut [3] (fun v3 wc => ∃ l' : Int, v3 = .int .i64 l' ∧ Aside0 (0 ≤ l' ∧ l' ≤ 64) ∧ Aside0 (SD base g n cap w wc))
    case first =>
     cases q8 with
     | true =>
      go_wp2
      go_meet
      exact ⟨_, rfl, ⟨HA.out.2.1⟩, HD⟩
     | false =>
      have t0 : IntKind.i64.wrap (l - 1) = l - 1 := by rw [i64_w]; exact wrap_in _ (by have h1_ := HA.out; omega) (by have h1_ := HA.out; omega)
      have tw0 : wrap64 (l - 1) = l - 1 := wrap_in _ (by have h1_ := HA.out; omega) (by have h1_ := HA.out; omega)
      obtain ⟨xs1, hxs1⟩ := HD.out.1
      have HXS := Aside0.mk hxs1
      clear hxs1
      go_wp2_with (go_at_call 132; (with_reducible refine (brk_c base g n cap a b _ xs1 HXS.out (by have h1_ := HA.out; have h2_ := HN.out; omega) (by have h1_ := HA.out; have h2_ := HN.out; omega) (by have h1_ := HA.out; have h2_ := HN.out; omega) (by have h1_ := HA.out; have h2_ := HN.out; omega) ).mono ?_); rintro e w6 ⟨rfl, hsd⟩; (have HW := Aside0.mk (SD.trans HD.out hsd); clear hsd))
      go_wp2
      go_meet
      exact ⟨_, rfl, ⟨by have h1_ := HA.out; have h2_ := HL.out; omega⟩, HW⟩
    case rest =>
     clear HD hl
     obtain ⟨l', rfl, HL', HD⟩ := hcut
     go_upto_region 10 with (fail)
     go_cut [11, 12] (fun v11 v12 wc => ∃ r k : Int, v11 = .int .i64 r ∧ v12 = .int .i64 k ∧ Aside0 (a ≤ r ∧ r < b) ∧ Aside0 (SD base g n cap w wc))
     case first =>
      obtain ⟨xs1, hxs1⟩ := HD.out.1
      have HXS := Aside0.mk hxs1
      clear hxs1
      go_wp2_with (go_at_call 133; (with_reducible refine (cho_c base g n cap a b _ xs1 HXS.out (by have h1_ := HA.out; have h2_ := HN.out; omega) (by have h1_ := HA.out; have h2_ := HN.out; have h3_ := HG.out; omega) (by have h1_ := HA.out; have h2_ := HN.out; omega) (by have h1_ := HA.out; have h2_ := HN.out; omega) (by have h1_ := HA.out; have h2_ := HN.out; omega)).mono ?_); rintro e w6 ⟨⟨r, ⟨k, rfl⟩, hr1, hr2⟩, hgr⟩; have HRR := Aside0.mk (show a ≤ r ∧ r < b from ⟨hr1, hr2⟩); have HW := Aside0.mk (SD.trans HD.out ⟨⟨_, RU.grown HXS.out hgr⟩, grown_some hgr⟩); clear hr1 hr2 hgr)
      go_wp2
      go_meet
      exact ⟨_, _, rfl, rfl, HRR, HW⟩
     case rest =>
      clear HD
      obtain ⟨r, k, rfl, rfl, HRR, HD⟩ := hcut
      go_upto_if 50 with (fail)
      go_cut [11, 12] (fun v11 v12 wc => ∃ r k : Int, v11 = .int .i64 r ∧ v12 = .int .i64 k ∧ Aside0 (a ≤ r ∧ r < b) ∧ Aside0 (SD base g n cap w wc))
      case first =>
       cases hk : (k == 2) with
       | false =>
        go_wp2
        go_meet
        exact ⟨_, _, rfl, rfl, HRR, HD⟩
       | true =>
        have t0 : IntKind.i64.wrap (b - 1) = b - 1 := by rw [i64_w]; exact wrap_in _ (by have h1_ := HA.out; have h2_ := HN.out; have h3_ := HRR.out; omega) (by have h1_ := HA.out; have h2_ := HN.out; have h3_ := HRR.out; omega)
        have tw0 : wrap64 (b - 1) = b - 1 := wrap_in _ (by have h1_ := HA.out; have h2_ := HN.out; have h3_ := HRR.out; omega) (by have h1_ := HA.out; have h2_ := HN.out; have h3_ := HRR.out; omega)
        have t1 : IntKind.i64.wrap (r - a) = r - a := by rw [i64_w]; exact wrap_in _ (by have h1_ := HA.out; have h2_ := HN.out; have h3_ := HRR.out; omega) (by have h1_ := HA.out; have h2_ := HN.out; have h3_ := HRR.out; omega)
        have tw1 : wrap64 (r - a) = r - a := wrap_in _ (by have h1_ := HA.out; have h2_ := HN.out; have h3_ := HRR.out; omega) (by have h1_ := HA.out; have h2_ := HN.out; have h3_ := HRR.out; omega)
        have t2 : IntKind.i64.wrap (b - 1 - (r - a)) = b - 1 - (r - a) := by rw [i64_w]; exact wrap_in _ (by have h1_ := HA.out; have h2_ := HN.out; have h3_ := HRR.out; omega) (by have h1_ := HA.out; have h2_ := HN.out; have h3_ := HRR.out; omega)
        have tw2 : wrap64 (b - 1 - (r - a)) = b - 1 - (r - a) := wrap_in _ (by have h1_ := HA.out; have h2_ := HN.out; have h3_ := HRR.out; omega) (by have h1_ := HA.out; have h2_ := HN.out; have h3_ := HRR.out; omega)
        obtain ⟨xs1, hxs1⟩ := HD.out.1
        have HXS := Aside0.mk hxs1
        clear hxs1
        go_wp2_with (go_at_call 134; (with_reducible refine (rev_c base g n cap a b _ xs1 HXS.out (by have h1_ := HA.out; have h2_ := HN.out; omega) (by have h1_ := HA.out; have h2_ := HN.out; omega) (by have h1_ := HA.out; have h2_ := HN.out; omega) (by have h1_ := HA.out; have h2_ := HN.out; omega) ).mono ?_); rintro e w6 ⟨rfl, hsd⟩; (have HW := Aside0.mk (SD.trans HD.out hsd); clear hsd))
        go_wp2
        go_meet
        exact ⟨_, _, rfl, rfl, ⟨by have h1_ := HA.out; have h2_ := HN.out; have h3_ := HRR.out; omega⟩, HW⟩
      case rest =>
       clear HD HRR
       obtain ⟨r, k, rfl, rfl, HRR, HD⟩ := hcut
       go_upto_region 15 with (fail)
       go_cut [68] (fun v wc => ∃ bb : Bool, v = .bool bb ∧ Aside0 (SD base g n cap w wc))
       case first =>
        cases q8 <;> cases q9 <;> cases hk : (k == 1) <;> go_wp2
        all_goals go_meet
        all_goals exact ⟨_, rfl, HD⟩
       case rest =>
        clear HD
        obtain ⟨bb, rfl, HD⟩ := hcut
        go_upto_if 68 with (fail)
        go_cut [11] (fun v wc => v = .int .i64 r ∧ Aside0 (SD base g n cap w wc))
        case first =>
         cases bb with
         | false =>
          go_wp2
          go_meet
          exact ⟨rfl, HD⟩
         | true =>
          obtain ⟨xs1, hxs1⟩ := HD.out.1
          have HXS := Aside0.mk hxs1
          clear hxs1
          go_wp2_with (go_at_call 135; (with_reducible refine (par_c base g n cap a b _ xs1 HXS.out (by have h1_ := HA.out; have h2_ := HN.out; have h3_ := HG.out; omega) (by have h1_ := HA.out; have h2_ := HN.out; have h3_ := HG.out; omega) (by have h1_ := HA.out; have h2_ := HN.out; have h3_ := HG.out; omega) (by have h1_ := HA.out; have h2_ := HN.out; have h3_ := HG.out; omega) (by have h1_ := HA.out; have h2_ := HN.out; have h3_ := HG.out; omega) ).mono ?_); rintro e w6 ⟨⟨bq, rfl⟩, hsd⟩; (have HW := Aside0.mk (SD.trans HD.out hsd); clear hsd))
          all_goals (try go_wp2)
          all_goals first | (go_meet; exact ⟨rfl, HW⟩) | ((first | go_end0 | ((try simp only [Exit.inBlock, Exit.then]); refine bodyPost_ret (results_none rfl _ _ _) rfl ?_)); exact ⟨rfl, HW.out⟩)
        case rest =>
         clear HD
         obtain ⟨rfl, HD⟩ := hcut
         go_upto_region 17 with (fail)
         go_cut [87] (fun v wc => ∃ bb : Bool, v = .bool bb ∧ Aside0 (SD base g n cap w wc))
         case first =>
          by_cases hq : 0 < a
          rotate_left
          ·have hd2 : decide (0 < a) = false := decide_eq_false hq
           clear hq
           go_quiet (fail)
           go_wp2
           go_meet
           exact ⟨_, rfl, ⟨HD.out.drewN _⟩⟩
          have hd2 : decide (0 < a) = true := decide_eq_true hq
          have HQ := Aside0.mk hq
          clear hq
          have y0 : IntKind.i64.wrap (a - 1) = a - 1 := by rw [i64_w]; exact wrap_in _ (by have h1_ := HA.out; have h2_ := HN.out; omega) (by have h1_ := HA.out; have h2_ := HN.out; omega)
          have yw0 : wrap64 (a - 1) = a - 1 := wrap_in _ (by have h1_ := HA.out; have h2_ := HN.out; omega) (by have h1_ := HA.out; have h2_ := HN.out; omega)
          obtain ⟨c, hc⟩ : ∃ c, c = a - 1 := ⟨_, rfl⟩
          have b0 : (0 ≤ c) = True := eq_true (by have h3_ := HQ.out; omega)
          have b0u : (c < (n : Int)) = True := eq_true (by have h1_ := HA.out; have h2_ := HN.out; omega)
          have hcc : a - 1 = c := hc.symm
          replace y0 := y0.trans hcc
          replace yw0 := yw0.trans hcc
          clear hc hcc
          have b1 : (0 ≤ r) = True := eq_true (by have h1_ := HA.out; have h2_ := HN.out; have h3_ := HRR.out; omega)
          have b1u : (r < (n : Int)) = True := eq_true (by have h1_ := HA.out; have h2_ := HN.out; have h3_ := HRR.out; omega)
          obtain ⟨u0, hc0, hf0⟩ := HD.out.cell c (of_eq_true b0) (of_eq_true b0u)
          obtain ⟨u1, hc1, hf1⟩ := HD.out.cell r (of_eq_true b1) (of_eq_true b1u)
          go_quiet ((go_at_call 136; exact Calls.quiet_of_same (less_c _ _ _)))
          go_wp2
          go_meet
          exact ⟨_, rfl, ⟨HD.out.drewN _⟩⟩
         case rest =>
          clear HD
          obtain ⟨bb, rfl, HD⟩ := hcut
          cases bb with
          | true =>
           obtain ⟨xs1, hxs1⟩ := HD.out.1
           have HXS := Aside0.mk hxs1
           clear hxs1
           go_wp2_with (go_at_call 137; (with_reducible refine (peq_c base g n cap a b r _ xs1 HXS.out (by have h1_ := HA.out; have h2_ := HN.out; omega) (by have h1_ := HA.out; have h2_ := HN.out; have h3_ := HG.out; omega) (by have h1_ := HA.out; have h2_ := HN.out; omega) (by have h3_ := HRR.out; omega) (by have h3_ := HRR.out; omega) (by have h1_ := HA.out; have h2_ := HN.out; omega)).mono ?_); rintro e w6 ⟨⟨m, rfl, hm1, hm2⟩, hsd⟩; have HM := Aside0.mk (show a < m ∧ m ≤ b from ⟨hm1, hm2⟩); have HW := Aside0.mk (SD.trans HD.out hsd); clear hm1 hm2 hsd)
           go_wp2
           go_roundg (b - a).toNat
           case measure => have h1_ := HA.out; omega
           case rel => exact ⟨m, b, l', q8, q9, rfl, rfl, rfl, rfl, rfl, ⟨by have h1_ := HA.out; have h2_ := HM.out; have h3_ := HL'.out; omega⟩, HW⟩
          | false =>
           go_upto_region 20 with (fail)
           go_cut [14, 15] (fun v14 v15 wc => ∃ (m : Int) (q : Bool), v14 = .int .i64 m ∧ v15 = .bool q ∧ Aside0 (a ≤ m ∧ m < b) ∧ Aside0 (SD base g n cap w wc))
           case first =>
            obtain ⟨xs1, hxs1⟩ := HD.out.1
            have HXS := Aside0.mk hxs1
            clear hxs1
            go_wp2_with (go_at_call 138; (with_reducible refine (prt_c base g n cap a b r _ xs1 HXS.out (by have h1_ := HA.out; have h2_ := HN.out; omega) (by have h1_ := HA.out; have h2_ := HN.out; have h3_ := HG.out; omega) (by have h1_ := HA.out; have h2_ := HN.out; omega) (by have h3_ := HRR.out; omega) (by have h3_ := HRR.out; omega) (by have h1_ := HA.out; have h2_ := HN.out; omega)).mono ?_); rintro e w6 ⟨⟨m, ⟨q, rfl⟩, hm1, hm2⟩, hsd⟩; have HM := Aside0.mk (show a ≤ m ∧ m < b from ⟨hm1, hm2⟩); have HW := Aside0.mk (SD.trans HD.out hsd); clear hm1 hm2 hsd)
            go_wp2
            go_meet
            exact ⟨_, _, rfl, rfl, HM, HW⟩
           case rest =>
            clear HD
            obtain ⟨m, q, rfl, rfl, HM, HD⟩ := hcut
            have y0 : IntKind.i64.wrap (m - a) = m - a := by rw [i64_w]; exact wrap_in _ (by have h1_ := HA.out; have h2_ := HN.out; have h3_ := HM.out; omega) (by have h1_ := HA.out; have h2_ := HN.out; have h3_ := HM.out; omega)
            have yw0 : wrap64 (m - a) = m - a := wrap_in _ (by have h1_ := HA.out; have h2_ := HN.out; have h3_ := HM.out; omega) (by have h1_ := HA.out; have h2_ := HN.out; have h3_ := HM.out; omega)
            have y1 : IntKind.i64.wrap (b - m) = b - m := by rw [i64_w]; exact wrap_in _ (by have h1_ := HA.out; have h2_ := HN.out; have h3_ := HM.out; omega) (by have h1_ := HA.out; have h2_ := HN.out; have h3_ := HM.out; omega)
            have yw1 : wrap64 (b - m) = b - m := wrap_in _ (by have h1_ := HA.out; have h2_ := HN.out; have h3_ := HM.out; omega) (by have h1_ := HA.out; have h2_ := HN.out; have h3_ := HM.out; omega)
            have y2 : IntKind.i64.wrap (m + 1) = m + 1 := by rw [i64_w]; exact wrap_in _ (by have h1_ := HA.out; have h2_ := HN.out; have h3_ := HM.out; omega) (by have h1_ := HA.out; have h2_ := HN.out; have h3_ := HM.out; omega)
            have yw2 : wrap64 (m + 1) = m + 1 := wrap_in _ (by have h1_ := HA.out; have h2_ := HN.out; have h3_ := HM.out; omega) (by have h1_ := HA.out; have h2_ := HN.out; have h3_ := HM.out; omega)
            by_cases hlr : m - a < b - m
            ·have hd3 : decide (m - a < b - m) = true := decide_eq_true hlr
             clear hlr
             obtain ⟨xs1, hxs1⟩ := HD.out.1
             have HXS := Aside0.mk hxs1
             clear hxs1
             go_wp2_with (go_at_call 127; (with_reducible refine (IH.out (m - (a)).toNat (by have h1_ := HA.out; have h2_ := HN.out; have h3_ := HM.out; omega) (a) (m) l' _ xs1 HXS.out (by have h1_ := HA.out; have h2_ := HN.out; have h3_ := HM.out; omega) (by have h1_ := HA.out; have h2_ := HN.out; have h3_ := HM.out; omega) (by have h1_ := HA.out; have h2_ := HN.out; have h3_ := HM.out; omega) HL'.out.1 HL'.out.2 (by have h1_ := HA.out; have h2_ := HN.out; have h3_ := HM.out; omega) (by have h1_ := HA.out; have h2_ := HN.out; have h3_ := HM.out; omega)).mono ?_); rintro e w6 ⟨rfl, hsd⟩; (have HW := Aside0.mk (SD.trans HD.out hsd); clear hsd))
             go_wp2
             go_roundg (b - a).toNat
             case measure => have h1_ := HA.out; have h2_ := HM.out; omega
             case rel => exact ⟨m + 1, b, l', _, q, rfl, rfl, rfl, rfl, rfl, ⟨by have h1_ := HA.out; have h2_ := HM.out; have h3_ := HL'.out; omega⟩, HW⟩
            ·have hd3 : decide (m - a < b - m) = false := decide_eq_false hlr
             clear hlr
             obtain ⟨xs1, hxs1⟩ := HD.out.1
             have HXS := Aside0.mk hxs1
             clear hxs1
             go_wp2_with (go_at_call 127; (with_reducible refine (IH.out (b - (m + 1)).toNat (by have h1_ := HA.out; have h2_ := HN.out; have h3_ := HM.out; omega) (m + 1) (b) l' _ xs1 HXS.out (by have h1_ := HA.out; have h2_ := HN.out; have h3_ := HM.out; omega) (by have h1_ := HA.out; have h2_ := HN.out; have h3_ := HM.out; omega) (by have h1_ := HA.out; have h2_ := HN.out; have h3_ := HM.out; omega) HL'.out.1 HL'.out.2 (by have h1_ := HA.out; have h2_ := HN.out; have h3_ := HM.out; omega) (by have h1_ := HA.out; have h2_ := HN.out; have h3_ := HM.out; omega)).mono ?_); rintro e w6 ⟨rfl, hsd⟩; (have HW := Aside0.mk (SD.trans HD.out hsd); clear hsd))
             go_wp2
             go_roundg (b - a).toNat
             case measure => have h1_ := HA.out; have h2_ := HM.out; omega
             case rel => exact ⟨a, m, l', _, q, rfl, rfl, rfl, rfl, rfl, ⟨by have h1_ := HA.out; have h2_ := HM.out; have h3_ := HL'.out; omega⟩, HW⟩
set_option maxHeartbeats 16000000 in
set_option maxRecDepth 100000 in
theorem sort_c (base g n cap : Nat) (w : World) (xs : List Int) (h : RU w base g n cap xs) (hn : n ≤ 49) :
  Calls Try.prog 120 #[.slice (some ⟨g, 0, none⟩) n cap] w fun e w' => e = .returned (.tuple #[]) ∧ SD base g n cap w w' := by
 have HR := Aside0.mk h
 have HN := Aside0.mk hn
 have zc : IntKind.u64.wrap (n : Int) = n := by unfold IntKind.wrap; simp [IntKind.bits, IntKind.signed]; omega
 clear h hn
 go_enter Try.func120, Try.ntmps120
 have hb : Lib.bitLen n ≤ 64 := Lib.bitLen_le n 64 (by omega) (by have := HN.out; omega)
 have HB := Aside0.mk hb
 clear hb
 go_wp2_with first | (go_at_call 128; (with_reducible refine (Try.bits_Len (n : Int) _ (by omega) (by have := HN.out; omega)).mono ?_); rintro e w6 ⟨rfl, rfl⟩; go_simp) | (go_at_call 127; (with_reducible refine (pdq_c base g n cap (by have := HN.out; omega) n 0 n _ _ xs HR.out (by omega) (by omega) (by omega) (by omega) (by have := HB.out; omega) (by have := HN.out; omega) (by omega)).mono ?_); rintro e w6 ⟨rfl, hsd⟩; (have HW := Aside0.mk hsd; clear hsd))
 go_wp2
 first | go_end0 | ((try simp only [Exit.inBlock, Exit.then]); refine bodyPost_ret (results_none rfl _ _ _) rfl ?_)
 exact ⟨rfl, HW.out⟩
set_option maxHeartbeats 16000000 in
set_option maxRecDepth 100000 in
theorem sort12_c (base g n cap : Nat) (w : World) (xs : List Int) (h : RU w base g n cap xs) (hn : n ≤ 12) :
  Calls Try.prog 120 #[.slice (some ⟨g, 0, none⟩) n cap] w fun e w' => e = .returned (.tuple #[]) ∧ ∃ ys, RP base g n cap w w' xs ys ∧ SRT ys 0 n := by
 have HR := Aside0.mk h
 have HN := Aside0.mk hn
 have zc : IntKind.u64.wrap (n : Int) = n := by unfold IntKind.wrap; simp [IntKind.bits, IntKind.signed]; omega
 clear h hn
 go_enter Try.func120, Try.ntmps120
 have hb : Lib.bitLen n ≤ 64 := Lib.bitLen_le n 64 (by omega) (by have := HN.out; omega)
 have HB := Aside0.mk hb
 clear hb
 go_wp2_with first | (go_at_call 128; (with_reducible refine (Try.bits_Len (n : Int) _ (by omega) (by have := HN.out; omega)).mono ?_); rintro e w6 ⟨rfl, rfl⟩; go_simp) | (go_at_call 127; (with_reducible refine (pdq12_c base g n cap 0 n _ _ xs HR.out (by omega) (by omega) (by omega) (by have := HN.out; omega) (by have := HN.out; omega)).mono ?_); rintro e w6 ⟨rfl, hsd⟩; (have HW := Aside0.mk hsd; clear hsd))
 go_wp2
 first | go_end0 | ((try simp only [Exit.inBlock, Exit.then]); refine bodyPost_ret (results_none rfl _ _ _) rfl ?_)
 exact ⟨rfl, HW.out⟩
end Go.Proofs.Ytbfialebaoeicaa.X
