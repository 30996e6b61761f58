-- PRINTED BY print.sh 35421559b90ae4d0a3588c463048766b98c2df88dd9212a6774a882060cdf62d: not written by this session
import Derived.Test.YtckgbbboknjkoaaPWordRightx0
import Derived.Test.YtckgbbboknjkoaaPWordRightx1
namespace Go.Proofs.Ytckgbbboknjkoaa.PWordRight
open Go.RowKit Go.Proofs.YtckgbbboknjkoaaW.PrintWords Go.Proofs.YtckgbbboknjkoaaW.PrintLast Go.Proofs.YtckgbbboknjkoaaW.PrintMore
attribute [local go_sem] max2_int min2_int max_two min_two max_three min_three max_four min_four   -- for this text's walks alone
set_option linter.unusedVariables false
set_option linter.unusedSimpArgs false

/-! ### davitlaw01_WordRight: function 3 -/
def davitlaw01_WordRight.f (k : Nat) (a0 : Int) (a1 : Int) (a2 : Int) : Option (Bool) := (davitlaw01_awake.f).bind fun t110 => (if t110 = true then ((word_Do.f a0 a1 a2).bind fun bt111 => ((davitref01_Do.f k a0 a1 a2).bind fun bt113 => (if bt111.1 = bt113.1 then (if (bt111.2 == bt113.2) = true then ((word_Pure.f a0).bind fun t115 => (if a0 ≥ 2 then (if (t115 == (decide (a0 ≤ 8))) = true then ((word_Two.f a0).bind fun t116 => (if a0 ≥ 3 then (if (t116 == (decide (a0 ≤ 8))) = true then ((word_Turns.f a0).bind fun t117 => (if a0 = 3 then (some (t117 == true)) else (if a0 = 5 then (some (t117 == true)) else (some (t117 == (a0 == 7)))))) else (some false)) else (if (t116 == false) = true then ((word_Turns.f a0).bind fun t118 => (if a0 = 3 then (some (t118 == true)) else (if a0 = 5 then (some (t118 == true)) else (some (t118 == (a0 == 7)))))) else (some false)))) else (some false)) else (if (t115 == false) = true then ((word_Two.f a0).bind fun t119 => (if a0 ≥ 3 then (if (t119 == (decide (a0 ≤ 8))) = true then ((word_Turns.f a0).bind fun t120 => (if a0 = 3 then (some (t120 == true)) else (if a0 = 5 then (some (t120 == true)) else (some (t120 == (a0 == 7)))))) else (some false)) else (if (t119 == false) = true then ((word_Turns.f a0).bind fun t121 => (if a0 = 3 then (some (t121 == true)) else (if a0 = 5 then (some (t121 == true)) else (some (t121 == (a0 == 7)))))) else (some false)))) else (some false)))) else (some false)) else (some false)))) else (some false))
theorem davitlaw01_WordRight.mono : ∀ a0 a1 a2 k, LeO (davitlaw01_WordRight.f k a0 a1 a2) (davitlaw01_WordRight.f (k + 1) a0 a1 a2) := by
  intro a0 a1 a2 k
  unfold davitlaw01_WordRight.f
  repeat' first
      | (with_reducible exact davitref01_Do.mono _ _ _ _)
      | (with_reducible exact LeO.refl _)
      | (with_reducible exact LeO.none _)
      | (with_reducible refine LeO.ite ?_ ?_)
      | (with_reducible refine LeO.bind ?_ (fun _ => ?_))
      | exact davitref01_Do.mono _ _ _ _
      | exact LeO.none _
      | refine LeO.ite ?_ ?_
      | refine LeO.bind ?_ (fun _ => ?_)
set_option maxHeartbeats 8000000 in
set_option maxRecDepth 100000 in
theorem davitlaw01_WordRight.calls (k : Nat) (a0 : Int) (a1 : Int) (a2 : Int) (r : Bool) (w : World) (h : davitlaw01_WordRight.f k a0 a1 a2 = some r) :
    Calls Try.prog 3 #[.int .i64 a0, .int .u16 a1, .int .u16 a2] w fun e w' => e = .returned (.bool r) ∧ Drawn0 w w' := by
  have H : ((davitlaw01_awake.f).bind fun t110 => (if t110 = true then ((word_Do.f a0 a1 a2).bind fun bt111 => ((davitref01_Do.f k a0 a1 a2).bind fun bt113 => (if bt111.1 = bt113.1 then (if (bt111.2 == bt113.2) = true then ((word_Pure.f a0).bind fun t115 => (if a0 ≥ 2 then (if (t115 == (decide (a0 ≤ 8))) = true then ((word_Two.f a0).bind fun t116 => (if a0 ≥ 3 then (if (t116 == (decide (a0 ≤ 8))) = true then ((word_Turns.f a0).bind fun t117 => (if a0 = 3 then (some (t117 == true)) else (if a0 = 5 then (some (t117 == true)) else (some (t117 == (a0 == 7)))))) else (some false)) else (if (t116 == false) = true then ((word_Turns.f a0).bind fun t118 => (if a0 = 3 then (some (t118 == true)) else (if a0 = 5 then (some (t118 == true)) else (some (t118 == (a0 == 7)))))) else (some false)))) else (some false)) else (if (t115 == false) = true then ((word_Two.f a0).bind fun t119 => (if a0 ≥ 3 then (if (t119 == (decide (a0 ≤ 8))) = true then ((word_Turns.f a0).bind fun t120 => (if a0 = 3 then (some (t120 == true)) else (if a0 = 5 then (some (t120 == true)) else (some (t120 == (a0 == 7)))))) else (some false)) else (if (t119 == false) = true then ((word_Turns.f a0).bind fun t121 => (if a0 = 3 then (some (t121 == true)) else (if a0 = 5 then (some (t121 == true)) else (some (t121 == (a0 == 7)))))) else (some false)))) else (some false)))) else (some false)) else (some false)))) else (some false))) = some r := h
  clear h
  replace H := Option.bind_eq_some_iff.mp H
  obtain ⟨t110, A40, H⟩ := H
  replace H : (if t110 = true then ((word_Do.f a0 a1 a2).bind fun bt111 => ((davitref01_Do.f k a0 a1 a2).bind fun bt113 => (if bt111.1 = bt113.1 then (if (bt111.2 == bt113.2) = true then ((word_Pure.f a0).bind fun t115 => (if a0 ≥ 2 then (if (t115 == (decide (a0 ≤ 8))) = true then ((word_Two.f a0).bind fun t116 => (if a0 ≥ 3 then (if (t116 == (decide (a0 ≤ 8))) = true then ((word_Turns.f a0).bind fun t117 => (if a0 = 3 then (some (t117 == true)) else (if a0 = 5 then (some (t117 == true)) else (some (t117 == (a0 == 7)))))) else (some false)) else (if (t116 == false) = true then ((word_Turns.f a0).bind fun t118 => (if a0 = 3 then (some (t118 == true)) else (if a0 = 5 then (some (t118 == true)) else (some (t118 == (a0 == 7)))))) else (some false)))) else (some false)) else (if (t115 == false) = true then ((word_Two.f a0).bind fun t119 => (if a0 ≥ 3 then (if (t119 == (decide (a0 ≤ 8))) = true then ((word_Turns.f a0).bind fun t120 => (if a0 = 3 then (some (t120 == true)) else (if a0 = 5 then (some (t120 == true)) else (some (t120 == (a0 == 7)))))) else (some false)) else (if (t119 == false) = true then ((word_Turns.f a0).bind fun t121 => (if a0 = 3 then (some (t121 == true)) else (if a0 = 5 then (some (t121 == true)) else (some (t121 == (a0 == 7)))))) else (some false)))) else (some false)))) else (some false)) else (some false)))) else (some false)) = some r := H
  have A4 := Aside0.mk A40
  clear A40
  by_cases c5 : t110 = true
  · subst c5
    have H1 : ((word_Do.f a0 a1 a2).bind fun bt111 => ((davitref01_Do.f k a0 a1 a2).bind fun bt113 => (if bt111.1 = bt113.1 then (if (bt111.2 == bt113.2) = true then ((word_Pure.f a0).bind fun t115 => (if a0 ≥ 2 then (if (t115 == (decide (a0 ≤ 8))) = true then ((word_Two.f a0).bind fun t116 => (if a0 ≥ 3 then (if (t116 == (decide (a0 ≤ 8))) = true then ((word_Turns.f a0).bind fun t117 => (if a0 = 3 then (some (t117 == true)) else (if a0 = 5 then (some (t117 == true)) else (some (t117 == (a0 == 7)))))) else (some false)) else (if (t116 == false) = true then ((word_Turns.f a0).bind fun t118 => (if a0 = 3 then (some (t118 == true)) else (if a0 = 5 then (some (t118 == true)) else (some (t118 == (a0 == 7)))))) else (some false)))) else (some false)) else (if (t115 == false) = true then ((word_Two.f a0).bind fun t119 => (if a0 ≥ 3 then (if (t119 == (decide (a0 ≤ 8))) = true then ((word_Turns.f a0).bind fun t120 => (if a0 = 3 then (some (t120 == true)) else (if a0 = 5 then (some (t120 == true)) else (some (t120 == (a0 == 7)))))) else (some false)) else (if (t119 == false) = true then ((word_Turns.f a0).bind fun t121 => (if a0 = 3 then (some (t121 == true)) else (if a0 = 5 then (some (t121 == true)) else (some (t121 == (a0 == 7)))))) else (some false)))) else (some false)))) else (some false)) else (some false)))) = some r := by rw [if_pos rfl] at H; exact H
    clear H
    have H := H1
    clear H1
    replace H := Option.bind_eq_some_iff.mp H
    obtain ⟨⟨t111, t112⟩, A60, H⟩ := H
    replace H : ((davitref01_Do.f k a0 a1 a2).bind fun bt113 => (if t111 = bt113.1 then (if (t112 == bt113.2) = true then ((word_Pure.f a0).bind fun t115 => (if a0 ≥ 2 then (if (t115 == (decide (a0 ≤ 8))) = true then ((word_Two.f a0).bind fun t116 => (if a0 ≥ 3 then (if (t116 == (decide (a0 ≤ 8))) = true then ((word_Turns.f a0).bind fun t117 => (if a0 = 3 then (some (t117 == true)) else (if a0 = 5 then (some (t117 == true)) else (some (t117 == (a0 == 7)))))) else (some false)) else (if (t116 == false) = true then ((word_Turns.f a0).bind fun t118 => (if a0 = 3 then (some (t118 == true)) else (if a0 = 5 then (some (t118 == true)) else (some (t118 == (a0 == 7)))))) else (some false)))) else (some false)) else (if (t115 == false) = true then ((word_Two.f a0).bind fun t119 => (if a0 ≥ 3 then (if (t119 == (decide (a0 ≤ 8))) = true then ((word_Turns.f a0).bind fun t120 => (if a0 = 3 then (some (t120 == true)) else (if a0 = 5 then (some (t120 == true)) else (some (t120 == (a0 == 7)))))) else (some false)) else (if (t119 == false) = true then ((word_Turns.f a0).bind fun t121 => (if a0 = 3 then (some (t121 == true)) else (if a0 = 5 then (some (t121 == true)) else (some (t121 == (a0 == 7)))))) else (some false)))) else (some false)))) else (some false)) else (some false))) = some r := H
    have A6 := Aside0.mk A60
    clear A60
    replace H := Option.bind_eq_some_iff.mp H
    obtain ⟨⟨t113, t114⟩, A70, H⟩ := H
    replace H : (if t111 = t113 then (if (t112 == t114) = true then ((word_Pure.f a0).bind fun t115 => (if a0 ≥ 2 then (if (t115 == (decide (a0 ≤ 8))) = true then ((word_Two.f a0).bind fun t116 => (if a0 ≥ 3 then (if (t116 == (decide (a0 ≤ 8))) = true then ((word_Turns.f a0).bind fun t117 => (if a0 = 3 then (some (t117 == true)) else (if a0 = 5 then (some (t117 == true)) else (some (t117 == (a0 == 7)))))) else (some false)) else (if (t116 == false) = true then ((word_Turns.f a0).bind fun t118 => (if a0 = 3 then (some (t118 == true)) else (if a0 = 5 then (some (t118 == true)) else (some (t118 == (a0 == 7)))))) else (some false)))) else (some false)) else (if (t115 == false) = true then ((word_Two.f a0).bind fun t119 => (if a0 ≥ 3 then (if (t119 == (decide (a0 ≤ 8))) = true then ((word_Turns.f a0).bind fun t120 => (if a0 = 3 then (some (t120 == true)) else (if a0 = 5 then (some (t120 == true)) else (some (t120 == (a0 == 7)))))) else (some false)) else (if (t119 == false) = true then ((word_Turns.f a0).bind fun t121 => (if a0 = 3 then (some (t121 == true)) else (if a0 = 5 then (some (t121 == true)) else (some (t121 == (a0 == 7)))))) else (some false)))) else (some false)))) else (some false)) else (some false)) = some r := H
    have A7 := Aside0.mk A70
    clear A70
    by_cases c8 : t111 = t113
    · rw [if_pos c8] at H
      have c8b0 : (t111 == t113) = true := beq_iff_eq.mpr c8
      have c8b1 : (t111 != t113) = false := bne_eq_false_iff_eq.mpr c8
      clear c8
      by_cases c9 : (t112 == t114) = true
      · rw [if_pos c9] at H
        have c9b0 : (t112 == t114) = true := c9
        (try (have c9b1 : decide (t112 = t114) = true := by simpa using c9))
        (try (have c9b2 : (t112 == t114) = true := by simpa using c9))
        clear c9
        replace H := Option.bind_eq_some_iff.mp H
        obtain ⟨t115, A100, H⟩ := H
        replace H : (if a0 ≥ 2 then (if (t115 == (decide (a0 ≤ 8))) = true then ((word_Two.f a0).bind fun t116 => (if a0 ≥ 3 then (if (t116 == (decide (a0 ≤ 8))) = true then ((word_Turns.f a0).bind fun t117 => (if a0 = 3 then (some (t117 == true)) else (if a0 = 5 then (some (t117 == true)) else (some (t117 == (a0 == 7)))))) else (some false)) else (if (t116 == false) = true then ((word_Turns.f a0).bind fun t118 => (if a0 = 3 then (some (t118 == true)) else (if a0 = 5 then (some (t118 == true)) else (some (t118 == (a0 == 7)))))) else (some false)))) else (some false)) else (if (t115 == false) = true then ((word_Two.f a0).bind fun t119 => (if a0 ≥ 3 then (if (t119 == (decide (a0 ≤ 8))) = true then ((word_Turns.f a0).bind fun t120 => (if a0 = 3 then (some (t120 == true)) else (if a0 = 5 then (some (t120 == true)) else (some (t120 == (a0 == 7)))))) else (some false)) else (if (t119 == false) = true then ((word_Turns.f a0).bind fun t121 => (if a0 = 3 then (some (t121 == true)) else (if a0 = 5 then (some (t121 == true)) else (some (t121 == (a0 == 7)))))) else (some false)))) else (some false))) = some r := H
        have A10 := Aside0.mk A100
        clear A100
        by_cases c11 : a0 ≥ 2
        · rw [if_pos c11] at H
          have c11b0 : decide (2 ≤ a0) = true := decide_eq_true c11
          clear c11
          by_cases c12 : (t115 == (decide (a0 ≤ 8))) = true
          · rw [if_pos c12] at H
            have c12b0 : (t115 == (decide (a0 ≤ 8))) = true := c12
            (try (have c12b1 : decide (t115 = (decide (a0 ≤ 8))) = true := by simpa using c12))
            (try (have c12b2 : (t115 == (decide (a0 ≤ 8))) = true := by simpa using c12))
            clear c12
            replace H := Option.bind_eq_some_iff.mp H
            obtain ⟨t116, A130, H⟩ := H
            replace H : (if a0 ≥ 3 then (if (t116 == (decide (a0 ≤ 8))) = true then ((word_Turns.f a0).bind fun t117 => (if a0 = 3 then (some (t117 == true)) else (if a0 = 5 then (some (t117 == true)) else (some (t117 == (a0 == 7)))))) else (some false)) else (if (t116 == false) = true then ((word_Turns.f a0).bind fun t118 => (if a0 = 3 then (some (t118 == true)) else (if a0 = 5 then (some (t118 == true)) else (some (t118 == (a0 == 7)))))) else (some false))) = some r := H
            have A13 := Aside0.mk A130
            clear A130
            by_cases c14 : a0 ≥ 3
            · rw [if_pos c14] at H
              have c14b0 : decide (3 ≤ a0) = true := decide_eq_true c14
              clear c14
              by_cases c15 : (t116 == (decide (a0 ≤ 8))) = true
              · rw [if_pos c15] at H
                have c15b0 : (t116 == (decide (a0 ≤ 8))) = true := c15
                (try (have c15b1 : decide (t116 = (decide (a0 ≤ 8))) = true := by simpa using c15))
                (try (have c15b2 : (t116 == (decide (a0 ≤ 8))) = true := by simpa using c15))
                clear c15
                replace H := Option.bind_eq_some_iff.mp H
                obtain ⟨t117, A160, H⟩ := H
                replace H : (if a0 = 3 then (some (t117 == true)) else (if a0 = 5 then (some (t117 == true)) else (some (t117 == (a0 == 7))))) = some r := H
                have A16 := Aside0.mk A160
                clear A160
                by_cases c17 : a0 = 3
                · rw [if_pos c17] at H
                  have c17b0 : (a0 == 3) = true := beq_iff_eq.mpr c17
                  have c17b1 : (a0 != 3) = false := bne_eq_false_iff_eq.mpr c17
                  clear c17
                  obtain rfl := Option.some.inj H
                  go_enter Try.func3, Try.ntmps3
                  go_wp2_with (first | ((with_reducible refine gate_callee (f := 6) rfl ?_); refine goesL_ (some 11) rfl rfl Try.func6 (by kernel_rfl) rfl #[] rfl (by (try simp only [List.map_toArray, List.map_cons, List.map_nil]); first | done | rfl | (simp only [List.length_drop, List.length_take]; rfl)) ?_; (with_reducible refine (davitlaw01_awake.calls  true _ A4.out).mono ?_); rintro e w' ⟨rfl, ⟨nd, rfl⟩⟩; refine ⟨_, rfl, ?_⟩) | ((with_reducible refine gate_callee (f := 7) rfl ?_); refine goesL_ (some 17) rfl rfl Try.func7 (by kernel_rfl) rfl #[.int .i64 a0, .int .u16 a1, .int .u16 a2] rfl (by (try simp only [List.map_toArray, List.map_cons, List.map_nil]); first | done | rfl | (simp only [List.length_drop, List.length_take]; rfl)) ?_; (with_reducible refine (word_Do.calls a0 a1 a2 t111 t112 _ A6.out).mono ?_); rintro e w' ⟨rfl, ⟨nd, rfl⟩⟩; refine ⟨_, rfl, ?_⟩) | ((with_reducible refine gate_callee (f := 8) rfl ?_); refine goesL_ (some 24) rfl rfl Try.func8 (by kernel_rfl) rfl #[.int .i64 a0, .int .u16 a1, .int .u16 a2] rfl (by (try simp only [List.map_toArray, List.map_cons, List.map_nil]); first | done | rfl | (simp only [List.length_drop, List.length_take]; rfl)) ?_; (with_reducible refine (davitref01_Do.calls k a0 a1 a2 t113 t114 _ A7.out).mono ?_); rintro e w' ⟨rfl, ⟨nd, rfl⟩⟩; refine ⟨_, rfl, ?_⟩) | (go_at_call 9; (with_reducible refine (word_Pure.calls a0 t115 _ A10.out).mono ?_); rintro e w' ⟨rfl, ⟨nd, rfl⟩⟩) | (go_at_call 10; (with_reducible refine (word_Two.calls a0 t116 _ A13.out).mono ?_); rintro e w' ⟨rfl, ⟨nd, rfl⟩⟩) | (go_at_call 11; (with_reducible refine (word_Turns.calls a0 t117 _ A16.out).mono ?_); rintro e w' ⟨rfl, ⟨nd, rfl⟩⟩))
                  go_ret
                  exact ⟨by first | rfl | (simp; done) | (simp [*]; done), by repeat (first | exact Drawn0.refl _ | apply Drawn0.step)⟩
                · rw [if_neg c17] at H
                  have c17b0 : (a0 == 3) = false := beq_eq_false_iff_ne.mpr c17
                  have c17b1 : (a0 != 3) = true := bne_iff_ne.mpr c17
                  by_cases c18 : a0 = 5
                  · rw [if_pos c18] at H
                    have c18b0 : (a0 == 5) = true := beq_iff_eq.mpr c18
                    have c18b1 : (a0 != 5) = false := bne_eq_false_iff_eq.mpr c18
                    clear c18
                    obtain rfl := Option.some.inj H
                    go_enter Try.func3, Try.ntmps3
                    go_wp2_with (first | ((with_reducible refine gate_callee (f := 6) rfl ?_); refine goesL_ (some 11) rfl rfl Try.func6 (by kernel_rfl) rfl #[] rfl (by (try simp only [List.map_toArray, List.map_cons, List.map_nil]); first | done | rfl | (simp only [List.length_drop, List.length_take]; rfl)) ?_; (with_reducible refine (davitlaw01_awake.calls  true _ A4.out).mono ?_); rintro e w' ⟨rfl, ⟨nd, rfl⟩⟩; refine ⟨_, rfl, ?_⟩) | ((with_reducible refine gate_callee (f := 7) rfl ?_); refine goesL_ (some 17) rfl rfl Try.func7 (by kernel_rfl) rfl #[.int .i64 a0, .int .u16 a1, .int .u16 a2] rfl (by (try simp only [List.map_toArray, List.map_cons, List.map_nil]); first | done | rfl | (simp only [List.length_drop, List.length_take]; rfl)) ?_; (with_reducible refine (word_Do.calls a0 a1 a2 t111 t112 _ A6.out).mono ?_); rintro e w' ⟨rfl, ⟨nd, rfl⟩⟩; refine ⟨_, rfl, ?_⟩) | ((with_reducible refine gate_callee (f := 8) rfl ?_); refine goesL_ (some 24) rfl rfl Try.func8 (by kernel_rfl) rfl #[.int .i64 a0, .int .u16 a1, .int .u16 a2] rfl (by (try simp only [List.map_toArray, List.map_cons, List.map_nil]); first | done | rfl | (simp only [List.length_drop, List.length_take]; rfl)) ?_; (with_reducible refine (davitref01_Do.calls k a0 a1 a2 t113 t114 _ A7.out).mono ?_); rintro e w' ⟨rfl, ⟨nd, rfl⟩⟩; refine ⟨_, rfl, ?_⟩) | (go_at_call 9; (with_reducible refine (word_Pure.calls a0 t115 _ A10.out).mono ?_); rintro e w' ⟨rfl, ⟨nd, rfl⟩⟩) | (go_at_call 10; (with_reducible refine (word_Two.calls a0 t116 _ A13.out).mono ?_); rintro e w' ⟨rfl, ⟨nd, rfl⟩⟩) | (go_at_call 11; (with_reducible refine (word_Turns.calls a0 t117 _ A16.out).mono ?_); rintro e w' ⟨rfl, ⟨nd, rfl⟩⟩))
                    go_ret
                    exact ⟨by first | rfl | (simp; done) | (simp [*]; done), by repeat (first | exact Drawn0.refl _ | apply Drawn0.step)⟩
                  · rw [if_neg c18] at H
                    have c18b0 : (a0 == 5) = false := beq_eq_false_iff_ne.mpr c18
                    have c18b1 : (a0 != 5) = true := bne_iff_ne.mpr c18
                    obtain rfl := Option.some.inj H
                    go_enter Try.func3, Try.ntmps3
                    go_wp2_with (first | ((with_reducible refine gate_callee (f := 6) rfl ?_); refine goesL_ (some 11) rfl rfl Try.func6 (by kernel_rfl) rfl #[] rfl (by (try simp only [List.map_toArray, List.map_cons, List.map_nil]); first | done | rfl | (simp only [List.length_drop, List.length_take]; rfl)) ?_; (with_reducible refine (davitlaw01_awake.calls  true _ A4.out).mono ?_); rintro e w' ⟨rfl, ⟨nd, rfl⟩⟩; refine ⟨_, rfl, ?_⟩) | ((with_reducible refine gate_callee (f := 7) rfl ?_); refine goesL_ (some 17) rfl rfl Try.func7 (by kernel_rfl) rfl #[.int .i64 a0, .int .u16 a1, .int .u16 a2] rfl (by (try simp only [List.map_toArray, List.map_cons, List.map_nil]); first | done | rfl | (simp only [List.length_drop, List.length_take]; rfl)) ?_; (with_reducible refine (word_Do.calls a0 a1 a2 t111 t112 _ A6.out).mono ?_); rintro e w' ⟨rfl, ⟨nd, rfl⟩⟩; refine ⟨_, rfl, ?_⟩) | ((with_reducible refine gate_callee (f := 8) rfl ?_); refine goesL_ (some 24) rfl rfl Try.func8 (by kernel_rfl) rfl #[.int .i64 a0, .int .u16 a1, .int .u16 a2] rfl (by (try simp only [List.map_toArray, List.map_cons, List.map_nil]); first | done | rfl | (simp only [List.length_drop, List.length_take]; rfl)) ?_; (with_reducible refine (davitref01_Do.calls k a0 a1 a2 t113 t114 _ A7.out).mono ?_); rintro e w' ⟨rfl, ⟨nd, rfl⟩⟩; refine ⟨_, rfl, ?_⟩) | (go_at_call 9; (with_reducible refine (word_Pure.calls a0 t115 _ A10.out).mono ?_); rintro e w' ⟨rfl, ⟨nd, rfl⟩⟩) | (go_at_call 10; (with_reducible refine (word_Two.calls a0 t116 _ A13.out).mono ?_); rintro e w' ⟨rfl, ⟨nd, rfl⟩⟩) | (go_at_call 11; (with_reducible refine (word_Turns.calls a0 t117 _ A16.out).mono ?_); rintro e w' ⟨rfl, ⟨nd, rfl⟩⟩))
                    go_ret
                    exact ⟨by first | rfl | (simp; done) | (simp [*]; done), by repeat (first | exact Drawn0.refl _ | apply Drawn0.step)⟩
              · rw [if_neg c15] at H
                have c15b0 : (t116 == (decide (a0 ≤ 8))) = false := by simpa using c15
                (try (have c15b1 : decide (t116 = (decide (a0 ≤ 8))) = false := by simpa using c15))
                (try (have c15b2 : (t116 == (decide (a0 ≤ 8))) = false := by simpa using c15))
                (try (have c15b3 : ¬ (t116 = (decide (a0 ≤ 8))) := by simpa using c15))
                clear c15
                obtain rfl := Option.some.inj H
                go_enter Try.func3, Try.ntmps3
                go_wp2_with (first | ((with_reducible refine gate_callee (f := 6) rfl ?_); refine goesL_ (some 11) rfl rfl Try.func6 (by kernel_rfl) rfl #[] rfl (by (try simp only [List.map_toArray, List.map_cons, List.map_nil]); first | done | rfl | (simp only [List.length_drop, List.length_take]; rfl)) ?_; (with_reducible refine (davitlaw01_awake.calls  true _ A4.out).mono ?_); rintro e w' ⟨rfl, ⟨nd, rfl⟩⟩; refine ⟨_, rfl, ?_⟩) | ((with_reducible refine gate_callee (f := 7) rfl ?_); refine goesL_ (some 17) rfl rfl Try.func7 (by kernel_rfl) rfl #[.int .i64 a0, .int .u16 a1, .int .u16 a2] rfl (by (try simp only [List.map_toArray, List.map_cons, List.map_nil]); first | done | rfl | (simp only [List.length_drop, List.length_take]; rfl)) ?_; (with_reducible refine (word_Do.calls a0 a1 a2 t111 t112 _ A6.out).mono ?_); rintro e w' ⟨rfl, ⟨nd, rfl⟩⟩; refine ⟨_, rfl, ?_⟩) | ((with_reducible refine gate_callee (f := 8) rfl ?_); refine goesL_ (some 24) rfl rfl Try.func8 (by kernel_rfl) rfl #[.int .i64 a0, .int .u16 a1, .int .u16 a2] rfl (by (try simp only [List.map_toArray, List.map_cons, List.map_nil]); first | done | rfl | (simp only [List.length_drop, List.length_take]; rfl)) ?_; (with_reducible refine (davitref01_Do.calls k a0 a1 a2 t113 t114 _ A7.out).mono ?_); rintro e w' ⟨rfl, ⟨nd, rfl⟩⟩; refine ⟨_, rfl, ?_⟩) | (go_at_call 9; (with_reducible refine (word_Pure.calls a0 t115 _ A10.out).mono ?_); rintro e w' ⟨rfl, ⟨nd, rfl⟩⟩) | (go_at_call 10; (with_reducible refine (word_Two.calls a0 t116 _ A13.out).mono ?_); rintro e w' ⟨rfl, ⟨nd, rfl⟩⟩))
                go_ret
                exact ⟨by first | rfl | (simp; done) | (simp [*]; done), by repeat (first | exact Drawn0.refl _ | apply Drawn0.step)⟩
            · rw [if_neg c14] at H
              have c14b0 : decide (3 ≤ a0) = false := decide_eq_false c14
              clear c14
              by_cases c19 : (t116 == false) = true
              · rw [if_pos c19] at H
                have c19b0 : (t116 == false) = true := c19
                (try (have c19b1 : decide (t116 = false) = true := by simpa using c19))
                (try (have c19b2 : (t116 == false) = true := by simpa using c19))
                clear c19
                replace H := Option.bind_eq_some_iff.mp H
                obtain ⟨t118, A200, H⟩ := H
                replace H : (if a0 = 3 then (some (t118 == true)) else (if a0 = 5 then (some (t118 == true)) else (some (t118 == (a0 == 7))))) = some r := H
                have A20 := Aside0.mk A200
                clear A200
                by_cases c21 : a0 = 3
                · rw [if_pos c21] at H
                  have c21b0 : (a0 == 3) = true := beq_iff_eq.mpr c21
                  have c21b1 : (a0 != 3) = false := bne_eq_false_iff_eq.mpr c21
                  clear c21
                  obtain rfl := Option.some.inj H
                  go_enter Try.func3, Try.ntmps3
                  go_wp2_with (first | ((with_reducible refine gate_callee (f := 6) rfl ?_); refine goesL_ (some 11) rfl rfl Try.func6 (by kernel_rfl) rfl #[] rfl (by (try simp only [List.map_toArray, List.map_cons, List.map_nil]); first | done | rfl | (simp only [List.length_drop, List.length_take]; rfl)) ?_; (with_reducible refine (davitlaw01_awake.calls  true _ A4.out).mono ?_); rintro e w' ⟨rfl, ⟨nd, rfl⟩⟩; refine ⟨_, rfl, ?_⟩) | ((with_reducible refine gate_callee (f := 7) rfl ?_); refine goesL_ (some 17) rfl rfl Try.func7 (by kernel_rfl) rfl #[.int .i64 a0, .int .u16 a1, .int .u16 a2] rfl (by (try simp only [List.map_toArray, List.map_cons, List.map_nil]); first | done | rfl | (simp only [List.length_drop, List.length_take]; rfl)) ?_; (with_reducible refine (word_Do.calls a0 a1 a2 t111 t112 _ A6.out).mono ?_); rintro e w' ⟨rfl, ⟨nd, rfl⟩⟩; refine ⟨_, rfl, ?_⟩) | ((with_reducible refine gate_callee (f := 8) rfl ?_); refine goesL_ (some 24) rfl rfl Try.func8 (by kernel_rfl) rfl #[.int .i64 a0, .int .u16 a1, .int .u16 a2] rfl (by (try simp only [List.map_toArray, List.map_cons, List.map_nil]); first | done | rfl | (simp only [List.length_drop, List.length_take]; rfl)) ?_; (with_reducible refine (davitref01_Do.calls k a0 a1 a2 t113 t114 _ A7.out).mono ?_); rintro e w' ⟨rfl, ⟨nd, rfl⟩⟩; refine ⟨_, rfl, ?_⟩) | (go_at_call 9; (with_reducible refine (word_Pure.calls a0 t115 _ A10.out).mono ?_); rintro e w' ⟨rfl, ⟨nd, rfl⟩⟩) | (go_at_call 10; (with_reducible refine (word_Two.calls a0 t116 _ A13.out).mono ?_); rintro e w' ⟨rfl, ⟨nd, rfl⟩⟩) | (go_at_call 11; (with_reducible refine (word_Turns.calls a0 t118 _ A20.out).mono ?_); rintro e w' ⟨rfl, ⟨nd, rfl⟩⟩))
                  go_ret
                  exact ⟨by first | rfl | (simp; done) | (simp [*]; done), by repeat (first | exact Drawn0.refl _ | apply Drawn0.step)⟩
                · rw [if_neg c21] at H
                  have c21b0 : (a0 == 3) = false := beq_eq_false_iff_ne.mpr c21
                  have c21b1 : (a0 != 3) = true := bne_iff_ne.mpr c21
                  by_cases c22 : a0 = 5
                  · rw [if_pos c22] at H
                    have c22b0 : (a0 == 5) = true := beq_iff_eq.mpr c22
                    have c22b1 : (a0 != 5) = false := bne_eq_false_iff_eq.mpr c22
                    clear c22
                    obtain rfl := Option.some.inj H
                    go_enter Try.func3, Try.ntmps3
                    go_wp2_with (first | ((with_reducible refine gate_callee (f := 6) rfl ?_); refine goesL_ (some 11) rfl rfl Try.func6 (by kernel_rfl) rfl #[] rfl (by (try simp only [List.map_toArray, List.map_cons, List.map_nil]); first | done | rfl | (simp only [List.length_drop, List.length_take]; rfl)) ?_; (with_reducible refine (davitlaw01_awake.calls  true _ A4.out).mono ?_); rintro e w' ⟨rfl, ⟨nd, rfl⟩⟩; refine ⟨_, rfl, ?_⟩) | ((with_reducible refine gate_callee (f := 7) rfl ?_); refine goesL_ (some 17) rfl rfl Try.func7 (by kernel_rfl) rfl #[.int .i64 a0, .int .u16 a1, .int .u16 a2] rfl (by (try simp only [List.map_toArray, List.map_cons, List.map_nil]); first | done | rfl | (simp only [List.length_drop, List.length_take]; rfl)) ?_; (with_reducible refine (word_Do.calls a0 a1 a2 t111 t112 _ A6.out).mono ?_); rintro e w' ⟨rfl, ⟨nd, rfl⟩⟩; refine ⟨_, rfl, ?_⟩) | ((with_reducible refine gate_callee (f := 8) rfl ?_); refine goesL_ (some 24) rfl rfl Try.func8 (by kernel_rfl) rfl #[.int .i64 a0, .int .u16 a1, .int .u16 a2] rfl (by (try simp only [List.map_toArray, List.map_cons, List.map_nil]); first | done | rfl | (simp only [List.length_drop, List.length_take]; rfl)) ?_; (with_reducible refine (davitref01_Do.calls k a0 a1 a2 t113 t114 _ A7.out).mono ?_); rintro e w' ⟨rfl, ⟨nd, rfl⟩⟩; refine ⟨_, rfl, ?_⟩) | (go_at_call 9; (with_reducible refine (word_Pure.calls a0 t115 _ A10.out).mono ?_); rintro e w' ⟨rfl, ⟨nd, rfl⟩⟩) | (go_at_call 10; (with_reducible refine (word_Two.calls a0 t116 _ A13.out).mono ?_); rintro e w' ⟨rfl, ⟨nd, rfl⟩⟩) | (go_at_call 11; (with_reducible refine (word_Turns.calls a0 t118 _ A20.out).mono ?_); rintro e w' ⟨rfl, ⟨nd, rfl⟩⟩))
                    go_ret
                    exact ⟨by first | rfl | (simp; done) | (simp [*]; done), by repeat (first | exact Drawn0.refl _ | apply Drawn0.step)⟩
                  · rw [if_neg c22] at H
                    have c22b0 : (a0 == 5) = false := beq_eq_false_iff_ne.mpr c22
                    have c22b1 : (a0 != 5) = true := bne_iff_ne.mpr c22
                    obtain rfl := Option.some.inj H
                    go_enter Try.func3, Try.ntmps3
                    go_wp2_with (first | ((with_reducible refine gate_callee (f := 6) rfl ?_); refine goesL_ (some 11) rfl rfl Try.func6 (by kernel_rfl) rfl #[] rfl (by (try simp only [List.map_toArray, List.map_cons, List.map_nil]); first | done | rfl | (simp only [List.length_drop, List.length_take]; rfl)) ?_; (with_reducible refine (davitlaw01_awake.calls  true _ A4.out).mono ?_); rintro e w' ⟨rfl, ⟨nd, rfl⟩⟩; refine ⟨_, rfl, ?_⟩) | ((with_reducible refine gate_callee (f := 7) rfl ?_); refine goesL_ (some 17) rfl rfl Try.func7 (by kernel_rfl) rfl #[.int .i64 a0, .int .u16 a1, .int .u16 a2] rfl (by (try simp only [List.map_toArray, List.map_cons, List.map_nil]); first | done | rfl | (simp only [List.length_drop, List.length_take]; rfl)) ?_; (with_reducible refine (word_Do.calls a0 a1 a2 t111 t112 _ A6.out).mono ?_); rintro e w' ⟨rfl, ⟨nd, rfl⟩⟩; refine ⟨_, rfl, ?_⟩) | ((with_reducible refine gate_callee (f := 8) rfl ?_); refine goesL_ (some 24) rfl rfl Try.func8 (by kernel_rfl) rfl #[.int .i64 a0, .int .u16 a1, .int .u16 a2] rfl (by (try simp only [List.map_toArray, List.map_cons, List.map_nil]); first | done | rfl | (simp only [List.length_drop, List.length_take]; rfl)) ?_; (with_reducible refine (davitref01_Do.calls k a0 a1 a2 t113 t114 _ A7.out).mono ?_); rintro e w' ⟨rfl, ⟨nd, rfl⟩⟩; refine ⟨_, rfl, ?_⟩) | (go_at_call 9; (with_reducible refine (word_Pure.calls a0 t115 _ A10.out).mono ?_); rintro e w' ⟨rfl, ⟨nd, rfl⟩⟩) | (go_at_call 10; (with_reducible refine (word_Two.calls a0 t116 _ A13.out).mono ?_); rintro e w' ⟨rfl, ⟨nd, rfl⟩⟩) | (go_at_call 11; (with_reducible refine (word_Turns.calls a0 t118 _ A20.out).mono ?_); rintro e w' ⟨rfl, ⟨nd, rfl⟩⟩))
                    go_ret
                    exact ⟨by first | rfl | (simp; done) | (simp [*]; done), by repeat (first | exact Drawn0.refl _ | apply Drawn0.step)⟩
              · rw [if_neg c19] at H
                have c19b0 : (t116 == false) = false := by simpa using c19
                (try (have c19b1 : decide (t116 = false) = false := by simpa using c19))
                (try (have c19b2 : (t116 == false) = false := by simpa using c19))
                (try (have c19b3 : ¬ (t116 = false) := by simpa using c19))
                clear c19
                obtain rfl := Option.some.inj H
                go_enter Try.func3, Try.ntmps3
                go_wp2_with (first | ((with_reducible refine gate_callee (f := 6) rfl ?_); refine goesL_ (some 11) rfl rfl Try.func6 (by kernel_rfl) rfl #[] rfl (by (try simp only [List.map_toArray, List.map_cons, List.map_nil]); first | done | rfl | (simp only [List.length_drop, List.length_take]; rfl)) ?_; (with_reducible refine (davitlaw01_awake.calls  true _ A4.out).mono ?_); rintro e w' ⟨rfl, ⟨nd, rfl⟩⟩; refine ⟨_, rfl, ?_⟩) | ((with_reducible refine gate_callee (f := 7) rfl ?_); refine goesL_ (some 17) rfl rfl Try.func7 (by kernel_rfl) rfl #[.int .i64 a0, .int .u16 a1, .int .u16 a2] rfl (by (try simp only [List.map_toArray, List.map_cons, List.map_nil]); first | done | rfl | (simp only [List.length_drop, List.length_take]; rfl)) ?_; (with_reducible refine (word_Do.calls a0 a1 a2 t111 t112 _ A6.out).mono ?_); rintro e w' ⟨rfl, ⟨nd, rfl⟩⟩; refine ⟨_, rfl, ?_⟩) | ((with_reducible refine gate_callee (f := 8) rfl ?_); refine goesL_ (some 24) rfl rfl Try.func8 (by kernel_rfl) rfl #[.int .i64 a0, .int .u16 a1, .int .u16 a2] rfl (by (try simp only [List.map_toArray, List.map_cons, List.map_nil]); first | done | rfl | (simp only [List.length_drop, List.length_take]; rfl)) ?_; (with_reducible refine (davitref01_Do.calls k a0 a1 a2 t113 t114 _ A7.out).mono ?_); rintro e w' ⟨rfl, ⟨nd, rfl⟩⟩; refine ⟨_, rfl, ?_⟩) | (go_at_call 9; (with_reducible refine (word_Pure.calls a0 t115 _ A10.out).mono ?_); rintro e w' ⟨rfl, ⟨nd, rfl⟩⟩) | (go_at_call 10; (with_reducible refine (word_Two.calls a0 t116 _ A13.out).mono ?_); rintro e w' ⟨rfl, ⟨nd, rfl⟩⟩))
                go_ret
                exact ⟨by first | rfl | (simp; done) | (simp [*]; done), by repeat (first | exact Drawn0.refl _ | apply Drawn0.step)⟩
          · rw [if_neg c12] at H
            have c12b0 : (t115 == (decide (a0 ≤ 8))) = false := by simpa using c12
            (try (have c12b1 : decide (t115 = (decide (a0 ≤ 8))) = false := by simpa using c12))
            (try (have c12b2 : (t115 == (decide (a0 ≤ 8))) = false := by simpa using c12))
            (try (have c12b3 : ¬ (t115 = (decide (a0 ≤ 8))) := by simpa using c12))
            clear c12
            obtain rfl := Option.some.inj H
            go_enter Try.func3, Try.ntmps3
            go_wp2_with (first | ((with_reducible refine gate_callee (f := 6) rfl ?_); refine goesL_ (some 11) rfl rfl Try.func6 (by kernel_rfl) rfl #[] rfl (by (try simp only [List.map_toArray, List.map_cons, List.map_nil]); first | done | rfl | (simp only [List.length_drop, List.length_take]; rfl)) ?_; (with_reducible refine (davitlaw01_awake.calls  true _ A4.out).mono ?_); rintro e w' ⟨rfl, ⟨nd, rfl⟩⟩; refine ⟨_, rfl, ?_⟩) | ((with_reducible refine gate_callee (f := 7) rfl ?_); refine goesL_ (some 17) rfl rfl Try.func7 (by kernel_rfl) rfl #[.int .i64 a0, .int .u16 a1, .int .u16 a2] rfl (by (try simp only [List.map_toArray, List.map_cons, List.map_nil]); first | done | rfl | (simp only [List.length_drop, List.length_take]; rfl)) ?_; (with_reducible refine (word_Do.calls a0 a1 a2 t111 t112 _ A6.out).mono ?_); rintro e w' ⟨rfl, ⟨nd, rfl⟩⟩; refine ⟨_, rfl, ?_⟩) | ((with_reducible refine gate_callee (f := 8) rfl ?_); refine goesL_ (some 24) rfl rfl Try.func8 (by kernel_rfl) rfl #[.int .i64 a0, .int .u16 a1, .int .u16 a2] rfl (by (try simp only [List.map_toArray, List.map_cons, List.map_nil]); first | done | rfl | (simp only [List.length_drop, List.length_take]; rfl)) ?_; (with_reducible refine (davitref01_Do.calls k a0 a1 a2 t113 t114 _ A7.out).mono ?_); rintro e w' ⟨rfl, ⟨nd, rfl⟩⟩; refine ⟨_, rfl, ?_⟩) | (go_at_call 9; (with_reducible refine (word_Pure.calls a0 t115 _ A10.out).mono ?_); rintro e w' ⟨rfl, ⟨nd, rfl⟩⟩))
            go_ret
            exact ⟨by first | rfl | (simp; done) | (simp [*]; done), by repeat (first | exact Drawn0.refl _ | apply Drawn0.step)⟩
        · rw [if_neg c11] at H
          have c11b0 : decide (2 ≤ a0) = false := decide_eq_false c11
          clear c11
          by_cases c23 : (t115 == false) = true
          · rw [if_pos c23] at H
            have c23b0 : (t115 == false) = true := c23
            (try (have c23b1 : decide (t115 = false) = true := by simpa using c23))
            (try (have c23b2 : (t115 == false) = true := by simpa using c23))
            clear c23
            replace H := Option.bind_eq_some_iff.mp H
            obtain ⟨t119, A240, H⟩ := H
            replace H : (if a0 ≥ 3 then (if (t119 == (decide (a0 ≤ 8))) = true then ((word_Turns.f a0).bind fun t120 => (if a0 = 3 then (some (t120 == true)) else (if a0 = 5 then (some (t120 == true)) else (some (t120 == (a0 == 7)))))) else (some false)) else (if (t119 == false) = true then ((word_Turns.f a0).bind fun t121 => (if a0 = 3 then (some (t121 == true)) else (if a0 = 5 then (some (t121 == true)) else (some (t121 == (a0 == 7)))))) else (some false))) = some r := H
            have A24 := Aside0.mk A240
            clear A240
            by_cases c25 : a0 ≥ 3
            · rw [if_pos c25] at H
              have c25b0 : decide (3 ≤ a0) = true := decide_eq_true c25
              clear c25
              by_cases c26 : (t119 == (decide (a0 ≤ 8))) = true
              · rw [if_pos c26] at H
                have c26b0 : (t119 == (decide (a0 ≤ 8))) = true := c26
                (try (have c26b1 : decide (t119 = (decide (a0 ≤ 8))) = true := by simpa using c26))
                (try (have c26b2 : (t119 == (decide (a0 ≤ 8))) = true := by simpa using c26))
                clear c26
                replace H := Option.bind_eq_some_iff.mp H
                obtain ⟨t120, A270, H⟩ := H
                replace H : (if a0 = 3 then (some (t120 == true)) else (if a0 = 5 then (some (t120 == true)) else (some (t120 == (a0 == 7))))) = some r := H
                have A27 := Aside0.mk A270
                clear A270
                by_cases c28 : a0 = 3
                · rw [if_pos c28] at H
                  have c28b0 : (a0 == 3) = true := beq_iff_eq.mpr c28
                  have c28b1 : (a0 != 3) = false := bne_eq_false_iff_eq.mpr c28
                  clear c28
                  obtain rfl := Option.some.inj H
                  go_enter Try.func3, Try.ntmps3
                  go_wp2_with (first | ((with_reducible refine gate_callee (f := 6) rfl ?_); refine goesL_ (some 11) rfl rfl Try.func6 (by kernel_rfl) rfl #[] rfl (by (try simp only [List.map_toArray, List.map_cons, List.map_nil]); first | done | rfl | (simp only [List.length_drop, List.length_take]; rfl)) ?_; (with_reducible refine (davitlaw01_awake.calls  true _ A4.out).mono ?_); rintro e w' ⟨rfl, ⟨nd, rfl⟩⟩; refine ⟨_, rfl, ?_⟩) | ((with_reducible refine gate_callee (f := 7) rfl ?_); refine goesL_ (some 17) rfl rfl Try.func7 (by kernel_rfl) rfl #[.int .i64 a0, .int .u16 a1, .int .u16 a2] rfl (by (try simp only [List.map_toArray, List.map_cons, List.map_nil]); first | done | rfl | (simp only [List.length_drop, List.length_take]; rfl)) ?_; (with_reducible refine (word_Do.calls a0 a1 a2 t111 t112 _ A6.out).mono ?_); rintro e w' ⟨rfl, ⟨nd, rfl⟩⟩; refine ⟨_, rfl, ?_⟩) | ((with_reducible refine gate_callee (f := 8) rfl ?_); refine goesL_ (some 24) rfl rfl Try.func8 (by kernel_rfl) rfl #[.int .i64 a0, .int .u16 a1, .int .u16 a2] rfl (by (try simp only [List.map_toArray, List.map_cons, List.map_nil]); first | done | rfl | (simp only [List.length_drop, List.length_take]; rfl)) ?_; (with_reducible refine (davitref01_Do.calls k a0 a1 a2 t113 t114 _ A7.out).mono ?_); rintro e w' ⟨rfl, ⟨nd, rfl⟩⟩; refine ⟨_, rfl, ?_⟩) | (go_at_call 9; (with_reducible refine (word_Pure.calls a0 t115 _ A10.out).mono ?_); rintro e w' ⟨rfl, ⟨nd, rfl⟩⟩) | (go_at_call 10; (with_reducible refine (word_Two.calls a0 t119 _ A24.out).mono ?_); rintro e w' ⟨rfl, ⟨nd, rfl⟩⟩) | (go_at_call 11; (with_reducible refine (word_Turns.calls a0 t120 _ A27.out).mono ?_); rintro e w' ⟨rfl, ⟨nd, rfl⟩⟩))
                  go_ret
                  exact ⟨by first | rfl | (simp; done) | (simp [*]; done), by repeat (first | exact Drawn0.refl _ | apply Drawn0.step)⟩
                · rw [if_neg c28] at H
                  have c28b0 : (a0 == 3) = false := beq_eq_false_iff_ne.mpr c28
                  have c28b1 : (a0 != 3) = true := bne_iff_ne.mpr c28
                  by_cases c29 : a0 = 5
                  · rw [if_pos c29] at H
                    have c29b0 : (a0 == 5) = true := beq_iff_eq.mpr c29
                    have c29b1 : (a0 != 5) = false := bne_eq_false_iff_eq.mpr c29
                    clear c29
                    obtain rfl := Option.some.inj H
                    go_enter Try.func3, Try.ntmps3
                    go_wp2_with (first | ((with_reducible refine gate_callee (f := 6) rfl ?_); refine goesL_ (some 11) rfl rfl Try.func6 (by kernel_rfl) rfl #[] rfl (by (try simp only [List.map_toArray, List.map_cons, List.map_nil]); first | done | rfl | (simp only [List.length_drop, List.length_take]; rfl)) ?_; (with_reducible refine (davitlaw01_awake.calls  true _ A4.out).mono ?_); rintro e w' ⟨rfl, ⟨nd, rfl⟩⟩; refine ⟨_, rfl, ?_⟩) | ((with_reducible refine gate_callee (f := 7) rfl ?_); refine goesL_ (some 17) rfl rfl Try.func7 (by kernel_rfl) rfl #[.int .i64 a0, .int .u16 a1, .int .u16 a2] rfl (by (try simp only [List.map_toArray, List.map_cons, List.map_nil]); first | done | rfl | (simp only [List.length_drop, List.length_take]; rfl)) ?_; (with_reducible refine (word_Do.calls a0 a1 a2 t111 t112 _ A6.out).mono ?_); rintro e w' ⟨rfl, ⟨nd, rfl⟩⟩; refine ⟨_, rfl, ?_⟩) | ((with_reducible refine gate_callee (f := 8) rfl ?_); refine goesL_ (some 24) rfl rfl Try.func8 (by kernel_rfl) rfl #[.int .i64 a0, .int .u16 a1, .int .u16 a2] rfl (by (try simp only [List.map_toArray, List.map_cons, List.map_nil]); first | done | rfl | (simp only [List.length_drop, List.length_take]; rfl)) ?_; (with_reducible refine (davitref01_Do.calls k a0 a1 a2 t113 t114 _ A7.out).mono ?_); rintro e w' ⟨rfl, ⟨nd, rfl⟩⟩; refine ⟨_, rfl, ?_⟩) | (go_at_call 9; (with_reducible refine (word_Pure.calls a0 t115 _ A10.out).mono ?_); rintro e w' ⟨rfl, ⟨nd, rfl⟩⟩) | (go_at_call 10; (with_reducible refine (word_Two.calls a0 t119 _ A24.out).mono ?_); rintro e w' ⟨rfl, ⟨nd, rfl⟩⟩) | (go_at_call 11; (with_reducible refine (word_Turns.calls a0 t120 _ A27.out).mono ?_); rintro e w' ⟨rfl, ⟨nd, rfl⟩⟩))
                    go_ret
                    exact ⟨by first | rfl | (simp; done) | (simp [*]; done), by repeat (first | exact Drawn0.refl _ | apply Drawn0.step)⟩
                  · rw [if_neg c29] at H
                    have c29b0 : (a0 == 5) = false := beq_eq_false_iff_ne.mpr c29
                    have c29b1 : (a0 != 5) = true := bne_iff_ne.mpr c29
                    obtain rfl := Option.some.inj H
                    go_enter Try.func3, Try.ntmps3
                    go_wp2_with (first | ((with_reducible refine gate_callee (f := 6) rfl ?_); refine goesL_ (some 11) rfl rfl Try.func6 (by kernel_rfl) rfl #[] rfl (by (try simp only [List.map_toArray, List.map_cons, List.map_nil]); first | done | rfl | (simp only [List.length_drop, List.length_take]; rfl)) ?_; (with_reducible refine (davitlaw01_awake.calls  true _ A4.out).mono ?_); rintro e w' ⟨rfl, ⟨nd, rfl⟩⟩; refine ⟨_, rfl, ?_⟩) | ((with_reducible refine gate_callee (f := 7) rfl ?_); refine goesL_ (some 17) rfl rfl Try.func7 (by kernel_rfl) rfl #[.int .i64 a0, .int .u16 a1, .int .u16 a2] rfl (by (try simp only [List.map_toArray, List.map_cons, List.map_nil]); first | done | rfl | (simp only [List.length_drop, List.length_take]; rfl)) ?_; (with_reducible refine (word_Do.calls a0 a1 a2 t111 t112 _ A6.out).mono ?_); rintro e w' ⟨rfl, ⟨nd, rfl⟩⟩; refine ⟨_, rfl, ?_⟩) | ((with_reducible refine gate_callee (f := 8) rfl ?_); refine goesL_ (some 24) rfl rfl Try.func8 (by kernel_rfl) rfl #[.int .i64 a0, .int .u16 a1, .int .u16 a2] rfl (by (try simp only [List.map_toArray, List.map_cons, List.map_nil]); first | done | rfl | (simp only [List.length_drop, List.length_take]; rfl)) ?_; (with_reducible refine (davitref01_Do.calls k a0 a1 a2 t113 t114 _ A7.out).mono ?_); rintro e w' ⟨rfl, ⟨nd, rfl⟩⟩; refine ⟨_, rfl, ?_⟩) | (go_at_call 9; (with_reducible refine (word_Pure.calls a0 t115 _ A10.out).mono ?_); rintro e w' ⟨rfl, ⟨nd, rfl⟩⟩) | (go_at_call 10; (with_reducible refine (word_Two.calls a0 t119 _ A24.out).mono ?_); rintro e w' ⟨rfl, ⟨nd, rfl⟩⟩) | (go_at_call 11; (with_reducible refine (word_Turns.calls a0 t120 _ A27.out).mono ?_); rintro e w' ⟨rfl, ⟨nd, rfl⟩⟩))
                    go_ret
                    exact ⟨by first | rfl | (simp; done) | (simp [*]; done), by repeat (first | exact Drawn0.refl _ | apply Drawn0.step)⟩
              · rw [if_neg c26] at H
                have c26b0 : (t119 == (decide (a0 ≤ 8))) = false := by simpa using c26
                (try (have c26b1 : decide (t119 = (decide (a0 ≤ 8))) = false := by simpa using c26))
                (try (have c26b2 : (t119 == (decide (a0 ≤ 8))) = false := by simpa using c26))
                (try (have c26b3 : ¬ (t119 = (decide (a0 ≤ 8))) := by simpa using c26))
                clear c26
                obtain rfl := Option.some.inj H
                go_enter Try.func3, Try.ntmps3
                go_wp2_with (first | ((with_reducible refine gate_callee (f := 6) rfl ?_); refine goesL_ (some 11) rfl rfl Try.func6 (by kernel_rfl) rfl #[] rfl (by (try simp only [List.map_toArray, List.map_cons, List.map_nil]); first | done | rfl | (simp only [List.length_drop, List.length_take]; rfl)) ?_; (with_reducible refine (davitlaw01_awake.calls  true _ A4.out).mono ?_); rintro e w' ⟨rfl, ⟨nd, rfl⟩⟩; refine ⟨_, rfl, ?_⟩) | ((with_reducible refine gate_callee (f := 7) rfl ?_); refine goesL_ (some 17) rfl rfl Try.func7 (by kernel_rfl) rfl #[.int .i64 a0, .int .u16 a1, .int .u16 a2] rfl (by (try simp only [List.map_toArray, List.map_cons, List.map_nil]); first | done | rfl | (simp only [List.length_drop, List.length_take]; rfl)) ?_; (with_reducible refine (word_Do.calls a0 a1 a2 t111 t112 _ A6.out).mono ?_); rintro e w' ⟨rfl, ⟨nd, rfl⟩⟩; refine ⟨_, rfl, ?_⟩) | ((with_reducible refine gate_callee (f := 8) rfl ?_); refine goesL_ (some 24) rfl rfl Try.func8 (by kernel_rfl) rfl #[.int .i64 a0, .int .u16 a1, .int .u16 a2] rfl (by (try simp only [List.map_toArray, List.map_cons, List.map_nil]); first | done | rfl | (simp only [List.length_drop, List.length_take]; rfl)) ?_; (with_reducible refine (davitref01_Do.calls k a0 a1 a2 t113 t114 _ A7.out).mono ?_); rintro e w' ⟨rfl, ⟨nd, rfl⟩⟩; refine ⟨_, rfl, ?_⟩) | (go_at_call 9; (with_reducible refine (word_Pure.calls a0 t115 _ A10.out).mono ?_); rintro e w' ⟨rfl, ⟨nd, rfl⟩⟩) | (go_at_call 10; (with_reducible refine (word_Two.calls a0 t119 _ A24.out).mono ?_); rintro e w' ⟨rfl, ⟨nd, rfl⟩⟩))
                go_ret
                exact ⟨by first | rfl | (simp; done) | (simp [*]; done), by repeat (first | exact Drawn0.refl _ | apply Drawn0.step)⟩
            · rw [if_neg c25] at H
              have c25b0 : decide (3 ≤ a0) = false := decide_eq_false c25
              clear c25
              by_cases c30 : (t119 == false) = true
              · rw [if_pos c30] at H
                have c30b0 : (t119 == false) = true := c30
                (try (have c30b1 : decide (t119 = false) = true := by simpa using c30))
                (try (have c30b2 : (t119 == false) = true := by simpa using c30))
                clear c30
                replace H := Option.bind_eq_some_iff.mp H
                obtain ⟨t121, A310, H⟩ := H
                replace H : (if a0 = 3 then (some (t121 == true)) else (if a0 = 5 then (some (t121 == true)) else (some (t121 == (a0 == 7))))) = some r := H
                have A31 := Aside0.mk A310
                clear A310
                by_cases c32 : a0 = 3
                · rw [if_pos c32] at H
                  have c32b0 : (a0 == 3) = true := beq_iff_eq.mpr c32
                  have c32b1 : (a0 != 3) = false := bne_eq_false_iff_eq.mpr c32
                  clear c32
                  obtain rfl := Option.some.inj H
                  go_enter Try.func3, Try.ntmps3
                  go_wp2_with (first | ((with_reducible refine gate_callee (f := 6) rfl ?_); refine goesL_ (some 11) rfl rfl Try.func6 (by kernel_rfl) rfl #[] rfl (by (try simp only [List.map_toArray, List.map_cons, List.map_nil]); first | done | rfl | (simp only [List.length_drop, List.length_take]; rfl)) ?_; (with_reducible refine (davitlaw01_awake.calls  true _ A4.out).mono ?_); rintro e w' ⟨rfl, ⟨nd, rfl⟩⟩; refine ⟨_, rfl, ?_⟩) | ((with_reducible refine gate_callee (f := 7) rfl ?_); refine goesL_ (some 17) rfl rfl Try.func7 (by kernel_rfl) rfl #[.int .i64 a0, .int .u16 a1, .int .u16 a2] rfl (by (try simp only [List.map_toArray, List.map_cons, List.map_nil]); first | done | rfl | (simp only [List.length_drop, List.length_take]; rfl)) ?_; (with_reducible refine (word_Do.calls a0 a1 a2 t111 t112 _ A6.out).mono ?_); rintro e w' ⟨rfl, ⟨nd, rfl⟩⟩; refine ⟨_, rfl, ?_⟩) | ((with_reducible refine gate_callee (f := 8) rfl ?_); refine goesL_ (some 24) rfl rfl Try.func8 (by kernel_rfl) rfl #[.int .i64 a0, .int .u16 a1, .int .u16 a2] rfl (by (try simp only [List.map_toArray, List.map_cons, List.map_nil]); first | done | rfl | (simp only [List.length_drop, List.length_take]; rfl)) ?_; (with_reducible refine (davitref01_Do.calls k a0 a1 a2 t113 t114 _ A7.out).mono ?_); rintro e w' ⟨rfl, ⟨nd, rfl⟩⟩; refine ⟨_, rfl, ?_⟩) | (go_at_call 9; (with_reducible refine (word_Pure.calls a0 t115 _ A10.out).mono ?_); rintro e w' ⟨rfl, ⟨nd, rfl⟩⟩) | (go_at_call 10; (with_reducible refine (word_Two.calls a0 t119 _ A24.out).mono ?_); rintro e w' ⟨rfl, ⟨nd, rfl⟩⟩) | (go_at_call 11; (with_reducible refine (word_Turns.calls a0 t121 _ A31.out).mono ?_); rintro e w' ⟨rfl, ⟨nd, rfl⟩⟩))
                  go_ret
                  exact ⟨by first | rfl | (simp; done) | (simp [*]; done), by repeat (first | exact Drawn0.refl _ | apply Drawn0.step)⟩
                · rw [if_neg c32] at H
                  have c32b0 : (a0 == 3) = false := beq_eq_false_iff_ne.mpr c32
                  have c32b1 : (a0 != 3) = true := bne_iff_ne.mpr c32
                  by_cases c33 : a0 = 5
                  · rw [if_pos c33] at H
                    have c33b0 : (a0 == 5) = true := beq_iff_eq.mpr c33
                    have c33b1 : (a0 != 5) = false := bne_eq_false_iff_eq.mpr c33
                    clear c33
                    obtain rfl := Option.some.inj H
                    go_enter Try.func3, Try.ntmps3
                    go_wp2_with (first | ((with_reducible refine gate_callee (f := 6) rfl ?_); refine goesL_ (some 11) rfl rfl Try.func6 (by kernel_rfl) rfl #[] rfl (by (try simp only [List.map_toArray, List.map_cons, List.map_nil]); first | done | rfl | (simp only [List.length_drop, List.length_take]; rfl)) ?_; (with_reducible refine (davitlaw01_awake.calls  true _ A4.out).mono ?_); rintro e w' ⟨rfl, ⟨nd, rfl⟩⟩; refine ⟨_, rfl, ?_⟩) | ((with_reducible refine gate_callee (f := 7) rfl ?_); refine goesL_ (some 17) rfl rfl Try.func7 (by kernel_rfl) rfl #[.int .i64 a0, .int .u16 a1, .int .u16 a2] rfl (by (try simp only [List.map_toArray, List.map_cons, List.map_nil]); first | done | rfl | (simp only [List.length_drop, List.length_take]; rfl)) ?_; (with_reducible refine (word_Do.calls a0 a1 a2 t111 t112 _ A6.out).mono ?_); rintro e w' ⟨rfl, ⟨nd, rfl⟩⟩; refine ⟨_, rfl, ?_⟩) | ((with_reducible refine gate_callee (f := 8) rfl ?_); refine goesL_ (some 24) rfl rfl Try.func8 (by kernel_rfl) rfl #[.int .i64 a0, .int .u16 a1, .int .u16 a2] rfl (by (try simp only [List.map_toArray, List.map_cons, List.map_nil]); first | done | rfl | (simp only [List.length_drop, List.length_take]; rfl)) ?_; (with_reducible refine (davitref01_Do.calls k a0 a1 a2 t113 t114 _ A7.out).mono ?_); rintro e w' ⟨rfl, ⟨nd, rfl⟩⟩; refine ⟨_, rfl, ?_⟩) | (go_at_call 9; (with_reducible refine (word_Pure.calls a0 t115 _ A10.out).mono ?_); rintro e w' ⟨rfl, ⟨nd, rfl⟩⟩) | (go_at_call 10; (with_reducible refine (word_Two.calls a0 t119 _ A24.out).mono ?_); rintro e w' ⟨rfl, ⟨nd, rfl⟩⟩) | (go_at_call 11; (with_reducible refine (word_Turns.calls a0 t121 _ A31.out).mono ?_); rintro e w' ⟨rfl, ⟨nd, rfl⟩⟩))
                    go_ret
                    exact ⟨by first | rfl | (simp; done) | (simp [*]; done), by repeat (first | exact Drawn0.refl _ | apply Drawn0.step)⟩
                  · rw [if_neg c33] at H
                    have c33b0 : (a0 == 5) = false := beq_eq_false_iff_ne.mpr c33
                    have c33b1 : (a0 != 5) = true := bne_iff_ne.mpr c33
                    obtain rfl := Option.some.inj H
                    go_enter Try.func3, Try.ntmps3
                    go_wp2_with (first | ((with_reducible refine gate_callee (f := 6) rfl ?_); refine goesL_ (some 11) rfl rfl Try.func6 (by kernel_rfl) rfl #[] rfl (by (try simp only [List.map_toArray, List.map_cons, List.map_nil]); first | done | rfl | (simp only [List.length_drop, List.length_take]; rfl)) ?_; (with_reducible refine (davitlaw01_awake.calls  true _ A4.out).mono ?_); rintro e w' ⟨rfl, ⟨nd, rfl⟩⟩; refine ⟨_, rfl, ?_⟩) | ((with_reducible refine gate_callee (f := 7) rfl ?_); refine goesL_ (some 17) rfl rfl Try.func7 (by kernel_rfl) rfl #[.int .i64 a0, .int .u16 a1, .int .u16 a2] rfl (by (try simp only [List.map_toArray, List.map_cons, List.map_nil]); first | done | rfl | (simp only [List.length_drop, List.length_take]; rfl)) ?_; (with_reducible refine (word_Do.calls a0 a1 a2 t111 t112 _ A6.out).mono ?_); rintro e w' ⟨rfl, ⟨nd, rfl⟩⟩; refine ⟨_, rfl, ?_⟩) | ((with_reducible refine gate_callee (f := 8) rfl ?_); refine goesL_ (some 24) rfl rfl Try.func8 (by kernel_rfl) rfl #[.int .i64 a0, .int .u16 a1, .int .u16 a2] rfl (by (try simp only [List.map_toArray, List.map_cons, List.map_nil]); first | done | rfl | (simp only [List.length_drop, List.length_take]; rfl)) ?_; (with_reducible refine (davitref01_Do.calls k a0 a1 a2 t113 t114 _ A7.out).mono ?_); rintro e w' ⟨rfl, ⟨nd, rfl⟩⟩; refine ⟨_, rfl, ?_⟩) | (go_at_call 9; (with_reducible refine (word_Pure.calls a0 t115 _ A10.out).mono ?_); rintro e w' ⟨rfl, ⟨nd, rfl⟩⟩) | (go_at_call 10; (with_reducible refine (word_Two.calls a0 t119 _ A24.out).mono ?_); rintro e w' ⟨rfl, ⟨nd, rfl⟩⟩) | (go_at_call 11; (with_reducible refine (word_Turns.calls a0 t121 _ A31.out).mono ?_); rintro e w' ⟨rfl, ⟨nd, rfl⟩⟩))
                    go_ret
                    exact ⟨by first | rfl | (simp; done) | (simp [*]; done), by repeat (first | exact Drawn0.refl _ | apply Drawn0.step)⟩
              · rw [if_neg c30] at H
                have c30b0 : (t119 == false) = false := by simpa using c30
                (try (have c30b1 : decide (t119 = false) = false := by simpa using c30))
                (try (have c30b2 : (t119 == false) = false := by simpa using c30))
                (try (have c30b3 : ¬ (t119 = false) := by simpa using c30))
                clear c30
                obtain rfl := Option.some.inj H
                go_enter Try.func3, Try.ntmps3
                go_wp2_with (first | ((with_reducible refine gate_callee (f := 6) rfl ?_); refine goesL_ (some 11) rfl rfl Try.func6 (by kernel_rfl) rfl #[] rfl (by (try simp only [List.map_toArray, List.map_cons, List.map_nil]); first | done | rfl | (simp only [List.length_drop, List.length_take]; rfl)) ?_; (with_reducible refine (davitlaw01_awake.calls  true _ A4.out).mono ?_); rintro e w' ⟨rfl, ⟨nd, rfl⟩⟩; refine ⟨_, rfl, ?_⟩) | ((with_reducible refine gate_callee (f := 7) rfl ?_); refine goesL_ (some 17) rfl rfl Try.func7 (by kernel_rfl) rfl #[.int .i64 a0, .int .u16 a1, .int .u16 a2] rfl (by (try simp only [List.map_toArray, List.map_cons, List.map_nil]); first | done | rfl | (simp only [List.length_drop, List.length_take]; rfl)) ?_; (with_reducible refine (word_Do.calls a0 a1 a2 t111 t112 _ A6.out).mono ?_); rintro e w' ⟨rfl, ⟨nd, rfl⟩⟩; refine ⟨_, rfl, ?_⟩) | ((with_reducible refine gate_callee (f := 8) rfl ?_); refine goesL_ (some 24) rfl rfl Try.func8 (by kernel_rfl) rfl #[.int .i64 a0, .int .u16 a1, .int .u16 a2] rfl (by (try simp only [List.map_toArray, List.map_cons, List.map_nil]); first | done | rfl | (simp only [List.length_drop, List.length_take]; rfl)) ?_; (with_reducible refine (davitref01_Do.calls k a0 a1 a2 t113 t114 _ A7.out).mono ?_); rintro e w' ⟨rfl, ⟨nd, rfl⟩⟩; refine ⟨_, rfl, ?_⟩) | (go_at_call 9; (with_reducible refine (word_Pure.calls a0 t115 _ A10.out).mono ?_); rintro e w' ⟨rfl, ⟨nd, rfl⟩⟩) | (go_at_call 10; (with_reducible refine (word_Two.calls a0 t119 _ A24.out).mono ?_); rintro e w' ⟨rfl, ⟨nd, rfl⟩⟩))
                go_ret
                exact ⟨by first | rfl | (simp; done) | (simp [*]; done), by repeat (first | exact Drawn0.refl _ | apply Drawn0.step)⟩
          · rw [if_neg c23] at H
            have c23b0 : (t115 == false) = false := by simpa using c23
            (try (have c23b1 : decide (t115 = false) = false := by simpa using c23))
            (try (have c23b2 : (t115 == false) = false := by simpa using c23))
            (try (have c23b3 : ¬ (t115 = false) := by simpa using c23))
            clear c23
            obtain rfl := Option.some.inj H
            go_enter Try.func3, Try.ntmps3
            go_wp2_with (first | ((with_reducible refine gate_callee (f := 6) rfl ?_); refine goesL_ (some 11) rfl rfl Try.func6 (by kernel_rfl) rfl #[] rfl (by (try simp only [List.map_toArray, List.map_cons, List.map_nil]); first | done | rfl | (simp only [List.length_drop, List.length_take]; rfl)) ?_; (with_reducible refine (davitlaw01_awake.calls  true _ A4.out).mono ?_); rintro e w' ⟨rfl, ⟨nd, rfl⟩⟩; refine ⟨_, rfl, ?_⟩) | ((with_reducible refine gate_callee (f := 7) rfl ?_); refine goesL_ (some 17) rfl rfl Try.func7 (by kernel_rfl) rfl #[.int .i64 a0, .int .u16 a1, .int .u16 a2] rfl (by (try simp only [List.map_toArray, List.map_cons, List.map_nil]); first | done | rfl | (simp only [List.length_drop, List.length_take]; rfl)) ?_; (with_reducible refine (word_Do.calls a0 a1 a2 t111 t112 _ A6.out).mono ?_); rintro e w' ⟨rfl, ⟨nd, rfl⟩⟩; refine ⟨_, rfl, ?_⟩) | ((with_reducible refine gate_callee (f := 8) rfl ?_); refine goesL_ (some 24) rfl rfl Try.func8 (by kernel_rfl) rfl #[.int .i64 a0, .int .u16 a1, .int .u16 a2] rfl (by (try simp only [List.map_toArray, List.map_cons, List.map_nil]); first | done | rfl | (simp only [List.length_drop, List.length_take]; rfl)) ?_; (with_reducible refine (davitref01_Do.calls k a0 a1 a2 t113 t114 _ A7.out).mono ?_); rintro e w' ⟨rfl, ⟨nd, rfl⟩⟩; refine ⟨_, rfl, ?_⟩) | (go_at_call 9; (with_reducible refine (word_Pure.calls a0 t115 _ A10.out).mono ?_); rintro e w' ⟨rfl, ⟨nd, rfl⟩⟩))
            go_ret
            exact ⟨by first | rfl | (simp; done) | (simp [*]; done), by repeat (first | exact Drawn0.refl _ | apply Drawn0.step)⟩
      · rw [if_neg c9] at H
        have c9b0 : (t112 == t114) = false := by simpa using c9
        (try (have c9b1 : decide (t112 = t114) = false := by simpa using c9))
        (try (have c9b2 : (t112 == t114) = false := by simpa using c9))
        (try (have c9b3 : ¬ (t112 = t114) := by simpa using c9))
        clear c9
        obtain rfl := Option.some.inj H
        go_enter Try.func3, Try.ntmps3
        go_wp2_with (first | ((with_reducible refine gate_callee (f := 6) rfl ?_); refine goesL_ (some 11) rfl rfl Try.func6 (by kernel_rfl) rfl #[] rfl (by (try simp only [List.map_toArray, List.map_cons, List.map_nil]); first | done | rfl | (simp only [List.length_drop, List.length_take]; rfl)) ?_; (with_reducible refine (davitlaw01_awake.calls  true _ A4.out).mono ?_); rintro e w' ⟨rfl, ⟨nd, rfl⟩⟩; refine ⟨_, rfl, ?_⟩) | ((with_reducible refine gate_callee (f := 7) rfl ?_); refine goesL_ (some 17) rfl rfl Try.func7 (by kernel_rfl) rfl #[.int .i64 a0, .int .u16 a1, .int .u16 a2] rfl (by (try simp only [List.map_toArray, List.map_cons, List.map_nil]); first | done | rfl | (simp only [List.length_drop, List.length_take]; rfl)) ?_; (with_reducible refine (word_Do.calls a0 a1 a2 t111 t112 _ A6.out).mono ?_); rintro e w' ⟨rfl, ⟨nd, rfl⟩⟩; refine ⟨_, rfl, ?_⟩) | ((with_reducible refine gate_callee (f := 8) rfl ?_); refine goesL_ (some 24) rfl rfl Try.func8 (by kernel_rfl) rfl #[.int .i64 a0, .int .u16 a1, .int .u16 a2] rfl (by (try simp only [List.map_toArray, List.map_cons, List.map_nil]); first | done | rfl | (simp only [List.length_drop, List.length_take]; rfl)) ?_; (with_reducible refine (davitref01_Do.calls k a0 a1 a2 t113 t114 _ A7.out).mono ?_); rintro e w' ⟨rfl, ⟨nd, rfl⟩⟩; refine ⟨_, rfl, ?_⟩))
        go_ret
        exact ⟨by first | rfl | (simp; done) | (simp [*]; done), by repeat (first | exact Drawn0.refl _ | apply Drawn0.step)⟩
    · rw [if_neg c8] at H
      have c8b0 : (t111 == t113) = false := beq_eq_false_iff_ne.mpr c8
      have c8b1 : (t111 != t113) = true := bne_iff_ne.mpr c8
      obtain rfl := Option.some.inj H
      go_enter Try.func3, Try.ntmps3
      go_wp2_with (first | ((with_reducible refine gate_callee (f := 6) rfl ?_); refine goesL_ (some 11) rfl rfl Try.func6 (by kernel_rfl) rfl #[] rfl (by (try simp only [List.map_toArray, List.map_cons, List.map_nil]); first | done | rfl | (simp only [List.length_drop, List.length_take]; rfl)) ?_; (with_reducible refine (davitlaw01_awake.calls  true _ A4.out).mono ?_); rintro e w' ⟨rfl, ⟨nd, rfl⟩⟩; refine ⟨_, rfl, ?_⟩) | ((with_reducible refine gate_callee (f := 7) rfl ?_); refine goesL_ (some 17) rfl rfl Try.func7 (by kernel_rfl) rfl #[.int .i64 a0, .int .u16 a1, .int .u16 a2] rfl (by (try simp only [List.map_toArray, List.map_cons, List.map_nil]); first | done | rfl | (simp only [List.length_drop, List.length_take]; rfl)) ?_; (with_reducible refine (word_Do.calls a0 a1 a2 t111 t112 _ A6.out).mono ?_); rintro e w' ⟨rfl, ⟨nd, rfl⟩⟩; refine ⟨_, rfl, ?_⟩) | ((with_reducible refine gate_callee (f := 8) rfl ?_); refine goesL_ (some 24) rfl rfl Try.func8 (by kernel_rfl) rfl #[.int .i64 a0, .int .u16 a1, .int .u16 a2] rfl (by (try simp only [List.map_toArray, List.map_cons, List.map_nil]); first | done | rfl | (simp only [List.length_drop, List.length_take]; rfl)) ?_; (with_reducible refine (davitref01_Do.calls k a0 a1 a2 t113 t114 _ A7.out).mono ?_); rintro e w' ⟨rfl, ⟨nd, rfl⟩⟩; refine ⟨_, rfl, ?_⟩))
      go_ret
      exact ⟨by first | rfl | (simp; done) | (simp [*]; done), by repeat (first | exact Drawn0.refl _ | apply Drawn0.step)⟩
  · replace c5 := Bool.eq_false_iff.mpr c5
    subst c5
    have H1 : (some false) = some r := by rw [if_neg (show ¬ (false = true) by decide)] at H; exact H
    clear H
    have H := H1
    clear H1
    obtain rfl := Option.some.inj H
    go_enter Try.func3, Try.ntmps3
    go_wp2_with (first | ((with_reducible refine gate_callee (f := 6) rfl ?_); refine goesL_ (some 11) rfl rfl Try.func6 (by kernel_rfl) rfl #[] rfl (by (try simp only [List.map_toArray, List.map_cons, List.map_nil]); first | done | rfl | (simp only [List.length_drop, List.length_take]; rfl)) ?_; (with_reducible refine (davitlaw01_awake.calls  false _ A4.out).mono ?_); rintro e w' ⟨rfl, ⟨nd, rfl⟩⟩; refine ⟨_, rfl, ?_⟩))
    go_ret
    exact ⟨by first | rfl | (simp; done) | (simp [*]; done), by repeat (first | exact Drawn0.refl _ | apply Drawn0.step)⟩

/-- THE ONE PURE STATEMENT of davitlaw01_WordRight: yours. -/
def davitlaw01_WordRight.Pure : Prop := ∀ (a0 : Int) (a1 : Int) (a2 : Int), (Lit.int .i64 a0).wf = true → (Lit.int .u16 a1).wf = true → (Lit.int .u16 a2).wf = true → ∃ k, davitlaw01_WordRight.f k a0 a1 a2 = some true
theorem davitlaw01_WordRight.walk (P : davitlaw01_WordRight.Pure) (a0 : Int) (a1 : Int) (a2 : Int) (w : World) (w0 : (Lit.int .i64 a0).wf = true) (w1 : (Lit.int .u16 a1).wf = true) (w2 : (Lit.int .u16 a2).wf = true) :
    Calls Try.prog 3 #[.int .i64 a0, .int .u16 a1, .int .u16 a2] w fun e w' => e = .returned (.bool true) ∧ Below w.heap.size w w' := by
  obtain ⟨k, h⟩ := P a0 a1 a2 w0 w1 w2
  refine (davitlaw01_WordRight.calls k a0 a1 a2 true w h).mono ?_
  rintro e w' ⟨rfl, hd⟩
  exact ⟨rfl, hd.below⟩

end Go.Proofs.Ytckgbbboknjkoaa.PWordRight
