/- What was put to a word is taken away again; a division and its rest make it up; what turns answers the same turned; only a division by 0 of those that are such has no answer. No condition. (Lines that print.sh printed, turned: one way that cannot be is closed by hand.) -/
import Derived.Test.YtckgbbboknjkoaaPWordRoundx0
import Derived.Test.YtckgbbboknjkoaaPWordRoundx1
namespace Go.Proofs.Ytckgbbboknjkoaa.PWordRound
open Go.RowKit Go.Proofs.YtckgbbboknjkoaaW.PrintWords Go.Proofs.YtckgbbboknjkoaaW.PrintLast Go.Proofs.YtckgbbboknjkoaaW.PrintMore
attribute [local go_sem] max2_int min2_int max_two min_two max_three min_three max_four min_four   -- for this text's walks alone
set_option linter.unusedVariables false
set_option linter.all false

/-! ### davitlaw01_WordRound: function 4 -/
mutual
def davitlaw01_WordRound.j0 : Nat → Int → Int → Int → Bool → Option (Bool)
  | 0, _, _, _, _ => none
  | k + 1, x0, x1, x2, x47 => if x47 = true then (some false) else ((word_Do.f 6 x1 x2).bind fun bt115 => (if bt115.2 = true then ((word_Do.f 5 bt115.1 x2).bind fun bt117 => ((word_Do.f 4 x1 bt117.1).bind fun bt119 => ((word_Do.f 8 bt119.1 x2).bind fun bt121 => (if bt117.2 = true then (if bt119.2 = true then (if bt121.2 = true then (if bt121.1 = 1 then (if bt117.1 > x1 then (some false) else (davitlaw01_WordRound.j1 k x0 x1 x2)) else (some false)) else (some false)) else (some false)) else (some false))))) else (davitlaw01_WordRound.j1 k x0 x1 x2)))
def davitlaw01_WordRound.j1 : Nat → Int → Int → Int → Option (Bool)
  | 0, _, _, _ => none
  | k + 1, x0, x1, x2 => (word_Do.f x0 x1 x2).bind fun bt123 => ((word_Do.f x0 x2 x1).bind fun bt125 => ((word_Turns.f x0).bind fun t127 => (if t127 = true then (if bt123.2 = true then (if bt125.2 = true then (if bt123.1 = bt125.1 then ((word_Pure.f x0).bind fun t128 => (if t128 = true then (if x0 = 6 then (if (bt123.2 == (x2 != 0)) = true then (some true) else (some false)) else (if (bt123.2 == true) = true then (some true) else (some false))) else (if (bt123.2 == false) = true then (some true) else (some false)))) else (some false)) else (some false)) else (some false)) else ((word_Pure.f x0).bind fun t129 => (if t129 = true then (if x0 = 6 then (if (bt123.2 == (x2 != 0)) = true then (if bt123.2 = true then (some true) else (some (bt123.1 == 0))) else (some false)) else (if (bt123.2 == true) = true then (if bt123.2 = true then (some true) else (some (bt123.1 == 0))) else (some false))) else (if (bt123.2 == false) = true then (if bt123.2 = true then (some true) else (some (bt123.1 == 0))) else (some false)))))))
end
def davitlaw01_WordRound.f (k : Nat) (a0 : Int) (a1 : Int) (a2 : Int) : Option (Bool) := (davitlaw01_awake.f).bind fun t110 => (if t110 = true then ((word_Do.f 3 a1 a2).bind fun bt111 => ((word_Do.f 4 bt111.1 a2).bind fun bt113 => (if bt111.2 = true then (if bt113.2 = true then (davitlaw01_WordRound.j0 k a0 a1 a2 (bt113.1 != a1)) else (davitlaw01_WordRound.j0 k a0 a1 a2 true)) else (davitlaw01_WordRound.j0 k a0 a1 a2 true)))) else (some false))
theorem davitlaw01_WordRound.mono_l : ∀ k, (∀ y0 y1 y2 y3, LeO (davitlaw01_WordRound.j0 k y0 y1 y2 y3) (davitlaw01_WordRound.j0 (k + 1) y0 y1 y2 y3)) ∧ (∀ y0 y1 y2, LeO (davitlaw01_WordRound.j1 k y0 y1 y2) (davitlaw01_WordRound.j1 (k + 1) y0 y1 y2))
  | 0 => ⟨fun _ _ _ _ r h => by simp [davitlaw01_WordRound.j0] at h, fun _ _ _ r h => by simp [davitlaw01_WordRound.j1] at h⟩
  | k + 1 => by
    obtain ⟨ih0, ih1⟩ := davitlaw01_WordRound.mono_l k
    refine ⟨?_, ?_⟩
    · intro y0 y1 y2 y3
      unfold davitlaw01_WordRound.j0
      repeat' first
      | (with_reducible exact ih0 _ _ _ _)
      | (with_reducible exact ih1 _ _ _)
      | (with_reducible exact LeO.refl _)
      | (with_reducible exact LeO.none _)
      | (with_reducible refine LeO.ite ?_ ?_)
      | (with_reducible refine LeO.bind ?_ (fun _ => ?_))
      | exact ih0 _ _ _ _
      | exact ih1 _ _ _
      | exact LeO.none _
      | refine LeO.ite ?_ ?_
      | refine LeO.bind ?_ (fun _ => ?_)
    · intro y0 y1 y2
      unfold davitlaw01_WordRound.j1
      repeat' first
      | (with_reducible exact ih0 _ _ _ _)
      | (with_reducible exact ih1 _ _ _)
      | (with_reducible exact LeO.refl _)
      | (with_reducible exact LeO.none _)
      | (with_reducible refine LeO.ite ?_ ?_)
      | (with_reducible refine LeO.bind ?_ (fun _ => ?_))
      | exact ih0 _ _ _ _
      | exact ih1 _ _ _
      | exact LeO.none _
      | refine LeO.ite ?_ ?_
      | refine LeO.bind ?_ (fun _ => ?_)
theorem davitlaw01_WordRound.mono : ∀ a0 a1 a2 k, LeO (davitlaw01_WordRound.f k a0 a1 a2) (davitlaw01_WordRound.f (k + 1) a0 a1 a2) := by
  intro a0 a1 a2 k
  obtain ⟨ih0, ih1⟩ := davitlaw01_WordRound.mono_l k
  unfold davitlaw01_WordRound.f
  repeat' first
      | (with_reducible exact ih0 _ _ _ _)
      | (with_reducible exact ih1 _ _ _)
      | (with_reducible exact LeO.refl _)
      | (with_reducible exact LeO.none _)
      | (with_reducible refine LeO.ite ?_ ?_)
      | (with_reducible refine LeO.bind ?_ (fun _ => ?_))
      | exact ih0 _ _ _ _
      | exact ih1 _ _ _
      | exact LeO.none _
      | refine LeO.ite ?_ ?_
      | refine LeO.bind ?_ (fun _ => ?_)
set_option maxHeartbeats 8000000 in
set_option maxRecDepth 100000 in
theorem davitlaw01_WordRound.calls (k : Nat) (a0 : Int) (a1 : Int) (a2 : Int) (r : Bool) (w : World) (h : davitlaw01_WordRound.f k a0 a1 a2 = some r) :
    Calls Try.prog 4 #[.int .i64 a0, .int .u16 a1, .int .u16 a2] w fun e w' => e = .returned (.bool r) ∧ Drawn0 w w' := by
  have H : ((davitlaw01_awake.f).bind fun t110 => (if t110 = true then ((word_Do.f 3 a1 a2).bind fun bt111 => ((word_Do.f 4 bt111.1 a2).bind fun bt113 => (if bt111.2 = true then (if bt113.2 = true then (davitlaw01_WordRound.j0 k a0 a1 a2 (bt113.1 != a1)) else (davitlaw01_WordRound.j0 k a0 a1 a2 true)) else (davitlaw01_WordRound.j0 k a0 a1 a2 true)))) else (some false))) = some r := h
  clear h
  replace H := Option.bind_eq_some_iff.mp H
  obtain ⟨t110, A40, H⟩ := H
  replace H : (if t110 = true then ((word_Do.f 3 a1 a2).bind fun bt111 => ((word_Do.f 4 bt111.1 a2).bind fun bt113 => (if bt111.2 = true then (if bt113.2 = true then (davitlaw01_WordRound.j0 k a0 a1 a2 (bt113.1 != a1)) else (davitlaw01_WordRound.j0 k a0 a1 a2 true)) else (davitlaw01_WordRound.j0 k a0 a1 a2 true)))) else (some false)) = some r := H
  have A4 := Aside0.mk A40
  clear A40
  by_cases c5 : t110 = true
  · subst c5
    have H1 : ((word_Do.f 3 a1 a2).bind fun bt111 => ((word_Do.f 4 bt111.1 a2).bind fun bt113 => (if bt111.2 = true then (if bt113.2 = true then (davitlaw01_WordRound.j0 k a0 a1 a2 (bt113.1 != a1)) else (davitlaw01_WordRound.j0 k a0 a1 a2 true)) else (davitlaw01_WordRound.j0 k a0 a1 a2 true)))) = some r := by rw [if_pos rfl] at H; exact H
    clear H
    have H := H1
    clear H1
    replace H := Option.bind_eq_some_iff.mp H
    obtain ⟨⟨t111, t112⟩, A60, H⟩ := H
    replace H : ((word_Do.f 4 t111 a2).bind fun bt113 => (if t112 = true then (if bt113.2 = true then (davitlaw01_WordRound.j0 k a0 a1 a2 (bt113.1 != a1)) else (davitlaw01_WordRound.j0 k a0 a1 a2 true)) else (davitlaw01_WordRound.j0 k a0 a1 a2 true))) = some r := H
    have A6 := Aside0.mk A60
    clear A60
    replace H := Option.bind_eq_some_iff.mp H
    obtain ⟨⟨t113, t114⟩, A70, H⟩ := H
    replace H : (if t112 = true then (if t114 = true then (davitlaw01_WordRound.j0 k a0 a1 a2 (t113 != a1)) else (davitlaw01_WordRound.j0 k a0 a1 a2 true)) else (davitlaw01_WordRound.j0 k a0 a1 a2 true)) = some r := H
    have A7 := Aside0.mk A70
    clear A70
    have HC8 := Aside0.mk H
    clear H
    go_enter Try.func4, Try.ntmps4
    go_upto_region 5 with (first | ((with_reducible refine gate_callee (f := 6) rfl ?_); refine goesL_ (some 23) rfl rfl Try.func6 (by kernel_rfl) rfl #[] rfl (by (try simp only [List.map_toArray, List.map_cons, List.map_nil]); first | done | rfl | (simp only [List.length_drop, List.length_take]; rfl)) ?_; (with_reducible refine (davitlaw01_awake.calls  true _ A4.out).mono ?_); rintro e w' ⟨rfl, ⟨nd, rfl⟩⟩; refine ⟨_, rfl, ?_⟩) | ((with_reducible refine gate_callee (f := 7) rfl ?_); refine goesL_ (some 28) rfl rfl Try.func7 (by kernel_rfl) rfl #[.int .i64 3, .int .u16 a1, .int .u16 a2] rfl (by (try simp only [List.map_toArray, List.map_cons, List.map_nil]); first | done | rfl | (simp only [List.length_drop, List.length_take]; rfl)) ?_; (with_reducible refine (word_Do.calls 3 a1 a2 t111 t112 _ A6.out).mono ?_); rintro e w' ⟨rfl, ⟨nd, rfl⟩⟩; refine ⟨_, rfl, ?_⟩) | ((with_reducible refine gate_callee (f := 7) rfl ?_); refine goesL_ (some 34) rfl rfl Try.func7 (by kernel_rfl) rfl #[.int .i64 4, .int .u16 t111, .int .u16 a2] rfl (by (try simp only [List.map_toArray, List.map_cons, List.map_nil]); first | done | rfl | (simp only [List.length_drop, List.length_take]; rfl)) ?_; (with_reducible refine (word_Do.calls 4 t111 a2 t113 t114 _ A7.out).mono ?_); rintro e w' ⟨rfl, ⟨nd, rfl⟩⟩; refine ⟨_, rfl, ?_⟩))
    (try simp only [Act.put, List.setIfInBounds_toArray, List.set_cons_zero, List.set_cons_succ])
    go_cut [47] (fun v47 wc => ∃ (kq : Nat) (x47_7 : Bool), v47 = .bool x47_7 ∧ Aside0 (davitlaw01_WordRound.j0 kq a0 a1 a2 x47_7 = some r) ∧ Aside0 (kq ≤ k) ∧ Drawn0 w wc)
    case first =>
      have H := HC8.out
      clear HC8
      by_cases c9 : t112 = true
      · subst c9
        have H1 : (if t114 = true then (davitlaw01_WordRound.j0 k a0 a1 a2 (t113 != a1)) else (davitlaw01_WordRound.j0 k a0 a1 a2 true)) = some r := by rw [if_pos rfl] at H; exact H
        clear H
        have H := H1
        clear H1
        by_cases c10 : t114 = true
        · subst c10
          have H1 : (davitlaw01_WordRound.j0 k a0 a1 a2 (t113 != a1)) = some r := by rw [if_pos rfl] at H; exact H
          clear H
          have H := H1
          clear H1
          have H' := Aside0.mk H
          clear H
          go_wp2
          go_meet
          case rel => exact ⟨_, ((t113 != a1)), (by first | rfl | (simp; done) | (simp [*]; done)), H', ⟨by first | omega | exact Nat.le_refl _⟩, by repeat (first | exact Drawn0.refl _ | apply Drawn0.step)⟩
        · replace c10 := Bool.eq_false_iff.mpr c10
          subst c10
          have H1 : (davitlaw01_WordRound.j0 k a0 a1 a2 true) = some r := by rw [if_neg (show ¬ (false = true) by decide)] at H; exact H
          clear H
          have H := H1
          clear H1
          have H' := Aside0.mk H
          clear H
          go_wp2
          go_meet
          case rel => exact ⟨_, (true), (by first | rfl | (simp; done) | (simp [*]; done)), H', ⟨by first | omega | exact Nat.le_refl _⟩, by repeat (first | exact Drawn0.refl _ | apply Drawn0.step)⟩
      · replace c9 := Bool.eq_false_iff.mpr c9
        subst c9
        have H1 : (davitlaw01_WordRound.j0 k a0 a1 a2 true) = some r := by rw [if_neg (show ¬ (false = true) by decide)] at H; exact H
        clear H
        have H := H1
        clear H1
        have H' := Aside0.mk H
        clear H
        go_wp2
        go_meet
        case rel => exact ⟨_, (true), (by first | rfl | (simp; done) | (simp [*]; done)), H', ⟨by first | omega | exact Nat.le_refl _⟩, by repeat (first | exact Drawn0.refl _ | apply Drawn0.step)⟩
    case rest =>
      clear HC8
      try clear c1
      try clear p2
      try clear c4
      try clear c5
      try clear c6
      try clear c7
      try clear c9
      try clear c10
      obtain ⟨kq, x47_7, rfl, HA, HJ7, ⟨mc7, rfl⟩⟩ := hcut
      cases kq with
      | zero => exact absurd HA.out (by simp [davitlaw01_WordRound.j0])
      | succ kj7 =>
        have H := HA.out
        clear HA
        simp only [davitlaw01_WordRound.j0] at H
        by_cases c11 : x47_7 = true
        · subst c11
          have H1 : (some false) = some r := by rw [if_pos rfl] at H; exact H
          clear H
          have H := H1
          clear H1
          obtain rfl := Option.some.inj H
          go_wp2
          go_ret
          exact ⟨by first | rfl | (simp; done) | (simp [*]; done), by repeat (first | exact Drawn0.refl _ | apply Drawn0.step)⟩
        · replace c11 := Bool.eq_false_iff.mpr c11
          subst c11
          have H1 : ((word_Do.f 6 a1 a2).bind fun bt115 => (if bt115.2 = true then ((word_Do.f 5 bt115.1 a2).bind fun bt117 => ((word_Do.f 4 a1 bt117.1).bind fun bt119 => ((word_Do.f 8 bt119.1 a2).bind fun bt121 => (if bt117.2 = true then (if bt119.2 = true then (if bt121.2 = true then (if bt121.1 = 1 then (if bt117.1 > a1 then (some false) else (davitlaw01_WordRound.j1 kj7 a0 a1 a2)) else (some false)) else (some false)) else (some false)) else (some false))))) else (davitlaw01_WordRound.j1 kj7 a0 a1 a2))) = some r := by rw [if_neg (show ¬ (false = true) by decide)] at H; exact H
          clear H
          have H := H1
          clear H1
          replace H := Option.bind_eq_some_iff.mp H
          obtain ⟨⟨t115, t116⟩, A120, H⟩ := H
          replace H : (if t116 = true then ((word_Do.f 5 t115 a2).bind fun bt117 => ((word_Do.f 4 a1 bt117.1).bind fun bt119 => ((word_Do.f 8 bt119.1 a2).bind fun bt121 => (if bt117.2 = true then (if bt119.2 = true then (if bt121.2 = true then (if bt121.1 = 1 then (if bt117.1 > a1 then (some false) else (davitlaw01_WordRound.j1 kj7 a0 a1 a2)) else (some false)) else (some false)) else (some false)) else (some false))))) else (davitlaw01_WordRound.j1 kj7 a0 a1 a2)) = some r := H
          have A12 := Aside0.mk A120
          clear A120
          have HC13 := Aside0.mk H
          clear H
          go_upto_if 54 with (first | ((with_reducible refine gate_callee (f := 7) rfl ?_); refine goesL_ (some 51) rfl rfl Try.func7 (by kernel_rfl) rfl #[.int .i64 6, .int .u16 a1, .int .u16 a2] rfl (by (try simp only [List.map_toArray, List.map_cons, List.map_nil]); first | done | rfl | (simp only [List.length_drop, List.length_take]; rfl)) ?_; (with_reducible refine (word_Do.calls 6 a1 a2 t115 t116 _ A12.out).mono ?_); rintro e w' ⟨rfl, ⟨nd, rfl⟩⟩; refine ⟨_, rfl, ?_⟩))
          (try simp only [Act.put, List.setIfInBounds_toArray, List.set_cons_zero, List.set_cons_succ])
          go_cut [] (fun wc => ∃ (kq : Nat), Aside0 (davitlaw01_WordRound.j1 kq a0 a1 a2 = some r) ∧ Aside0 (kq ≤ kj7) ∧ Drawn0 w wc)
          case first =>
            have H := HC13.out
            clear HC13
            by_cases c14 : t116 = true
            · subst c14
              have H1 : ((word_Do.f 5 t115 a2).bind fun bt117 => ((word_Do.f 4 a1 bt117.1).bind fun bt119 => ((word_Do.f 8 bt119.1 a2).bind fun bt121 => (if bt117.2 = true then (if bt119.2 = true then (if bt121.2 = true then (if bt121.1 = 1 then (if bt117.1 > a1 then (some false) else (davitlaw01_WordRound.j1 kj7 a0 a1 a2)) else (some false)) else (some false)) else (some false)) else (some false))))) = some r := by rw [if_pos rfl] at H; exact H
              clear H
              have H := H1
              clear H1
              replace H := Option.bind_eq_some_iff.mp H
              obtain ⟨⟨t117, t118⟩, A150, H⟩ := H
              replace H : ((word_Do.f 4 a1 t117).bind fun bt119 => ((word_Do.f 8 bt119.1 a2).bind fun bt121 => (if t118 = true then (if bt119.2 = true then (if bt121.2 = true then (if bt121.1 = 1 then (if t117 > a1 then (some false) else (davitlaw01_WordRound.j1 kj7 a0 a1 a2)) else (some false)) else (some false)) else (some false)) else (some false)))) = some r := H
              have A15 := Aside0.mk A150
              clear A150
              replace H := Option.bind_eq_some_iff.mp H
              obtain ⟨⟨t119, t120⟩, A160, H⟩ := H
              replace H : ((word_Do.f 8 t119 a2).bind fun bt121 => (if t118 = true then (if t120 = true then (if bt121.2 = true then (if bt121.1 = 1 then (if t117 > a1 then (some false) else (davitlaw01_WordRound.j1 kj7 a0 a1 a2)) else (some false)) else (some false)) else (some false)) else (some false))) = some r := H
              have A16 := Aside0.mk A160
              clear A160
              replace H := Option.bind_eq_some_iff.mp H
              obtain ⟨⟨t121, t122⟩, A170, H⟩ := H
              replace H : (if t118 = true then (if t120 = true then (if t122 = true then (if t121 = 1 then (if t117 > a1 then (some false) else (davitlaw01_WordRound.j1 kj7 a0 a1 a2)) else (some false)) else (some false)) else (some false)) else (some false)) = some r := H
              have A17 := Aside0.mk A170
              clear A170
              by_cases c18 : t118 = true
              · subst c18
                have H1 : (if t120 = true then (if t122 = true then (if t121 = 1 then (if t117 > a1 then (some false) else (davitlaw01_WordRound.j1 kj7 a0 a1 a2)) else (some false)) else (some false)) else (some false)) = some r := by rw [if_pos rfl] at H; exact H
                clear H
                have H := H1
                clear H1
                by_cases c19 : t120 = true
                · subst c19
                  have H1 : (if t122 = true then (if t121 = 1 then (if t117 > a1 then (some false) else (davitlaw01_WordRound.j1 kj7 a0 a1 a2)) else (some false)) else (some false)) = some r := by rw [if_pos rfl] at H; exact H
                  clear H
                  have H := H1
                  clear H1
                  by_cases c20 : t122 = true
                  · subst c20
                    have H1 : (if t121 = 1 then (if t117 > a1 then (some false) else (davitlaw01_WordRound.j1 kj7 a0 a1 a2)) else (some false)) = some r := by rw [if_pos rfl] at H; exact H
                    clear H
                    have H := H1
                    clear H1
                    by_cases c21 : t121 = 1
                    · rw [if_pos c21] at H
                      have c21b0 : (t121 == 1) = true := beq_iff_eq.mpr c21
                      have c21b1 : (t121 != 1) = false := bne_eq_false_iff_eq.mpr c21
                      clear c21
                      (first | rw [c21b0] | (simp only [i64_w, i32_w]; rw [c21b0]) | skip)
                      by_cases c22 : t117 > a1
                      · rw [if_pos c22] at H
                        have c22b0 : decide (a1 < t117) = true := decide_eq_true c22
                        clear c22
                        obtain rfl := Option.some.inj H
                        go_wp2_with (first | ((with_reducible refine gate_callee (f := 7) rfl ?_); refine goesL_ (some 58) rfl rfl Try.func7 (by kernel_rfl) rfl #[.int .i64 5, .int .u16 t115, .int .u16 a2] rfl (by (try simp only [List.map_toArray, List.map_cons, List.map_nil]); first | done | rfl | (simp only [List.length_drop, List.length_take]; rfl)) ?_; (with_reducible refine (word_Do.calls 5 t115 a2 t117 true _ A15.out).mono ?_); rintro e w' ⟨rfl, ⟨nd, rfl⟩⟩; refine ⟨_, rfl, ?_⟩) | ((with_reducible refine gate_callee (f := 7) rfl ?_); refine goesL_ (some 64) rfl rfl Try.func7 (by kernel_rfl) rfl #[.int .i64 4, .int .u16 a1, .int .u16 t117] rfl (by (try simp only [List.map_toArray, List.map_cons, List.map_nil]); first | done | rfl | (simp only [List.length_drop, List.length_take]; rfl)) ?_; (with_reducible refine (word_Do.calls 4 a1 t117 t119 true _ A16.out).mono ?_); rintro e w' ⟨rfl, ⟨nd, rfl⟩⟩; refine ⟨_, rfl, ?_⟩) | ((with_reducible refine gate_callee (f := 7) rfl ?_); refine goesL_ (some 70) rfl rfl Try.func7 (by kernel_rfl) rfl #[.int .i64 8, .int .u16 t119, .int .u16 a2] rfl (by (try simp only [List.map_toArray, List.map_cons, List.map_nil]); first | done | rfl | (simp only [List.length_drop, List.length_take]; rfl)) ?_; (with_reducible refine (word_Do.calls 8 t119 a2 t121 true _ A17.out).mono ?_); rintro e w' ⟨rfl, ⟨nd, rfl⟩⟩; refine ⟨_, rfl, ?_⟩))
                        go_ret
                        exact ⟨by first | rfl | (simp; done) | (simp [*]; done), by repeat (first | exact Drawn0.refl _ | apply Drawn0.step)⟩
                      · rw [if_neg c22] at H
                        have c22b0 : decide (a1 < t117) = false := decide_eq_false c22
                        clear c22
                        have H' := Aside0.mk H
                        clear H
                        go_wp2_with (first | ((with_reducible refine gate_callee (f := 7) rfl ?_); refine goesL_ (some 58) rfl rfl Try.func7 (by kernel_rfl) rfl #[.int .i64 5, .int .u16 t115, .int .u16 a2] rfl (by (try simp only [List.map_toArray, List.map_cons, List.map_nil]); first | done | rfl | (simp only [List.length_drop, List.length_take]; rfl)) ?_; (with_reducible refine (word_Do.calls 5 t115 a2 t117 true _ A15.out).mono ?_); rintro e w' ⟨rfl, ⟨nd, rfl⟩⟩; refine ⟨_, rfl, ?_⟩) | ((with_reducible refine gate_callee (f := 7) rfl ?_); refine goesL_ (some 64) rfl rfl Try.func7 (by kernel_rfl) rfl #[.int .i64 4, .int .u16 a1, .int .u16 t117] rfl (by (try simp only [List.map_toArray, List.map_cons, List.map_nil]); first | done | rfl | (simp only [List.length_drop, List.length_take]; rfl)) ?_; (with_reducible refine (word_Do.calls 4 a1 t117 t119 true _ A16.out).mono ?_); rintro e w' ⟨rfl, ⟨nd, rfl⟩⟩; refine ⟨_, rfl, ?_⟩) | ((with_reducible refine gate_callee (f := 7) rfl ?_); refine goesL_ (some 70) rfl rfl Try.func7 (by kernel_rfl) rfl #[.int .i64 8, .int .u16 t119, .int .u16 a2] rfl (by (try simp only [List.map_toArray, List.map_cons, List.map_nil]); first | done | rfl | (simp only [List.length_drop, List.length_take]; rfl)) ?_; (with_reducible refine (word_Do.calls 8 t119 a2 t121 true _ A17.out).mono ?_); rintro e w' ⟨rfl, ⟨nd, rfl⟩⟩; refine ⟨_, rfl, ?_⟩))
                        go_meet
                        case rel => exact ⟨_, H', ⟨by have := HJ7.out; first | omega | exact Nat.le_refl _⟩, by repeat (first | exact Drawn0.refl _ | apply Drawn0.step)⟩
                    · rw [if_neg c21] at H
                      have c21b0 : (t121 == 1) = false := beq_eq_false_iff_ne.mpr c21
                      have c21b1 : (t121 != 1) = true := bne_iff_ne.mpr c21
                      (first | rw [c21b0] | (simp only [i64_w, i32_w]; rw [c21b0]) | skip)
                      obtain rfl := Option.some.inj H
                      go_wp2_with (first | ((with_reducible refine gate_callee (f := 7) rfl ?_); refine goesL_ (some 58) rfl rfl Try.func7 (by kernel_rfl) rfl #[.int .i64 5, .int .u16 t115, .int .u16 a2] rfl (by (try simp only [List.map_toArray, List.map_cons, List.map_nil]); first | done | rfl | (simp only [List.length_drop, List.length_take]; rfl)) ?_; (with_reducible refine (word_Do.calls 5 t115 a2 t117 true _ A15.out).mono ?_); rintro e w' ⟨rfl, ⟨nd, rfl⟩⟩; refine ⟨_, rfl, ?_⟩) | ((with_reducible refine gate_callee (f := 7) rfl ?_); refine goesL_ (some 64) rfl rfl Try.func7 (by kernel_rfl) rfl #[.int .i64 4, .int .u16 a1, .int .u16 t117] rfl (by (try simp only [List.map_toArray, List.map_cons, List.map_nil]); first | done | rfl | (simp only [List.length_drop, List.length_take]; rfl)) ?_; (with_reducible refine (word_Do.calls 4 a1 t117 t119 true _ A16.out).mono ?_); rintro e w' ⟨rfl, ⟨nd, rfl⟩⟩; refine ⟨_, rfl, ?_⟩) | ((with_reducible refine gate_callee (f := 7) rfl ?_); refine goesL_ (some 70) rfl rfl Try.func7 (by kernel_rfl) rfl #[.int .i64 8, .int .u16 t119, .int .u16 a2] rfl (by (try simp only [List.map_toArray, List.map_cons, List.map_nil]); first | done | rfl | (simp only [List.length_drop, List.length_take]; rfl)) ?_; (with_reducible refine (word_Do.calls 8 t119 a2 t121 true _ A17.out).mono ?_); rintro e w' ⟨rfl, ⟨nd, rfl⟩⟩; refine ⟨_, rfl, ?_⟩))
                      go_ret
                      exact ⟨by first | rfl | (simp; done) | (simp [*]; done), by repeat (first | exact Drawn0.refl _ | apply Drawn0.step)⟩
                  · replace c20 := Bool.eq_false_iff.mpr c20
                    subst c20
                    have H1 : (some false) = some r := by rw [if_neg (show ¬ (false = true) by decide)] at H; exact H
                    clear H
                    have H := H1
                    clear H1
                    obtain rfl := Option.some.inj H
                    go_wp2_with (first | ((with_reducible refine gate_callee (f := 7) rfl ?_); refine goesL_ (some 58) rfl rfl Try.func7 (by kernel_rfl) rfl #[.int .i64 5, .int .u16 t115, .int .u16 a2] rfl (by (try simp only [List.map_toArray, List.map_cons, List.map_nil]); first | done | rfl | (simp only [List.length_drop, List.length_take]; rfl)) ?_; (with_reducible refine (word_Do.calls 5 t115 a2 t117 true _ A15.out).mono ?_); rintro e w' ⟨rfl, ⟨nd, rfl⟩⟩; refine ⟨_, rfl, ?_⟩) | ((with_reducible refine gate_callee (f := 7) rfl ?_); refine goesL_ (some 64) rfl rfl Try.func7 (by kernel_rfl) rfl #[.int .i64 4, .int .u16 a1, .int .u16 t117] rfl (by (try simp only [List.map_toArray, List.map_cons, List.map_nil]); first | done | rfl | (simp only [List.length_drop, List.length_take]; rfl)) ?_; (with_reducible refine (word_Do.calls 4 a1 t117 t119 true _ A16.out).mono ?_); rintro e w' ⟨rfl, ⟨nd, rfl⟩⟩; refine ⟨_, rfl, ?_⟩) | ((with_reducible refine gate_callee (f := 7) rfl ?_); refine goesL_ (some 70) rfl rfl Try.func7 (by kernel_rfl) rfl #[.int .i64 8, .int .u16 t119, .int .u16 a2] rfl (by (try simp only [List.map_toArray, List.map_cons, List.map_nil]); first | done | rfl | (simp only [List.length_drop, List.length_take]; rfl)) ?_; (with_reducible refine (word_Do.calls 8 t119 a2 t121 false _ A17.out).mono ?_); rintro e w' ⟨rfl, ⟨nd, rfl⟩⟩; refine ⟨_, rfl, ?_⟩))
                    go_ret
                    exact ⟨by first | rfl | (simp; done) | (simp [*]; done), by repeat (first | exact Drawn0.refl _ | apply Drawn0.step)⟩
                · replace c19 := Bool.eq_false_iff.mpr c19
                  subst c19
                  have H1 : (some false) = some r := by rw [if_neg (show ¬ (false = true) by decide)] at H; exact H
                  clear H
                  have H := H1
                  clear H1
                  obtain rfl := Option.some.inj H
                  go_wp2_with (first | ((with_reducible refine gate_callee (f := 7) rfl ?_); refine goesL_ (some 58) rfl rfl Try.func7 (by kernel_rfl) rfl #[.int .i64 5, .int .u16 t115, .int .u16 a2] rfl (by (try simp only [List.map_toArray, List.map_cons, List.map_nil]); first | done | rfl | (simp only [List.length_drop, List.length_take]; rfl)) ?_; (with_reducible refine (word_Do.calls 5 t115 a2 t117 true _ A15.out).mono ?_); rintro e w' ⟨rfl, ⟨nd, rfl⟩⟩; refine ⟨_, rfl, ?_⟩) | ((with_reducible refine gate_callee (f := 7) rfl ?_); refine goesL_ (some 64) rfl rfl Try.func7 (by kernel_rfl) rfl #[.int .i64 4, .int .u16 a1, .int .u16 t117] rfl (by (try simp only [List.map_toArray, List.map_cons, List.map_nil]); first | done | rfl | (simp only [List.length_drop, List.length_take]; rfl)) ?_; (with_reducible refine (word_Do.calls 4 a1 t117 t119 false _ A16.out).mono ?_); rintro e w' ⟨rfl, ⟨nd, rfl⟩⟩; refine ⟨_, rfl, ?_⟩) | ((with_reducible refine gate_callee (f := 7) rfl ?_); refine goesL_ (some 70) rfl rfl Try.func7 (by kernel_rfl) rfl #[.int .i64 8, .int .u16 t119, .int .u16 a2] rfl (by (try simp only [List.map_toArray, List.map_cons, List.map_nil]); first | done | rfl | (simp only [List.length_drop, List.length_take]; rfl)) ?_; (with_reducible refine (word_Do.calls 8 t119 a2 t121 t122 _ A17.out).mono ?_); rintro e w' ⟨rfl, ⟨nd, rfl⟩⟩; refine ⟨_, rfl, ?_⟩))
                  go_ret
                  exact ⟨by first | rfl | (simp; done) | (simp [*]; done), by repeat (first | exact Drawn0.refl _ | apply Drawn0.step)⟩
              · replace c18 := Bool.eq_false_iff.mpr c18
                subst c18
                have H1 : (some false) = some r := by rw [if_neg (show ¬ (false = true) by decide)] at H; exact H
                clear H
                have H := H1
                clear H1
                obtain rfl := Option.some.inj H
                go_wp2_with (first | ((with_reducible refine gate_callee (f := 7) rfl ?_); refine goesL_ (some 58) rfl rfl Try.func7 (by kernel_rfl) rfl #[.int .i64 5, .int .u16 t115, .int .u16 a2] rfl (by (try simp only [List.map_toArray, List.map_cons, List.map_nil]); first | done | rfl | (simp only [List.length_drop, List.length_take]; rfl)) ?_; (with_reducible refine (word_Do.calls 5 t115 a2 t117 false _ A15.out).mono ?_); rintro e w' ⟨rfl, ⟨nd, rfl⟩⟩; refine ⟨_, rfl, ?_⟩) | ((with_reducible refine gate_callee (f := 7) rfl ?_); refine goesL_ (some 64) rfl rfl Try.func7 (by kernel_rfl) rfl #[.int .i64 4, .int .u16 a1, .int .u16 t117] rfl (by (try simp only [List.map_toArray, List.map_cons, List.map_nil]); first | done | rfl | (simp only [List.length_drop, List.length_take]; rfl)) ?_; (with_reducible refine (word_Do.calls 4 a1 t117 t119 t120 _ A16.out).mono ?_); rintro e w' ⟨rfl, ⟨nd, rfl⟩⟩; refine ⟨_, rfl, ?_⟩) | ((with_reducible refine gate_callee (f := 7) rfl ?_); refine goesL_ (some 70) rfl rfl Try.func7 (by kernel_rfl) rfl #[.int .i64 8, .int .u16 t119, .int .u16 a2] rfl (by (try simp only [List.map_toArray, List.map_cons, List.map_nil]); first | done | rfl | (simp only [List.length_drop, List.length_take]; rfl)) ?_; (with_reducible refine (word_Do.calls 8 t119 a2 t121 t122 _ A17.out).mono ?_); rintro e w' ⟨rfl, ⟨nd, rfl⟩⟩; refine ⟨_, rfl, ?_⟩))
                go_ret
                exact ⟨by first | rfl | (simp; done) | (simp [*]; done), by repeat (first | exact Drawn0.refl _ | apply Drawn0.step)⟩
            · replace c14 := Bool.eq_false_iff.mpr c14
              subst c14
              have H1 : (davitlaw01_WordRound.j1 kj7 a0 a1 a2) = some r := by rw [if_neg (show ¬ (false = true) by decide)] at H; exact H
              clear H
              have H := H1
              clear H1
              have H' := Aside0.mk H
              clear H
              go_wp2
              go_meet
              case rel => exact ⟨_, H', ⟨by have := HJ7.out; first | omega | exact Nat.le_refl _⟩, by repeat (first | exact Drawn0.refl _ | apply Drawn0.step)⟩
          case rest =>
            clear HC13
            try clear c1
            try clear c2
            try clear p2
            try clear c4
            try clear c5
            try clear c6
            try clear c7
            try clear c9
            try clear c10
            try clear c11
            try clear c14
            try clear c18
            try clear c19
            try clear c20
            try clear c21
            try clear c21b0
            try clear c21b1
            try clear c22
            try clear c22b0
            try clear p2
            obtain ⟨kq, HA, HJ12, ⟨mc12, rfl⟩⟩ := hcut
            cases kq with
            | zero => exact absurd HA.out (by simp [davitlaw01_WordRound.j1])
            | succ kj12 =>
              have H := HA.out
              clear HA
              simp only [davitlaw01_WordRound.j1] at H
              replace H := Option.bind_eq_some_iff.mp H
              obtain ⟨⟨t123, t124⟩, A230, H⟩ := H
              replace H : ((word_Do.f a0 a2 a1).bind fun bt125 => ((word_Turns.f a0).bind fun t127 => (if t127 = true then (if t124 = true then (if bt125.2 = true then (if t123 = bt125.1 then ((word_Pure.f a0).bind fun t128 => (if t128 = true then (if a0 = 6 then (if (t124 == (a2 != 0)) = true then (some true) else (some false)) else (if (t124 == true) = true then (some true) else (some false))) else (if (t124 == false) = true then (some true) else (some false)))) else (some false)) else (some false)) else (some false)) else ((word_Pure.f a0).bind fun t129 => (if t129 = true then (if a0 = 6 then (if (t124 == (a2 != 0)) = true then (if t124 = true then (some true) else (some (t123 == 0))) else (some false)) else (if (t124 == true) = true then (if t124 = true then (some true) else (some (t123 == 0))) else (some false))) else (if (t124 == false) = true then (if t124 = true then (some true) else (some (t123 == 0))) else (some false))))))) = some r := H
              have A23 := Aside0.mk A230
              clear A230
              replace H := Option.bind_eq_some_iff.mp H
              obtain ⟨⟨t125, t126⟩, A240, H⟩ := H
              replace H : ((word_Turns.f a0).bind fun t127 => (if t127 = true then (if t124 = true then (if t126 = true then (if t123 = t125 then ((word_Pure.f a0).bind fun t128 => (if t128 = true then (if a0 = 6 then (if (t124 == (a2 != 0)) = true then (some true) else (some false)) else (if (t124 == true) = true then (some true) else (some false))) else (if (t124 == false) = true then (some true) else (some false)))) else (some false)) else (some false)) else (some false)) else ((word_Pure.f a0).bind fun t129 => (if t129 = true then (if a0 = 6 then (if (t124 == (a2 != 0)) = true then (if t124 = true then (some true) else (some (t123 == 0))) else (some false)) else (if (t124 == true) = true then (if t124 = true then (some true) else (some (t123 == 0))) else (some false))) else (if (t124 == false) = true then (if t124 = true then (some true) else (some (t123 == 0))) else (some false)))))) = some r := H
              have A24 := Aside0.mk A240
              clear A240
              replace H := Option.bind_eq_some_iff.mp H
              obtain ⟨t127, A250, H⟩ := H
              replace H : (if t127 = true then (if t124 = true then (if t126 = true then (if t123 = t125 then ((word_Pure.f a0).bind fun t128 => (if t128 = true then (if a0 = 6 then (if (t124 == (a2 != 0)) = true then (some true) else (some false)) else (if (t124 == true) = true then (some true) else (some false))) else (if (t124 == false) = true then (some true) else (some false)))) else (some false)) else (some false)) else (some false)) else ((word_Pure.f a0).bind fun t129 => (if t129 = true then (if a0 = 6 then (if (t124 == (a2 != 0)) = true then (if t124 = true then (some true) else (some (t123 == 0))) else (some false)) else (if (t124 == true) = true then (if t124 = true then (some true) else (some (t123 == 0))) else (some false))) else (if (t124 == false) = true then (if t124 = true then (some true) else (some (t123 == 0))) else (some false))))) = some r := H
              have A25 := Aside0.mk A250
              clear A250
              by_cases c26 : t127 = true
              · subst c26
                have H1 : (if t124 = true then (if t126 = true then (if t123 = t125 then ((word_Pure.f a0).bind fun t128 => (if t128 = true then (if a0 = 6 then (if (t124 == (a2 != 0)) = true then (some true) else (some false)) else (if (t124 == true) = true then (some true) else (some false))) else (if (t124 == false) = true then (some true) else (some false)))) else (some false)) else (some false)) else (some false)) = some r := by rw [if_pos rfl] at H; exact H
                clear H
                have H := H1
                clear H1
                by_cases c27 : t124 = true
                · subst c27
                  have H1 : (if t126 = true then (if t123 = t125 then ((word_Pure.f a0).bind fun t128 => (if t128 = true then (if a0 = 6 then (if (true == (a2 != 0)) = true then (some true) else (some false)) else (if (true == true) = true then (some true) else (some false))) else (if (true == false) = true then (some true) else (some false)))) else (some false)) else (some false)) = some r := by rw [if_pos rfl] at H; exact H
                  clear H
                  have H := H1
                  clear H1
                  by_cases c28 : t126 = true
                  · subst c28
                    have H1 : (if t123 = t125 then ((word_Pure.f a0).bind fun t128 => (if t128 = true then (if a0 = 6 then (if (true == (a2 != 0)) = true then (some true) else (some false)) else (if (true == true) = true then (some true) else (some false))) else (if (true == false) = true then (some true) else (some false)))) else (some false)) = some r := by rw [if_pos rfl] at H; exact H
                    clear H
                    have H := H1
                    clear H1
                    by_cases c29 : t123 = t125
                    · rw [if_pos c29] at H
                      have c29b0 : (t123 == t125) = true := beq_iff_eq.mpr c29
                      have c29b1 : (t123 != t125) = false := bne_eq_false_iff_eq.mpr c29
                      clear c29
                      replace H := Option.bind_eq_some_iff.mp H
                      obtain ⟨t128, A300, H⟩ := H
                      replace H : (if t128 = true then (if a0 = 6 then (if (true == (a2 != 0)) = true then (some true) else (some false)) else (if (true == true) = true then (some true) else (some false))) else (if (true == false) = true then (some true) else (some false))) = some r := H
                      have A30 := Aside0.mk A300
                      clear A300
                      by_cases c31 : t128 = true
                      · subst c31
                        have H1 : (if a0 = 6 then (if (true == (a2 != 0)) = true then (some true) else (some false)) else (if (true == true) = true then (some true) else (some false))) = some r := by rw [if_pos rfl] at H; exact H
                        clear H
                        have H := H1
                        clear H1
                        by_cases c32 : a0 = 6
                        · rw [if_pos c32] at H
                          have c32b0 : (a0 == 6) = true := beq_iff_eq.mpr c32
                          have c32b1 : (a0 != 6) = false := bne_eq_false_iff_eq.mpr c32
                          clear c32
                          by_cases c33 : (true == (a2 != 0)) = true
                          · rw [if_pos c33] at H
                            have c33b0 : (true == (a2 != 0)) = true := c33
                            (try (have c33b1 : decide (true = (a2 != 0)) = true := by simpa using c33))
                            (try (have c33b2 : (true == (a2 != 0)) = true := by simpa using c33))
                            clear c33
                            obtain rfl := Option.some.inj H
                            go_wp2_with (first | ((with_reducible refine gate_callee (f := 7) rfl ?_); refine goesL_ (some 96) rfl rfl Try.func7 (by kernel_rfl) rfl #[.int .i64 a0, .int .u16 a1, .int .u16 a2] rfl (by (try simp only [List.map_toArray, List.map_cons, List.map_nil]); first | done | rfl | (simp only [List.length_drop, List.length_take]; rfl)) ?_; (with_reducible refine (word_Do.calls a0 a1 a2 t123 true _ A23.out).mono ?_); rintro e w' ⟨rfl, ⟨nd, rfl⟩⟩; refine ⟨_, rfl, ?_⟩) | ((with_reducible refine gate_callee (f := 7) rfl ?_); refine goesL_ (some 103) rfl rfl Try.func7 (by kernel_rfl) rfl #[.int .i64 a0, .int .u16 a2, .int .u16 a1] rfl (by (try simp only [List.map_toArray, List.map_cons, List.map_nil]); first | done | rfl | (simp only [List.length_drop, List.length_take]; rfl)) ?_; (with_reducible refine (word_Do.calls a0 a2 a1 t125 true _ A24.out).mono ?_); rintro e w' ⟨rfl, ⟨nd, rfl⟩⟩; refine ⟨_, rfl, ?_⟩) | ((with_reducible refine gate_callee (f := 11) rfl ?_); refine goesL_ (some 107) rfl rfl Try.func11 (by kernel_rfl) rfl #[.int .i64 a0] rfl (by (try simp only [List.map_toArray, List.map_cons, List.map_nil]); first | done | rfl | (simp only [List.length_drop, List.length_take]; rfl)) ?_; (with_reducible refine (word_Turns.calls a0 true _ A25.out).mono ?_); rintro e w' ⟨rfl, ⟨nd, rfl⟩⟩; refine ⟨_, rfl, ?_⟩) | ((with_reducible refine gate_callee (f := 9) rfl ?_); refine goesL_ (some 123) rfl rfl Try.func9 (by kernel_rfl) rfl #[.int .i64 a0] rfl (by (try simp only [List.map_toArray, List.map_cons, List.map_nil]); first | done | rfl | (simp only [List.length_drop, List.length_take]; rfl)) ?_; (with_reducible refine (word_Pure.calls a0 true _ A30.out).mono ?_); rintro e w' ⟨rfl, ⟨nd, rfl⟩⟩; refine ⟨_, rfl, ?_⟩))
                            go_ret
                            exact ⟨by first | rfl | (simp; done) | (simp [*]; done), by repeat (first | exact Drawn0.refl _ | apply Drawn0.step)⟩
                          · rw [if_neg c33] at H
                            have c33b0 : (true == (a2 != 0)) = false := by simpa using c33
                            (try (have c33b1 : decide (true = (a2 != 0)) = false := by simpa using c33))
                            (try (have c33b2 : (true == (a2 != 0)) = false := by simpa using c33))
                            (try (have c33b3 : ¬ (true = (a2 != 0)) := by simpa using c33))
                            clear c33
                            obtain rfl := Option.some.inj H
                            go_wp2_with (first | ((with_reducible refine gate_callee (f := 7) rfl ?_); refine goesL_ (some 96) rfl rfl Try.func7 (by kernel_rfl) rfl #[.int .i64 a0, .int .u16 a1, .int .u16 a2] rfl (by (try simp only [List.map_toArray, List.map_cons, List.map_nil]); first | done | rfl | (simp only [List.length_drop, List.length_take]; rfl)) ?_; (with_reducible refine (word_Do.calls a0 a1 a2 t123 true _ A23.out).mono ?_); rintro e w' ⟨rfl, ⟨nd, rfl⟩⟩; refine ⟨_, rfl, ?_⟩) | ((with_reducible refine gate_callee (f := 7) rfl ?_); refine goesL_ (some 103) rfl rfl Try.func7 (by kernel_rfl) rfl #[.int .i64 a0, .int .u16 a2, .int .u16 a1] rfl (by (try simp only [List.map_toArray, List.map_cons, List.map_nil]); first | done | rfl | (simp only [List.length_drop, List.length_take]; rfl)) ?_; (with_reducible refine (word_Do.calls a0 a2 a1 t125 true _ A24.out).mono ?_); rintro e w' ⟨rfl, ⟨nd, rfl⟩⟩; refine ⟨_, rfl, ?_⟩) | ((with_reducible refine gate_callee (f := 11) rfl ?_); refine goesL_ (some 107) rfl rfl Try.func11 (by kernel_rfl) rfl #[.int .i64 a0] rfl (by (try simp only [List.map_toArray, List.map_cons, List.map_nil]); first | done | rfl | (simp only [List.length_drop, List.length_take]; rfl)) ?_; (with_reducible refine (word_Turns.calls a0 true _ A25.out).mono ?_); rintro e w' ⟨rfl, ⟨nd, rfl⟩⟩; refine ⟨_, rfl, ?_⟩) | ((with_reducible refine gate_callee (f := 9) rfl ?_); refine goesL_ (some 123) rfl rfl Try.func9 (by kernel_rfl) rfl #[.int .i64 a0] rfl (by (try simp only [List.map_toArray, List.map_cons, List.map_nil]); first | done | rfl | (simp only [List.length_drop, List.length_take]; rfl)) ?_; (with_reducible refine (word_Pure.calls a0 true _ A30.out).mono ?_); rintro e w' ⟨rfl, ⟨nd, rfl⟩⟩; refine ⟨_, rfl, ?_⟩))
                            go_ret
                            exact ⟨by first | rfl | (simp; done) | (simp [*]; done), by repeat (first | exact Drawn0.refl _ | apply Drawn0.step)⟩
                        · rw [if_neg c32] at H
                          have c32b0 : (a0 == 6) = false := beq_eq_false_iff_ne.mpr c32
                          have c32b1 : (a0 != 6) = true := bne_iff_ne.mpr c32
                          by_cases c34 : (true == true) = true
                          · rw [if_pos c34] at H
                            have c34b0 : (true == true) = true := c34
                            (try (have c34b1 : decide (true = true) = true := by simpa using c34))
                            (try (have c34b2 : (true == true) = true := by simpa using c34))
                            clear c34
                            obtain rfl := Option.some.inj H
                            go_wp2_with (first | ((with_reducible refine gate_callee (f := 7) rfl ?_); refine goesL_ (some 96) rfl rfl Try.func7 (by kernel_rfl) rfl #[.int .i64 a0, .int .u16 a1, .int .u16 a2] rfl (by (try simp only [List.map_toArray, List.map_cons, List.map_nil]); first | done | rfl | (simp only [List.length_drop, List.length_take]; rfl)) ?_; (with_reducible refine (word_Do.calls a0 a1 a2 t123 true _ A23.out).mono ?_); rintro e w' ⟨rfl, ⟨nd, rfl⟩⟩; refine ⟨_, rfl, ?_⟩) | ((with_reducible refine gate_callee (f := 7) rfl ?_); refine goesL_ (some 103) rfl rfl Try.func7 (by kernel_rfl) rfl #[.int .i64 a0, .int .u16 a2, .int .u16 a1] rfl (by (try simp only [List.map_toArray, List.map_cons, List.map_nil]); first | done | rfl | (simp only [List.length_drop, List.length_take]; rfl)) ?_; (with_reducible refine (word_Do.calls a0 a2 a1 t125 true _ A24.out).mono ?_); rintro e w' ⟨rfl, ⟨nd, rfl⟩⟩; refine ⟨_, rfl, ?_⟩) | ((with_reducible refine gate_callee (f := 11) rfl ?_); refine goesL_ (some 107) rfl rfl Try.func11 (by kernel_rfl) rfl #[.int .i64 a0] rfl (by (try simp only [List.map_toArray, List.map_cons, List.map_nil]); first | done | rfl | (simp only [List.length_drop, List.length_take]; rfl)) ?_; (with_reducible refine (word_Turns.calls a0 true _ A25.out).mono ?_); rintro e w' ⟨rfl, ⟨nd, rfl⟩⟩; refine ⟨_, rfl, ?_⟩) | ((with_reducible refine gate_callee (f := 9) rfl ?_); refine goesL_ (some 123) rfl rfl Try.func9 (by kernel_rfl) rfl #[.int .i64 a0] rfl (by (try simp only [List.map_toArray, List.map_cons, List.map_nil]); first | done | rfl | (simp only [List.length_drop, List.length_take]; rfl)) ?_; (with_reducible refine (word_Pure.calls a0 true _ A30.out).mono ?_); rintro e w' ⟨rfl, ⟨nd, rfl⟩⟩; refine ⟨_, rfl, ?_⟩))
                            go_ret
                            exact ⟨by first | rfl | (simp; done) | (simp [*]; done), by repeat (first | exact Drawn0.refl _ | apply Drawn0.step)⟩
                          · exact absurd (by rfl) c34
                      · replace c31 := Bool.eq_false_iff.mpr c31
                        subst c31
                        have H1 : (if (true == false) = true then (some true) else (some false)) = some r := by rw [if_neg (show ¬ (false = true) by decide)] at H; exact H
                        clear H
                        have H := H1
                        clear H1
                        by_cases c35 : (true == false) = true
                        · rw [if_pos c35] at H
                          have c35b0 : (true == false) = true := c35
                          (try (have c35b1 : decide (true = false) = true := by simpa using c35))
                          (try (have c35b2 : (true == false) = true := by simpa using c35))
                          clear c35
                          obtain rfl := Option.some.inj H
                          go_wp2_with (first | ((with_reducible refine gate_callee (f := 7) rfl ?_); refine goesL_ (some 96) rfl rfl Try.func7 (by kernel_rfl) rfl #[.int .i64 a0, .int .u16 a1, .int .u16 a2] rfl (by (try simp only [List.map_toArray, List.map_cons, List.map_nil]); first | done | rfl | (simp only [List.length_drop, List.length_take]; rfl)) ?_; (with_reducible refine (word_Do.calls a0 a1 a2 t123 true _ A23.out).mono ?_); rintro e w' ⟨rfl, ⟨nd, rfl⟩⟩; refine ⟨_, rfl, ?_⟩) | ((with_reducible refine gate_callee (f := 7) rfl ?_); refine goesL_ (some 103) rfl rfl Try.func7 (by kernel_rfl) rfl #[.int .i64 a0, .int .u16 a2, .int .u16 a1] rfl (by (try simp only [List.map_toArray, List.map_cons, List.map_nil]); first | done | rfl | (simp only [List.length_drop, List.length_take]; rfl)) ?_; (with_reducible refine (word_Do.calls a0 a2 a1 t125 true _ A24.out).mono ?_); rintro e w' ⟨rfl, ⟨nd, rfl⟩⟩; refine ⟨_, rfl, ?_⟩) | ((with_reducible refine gate_callee (f := 11) rfl ?_); refine goesL_ (some 107) rfl rfl Try.func11 (by kernel_rfl) rfl #[.int .i64 a0] rfl (by (try simp only [List.map_toArray, List.map_cons, List.map_nil]); first | done | rfl | (simp only [List.length_drop, List.length_take]; rfl)) ?_; (with_reducible refine (word_Turns.calls a0 true _ A25.out).mono ?_); rintro e w' ⟨rfl, ⟨nd, rfl⟩⟩; refine ⟨_, rfl, ?_⟩) | ((with_reducible refine gate_callee (f := 9) rfl ?_); refine goesL_ (some 123) rfl rfl Try.func9 (by kernel_rfl) rfl #[.int .i64 a0] rfl (by (try simp only [List.map_toArray, List.map_cons, List.map_nil]); first | done | rfl | (simp only [List.length_drop, List.length_take]; rfl)) ?_; (with_reducible refine (word_Pure.calls a0 false _ A30.out).mono ?_); rintro e w' ⟨rfl, ⟨nd, rfl⟩⟩; refine ⟨_, rfl, ?_⟩))
                          go_ret
                          exact ⟨by first | rfl | (simp; done) | (simp [*]; done), by repeat (first | exact Drawn0.refl _ | apply Drawn0.step)⟩
                        · rw [if_neg c35] at H
                          have c35b0 : (true == false) = false := by simpa using c35
                          (try (have c35b1 : decide (true = false) = false := by simpa using c35))
                          (try (have c35b2 : (true == false) = false := by simpa using c35))
                          (try (have c35b3 : ¬ (true = false) := by simpa using c35))
                          clear c35
                          obtain rfl := Option.some.inj H
                          go_wp2_with (first | ((with_reducible refine gate_callee (f := 7) rfl ?_); refine goesL_ (some 96) rfl rfl Try.func7 (by kernel_rfl) rfl #[.int .i64 a0, .int .u16 a1, .int .u16 a2] rfl (by (try simp only [List.map_toArray, List.map_cons, List.map_nil]); first | done | rfl | (simp only [List.length_drop, List.length_take]; rfl)) ?_; (with_reducible refine (word_Do.calls a0 a1 a2 t123 true _ A23.out).mono ?_); rintro e w' ⟨rfl, ⟨nd, rfl⟩⟩; refine ⟨_, rfl, ?_⟩) | ((with_reducible refine gate_callee (f := 7) rfl ?_); refine goesL_ (some 103) rfl rfl Try.func7 (by kernel_rfl) rfl #[.int .i64 a0, .int .u16 a2, .int .u16 a1] rfl (by (try simp only [List.map_toArray, List.map_cons, List.map_nil]); first | done | rfl | (simp only [List.length_drop, List.length_take]; rfl)) ?_; (with_reducible refine (word_Do.calls a0 a2 a1 t125 true _ A24.out).mono ?_); rintro e w' ⟨rfl, ⟨nd, rfl⟩⟩; refine ⟨_, rfl, ?_⟩) | ((with_reducible refine gate_callee (f := 11) rfl ?_); refine goesL_ (some 107) rfl rfl Try.func11 (by kernel_rfl) rfl #[.int .i64 a0] rfl (by (try simp only [List.map_toArray, List.map_cons, List.map_nil]); first | done | rfl | (simp only [List.length_drop, List.length_take]; rfl)) ?_; (with_reducible refine (word_Turns.calls a0 true _ A25.out).mono ?_); rintro e w' ⟨rfl, ⟨nd, rfl⟩⟩; refine ⟨_, rfl, ?_⟩) | ((with_reducible refine gate_callee (f := 9) rfl ?_); refine goesL_ (some 123) rfl rfl Try.func9 (by kernel_rfl) rfl #[.int .i64 a0] rfl (by (try simp only [List.map_toArray, List.map_cons, List.map_nil]); first | done | rfl | (simp only [List.length_drop, List.length_take]; rfl)) ?_; (with_reducible refine (word_Pure.calls a0 false _ A30.out).mono ?_); rintro e w' ⟨rfl, ⟨nd, rfl⟩⟩; refine ⟨_, rfl, ?_⟩))
                          go_ret
                          exact ⟨by first | rfl | (simp; done) | (simp [*]; done), by repeat (first | exact Drawn0.refl _ | apply Drawn0.step)⟩
                    · rw [if_neg c29] at H
                      have c29b0 : (t123 == t125) = false := beq_eq_false_iff_ne.mpr c29
                      have c29b1 : (t123 != t125) = true := bne_iff_ne.mpr c29
                      obtain rfl := Option.some.inj H
                      go_wp2_with (first | ((with_reducible refine gate_callee (f := 7) rfl ?_); refine goesL_ (some 96) rfl rfl Try.func7 (by kernel_rfl) rfl #[.int .i64 a0, .int .u16 a1, .int .u16 a2] rfl (by (try simp only [List.map_toArray, List.map_cons, List.map_nil]); first | done | rfl | (simp only [List.length_drop, List.length_take]; rfl)) ?_; (with_reducible refine (word_Do.calls a0 a1 a2 t123 true _ A23.out).mono ?_); rintro e w' ⟨rfl, ⟨nd, rfl⟩⟩; refine ⟨_, rfl, ?_⟩) | ((with_reducible refine gate_callee (f := 7) rfl ?_); refine goesL_ (some 103) rfl rfl Try.func7 (by kernel_rfl) rfl #[.int .i64 a0, .int .u16 a2, .int .u16 a1] rfl (by (try simp only [List.map_toArray, List.map_cons, List.map_nil]); first | done | rfl | (simp only [List.length_drop, List.length_take]; rfl)) ?_; (with_reducible refine (word_Do.calls a0 a2 a1 t125 true _ A24.out).mono ?_); rintro e w' ⟨rfl, ⟨nd, rfl⟩⟩; refine ⟨_, rfl, ?_⟩) | ((with_reducible refine gate_callee (f := 11) rfl ?_); refine goesL_ (some 107) rfl rfl Try.func11 (by kernel_rfl) rfl #[.int .i64 a0] rfl (by (try simp only [List.map_toArray, List.map_cons, List.map_nil]); first | done | rfl | (simp only [List.length_drop, List.length_take]; rfl)) ?_; (with_reducible refine (word_Turns.calls a0 true _ A25.out).mono ?_); rintro e w' ⟨rfl, ⟨nd, rfl⟩⟩; refine ⟨_, rfl, ?_⟩))
                      go_ret
                      exact ⟨by first | rfl | (simp; done) | (simp [*]; done), by repeat (first | exact Drawn0.refl _ | apply Drawn0.step)⟩
                  · replace c28 := Bool.eq_false_iff.mpr c28
                    subst c28
                    have H1 : (some false) = some r := by rw [if_neg (show ¬ (false = true) by decide)] at H; exact H
                    clear H
                    have H := H1
                    clear H1
                    obtain rfl := Option.some.inj H
                    go_wp2_with (first | ((with_reducible refine gate_callee (f := 7) rfl ?_); refine goesL_ (some 96) rfl rfl Try.func7 (by kernel_rfl) rfl #[.int .i64 a0, .int .u16 a1, .int .u16 a2] rfl (by (try simp only [List.map_toArray, List.map_cons, List.map_nil]); first | done | rfl | (simp only [List.length_drop, List.length_take]; rfl)) ?_; (with_reducible refine (word_Do.calls a0 a1 a2 t123 true _ A23.out).mono ?_); rintro e w' ⟨rfl, ⟨nd, rfl⟩⟩; refine ⟨_, rfl, ?_⟩) | ((with_reducible refine gate_callee (f := 7) rfl ?_); refine goesL_ (some 103) rfl rfl Try.func7 (by kernel_rfl) rfl #[.int .i64 a0, .int .u16 a2, .int .u16 a1] rfl (by (try simp only [List.map_toArray, List.map_cons, List.map_nil]); first | done | rfl | (simp only [List.length_drop, List.length_take]; rfl)) ?_; (with_reducible refine (word_Do.calls a0 a2 a1 t125 false _ A24.out).mono ?_); rintro e w' ⟨rfl, ⟨nd, rfl⟩⟩; refine ⟨_, rfl, ?_⟩) | ((with_reducible refine gate_callee (f := 11) rfl ?_); refine goesL_ (some 107) rfl rfl Try.func11 (by kernel_rfl) rfl #[.int .i64 a0] rfl (by (try simp only [List.map_toArray, List.map_cons, List.map_nil]); first | done | rfl | (simp only [List.length_drop, List.length_take]; rfl)) ?_; (with_reducible refine (word_Turns.calls a0 true _ A25.out).mono ?_); rintro e w' ⟨rfl, ⟨nd, rfl⟩⟩; refine ⟨_, rfl, ?_⟩))
                    go_ret
                    exact ⟨by first | rfl | (simp; done) | (simp [*]; done), by repeat (first | exact Drawn0.refl _ | apply Drawn0.step)⟩
                · replace c27 := Bool.eq_false_iff.mpr c27
                  subst c27
                  have H1 : (some false) = some r := by rw [if_neg (show ¬ (false = true) by decide)] at H; exact H
                  clear H
                  have H := H1
                  clear H1
                  obtain rfl := Option.some.inj H
                  go_wp2_with (first | ((with_reducible refine gate_callee (f := 7) rfl ?_); refine goesL_ (some 96) rfl rfl Try.func7 (by kernel_rfl) rfl #[.int .i64 a0, .int .u16 a1, .int .u16 a2] rfl (by (try simp only [List.map_toArray, List.map_cons, List.map_nil]); first | done | rfl | (simp only [List.length_drop, List.length_take]; rfl)) ?_; (with_reducible refine (word_Do.calls a0 a1 a2 t123 false _ A23.out).mono ?_); rintro e w' ⟨rfl, ⟨nd, rfl⟩⟩; refine ⟨_, rfl, ?_⟩) | ((with_reducible refine gate_callee (f := 7) rfl ?_); refine goesL_ (some 103) rfl rfl Try.func7 (by kernel_rfl) rfl #[.int .i64 a0, .int .u16 a2, .int .u16 a1] rfl (by (try simp only [List.map_toArray, List.map_cons, List.map_nil]); first | done | rfl | (simp only [List.length_drop, List.length_take]; rfl)) ?_; (with_reducible refine (word_Do.calls a0 a2 a1 t125 t126 _ A24.out).mono ?_); rintro e w' ⟨rfl, ⟨nd, rfl⟩⟩; refine ⟨_, rfl, ?_⟩) | ((with_reducible refine gate_callee (f := 11) rfl ?_); refine goesL_ (some 107) rfl rfl Try.func11 (by kernel_rfl) rfl #[.int .i64 a0] rfl (by (try simp only [List.map_toArray, List.map_cons, List.map_nil]); first | done | rfl | (simp only [List.length_drop, List.length_take]; rfl)) ?_; (with_reducible refine (word_Turns.calls a0 true _ A25.out).mono ?_); rintro e w' ⟨rfl, ⟨nd, rfl⟩⟩; refine ⟨_, rfl, ?_⟩))
                  go_ret
                  exact ⟨by first | rfl | (simp; done) | (simp [*]; done), by repeat (first | exact Drawn0.refl _ | apply Drawn0.step)⟩
              · replace c26 := Bool.eq_false_iff.mpr c26
                subst c26
                have H1 : ((word_Pure.f a0).bind fun t129 => (if t129 = true then (if a0 = 6 then (if (t124 == (a2 != 0)) = true then (if t124 = true then (some true) else (some (t123 == 0))) else (some false)) else (if (t124 == true) = true then (if t124 = true then (some true) else (some (t123 == 0))) else (some false))) else (if (t124 == false) = true then (if t124 = true then (some true) else (some (t123 == 0))) else (some false)))) = some r := by rw [if_neg (show ¬ (false = true) by decide)] at H; exact H
                clear H
                have H := H1
                clear H1
                replace H := Option.bind_eq_some_iff.mp H
                obtain ⟨t129, A360, H⟩ := H
                replace H : (if t129 = true then (if a0 = 6 then (if (t124 == (a2 != 0)) = true then (if t124 = true then (some true) else (some (t123 == 0))) else (some false)) else (if (t124 == true) = true then (if t124 = true then (some true) else (some (t123 == 0))) else (some false))) else (if (t124 == false) = true then (if t124 = true then (some true) else (some (t123 == 0))) else (some false))) = some r := H
                have A36 := Aside0.mk A360
                clear A360
                by_cases c37 : t129 = true
                · subst c37
                  have H1 : (if a0 = 6 then (if (t124 == (a2 != 0)) = true then (if t124 = true then (some true) else (some (t123 == 0))) else (some false)) else (if (t124 == true) = true then (if t124 = true then (some true) else (some (t123 == 0))) else (some false))) = some r := by rw [if_pos rfl] at H; exact H
                  clear H
                  have H := H1
                  clear H1
                  by_cases c38 : a0 = 6
                  · rw [if_pos c38] at H
                    have c38b0 : (a0 == 6) = true := beq_iff_eq.mpr c38
                    have c38b1 : (a0 != 6) = false := bne_eq_false_iff_eq.mpr c38
                    clear c38
                    by_cases c39 : (t124 == (a2 != 0)) = true
                    · rw [if_pos c39] at H
                      have c39b0 : (t124 == (a2 != 0)) = true := c39
                      (try (have c39b1 : decide (t124 = (a2 != 0)) = true := by simpa using c39))
                      (try (have c39b2 : (t124 == (a2 != 0)) = true := by simpa using c39))
                      clear c39
                      by_cases c40 : t124 = true
                      · subst c40
                        have H1 : (some true) = some r := by rw [if_pos rfl] at H; exact H
                        clear H
                        have H := H1
                        clear H1
                        obtain rfl := Option.some.inj H
                        go_wp2_with (first | ((with_reducible refine gate_callee (f := 7) rfl ?_); refine goesL_ (some 96) rfl rfl Try.func7 (by kernel_rfl) rfl #[.int .i64 a0, .int .u16 a1, .int .u16 a2] rfl (by (try simp only [List.map_toArray, List.map_cons, List.map_nil]); first | done | rfl | (simp only [List.length_drop, List.length_take]; rfl)) ?_; (with_reducible refine (word_Do.calls a0 a1 a2 t123 true _ A23.out).mono ?_); rintro e w' ⟨rfl, ⟨nd, rfl⟩⟩; refine ⟨_, rfl, ?_⟩) | ((with_reducible refine gate_callee (f := 7) rfl ?_); refine goesL_ (some 103) rfl rfl Try.func7 (by kernel_rfl) rfl #[.int .i64 a0, .int .u16 a2, .int .u16 a1] rfl (by (try simp only [List.map_toArray, List.map_cons, List.map_nil]); first | done | rfl | (simp only [List.length_drop, List.length_take]; rfl)) ?_; (with_reducible refine (word_Do.calls a0 a2 a1 t125 t126 _ A24.out).mono ?_); rintro e w' ⟨rfl, ⟨nd, rfl⟩⟩; refine ⟨_, rfl, ?_⟩) | ((with_reducible refine gate_callee (f := 11) rfl ?_); refine goesL_ (some 107) rfl rfl Try.func11 (by kernel_rfl) rfl #[.int .i64 a0] rfl (by (try simp only [List.map_toArray, List.map_cons, List.map_nil]); first | done | rfl | (simp only [List.length_drop, List.length_take]; rfl)) ?_; (with_reducible refine (word_Turns.calls a0 false _ A25.out).mono ?_); rintro e w' ⟨rfl, ⟨nd, rfl⟩⟩; refine ⟨_, rfl, ?_⟩) | ((with_reducible refine gate_callee (f := 9) rfl ?_); refine goesL_ (some 123) rfl rfl Try.func9 (by kernel_rfl) rfl #[.int .i64 a0] rfl (by (try simp only [List.map_toArray, List.map_cons, List.map_nil]); first | done | rfl | (simp only [List.length_drop, List.length_take]; rfl)) ?_; (with_reducible refine (word_Pure.calls a0 true _ A36.out).mono ?_); rintro e w' ⟨rfl, ⟨nd, rfl⟩⟩; refine ⟨_, rfl, ?_⟩))
                        go_ret
                        exact ⟨by first | rfl | (simp; done) | (simp [*]; done), by repeat (first | exact Drawn0.refl _ | apply Drawn0.step)⟩
                      · replace c40 := Bool.eq_false_iff.mpr c40
                        subst c40
                        have H1 : (some (t123 == 0)) = some r := by rw [if_neg (show ¬ (false = true) by decide)] at H; exact H
                        clear H
                        have H := H1
                        clear H1
                        obtain rfl := Option.some.inj H
                        go_wp2_with (first | ((with_reducible refine gate_callee (f := 7) rfl ?_); refine goesL_ (some 96) rfl rfl Try.func7 (by kernel_rfl) rfl #[.int .i64 a0, .int .u16 a1, .int .u16 a2] rfl (by (try simp only [List.map_toArray, List.map_cons, List.map_nil]); first | done | rfl | (simp only [List.length_drop, List.length_take]; rfl)) ?_; (with_reducible refine (word_Do.calls a0 a1 a2 t123 false _ A23.out).mono ?_); rintro e w' ⟨rfl, ⟨nd, rfl⟩⟩; refine ⟨_, rfl, ?_⟩) | ((with_reducible refine gate_callee (f := 7) rfl ?_); refine goesL_ (some 103) rfl rfl Try.func7 (by kernel_rfl) rfl #[.int .i64 a0, .int .u16 a2, .int .u16 a1] rfl (by (try simp only [List.map_toArray, List.map_cons, List.map_nil]); first | done | rfl | (simp only [List.length_drop, List.length_take]; rfl)) ?_; (with_reducible refine (word_Do.calls a0 a2 a1 t125 t126 _ A24.out).mono ?_); rintro e w' ⟨rfl, ⟨nd, rfl⟩⟩; refine ⟨_, rfl, ?_⟩) | ((with_reducible refine gate_callee (f := 11) rfl ?_); refine goesL_ (some 107) rfl rfl Try.func11 (by kernel_rfl) rfl #[.int .i64 a0] rfl (by (try simp only [List.map_toArray, List.map_cons, List.map_nil]); first | done | rfl | (simp only [List.length_drop, List.length_take]; rfl)) ?_; (with_reducible refine (word_Turns.calls a0 false _ A25.out).mono ?_); rintro e w' ⟨rfl, ⟨nd, rfl⟩⟩; refine ⟨_, rfl, ?_⟩) | ((with_reducible refine gate_callee (f := 9) rfl ?_); refine goesL_ (some 123) rfl rfl Try.func9 (by kernel_rfl) rfl #[.int .i64 a0] rfl (by (try simp only [List.map_toArray, List.map_cons, List.map_nil]); first | done | rfl | (simp only [List.length_drop, List.length_take]; rfl)) ?_; (with_reducible refine (word_Pure.calls a0 true _ A36.out).mono ?_); rintro e w' ⟨rfl, ⟨nd, rfl⟩⟩; refine ⟨_, rfl, ?_⟩))
                        go_ret
                        exact ⟨by first | rfl | (simp; done) | (simp [*]; done), by repeat (first | exact Drawn0.refl _ | apply Drawn0.step)⟩
                    · rw [if_neg c39] at H
                      have c39b0 : (t124 == (a2 != 0)) = false := by simpa using c39
                      (try (have c39b1 : decide (t124 = (a2 != 0)) = false := by simpa using c39))
                      (try (have c39b2 : (t124 == (a2 != 0)) = false := by simpa using c39))
                      (try (have c39b3 : ¬ (t124 = (a2 != 0)) := by simpa using c39))
                      clear c39
                      obtain rfl := Option.some.inj H
                      go_wp2_with (first | ((with_reducible refine gate_callee (f := 7) rfl ?_); refine goesL_ (some 96) rfl rfl Try.func7 (by kernel_rfl) rfl #[.int .i64 a0, .int .u16 a1, .int .u16 a2] rfl (by (try simp only [List.map_toArray, List.map_cons, List.map_nil]); first | done | rfl | (simp only [List.length_drop, List.length_take]; rfl)) ?_; (with_reducible refine (word_Do.calls a0 a1 a2 t123 t124 _ A23.out).mono ?_); rintro e w' ⟨rfl, ⟨nd, rfl⟩⟩; refine ⟨_, rfl, ?_⟩) | ((with_reducible refine gate_callee (f := 7) rfl ?_); refine goesL_ (some 103) rfl rfl Try.func7 (by kernel_rfl) rfl #[.int .i64 a0, .int .u16 a2, .int .u16 a1] rfl (by (try simp only [List.map_toArray, List.map_cons, List.map_nil]); first | done | rfl | (simp only [List.length_drop, List.length_take]; rfl)) ?_; (with_reducible refine (word_Do.calls a0 a2 a1 t125 t126 _ A24.out).mono ?_); rintro e w' ⟨rfl, ⟨nd, rfl⟩⟩; refine ⟨_, rfl, ?_⟩) | ((with_reducible refine gate_callee (f := 11) rfl ?_); refine goesL_ (some 107) rfl rfl Try.func11 (by kernel_rfl) rfl #[.int .i64 a0] rfl (by (try simp only [List.map_toArray, List.map_cons, List.map_nil]); first | done | rfl | (simp only [List.length_drop, List.length_take]; rfl)) ?_; (with_reducible refine (word_Turns.calls a0 false _ A25.out).mono ?_); rintro e w' ⟨rfl, ⟨nd, rfl⟩⟩; refine ⟨_, rfl, ?_⟩) | ((with_reducible refine gate_callee (f := 9) rfl ?_); refine goesL_ (some 123) rfl rfl Try.func9 (by kernel_rfl) rfl #[.int .i64 a0] rfl (by (try simp only [List.map_toArray, List.map_cons, List.map_nil]); first | done | rfl | (simp only [List.length_drop, List.length_take]; rfl)) ?_; (with_reducible refine (word_Pure.calls a0 true _ A36.out).mono ?_); rintro e w' ⟨rfl, ⟨nd, rfl⟩⟩; refine ⟨_, rfl, ?_⟩))
                      go_ret
                      exact ⟨by first | rfl | (simp; done) | (simp [*]; done), by repeat (first | exact Drawn0.refl _ | apply Drawn0.step)⟩
                  · rw [if_neg c38] at H
                    have c38b0 : (a0 == 6) = false := beq_eq_false_iff_ne.mpr c38
                    have c38b1 : (a0 != 6) = true := bne_iff_ne.mpr c38
                    by_cases c41 : (t124 == true) = true
                    · rw [if_pos c41] at H
                      have c41b0 : (t124 == true) = true := c41
                      (try (have c41b1 : decide (t124 = true) = true := by simpa using c41))
                      (try (have c41b2 : (t124 == true) = true := by simpa using c41))
                      clear c41
                      by_cases c42 : t124 = true
                      · subst c42
                        have H1 : (some true) = some r := by rw [if_pos rfl] at H; exact H
                        clear H
                        have H := H1
                        clear H1
                        obtain rfl := Option.some.inj H
                        go_wp2_with (first | ((with_reducible refine gate_callee (f := 7) rfl ?_); refine goesL_ (some 96) rfl rfl Try.func7 (by kernel_rfl) rfl #[.int .i64 a0, .int .u16 a1, .int .u16 a2] rfl (by (try simp only [List.map_toArray, List.map_cons, List.map_nil]); first | done | rfl | (simp only [List.length_drop, List.length_take]; rfl)) ?_; (with_reducible refine (word_Do.calls a0 a1 a2 t123 true _ A23.out).mono ?_); rintro e w' ⟨rfl, ⟨nd, rfl⟩⟩; refine ⟨_, rfl, ?_⟩) | ((with_reducible refine gate_callee (f := 7) rfl ?_); refine goesL_ (some 103) rfl rfl Try.func7 (by kernel_rfl) rfl #[.int .i64 a0, .int .u16 a2, .int .u16 a1] rfl (by (try simp only [List.map_toArray, List.map_cons, List.map_nil]); first | done | rfl | (simp only [List.length_drop, List.length_take]; rfl)) ?_; (with_reducible refine (word_Do.calls a0 a2 a1 t125 t126 _ A24.out).mono ?_); rintro e w' ⟨rfl, ⟨nd, rfl⟩⟩; refine ⟨_, rfl, ?_⟩) | ((with_reducible refine gate_callee (f := 11) rfl ?_); refine goesL_ (some 107) rfl rfl Try.func11 (by kernel_rfl) rfl #[.int .i64 a0] rfl (by (try simp only [List.map_toArray, List.map_cons, List.map_nil]); first | done | rfl | (simp only [List.length_drop, List.length_take]; rfl)) ?_; (with_reducible refine (word_Turns.calls a0 false _ A25.out).mono ?_); rintro e w' ⟨rfl, ⟨nd, rfl⟩⟩; refine ⟨_, rfl, ?_⟩) | ((with_reducible refine gate_callee (f := 9) rfl ?_); refine goesL_ (some 123) rfl rfl Try.func9 (by kernel_rfl) rfl #[.int .i64 a0] rfl (by (try simp only [List.map_toArray, List.map_cons, List.map_nil]); first | done | rfl | (simp only [List.length_drop, List.length_take]; rfl)) ?_; (with_reducible refine (word_Pure.calls a0 true _ A36.out).mono ?_); rintro e w' ⟨rfl, ⟨nd, rfl⟩⟩; refine ⟨_, rfl, ?_⟩))
                        go_ret
                        exact ⟨by first | rfl | (simp; done) | (simp [*]; done), by repeat (first | exact Drawn0.refl _ | apply Drawn0.step)⟩
                      · replace c42 := Bool.eq_false_iff.mpr c42
                        subst c42
                        have H1 : (some (t123 == 0)) = some r := by rw [if_neg (show ¬ (false = true) by decide)] at H; exact H
                        clear H
                        have H := H1
                        clear H1
                        obtain rfl := Option.some.inj H
                        go_wp2_with (first | ((with_reducible refine gate_callee (f := 7) rfl ?_); refine goesL_ (some 96) rfl rfl Try.func7 (by kernel_rfl) rfl #[.int .i64 a0, .int .u16 a1, .int .u16 a2] rfl (by (try simp only [List.map_toArray, List.map_cons, List.map_nil]); first | done | rfl | (simp only [List.length_drop, List.length_take]; rfl)) ?_; (with_reducible refine (word_Do.calls a0 a1 a2 t123 false _ A23.out).mono ?_); rintro e w' ⟨rfl, ⟨nd, rfl⟩⟩; refine ⟨_, rfl, ?_⟩) | ((with_reducible refine gate_callee (f := 7) rfl ?_); refine goesL_ (some 103) rfl rfl Try.func7 (by kernel_rfl) rfl #[.int .i64 a0, .int .u16 a2, .int .u16 a1] rfl (by (try simp only [List.map_toArray, List.map_cons, List.map_nil]); first | done | rfl | (simp only [List.length_drop, List.length_take]; rfl)) ?_; (with_reducible refine (word_Do.calls a0 a2 a1 t125 t126 _ A24.out).mono ?_); rintro e w' ⟨rfl, ⟨nd, rfl⟩⟩; refine ⟨_, rfl, ?_⟩) | ((with_reducible refine gate_callee (f := 11) rfl ?_); refine goesL_ (some 107) rfl rfl Try.func11 (by kernel_rfl) rfl #[.int .i64 a0] rfl (by (try simp only [List.map_toArray, List.map_cons, List.map_nil]); first | done | rfl | (simp only [List.length_drop, List.length_take]; rfl)) ?_; (with_reducible refine (word_Turns.calls a0 false _ A25.out).mono ?_); rintro e w' ⟨rfl, ⟨nd, rfl⟩⟩; refine ⟨_, rfl, ?_⟩) | ((with_reducible refine gate_callee (f := 9) rfl ?_); refine goesL_ (some 123) rfl rfl Try.func9 (by kernel_rfl) rfl #[.int .i64 a0] rfl (by (try simp only [List.map_toArray, List.map_cons, List.map_nil]); first | done | rfl | (simp only [List.length_drop, List.length_take]; rfl)) ?_; (with_reducible refine (word_Pure.calls a0 true _ A36.out).mono ?_); rintro e w' ⟨rfl, ⟨nd, rfl⟩⟩; refine ⟨_, rfl, ?_⟩))
                        go_ret
                        exact ⟨by first | rfl | (simp; done) | (simp [*]; done), by repeat (first | exact Drawn0.refl _ | apply Drawn0.step)⟩
                    · rw [if_neg c41] at H
                      have c41b0 : (t124 == true) = false := by simpa using c41
                      (try (have c41b1 : decide (t124 = true) = false := by simpa using c41))
                      (try (have c41b2 : (t124 == true) = false := by simpa using c41))
                      (try (have c41b3 : ¬ (t124 = true) := by simpa using c41))
                      clear c41
                      obtain rfl := Option.some.inj H
                      go_wp2_with (first | ((with_reducible refine gate_callee (f := 7) rfl ?_); refine goesL_ (some 96) rfl rfl Try.func7 (by kernel_rfl) rfl #[.int .i64 a0, .int .u16 a1, .int .u16 a2] rfl (by (try simp only [List.map_toArray, List.map_cons, List.map_nil]); first | done | rfl | (simp only [List.length_drop, List.length_take]; rfl)) ?_; (with_reducible refine (word_Do.calls a0 a1 a2 t123 t124 _ A23.out).mono ?_); rintro e w' ⟨rfl, ⟨nd, rfl⟩⟩; refine ⟨_, rfl, ?_⟩) | ((with_reducible refine gate_callee (f := 7) rfl ?_); refine goesL_ (some 103) rfl rfl Try.func7 (by kernel_rfl) rfl #[.int .i64 a0, .int .u16 a2, .int .u16 a1] rfl (by (try simp only [List.map_toArray, List.map_cons, List.map_nil]); first | done | rfl | (simp only [List.length_drop, List.length_take]; rfl)) ?_; (with_reducible refine (word_Do.calls a0 a2 a1 t125 t126 _ A24.out).mono ?_); rintro e w' ⟨rfl, ⟨nd, rfl⟩⟩; refine ⟨_, rfl, ?_⟩) | ((with_reducible refine gate_callee (f := 11) rfl ?_); refine goesL_ (some 107) rfl rfl Try.func11 (by kernel_rfl) rfl #[.int .i64 a0] rfl (by (try simp only [List.map_toArray, List.map_cons, List.map_nil]); first | done | rfl | (simp only [List.length_drop, List.length_take]; rfl)) ?_; (with_reducible refine (word_Turns.calls a0 false _ A25.out).mono ?_); rintro e w' ⟨rfl, ⟨nd, rfl⟩⟩; refine ⟨_, rfl, ?_⟩) | ((with_reducible refine gate_callee (f := 9) rfl ?_); refine goesL_ (some 123) rfl rfl Try.func9 (by kernel_rfl) rfl #[.int .i64 a0] rfl (by (try simp only [List.map_toArray, List.map_cons, List.map_nil]); first | done | rfl | (simp only [List.length_drop, List.length_take]; rfl)) ?_; (with_reducible refine (word_Pure.calls a0 true _ A36.out).mono ?_); rintro e w' ⟨rfl, ⟨nd, rfl⟩⟩; refine ⟨_, rfl, ?_⟩))
                      go_ret
                      exact ⟨by first | rfl | (simp; done) | (simp [*]; done), by repeat (first | exact Drawn0.refl _ | apply Drawn0.step)⟩
                · replace c37 := Bool.eq_false_iff.mpr c37
                  subst c37
                  have H1 : (if (t124 == false) = true then (if t124 = true then (some true) else (some (t123 == 0))) else (some false)) = some r := by rw [if_neg (show ¬ (false = true) by decide)] at H; exact H
                  clear H
                  have H := H1
                  clear H1
                  by_cases c43 : (t124 == false) = true
                  · rw [if_pos c43] at H
                    have c43b0 : (t124 == false) = true := c43
                    (try (have c43b1 : decide (t124 = false) = true := by simpa using c43))
                    (try (have c43b2 : (t124 == false) = true := by simpa using c43))
                    clear c43
                    by_cases c44 : t124 = true
                    · subst c44
                      have H1 : (some true) = some r := by rw [if_pos rfl] at H; exact H
                      clear H
                      have H := H1
                      clear H1
                      obtain rfl := Option.some.inj H
                      go_wp2_with (first | ((with_reducible refine gate_callee (f := 7) rfl ?_); refine goesL_ (some 96) rfl rfl Try.func7 (by kernel_rfl) rfl #[.int .i64 a0, .int .u16 a1, .int .u16 a2] rfl (by (try simp only [List.map_toArray, List.map_cons, List.map_nil]); first | done | rfl | (simp only [List.length_drop, List.length_take]; rfl)) ?_; (with_reducible refine (word_Do.calls a0 a1 a2 t123 true _ A23.out).mono ?_); rintro e w' ⟨rfl, ⟨nd, rfl⟩⟩; refine ⟨_, rfl, ?_⟩) | ((with_reducible refine gate_callee (f := 7) rfl ?_); refine goesL_ (some 103) rfl rfl Try.func7 (by kernel_rfl) rfl #[.int .i64 a0, .int .u16 a2, .int .u16 a1] rfl (by (try simp only [List.map_toArray, List.map_cons, List.map_nil]); first | done | rfl | (simp only [List.length_drop, List.length_take]; rfl)) ?_; (with_reducible refine (word_Do.calls a0 a2 a1 t125 t126 _ A24.out).mono ?_); rintro e w' ⟨rfl, ⟨nd, rfl⟩⟩; refine ⟨_, rfl, ?_⟩) | ((with_reducible refine gate_callee (f := 11) rfl ?_); refine goesL_ (some 107) rfl rfl Try.func11 (by kernel_rfl) rfl #[.int .i64 a0] rfl (by (try simp only [List.map_toArray, List.map_cons, List.map_nil]); first | done | rfl | (simp only [List.length_drop, List.length_take]; rfl)) ?_; (with_reducible refine (word_Turns.calls a0 false _ A25.out).mono ?_); rintro e w' ⟨rfl, ⟨nd, rfl⟩⟩; refine ⟨_, rfl, ?_⟩) | ((with_reducible refine gate_callee (f := 9) rfl ?_); refine goesL_ (some 123) rfl rfl Try.func9 (by kernel_rfl) rfl #[.int .i64 a0] rfl (by (try simp only [List.map_toArray, List.map_cons, List.map_nil]); first | done | rfl | (simp only [List.length_drop, List.length_take]; rfl)) ?_; (with_reducible refine (word_Pure.calls a0 false _ A36.out).mono ?_); rintro e w' ⟨rfl, ⟨nd, rfl⟩⟩; refine ⟨_, rfl, ?_⟩))
                      go_ret
                      exact ⟨by first | rfl | (simp; done) | (simp [*]; done), by repeat (first | exact Drawn0.refl _ | apply Drawn0.step)⟩
                    · replace c44 := Bool.eq_false_iff.mpr c44
                      subst c44
                      have H1 : (some (t123 == 0)) = some r := by rw [if_neg (show ¬ (false = true) by decide)] at H; exact H
                      clear H
                      have H := H1
                      clear H1
                      obtain rfl := Option.some.inj H
                      go_wp2_with (first | ((with_reducible refine gate_callee (f := 7) rfl ?_); refine goesL_ (some 96) rfl rfl Try.func7 (by kernel_rfl) rfl #[.int .i64 a0, .int .u16 a1, .int .u16 a2] rfl (by (try simp only [List.map_toArray, List.map_cons, List.map_nil]); first | done | rfl | (simp only [List.length_drop, List.length_take]; rfl)) ?_; (with_reducible refine (word_Do.calls a0 a1 a2 t123 false _ A23.out).mono ?_); rintro e w' ⟨rfl, ⟨nd, rfl⟩⟩; refine ⟨_, rfl, ?_⟩) | ((with_reducible refine gate_callee (f := 7) rfl ?_); refine goesL_ (some 103) rfl rfl Try.func7 (by kernel_rfl) rfl #[.int .i64 a0, .int .u16 a2, .int .u16 a1] rfl (by (try simp only [List.map_toArray, List.map_cons, List.map_nil]); first | done | rfl | (simp only [List.length_drop, List.length_take]; rfl)) ?_; (with_reducible refine (word_Do.calls a0 a2 a1 t125 t126 _ A24.out).mono ?_); rintro e w' ⟨rfl, ⟨nd, rfl⟩⟩; refine ⟨_, rfl, ?_⟩) | ((with_reducible refine gate_callee (f := 11) rfl ?_); refine goesL_ (some 107) rfl rfl Try.func11 (by kernel_rfl) rfl #[.int .i64 a0] rfl (by (try simp only [List.map_toArray, List.map_cons, List.map_nil]); first | done | rfl | (simp only [List.length_drop, List.length_take]; rfl)) ?_; (with_reducible refine (word_Turns.calls a0 false _ A25.out).mono ?_); rintro e w' ⟨rfl, ⟨nd, rfl⟩⟩; refine ⟨_, rfl, ?_⟩) | ((with_reducible refine gate_callee (f := 9) rfl ?_); refine goesL_ (some 123) rfl rfl Try.func9 (by kernel_rfl) rfl #[.int .i64 a0] rfl (by (try simp only [List.map_toArray, List.map_cons, List.map_nil]); first | done | rfl | (simp only [List.length_drop, List.length_take]; rfl)) ?_; (with_reducible refine (word_Pure.calls a0 false _ A36.out).mono ?_); rintro e w' ⟨rfl, ⟨nd, rfl⟩⟩; refine ⟨_, rfl, ?_⟩))
                      go_ret
                      exact ⟨by first | rfl | (simp; done) | (simp [*]; done), by repeat (first | exact Drawn0.refl _ | apply Drawn0.step)⟩
                  · rw [if_neg c43] at H
                    have c43b0 : (t124 == false) = false := by simpa using c43
                    (try (have c43b1 : decide (t124 = false) = false := by simpa using c43))
                    (try (have c43b2 : (t124 == false) = false := by simpa using c43))
                    (try (have c43b3 : ¬ (t124 = false) := by simpa using c43))
                    clear c43
                    obtain rfl := Option.some.inj H
                    go_wp2_with (first | ((with_reducible refine gate_callee (f := 7) rfl ?_); refine goesL_ (some 96) rfl rfl Try.func7 (by kernel_rfl) rfl #[.int .i64 a0, .int .u16 a1, .int .u16 a2] rfl (by (try simp only [List.map_toArray, List.map_cons, List.map_nil]); first | done | rfl | (simp only [List.length_drop, List.length_take]; rfl)) ?_; (with_reducible refine (word_Do.calls a0 a1 a2 t123 t124 _ A23.out).mono ?_); rintro e w' ⟨rfl, ⟨nd, rfl⟩⟩; refine ⟨_, rfl, ?_⟩) | ((with_reducible refine gate_callee (f := 7) rfl ?_); refine goesL_ (some 103) rfl rfl Try.func7 (by kernel_rfl) rfl #[.int .i64 a0, .int .u16 a2, .int .u16 a1] rfl (by (try simp only [List.map_toArray, List.map_cons, List.map_nil]); first | done | rfl | (simp only [List.length_drop, List.length_take]; rfl)) ?_; (with_reducible refine (word_Do.calls a0 a2 a1 t125 t126 _ A24.out).mono ?_); rintro e w' ⟨rfl, ⟨nd, rfl⟩⟩; refine ⟨_, rfl, ?_⟩) | ((with_reducible refine gate_callee (f := 11) rfl ?_); refine goesL_ (some 107) rfl rfl Try.func11 (by kernel_rfl) rfl #[.int .i64 a0] rfl (by (try simp only [List.map_toArray, List.map_cons, List.map_nil]); first | done | rfl | (simp only [List.length_drop, List.length_take]; rfl)) ?_; (with_reducible refine (word_Turns.calls a0 false _ A25.out).mono ?_); rintro e w' ⟨rfl, ⟨nd, rfl⟩⟩; refine ⟨_, rfl, ?_⟩) | ((with_reducible refine gate_callee (f := 9) rfl ?_); refine goesL_ (some 123) rfl rfl Try.func9 (by kernel_rfl) rfl #[.int .i64 a0] rfl (by (try simp only [List.map_toArray, List.map_cons, List.map_nil]); first | done | rfl | (simp only [List.length_drop, List.length_take]; rfl)) ?_; (with_reducible refine (word_Pure.calls a0 false _ A36.out).mono ?_); rintro e w' ⟨rfl, ⟨nd, rfl⟩⟩; refine ⟨_, rfl, ?_⟩))
                    go_ret
                    exact ⟨by first | rfl | (simp; done) | (simp [*]; done), by repeat (first | exact Drawn0.refl _ | apply Drawn0.step)⟩
  · replace c5 := Bool.eq_false_iff.mpr c5
    subst c5
    have H1 : (some false) = some r := by rw [if_neg (show ¬ (false = true) by decide)] at H; exact H
    clear H
    have H := H1
    clear H1
    obtain rfl := Option.some.inj H
    go_enter Try.func4, Try.ntmps4
    go_wp2_with (first | ((with_reducible refine gate_callee (f := 6) rfl ?_); refine goesL_ (some 23) rfl rfl Try.func6 (by kernel_rfl) rfl #[] rfl (by (try simp only [List.map_toArray, List.map_cons, List.map_nil]); first | done | rfl | (simp only [List.length_drop, List.length_take]; rfl)) ?_; (with_reducible refine (davitlaw01_awake.calls  false _ A4.out).mono ?_); rintro e w' ⟨rfl, ⟨nd, rfl⟩⟩; refine ⟨_, rfl, ?_⟩))
    go_ret
    exact ⟨by first | rfl | (simp; done) | (simp [*]; done), by repeat (first | exact Drawn0.refl _ | apply Drawn0.step)⟩

/-- THE ONE PURE STATEMENT of davitlaw01_WordRound: yours. -/
def davitlaw01_WordRound.Pure : Prop := ∀ (a0 : Int) (a1 : Int) (a2 : Int), (Lit.int .i64 a0).wf = true → (Lit.int .u16 a1).wf = true → (Lit.int .u16 a2).wf = true → ∃ k, davitlaw01_WordRound.f k a0 a1 a2 = some true
theorem davitlaw01_WordRound.walk (P : davitlaw01_WordRound.Pure) (a0 : Int) (a1 : Int) (a2 : Int) (w : World) (w0 : (Lit.int .i64 a0).wf = true) (w1 : (Lit.int .u16 a1).wf = true) (w2 : (Lit.int .u16 a2).wf = true) :
    Calls Try.prog 4 #[.int .i64 a0, .int .u16 a1, .int .u16 a2] w fun e w' => e = .returned (.bool true) ∧ Below w.heap.size w w' := by
  obtain ⟨k, h⟩ := P a0 a1 a2 w0 w1 w2
  refine (davitlaw01_WordRound.calls k a0 a1 a2 true w h).mono ?_
  rintro e w' ⟨rfl, hd⟩
  exact ⟨rfl, hd.below⟩

end Go.Proofs.Ytckgbbboknjkoaa.PWordRound
