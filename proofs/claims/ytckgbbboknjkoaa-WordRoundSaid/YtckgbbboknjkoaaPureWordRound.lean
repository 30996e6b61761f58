/- What was put to a word is taken away again; a division and its rest make it up; what turns answers the same turned; only a division by 0 of those that are such has no answer. No condition. -/
import Derived.Test.YtckgbbboknjkoaaMWordRoundx2
namespace Go.Proofs.Ytckgbbboknjkoaa.Pure
open Go.RowKit Go.Proofs.Ytckgbbboknjkoaa.PWordRound Go.Proofs.YtckgbbboknjkoaaW.PrintWords Go.Proofs.YtckgbbboknjkoaaW.PrintLast
set_option linter.all false

theorem wu16 (n : Int) : IntKind.u16.wrap n = n % 65536 := by simp [IntKind.wrap, IntKind.bits, IntKind.signed]
theorem bu16 {a : Int} (h : (Lit.int .u16 a).wf = true) : 0 ≤ a ∧ a ≤ 65535 := by
  simp [Lit.wf, IntKind.min, IntKind.max, IntKind.signed, IntKind.bits] at h; omega

theorem awake_true : davitlaw01_awake.f = some true := by
  simp [davitlaw01_awake.f, word_Do.f, word_Pure.f, word_Two.f, word_Turns.f, wu16]

theorem do8 (a b : Int) : word_Do.f 8 a b = some (if a < b then 1 else 0, true) := by
  by_cases h : a < b <;> simp [word_Do.f, word_truth.f, h]
theorem do3 (a b : Int) : word_Do.f 3 a b = some ((a + b) % 65536, true) := by simp [word_Do.f, wu16]
theorem do4 (a b : Int) : word_Do.f 4 a b = some ((a - b) % 65536, true) := by simp [word_Do.f, wu16]
theorem do5 (a b : Int) : word_Do.f 5 a b = some ((a * b) % 65536, true) := by simp [word_Do.f, wu16]
theorem do6 (a b : Int) : word_Do.f 6 a b = if b = 0 then some (0, false) else some (IntKind.u16.wrap (Int.tdiv a b), true) := by simp [word_Do.f]

theorem turns (op : Int) : word_Turns.f op = some (decide (op = 3 ∨ op = 5 ∨ op = 7)) := by
  unfold word_Turns.f
  by_cases h3 : op = 3
  · simp [h3]
  by_cases h5 : op = 5
  · simp [h5]
  by_cases h7 : op = 7 <;> simp [h3, h5, h7]
theorem pure_ (op : Int) : word_Pure.f op = some (decide (2 ≤ op ∧ op ≤ 8)) := by
  unfold word_Pure.f
  by_cases h : 2 ≤ op <;> simp [h]

theorem swaps (op a b : Int) (h : op = 3 ∨ op = 5 ∨ op = 7) : word_Do.f op a b = word_Do.f op b a := by
  rcases h with rfl | rfl | rfl
  · rw [do3, do3, Int.add_comm]
  · rw [do5, do5, Int.mul_comm]
  · simp only [word_Do.f]
    have : (a == b) = (b == a) := by rw [Bool.eq_iff_iff, beq_iff_eq, beq_iff_eq]; exact ⟨fun h => h.symm, fun h => h.symm⟩
    simp [this]

theorem ends (op a b : Int) : ∃ r : Int × Bool, word_Do.f op a b = some r ∧ r.2 = decide ((2 ≤ op ∧ op ≤ 8) ∧ (op ≠ 6 ∨ b ≠ 0)) ∧ (r.2 = false → r.1 = 0) := by
  by_cases h2 : op = 2
  · subst h2; exact ⟨_, rfl, by simp, by simp⟩
  by_cases h3 : op = 3
  · subst h3; exact ⟨_, rfl, by simp, by simp⟩
  by_cases h4 : op = 4
  · subst h4; exact ⟨_, rfl, by simp, by simp⟩
  by_cases h5 : op = 5
  · subst h5; exact ⟨_, rfl, by simp, by simp⟩
  by_cases h6 : op = 6
  · subst h6
    rw [do6]
    by_cases hb : b = 0
    · simp [hb]
    · exact ⟨_, if_neg hb, by simp [hb], by simp⟩
  by_cases h7 : op = 7
  · subst h7
    by_cases h : a = b <;> exact ⟨_, by simp [word_Do.f, word_truth.f, h]; rfl, by simp, by simp⟩
  by_cases h8 : op = 8
  · subst h8; exact ⟨_, do8 a b, by simp, by simp⟩
  refine ⟨(0, false), by simp [word_Do.f, h2, h3, h4, h5, h6, h7, h8], ?_, by simp⟩
  have : ¬ (2 ≤ op ∧ op ≤ 8) := by omega
  simp [this]

theorem j1_true (op a b : Int) : davitlaw01_WordRound.j1 1 op a b = some true := by
  obtain ⟨r, hr, h2, h0⟩ := ends op a b
  simp only [davitlaw01_WordRound.j1]
  rw [turns, pure_]
  by_cases ht : op = 3 ∨ op = 5 ∨ op = 7
  · have hs := swaps op a b ht
    rw [← hs, hr]
    have hp : 2 ≤ op ∧ op ≤ 8 := by omega
    have h6 : op ≠ 6 := by omega
    have e2 : r.2 = true := by simp [h2, hp, h6]
    simp [ht, hp, h6, e2]
  · obtain ⟨q, hq, -, -⟩ := ends op b a
    rw [hr, hq]
    simp only [Option.bind_some, ht]
    by_cases hp : 2 ≤ op ∧ op ≤ 8
    · by_cases h6 : op = 6
      · subst h6
        by_cases hb : b = 0
        · subst hb
          simp at h2
          simp [h2, h0 h2]
        · have e2 : r.2 = true := by simp [h2, hb]
          simp [e2, hb]
      · have e2 : r.2 = true := by simp [h2, hp, h6]
        simp [hp, h6, e2]
    · have e2 : r.2 = false := by simp [h2, hp]
      simp [hp, e2, h0 e2]

theorem WordRound : davitlaw01_WordRound.Pure := by
  intro op a b _ ha hb
  replace ha := bu16 ha
  replace hb := bu16 hb
  refine ⟨2, ?_⟩
  unfold davitlaw01_WordRound.f
  rw [awake_true, do3]
  simp only [Option.bind_some, do4, if_true]
  have e : (((a + b) % 65536 - b) % 65536 != a) = false := by simp; omega
  rw [e]
  simp only [davitlaw01_WordRound.j0]
  rw [do6]
  by_cases hz : b = 0
  · rw [if_pos hz]
    simp only [Option.bind_some]
    exact j1_true op a b
  · rw [if_neg hz]
    have hp : 0 < b := by omega
    have hd : Int.tdiv a b = a / b := Int.tdiv_eq_ediv_of_nonneg ha.1
    have hq : 0 ≤ a / b ∧ a / b ≤ 65535 := ⟨Int.ediv_nonneg ha.1 hb.1, Int.le_trans (Int.ediv_le_self b ha.1) ha.2⟩
    have hm : 0 ≤ a % b ∧ a % b < b := ⟨Int.emod_nonneg a hz, Int.emod_lt_of_pos a hp⟩
    have hx : a / b * b = a - a % b := by have := Int.mul_ediv_add_emod a b; rw [Int.mul_comm]; omega
    have hr : a % b ≤ a := by
      by_cases h : a < b
      · rw [Int.emod_eq_of_lt ha.1 h]; omega
      · omega
    have hr0 := hm.1
    simp only [Option.bind_some, hd, wu16, do5, do4, do8, if_true]
    have e1 : a / b % 65536 = a / b := by omega
    rw [e1, hx]
    have e2 : (a - a % b) % 65536 = a - a % b := by omega
    rw [e2]
    have e3 : (a - (a - a % b)) % 65536 = a % b := by omega
    have e4 : ¬ (a - a % b > a) := by omega
    rw [e3, if_pos hm.2]
    simp only [e4, if_true, if_false]
    exact j1_true op a b

end Go.Proofs.Ytckgbbboknjkoaa.Pure
