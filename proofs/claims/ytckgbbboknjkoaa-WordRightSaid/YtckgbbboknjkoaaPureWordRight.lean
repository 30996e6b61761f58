/- Any operation on any words answers what the document says; which operations are such, have two words, and turn. No condition. -/
import Derived.Test.YtckgbbboknjkoaaPWordRightx2
namespace Go.Proofs.Ytckgbbboknjkoaa.Pure
open Go.RowKit Go.Proofs.Ytckgbbboknjkoaa.PWordRight Go.Proofs.YtckgbbboknjkoaaW.PrintWords Go.Proofs.YtckgbbboknjkoaaW.PrintLast
set_option linter.all false

theorem wu16 (n : Int) : IntKind.u16.wrap n = n % 65536 := by simp [IntKind.wrap, IntKind.bits, IntKind.signed]
theorem wu64 (n : Int) : IntKind.u64.wrap n = n % 18446744073709551616 := by simp [IntKind.wrap, IntKind.bits, IntKind.signed]
theorem bu16 {a : Int} (h : (Lit.int .u16 a).wf = true) : 0 ≤ a ∧ a ≤ 65535 := by
  simp [Lit.wf, IntKind.min, IntKind.max, IntKind.signed, IntKind.bits] at h; omega

theorem awake_true : davitlaw01_awake.f = some true := by
  simp [davitlaw01_awake.f, word_Do.f, word_Pure.f, word_Two.f, word_Turns.f, wu16]

theorem do_eq (op a b : Int) (ha : 0 ≤ a ∧ a ≤ 65535) (hb : 0 ≤ b ∧ b ≤ 65535) : davitref01_Do.f 1 op a b = word_Do.f op a b := by
  obtain ⟨a0, a1⟩ := ha
  obtain ⟨b0, b1⟩ := hb
  have ea : a % 18446744073709551616 = a := by omega
  have eb : b % 18446744073709551616 = b := by omega
  have hm : 0 ≤ a * b ∧ a * b ≤ 65535 * 65535 := ⟨Int.mul_nonneg a0 b0, Int.mul_le_mul a1 b1 b0 (by omega)⟩
  unfold davitref01_Do.f word_Do.f
  simp only [davitref01_Do.j0, word_truth.f, wu16, wu64, ea, eb]
  by_cases h2 : op = 2
  · simp [h2]
  by_cases h3 : op = 3
  · simp only [h3]; simp
    rw [Int.tmod_eq_emod_of_nonneg (by omega)]; omega
  by_cases h4 : op = 4
  · simp only [h4]; simp
    rw [Int.tmod_eq_emod_of_nonneg (by omega)]; omega
  by_cases h5 : op = 5
  · simp only [h5]; simp
    rw [Int.tmod_eq_emod_of_nonneg (by omega)]; omega
  by_cases h6 : op = 6
  · simp only [h6]; simp
    by_cases hz : b = 0
    · simp [hz]
    · have hp : 0 < b := by omega
      have hq : 0 ≤ a.tdiv b ∧ a.tdiv b ≤ 65535 := by
        rw [Int.tdiv_eq_ediv_of_nonneg a0]
        exact ⟨Int.ediv_nonneg a0 b0, Int.le_trans (Int.ediv_le_self b a0) a1⟩
      have hw : a.tdiv b % 18446744073709551616 = a.tdiv b := by omega
      simp [hp, hz, hw]
  by_cases h7 : op = 7
  · simp only [h7]; simp
    by_cases hab : a = b <;> simp [hab]
  by_cases h8 : op = 8
  · simp only [h8]; simp
    by_cases hab : a < b <;> simp [hab]
  have e7 : (op == 7) = false := by simp [h7]
  have e8 : (op == 8) = false := by simp [h8]
  simp [h2, h3, h4, h5, h6, h7, h8]

theorem WordRight : davitlaw01_WordRight.Pure := by
  intro op a b _ ha hb
  replace ha := bu16 ha
  replace hb := bu16 hb
  refine ⟨1, ?_⟩
  have hd := do_eq op a b ha hb
  obtain ⟨r, hr⟩ : ∃ r, word_Do.f op a b = some r := by
    unfold word_Do.f word_truth.f
    repeat' split
    all_goals exact ⟨_, rfl⟩
  unfold davitlaw01_WordRight.f
  rw [awake_true, hd, hr]
  simp only [Option.bind_some]
  simp only [beq_self_eq_true, if_true]
  unfold word_Pure.f word_Two.f word_Turns.f
  by_cases h2 : op ≥ 2
  · by_cases h3 : op ≥ 3
    · have h3' : op > 2 := by omega
      by_cases e3 : op = 3
      · simp [e3]
      · by_cases e5 : op = 5
        · simp [e5]
        · by_cases e7 : op = 7 <;> simp [h2, h3, h3', e3, e5, e7]
    · have h3' : ¬ op > 2 := by omega
      have e2 : op = 2 := by omega
      simp [e2]
  · have h3 : ¬ op ≥ 3 := by omega
    have h3' : ¬ op > 2 := by omega
    have e3 : op ≠ 3 := by omega
    have e5 : op ≠ 5 := by omega
    have e7 : op ≠ 7 := by omega
    simp [h2, h3, h3', e3, e5, e7]

end Go.Proofs.Ytckgbbboknjkoaa.Pure
