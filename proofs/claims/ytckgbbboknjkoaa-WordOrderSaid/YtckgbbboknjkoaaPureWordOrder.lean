/- Of two words just one is so: alike, the first below, the second below; what is added to both keeps them alike; a product with 1 is the word, with 0 is 0. No condition. -/
import Derived.Test.YtckgbbboknjkoaaPWordOrderx1
namespace Go.Proofs.Ytckgbbboknjkoaa.Pure
open Go.RowKit Go.Proofs.Ytckgbbboknjkoaa.PWordOrder Go.Proofs.YtckgbbboknjkoaaW.PrintWords Go.Proofs.YtckgbbboknjkoaaW.PrintLast
set_option linter.all false

theorem wu16 (n : Int) : IntKind.u16.wrap n = n % 65536 := by simp [IntKind.wrap, IntKind.bits, IntKind.signed]
theorem bu16 {a : Int} (h : (Lit.int .u16 a).wf = true) : 0 ≤ a ∧ a ≤ 65535 := by
  simp [Lit.wf, IntKind.min, IntKind.max, IntKind.signed, IntKind.bits] at h; omega

theorem awake_true : davitlaw01_awake.f = some true := by
  simp [davitlaw01_awake.f, word_Do.f, word_Pure.f, word_Two.f, word_Turns.f, wu16]

theorem do7 (a b : Int) : word_Do.f 7 a b = some (if a = b then 1 else 0, true) := by
  by_cases h : a = b <;> simp [word_Do.f, word_truth.f, h]
theorem do8 (a b : Int) : word_Do.f 8 a b = some (if a < b then 1 else 0, true) := by
  by_cases h : a < b <;> simp [word_Do.f, word_truth.f, h]
theorem do3 (a b : Int) : word_Do.f 3 a b = some ((a + b) % 65536, true) := by simp [word_Do.f, wu16]
theorem do5 (a b : Int) : word_Do.f 5 a b = some ((a * b) % 65536, true) := by simp [word_Do.f, wu16]
theorem do2 (a b : Int) : word_Do.f 2 a b = some (a, true) := by simp [word_Do.f]

theorem WordOrder : davitlaw01_WordOrder.Pure := by
  intro a b c ha hb hc
  replace ha := bu16 ha
  replace hb := bu16 hb
  replace hc := bu16 hc
  refine ⟨1, ?_⟩
  unfold davitlaw01_WordOrder.f
  rw [awake_true, do7, do8, do8]
  simp only [Option.bind_some, if_true]
  have hs : (wrap64 (wrap64 (wrap64 (if a = b then 1 else 0) + wrap64 (if a < b then 1 else 0)) + wrap64 (if b < a then 1 else 0)) != 1) = false := by
    rcases Int.lt_trichotomy a b with h | h | h
    · have h1 : a ≠ b := by omega
      have h2 : ¬ b < a := by omega
      simp [h, h1, h2, wrap64]
    · subst h; simp [wrap64]
    · have h1 : a ≠ b := by omega
      have h2 : ¬ a < b := by omega
      simp [h, h1, h2, wrap64]
  rw [hs]
  simp only [davitlaw01_WordOrder.j0]
  rw [do3, do3, do5, do5, do2]
  simp only [Option.bind_some, do7]
  have e1 : a % 65536 = a := by omega
  have e2 : ((a + c) % 65536 = (b + c) % 65536) ↔ a = b := by omega
  simp [e1, e2]

end Go.Proofs.Ytckgbbboknjkoaa.Pure
