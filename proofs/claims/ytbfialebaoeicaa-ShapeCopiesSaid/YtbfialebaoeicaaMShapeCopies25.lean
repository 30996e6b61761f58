/- Part 26 of the proof of the statement ShapeCopies: the words of the walks, the walks through the functions that it reaches, and the plain laws of what they compute. -/
import Derived.Test.YtbfialebaoeicaaMShapeCopies24
import Derived.Test.YtbfialebaoeicaaRows
import Derived.WalkKit
import Derived.ProofKit
import Derived.OpenShut
import Derived.ShutString
import Derived.ChangeOld
import Derived.Below
import Derived.SizedLaws
import Derived.Carry
namespace Go.Proofs.Ytbfialebaoeicaa.X
open Go.RowKit Go.Proofs.YtbfialebaoeicaaW.PrintWords
set_option linter.all false
theorem law_copies.calls (A0 : Option Addr) (c0 : Nat) (a : List S27) (B0 : Option Addr) (e0 : Nat) (b : List S27) (t : Int) (r : Bool) (w : World) (ha : Kd.C k27 w A0 a.length a) (hca : a.length ≤ c0) (hb : Kd.C k27 w B0 b.length b) (hcb : b.length ≤ e0) (h : 0 ≤ t ∧ t ≤ 65535) :
  Calls Try.prog 4 #[.agg #[.slice A0 a.length c0], .agg #[.slice B0 b.length e0], .int .u16 t] w fun e w' => e = .returned (.bool true) ∧ Below w.heap.size w w' :=
 copies_c a A0 c0 b B0 e0 t w ha hca hb hcb h
end Go.Proofs.Ytbfialebaoeicaa.X
namespace Go.Proofs.Ytbfialebaoeicaa.Pure
open Go.Proofs.Ytbfialebaoeicaa.X
set_option linter.all false
theorem ShapeCopies (a : List S27) (b : List S27) (t : Int) (wt : (Go.Lit.int .u16 t).wf = true) : ∃ _ : Unit, 0 ≤ t ∧ t ≤ 65535 := ⟨(), by simp [Go.Lit.wf, Go.IntKind.min, Go.IntKind.max, Go.IntKind.signed, Go.IntKind.bits] at wt; omega⟩
end Go.Proofs.Ytbfialebaoeicaa.Pure
namespace Go.Proofs.Ytbfialebaoeicaa.shapeCopies
open Go.ChangeShapes Go.WideShapes Go.ChangeAt Go.RowKit Go.Proofs.Ytbfialebaoeicaa.X Go.Proofs.YtbfialebaoeicaaW.PrintWords
set_option linter.all false
theorem own : ownKnob Try.prog.godebug = none := by kernel_rfl
theorem laidOut : laidOutB Try.prog = true := by kernel_rfl
set_option maxRecDepth 100000 in
theorem lifted (os : Os) (started : os.Started) (H : Type) (enc : TypeId × Value → H) :
  ReturnsInHanded {} Try.checked os 4 .any (Rows.shapeCopiesSpec.pre6 enc Try.prog Try.f4 Rows.shapeCopiesRow.domain false) (Rows.shapeCopiesSpec.post enc Try.prog Try.f4 false true false false) := by
 refine returnsInHanded_of_change_sized (C := Try.checked) own started (by kernel_rfl) Try.func4
  (ChangeSpec.witness6 (enc := enc) (C := Try.checked) false ⟨#[], #[.agg #[.slice none 0 0], .agg #[.slice none 0 0], .int .u16 0], []⟩ 8 (by kernel_rfl) (by kernel_rfl) (by kernel_rfl) (by kernel_rfl)) ?_
 intro W base args ds gs before hval0 hW hcnd hsz0 _
 have hval : ∀ (j : Nat) t v, Try.f4.params[j]? = some t → args[j]? = some v → Value.okWide Try.prog W .any base t v := hval0
 have hW' := hW
 obtain ⟨p, q, hA0, hV, rfl, hfz, hnd⟩ := hW
 have hA : DataW.TrodAll enc Try.prog W 0 (fun _ => true) true Try.f4.params.toList args.toList ds p := hA0
 rw [Try.params4] at hA hval
 obtain ⟨v0, vs0, d0, ds0, p0, q0, hargs, rfl, rfl, h0, r0⟩ := trodAll_cons hA
 obtain ⟨v1, vs1, d1, ds1, p1, q1, rfl, rfl, rfl, h1, r1⟩ := trodAll_cons r0
 obtain ⟨v2, vs2, d2, ds2, p2, q2, rfl, rfl, rfl, h2, r2⟩ := trodAll_cons r1
 obtain ⟨rfl, rfl, rfl⟩ := trodAll_nil r2
 obtain rfl : args = #[v0, v1, v2] := by cases args; simp_all
 obtain ⟨rfl, rfl⟩ := trodVars_none hV
 have k0 := h0
 have lt0 : ∀ x ∈ p0, x.block < W.heap.size := by obtain ⟨m, hm⟩ := k0; exact DataW.trod_lt m _ _ _ hm
 obtain ⟨A_0, c_0, m_0, rfl, hC_0, hc_0⟩ := open_mod (hval 0 24 v0 rfl rfl) h0
 have k1 := h1
 have lt1 : ∀ x ∈ p1, x.block < W.heap.size := by obtain ⟨m, hm⟩ := k1; exact DataW.trod_lt m _ _ _ hm
 obtain ⟨A_1, c_1, m_1, rfl, hC_1, hc_1⟩ := open_mod (hval 1 24 v1 rfl rfl) h1
 obtain ⟨a2, rfl, rfl, rfl, w2⟩ := open_int Try.underlying44 (hval 2 44 v2 rfl rfl) h2
 clear hA0 hval0 hsz0
 obtain ⟨k, hk⟩ := Pure.ShapeCopies m_0 m_1 a2 w2
 refine (law_copies.calls  A_0 c_0 m_0 A_1 c_1 m_1 a2 true W hC_0 hc_0 hC_1 hc_1 hk).mono fun e W' ⟨he, bel⟩ => ?_
 subst he
 exact ⟨_, rfl, _, _, _, [], _, [], hW', trodAll_mk1 (shut_bool Try.underlying4 _), (trodAll_cons_mk (Below.trod laidOut (by kernel_rfl) (of_decide_eq_true (by kernel_rfl)) k0 bel lt0) (trodAll_cons_mk (Below.trod laidOut (by kernel_rfl) (of_decide_eq_true (by kernel_rfl)) k1 bel lt1) (trodAll_cons_mk (shut_int Try.underlying44 w2) trodAll_mk0))), rfl, bel.frame _, fun h => by cases h⟩
theorem over : Rows.shapeCopiesRow.holds Try.pinned (OpenSpec.ofChange Rows.shapeCopiesSpec) :=
 OpenClaim.holds_of_wide 4 Try.f4 rfl rfl rfl rfl rfl rfl rfl ⟨rfl, rfl, rfl, rfl, rfl⟩ rfl rfl rfl rfl rfl (by kernel_rfl) Try.func4 (by kernel_rfl)
  (of_decide_eq_true (by kernel_rfl)) (by unfold Func.isWrapper; first | (rw [if_pos (by decide +kernel)]; kernel_rfl) | (rw [if_neg (by decide +kernel)]; exact ⟨rfl, rfl⟩))
  (fun os started H enc _ => lifted os started H enc)
theorem proved : Rows.ShapeCopiesSaid := over
#print axioms proved
end Go.Proofs.Ytbfialebaoeicaa.shapeCopies
namespace Go.Proofs.Ytbfialebaoeicaa
theorem shapeCopies_holds : Rows.ShapeCopiesSaid := shapeCopies.proved
end Go.Proofs.Ytbfialebaoeicaa
