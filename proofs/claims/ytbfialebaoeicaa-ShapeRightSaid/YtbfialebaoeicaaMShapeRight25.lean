/- Part 26 of the proof of the statement ShapeRight: the words of the walks, the walks through the functions that it reaches, and the plain laws of what they compute. -/
import Derived.Test.YtbfialebaoeicaaMShapeRight24
import Derived.Test.YtbfialebaoeicaaRows
import Derived.WalkKit
import Derived.ProofKit
import Derived.OpenShut
import Derived.ShutString
import Derived.ChangeOld
import Derived.Below
import Derived.SizedLaws
import Derived.Carry
namespace Go.Proofs.Ytbfialebaoeicaa.X
open Go.RowKit Go.Proofs.YtbfialebaoeicaaW.PrintWords
set_option linter.all false
theorem law_sright.calls (A0 : Option Addr) (c0 : Nat) (m : List S27) (f : S27) (A1 : Option Addr) (c1 : Nat) (r : Bool) (w : World) (hm : Kd.C k27 w A0 m.length m) (hc0 : m.length ≤ c0) (hf : Kd.C k41 w A1 f.f2.length f.f2) (hc1 : f.f2.length ≤ c1) (h : True) :
  Calls Try.prog 3 #[.agg #[.slice A0 m.length c0], .agg #[.int .i64 f.f0, .int .i64 f.f1, .slice A1 f.f2.length c1]] w fun e w' => e = .returned (.bool true) ∧ Below w.heap.size w w' :=
 sright_c m A0 c0 f A1 c1 w hm hc0 hf hc1
end Go.Proofs.Ytbfialebaoeicaa.X
namespace Go.Proofs.Ytbfialebaoeicaa.Pure
open Go.Proofs.Ytbfialebaoeicaa.X
set_option linter.all false
theorem ShapeRight (m : List S27) (f : S27) : ∃ _ : Unit, True := ⟨(), trivial⟩
end Go.Proofs.Ytbfialebaoeicaa.Pure
namespace Go.Proofs.Ytbfialebaoeicaa.shapeRight
open Go.ChangeShapes Go.WideShapes Go.ChangeAt Go.RowKit Go.Proofs.Ytbfialebaoeicaa.X Go.Proofs.YtbfialebaoeicaaW.PrintWords
set_option linter.all false
theorem own : ownKnob Try.prog.godebug = none := by kernel_rfl
theorem laidOut : laidOutB Try.prog = true := by kernel_rfl
set_option maxRecDepth 100000 in
theorem lifted (os : Os) (started : os.Started) (H : Type) (enc : TypeId × Value → H) :
  ReturnsInHanded {} Try.checked os 3 .any (Rows.shapeRightSpec.pre6 enc Try.prog Try.f3 Rows.shapeRightRow.domain false) (Rows.shapeRightSpec.post enc Try.prog Try.f3 false true false false) := by
 refine returnsInHanded_of_change_sized (C := Try.checked) own started (by kernel_rfl) Try.func3
  (ChangeSpec.witness6 (enc := enc) (C := Try.checked) false ⟨#[], #[.agg #[.slice none 0 0], .agg #[.int .i64 0, .int .i64 0, .slice none 0 0]], []⟩ 8 (by kernel_rfl) (by kernel_rfl) (by kernel_rfl) (by kernel_rfl)) ?_
 intro W base args ds gs before hval0 hW hcnd hsz0 _
 have hval : ∀ (j : Nat) t v, Try.f3.params[j]? = some t → args[j]? = some v → Value.okWide Try.prog W .any base t v := hval0
 have hW' := hW
 obtain ⟨p, q, hA0, hV, rfl, hfz, hnd⟩ := hW
 have hA : DataW.TrodAll enc Try.prog W 0 (fun _ => true) true Try.f3.params.toList args.toList ds p := hA0
 rw [Try.params3] at hA hval
 obtain ⟨v0, vs0, d0, ds0, p0, q0, hargs, rfl, rfl, h0, r0⟩ := trodAll_cons hA
 obtain ⟨v1, vs1, d1, ds1, p1, q1, rfl, rfl, rfl, h1, r1⟩ := trodAll_cons r0
 obtain ⟨rfl, rfl, rfl⟩ := trodAll_nil r1
 obtain rfl : args = #[v0, v1] := by cases args; simp_all
 obtain ⟨rfl, rfl⟩ := trodVars_none hV
 have k0 := h0
 have lt0 : ∀ x ∈ p0, x.block < W.heap.size := by obtain ⟨m, hm⟩ := k0; exact DataW.trod_lt m _ _ _ hm
 obtain ⟨A_0, c_0, m_0, rfl, hC_0, hc_0⟩ := open_mod (hval 0 24 v0 rfl rfl) h0
 have k1 := h1
 have lt1 : ∀ x ∈ p1, x.block < W.heap.size := by obtain ⟨m, hm⟩ := k1; exact DataW.trod_lt m _ _ _ hm
 obtain ⟨f_1, A_1, c_1, rfl, hC_1, hc_1⟩ := open_func (hval 1 27 v1 rfl rfl) h1
 clear hA0 hval0 hsz0
 obtain ⟨k, hk⟩ := Pure.ShapeRight m_0 f_1
 refine (law_sright.calls  A_0 c_0 m_0 f_1 A_1 c_1 true W hC_0 hc_0 hC_1 hc_1 hk).mono fun e W' ⟨he, bel⟩ => ?_
 subst he
 exact ⟨_, rfl, _, _, _, [], _, [], hW', trodAll_mk1 (shut_bool Try.underlying4 _), (trodAll_cons_mk (Below.trod laidOut (by kernel_rfl) (of_decide_eq_true (by kernel_rfl)) k0 bel lt0) (trodAll_cons_mk (Below.trod laidOut (by kernel_rfl) (of_decide_eq_true (by kernel_rfl)) k1 bel lt1) trodAll_mk0)), rfl, bel.frame _, fun h => by cases h⟩
theorem over : Rows.shapeRightRow.holds Try.pinned (OpenSpec.ofChange Rows.shapeRightSpec) :=
 OpenClaim.holds_of_wide 3 Try.f3 rfl rfl rfl rfl rfl rfl rfl ⟨rfl, rfl, rfl, rfl, rfl⟩ rfl rfl rfl rfl rfl (by kernel_rfl) Try.func3 (by kernel_rfl)
  (of_decide_eq_true (by kernel_rfl)) (by unfold Func.isWrapper; first | (rw [if_pos (by decide +kernel)]; kernel_rfl) | (rw [if_neg (by decide +kernel)]; exact ⟨rfl, rfl⟩))
  (fun os started H enc _ => lifted os started H enc)
theorem proved : Rows.ShapeRightSaid := over
#print axioms proved
end Go.Proofs.Ytbfialebaoeicaa.shapeRight
namespace Go.Proofs.Ytbfialebaoeicaa
theorem shapeRight_holds : Rows.ShapeRightSaid := shapeRight.proved
end Go.Proofs.Ytbfialebaoeicaa
