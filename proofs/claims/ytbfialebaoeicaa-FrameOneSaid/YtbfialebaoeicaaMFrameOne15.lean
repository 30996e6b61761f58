/- Part 16 of the proof of the statement FrameOne: the words of the walks, the walks through the functions that it reaches, and the plain laws of what they compute. -/
import Derived.Test.YtbfialebaoeicaaMFrameOne14
import Derived.Test.YtbfialebaoeicaaRows
import Derived.WalkKit
import Derived.ProofKit
import Derived.OpenShut
import Derived.ShutString
import Derived.ChangeOld
import Derived.Below
import Derived.SizedLaws
import Derived.Carry
namespace Go.Proofs.Ytbfialebaoeicaa.X
open Go.ChangeShapes Go.WideShapes Go.ChangeAt Go.RowKit Go.Proofs.YtbfialebaoeicaaW.PrintWords Go.Proofs.YtbfialebaoeicaaW.PrintLast Go.Proofs.YtbfialebaoeicaaW.PrintMore
set_option linter.all false
set_option maxRecDepth 100000
def OpensPF {α : Type} (d : Kd α) (fs : List Field) (off : Nat) (Q : α → Prop) : Prop := ∀ (H : Type) (enc : TypeId × Value → H) (w : World) (n : Nat) (cs : List Value), cs.length = off + d.sz →
 (∀ f ∈ fs, ∃ y, DataW.trod enc Try.prog w 0 (fun _ => true) true n f.type ((cs.drop f.offset).take (Try.prog.cellsOf f.type)) = some y) → ∃ a, d.K w a (cs.drop off) ∧ Q a
theorem OpensPF.one {α : Type} {d : Kd α} {f : Field} {off : Nat} {Q : α → Prop} (ho : f.offset = off) (hd : OpensP d f.type Q) (hs : Try.prog.cellsOf f.type = d.sz) : OpensPF d [f] off Q := fun H enc w n cs hl h => by
 obtain ⟨y, hy⟩ := h f (List.mem_cons_self ..)
 rw [ho, hs, List.take_of_length_le (by rw [List.length_drop]; omega)] at hy
 exact hd H enc w n _ _ hy
theorem OpensPF.cons {α β : Type} {d : Kd α} {d2 : Kd β} {f : Field} {fs : List Field} {off : Nat} {Q : α → Prop} {Q2 : β → Prop} (ho : f.offset = off) (hd : OpensP d f.type Q) (hs : Try.prog.cellsOf f.type = d.sz) (h2 : OpensPF d2 fs (off + d.sz) Q2) : OpensPF (Kd.pair d d2) (f :: fs) off (fun x => Q x.1 ∧ Q2 x.2) := fun H enc w n cs hl h => by
 obtain ⟨y, hy⟩ := h f (List.mem_cons_self ..)
 rw [ho, hs] at hy
 obtain ⟨a, ha, hqa⟩ := hd H enc w n _ _ hy
 have hl' : cs.length = off + (d.sz + d2.sz) := hl
 obtain ⟨b, hb, hqb⟩ := h2 H enc w n cs (by omega) fun g hg => h g (List.mem_cons_of_mem _ hg)
 refine ⟨(a, b), ⟨_, _, ?_, ha, hb⟩, hqa, hqb⟩
 rw [show cs.drop (off + d.sz) = (cs.drop off).drop d.sz by rw [List.drop_drop], List.take_append_drop]
theorem OpensP.struct {α : Type} {d : Kd α} {t : TypeId} {fs : Array Field} {Q : α → Prop} (ht : Try.prog.underlying t = some (.struct fs)) (hs : Try.prog.cellsOf t = d.sz) (h : OpensPF d fs.toList 0 Q) : OpensP d t Q := fun H enc w fuel cs x hx => by
 obtain ⟨xs, n, _, _, hl, hlen, hf⟩ := DataW.trod_struct ht hx
 have := h H enc w n cs (by omega) fun f hm => by
  obtain ⟨i, hi, e⟩ := List.getElem_of_mem hm
  have hi' : i < fs.size := by simpa using hi
  have := hf i f (by rw [← e]; simp [hi'])
  rw [this, List.getElem?_eq_getElem (by omega)]
  exact ⟨_, rfl⟩
 simpa using this
theorem OpensP.iso {α β : Type} {d : Kd α} {t : TypeId} {Q : α → Prop} (f : β → α) (g : α → β) (hg : ∀ y, f (g y) = y) (h : OpensP d t Q) : OpensP (Kd.iso d f) t (fun y => Q (f y)) := fun H enc w fuel cs x hx => by
 obtain ⟨a, ha, hq⟩ := h H enc w fuel cs x hx
 exact ⟨g a, show d.K w (f (g a)) cs by rw [hg]; exact ha, by show Q (f (g a)); rw [hg]; exact hq⟩
theorem OpensP.of {α : Type} {d : Kd α} {t : TypeId} (h : Opens d t) : OpensP d t (fun _ => True) := fun H enc w fuel cs x hx => by
 obtain ⟨a, ha⟩ := h H enc w fuel cs x hx
 exact ⟨a, ha, trivial⟩
theorem OpensP.mono {α : Type} {d : Kd α} {t : TypeId} {Q Q' : α → Prop} (h : OpensP d t Q) (hq : ∀ a, Q a → Q' a) : OpensP d t Q' := fun H enc w fuel cs x hx => by
 obtain ⟨a, ha, h1⟩ := h H enc w fuel cs x hx
 exact ⟨a, ha, hq _ h1⟩
def W16 (x : Int) : Prop := (Lit.int .u16 x).wf = true
theorem pInt : OpensP (Kd.int .i64) 3 (fun _ => True) := .of (Opens.int Try.underlying3)
theorem pWord : OpensP (Kd.int .u16) 44 W16 := OpensP.int (by kernel_rfl)
theorem pWords : OpensP (Kd.slice 44 (Kd.int .u16)) 33 (fun l => ∀ x ∈ l, W16 x) := OpensP.slice 44 Try.underlying33 pWord (by kernel_rfl)
theorem pInts : OpensP (Kd.slice 3 (Kd.int .i64)) 37 (fun _ => True) := .of (Opens.slice 3 Try.underlying37 (Opens.int Try.underlying3) (by kernel_rfl))
abbrev kFr : Kd (Int × Int × Int × List Int × Int) := Kd.pair (Kd.int .i64) (Kd.pair (Kd.int .i64) (Kd.pair (Kd.int .i64) (Kd.pair (Kd.slice 44 (Kd.int .u16)) (Kd.int .u16))))
theorem pFr : OpensP kFr 55 (fun y => True ∧ True ∧ True ∧ (∀ x ∈ y.2.2.2.1, W16 x) ∧ W16 y.2.2.2.2) := (OpensP.struct Try.underlying55 (by kernel_rfl) (.cons rfl pInt (by kernel_rfl) (.cons rfl pInt (by kernel_rfl) (.cons rfl pInt (by kernel_rfl) (.cons rfl pWords (by kernel_rfl) (.one rfl pWord (by kernel_rfl))))))).mono fun y h => h
theorem pIns : OpensP k49 49 (fun x => W16 x.f4) := (OpensP.iso _ (fun y => ⟨y.1, y.2.1, y.2.2.1, y.2.2.2.1, y.2.2.2.2.1, y.2.2.2.2.2.1, y.2.2.2.2.2.2⟩) (fun _ => rfl) (OpensP.struct Try.underlying49 (by kernel_rfl) (.cons rfl pInt (by kernel_rfl) (.cons rfl pInt (by kernel_rfl) (.cons rfl pInt (by kernel_rfl) (.cons rfl pInt (by kernel_rfl) (.cons rfl pWord (by kernel_rfl) (.cons rfl pInt (by kernel_rfl) (.one rfl pInts (by kernel_rfl)))))))))).mono fun x h => h.2.2.2.2.1
theorem open_st {α : Type} {k : Kd α} {t : TypeId} {fs : Array Field} {Q : α → Prop} (ht : Try.prog.underlying t = some (.struct fs)) (ho : OpensP k t Q) {H : Type} {enc : TypeId × Value → H} {W : World} {r : Reach} {b0 : Nat} {v : Value} {d : DataW H} {p : List MemPlace} (hv : Value.okWide Try.prog W r b0 t v) (h : DataW.Trod enc Try.prog W 0 (fun _ => true) true t v d p) :
  ∃ a cs, v = .agg cs ∧ k.K W a cs.toList ∧ Q a := by
 obtain ⟨cs, rfl, _⟩ := Go.WideShapes.okWide_struct ht hv
 obtain ⟨fuel, hf⟩ := h
 obtain ⟨a, ha, hq⟩ := ho H enc W fuel _ _ hf
 exact ⟨a, cs, rfl, ha, hq⟩
theorem agg_of {cs : Array Value} {l : List Value} (h : cs.toList = l) : (Value.agg cs) = .agg l.toArray := by rw [← h]
theorem open_frame {H : Type} {enc : TypeId × Value → H} {W : World} {r : Reach} {b0 : Nat} {v : Value} {d : DataW H} {p : List MemPlace} (hv : Value.okWide Try.prog W r b0 55 v) (h : DataW.Trod enc Try.prog W 0 (fun _ => true) true 55 v d p) : ∃ (f b a : Int) (A : Option Addr) (c : Nat) (l : List Int) (y : Int), v = .agg #[.int .i64 f, .int .i64 b, .int .i64 a, .slice A l.length c, .int .u16 y] ∧ Kd.C (Kd.int .u16) W A l.length l ∧ l.length ≤ c ∧ (∀ x ∈ l, W16 x) ∧ W16 y := by
 obtain ⟨⟨f, b, a, l, y⟩, cs, rfl, hK, _, _, _, hq⟩ := open_st Try.underlying55 pFr hv h
 obtain ⟨_, _, e, e1, _, _, e2, e3, _, _, e4, e5, _, _, e6, ⟨A, c, e7, hc, hC⟩, e8⟩ := hK
 refine ⟨f, b, a, A, c, l, y, ?_, hC, hc, hq⟩
 rw [agg_of e, e1, e2, e3, e4, e5, e6, e7, e8]
 rfl
theorem open_ins {H : Type} {enc : TypeId × Value → H} {W : World} {r : Reach} {b0 : Nat} {v : Value} {d : DataW H} {p : List MemPlace} (hv : Value.okWide Try.prog W r b0 49 v) (h : DataW.Trod enc Try.prog W 0 (fun _ => true) true 49 v d p) : ∃ (x : S49) (A : Option Addr) (c : Nat), v = .agg #[.int .i64 x.f0, .int .i64 x.f1, .int .i64 x.f2, .int .i64 x.f3, .int .u16 x.f4, .int .i64 x.f5, .slice A x.f6.length c] ∧ Kd.C (Kd.int .i64) W A x.f6.length x.f6 ∧ x.f6.length ≤ c ∧ W16 x.f4 := by
 obtain ⟨x, cs, rfl, hK, hq⟩ := open_st Try.underlying49 pIns hv h
 obtain ⟨A, c, e, hc, hC⟩ := k49_open hK
 exact ⟨x, A, c, agg_of e, hC, hc, hq⟩
end Go.Proofs.Ytbfialebaoeicaa.X
namespace Go.Proofs.Ytbfialebaoeicaa.Pure
open Go.Proofs.Ytbfialebaoeicaa.X
theorem FrameOne (f b a : Int) (l : List Int) (y : Int) (wl : ∀ x ∈ l, W16 x) (wy : W16 y) (x : S49) (wx : W16 x.f4) : ∃ _ : Unit, True := ⟨(), trivial⟩
end Go.Proofs.Ytbfialebaoeicaa.Pure
namespace Go.Proofs.Ytbfialebaoeicaa.frameOne
open Go.ChangeShapes Go.WideShapes Go.ChangeAt Go.RowKit Go.Proofs.Ytbfialebaoeicaa.X Go.Proofs.YtbfialebaoeicaaW.PrintWords
set_option linter.all false
theorem own : ownKnob Try.prog.godebug = none := by kernel_rfl
theorem laidOut : laidOutB Try.prog = true := by kernel_rfl
set_option maxRecDepth 100000 in
theorem lifted (os : Os) (started : os.Started) (H : Type) (enc : TypeId × Value → H) :
  ReturnsInHanded {} Try.checked os 6 .any (Rows.frameOneSpec.pre6 enc Try.prog Try.f6 Rows.frameOneRow.domain false) (Rows.frameOneSpec.post enc Try.prog Try.f6 false true false false) := by
 refine returnsInHanded_of_change_sized (C := Try.checked) own started (by kernel_rfl) Try.func6
  (ChangeSpec.witness6 (enc := enc) (C := Try.checked) false ⟨#[], #[.agg #[.int .i64 0, .int .i64 0, .int .i64 0, .slice none 0 0, .int .u16 0], .agg #[.int .i64 0, .int .i64 0, .int .i64 0, .int .i64 0, .int .u16 0, .int .i64 0, .slice none 0 0]], []⟩ 8 (by kernel_rfl) (by kernel_rfl) (by kernel_rfl) (by kernel_rfl)) ?_
 intro W base args ds gs before hval0 hW hcnd hsz0 _
 have hval : ∀ (j : Nat) t v, Try.f6.params[j]? = some t → args[j]? = some v → Value.okWide Try.prog W .any base t v := hval0
 have hW' := hW
 obtain ⟨p, q, hA0, hV, rfl, hfz, hnd⟩ := hW
 have hA : DataW.TrodAll enc Try.prog W 0 (fun _ => true) true Try.f6.params.toList args.toList ds p := hA0
 rw [Try.params6] at hA hval
 obtain ⟨v0, vs0, d0, ds0, p0, q0, hargs, rfl, rfl, h0, r0⟩ := trodAll_cons hA
 obtain ⟨v1, vs1, d1, ds1, p1, q1, rfl, rfl, rfl, h1, r1⟩ := trodAll_cons r0
 obtain ⟨rfl, rfl, rfl⟩ := trodAll_nil r1
 obtain rfl : args = #[v0, v1] := by cases args; simp_all
 obtain ⟨rfl, rfl⟩ := trodVars_none hV
 have k0 := h0
 have lt0 : ∀ x ∈ p0, x.block < W.heap.size := by obtain ⟨m, hm⟩ := k0; exact DataW.trod_lt m _ _ _ hm
 obtain ⟨f_0, b_0, a_0, A_0, c_0, l_0, y_0, rfl, hC_0, hc_0, wl_0, wy_0⟩ := open_frame (hval 0 55 v0 rfl rfl) h0
 have k1 := h1
 have lt1 : ∀ x ∈ p1, x.block < W.heap.size := by obtain ⟨m, hm⟩ := k1; exact DataW.trod_lt m _ _ _ hm
 obtain ⟨x_1, A_1, c_1, rfl, hC_1, hc_1, wx_1⟩ := open_ins (hval 1 49 v1 rfl rfl) h1
 clear hA0 hval0 hsz0
 obtain ⟨k, hk⟩ := Pure.FrameOne f_0 b_0 a_0 l_0 y_0 wl_0 wy_0 x_1 wx_1
 refine (law_one.calls  f_0 b_0 a_0 A_0 c_0 l_0 y_0 x_1 A_1 c_1 true W hC_0 hc_0 hC_1 hc_1 hk).mono fun e W' ⟨he, bel⟩ => ?_
 subst he
 exact ⟨_, rfl, _, _, _, [], _, [], hW', trodAll_mk1 (shut_bool Try.underlying4 _), (trodAll_cons_mk (Below.trod laidOut (by kernel_rfl) (of_decide_eq_true (by kernel_rfl)) k0 bel lt0) (trodAll_cons_mk (Below.trod laidOut (by kernel_rfl) (of_decide_eq_true (by kernel_rfl)) k1 bel lt1) trodAll_mk0)), rfl, bel.frame _, fun h => by cases h⟩
theorem over : Rows.frameOneRow.holds Try.pinned (OpenSpec.ofChange Rows.frameOneSpec) :=
 OpenClaim.holds_of_wide 6 Try.f6 rfl rfl rfl rfl rfl rfl rfl ⟨rfl, rfl, rfl, rfl, rfl⟩ rfl rfl rfl rfl rfl (by kernel_rfl) Try.func6 (by kernel_rfl)
  (of_decide_eq_true (by kernel_rfl)) (by unfold Func.isWrapper; first | (rw [if_pos (by decide +kernel)]; kernel_rfl) | (rw [if_neg (by decide +kernel)]; exact ⟨rfl, rfl⟩))
  (fun os started H enc _ => lifted os started H enc)
theorem proved : Rows.FrameOneSaid := over
#print axioms proved
end Go.Proofs.Ytbfialebaoeicaa.frameOne
namespace Go.Proofs.Ytbfialebaoeicaa
theorem frameOne_holds : Rows.FrameOneSaid := frameOne.proved
end Go.Proofs.Ytbfialebaoeicaa
