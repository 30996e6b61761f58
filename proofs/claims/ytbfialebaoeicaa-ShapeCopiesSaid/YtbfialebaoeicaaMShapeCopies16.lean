/- Part 17 of the proof of the statement ShapeCopies: the words of the walks, the walks through the functions that it reaches, and the plain laws of what they compute. -/
import Derived.Test.YtbfialebaoeicaaMShapeCopies15
import Derived.RegionTactic
import Derived.ChangeAlike
import Derived.Deep.QuietTactic
import Derived.BigQuiet
import Derived.Deep.Slices
import Derived.Lib.SmallJoins
import Derived.ChangeArms
namespace Go.Proofs.Ytbfialebaoeicaa.X
open Go.RowKit Go.Proofs.YtbfialebaoeicaaW.PrintWords Go.Proofs.YtbfialebaoeicaaW.PrintLast Go.Proofs.YtbfialebaoeicaaW.PrintMore
set_option linter.all false
theorem blk_new3 (w : World) (a b c : Obj) : (((w.alloc a).alloc b).alloc c).heap[w.heap.size + 2]? = some c := by
 have := blk_new ((w.alloc a).alloc b) c
 rwa [show ((w.alloc a).alloc b).heap.size = w.heap.size + 2 by rw [show ((w.alloc a).alloc b).heap.size = (w.alloc a).heap.size + 1 from Array.size_push _, show (w.alloc a).heap.size = w.heap.size + 1 from Array.size_push _]] at this
end Go.Proofs.Ytbfialebaoeicaa.X
namespace Go.Proofs.Ytbfialebaoeicaa.X
open Go.ChangeShapes Go.WideShapes Go.ChangeAt Go.RowKit Go.Proofs.YtbfialebaoeicaaW.PrintWords Go.Proofs.YtbfialebaoeicaaW.PrintLast Go.Proofs.YtbfialebaoeicaaW.PrintMore
set_option linter.all false
set_option maxRecDepth 100000
def Opens {α : Type} (d : Kd α) (t : TypeId) : Prop := ∀ (H : Type) (enc : TypeId × Value → H) (w : World) (fuel : Nat) (cs : List Value) (x : DataW H × List MemPlace),
 DataW.trod enc Try.prog w 0 (fun _ => true) true fuel t cs = some x → ∃ a, d.K w a cs
theorem Opens.int {k : IntKind} {t : TypeId} (ht : Try.prog.underlying t = some (.int k)) : Opens (Kd.int k) t := fun H enc w fuel cs x h => by
 obtain ⟨n, rfl, _⟩ := DataW.trod_int ht h
 exact ⟨n, rfl⟩
theorem Opens.bool {t : TypeId} (ht : Try.prog.underlying t = some .bool) : Opens Kd.bool t := fun H enc w fuel cs x h => by
 obtain ⟨n, rfl, _⟩ := DataW.trod_bool ht h
 exact ⟨n, rfl⟩
theorem Opens.slice {α : Type} {d : Kd α} {t e : TypeId} (e' : Nat) (ht : Try.prog.underlying t = some (.slice e)) (hd : Opens d e) (hs : d.sz = Try.prog.cellsOf e) : Opens (Kd.slice e' d) t := fun H enc w fuel cs x h => by
 rcases Go.Deep.open_slice ht h with ⟨rfl, _⟩ | ⟨a, len, cap, m, n, D, Pl, rfl, _, hl, hm, hmm, _, hx⟩
 ·exact ⟨[], none, 0, rfl, Nat.le_refl _, ⟨rfl, by simp, fun h => absurd h (by simp)⟩⟩
 ·have hlm : len ≤ m := by rw [hmm]; split <;> omega
  have key : ∀ j, j ≤ len → ∃ xs : List α, xs.length = j ∧ ∀ i p, xs[i]? = some p → ∃ c, c.length = d.sz ∧ d.K w p c ∧ ∀ q u, c[q]? = some u → w.cell? (a.add (i * d.sz + q)) = some u := by
   intro j
   induction j with
   | zero => exact fun _ => ⟨[], rfl, fun i p h => by simp at h⟩
   | succ j ih =>
    intro hj
    obtain ⟨xs, h1, h2⟩ := ih (by omega)
    obtain ⟨cs', h3, h4⟩ := hx j (by omega)
    obtain ⟨p, hp⟩ := hd H enc w n cs' _ h4
    obtain ⟨_, h5, h6⟩ := World.cells?_some h3
    refine ⟨xs ++ [p], by simp [h1], fun i q hq => ?_⟩
    by_cases hi : i < j
    ·rw [List.getElem?_append_left (by omega)] at hq
     exact h2 i q hq
    ·have hi' : i = j := by
      have := (List.getElem?_eq_some_iff.1 hq).1
      simp [h1] at this; omega
     subst hi'
     rw [List.getElem?_append_right (by omega), h1, Nat.sub_self] at hq
     simp at hq
     subst hq
     refine ⟨cs', by rw [h5, hs], hp, fun z u hz => ?_⟩
     have hzl := (List.getElem?_eq_some_iff.1 hz).1
     have := h6 z (by omega)
     rw [Go.Deep.add_add, ← hs] at this
     rw [this, hz]
  obtain ⟨xs, h1, h2⟩ := key len (Nat.le_refl _)
  have hmx : maxLen ≤ 9223372036854775807 := by decide
  exact ⟨xs, some a, cap, by rw [h1], by rw [h1]; exact hl, ⟨rfl, by omega, fun _ => ⟨a, rfl, h2⟩⟩⟩
theorem Opens.iso {α β : Type} {d : Kd α} {t : TypeId} (f : β → α) (g : α → β) (hg : ∀ y, f (g y) = y) (h : Opens d t) : Opens (Kd.iso d f) t := fun H enc w fuel cs x hx => by
 obtain ⟨a, ha⟩ := h H enc w fuel cs x hx
 exact ⟨g a, show d.K w (f (g a)) cs by rw [hg]; exact ha⟩
def OpensF {α : Type} (d : Kd α) (fs : List Field) (off : Nat) : Prop := ∀ (H : Type) (enc : TypeId × Value → H) (w : World) (n : Nat) (cs : List Value), cs.length = off + d.sz →
 (∀ f ∈ fs, ∃ y, DataW.trod enc Try.prog w 0 (fun _ => true) true n f.type ((cs.drop f.offset).take (Try.prog.cellsOf f.type)) = some y) → ∃ a, d.K w a (cs.drop off)
theorem OpensF.one {α : Type} {d : Kd α} {f : Field} {off : Nat} (ho : f.offset = off) (hd : Opens d f.type) (hs : Try.prog.cellsOf f.type = d.sz) : OpensF d [f] off := fun H enc w n cs hl h => by
 obtain ⟨y, hy⟩ := h f (List.mem_cons_self ..)
 rw [ho, hs, List.take_of_length_le (by rw [List.length_drop]; omega)] at hy
 exact hd H enc w n _ _ hy
theorem OpensF.cons {α β : Type} {d : Kd α} {d2 : Kd β} {f : Field} {fs : List Field} {off : Nat} (ho : f.offset = off) (hd : Opens d f.type) (hs : Try.prog.cellsOf f.type = d.sz) (h2 : OpensF d2 fs (off + d.sz)) : OpensF (Kd.pair d d2) (f :: fs) off := fun H enc w n cs hl h => by
 obtain ⟨y, hy⟩ := h f (List.mem_cons_self ..)
 rw [ho, hs] at hy
 obtain ⟨a, ha⟩ := hd H enc w n _ _ hy
 have hl' : cs.length = off + (d.sz + d2.sz) := hl
 obtain ⟨b, hb⟩ := h2 H enc w n cs (by omega) fun g hg => h g (List.mem_cons_of_mem _ hg)
 refine ⟨(a, b), _, _, ?_, ha, hb⟩
 rw [show cs.drop (off + d.sz) = (cs.drop off).drop d.sz by rw [List.drop_drop], List.take_append_drop]
theorem Opens.struct {α : Type} {d : Kd α} {t : TypeId} {fs : Array Field} (ht : Try.prog.underlying t = some (.struct fs)) (hs : Try.prog.cellsOf t = d.sz) (h : OpensF d fs.toList 0) : Opens d t := fun H enc w fuel cs x hx => by
 obtain ⟨xs, n, _, _, hl, hlen, hf⟩ := DataW.trod_struct ht hx
 have := h H enc w n cs (by omega) fun f hm => by
  obtain ⟨i, hi, e⟩ := List.getElem_of_mem hm
  have hi' : i < fs.size := by simpa using hi
  have := hf i f (by rw [← e]; simp [hi'])
  rw [this, List.getElem?_eq_getElem (by omega)]
  exact ⟨_, rfl⟩
 simpa using this
def OpensP {α : Type} (d : Kd α) (t : TypeId) (Q : α → Prop) : Prop := ∀ (H : Type) (enc : TypeId × Value → H) (w : World) (fuel : Nat) (cs : List Value) (x : DataW H × List MemPlace),
 DataW.trod enc Try.prog w 0 (fun _ => true) true fuel t cs = some x → ∃ a, d.K w a cs ∧ Q a
theorem OpensP.int {k : IntKind} {t : TypeId} (ht : Try.prog.underlying t = some (.int k)) : OpensP (Kd.int k) t (fun n => (Lit.int k n).wf = true) := fun H enc w fuel cs x h => by
 obtain ⟨n, rfl, _, hw⟩ := DataW.trod_int ht h
 exact ⟨n, rfl, hw⟩
theorem OpensP.slice {α : Type} {d : Kd α} {t e : TypeId} {Q : α → Prop} (e' : Nat) (ht : Try.prog.underlying t = some (.slice e)) (hd : OpensP d e Q) (hs : d.sz = Try.prog.cellsOf e) : OpensP (Kd.slice e' d) t (fun xs => ∀ x ∈ xs, Q x) := fun H enc w fuel cs x h => by
 rcases Go.Deep.open_slice ht h with ⟨rfl, _⟩ | ⟨a, len, cap, m, n, D, Pl, rfl, _, hl, hm, hmm, _, hx⟩
 ·exact ⟨[], ⟨none, 0, rfl, Nat.le_refl _, ⟨rfl, by simp, fun h => absurd h (by simp)⟩⟩, by simp⟩
 ·have hlm : len ≤ m := by rw [hmm]; split <;> omega
  have key : ∀ j, j ≤ len → ∃ xs : List α, xs.length = j ∧ (∀ x ∈ xs, Q x) ∧ ∀ i p, xs[i]? = some p → ∃ c, c.length = d.sz ∧ d.K w p c ∧ ∀ q u, c[q]? = some u → w.cell? (a.add (i * d.sz + q)) = some u := by
   intro j
   induction j with
   | zero => exact fun _ => ⟨[], rfl, by simp, fun i p h => by simp at h⟩
   | succ j ih =>
    intro hj
    obtain ⟨xs, h1, hq, h2⟩ := ih (by omega)
    obtain ⟨cs', h3, h4⟩ := hx j (by omega)
    obtain ⟨p, hp, hqp⟩ := hd H enc w n cs' _ h4
    obtain ⟨_, h5, h6⟩ := World.cells?_some h3
    refine ⟨xs ++ [p], by simp [h1], fun x hx => (List.mem_append.1 hx).elim (hq x) (fun h => (List.mem_singleton.1 h) ▸ hqp), fun i q hq => ?_⟩
    by_cases hi : i < j
    ·rw [List.getElem?_append_left (by omega)] at hq
     exact h2 i q hq
    ·have hi' : i = j := by
      have := (List.getElem?_eq_some_iff.1 hq).1
      simp [h1] at this; omega
     subst hi'
     rw [List.getElem?_append_right (by omega), h1, Nat.sub_self] at hq
     simp at hq
     subst hq
     refine ⟨cs', by rw [h5, hs], hp, fun z u hz => ?_⟩
     have hzl := (List.getElem?_eq_some_iff.1 hz).1
     have := h6 z (by omega)
     rw [Go.Deep.add_add, ← hs] at this
     rw [this, hz]
  obtain ⟨xs, h1, hq, h2⟩ := key len (Nat.le_refl _)
  have hmx : maxLen ≤ 9223372036854775807 := by decide
  exact ⟨xs, ⟨some a, cap, by rw [h1], by rw [h1]; exact hl, ⟨rfl, by omega, fun _ => ⟨a, rfl, h2⟩⟩⟩, hq⟩
end Go.Proofs.Ytbfialebaoeicaa.X
namespace Go.Proofs.Ytbfialebaoeicaa.X
open Go.ChangeShapes Go.WideShapes Go.ChangeAt Go.RowKit Go.Proofs.YtbfialebaoeicaaW.PrintWords Go.Proofs.YtbfialebaoeicaaW.PrintLast Go.Proofs.YtbfialebaoeicaaW.PrintMore
set_option linter.all false
set_option maxRecDepth 100000
def OpensPF {α : Type} (d : Kd α) (fs : List Field) (off : Nat) (Q : α → Prop) : Prop := ∀ (H : Type) (enc : TypeId × Value → H) (w : World) (n : Nat) (cs : List Value), cs.length = off + d.sz →
 (∀ f ∈ fs, ∃ y, DataW.trod enc Try.prog w 0 (fun _ => true) true n f.type ((cs.drop f.offset).take (Try.prog.cellsOf f.type)) = some y) → ∃ a, d.K w a (cs.drop off) ∧ Q a
theorem OpensPF.one {α : Type} {d : Kd α} {f : Field} {off : Nat} {Q : α → Prop} (ho : f.offset = off) (hd : OpensP d f.type Q) (hs : Try.prog.cellsOf f.type = d.sz) : OpensPF d [f] off Q := fun H enc w n cs hl h => by
 obtain ⟨y, hy⟩ := h f (List.mem_cons_self ..)
 rw [ho, hs, List.take_of_length_le (by rw [List.length_drop]; omega)] at hy
 exact hd H enc w n _ _ hy
theorem OpensPF.cons {α β : Type} {d : Kd α} {d2 : Kd β} {f : Field} {fs : List Field} {off : Nat} {Q : α → Prop} {Q2 : β → Prop} (ho : f.offset = off) (hd : OpensP d f.type Q) (hs : Try.prog.cellsOf f.type = d.sz) (h2 : OpensPF d2 fs (off + d.sz) Q2) : OpensPF (Kd.pair d d2) (f :: fs) off (fun x => Q x.1 ∧ Q2 x.2) := fun H enc w n cs hl h => by
 obtain ⟨y, hy⟩ := h f (List.mem_cons_self ..)
 rw [ho, hs] at hy
 obtain ⟨a, ha, hqa⟩ := hd H enc w n _ _ hy
 have hl' : cs.length = off + (d.sz + d2.sz) := hl
 obtain ⟨b, hb, hqb⟩ := h2 H enc w n cs (by omega) fun g hg => h g (List.mem_cons_of_mem _ hg)
 refine ⟨(a, b), ⟨_, _, ?_, ha, hb⟩, hqa, hqb⟩
 rw [show cs.drop (off + d.sz) = (cs.drop off).drop d.sz by rw [List.drop_drop], List.take_append_drop]
theorem OpensP.struct {α : Type} {d : Kd α} {t : TypeId} {fs : Array Field} {Q : α → Prop} (ht : Try.prog.underlying t = some (.struct fs)) (hs : Try.prog.cellsOf t = d.sz) (h : OpensPF d fs.toList 0 Q) : OpensP d t Q := fun H enc w fuel cs x hx => by
 obtain ⟨xs, n, _, _, hl, hlen, hf⟩ := DataW.trod_struct ht hx
 have := h H enc w n cs (by omega) fun f hm => by
  obtain ⟨i, hi, e⟩ := List.getElem_of_mem hm
  have hi' : i < fs.size := by simpa using hi
  have := hf i f (by rw [← e]; simp [hi'])
  rw [this, List.getElem?_eq_getElem (by omega)]
  exact ⟨_, rfl⟩
 simpa using this
theorem OpensP.iso {α β : Type} {d : Kd α} {t : TypeId} {Q : α → Prop} (f : β → α) (g : α → β) (hg : ∀ y, f (g y) = y) (h : OpensP d t Q) : OpensP (Kd.iso d f) t (fun y => Q (f y)) := fun H enc w fuel cs x hx => by
 obtain ⟨a, ha, hq⟩ := h H enc w fuel cs x hx
 exact ⟨g a, show d.K w (f (g a)) cs by rw [hg]; exact ha, by show Q (f (g a)); rw [hg]; exact hq⟩
theorem OpensP.of {α : Type} {d : Kd α} {t : TypeId} (h : Opens d t) : OpensP d t (fun _ => True) := fun H enc w fuel cs x hx => by
 obtain ⟨a, ha⟩ := h H enc w fuel cs x hx
 exact ⟨a, ha, trivial⟩
theorem OpensP.mono {α : Type} {d : Kd α} {t : TypeId} {Q Q' : α → Prop} (h : OpensP d t Q) (hq : ∀ a, Q a → Q' a) : OpensP d t Q' := fun H enc w fuel cs x hx => by
 obtain ⟨a, ha, h1⟩ := h H enc w fuel cs x hx
 exact ⟨a, ha, hq _ h1⟩
def W16 (x : Int) : Prop := (Lit.int .u16 x).wf = true
theorem pInt : OpensP (Kd.int .i64) 3 (fun _ => True) := .of (Opens.int Try.underlying3)
theorem pBool : OpensP Kd.bool 4 (fun _ => True) := .of (Opens.bool Try.underlying4)
theorem pWord : OpensP (Kd.int .u16) 44 W16 := OpensP.int (by kernel_rfl)
theorem pWords : OpensP (Kd.slice 44 (Kd.int .u16)) 33 (fun l => ∀ x ∈ l, W16 x) := OpensP.slice 44 Try.underlying33 pWord (by kernel_rfl)
theorem pInts : OpensP (Kd.slice 3 (Kd.int .i64)) 37 (fun _ => True) := .of (Opens.slice 3 Try.underlying37 (Opens.int Try.underlying3) (by kernel_rfl))
theorem pIns : OpensP k49 49 (fun x => W16 x.f4) := (OpensP.iso _ (fun y => ⟨y.1, y.2.1, y.2.2.1, y.2.2.2.1, y.2.2.2.2.1, y.2.2.2.2.2.1, y.2.2.2.2.2.2⟩) (fun _ => rfl) (OpensP.struct Try.underlying49 (by kernel_rfl) (.cons rfl pInt (by kernel_rfl) (.cons rfl pInt (by kernel_rfl) (.cons rfl pInt (by kernel_rfl) (.cons rfl pInt (by kernel_rfl) (.cons rfl pWord (by kernel_rfl) (.cons rfl pInt (by kernel_rfl) (.one rfl pInts (by kernel_rfl)))))))))).mono fun x h => h.2.2.2.2.1
theorem pPad : OpensP k35 35 (fun x => ∀ y ∈ x.f1, W16 y) := (OpensP.iso _ (fun y => ⟨y.1, y.2.1, y.2.2.1, y.2.2.2⟩) (fun _ => rfl) (OpensP.struct Try.underlying35 (by kernel_rfl) (.cons rfl pInt (by kernel_rfl) (.cons rfl pWords (by kernel_rfl) (.cons rfl pBool (by kernel_rfl) (.one rfl pBool (by kernel_rfl))))))).mono fun x h => h.2.1
theorem pEnd : OpensP k39 39 (fun _ => True) := (OpensP.iso _ (fun y => ⟨y.1, y.2.1, y.2.2.1, y.2.2.2.1, y.2.2.2.2.1, y.2.2.2.2.2.1, y.2.2.2.2.2.2.1, y.2.2.2.2.2.2.2⟩) (fun _ => rfl) (OpensP.struct Try.underlying39 (by kernel_rfl) (.cons rfl pInt (by kernel_rfl) (.cons rfl pInt (by kernel_rfl) (.cons rfl pInt (by kernel_rfl) (.cons rfl pInt (by kernel_rfl) (.cons rfl pInts (by kernel_rfl) (.cons rfl pInt (by kernel_rfl) (.cons rfl pInt (by kernel_rfl) (.one rfl pInt (by kernel_rfl))))))))))).mono fun x h => trivial
theorem pBlock : OpensP k41 41 (fun _ => True) := (OpensP.iso _ (fun y => ⟨y.1, y.2.1, y.2.2.1, y.2.2.2⟩) (fun _ => rfl) (OpensP.struct Try.underlying41 (by kernel_rfl) (.cons rfl pBool (by kernel_rfl) (.cons rfl pPad (by kernel_rfl) (.cons rfl (OpensP.slice 49 (t := 36) (e := 49) (by kernel_rfl) pIns (by kernel_rfl)) (by kernel_rfl) (.one rfl pEnd (by kernel_rfl))))))).mono fun x h => trivial
theorem pFunc : OpensP k27 27 (fun _ => True) := (OpensP.iso _ (fun y => ⟨y.1, y.2.1, y.2.2⟩) (fun _ => rfl) (OpensP.struct Try.underlying27 (by kernel_rfl) (.cons rfl pInt (by kernel_rfl) (.cons rfl pInt (by kernel_rfl) (.one rfl (OpensP.slice 41 (t := 25) (e := 41) (by kernel_rfl) pBlock (by kernel_rfl)) (by kernel_rfl)))))).mono fun x h => trivial
theorem pMods : OpensP (Kd.slice 27 k27) 22 (fun _ => True) := (OpensP.slice 27 (t := 22) (e := 27) (by kernel_rfl) pFunc (by kernel_rfl)).mono fun x h => trivial
theorem pMod : OpensP (Kd.slice 27 k27) 24 (fun _ => True) := OpensP.struct Try.underlying24 (by kernel_rfl) (.one rfl pMods (by kernel_rfl))
theorem open_st {α : Type} {k : Kd α} {t : TypeId} {fs : Array Field} {Q : α → Prop} (ht : Try.prog.underlying t = some (.struct fs)) (ho : OpensP k t Q) {H : Type} {enc : TypeId × Value → H} {W : World} {r : Reach} {b0 : Nat} {v : Value} {d : DataW H} {p : List MemPlace} (hv : Value.okWide Try.prog W r b0 t v) (h : DataW.Trod enc Try.prog W 0 (fun _ => true) true t v d p) :
  ∃ a cs, v = .agg cs ∧ k.K W a cs.toList ∧ Q a := by
 obtain ⟨cs, rfl, _⟩ := Go.WideShapes.okWide_struct ht hv
 obtain ⟨fuel, hf⟩ := h
 obtain ⟨a, ha, hq⟩ := ho H enc W fuel _ _ hf
 exact ⟨a, cs, rfl, ha, hq⟩
theorem agg_of {cs : Array Value} {l : List Value} (h : cs.toList = l) : (Value.agg cs) = .agg l.toArray := by rw [← h]
theorem open_mod {H : Type} {enc : TypeId × Value → H} {W : World} {r : Reach} {b0 : Nat} {v : Value} {d : DataW H} {p : List MemPlace} (hv : Value.okWide Try.prog W r b0 24 v) (h : DataW.Trod enc Try.prog W 0 (fun _ => true) true 24 v d p) : ∃ (A : Option Addr) (c : Nat) (m : List S27), v = .agg #[.slice A m.length c] ∧ Kd.C k27 W A m.length m ∧ m.length ≤ c := by
 obtain ⟨m, cs, rfl, hK, hq⟩ := open_st Try.underlying24 pMod hv h
 obtain ⟨A, c, e, hc, hC⟩ := hK
 exact ⟨A, c, m, agg_of e, hC, hc⟩
end Go.Proofs.Ytbfialebaoeicaa.X
namespace Go.Proofs.Ytbfialebaoeicaa.X
open Go.RowKit Go.Proofs.YtbfialebaoeicaaW.PrintWords Go.Proofs.YtbfialebaoeicaaW.PrintLast Go.Proofs.YtbfialebaoeicaaW.PrintMore
attribute [local go_sem] max2_int min2_int max_two min_two max_three min_three max_four min_four
set_option linter.all false
noncomputable section
mutual
def davitref02_SamePad.j0 : Nat → Bool → Int → List Int → Bool → Bool → Int → List Int → Bool → Bool → Option (Bool)
 | 0, _, _, _, _, _, _, _, _, _ => none
 | k + 1, x33, x225000, x225001, x225002, x225003, x226000, x226001, x226002, x226003 => if x33 = true then (some false) else (davitref02_SamePad.l0 k 0 x225000 x225001 x225002 x225003 x226000 x226001 x226002 x226003)
def davitref02_SamePad.l0 : Nat → Int → Int → List Int → Bool → Bool → Int → List Int → Bool → Bool → Option (Bool)
 | 0, _, _, _, _, _, _, _, _, _ => none
 | k + 1, x5, x225000, x225001, x225002, x225003, x226000, x226001, x226002, x226003 => if x5 < (x225001.length : Int) then (if 0 ≤ x5 then (if x5 < (x226001.length : Int) then (if (rd x225001 x5) = (rd x226001 x5) then (davitref02_SamePad.l0 k (wrap64 (x5 + 1)) x225000 x225001 x225002 x225003 x226000 x226001 x226002 x226003) else (some false)) else (none)) else (none)) else (some true)
end
def davitref02_SamePad.f (k : Nat) (a0_0 : Int) (l0_1 : List Int) (a0_2 : Bool) (a0_3 : Bool) (a1_0 : Int) (l1_1 : List Int) (a1_2 : Bool) (a1_3 : Bool) : Option (Bool) := if a0_0 = a1_0 then (if (a0_2 != a1_2) = true then (davitref02_SamePad.j0 k true a0_0 l0_1 a0_2 a0_3 a1_0 l1_1 a1_2 a1_3) else (if (a0_3 != a1_3) = true then (davitref02_SamePad.j0 k true a0_0 l0_1 a0_2 a0_3 a1_0 l1_1 a1_2 a1_3) else (davitref02_SamePad.j0 k ((l0_1.length : Int) != (l1_1.length : Int)) a0_0 l0_1 a0_2 a0_3 a1_0 l1_1 a1_2 a1_3))) else (davitref02_SamePad.j0 k true a0_0 l0_1 a0_2 a0_3 a1_0 l1_1 a1_2 a1_3)
theorem davitref02_SamePad.mono_l : ∀ k, (∀ y0 y1 y2 y3 y4 y5 y6 y7 y8, LeO (davitref02_SamePad.j0 k y0 y1 y2 y3 y4 y5 y6 y7 y8) (davitref02_SamePad.j0 (k + 1) y0 y1 y2 y3 y4 y5 y6 y7 y8)) ∧ (∀ y0 y1 y2 y3 y4 y5 y6 y7 y8, LeO (davitref02_SamePad.l0 k y0 y1 y2 y3 y4 y5 y6 y7 y8) (davitref02_SamePad.l0 (k + 1) y0 y1 y2 y3 y4 y5 y6 y7 y8))
 | 0 => ⟨fun _ _ _ _ _ _ _ _ _ r h => by simp [davitref02_SamePad.j0] at h, fun _ _ _ _ _ _ _ _ _ r h => by simp [davitref02_SamePad.l0] at h⟩
 | k + 1 => by
  obtain ⟨ih0, ih1⟩ := davitref02_SamePad.mono_l k
  refine ⟨?_, ?_⟩
  ·intro y0 y1 y2 y3 y4 y5 y6 y7 y8
   unfold davitref02_SamePad.j0
   repeat' first
   | (with_reducible exact ih0 _ _ _ _ _ _ _ _ _)
   | (with_reducible exact ih1 _ _ _ _ _ _ _ _ _)
   | (with_reducible exact LeO.refl _)
   | (with_reducible exact LeO.none _)
   | (with_reducible refine LeO.ite ?_ ?_)
   | (with_reducible refine LeO.bind ?_ (fun _ => ?_))
   | exact ih0 _ _ _ _ _ _ _ _ _
   | exact ih1 _ _ _ _ _ _ _ _ _
   | exact LeO.none _
   | refine LeO.ite ?_ ?_
   | refine LeO.bind ?_ (fun _ => ?_)
  ·intro y0 y1 y2 y3 y4 y5 y6 y7 y8
   unfold davitref02_SamePad.l0
   repeat' first
   | (with_reducible exact ih0 _ _ _ _ _ _ _ _ _)
   | (with_reducible exact ih1 _ _ _ _ _ _ _ _ _)
   | (with_reducible exact LeO.refl _)
   | (with_reducible exact LeO.none _)
   | (with_reducible refine LeO.ite ?_ ?_)
   | (with_reducible refine LeO.bind ?_ (fun _ => ?_))
   | exact ih0 _ _ _ _ _ _ _ _ _
   | exact ih1 _ _ _ _ _ _ _ _ _
   | exact LeO.none _
   | refine LeO.ite ?_ ?_
   | refine LeO.bind ?_ (fun _ => ?_)
theorem davitref02_SamePad.mono : ∀ a0 a1 a2 a3 a4 a5 a6 a7 k, LeO (davitref02_SamePad.f k a0 a1 a2 a3 a4 a5 a6 a7) (davitref02_SamePad.f (k + 1) a0 a1 a2 a3 a4 a5 a6 a7) := by
 intro a0 a1 a2 a3 a4 a5 a6 a7 k
 obtain ⟨ih0, ih1⟩ := davitref02_SamePad.mono_l k
 unfold davitref02_SamePad.f
 repeat' first
   | (with_reducible exact ih0 _ _ _ _ _ _ _ _ _)
   | (with_reducible exact ih1 _ _ _ _ _ _ _ _ _)
   | (with_reducible exact LeO.refl _)
   | (with_reducible exact LeO.none _)
   | (with_reducible refine LeO.ite ?_ ?_)
   | (with_reducible refine LeO.bind ?_ (fun _ => ?_))
   | exact ih0 _ _ _ _ _ _ _ _ _
   | exact ih1 _ _ _ _ _ _ _ _ _
   | exact LeO.none _
   | refine LeO.ite ?_ ?_
   | refine LeO.bind ?_ (fun _ => ?_)
set_option maxHeartbeats 8000000 in
set_option maxRecDepth 100000 in
theorem davitref02_SamePad.calls (k : Nat) (a0_0 : Int) (A0_1 : Option Addr) (c0_1 : Nat) (l0_1 : List Int) (a0_2 : Bool) (a0_3 : Bool) (a1_0 : Int) (A1_1 : Option Addr) (c1_1 : Nat) (l1_1 : List Int) (a1_2 : Bool) (a1_3 : Bool) (r : Bool) (w : World) (hr0_1 : Kd.C (Kd.int .u16) w A0_1 l0_1.length l0_1) (hc0_1 : l0_1.length ≤ c0_1) (hr1_1 : Kd.C (Kd.int .u16) w A1_1 l1_1.length l1_1) (hc1_1 : l1_1.length ≤ c1_1) (h : davitref02_SamePad.f k a0_0 l0_1 a0_2 a0_3 a1_0 l1_1 a1_2 a1_3 = some r) :
  Calls Try.prog 44 #[.agg #[.int .i64 a0_0, .slice A0_1 l0_1.length c0_1, .bool a0_2, .bool a0_3], .agg #[.int .i64 a1_0, .slice A1_1 l1_1.length c1_1, .bool a1_2, .bool a1_3]] w fun e w' => e = .returned (.bool r) ∧ Below w.heap.size w w' := by
 have hu35 := Try.underlying35
 have HR0_1 := Aside0.mk hr0_1
 have HC0_1 := Aside0.mk hc0_1
 clear hr0_1 hc0_1
 have HR1_1 := Aside0.mk hr1_1
 have HC1_1 := Aside0.mk hc1_1
 clear hr1_1 hc1_1
 have HB := Aside0.mk (Below.refl w.heap.size w)
 have H : (if a0_0 = a1_0 then (if (a0_2 != a1_2) = true then (davitref02_SamePad.j0 k true a0_0 l0_1 a0_2 a0_3 a1_0 l1_1 a1_2 a1_3) else (if (a0_3 != a1_3) = true then (davitref02_SamePad.j0 k true a0_0 l0_1 a0_2 a0_3 a1_0 l1_1 a1_2 a1_3) else (davitref02_SamePad.j0 k ((l0_1.length : Int) != (l1_1.length : Int)) a0_0 l0_1 a0_2 a0_3 a1_0 l1_1 a1_2 a1_3))) else (davitref02_SamePad.j0 k true a0_0 l0_1 a0_2 a0_3 a1_0 l1_1 a1_2 a1_3)) = some r := h
 clear h
 have HC3 := Aside0.mk H
 clear H
 go_enter Try.func44, Try.ntmps44
 go_upto_region 1 with (first | ((with_reducible refine gate_dst (N := 2) rfl ?_); (try (refine gate_guard (by rfl) ?_; dsimp only)); refine box_event ?hg (N := 2) ?hd (cs := #[.int .i64 a0_0, .slice A0_1 l0_1.length c0_1, .bool a0_2, .bool a0_3]) (t := 35) ?hr ?_; (case hd => rfl); (case hg => rfl); (case hr => first | (go_simp; done) | (go_simp; rfl)); intro gb224 hg w4 hbox hb; have n0_ := Aside0.mk (below_step (by repeat (first | (with_reducible first | exact HB.out | apply below_alloc | apply pw_below_drewN | apply below_drew1) | exact HB.out)) hb); have n1_ := Aside0.mk (hbox); have n2_ := Aside0.mk ((by rw [hg]; exact (below_size (by repeat (first | (with_reducible first | exact HB.out | apply below_alloc | apply pw_below_drewN | apply below_drew1) | exact HB.out))) : w.heap.size ≤ gb224)); have n3_ := Aside0.mk ((by rw [hg]; exact (below_size (by repeat (first | (with_reducible first | exact HB.out | apply below_alloc | apply pw_below_drewN | apply below_drew1) | exact HB.out))) : w.heap.size ≤ gb224)); clear HB; have HB := n0_; have BK224 := n1_; have GW224 := n2_; have GE224 := n3_; clear n0_ n1_ n2_ n3_; clear hb hbox hg) | ((with_reducible refine gate_dst (N := 3) rfl ?_); (try (refine gate_guard (by rfl) ?_; dsimp only)); refine box_event ?hg (N := 3) ?hd (cs := #[.int .i64 a1_0, .slice A1_1 l1_1.length c1_1, .bool a1_2, .bool a1_3]) (t := 35) ?hr ?_; (case hd => rfl); (case hg => rfl); (case hr => first | (go_simp; done) | (go_simp; rfl)); intro gb225 hg w5 hbox hb; have n0_ := Aside0.mk (blk_below (g := gb224) (o := .cells #[.int .i64 a0_0, .slice A0_1 l0_1.length c0_1, .bool a0_2, .bool a0_3] 35 (0, 0)) (by (with_reducible repeat (first | refine blk_drewN ?_ _ | refine blk_drew ?_ | refine blk_alloc ?_ _)); exact BK224.out) hb); have n1_ := Aside0.mk (below_step (by repeat (first | (with_reducible first | exact HB.out | apply below_alloc | apply pw_below_drewN | apply below_drew1 | refine below_set ?_ GE224.out) | exact HB.out)) hb); have n2_ := Aside0.mk (hbox); have n3_ := Aside0.mk ((by rw [hg]; exact (below_size (by repeat (first | (with_reducible first | exact HB.out | apply below_alloc | apply pw_below_drewN | apply below_drew1 | refine below_set ?_ GE224.out) | exact HB.out))) : w.heap.size ≤ gb225)); have n4_ := Aside0.mk ((by rw [hg]; exact (below_size (by repeat (first | (with_reducible first | exact HB.out | apply below_alloc | apply pw_below_drewN | apply below_drew1 | refine below_set ?_ GE224.out) | exact HB.out))) : w.heap.size ≤ gb225)); have n5_ := Aside0.mk ((by rw [hg]; exact Nat.ne_of_lt (blk_lt (g := gb224) (o := .cells #[.int .i64 a0_0, .slice A0_1 l0_1.length c0_1, .bool a0_2, .bool a0_3] 35 (0, 0)) (by (with_reducible repeat (first | refine blk_drewN ?_ _ | refine blk_drew ?_ | refine blk_alloc ?_ _)); exact BK224.out)) : gb224 ≠ gb225)); have n6_ := Aside0.mk ((by rw [hg]; exact Nat.ne_of_gt (blk_lt (g := gb224) (o := .cells #[.int .i64 a0_0, .slice A0_1 l0_1.length c0_1, .bool a0_2, .bool a0_3] 35 (0, 0)) (by (with_reducible repeat (first | refine blk_drewN ?_ _ | refine blk_drew ?_ | refine blk_alloc ?_ _)); exact BK224.out)) : gb225 ≠ gb224)); clear BK224; clear HB; have BK224 := n0_; have HB := n1_; have BK225 := n2_; have GW225 := n3_; have GE225 := n4_; have NB224_225 := n5_; have NB225_224 := n6_; clear n0_ n1_ n2_ n3_ n4_ n5_ n6_; clear hb hbox hg))
 repeat (go_quiet (first | ((with_reducible refine gate_dst (N := 2) rfl ?_); (try (refine gate_guard (by rfl) ?_; dsimp only)); refine box_event ?hg (N := 2) ?hd (cs := #[.int .i64 a0_0, .slice A0_1 l0_1.length c0_1, .bool a0_2, .bool a0_3]) (t := 35) ?hr ?_; (case hd => rfl); (case hg => rfl); (case hr => first | (go_simp; done) | (go_simp; rfl)); intro gb224 hg w4 hbox hb; have n0_ := Aside0.mk (below_step (by repeat (first | (with_reducible first | exact HB.out | apply below_alloc | apply pw_below_drewN | apply below_drew1) | exact HB.out)) hb); have n1_ := Aside0.mk (hbox); have n2_ := Aside0.mk ((by rw [hg]; exact (below_size (by repeat (first | (with_reducible first | exact HB.out | apply below_alloc | apply pw_below_drewN | apply below_drew1) | exact HB.out))) : w.heap.size ≤ gb224)); have n3_ := Aside0.mk ((by rw [hg]; exact (below_size (by repeat (first | (with_reducible first | exact HB.out | apply below_alloc | apply pw_below_drewN | apply below_drew1) | exact HB.out))) : w.heap.size ≤ gb224)); clear HB; have HB := n0_; have BK224 := n1_; have GW224 := n2_; have GE224 := n3_; clear n0_ n1_ n2_ n3_; clear hb hbox hg) | ((with_reducible refine gate_dst (N := 3) rfl ?_); (try (refine gate_guard (by rfl) ?_; dsimp only)); refine box_event ?hg (N := 3) ?hd (cs := #[.int .i64 a1_0, .slice A1_1 l1_1.length c1_1, .bool a1_2, .bool a1_3]) (t := 35) ?hr ?_; (case hd => rfl); (case hg => rfl); (case hr => first | (go_simp; done) | (go_simp; rfl)); intro gb225 hg w5 hbox hb; have n0_ := Aside0.mk (blk_below (g := gb224) (o := .cells #[.int .i64 a0_0, .slice A0_1 l0_1.length c0_1, .bool a0_2, .bool a0_3] 35 (0, 0)) (by (with_reducible repeat (first | refine blk_drewN ?_ _ | refine blk_drew ?_ | refine blk_alloc ?_ _)); exact BK224.out) hb); have n1_ := Aside0.mk (below_step (by repeat (first | (with_reducible first | exact HB.out | apply below_alloc | apply pw_below_drewN | apply below_drew1 | refine below_set ?_ GE224.out) | exact HB.out)) hb); have n2_ := Aside0.mk (hbox); have n3_ := Aside0.mk ((by rw [hg]; exact (below_size (by repeat (first | (with_reducible first | exact HB.out | apply below_alloc | apply pw_below_drewN | apply below_drew1 | refine below_set ?_ GE224.out) | exact HB.out))) : w.heap.size ≤ gb225)); have n4_ := Aside0.mk ((by rw [hg]; exact (below_size (by repeat (first | (with_reducible first | exact HB.out | apply below_alloc | apply pw_below_drewN | apply below_drew1 | refine below_set ?_ GE224.out) | exact HB.out))) : w.heap.size ≤ gb225)); have n5_ := Aside0.mk ((by rw [hg]; exact Nat.ne_of_lt (blk_lt (g := gb224) (o := .cells #[.int .i64 a0_0, .slice A0_1 l0_1.length c0_1, .bool a0_2, .bool a0_3] 35 (0, 0)) (by (with_reducible repeat (first | refine blk_drewN ?_ _ | refine blk_drew ?_ | refine blk_alloc ?_ _)); exact BK224.out)) : gb224 ≠ gb225)); have n6_ := Aside0.mk ((by rw [hg]; exact Nat.ne_of_gt (blk_lt (g := gb224) (o := .cells #[.int .i64 a0_0, .slice A0_1 l0_1.length c0_1, .bool a0_2, .bool a0_3] 35 (0, 0)) (by (with_reducible repeat (first | refine blk_drewN ?_ _ | refine blk_drew ?_ | refine blk_alloc ?_ _)); exact BK224.out)) : gb225 ≠ gb224)); clear BK224; clear HB; have BK224 := n0_; have HB := n1_; have BK225 := n2_; have GW225 := n3_; have GE225 := n4_; have NB224_225 := n5_; have NB225_224 := n6_; clear n0_ n1_ n2_ n3_ n4_ n5_ n6_; clear hb hbox hg)); go_upto_region 1 with (first | ((with_reducible refine gate_dst (N := 2) rfl ?_); (try (refine gate_guard (by rfl) ?_; dsimp only)); refine box_event ?hg (N := 2) ?hd (cs := #[.int .i64 a0_0, .slice A0_1 l0_1.length c0_1, .bool a0_2, .bool a0_3]) (t := 35) ?hr ?_; (case hd => rfl); (case hg => rfl); (case hr => first | (go_simp; done) | (go_simp; rfl)); intro gb224 hg w4 hbox hb; have n0_ := Aside0.mk (below_step (by repeat (first | (with_reducible first | exact HB.out | apply below_alloc | apply pw_below_drewN | apply below_drew1) | exact HB.out)) hb); have n1_ := Aside0.mk (hbox); have n2_ := Aside0.mk ((by rw [hg]; exact (below_size (by repeat (first | (with_reducible first | exact HB.out | apply below_alloc | apply pw_below_drewN | apply below_drew1) | exact HB.out))) : w.heap.size ≤ gb224)); have n3_ := Aside0.mk ((by rw [hg]; exact (below_size (by repeat (first | (with_reducible first | exact HB.out | apply below_alloc | apply pw_below_drewN | apply below_drew1) | exact HB.out))) : w.heap.size ≤ gb224)); clear HB; have HB := n0_; have BK224 := n1_; have GW224 := n2_; have GE224 := n3_; clear n0_ n1_ n2_ n3_; clear hb hbox hg) | ((with_reducible refine gate_dst (N := 3) rfl ?_); (try (refine gate_guard (by rfl) ?_; dsimp only)); refine box_event ?hg (N := 3) ?hd (cs := #[.int .i64 a1_0, .slice A1_1 l1_1.length c1_1, .bool a1_2, .bool a1_3]) (t := 35) ?hr ?_; (case hd => rfl); (case hg => rfl); (case hr => first | (go_simp; done) | (go_simp; rfl)); intro gb225 hg w5 hbox hb; have n0_ := Aside0.mk (blk_below (g := gb224) (o := .cells #[.int .i64 a0_0, .slice A0_1 l0_1.length c0_1, .bool a0_2, .bool a0_3] 35 (0, 0)) (by (with_reducible repeat (first | refine blk_drewN ?_ _ | refine blk_drew ?_ | refine blk_alloc ?_ _)); exact BK224.out) hb); have n1_ := Aside0.mk (below_step (by repeat (first | (with_reducible first | exact HB.out | apply below_alloc | apply pw_below_drewN | apply below_drew1 | refine below_set ?_ GE224.out) | exact HB.out)) hb); have n2_ := Aside0.mk (hbox); have n3_ := Aside0.mk ((by rw [hg]; exact (below_size (by repeat (first | (with_reducible first | exact HB.out | apply below_alloc | apply pw_below_drewN | apply below_drew1 | refine below_set ?_ GE224.out) | exact HB.out))) : w.heap.size ≤ gb225)); have n4_ := Aside0.mk ((by rw [hg]; exact (below_size (by repeat (first | (with_reducible first | exact HB.out | apply below_alloc | apply pw_below_drewN | apply below_drew1 | refine below_set ?_ GE224.out) | exact HB.out))) : w.heap.size ≤ gb225)); have n5_ := Aside0.mk ((by rw [hg]; exact Nat.ne_of_lt (blk_lt (g := gb224) (o := .cells #[.int .i64 a0_0, .slice A0_1 l0_1.length c0_1, .bool a0_2, .bool a0_3] 35 (0, 0)) (by (with_reducible repeat (first | refine blk_drewN ?_ _ | refine blk_drew ?_ | refine blk_alloc ?_ _)); exact BK224.out)) : gb224 ≠ gb225)); have n6_ := Aside0.mk ((by rw [hg]; exact Nat.ne_of_gt (blk_lt (g := gb224) (o := .cells #[.int .i64 a0_0, .slice A0_1 l0_1.length c0_1, .bool a0_2, .bool a0_3] 35 (0, 0)) (by (with_reducible repeat (first | refine blk_drewN ?_ _ | refine blk_drew ?_ | refine blk_alloc ?_ _)); exact BK224.out)) : gb225 ≠ gb224)); clear BK224; clear HB; have BK224 := n0_; have HB := n1_; have BK225 := n2_; have GW225 := n3_; have GE225 := n4_; have NB224_225 := n5_; have NB225_224 := n6_; clear n0_ n1_ n2_ n3_ n4_ n5_ n6_; clear hb hbox hg)))
 (try simp only [Act.put, sA_, sZ_, sS_])
 go_cut [33] (fun v33 wc => ∃ (kq : Nat) (x33_2 : Bool), v33 = .bool x33_2 ∧ Aside0 (davitref02_SamePad.j0 kq x33_2 a0_0 l0_1 a0_2 a0_3 a1_0 l1_1 a1_2 a1_3 = some r) ∧ Aside0 (kq ≤ k) ∧ Aside0 (wc.heap[gb224]? = some (.cells #[.int .i64 a0_0, (.slice A0_1 l0_1.length c0_1), .bool a0_2, .bool a0_3] 35 (0, 0))) ∧ Aside0 (wc.heap[gb225]? = some (.cells #[.int .i64 a1_0, (.slice A1_1 l1_1.length c1_1), .bool a1_2, .bool a1_3] 35 (0, 0))) ∧ Aside0 (Below w.heap.size w wc))
 case first =>
  have H := HC3.out
  clear HC3
  by_cases c6 : a0_0 = a1_0
  ·rw [if_pos c6] at H
   have c6b0 : (a0_0 == a1_0) = true := beq_iff_eq.mpr c6
   have c6b1 : (a0_0 != a1_0) = false := bne_eq_false_iff_eq.mpr c6
   clear c6
   (first | rw [c6b0] | (simp only [i64_w, i32_w]; rw [c6b0]) | skip)
   by_cases c7 : (a0_2 != a1_2) = true
   ·rw [if_pos c7] at H
    have c7b0 : (a0_2 != a1_2) = true := c7
    (try (have c7b1 : decide (a0_2 = a1_2) = false := by simpa using c7))
    (try (have c7b2 : (a0_2 == a1_2) = false := by simpa using c7))
    (try (have c7b3 : ¬ (a0_2 = a1_2) := by simpa using c7))
    clear c7
    have H' := Aside0.mk H
    clear H
    have hnb8 := NB224_225.out
    have hnc8 := NB225_224.out
    have hcz9_0 : w5.cell? ⟨gb224, 0, none⟩ = some (.int .i64 a0_0) := (blk_cell BK224.out 0).trans rfl
    have hcz9_1 : w5.cell? ⟨gb224, 1, none⟩ = some (.slice A0_1 l0_1.length c0_1) := (blk_cell BK224.out 1).trans rfl
    have hcz9_2 : w5.cell? ⟨gb224, 2, none⟩ = some (.bool a0_2) := (blk_cell BK224.out 2).trans rfl
    have hcz9_3 : w5.cell? ⟨gb224, 3, none⟩ = some (.bool a0_3) := (blk_cell BK224.out 3).trans rfl
    obtain ⟨hfz9_0, hfz9_1, hfz9_2, hfz9_3⟩ := fz4 BK224.out
    have hcz10_0 : w5.cell? ⟨gb225, 0, none⟩ = some (.int .i64 a1_0) := (blk_cell BK225.out 0).trans rfl
    have hcz10_1 : w5.cell? ⟨gb225, 1, none⟩ = some (.slice A1_1 l1_1.length c1_1) := (blk_cell BK225.out 1).trans rfl
    have hcz10_2 : w5.cell? ⟨gb225, 2, none⟩ = some (.bool a1_2) := (blk_cell BK225.out 2).trans rfl
    have hcz10_3 : w5.cell? ⟨gb225, 3, none⟩ = some (.bool a1_3) := (blk_cell BK225.out 3).trans rfl
    obtain ⟨hfz10_0, hfz10_1, hfz10_2, hfz10_3⟩ := fz4 BK225.out
    go_wp2
    repeat (go_quiet (fail); try go_wp2)
    go_meet
    case rel => exact ⟨_, (true), (by first | rfl | (simp; done) | (simp [*]; done)), H', ⟨by first | omega | exact Nat.le_refl _⟩, ⟨by (with_reducible repeat (first | refine blk_drewN ?_ _ | refine blk_drew ?_ | refine blk_alloc ?_ _)); exact BK224.out⟩, ⟨by (with_reducible repeat (first | refine blk_drewN ?_ _ | refine blk_drew ?_ | refine blk_alloc ?_ _)); exact BK225.out⟩, ⟨by repeat (first | (with_reducible first | exact HB.out | apply below_alloc | apply pw_below_drewN | apply below_drew1 | refine below_set ?_ GE224.out | refine below_set ?_ GE225.out) | exact HB.out)⟩⟩
   ·rw [if_neg c7] at H
    have c7b0 : (a0_2 != a1_2) = false := by simpa using c7
    (try (have c7b1 : decide (a0_2 = a1_2) = true := by simpa using c7))
    (try (have c7b2 : (a0_2 == a1_2) = true := by simpa using c7))
    clear c7
    by_cases c11 : (a0_3 != a1_3) = true
    ·rw [if_pos c11] at H
     have c11b0 : (a0_3 != a1_3) = true := c11
     (try (have c11b1 : decide (a0_3 = a1_3) = false := by simpa using c11))
     (try (have c11b2 : (a0_3 == a1_3) = false := by simpa using c11))
     (try (have c11b3 : ¬ (a0_3 = a1_3) := by simpa using c11))
     clear c11
     have H' := Aside0.mk H
     clear H
     have hnb12 := NB224_225.out
     have hnc12 := NB225_224.out
     have hcz13_0 : w5.cell? ⟨gb224, 0, none⟩ = some (.int .i64 a0_0) := (blk_cell BK224.out 0).trans rfl
     have hcz13_1 : w5.cell? ⟨gb224, 1, none⟩ = some (.slice A0_1 l0_1.length c0_1) := (blk_cell BK224.out 1).trans rfl
     have hcz13_2 : w5.cell? ⟨gb224, 2, none⟩ = some (.bool a0_2) := (blk_cell BK224.out 2).trans rfl
     have hcz13_3 : w5.cell? ⟨gb224, 3, none⟩ = some (.bool a0_3) := (blk_cell BK224.out 3).trans rfl
     obtain ⟨hfz13_0, hfz13_1, hfz13_2, hfz13_3⟩ := fz4 BK224.out
     have hcz14_0 : w5.cell? ⟨gb225, 0, none⟩ = some (.int .i64 a1_0) := (blk_cell BK225.out 0).trans rfl
     have hcz14_1 : w5.cell? ⟨gb225, 1, none⟩ = some (.slice A1_1 l1_1.length c1_1) := (blk_cell BK225.out 1).trans rfl
     have hcz14_2 : w5.cell? ⟨gb225, 2, none⟩ = some (.bool a1_2) := (blk_cell BK225.out 2).trans rfl
     have hcz14_3 : w5.cell? ⟨gb225, 3, none⟩ = some (.bool a1_3) := (blk_cell BK225.out 3).trans rfl
     obtain ⟨hfz14_0, hfz14_1, hfz14_2, hfz14_3⟩ := fz4 BK225.out
     go_wp2
     repeat (go_quiet (fail); try go_wp2)
     go_meet
     case rel => exact ⟨_, (true), (by first | rfl | (simp; done) | (simp [*]; done)), H', ⟨by first | omega | exact Nat.le_refl _⟩, ⟨by (with_reducible repeat (first | refine blk_drewN ?_ _ | refine blk_drew ?_ | refine blk_alloc ?_ _)); exact BK224.out⟩, ⟨by (with_reducible repeat (first | refine blk_drewN ?_ _ | refine blk_drew ?_ | refine blk_alloc ?_ _)); exact BK225.out⟩, ⟨by repeat (first | (with_reducible first | exact HB.out | apply below_alloc | apply pw_below_drewN | apply below_drew1 | refine below_set ?_ GE224.out | refine below_set ?_ GE225.out) | exact HB.out)⟩⟩
    ·rw [if_neg c11] at H
     have c11b0 : (a0_3 != a1_3) = false := by simpa using c11
     (try (have c11b1 : decide (a0_3 = a1_3) = true := by simpa using c11))
     (try (have c11b2 : (a0_3 == a1_3) = true := by simpa using c11))
     clear c11
     have H' := Aside0.mk H
     clear H
     have hnb15 := NB224_225.out
     have hnc15 := NB225_224.out
     have hcz16_0 : w5.cell? ⟨gb224, 0, none⟩ = some (.int .i64 a0_0) := (blk_cell BK224.out 0).trans rfl
     have hcz16_1 : w5.cell? ⟨gb224, 1, none⟩ = some (.slice A0_1 l0_1.length c0_1) := (blk_cell BK224.out 1).trans rfl
     have hcz16_2 : w5.cell? ⟨gb224, 2, none⟩ = some (.bool a0_2) := (blk_cell BK224.out 2).trans rfl
     have hcz16_3 : w5.cell? ⟨gb224, 3, none⟩ = some (.bool a0_3) := (blk_cell BK224.out 3).trans rfl
     obtain ⟨hfz16_0, hfz16_1, hfz16_2, hfz16_3⟩ := fz4 BK224.out
     have hcz17_0 : w5.cell? ⟨gb225, 0, none⟩ = some (.int .i64 a1_0) := (blk_cell BK225.out 0).trans rfl
     have hcz17_1 : w5.cell? ⟨gb225, 1, none⟩ = some (.slice A1_1 l1_1.length c1_1) := (blk_cell BK225.out 1).trans rfl
     have hcz17_2 : w5.cell? ⟨gb225, 2, none⟩ = some (.bool a1_2) := (blk_cell BK225.out 2).trans rfl
     have hcz17_3 : w5.cell? ⟨gb225, 3, none⟩ = some (.bool a1_3) := (blk_cell BK225.out 3).trans rfl
     obtain ⟨hfz17_0, hfz17_1, hfz17_2, hfz17_3⟩ := fz4 BK225.out
     go_wp2
     repeat (go_quiet (fail); try go_wp2)
     go_meet
     case rel => exact ⟨_, (((l0_1.length : Int) != (l1_1.length : Int))), (by first | rfl | (simp; done) | (simp [*]; done)), H', ⟨by first | omega | exact Nat.le_refl _⟩, ⟨by (with_reducible repeat (first | refine blk_drewN ?_ _ | refine blk_drew ?_ | refine blk_alloc ?_ _)); exact BK224.out⟩, ⟨by (with_reducible repeat (first | refine blk_drewN ?_ _ | refine blk_drew ?_ | refine blk_alloc ?_ _)); exact BK225.out⟩, ⟨by repeat (first | (with_reducible first | exact HB.out | apply below_alloc | apply pw_below_drewN | apply below_drew1 | refine below_set ?_ GE224.out | refine below_set ?_ GE225.out) | exact HB.out)⟩⟩
  ·rw [if_neg c6] at H
   have c6b0 : (a0_0 == a1_0) = false := beq_eq_false_iff_ne.mpr c6
   have c6b1 : (a0_0 != a1_0) = true := bne_iff_ne.mpr c6
   (first | rw [c6b0] | (simp only [i64_w, i32_w]; rw [c6b0]) | skip)
   have H' := Aside0.mk H
   clear H
   have hnb18 := NB224_225.out
   have hnc18 := NB225_224.out
   have hcz19_0 : w5.cell? ⟨gb224, 0, none⟩ = some (.int .i64 a0_0) := (blk_cell BK224.out 0).trans rfl
   have hcz19_1 : w5.cell? ⟨gb224, 1, none⟩ = some (.slice A0_1 l0_1.length c0_1) := (blk_cell BK224.out 1).trans rfl
   have hcz19_2 : w5.cell? ⟨gb224, 2, none⟩ = some (.bool a0_2) := (blk_cell BK224.out 2).trans rfl
   have hcz19_3 : w5.cell? ⟨gb224, 3, none⟩ = some (.bool a0_3) := (blk_cell BK224.out 3).trans rfl
   obtain ⟨hfz19_0, hfz19_1, hfz19_2, hfz19_3⟩ := fz4 BK224.out
   have hcz20_0 : w5.cell? ⟨gb225, 0, none⟩ = some (.int .i64 a1_0) := (blk_cell BK225.out 0).trans rfl
   have hcz20_1 : w5.cell? ⟨gb225, 1, none⟩ = some (.slice A1_1 l1_1.length c1_1) := (blk_cell BK225.out 1).trans rfl
   have hcz20_2 : w5.cell? ⟨gb225, 2, none⟩ = some (.bool a1_2) := (blk_cell BK225.out 2).trans rfl
   have hcz20_3 : w5.cell? ⟨gb225, 3, none⟩ = some (.bool a1_3) := (blk_cell BK225.out 3).trans rfl
   obtain ⟨hfz20_0, hfz20_1, hfz20_2, hfz20_3⟩ := fz4 BK225.out
   go_wp2
   repeat (go_quiet (fail); try go_wp2)
   go_meet
   case rel => exact ⟨_, (true), (by first | rfl | (simp; done) | (simp [*]; done)), H', ⟨by first | omega | exact Nat.le_refl _⟩, ⟨by (with_reducible repeat (first | refine blk_drewN ?_ _ | refine blk_drew ?_ | refine blk_alloc ?_ _)); exact BK224.out⟩, ⟨by (with_reducible repeat (first | refine blk_drewN ?_ _ | refine blk_drew ?_ | refine blk_alloc ?_ _)); exact BK225.out⟩, ⟨by repeat (first | (with_reducible first | exact HB.out | apply below_alloc | apply pw_below_drewN | apply below_drew1 | refine below_set ?_ GE224.out | refine below_set ?_ GE225.out) | exact HB.out)⟩⟩
 case rest =>
  clear HC3
  try clear c1
  try clear p2
  try clear c4
  try clear c6
  try clear c6b0
  try clear c6b1
  try clear c7
  try clear c7b0
  try clear c7b1
  try clear c7b2
  try clear c8
  try clear c11
  try clear c11b0
  try clear c11b1
  try clear c11b2
  try clear c12
  try clear c15
  try clear c18
  try clear hcz10_0
  try clear hcz10_1
  try clear hcz10_2
  try clear hcz10_3
  try clear hcz13_0
  try clear hcz13_1
  try clear hcz13_2
  try clear hcz13_3
  try clear hcz14_0
  try clear hcz14_1
  try clear hcz14_2
  try clear hcz14_3
  try clear hcz16_0
  try clear hcz16_1
  try clear hcz16_2
  try clear hcz16_3
  try clear hcz17_0
  try clear hcz17_1
  try clear hcz17_2
  try clear hcz17_3
  try clear hcz19_0
  try clear hcz19_1
  try clear hcz19_2
  try clear hcz19_3
  try clear hcz20_0
  try clear hcz20_1
  try clear hcz20_2
  try clear hcz20_3
  try clear hcz9_0
  try clear hcz9_1
  try clear hcz9_2
  try clear hcz9_3
  try clear hfz10_0
  try clear hfz10_1
  try clear hfz10_2
  try clear hfz10_3
  try clear hfz13_0
  try clear hfz13_1
  try clear hfz13_2
  try clear hfz13_3
  try clear hfz14_0
  try clear hfz14_1
  try clear hfz14_2
  try clear hfz14_3
  try clear hfz16_0
  try clear hfz16_1
  try clear hfz16_2
  try clear hfz16_3
  try clear hfz17_0
  try clear hfz17_1
  try clear hfz17_2
  try clear hfz17_3
  try clear hfz19_0
  try clear hfz19_1
  try clear hfz19_2
  try clear hfz19_3
  try clear hfz20_0
  try clear hfz20_1
  try clear hfz20_2
  try clear hfz20_3
  try clear hfz9_0
  try clear hfz9_1
  try clear hfz9_2
  try clear hfz9_3
  obtain ⟨kq, x33_2, rfl, HA, HJ2, BK224, BK225, HB⟩ := hcut
  cases kq with
  | zero => exact absurd HA.out (by simp [davitref02_SamePad.j0])
  | succ kj2 =>
   have H := HA.out
   clear HA
   simp only [davitref02_SamePad.j0] at H
   by_cases c21 : x33_2 = true
   ·subst c21
    have H1 : (some false) = some r := by rw [if_pos rfl] at H; exact H
    clear H
    have H := H1
    clear H1
    obtain rfl := Option.some.inj H
    go_wp2
    repeat (go_quiet (fail); try go_wp2)
    go_ret
    exact ⟨by first | rfl | (simp [errW_none, errW_some] <;> rfl) | (simp [*, errW_none, errW_some] <;> rfl), by repeat (first | (with_reducible first | exact HB.out | apply below_alloc | apply pw_below_drewN | apply below_drew1 | refine below_set ?_ GE224.out | refine below_set ?_ GE225.out) | exact HB.out)⟩
   ·replace c21 := Bool.eq_false_iff.mpr c21
    subst c21
    have H1 : (davitref02_SamePad.l0 kj2 0 a0_0 l0_1 a0_2 a0_3 a1_0 l1_1 a1_2 a1_3) = some r := by rw [if_neg (show ¬ (false = true) by decide)] at H; exact H
    clear H
    have H := H1
    clear H1
    have H' := Aside0.mk H
    clear H
    go_wp2
    repeat (go_quiet (fail); try go_wp2)
    go_loopg [5] kj2 (fun kq v5 w' => ∃ (x5_2 : Int), v5 = .int .i64 x5_2 ∧ Aside0 (davitref02_SamePad.l0 kq x5_2 a0_0 l0_1 a0_2 a0_3 a1_0 l1_1 a1_2 a1_3 = some r) ∧ Aside0 (kq ≤ kj2) ∧ Aside0 (w'.heap[gb224]? = some (.cells #[.int .i64 a0_0, (.slice A0_1 l0_1.length c0_1), .bool a0_2, .bool a0_3] 35 (0, 0))) ∧ Aside0 (w'.heap[gb225]? = some (.cells #[.int .i64 a1_0, (.slice A1_1 l1_1.length c1_1), .bool a1_2, .bool a1_3] 35 (0, 0))) ∧ Aside0 (Below w.heap.size w w'))
    case atStart => exact ⟨(0), (by first | rfl | (simp; done) | (simp [*]; done)), H', ⟨Nat.le_refl _⟩, ⟨by (with_reducible repeat (first | refine blk_drewN ?_ _ | refine blk_drew ?_ | refine blk_alloc ?_ _)); exact BK224.out⟩, ⟨by (with_reducible repeat (first | refine blk_drewN ?_ _ | refine blk_drew ?_ | refine blk_alloc ?_ _)); exact BK225.out⟩, ⟨by repeat (first | (with_reducible first | exact HB.out | apply below_alloc | apply pw_below_drewN | apply below_drew1 | refine below_set ?_ GE224.out | refine below_set ?_ GE225.out) | exact HB.out)⟩⟩
    case round =>
     clear H'
     try clear c1
     try clear c2
     try clear p2
     try clear c4
     try clear c6
     try clear c6b0
     try clear c6b1
     try clear c7
     try clear c7b0
     try clear c7b1
     try clear c7b2
     try clear c8
     try clear c11
     try clear c11b0
     try clear c11b1
     try clear c11b2
     try clear c12
     try clear c15
     try clear c18
     try clear c21
     try clear hcz10_0
     try clear hcz10_1
     try clear hcz10_2
     try clear hcz10_3
     try clear hcz13_0
     try clear hcz13_1
     try clear hcz13_2
     try clear hcz13_3
     try clear hcz14_0
     try clear hcz14_1
     try clear hcz14_2
     try clear hcz14_3
     try clear hcz16_0
     try clear hcz16_1
     try clear hcz16_2
     try clear hcz16_3
     try clear hcz17_0
     try clear hcz17_1
     try clear hcz17_2
     try clear hcz17_3
     try clear hcz19_0
     try clear hcz19_1
     try clear hcz19_2
     try clear hcz19_3
     try clear hcz20_0
     try clear hcz20_1
     try clear hcz20_2
     try clear hcz20_3
     try clear hcz9_0
     try clear hcz9_1
     try clear hcz9_2
     try clear hcz9_3
     try clear hfz10_0
     try clear hfz10_1
     try clear hfz10_2
     try clear hfz10_3
     try clear hfz13_0
     try clear hfz13_1
     try clear hfz13_2
     try clear hfz13_3
     try clear hfz14_0
     try clear hfz14_1
     try clear hfz14_2
     try clear hfz14_3
     try clear hfz16_0
     try clear hfz16_1
     try clear hfz16_2
     try clear hfz16_3
     try clear hfz17_0
     try clear hfz17_1
     try clear hfz17_2
     try clear hfz17_3
     try clear hfz19_0
     try clear hfz19_1
     try clear hfz19_2
     try clear hfz19_3
     try clear hfz20_0
     try clear hfz20_1
     try clear hfz20_2
     try clear hfz20_3
     try clear hfz9_0
     try clear hfz9_1
     try clear hfz9_2
     try clear hfz9_3
     try clear p2
     obtain ⟨x5_2, rfl, HA, HK2, BK224, BK225, HB⟩ := hrel
     cases gk with
     | zero => exact absurd HA.out (by simp [davitref02_SamePad.l0])
     | succ k2 =>
      have H := HA.out
      clear HA
      simp only [davitref02_SamePad.l0] at H
      by_cases c22 : x5_2 < (l0_1.length : Int)
      ·rw [if_pos c22] at H
       have c22b0 : decide (x5_2 < (l0_1.length : Int)) = true := decide_eq_true c22
       clear c22
       by_cases c23 : 0 ≤ x5_2
       ·rw [if_pos c23] at H
        have c23b0 : decide (0 ≤ x5_2) = true := decide_eq_true c23
        clear c23
        by_cases c24 : x5_2 < (l1_1.length : Int)
        ·rw [if_pos c24] at H
         have c24b0 : decide (x5_2 < (l1_1.length : Int)) = true := decide_eq_true c24
         clear c24
         by_cases c25 : (rd l0_1 x5_2) = (rd l1_1 x5_2)
         ·rw [if_pos c25] at H
          have c25b0 : ((rd l0_1 x5_2) == (rd l1_1 x5_2)) = true := beq_iff_eq.mpr c25
          have c25b1 : ((rd l0_1 x5_2) != (rd l1_1 x5_2)) = false := bne_eq_false_iff_eq.mpr c25
          clear c25
          have H' := Aside0.mk H
          clear H
          have hnb26 := NB224_225.out
          have hnc26 := NB225_224.out
          have hcz27_0 : wr.cell? ⟨gb224, 0, none⟩ = some (.int .i64 a0_0) := (blk_cell BK224.out 0).trans rfl
          have hcz27_1 : wr.cell? ⟨gb224, 1, none⟩ = some (.slice A0_1 l0_1.length c0_1) := (blk_cell BK224.out 1).trans rfl
          have hcz27_2 : wr.cell? ⟨gb224, 2, none⟩ = some (.bool a0_2) := (blk_cell BK224.out 2).trans rfl
          have hcz27_3 : wr.cell? ⟨gb224, 3, none⟩ = some (.bool a0_3) := (blk_cell BK224.out 3).trans rfl
          obtain ⟨hfz27_0, hfz27_1, hfz27_2, hfz27_3⟩ := fz4 BK224.out
          have p226 : 0 ≤ (x5_2 : Int) := of_decide_eq_true (by first | (with_reducible assumption) | assumption)
          have q226 : x5_2 < (l0_1.length : Int) := of_decide_eq_true (by first | (with_reducible assumption) | assumption)
          obtain ⟨ad226, e226, hx226_0⟩ := Kd.at_int HR0_1.out x5_2 p226 q226
          cases e226
          replace hx226_0 := (HB.out.cell (World.block_lt_of_cell? w _ hx226_0)).trans hx226_0
          replace p226 := eq_true p226
          replace q226 := eq_true q226
          have hcz28_0 : wr.cell? ⟨gb225, 0, none⟩ = some (.int .i64 a1_0) := (blk_cell BK225.out 0).trans rfl
          have hcz28_1 : wr.cell? ⟨gb225, 1, none⟩ = some (.slice A1_1 l1_1.length c1_1) := (blk_cell BK225.out 1).trans rfl
          have hcz28_2 : wr.cell? ⟨gb225, 2, none⟩ = some (.bool a1_2) := (blk_cell BK225.out 2).trans rfl
          have hcz28_3 : wr.cell? ⟨gb225, 3, none⟩ = some (.bool a1_3) := (blk_cell BK225.out 3).trans rfl
          obtain ⟨hfz28_0, hfz28_1, hfz28_2, hfz28_3⟩ := fz4 BK225.out
          have p227 : 0 ≤ (x5_2 : Int) := of_decide_eq_true (by first | (with_reducible assumption) | assumption)
          have q227 : x5_2 < (l1_1.length : Int) := of_decide_eq_true (by first | (with_reducible assumption) | assumption)
          obtain ⟨ad227, e227, hx227_0⟩ := Kd.at_int HR1_1.out x5_2 p227 q227
          cases e227
          replace hx227_0 := (HB.out.cell (World.block_lt_of_cell? w _ hx227_0)).trans hx227_0
          replace p227 := eq_true p227
          replace q227 := eq_true q227
          go_wp2
          repeat (go_quiet (fail); try go_wp2)
          go_roundg k2
          case measure => have := HJ2.out; have := HK2.out; omega
          case rel => exact ⟨(wrap64 (x5_2 + 1)), (by first | rfl | (simp; done) | (simp [*]; done)), H', ⟨by have := HJ2.out; have := HK2.out; omega⟩, ⟨by (with_reducible repeat (first | refine blk_drewN ?_ _ | refine blk_drew ?_ | refine blk_alloc ?_ _)); exact BK224.out⟩, ⟨by (with_reducible repeat (first | refine blk_drewN ?_ _ | refine blk_drew ?_ | refine blk_alloc ?_ _)); exact BK225.out⟩, ⟨by repeat (first | (with_reducible first | exact HB.out | apply below_alloc | apply pw_below_drewN | apply below_drew1 | refine below_set ?_ GE224.out | refine below_set ?_ GE225.out) | exact HB.out)⟩⟩
         ·rw [if_neg c25] at H
          have c25b0 : ((rd l0_1 x5_2) == (rd l1_1 x5_2)) = false := beq_eq_false_iff_ne.mpr c25
          have c25b1 : ((rd l0_1 x5_2) != (rd l1_1 x5_2)) = true := bne_iff_ne.mpr c25
          obtain rfl := Option.some.inj H
          have hnb29 := NB224_225.out
          have hnc29 := NB225_224.out
          have hcz30_0 : wr.cell? ⟨gb224, 0, none⟩ = some (.int .i64 a0_0) := (blk_cell BK224.out 0).trans rfl
          have hcz30_1 : wr.cell? ⟨gb224, 1, none⟩ = some (.slice A0_1 l0_1.length c0_1) := (blk_cell BK224.out 1).trans rfl
          have hcz30_2 : wr.cell? ⟨gb224, 2, none⟩ = some (.bool a0_2) := (blk_cell BK224.out 2).trans rfl
          have hcz30_3 : wr.cell? ⟨gb224, 3, none⟩ = some (.bool a0_3) := (blk_cell BK224.out 3).trans rfl
          obtain ⟨hfz30_0, hfz30_1, hfz30_2, hfz30_3⟩ := fz4 BK224.out
          have p226 : 0 ≤ (x5_2 : Int) := of_decide_eq_true (by first | (with_reducible assumption) | assumption)
          have q226 : x5_2 < (l0_1.length : Int) := of_decide_eq_true (by first | (with_reducible assumption) | assumption)
          obtain ⟨ad226, e226, hx226_0⟩ := Kd.at_int HR0_1.out x5_2 p226 q226
          cases e226
          replace hx226_0 := (HB.out.cell (World.block_lt_of_cell? w _ hx226_0)).trans hx226_0
          replace p226 := eq_true p226
          replace q226 := eq_true q226
          have hcz31_0 : wr.cell? ⟨gb225, 0, none⟩ = some (.int .i64 a1_0) := (blk_cell BK225.out 0).trans rfl
          have hcz31_1 : wr.cell? ⟨gb225, 1, none⟩ = some (.slice A1_1 l1_1.length c1_1) := (blk_cell BK225.out 1).trans rfl
          have hcz31_2 : wr.cell? ⟨gb225, 2, none⟩ = some (.bool a1_2) := (blk_cell BK225.out 2).trans rfl
          have hcz31_3 : wr.cell? ⟨gb225, 3, none⟩ = some (.bool a1_3) := (blk_cell BK225.out 3).trans rfl
          obtain ⟨hfz31_0, hfz31_1, hfz31_2, hfz31_3⟩ := fz4 BK225.out
          have p227 : 0 ≤ (x5_2 : Int) := of_decide_eq_true (by first | (with_reducible assumption) | assumption)
          have q227 : x5_2 < (l1_1.length : Int) := of_decide_eq_true (by first | (with_reducible assumption) | assumption)
          obtain ⟨ad227, e227, hx227_0⟩ := Kd.at_int HR1_1.out x5_2 p227 q227
          cases e227
          replace hx227_0 := (HB.out.cell (World.block_lt_of_cell? w _ hx227_0)).trans hx227_0
          replace p227 := eq_true p227
          replace q227 := eq_true q227
          go_wp2
          repeat (go_quiet (fail); try go_wp2)
          go_ret
          exact ⟨by first | rfl | (simp [errW_none, errW_some] <;> rfl) | (simp [*, errW_none, errW_some] <;> rfl), by repeat (first | (with_reducible first | exact HB.out | apply below_alloc | apply pw_below_drewN | apply below_drew1 | refine below_set ?_ GE224.out | refine below_set ?_ GE225.out) | exact HB.out)⟩
        ·rw [if_neg c24] at H
         exact absurd H (by simp)
       ·rw [if_neg c23] at H
        exact absurd H (by simp)
      ·rw [if_neg c22] at H
       have c22b0 : decide (x5_2 < (l0_1.length : Int)) = false := decide_eq_false c22
       clear c22
       obtain rfl := Option.some.inj H
       have hnb32 := NB224_225.out
       have hnc32 := NB225_224.out
       have hcz33_0 : wr.cell? ⟨gb224, 0, none⟩ = some (.int .i64 a0_0) := (blk_cell BK224.out 0).trans rfl
       have hcz33_1 : wr.cell? ⟨gb224, 1, none⟩ = some (.slice A0_1 l0_1.length c0_1) := (blk_cell BK224.out 1).trans rfl
       have hcz33_2 : wr.cell? ⟨gb224, 2, none⟩ = some (.bool a0_2) := (blk_cell BK224.out 2).trans rfl
       have hcz33_3 : wr.cell? ⟨gb224, 3, none⟩ = some (.bool a0_3) := (blk_cell BK224.out 3).trans rfl
       obtain ⟨hfz33_0, hfz33_1, hfz33_2, hfz33_3⟩ := fz4 BK224.out
       go_wp2
       repeat (go_quiet (fail); try go_wp2)
       go_ret
       exact ⟨by first | rfl | (simp [errW_none, errW_some] <;> rfl) | (simp [*, errW_none, errW_some] <;> rfl), by repeat (first | (with_reducible first | exact HB.out | apply below_alloc | apply pw_below_drewN | apply below_drew1 | refine below_set ?_ GE224.out | refine below_set ?_ GE225.out) | exact HB.out)⟩
end
end Go.Proofs.Ytbfialebaoeicaa.X
namespace Go.Proofs.Ytbfialebaoeicaa.X
open Go.RowKit Go.Proofs.YtbfialebaoeicaaW.PrintWords Go.Proofs.YtbfialebaoeicaaW.PrintLast Go.Proofs.YtbfialebaoeicaaW.PrintMore
set_option linter.all false
theorem spad_l0 (d : Int) (l : List Int) (q s : Bool) (d' : Int) (r : List Int) (q' s' : Bool) (hn : l.length = r.length) (hm : l.length ≤ 1000000) : ∀ (k : Nat) (x : Int), 0 ≤ x → x + k = l.length → l.take x.toNat = r.take x.toNat →
  davitref02_SamePad.l0 (k + 1) x d l q s d' r q' s' = some (l == r)
 | 0, x, h0, h1, h2 => by
  rw [davitref02_SamePad.l0, if_neg (by omega), beq_iff_eq.2 (same_end l r x (by omega) hn h2)]
 | k + 1, x, h0, h1, h2 => by
  rw [davitref02_SamePad.l0, if_pos (by omega), if_pos h0, if_pos (by omega)]
  by_cases h3 : rd l x = rd r x
  ·rw [if_pos h3, wrap_in (x + 1) (by omega) (by omega)]
   exact spad_l0 d l q s d' r q' s' hn hm k (x + 1) (by omega) (by omega) (take_same l r 0 x h0 (by omega) hn h2 h3)
  ·rw [if_neg h3, beq_eq_false_iff_ne.2 (fun e => h3 (by rw [e]))]
theorem spad_f (a b : S35) (hm : a.f1.length ≤ 1000000) : davitref02_SamePad.f (a.f1.length + 2) a.f0 a.f1 a.f2 a.f3 b.f0 b.f1 b.f2 b.f3 = some (padE a b) := by
 unfold davitref02_SamePad.f padE
 by_cases h1 : a.f0 = b.f0
 ·rw [if_pos h1, beq_iff_eq.2 h1, Bool.true_and]
  cases h2 : (a.f2 != b.f2) with
  | true =>
   rw [if_pos rfl, davitref02_SamePad.j0, if_pos rfl, show (a.f2 == b.f2) = false by rw [bne] at h2; simpa using h2]
   simp
  | false =>
   rw [if_neg (by simp), show (a.f2 == b.f2) = true by rw [bne] at h2; simpa using h2]
   cases h3 : (a.f3 != b.f3) with
   | true =>
    rw [if_pos rfl, davitref02_SamePad.j0, if_pos rfl, show (a.f3 == b.f3) = false by rw [bne] at h3; simpa using h3]
    simp
   | false =>
    rw [if_neg (by simp), show (a.f3 == b.f3) = true by rw [bne] at h3; simpa using h3]
    by_cases h4 : a.f1.length = b.f1.length
    ·rw [show ((a.f1.length : Int) != (b.f1.length : Int)) = false from bne_eq_false_iff_eq.2 (by omega), davitref02_SamePad.j0, if_neg (by simp), spad_l0 a.f0 a.f1 a.f2 a.f3 b.f0 b.f1 b.f2 b.f3 h4 hm a.f1.length 0 (by omega) (by omega) (by simp), Bool.and_true, Bool.and_true]
    ·rw [show ((a.f1.length : Int) != (b.f1.length : Int)) = true from bne_iff_ne.2 (by omega), davitref02_SamePad.j0, if_pos rfl, show (a.f1 == b.f1) = false from beq_eq_false_iff_ne.2 (fun e => h4 (by rw [e]))]
     rfl
 ·rw [if_neg h1, beq_eq_false_iff_ne.2 h1, davitref02_SamePad.j0, if_pos rfl]
  rfl
theorem rpad_c (a : S35) (A : Option Addr) (c : Nat) (b : S35) (A' : Option Addr) (c' : Nat) (w : World) (hl : Kd.C (Kd.int .u16) w A a.f1.length a.f1) (hc : a.f1.length ≤ c) (hr : Kd.C (Kd.int .u16) w A' b.f1.length b.f1) (hc' : b.f1.length ≤ c') (hm : a.f1.length ≤ 1000000) :
  Calls Try.prog 44 #[.agg #[.int .i64 a.f0, .slice A a.f1.length c, .bool a.f2, .bool a.f3], .agg #[.int .i64 b.f0, .slice A' b.f1.length c', .bool b.f2, .bool b.f3]] w fun e w' => e = .returned (.bool (padE a b)) ∧ Below w.heap.size w w' :=
 davitref02_SamePad.calls (a.f1.length + 2) a.f0 A c a.f1 a.f2 a.f3 b.f0 A' c' b.f1 b.f2 b.f3 _ w hl hc hr hc' (spad_f a b hm)
end Go.Proofs.Ytbfialebaoeicaa.X
