/- Part 1 of the proof of the statement CopiesNone: the words of the walks, the walks through the functions that it reaches, and the plain laws of what they compute. -/
import Derived.Below
import Derived.Deep.Draws
import Derived.Deep.AppendLies
import Derived.Maps.AppendAt
import Derived.OwnWalk
import Derived.Laws.BytesArg
import Derived.Laws.MakeOwn
import Derived.Laws.OwnMore
import Derived.Deep.OwnRows
import Derived.Tactics
import Derived.Lib.ConvBytes
import Derived.Laws.Slices
import Derived.WalkKit
import Derived.KernelRfl
import Derived.RowKit3
import Derived.Deep.LoopGhost
import Derived.Deep.QuietTactic
import Derived.BigQuiet
import Derived.WideLaws
import Derived.Deep.DeepCutAuto
import Derived.Deep.CutBlock
import Derived.Deep.RegionHeld3
import Derived.Laws.Rows
import Derived.Lib.AppendStr
import Derived.ArgAppend
import Derived.Laws.IdiomCopy
import Derived.RowKit
import Derived.OrdersHeld
import Derived.Laws.BitsLemmas
import Derived.Laws.StructEq
import Derived.Test.YtfbbfnadmnejeaaProg
import Derived.WalkSpells
import Derived.Shelf.Abstract
import Derived.Lib.SliceRun
import Derived.Deep.RegionLaw
import Derived.Maps.OwnOps
import Derived.Maps.OwnSet
import Derived.Maps.Views
import Derived.Deep.Slices
import Derived.Lib.SmallJoins
import Derived.ChangeArms
import Derived.ProofKit
import Derived.OpenShut
import Derived.ShutString
import Derived.ChangeOld
import Derived.SizedLaws
import Derived.Carry
set_option linter.unusedVariables false
set_option linter.unusedSimpArgs false
namespace Go.Proofs.YtfbbfnadmnejeaaW.PrintWords
open Go.RowKit
structure Aside0 (p : Prop) : Prop where mk :: (out : p)
structure Drawn0 (w w' : World) : Prop where mk :: (out : ∃ n, w' = w.drewN n)
theorem Drawn0.refl (w : World) : Drawn0 w w := ⟨⟨0, rfl⟩⟩
theorem Drawn0.step {w w' : World} (h : Drawn0 w w') (n : Nat) : Drawn0 w (w'.drewN n) := by
 obtain ⟨m, rfl⟩ := h
 exact ⟨⟨m + n, World.drewN_drewN ..⟩⟩
theorem Drawn0.grown {w w' : World} (h : Drawn0 w w') : Grown w w' := by
 obtain ⟨n, rfl⟩ := h
 induction n with
 | zero => exact Grown.refl _
 | succ n ih => rw [← World.drew_drewN]; exact Grown.drew ih
theorem Drawn0.below {w w' : World} (h : Drawn0 w w') : Below w.heap.size w w' := by
 obtain ⟨n, rfl⟩ := h
 induction n with
 | zero => exact Below.refl _ _
 | succ n ih => rw [← World.drew_drewN]; exact ih.drew
def rd (xs : List Int) (i : Int) : Int := xs.getD i.toNat 0
theorem below_alloc {w W : World} (h : Below w.heap.size w W) (o : Obj) : Below w.heap.size w (W.alloc o) := h.alloc h.size o
theorem below_drew {B : Nat} {w W : World} (h : Below B w W) : Below B w W.drew := ⟨h.os, h.tape, h.output, h.size, h.block⟩
theorem pw_below_drewN {B : Nat} {w W : World} (h : Below B w W) (n : Nat) : Below B w (W.drewN n) := ⟨h.os, h.tape, h.output, h.size, h.block⟩
theorem below_then {B : Nat} {w w1 w2 : World} (h : Below B w w1) (hB : B ≤ w1.heap.size) (k : Below w1.heap.size w1 w2) : Below B w w2 :=
 h.trans ⟨k.os, k.tape, k.output, k.size, fun i hi => k.block i (Nat.lt_of_lt_of_le hi hB)⟩
theorem grown_of_below {w w1 : World} (h : Below w.heap.size w w1) (row : Option Nat) : w.grownBy w1 row := ⟨h.os, h.tape, h.output, h.size, fun i hi _ => h.block i hi⟩
theorem pw_cell_below {w w1 : World} (h : Below w.heap.size w w1) {a : Addr} {v : Value} (hc : w.cell? a = some v) : w1.cell? a = some v := (h.cell (World.block_lt_of_cell? w a hc)).trans hc
theorem add_plain (g j : Nat) : (⟨g, 0, none⟩ : Addr).add j = ⟨g, j, none⟩ := by unfold Addr.add; split <;> simp_all
theorem own_nil (W : World) (base : Nat) (e : TypeId) (size : Nat) : W.ownsRow base e size (.slice none 0 0) 0 [] := ⟨by simp, .inl ⟨rfl, rfl⟩⟩
theorem own_base {w : World} {base : Nat} {e : TypeId} {size n : Nat} {v : Value} {xs : List Value} (h : w.ownsRow base e size v n xs) (k : Nat) (hk : v.ownBlock = some k) : base ≤ k := by
 rcases h.2 with ⟨rfl, _⟩ | ⟨g, cap, cur, rfl, hb, _⟩
 ·simp [Value.ownBlock] at hk
 ·have : g = k := by simpa [Value.ownBlock] using hk
  omega
theorem own_lt {w : World} {base : Nat} {e : TypeId} {size n : Nat} {v : Value} {xs : List Value} (h : w.ownsRow base e size v n xs) (k : Nat) (hk : v.ownBlock = some k) : k < w.heap.size := by
 rcases h.2 with ⟨rfl, _⟩ | ⟨g, cap, cur, rfl, hb, hh, _⟩
 ·simp [Value.ownBlock] at hk
 ·have : g = k := by simpa [Value.ownBlock] using hk
  subst this
  exact (Array.getElem?_eq_some_iff.1 hh).1
theorem pw_own_below {w w1 : World} {base : Nat} {e : TypeId} {size n : Nat} {v : Value} {xs : List Value} (h : w.ownsRow base e size v n xs) (hb : Below w.heap.size w w1) : w1.ownsRow base e size v n xs :=
 h.kept (grown_of_below hb none) (by cases v.ownBlock <;> simp)
theorem own_slice {w : World} {base n : Nat} {e : TypeId} {size : Nat} {v : Value} {xs : List Value} (h : w.ownsRow base e size v n xs) : ∃ A c, v = .slice A n c := by
 rcases h.2 with ⟨rfl, rfl⟩ | ⟨g, cap, cur, rfl, _⟩
 ·exact ⟨none, 0, rfl⟩
 ·exact ⟨_, cap, rfl⟩
section
variable {P : Program} {ops : Array Oper} {rest : List Oper} {o : Oper} {a : Act} {Q : Exit → Act → World → Prop}
end
section
variable {P : Program}
end
section
variable {P : Program} {ops : Array Oper} {rest : List Oper} {o : Oper} {a : Act} {Q : Exit → Act → World → Prop}
end
def LeO {α : Type} (a b : Option α) : Prop := ∀ r, a = some r → b = some r
theorem LeO.refl {α : Type} (a : Option α) : LeO a a := fun _ h => h
theorem LeO.none {α : Type} (b : Option α) : LeO Option.none b := fun _ h => by cases h
theorem LeO.trans {α : Type} {a b c : Option α} (h : LeO a b) (k : LeO b c) : LeO a c := fun r hr => k r (h r hr)
theorem LeO.ite {α : Type} {c : Prop} [Decidable c] {a a' b b' : Option α} (h : LeO a a') (k : LeO b b') : LeO (if c then a else b) (if c then a' else b') := by
 split
 ·exact h
 ·exact k
theorem LeO.bind {α β : Type} {a a' : Option α} {f f' : α → Option β} (h : LeO a a') (k : ∀ x, LeO (f x) (f' x)) : LeO (a.bind f) (a'.bind f') := by
 intro r hr
 obtain ⟨x, hx, hf⟩ := Option.bind_eq_some_iff.1 hr
 exact Option.bind_eq_some_iff.2 ⟨x, h x hx, k x r hf⟩
theorem LeO.map {α β : Type} {a a' : Option α} (f : α → β) (h : LeO a a') : LeO (a.map f) (a'.map f) := by
 intro r hr
 obtain ⟨x, hx, hf⟩ := Option.map_eq_some_iff.1 hr
 exact Option.map_eq_some_iff.2 ⟨x, h x hx, hf⟩
def Reps {α : Type} (R : α → List Value → Prop) (size : Nat) (ps : List α) (cs : List Value) : Prop :=
 cs.length = ps.length * size ∧ ∀ j p, ps[j]? = some p → R p ((cs.drop (j * size)).take size)
theorem Reps.none {α : Type} (R : α → List Value → Prop) (size : Nat) : Reps R size [] [] := ⟨by simp, fun j p h => by simp at h⟩
theorem Reps.snoc {α : Type} {R : α → List Value → Prop} {size : Nat} {ps : List α} {cs c : List Value} {p : α} (h : Reps R size ps cs) (hp : R p c) (hc : c.length = size) : Reps R size (ps ++ [p]) (cs ++ c) := by
 refine ⟨by rw [List.length_append, h.1, hc, List.length_append, List.length_singleton, Nat.add_mul, Nat.one_mul], fun j q hq => ?_⟩
 rcases Nat.lt_or_ge j ps.length with hj | hj
 ·rw [List.getElem?_append_left hj] at hq
  have h1 : j * size + size ≤ cs.length := by rw [h.1, ← Nat.succ_mul]; exact Nat.mul_le_mul_right _ hj
  have h2 := h.2 j q hq
  rw [List.drop_append_of_le_length (by omega), List.take_append_of_le_length (by rw [List.length_drop]; omega)]
  exact h2
 ·have hj' : j = ps.length := by
   have := (List.getElem?_eq_some_iff.1 hq).1
   rw [List.length_append, List.length_singleton] at this
   omega
  subst hj'
  have hq' : p = q := by simpa using hq
  subst hq'
  rw [← h.1, List.drop_left, ← hc, List.take_length]
  exact hp
theorem Reps.imp_ {α : Type} {R R' : α → List Value → Prop} {size : Nat} {ps : List α} {cs : List Value} (h : Reps R size ps cs) (hR : ∀ p c, R p c → R' p c) : Reps R' size ps cs := ⟨h.1, fun j p hj => hR _ _ (h.2 j p hj)⟩
def ReadsRow {α : Type} (R : α → List Value → Prop) (size : Nat) (w : World) (A : Option Addr) (n : Nat) (ps : List α) : Prop :=
 ps.length = n ∧ n ≤ 9223372036854775807 ∧ (0 < n → ∃ ad, A = some ad ∧ ∀ j p, ps[j]? = some p → ∃ c, c.length = size ∧ R p c ∧ ∀ i u, c[i]? = some u → w.cell? (ad.add (j * size + i)) = some u)
theorem ReadsRow.get_ {α : Type} {R : α → List Value → Prop} {size : Nat} {w : World} {A : Option Addr} {n : Nat} {ps : List α} (h : ReadsRow R size w A n ps) (d : α) (i : Int) (h0 : 0 ≤ i) (h1 : i < n) :
  ∃ ad c, A = some ad ∧ c.length = size ∧ R (ps.getD i.toNat d) c ∧ ∀ j u, c[j]? = some u → w.cell? (ad.add (i.toNat * size + j)) = some u := by
 obtain ⟨ad, e, hc⟩ := h.2.2 (by omega)
 have hl : i.toNat < ps.length := by have := h.1; omega
 obtain ⟨c, hs, hr, hcell⟩ := hc i.toNat _ (List.getElem?_eq_getElem hl)
 refine ⟨ad, c, e, hs, ?_, hcell⟩
 rw [List.getD_eq_getElem?_getD, List.getElem?_eq_getElem hl]
 exact hr
theorem ReadsRow.imp_ {α : Type} {R R' : α → List Value → Prop} {size : Nat} {w w1 : World} {A : Option Addr} {n : Nat} {ps : List α} (h : ReadsRow R size w A n ps) (hb : Below w.heap.size w w1) (hR : ∀ p c, R p c → R' p c) : ReadsRow R' size w1 A n ps :=
 ⟨h.1, h.2.1, fun hn => by
  obtain ⟨ad, e, hc⟩ := h.2.2 hn
  refine ⟨ad, e, fun j p hj => ?_⟩
  obtain ⟨c, hs, hr, hcell⟩ := hc j p hj
  exact ⟨c, hs, hR _ _ hr, fun i u hu => pw_cell_below hb (hcell i u hu)⟩⟩
theorem own_reads_row {α : Type} {R : α → List Value → Prop} {w : World} {base n size : Nat} {e : TypeId} {v : Value} {ps : List α} {cs : List Value} (h : w.ownsRow base e size v n cs) (hR : Reps R size ps cs) (hn : ps.length = n) :
  ∃ A c, v = .slice A n c ∧ ReadsRow R size w A n ps := by
 rcases Nat.eq_zero_or_pos n with h0 | h0
 ·rcases h.2 with ⟨rfl, rfl⟩ | ⟨g, cap, cur, rfl, _⟩
  ·exact ⟨none, 0, rfl, hn, by omega, fun hp => absurd hp (by omega)⟩
  ·exact ⟨_, cap, rfl, hn, by omega, fun hp => absurd hp (by omega)⟩
 ·obtain ⟨g, cap, rfl, _, _⟩ := h.form h0
  have hm : n ≤ 9223372036854775807 := by
   rcases h.2 with ⟨_, h1⟩ | ⟨g', cap', cur, he, _, _, h1, h2, _⟩
   ·omega
   ·simp only [maxLen] at h2
    omega
  refine ⟨_, cap, rfl, hn, hm, fun _ => ⟨_, rfl, fun j p hj => ⟨(cs.drop (j * size)).take size, ?_, hR.2 j p hj, fun i u hu => ?_⟩⟩⟩
  ·have hjl := (List.getElem?_eq_some_iff.1 hj).1
   have h1 : j * size + size ≤ cs.length := by rw [hR.1, ← Nat.succ_mul]; exact Nat.mul_le_mul_right _ hjl
   rw [List.length_take, List.length_drop]
   omega
  ·refine h.cells (g := g) rfl _ u ?_
   rw [List.getElem?_take] at hu
   split at hu
   ·rw [List.getElem?_drop] at hu
    exact hu
   ·cases hu
theorem add_field (ad : Addr) (m j : Nat) (hj : 0 < j) : ad.add (m + j) = ⟨(ad.add m).block, (ad.add m).off + j, none⟩ := by
 unfold Addr.add
 by_cases hm : m = 0
 ·subst hm
  simp [Nat.ne_of_gt hj]
 ·simp [hm, Nat.add_assoc]
section
variable {P : Program} {ops : Array Oper} {rest : List Oper} {o : Oper} {a : Act} {Q : Exit → Act → World → Prop}
theorem print_append_cells {w0 W : World} (base : Nat) (hgd : o.guard = none) (s x : Operand) (t e : TypeId) (z : Value) (size bytes : Nat)
  (ho : o.op = .call { callee := .builtin .append, args := #[s, x], argTypes := #[t, t] })
  (ht : P.underlying t = some (.slice e)) (hinfo : (P.info? e).map (fun i => (i.zero, i.size, i.bytes)) = some (some z, size, bytes)) (hz : z.cells.size = size) (hs0 : 0 < size) (hb0 : 0 < bytes)
  (v : Value) (n : Nat) (xs ys : List Value) (hs : a.eval s = v) (hx : a.eval x = .slice (some ⟨W.heap.size, 0, none⟩) 1 1) (hys : ys.length = size) (h1 : ∀ u ∈ ys, u.oneCell' = true)
  (HO : W.ownsRow base e size v n xs) (HB : Below base w0 W) (hbase : base ≤ W.heap.size) (hl : (n + 1) * bytes ≤ 140737488355328)
  (h : ∀ v1 w1, w1.ownsRow base e size v1 (n + 1) (xs ++ ys) → Below base w0 w1 → W.grownBy w1 v.ownBlock → (v1.ownBlock = v.ownBlock ∨ ∃ b, v1.ownBlock = some b ∧ W.heap.size ≤ b) → wpList P ops Q rest (a.put o.dst v1) w1) :
  wpList P ops Q (o :: rest) a (W.alloc (.cells ys.toArray e)) := by
 obtain ⟨i0, hi, hzz⟩ := Option.map_eq_some_iff.1 hinfo
 simp only [Prod.mk.injEq] at hzz
 obtain ⟨hz0, hz1, hz2⟩ := hzz
 have hlen : n + 1 ≤ 140737488355328 := Nat.le_trans (Nat.le_mul_of_pos_right _ hb0) hl
 refine wpList_append_own_at (W.alloc (.cells ys.toArray e)) hgd s x t ho base e i0 z size bytes ht hi hz0 hz1 hz2 hz hs0 v n xs hs (HO.alloc _) ⟨W.heap.size, 0, none⟩ 1 1 ys hx (by rw [hys]; simp)
  (by simpa using World.news_of_block (cs := ys.toArray) (t := e) (fr := (0, 0)) (heap_alloc_new W (.cells ys.toArray e))) h1 (by simp only [maxLen]; omega) hl (by simp; omega) ?_
 intro v1 w1 hown hg _ hat
 refine h v1 w1 hown ((HB.alloc hbase _).grown hg (by simp; omega) (own_base HO)) (World.grownBy.trans (World.grownBy_alloc W _ _) hg) ?_
 rcases hat with hat | hat
 ·exact .inl hat
 ·exact .inr ⟨_, hat, by simp⟩
end
theorem own_ne {w : World} {base : Nat} {e t : TypeId} {size n g : Nat} {v : Value} {xs : List Value} {cs : Array Value} (h : w.ownsRow base e size v n xs) (hg : w.heap[g]? = some (.cells cs t (0, 0))) (hne : e ≠ t) : some g ≠ v.ownBlock := by
 rcases h.2 with ⟨rfl, _⟩ | ⟨g', cap, cur, rfl, _, hh, _⟩
 ·simp [Value.ownBlock]
 ·intro he
  have : g = g' := by simpa [Value.ownBlock] using he
  subst this
  rw [hg] at hh
  injection hh with hh
  injection hh with _ ht
  exact hne ht.symm
theorem blk_set {w : World} {g : Nat} {t : TypeId} {cs : Array Value} (h : w.heap[g]? = some (.cells cs t (0, 0))) (i : Nat) (u : Value) : (w.setCell ⟨g, i, none⟩ u).heap[g]? = some (.cells (cs.setIfInBounds i u) t (0, 0)) := by
 simp [World.setCell, Array.getElem?_modify, h]
theorem blk_lt {w : World} {g : Nat} {o : Obj} (h : w.heap[g]? = some o) : g < w.heap.size := (Array.getElem?_eq_some_iff.1 h).1
theorem blk_cell {w : World} {g : Nat} {t : TypeId} {cs : Array Value} (h : w.heap[g]? = some (.cells cs t (0, 0))) (i : Nat) : w.cell? ⟨g, i, none⟩ = cs[i]? := cell_of_row w g i cs t (0, 0) h
theorem blk_frozen {w : World} {g : Nat} {t : TypeId} {cs : Array Value} (h : w.heap[g]? = some (.cells cs t (0, 0))) (i : Nat) : w.frozen? ⟨g, i, none⟩ = false := by simp [World.frozen?, h]
theorem blk_grown {w w1 : World} {g : Nat} {o : Obj} {row : Option Nat} (h : w.heap[g]? = some o) (hg : w.grownBy w1 row) (hne : some g ≠ row) : w1.heap[g]? = some o := (hg.block g (blk_lt h) hne).trans h
def KeepBut (w w' : World) (g : Nat) (row : Option Nat) : Prop := w.heap.size ≤ w'.heap.size ∧ ∀ i, i < w.heap.size → i ≠ g → some i ≠ row → w'.heap[i]? = w.heap[i]?
theorem KeepBut.refl (w : World) (g : Nat) (row : Option Nat) : KeepBut w w g row := ⟨Nat.le_refl _, fun _ _ _ _ => rfl⟩
theorem KeepBut.of_below {w w1 : World} (h : Below w.heap.size w w1) (g : Nat) (row : Option Nat) : KeepBut w w1 g row := ⟨h.size, fun i hi _ _ => h.block i hi⟩
theorem KeepBut.trans {w w1 w2 : World} {g : Nat} {row row1 : Option Nat} (h : KeepBut w w1 g row) (k : KeepBut w1 w2 g row1) (hr : row1 = row ∨ ∃ b, row1 = some b ∧ w.heap.size ≤ b) : KeepBut w w2 g row :=
 ⟨Nat.le_trans h.1 k.1, fun i hi hg hn => by
  refine (k.2 i (Nat.lt_of_lt_of_le hi h.1) hg ?_).trans (h.2 i hi hg hn)
  rcases hr with rfl | ⟨b, rfl, hb⟩
  ·exact hn
  ·intro e
   injection e with e
   omega⟩
theorem KeepBut.blk {w w1 : World} {g g' : Nat} {row : Option Nat} {o : Obj} (h : KeepBut w w1 g row) (hb : w.heap[g']? = some o) (hg : g' ≠ g) (hr : some g' ≠ row) : w1.heap[g']? = some o := (h.2 g' (blk_lt hb) hg hr).trans hb
theorem KeepBut.own {w w1 : World} {g : Nat} {row : Option Nat} {base : Nat} {e : TypeId} {size n : Nat} {v : Value} {xs : List Value} (h : KeepBut w w1 g row) (ho : w.ownsRow base e size v n xs) (hg : v.ownBlock ≠ some g) (hr : v.ownBlock = none ∨ v.ownBlock ≠ row) : w1.ownsRow base e size v n xs := by
 obtain ⟨h1, h2⟩ := ho
 refine ⟨h1, ?_⟩
 rcases h2 with h2 | ⟨b, cap, cur, rfl, hb, hh, r⟩
 ·exact .inl h2
 ·refine .inr ⟨b, cap, cur, rfl, hb, h.blk hh ?_ ?_, r⟩
  ·intro e
   exact hg (by rw [← e]; rfl)
  ·rcases hr with hr | hr
   ·simp [Value.ownBlock] at hr
   ·exact hr
section
variable {P : Program} {ops : Array Oper} {o : Oper} {a : Act} {Q : Exit → Act → World → Prop} {K : Act → World → Prop}
end
theorem own_weaken {w : World} {base base' : Nat} {e : TypeId} {size n : Nat} {v : Value} {xs : List Value} (h : w.ownsRow base e size v n xs) (hb : base' ≤ base) : w.ownsRow base' e size v n xs := by
 obtain ⟨h1, h2⟩ := h
 refine ⟨h1, ?_⟩
 rcases h2 with h2 | ⟨g, cap, cur, rfl, hg, r⟩
 ·exact .inl h2
 ·exact .inr ⟨g, cap, cur, rfl, Nat.le_trans hb hg, r⟩
section
variable {α : Type} {enc : α → Value} {d : α}
def encs (enc : α → Value) (xs : List α) : List Value := xs.map enc
def rdOf (d : α) (xs : List α) (i : Int) : α := xs.getD i.toNat d
theorem encs_length (xs : List α) : (encs enc xs).length = xs.length := by simp [encs]
theorem encs_get (xs : List α) (j : Nat) (h : j < xs.length) : (encs enc xs)[j]? = some (enc (xs.getD j d)) := by
 simp [encs, List.getElem?_eq_getElem h, List.getD_eq_getElem?_getD]
def ReadsOf (enc : α → Value) (d : α) (w : World) (A : Option Addr) (n : Nat) (xs : List α) : Prop :=
 xs.length = n ∧ n ≤ 9223372036854775807 ∧ (0 < n → ∃ ad, A = some ad ∧ ∀ j, j < n → w.cell? (ad.add j) = some (enc (xs.getD j d)))
theorem ReadsOf.at_ {w : World} {A : Option Addr} {n : Nat} {xs : List α} (h : ReadsOf enc d w A n xs) (i : Int) (h0 : 0 ≤ i) (h1 : i < n) : ∃ ad, A = some ad ∧ w.cell? (ad.add i.toNat) = some (enc (rdOf d xs i)) := by
 obtain ⟨ad, e, hc⟩ := h.2.2 (by omega)
 exact ⟨ad, e, hc _ (by omega)⟩
theorem ReadsOf.below {w w1 : World} {A : Option Addr} {n : Nat} {xs : List α} (h : ReadsOf enc d w A n xs) (hb : Below w.heap.size w w1) : ReadsOf enc d w1 A n xs :=
 ⟨h.1, h.2.1, fun hn => by
  obtain ⟨ad, e, hc⟩ := h.2.2 hn
  exact ⟨ad, e, fun j hj => pw_cell_below hb (hc j hj)⟩⟩
theorem own_at_of {W : World} {base g n cap : Nat} {e : TypeId} {xs : List α} (h : W.ownsRow base e 1 (.slice (some ⟨g, 0, none⟩) n cap) n (encs enc xs)) (i : Int) (h0 : 0 ≤ i) (h1 : i < n) :
  W.cell? ⟨g, i.toNat, none⟩ = some (enc (rdOf d xs i)) ∧ W.frozen? ⟨g, i.toNat, none⟩ = false := by
 have hl : xs.length = n := by have := h.1; simp [encs] at this; exact this
 constructor
 ·have hc := h.cells (g := g) rfl i.toNat _ (encs_get (d := d) xs i.toNat (by omega))
  rwa [add_plain] at hc
 ·rcases h.2 with ⟨h', _⟩ | ⟨g', cap', cur, h', _, hh, _⟩
  ·cases h'
  ·have : g = g' := by injection h' with h'; injection h' with h'; injection h' with h'
   subst this
   simp [World.frozen?, hh]
theorem own_store_of {W : World} {base g n cap : Nat} {e : TypeId} {xs : List α} (h : W.ownsRow base e 1 (.slice (some ⟨g, 0, none⟩) n cap) n (encs enc xs)) (i : Int) (x : α) :
  (W.setCell ⟨g, i.toNat, none⟩ (enc x)).ownsRow base e 1 (.slice (some ⟨g, 0, none⟩) n cap) n (encs enc (xs.set i.toNat x)) ∧ W.grownBy (W.setCell ⟨g, i.toNat, none⟩ (enc x)) (some g) := by
 have hs := h.stored i.toNat (enc x)
 have he : (encs enc xs).set i.toNat (enc x) = encs enc (xs.set i.toNat x) := by simp [encs, List.map_set]
 rwa [he] at hs
end
section
variable {α : Type} {P : Program} {ops : Array Oper} {rest : List Oper} {o : Oper} {a : Act} {Q : Exit → Act → World → Prop}
end
theorem blk_alloc {w : World} {g : Nat} {o : Obj} (h : w.heap[g]? = some o) (o' : Obj) : (w.alloc o').heap[g]? = some o := (Below.heap_alloc w o' g (blk_lt h)).trans h
theorem blk_drew {w : World} {g : Nat} {o : Obj} (h : w.heap[g]? = some o) : w.drew.heap[g]? = some o := h
theorem blk_drewN {w : World} {g : Nat} {o : Obj} (h : w.heap[g]? = some o) (n : Nat) : (w.drewN n).heap[g]? = some o := h
theorem blk_below {w w1 : World} {g : Nat} {o : Obj} (h : w.heap[g]? = some o) (hb : Below w.heap.size w w1) : w1.heap[g]? = some o := (hb.block g (blk_lt h)).trans h
theorem blk_new (w : World) (o : Obj) : (w.alloc o).heap[w.heap.size]? = some o := heap_alloc_new w o
section
variable {P : Program}
end
theorem own_le {w : World} {base n m c size : Nat} {e : TypeId} {A : Option Addr} {xs : List Value} (h : w.ownsRow base e size (.slice A m c) n xs) : m ≤ c := by
 rcases h.2 with ⟨he, _⟩ | ⟨g, cap, cur, he, _, _, hnc, _⟩
 ·injection he with _ h2 h3
  omega
 ·injection he with _ h2 h3
  omega
def OwnRow {α : Type} (R : α → List Value → Prop) (e : TypeId) (size : Nat) (w : World) (base : Nat) (v : Value) (ps : List α) : Prop :=
 ∃ inner, w.ownsRow base e size v ps.length inner ∧ Reps R size ps inner
section
variable {α : Type} {R R' : α → List Value → Prop} {e : TypeId} {size : Nat} {w w1 : World} {base : Nat} {v : Value} {ps : List α}
theorem OwnRow.none_ (R : α → List Value → Prop) (e : TypeId) (size : Nat) (w : World) (base : Nat) : OwnRow R e size w base (.slice none 0 0) [] := ⟨[], own_nil _ _ _ _, Reps.none _ _⟩
theorem OwnRow.imp_ (h : OwnRow R e size w base v ps) (hR : ∀ p c, R p c → R' p c) : OwnRow R' e size w base v ps := by
 obtain ⟨inner, ho, hr⟩ := h
 exact ⟨inner, ho, hr.imp_ hR⟩
theorem OwnRow.below (h : OwnRow R e size w base v ps) (hb : Below w.heap.size w w1) : OwnRow R e size w1 base v ps := by
 obtain ⟨inner, ho, hr⟩ := h
 exact ⟨inner, pw_own_below ho hb, hr⟩
theorem OwnRow.keep (h : OwnRow R e size w base v ps) {g : Nat} {t : TypeId} {cells : Array Value} (hb : w.heap[g]? = some (.cells cells t (0, 0))) (ht : e ≠ t) (hk : KeepBut w w1 g none) : OwnRow R e size w1 base v ps := by
 obtain ⟨inner, ho, hr⟩ := h
 exact ⟨inner, hk.own ho (Ne.symm (own_ne ho hb ht)) (by cases v.ownBlock <;> simp), hr⟩
theorem OwnRow.reads (h : OwnRow R e size w base v ps) : ∃ A c, v = .slice A ps.length c ∧ ps.length ≤ c ∧ ReadsRow R size w A ps.length ps := by
 obtain ⟨inner, ho, hr⟩ := h
 obtain ⟨A, c, rfl, hrow⟩ := own_reads_row ho hr rfl
 exact ⟨A, c, rfl, own_le ho, hrow⟩
theorem OwnRow.ne_block (h : OwnRow R e size w base v ps) {g : Nat} {t : TypeId} {cells : Array Value} (hb : w.heap[g]? = some (.cells cells t (0, 0))) (ht : e ≠ t) : some g ≠ v.ownBlock := by
 obtain ⟨inner, ho, hr⟩ := h
 exact own_ne ho hb ht
theorem OwnRow.lit (W : World) (base : Nat) {inner : List Value} (hr : Reps R size ps inner) (hb : base ≤ W.heap.size) (hm : ps.length ≤ 9223372036854775807) :
  OwnRow R e size (W.alloc (.cells inner.toArray e)) base (.slice (some ⟨W.heap.size, 0, none⟩) ps.length ps.length) ps := by
 have h := World.ownsRow_lit (base := base) (e := e) (size := size) W inner.toArray ps.length hb (by simpa [maxLen] using hm) (by simpa using hr.1)
 exact ⟨inner, by simpa using h, hr⟩
end
section
variable {P : Program} {ops : Array Oper} {rest : List Oper} {o : Oper} {a : Act} {Q : Exit → Act → World → Prop} {α : Type} {R : α → List Value → Prop}
theorem OwnRow.append {w0 W : World} (base : Nat) (hgd : o.guard = none) (s x : Operand) (t e : TypeId) (z : Value) (size bytes : Nat)
  (ho : o.op = .call { callee := .builtin .append, args := #[s, x], argTypes := #[t, t] })
  (ht : P.underlying t = some (.slice e)) (hinfo : (P.info? e).map (fun i => (i.zero, i.size, i.bytes)) = some (some z, size, bytes)) (hz : z.cells.size = size) (hs0 : 0 < size) (hb0 : 0 < bytes)
  (v : Value) (ps : List α) (p : α) (cs : List Value) (hs : a.eval s = v) (hx : a.eval x = .slice (some ⟨W.heap.size, 0, none⟩) 1 1) (hp : R p cs) (hcs : cs.length = size) (h1 : ∀ u ∈ cs, u.oneCell' = true)
  (HO : OwnRow R e size W base v ps) (HB : Below base w0 W) (hbase : base ≤ W.heap.size) (hl : (ps.length + 1) * bytes ≤ 140737488355328)
  (h : ∀ v1 w1, OwnRow R e size w1 base v1 (ps ++ [p]) → Below base w0 w1 → W.grownBy w1 v.ownBlock → (v1.ownBlock = v.ownBlock ∨ ∃ b, v1.ownBlock = some b ∧ W.heap.size ≤ b) → wpList P ops Q rest (a.put o.dst v1) w1) :
  wpList P ops Q (o :: rest) a (W.alloc (.cells cs.toArray e)) := by
 obtain ⟨inner, hown, hr⟩ := HO
 refine print_append_cells base hgd s x t e z size bytes ho ht hinfo hz hs0 hb0 v ps.length inner cs hs hx hcs h1 hown HB hbase hl ?_
 intro v1 w1 hown1 hb1 hg1 hat1
 exact h v1 w1 ⟨inner ++ cs, by rw [List.length_append, List.length_singleton]; exact hown1, hr.snoc hp hcs⟩ hb1 hg1 hat1
end
section
variable {P : Program} {ops : Array Oper} {o : Oper} {a : Act} {Q : Exit → Act → World → Prop} {K : Act → World → Prop} {α : Type} {R : α → List Value → Prop}
end
theorem ReadsRow.inner_ {α : Type} {R : α → List Value → Prop} {size : Nat} {w : World} {ad : Addr} {n : Nat} {ps : List α} (h : ReadsRow R size w (some ad) n ps) :
  ∃ inner, Reps R size ps inner ∧ ∀ j u, inner[j]? = some u → w.cell? (ad.add j) = some u := by
 have key : ∀ m, m ≤ ps.length → ∃ inner, Reps R size (ps.take m) inner ∧ ∀ j u, inner[j]? = some u → w.cell? (ad.add j) = some u := by
  intro m
  induction m with
  | zero => exact fun _ => ⟨[], Reps.none _ _, fun j u hu => by simp at hu⟩
  | succ m ih =>
   intro hm
   obtain ⟨inner, hr, hc⟩ := ih (by omega)
   obtain ⟨ad', he, hcell⟩ := h.2.2 (by have := h.1; omega)
   injection he with he
   subst he
   obtain ⟨c, hcl, hp, hcc⟩ := hcell m _ (List.getElem?_eq_getElem (show m < ps.length by omega))
   refine ⟨inner ++ c, ?_, fun j u hu => ?_⟩
   ·rw [List.take_succ_eq_append_getElem (show m < ps.length by omega)]
    exact hr.snoc hp hcl
   ·have hil : inner.length = m * size := by rw [hr.1, List.length_take, Nat.min_eq_left (by omega)]
    rcases Nat.lt_or_ge j inner.length with hj | hj
    ·rw [List.getElem?_append_left hj] at hu
     exact hc j u hu
    ·rw [List.getElem?_append_right hj] at hu
     have := hcc (j - inner.length) u hu
     rwa [hil, Nat.add_sub_cancel' (by omega)] at this
 obtain ⟨inner, hr, hc⟩ := key ps.length (Nat.le_refl _)
 rw [List.take_length] at hr
 exact ⟨inner, hr, hc⟩
section
variable {α : Type} {P : Program}
end
section
variable {P : Program} {ops : Array Oper} {rest : List Oper} {o : Oper} {a : Act} {Q : Exit → Act → World → Prop}
end
structure Kd (α : Type) where
 sz : Nat
 E : List Nat
 K : World → α → List Value → Prop
 M : World → Nat → (Nat → Prop) → α → List Value → Prop
 K_len : ∀ {w x cs}, K w x cs → cs.length = sz
 K_one : ∀ {w x cs}, K w x cs → ∀ u ∈ cs, u.oneCell' = true
 K_below : ∀ {w w1 : World} {x cs}, Below w.heap.size w w1 → K w x cs → K w1 x cs
 K_of_M : ∀ {w base ok x cs}, M w base ok x cs → K w x cs
 M_mono : ∀ {w base ok ok' x cs}, (∀ k, ok k → ok' k) → M w base ok x cs → M w base ok' x cs
 M_bound : ∀ {w : World} {base ok x cs}, M w base ok x cs → M w base (fun k => ok k ∧ base ≤ k ∧ k < w.heap.size ∧ ∃ q, q ∈ E ∧ ∃ cells, w.heap[k]? = some (.cells cells q (0, 0))) x cs
 M_move : ∀ {w w1 : World} {base ok x cs}, (∀ k, ok k → w1.heap[k]? = w.heap[k]?) → M w base ok x cs → M w1 base ok x cs
 M_lower : ∀ {w base base' ok x cs}, base' ≤ base → M w base ok x cs → M w base' ok x cs
theorem own_move {w w1 : World} {base : Nat} {e : TypeId} {size n : Nat} {v : Value} {xs : List Value} (h : w.ownsRow base e size v n xs) (hm : ∀ k, v.ownBlock = some k → w1.heap[k]? = w.heap[k]?) : w1.ownsRow base e size v n xs := by
 obtain ⟨h1, h2⟩ := h
 refine ⟨h1, ?_⟩
 rcases h2 with h2 | ⟨g, cap, cur, rfl, hg, hh, r⟩
 ·exact .inl h2
 ·exact .inr ⟨g, cap, cur, rfl, hg, (hm g (by simp [Value.ownBlock])).trans hh, r⟩
theorem own_typed {w : World} {base : Nat} {e : TypeId} {size n : Nat} {v : Value} {xs : List Value} (h : w.ownsRow base e size v n xs) (k : Nat) (hk : v.ownBlock = some k) : ∃ cells, w.heap[k]? = some (.cells cells e (0, 0)) := by
 rcases h.2 with ⟨rfl, _⟩ | ⟨g, cap, cur, rfl, hg, hh, r⟩
 ·simp [Value.ownBlock] at hk
 ·have : g = k := by simpa [Value.ownBlock] using hk
  subst this
  exact ⟨cur, hh⟩
namespace Kd
def C {α : Type} (d : Kd α) (w : World) (A : Option Addr) (n : Nat) (xs : List α) : Prop := ReadsRow (d.K w) d.sz w A n xs
def R {α : Type} (d : Kd α) (e : Nat) (w : World) (base : Nat) (ok : Nat → Prop) (v : Value) (xs : List α) : Prop :=
 (∀ k, v.ownBlock = some k → ok k) ∧ OwnRow (d.M w base (fun k => ok k ∧ some k ≠ v.ownBlock)) e d.sz w base v xs
section
variable {α : Type} {d : Kd α} {e : Nat} {w w1 : World} {base : Nat} {ok ok' : Nat → Prop} {v : Value} {xs : List α}
theorem C_below {A : Option Addr} {n : Nat} (h : d.C w A n xs) (hb : Below w.heap.size w w1) : d.C w1 A n xs := ReadsRow.imp_ h hb (fun _ _ hp => d.K_below hb hp)
theorem R_nil (d : Kd α) (e : Nat) (w : World) (base : Nat) (ok : Nat → Prop) : d.R e w base ok (.slice none 0 0) [] := ⟨fun k hk => by simp [Value.ownBlock] at hk, OwnRow.none_ _ _ _ _ _⟩
theorem R_mono (h : d.R e w base ok v xs) (hok : ∀ k, ok k → ok' k) : d.R e w base ok' v xs := ⟨fun k hk => hok k (h.1 k hk), h.2.imp_ (fun _ _ hp => d.M_mono (fun k hk => ⟨hok k hk.1, hk.2⟩) hp)⟩
theorem R_bound (h : d.R e w base ok v xs) : d.R e w base (fun k => ok k ∧ base ≤ k ∧ k < w.heap.size ∧ ∃ q, q ∈ e :: d.E ∧ ∃ cells, w.heap[k]? = some (.cells cells q (0, 0))) v xs := by
 obtain ⟨h0, inner, ho, hr⟩ := h
 refine ⟨fun k hk => ?_, inner, ho, hr.imp_ (fun _ _ hp => d.M_mono (fun k hk => ?_) (d.M_bound hp))⟩
 ·obtain ⟨cells, hc⟩ := own_typed ho k hk
  exact ⟨h0 k hk, own_base ho k hk, own_lt ho k hk, e, List.mem_cons_self, cells, hc⟩
 ·obtain ⟨⟨h1, h2⟩, h3, h4, q, hq, hc⟩ := hk
  exact ⟨⟨h1, h3, h4, q, List.mem_cons_of_mem _ hq, hc⟩, h2⟩
theorem R_move (h : d.R e w base ok v xs) (hm : ∀ k, ok k → w1.heap[k]? = w.heap[k]?) : d.R e w1 base ok v xs := by
 obtain ⟨h0, inner, ho, hr⟩ := h
 exact ⟨h0, inner, own_move ho (fun k hk => hm k (h0 k hk)), hr.imp_ (fun _ _ hp => d.M_move (fun k hk => hm k hk.1) hp)⟩
theorem R_lower {base' : Nat} (h : d.R e w base ok v xs) (hb : base' ≤ base) : d.R e w base' ok v xs := by
 obtain ⟨h0, inner, ho, hr⟩ := h
 exact ⟨h0, inner, own_weaken ho hb, hr.imp_ (fun _ _ hp => d.M_lower hb hp)⟩
theorem R_step (h : d.R e w base ok v xs) (hm : ∀ k, ok k → k < w.heap.size → w1.heap[k]? = w.heap[k]?) : d.R e w1 base ok v xs :=
 R_mono (R_move (R_bound h) (fun k hk => hm k hk.1 hk.2.2.1)) (fun _ hk => hk.1)
theorem M_step {x : α} {cs : List Value} (h : d.M w base ok x cs) (hm : ∀ k, ok k → k < w.heap.size → w1.heap[k]? = w.heap[k]?) : d.M w1 base ok x cs :=
 d.M_mono (fun _ hk => hk.1) (d.M_move (fun k hk => hm k hk.1 hk.2.2.1) (d.M_bound h))
theorem R_below (h : d.R e w base ok v xs) (hb : Below w.heap.size w w1) : d.R e w1 base ok v xs := R_step h (fun k _ hk => hb.block k hk)
theorem M_below {x : α} {cs : List Value} (h : d.M w base ok x cs) (hb : Below w.heap.size w w1) : d.M w1 base ok x cs := M_step h (fun k _ hk => hb.block k hk)
theorem R_far (h : d.R e w base ok v xs) {p : Addr} (hok : ∀ k, ok k → k ≠ p.block) (u : Value) : d.R e (w.setCell p u) base ok v xs := R_step h (fun k ho _ => Below.heap_setCell w p u k (hok k ho))
theorem R_types (h : d.R e w base ok v xs) {g t : Nat} {cells : Array Value} (hb : w.heap[g]? = some (.cells cells t (0, 0))) (ht : ∀ q, q ∈ e :: d.E → q ≠ t) : d.R e w base (fun k => ok k ∧ k ≠ g) v xs :=
 R_mono (R_bound h) (fun k hk => ⟨hk.1, by
  obtain ⟨_, _, _, q, hq, cells', hc⟩ := hk
  rintro rfl
  rw [hc] at hb
  injection hb with hb
  injection hb with _ hb
  exact ht q hq hb⟩)
theorem R_reads (h : d.R e w base ok v xs) : ∃ A c, v = .slice A xs.length c ∧ xs.length ≤ c ∧ d.C w A xs.length xs := by
 obtain ⟨A, c, he, hl, hr⟩ := OwnRow.reads h.2
 exact ⟨A, c, he, hl, hr.imp_ (Below.refl _ _) (fun _ _ hp => d.K_of_M hp)⟩
theorem R_slice (h : d.R e w base ok v xs) : ∃ A c, v = .slice A xs.length c := by
 obtain ⟨A, c, he, _⟩ := R_reads h
 exact ⟨A, c, he⟩
theorem R_own (h : d.R e w base ok v xs) : ∃ inner, w.ownsRow base e d.sz v xs.length inner := by
 obtain ⟨_, inner, ho, _⟩ := h
 exact ⟨inner, ho⟩
theorem R_ne (h : d.R e w base ok v xs) {g t : Nat} {cells : Array Value} (hb : w.heap[g]? = some (.cells cells t (0, 0))) (ht : e ≠ t) : some g ≠ v.ownBlock := OwnRow.ne_block h.2 hb ht
end
def scalar {α : Type} (enc : α → Value) (h1 : ∀ x, (enc x).oneCell' = true) : Kd α where
 sz := 1
 E := []
 K := fun _ x cs => cs = [enc x]
 M := fun _ _ _ x cs => cs = [enc x]
 K_len := fun h => by rw [h]; rfl
 K_one := fun h u hu => by
  rw [h] at hu
  rw [List.mem_singleton.1 hu]
  exact h1 _
 K_below := fun _ h => h
 K_of_M := fun h => h
 M_mono := fun _ h => h
 M_bound := fun h => h
 M_move := fun _ h => h
 M_lower := fun _ h => h
def int (k : IntKind) : Kd Int := scalar (Value.int k) (fun _ => rfl)
def bool : Kd Bool := scalar Value.bool (fun _ => rfl)
def slice {α : Type} (e : Nat) (d : Kd α) : Kd (List α) where
 sz := 1
 E := e :: d.E
 K := fun w xs cs => ∃ A c, cs = [.slice A xs.length c] ∧ xs.length ≤ c ∧ d.C w A xs.length xs
 M := fun w base ok xs cs => ∃ v, cs = [v] ∧ d.R e w base ok v xs
 K_len := by
  rintro w x cs ⟨A, c, rfl, _⟩
  rfl
 K_one := by
  rintro w x cs ⟨A, c, rfl, _⟩ u hu
  rw [List.mem_singleton.1 hu]
  rfl
 K_below := by
  rintro w w1 x cs hb ⟨A, c, rfl, hl, hr⟩
  exact ⟨A, c, rfl, hl, C_below hr hb⟩
 K_of_M := by
  rintro w base ok x cs ⟨v, rfl, h⟩
  obtain ⟨A, c, rfl, hl, hr⟩ := R_reads h
  exact ⟨A, c, rfl, hl, hr⟩
 M_mono := by
  rintro w base ok ok' x cs hok ⟨v, rfl, h⟩
  exact ⟨v, rfl, R_mono h hok⟩
 M_bound := by
  rintro w base ok x cs ⟨v, rfl, h⟩
  exact ⟨v, rfl, R_bound h⟩
 M_move := by
  rintro w w1 base ok x cs hm ⟨v, rfl, h⟩
  exact ⟨v, rfl, R_move h hm⟩
 M_lower := by
  rintro w base base' ok x cs hb ⟨v, rfl, h⟩
  exact ⟨v, rfl, R_lower h hb⟩
def pair {α β : Type} (a : Kd α) (b : Kd β) : Kd (α × β) where
 sz := a.sz + b.sz
 E := a.E ++ b.E
 K := fun w x cs => ∃ c0 c1, cs = c0 ++ c1 ∧ a.K w x.1 c0 ∧ b.K w x.2 c1
 M := fun w base ok x cs => ∃ c0 c1, cs = c0 ++ c1 ∧ a.M w base ok x.1 c0 ∧ b.M w base ok x.2 c1
 K_len := by
  rintro w x cs ⟨c0, c1, rfl, h0, h1⟩
  rw [List.length_append, a.K_len h0, b.K_len h1]
 K_one := by
  rintro w x cs ⟨c0, c1, rfl, h0, h1⟩ u hu
  rcases List.mem_append.1 hu with hu | hu
  ·exact a.K_one h0 u hu
  ·exact b.K_one h1 u hu
 K_below := by
  rintro w w1 x cs hb ⟨c0, c1, rfl, h0, h1⟩
  exact ⟨c0, c1, rfl, a.K_below hb h0, b.K_below hb h1⟩
 K_of_M := by
  rintro w base ok x cs ⟨c0, c1, rfl, h0, h1⟩
  exact ⟨c0, c1, rfl, a.K_of_M h0, b.K_of_M h1⟩
 M_mono := by
  rintro w base ok ok' x cs hok ⟨c0, c1, rfl, h0, h1⟩
  exact ⟨c0, c1, rfl, a.M_mono hok h0, b.M_mono hok h1⟩
 M_bound := by
  rintro w base ok x cs ⟨c0, c1, rfl, h0, h1⟩
  refine ⟨c0, c1, rfl, a.M_mono ?_ (a.M_bound h0), b.M_mono ?_ (b.M_bound h1)⟩
  ·rintro k ⟨h2, h3, h4, q, hq, hc⟩
   exact ⟨h2, h3, h4, q, List.mem_append_left _ hq, hc⟩
  ·rintro k ⟨h2, h3, h4, q, hq, hc⟩
   exact ⟨h2, h3, h4, q, List.mem_append_right _ hq, hc⟩
 M_move := by
  rintro w w1 base ok x cs hm ⟨c0, c1, rfl, h0, h1⟩
  exact ⟨c0, c1, rfl, a.M_move hm h0, b.M_move hm h1⟩
 M_lower := by
  rintro w base base' ok x cs hb ⟨c0, c1, rfl, h0, h1⟩
  exact ⟨c0, c1, rfl, a.M_lower hb h0, b.M_lower hb h1⟩
def iso {α β : Type} (d : Kd α) (f : β → α) : Kd β where
 sz := d.sz
 E := d.E
 K := fun w x cs => d.K w (f x) cs
 M := fun w base ok x cs => d.M w base ok (f x) cs
 K_len := d.K_len
 K_one := d.K_one
 K_below := d.K_below
 K_of_M := d.K_of_M
 M_mono := d.M_mono
 M_bound := d.M_bound
 M_move := d.M_move
 M_lower := d.M_lower
def bot {α : Type} (sz : Nat) (E : List Nat) : Kd α where
 sz := sz
 E := E
 K := fun _ _ _ => False
 M := fun _ _ _ _ _ => False
 K_len := fun h => h.elim
 K_one := fun h => h.elim
 K_below := fun _ h => h
 K_of_M := fun h => h
 M_mono := fun _ h => h
 M_bound := fun h => h
 M_move := fun _ h => h
 M_lower := fun _ h => h
def upto {α : Type} (F : Kd α → Kd α) (sz : Nat) (E : List Nat) : Nat → Kd α
 | 0 => bot sz E
 | n + 1 => F (upto F sz E n)
theorem C_get {α : Type} {d : Kd α} {w : World} {A : Option Addr} {n : Nat} {xs : List α} (h : d.C w A n xs) (z : α) (i : Int) (h0 : 0 ≤ i) (h1 : i < n) :
  ∃ ad c, A = some ad ∧ c.length = d.sz ∧ d.K w (xs.getD i.toNat z) c ∧ ∀ j u, c[j]? = some u → w.cell? (ad.add (i.toNat * d.sz + j)) = some u := ReadsRow.get_ h z i h0 h1
theorem R_appended {α : Type} {d : Kd α} {e base : Nat} {ok okp : Nat → Prop} {W w1 : World} {v v1 : Value} {xs : List α} {p : α} {inner cs : List Value} (h0 : ∀ k, v.ownBlock = some k → ok k) (hr : Reps (d.M W base (fun k => ok k ∧ some k ≠ v.ownBlock)) d.sz xs inner) (hp : d.M W base okp p cs) (hokp : ∀ k, okp k → ok k ∧ some k ≠ v.ownBlock) (hfresh : ∀ k, W.heap.size ≤ k → ok k)
  (hown : w1.ownsRow base e d.sz v1 (xs.length + 1) (inner ++ cs)) (hg : W.grownBy w1 v.ownBlock) (hat : v1.ownBlock = v.ownBlock ∨ ∃ b, v1.ownBlock = some b ∧ W.heap.size ≤ b) : d.R e w1 base ok v1 (xs ++ [p]) := by
 have hne : ∀ k, some k ≠ v.ownBlock → k < W.heap.size → some k ≠ v1.ownBlock := by
  intro k hk hlt
  rcases hat with hat | ⟨b, hb, hle⟩
  ·rw [hat]; exact hk
  ·rw [hb]
   intro he
   injection he with he
   omega
 have step : ∀ {q : α} {c : List Value} {o : Nat → Prop}, d.M W base o q c → (∀ k, o k → ok k ∧ some k ≠ v.ownBlock) → d.M w1 base (fun k => ok k ∧ some k ≠ v1.ownBlock) q c := by
  intro q c o hq ho
  have h1 := d.M_move (w1 := w1) (fun k hk => hg.block k hk.2.2.1 (ho k hk.1).2) (d.M_bound hq)
  exact d.M_mono (fun k hk => ⟨(ho k hk.1).1, hne k (ho k hk.1).2 hk.2.2.1⟩) h1
 refine ⟨fun k hk => ?_, inner ++ cs, by rw [List.length_append, List.length_singleton]; exact hown, ?_⟩
 ·rcases hat with hat | ⟨b, hb, hle⟩
  ·exact h0 k (hat ▸ hk)
  ·rw [hb] at hk
   injection hk with hk
   exact hfresh k (by omega)
 ·exact (hr.imp_ (fun _ _ hq => step hq (fun _ hk => hk))).snoc (step hp hokp) (d.K_len (d.K_of_M hp))
section
variable {P : Program} {ops : Array Oper} {rest : List Oper} {o : Oper} {a : Act} {Q : Exit → Act → World → Prop} {α : Type}
theorem R_append (d : Kd α) {w0 W : World} (base : Nat) (hgd : o.guard = none) (s x : Operand) (t e : TypeId) (z : Value) (bytes : Nat)
  (ho : o.op = .call { callee := .builtin .append, args := #[s, x], argTypes := #[t, t] })
  (ht : P.underlying t = some (.slice e)) (hinfo : (P.info? e).map (fun i => (i.zero, i.size, i.bytes)) = some (some z, d.sz, bytes)) (hz : z.cells.size = d.sz) (hs0 : 0 < d.sz) (hb0 : 0 < bytes)
  (v : Value) (xs : List α) (p : α) (cs : List Value) (ok okp : Nat → Prop) (hs : a.eval s = v) (hx : a.eval x = .slice (some ⟨W.heap.size, 0, none⟩) 1 1) (hp : d.M W base okp p cs) (hokp : ∀ k, okp k → ok k ∧ some k ≠ v.ownBlock) (hfresh : ∀ k, W.heap.size ≤ k → ok k)
  (HO : d.R e W base ok v xs) (HB : Below base w0 W) (hbase : base ≤ W.heap.size) (hl : (xs.length + 1) * bytes ≤ 140737488355328)
  (h : ∀ v1 w1, d.R e w1 base ok v1 (xs ++ [p]) → Below base w0 w1 → W.grownBy w1 v.ownBlock → (v1.ownBlock = v.ownBlock ∨ ∃ b, v1.ownBlock = some b ∧ W.heap.size ≤ b) → wpList P ops Q rest (a.put o.dst v1) w1) :
  wpList P ops Q (o :: rest) a (W.alloc (.cells cs.toArray e)) := by
 obtain ⟨h0, inner, hown, hr⟩ := HO
 refine print_append_cells base hgd s x t e z d.sz bytes ho ht hinfo hz hs0 hb0 v xs.length inner cs hs hx (d.K_len (d.K_of_M hp)) (d.K_one (d.K_of_M hp)) hown HB hbase hl ?_
 intro v1 w1 hown1 hb1 hg1 hat1
 exact h v1 w1 (R_appended h0 hr hp hokp hfresh hown1 hg1 hat1) hb1 hg1 hat1
end
section
variable {P : Program} {ops : Array Oper} {o : Oper} {a : Act} {Q : Exit → Act → World → Prop} {Kc : Act → World → Prop} {α : Type}
end
theorem reps_scalar {α : Type} {enc : α → Value} (xs : List α) : Reps (fun (x : α) (cs : List Value) => cs = [enc x]) 1 xs (encs enc xs) := by
 refine ⟨by simp [encs], fun j p hj => ?_⟩
 obtain ⟨hl, hp⟩ := List.getElem?_eq_some_iff.1 hj
 have hl' : j < (encs enc xs).length := by rw [encs_length]; exact hl
 rw [Nat.mul_one, List.drop_eq_getElem_cons hl']
 simp [encs, hp]
theorem R_of_own {α : Type} {enc : α → Value} {h1 : ∀ x, (enc x).oneCell' = true} {e : Nat} {w : World} {base : Nat} {ok : Nat → Prop} {v : Value} {xs : List α} (ho : w.ownsRow base e 1 v xs.length (encs enc xs)) (hok : ∀ k, v.ownBlock = some k → ok k) : (scalar enc h1).R e w base ok v xs := ⟨hok, encs enc xs, ho, reps_scalar xs⟩
theorem own_of_R {α : Type} {enc : α → Value} {h1 : ∀ x, (enc x).oneCell' = true} {e : Nat} {w : World} {base : Nat} {ok : Nat → Prop} {v : Value} {xs : List α} (h : (scalar enc h1).R e w base ok v xs) : w.ownsRow base e 1 v xs.length (encs enc xs) := by
 obtain ⟨_, inner, ho, hr⟩ := h
 have : inner = encs enc xs := by
  apply List.ext_getElem?
  intro j
  rcases Nat.lt_or_ge j xs.length with hj | hj
  ·have h2 := hr.2 j _ (List.getElem?_eq_getElem hj)
   have hl : j < inner.length := by have := hr.1; simp [scalar] at this; omega
   have h3 : (inner.drop (j * 1)).take 1 = [enc xs[j]] := h2
   rw [Nat.mul_one, List.drop_eq_getElem_cons hl] at h3
   have h4 : inner[j] = enc xs[j] := by
    have h5 := congrArg List.head? h3
    rw [List.take_succ_cons] at h5
    exact Option.some.inj h5
   rw [List.getElem?_eq_getElem hl, h4]
   simp [encs, List.getElem?_eq_getElem hj]
  ·have h3 : inner.length = xs.length := by have := hr.1; simp [scalar] at this; omega
   rw [List.getElem?_eq_none (by omega), List.getElem?_eq_none (by rw [encs_length]; omega)]
 rw [← this]
 exact ho
theorem reads_of_C {α : Type} {enc : α → Value} {d : α} {h1 : ∀ x, (enc x).oneCell' = true} {w : World} {A : Option Addr} {n : Nat} {xs : List α} (h : (scalar enc h1).C w A n xs) : ReadsOf enc d w A n xs := by
 refine ⟨h.1, h.2.1, fun hn => ?_⟩
 obtain ⟨ad, e, hc⟩ := h.2.2 hn
 refine ⟨ad, e, fun j hj => ?_⟩
 have hl : j < xs.length := by have := h.1; omega
 obtain ⟨c, _, hK, hcell⟩ := hc j _ (List.getElem?_eq_getElem hl)
 have hK' : c = [enc xs[j]] := hK
 subst hK'
 have := hcell 0 _ rfl
 simpa [scalar, List.getD_eq_getElem?_getD, List.getElem?_eq_getElem hl] using this
end Kd
namespace Kd
section
variable {α : Type} {F : Kd α → Kd α} {sz : Nat} {E : List Nat} {hs : ∀ n, (upto F sz E n).sz = sz} {hE : ∀ n q, q ∈ (upto F sz E n).E → q ∈ E}
end
end Kd
namespace Kd
theorem R_after {α : Type} {d : Kd α} {e base : Nat} {ok : Nat → Prop} {W w1 : World} {u v v1 : Value} {xs : List α} (h : d.R e W base (fun k => ok k ∧ some k ≠ v.ownBlock) u xs) (hg : W.grownBy w1 v.ownBlock) (hat : v1.ownBlock = v.ownBlock ∨ ∃ b, v1.ownBlock = some b ∧ W.heap.size ≤ b) : d.R e w1 base (fun k => ok k ∧ some k ≠ v1.ownBlock) u xs := by
 refine R_mono (R_move (R_bound h) (fun k hk => hg.block k hk.2.2.1 hk.1.2)) (fun k hk => ⟨hk.1.1, ?_⟩)
 rcases hat with hat | ⟨b, hb, hle⟩
 ·rw [hat]; exact hk.1.2
 ·rw [hb]
  intro he
  injection he with he
  have := hk.2.2.1
  omega
end Kd
namespace Kd
section
variable {α β : Type} {d : Kd α} {d' : Kd β} {e e' : Nat} {w w1 W : World} {base b b' : Nat} {ok ok' okv oku : Nat → Prop} {v u : Value} {xs : List α} {ys : List β}
theorem R_alloc (h : d.R e w base ok v xs) (o : Obj) : d.R e (w.alloc o) base ok v xs := R_below h (below_alloc (Below.refl _ _) o)
theorem R_drew (h : d.R e w base ok v xs) : d.R e w.drew base ok v xs := R_below h (below_drew (Below.refl _ _))
theorem R_drewN (h : d.R e w base ok v xs) (m : Nat) : d.R e (w.drewN m) base ok v xs := R_below h (pw_below_drewN (Below.refl _ _) m)
theorem C_alloc {A : Option Addr} {n : Nat} (h : d.C w A n xs) (o : Obj) : d.C (w.alloc o) A n xs := C_below h (below_alloc (Below.refl _ _) o)
theorem C_drew {A : Option Addr} {n : Nat} (h : d.C w A n xs) : d.C w.drew A n xs := C_below h (below_drew (Below.refl _ _))
theorem C_drewN {A : Option Addr} {n : Nat} (h : d.C w A n xs) (m : Nat) : d.C (w.drewN m) A n xs := C_below h (pw_below_drewN (Below.refl _ _) m)
theorem C_nil (d : Kd α) (w : World) : d.C w none ([] : List α).length [] := ⟨rfl, by simp, fun h => absurd h (Nat.lt_irrefl 0)⟩
theorem R_reads' {A : Option Addr} {n c : Nat} (h : d.R e w base ok (.slice A n c) xs) : n = xs.length ∧ n ≤ c ∧ d.C w A xs.length xs := by
 obtain ⟨A', c', he, hl, hr⟩ := R_reads h
 injection he with h1 h2 h3
 subst h1
 exact ⟨h2, by omega, hr⟩
theorem R_lt (h : d.R e w base ok v xs) : ∀ k, v.ownBlock = some k → k < w.heap.size := by
 obtain ⟨inner, ho⟩ := R_own h
 exact own_lt ho
theorem R_base (h : d.R e w base ok v xs) : ∀ k, v.ownBlock = some k → base ≤ k := by
 obtain ⟨inner, ho⟩ := R_own h
 exact own_base ho
theorem R_form (h : d.R e w base ok v xs) (hp : 0 < xs.length) : ∃ g cap, v = .slice (some ⟨g, 0, none⟩) xs.length cap ∧ base ≤ g ∧ g < w.heap.size ∧ ∃ cells, w.heap[g]? = some (.cells cells e (0, 0)) := by
 obtain ⟨inner, ho⟩ := R_own h
 obtain ⟨g, cap, he, hb, hl⟩ := ho.form hp
 obtain ⟨cells, hc⟩ := own_typed ho g (by rw [he]; simp [Value.ownBlock])
 exact ⟨g, cap, he, hb, hl, cells, hc⟩
end
section
variable {w W : World} {A : Option Addr} {n : Nat}
theorem at_int {k : IntKind} {xs : List Int} (h : (Kd.int k).C w A n xs) (i : Int) (h0 : 0 ≤ i) (h1 : i < n) : ∃ ad, A = some ad ∧ w.cell? (ad.add i.toNat) = some (.int k (rd xs i)) :=
 ReadsOf.at_ (reads_of_C (enc := Value.int k) (d := (0 : Int)) (h1 := fun _ => rfl) h) i h0 h1
theorem at_bool {xs : List Bool} (h : Kd.bool.C w A n xs) (i : Int) (h0 : 0 ≤ i) (h1 : i < n) : ∃ ad, A = some ad ∧ w.cell? (ad.add i.toNat) = some (.bool (rdOf false xs i)) :=
 ReadsOf.at_ (reads_of_C (enc := Value.bool) (d := false) (h1 := fun _ => rfl) h) i h0 h1
variable {α : Type} {enc : α → Value} {h1 : ∀ x, (enc x).oneCell' = true} {e base g cap : Nat} {ok : Nat → Prop} {xs : List α}
theorem R_cell (d : α) (h : (scalar enc h1).R e W base ok (.slice (some ⟨g, 0, none⟩) xs.length cap) xs) (i : Int) (h0 : 0 ≤ i) (hi : i < xs.length) : W.cell? ⟨g, i.toNat, none⟩ = some (enc (rdOf d xs i)) ∧ W.frozen? ⟨g, i.toNat, none⟩ = false := own_at_of (own_of_R h) i h0 hi
theorem R_put (h : (scalar enc h1).R e W base ok (.slice (some ⟨g, 0, none⟩) xs.length cap) xs) (i : Int) (x : α) : (scalar enc h1).R e (W.setCell ⟨g, i.toNat, none⟩ (enc x)) base ok (.slice (some ⟨g, 0, none⟩) xs.length cap) (xs.set i.toNat x) ∧ W.grownBy (W.setCell ⟨g, i.toNat, none⟩ (enc x)) (some g) := by
 obtain ⟨ho, hg⟩ := own_store_of (own_of_R h) i x
 exact ⟨R_of_own (by rw [List.length_set]; exact ho) h.1, hg⟩
end
section
variable {P : Program} {ops : Array Oper} {rest : List Oper} {o : Oper} {a : Act} {Q : Exit → Act → World → Prop}
theorem event_run {W w1 : World} {v : Value} (hgd : o.guard = none) (hrun : (execOp a.eval o).run P W = .ok (.value v) w1) (h : wpList P ops Q rest (a.put o.dst v) w1) : wpList P ops Q (o :: rest) a W := by
 refine wpList_plain hgd fun K hK => ?_
 unfold Oper.wp
 rw [hrun]
 exact hK _ _ h
variable {α : Type}
theorem R_lit (d : Kd α) {w0 W : World} (base e : Nat) (hgd : o.guard = none) {N : Tmp} (_hd : o.dst = some N) {xs : List α} {inner : List Value} {ok okp : Nat → Prop}
  (hrun : (execOp a.eval o).run P W = .ok (.value (.slice (some ⟨W.heap.size, 0, none⟩) xs.length xs.length)) (W.alloc (.cells inner.toArray e)))
  (hrep : Reps (d.M W base okp) d.sz xs inner) (hok : ∀ k, okp k → ok k) (hfresh : ok W.heap.size) (HB : Below base w0 W) (hbase : base ≤ W.heap.size) (hm : xs.length ≤ 9223372036854775807)
  (h : ∀ v1 w1, d.R e w1 base ok v1 xs → Below base w0 w1 → W.grownBy w1 none → (∃ b, v1.ownBlock = some b ∧ W.heap.size ≤ b) → wpList P ops Q rest (a.put o.dst v1) w1) : wpList P ops Q (o :: rest) a W := by
 refine event_run hgd hrun (h _ _ ⟨fun k hk => ?_, inner, ?_, ?_⟩ (HB.alloc hbase _) (World.grownBy_alloc W _ none) ⟨W.heap.size, by simp [Value.ownBlock], Nat.le_refl _⟩)
 ·have : W.heap.size = k := by simpa [Value.ownBlock] using hk
  subst this
  exact hfresh
 ·have h2 := World.ownsRow_lit (base := base) (e := e) (size := d.sz) W inner.toArray xs.length hbase (by simpa [maxLen] using hm) (by simpa using hrep.1)
  simpa using h2
 ·refine hrep.imp_ (fun p c hp => d.M_mono (fun k hk => ⟨hok k hk.1, fun he => ?_⟩) (M_below (d.M_bound hp) (below_alloc (Below.refl _ _) _)))
  have h3 : k = W.heap.size := by simpa [Value.ownBlock] using he
  have := hk.2.2.1
  omega
theorem reps_made {α : Type} {R : α → List Value → Prop} {z : Value} {size : Nat} {z0 : α} (hz : z.cells.size = size) (hs : 0 < size) (h0 : R z0 z.cells.toList) (m : Nat) : Reps R size (List.replicate m z0) (madeCells z.cells (m * size)).toList := by
 refine ⟨by simp [size_madeCells], fun j p hj => ?_⟩
 obtain ⟨hjl, hp⟩ := List.getElem?_eq_some_iff.1 hj
 have hjm : j < m := by simpa using hjl
 have hp' : z0 = p := by simpa using hp
 subst hp'
 have hle : j * size + size ≤ m * size := by rw [← Nat.succ_mul]; exact Nat.mul_le_mul_right _ hjm
 have : ((madeCells z.cells (m * size)).toList.drop (j * size)).take size = z.cells.toList := by
  apply List.ext_getElem
  ·simp [size_madeCells, hz]
   omega
  ·intro i h1 h2
   have hi : i < size := by rw [Array.length_toList, hz] at h2; exact h2
   have hmod : (j * size + i) % size = i := by
    rw [Nat.mul_comm, Nat.mul_add_mod]
    exact Nat.mod_eq_of_lt hi
   simp [madeCells, hz, hmod]
   rw [getElem!_pos z.cells i (by omega)]
 rw [this]
 exact h0
theorem R_make (d : Kd α) {w0 W : World} (base e : Nat) (hgd : o.guard = none) {N : Tmp} (hd : o.dst = some N) (t : TypeId) (x y : Operand) (ho : o.op = .makeSlice t x y) (n : Int) (hx : a.eval x = .int .i64 n) (hy : a.eval y = .int .i64 n)
  (ht : P.underlying t = some (.slice e)) (z : Value) (bytes : Nat) (hinfo : (P.info? e).map (fun i => (i.zero, i.size, i.bytes)) = some (some z, d.sz, bytes)) (hz : z.cells.size = d.sz) (hs0 : 0 < d.sz) (hb0 : 0 < bytes)
  (z0 : α) {ok okp : Nat → Prop} (hzero : d.M W base okp z0 z.cells.toList) (hok : ∀ k, okp k → ok k) (hfresh : ok W.heap.size) (h0 : 0 ≤ n) (hl : n.toNat * bytes ≤ 281474976710656) (HB : Below base w0 W) (hbase : base ≤ W.heap.size)
  (h : ∀ v1 w1, d.R e w1 base ok v1 (List.replicate n.toNat z0) → Below base w0 w1 → W.grownBy w1 none → (∃ b, v1.ownBlock = some b ∧ W.heap.size ≤ b) → wpList P ops Q rest (a.put o.dst v1) w1) : wpList P ops Q (o :: rest) a W := by
 obtain ⟨m, rfl⟩ := Int.eq_ofNat_of_zero_le h0
 simp only [Int.toNat_natCast] at hl h
 obtain ⟨i0, hi, hzz⟩ := Option.map_eq_some_iff.1 hinfo
 simp only [Prod.mk.injEq] at hzz
 obtain ⟨hz0, hz1, hz2⟩ := hzz
 have hm : m ≤ 281474976710656 := Nat.le_trans (Nat.le_mul_of_pos_right _ hb0) hl
 have hr := run_make (P := P) W t e i0 z ht hi hz0 .i64 .i64 (m : Int) (m : Int) (by omega) (by omega)
  (by
   have h3 : ((i0.bytes * m : Nat) : Int) ≤ 281474976710656 := by rw [hz2, Nat.mul_comm]; omega
   rwa [Int.natCast_mul] at h3) (by omega)
 simp only [Int.toNat_natCast] at hr
 rw [hz1] at hr
 refine R_lit d base e hgd hd (xs := List.replicate m z0) (inner := (madeCells z.cells (m * d.sz)).toList) (okp := okp) (ok := ok) ?_ (reps_made hz hs0 hzero m) hok hfresh HB hbase (by simp; omega) h
 simp [execOp, ho, hx, hy, hr]
end
end Kd
theorem own_take {w : World} {base n m c size : Nat} {e : TypeId} {A : Option Addr} {xs : List Value} (h : w.ownsRow base e size (.slice A n c) n xs) (hm : m ≤ n) : w.ownsRow base e size (.slice A m c) m (xs.take (m * size)) := by
 obtain ⟨h1, h2⟩ := h
 refine ⟨by rw [List.length_take, h1]; exact Nat.min_eq_left (Nat.mul_le_mul_right _ hm), ?_⟩
 rcases h2 with ⟨he, h0⟩ | ⟨g, cap, cur, he, hb, hh, hnc, hcm, hcs, ht⟩
 ·injection he with ha _ hc
  subst ha; subst hc
  exact .inl ⟨by rw [show m = 0 by omega], by omega⟩
 ·injection he with ha _ hc
  subst ha; subst hc
  refine .inr ⟨g, c, cur, rfl, hb, hh, by omega, hcm, hcs, ?_⟩
  rw [← ht, List.take_take, Nat.min_eq_left (Nat.mul_le_mul_right _ hm)]
section
variable {P : Program}
end
def QRow (w : World) (base : Nat) (e : TypeId) (size : Nat) (v : Value) (n : Nat) (xs : List Value) : Prop :=
 xs.length = n * size ∧
 ((n = 0 ∧ ∃ A, v = .slice A 0 0 ∧ ∀ a, A = some a → base ≤ a.block ∧ ∃ cur, w.heap[a.block]? = some (.cells cur e (0, 0))) ∨
 ∃ g off cap cur, v = .slice (some ⟨g, off * size, none⟩) n cap ∧ base ≤ g ∧ w.heap[g]? = some (.cells cur e (0, 0)) ∧ n ≤ cap ∧ off + cap ≤ maxLen ∧ cur.size = (off + cap) * size ∧ (cur.toList.drop (off * size)).take (n * size) = xs)
section
variable {w w1 : World} {base n size : Nat} {e : TypeId} {v : Value} {xs : List Value}
theorem q_of_own (h : w.ownsRow base e size v n xs) : QRow w base e size v n xs := by
 obtain ⟨h1, h2⟩ := h
 refine ⟨h1, ?_⟩
 rcases h2 with ⟨rfl, h0⟩ | ⟨g, cap, cur, rfl, hb, hh, hnc, hcm, hcs, ht⟩
 ·exact .inl ⟨h0, none, rfl, fun a ha => by cases ha⟩
 ·exact .inr ⟨g, 0, cap, cur, by rw [Nat.zero_mul], hb, hh, hnc, by rw [Nat.zero_add]; exact hcm, by rw [Nat.zero_add]; exact hcs, by rw [Nat.zero_mul, List.drop_zero]; exact ht⟩
theorem setCells_far {g : Nat} : ∀ (vs : List Value) (o : Nat) {w : World} (k : Nat), k ≠ g → (w.setCells g o vs).heap[k]? = w.heap[k]?
 | [], _, _, _, _ => rfl
 | v :: r, o, w, k, hk => by
  rw [World.setCells, setCells_far r (o + 1) k hk]
  exact Below.heap_setCell w ⟨g, o, none⟩ v k hk
theorem setCells_same (g : Nat) : ∀ (vs : List Value) (o : Nat) (w : World), (w.setCells g o vs).os = w.os ∧ (w.setCells g o vs).tape = w.tape ∧ (w.setCells g o vs).output = w.output ∧ (w.setCells g o vs).heap.size = w.heap.size
 | [], _, _ => ⟨rfl, rfl, rfl, rfl⟩
 | v :: r, o, w => by
  obtain ⟨h1, h2, h3, h4⟩ := setCells_same g r (o + 1) (w.setCell ⟨g, o, none⟩ v)
  rw [World.setCells]
  exact ⟨h1, h2, h3, by rw [h4]; simp [World.setCell]⟩
theorem setCells_row {g : Nat} {e : TypeId} : ∀ (vs : List Value) (o : Nat) (w : World) (cur : Array Value), w.heap[g]? = some (.cells cur e (0, 0)) → o + vs.length ≤ cur.size →
  ∃ cur', (w.setCells g o vs).heap[g]? = some (.cells cur' e (0, 0)) ∧ cur'.size = cur.size ∧ cur'.toList = cur.toList.take o ++ vs ++ cur.toList.drop (o + vs.length)
 | [], o, w, cur, h, _ => ⟨cur, h, rfl, by simp⟩
 | v :: r, o, w, cur, h, hl => by
  have h2 := blk_set h o v
  simp only [List.length_cons] at hl
  obtain ⟨cur', h3, h4, h5⟩ := setCells_row r (o + 1) (w.setCell ⟨g, o, none⟩ v) _ h2 (by simp; omega)
  refine ⟨cur', h3, by rw [h4]; simp, ?_⟩
  rw [h5, Array.toList_setIfInBounds]
  have ho : o < cur.toList.length := by rw [Array.length_toList]; omega
  rw [List.take_set, List.drop_set_of_lt (by omega)]
  simp only [List.length_cons]
  rw [show o + 1 + r.length = o + (r.length + 1) by omega]
  congr 1
  rw [List.take_succ_eq_append_getElem ho, List.set_append_right _ _ (by rw [List.length_take]; omega)]
  have ho' : o < cur.size := by omega
  simp [Nat.min_eq_left (Nat.le_of_lt ho')]
end
section
variable {P : Program}
end
namespace Kd
theorem reps_take {α : Type} {R : α → List Value → Prop} {size m : Nat} {ps : List α} {cs : List Value} (h : Reps R size ps cs) (hm : m ≤ ps.length) : Reps R size (ps.take m) (cs.take (m * size)) := by
 refine ⟨by rw [List.length_take, List.length_take, h.1, Nat.min_eq_left hm, Nat.min_eq_left (Nat.mul_le_mul_right _ hm)], fun j p hj => ?_⟩
 rw [List.getElem?_take] at hj
 split at hj
 ·rename_i hjm
  have := h.2 j p hj
  have hle : j * size + size ≤ m * size := by rw [← Nat.succ_mul]; exact Nat.mul_le_mul_right _ hjm
  rw [List.drop_take, List.take_take, Nat.min_eq_left (by omega)]
  exact this
 ·cases hj
theorem reps_drop {α : Type} {R : α → List Value → Prop} {size m : Nat} {ps : List α} {cs : List Value} (h : Reps R size ps cs) : Reps R size (ps.drop m) (cs.drop (m * size)) := by
 refine ⟨by rw [List.length_drop, List.length_drop, h.1, Nat.sub_mul], fun j p hj => ?_⟩
 rw [List.getElem?_drop] at hj
 have := h.2 (m + j) p hj
 rw [List.drop_drop, ← Nat.add_mul]
 exact this
theorem R_take {α : Type} {d : Kd α} {e m n c : Nat} {w : World} {base : Nat} {ok : Nat → Prop} {A : Option Addr} {xs : List α} (h : d.R e w base ok (.slice A n c) xs) (hm : m ≤ xs.length) : d.R e w base ok (.slice A m c) (xs.take m) := by
 obtain ⟨h0, inner, ho, hr⟩ := h
 have hn : n = xs.length := by
  obtain ⟨A', c', he⟩ := own_slice ho
  injection he
 subst hn
 have hb : ∀ x y : Nat, (Value.slice A x c).ownBlock = (Value.slice A y c).ownBlock := by
  intro x y
  cases A <;> rfl
 refine ⟨fun k hk => h0 k (by rw [hb _ m]; exact hk), inner.take (m * d.sz), ?_, ?_⟩
 ·rw [List.length_take, Nat.min_eq_left hm]
  exact own_take ho hm
 ·rw [hb m xs.length]
  exact reps_take hr hm
def Q {α : Type} (d : Kd α) (e : Nat) (w : World) (base : Nat) (ok : Nat → Prop) (v : Value) (xs : List α) : Prop :=
 (∀ k, v.ownBlock = some k → ok k) ∧ ∃ inner, QRow w base e d.sz v xs.length inner ∧ Reps (d.M w base (fun k => ok k ∧ some k ≠ v.ownBlock)) d.sz xs inner
section
variable {α : Type} {d : Kd α} {e : Nat} {w w1 W : World} {base : Nat} {ok ok' : Nat → Prop} {v : Value} {xs : List α}
theorem Q_of_R (h : d.R e w base ok v xs) : d.Q e w base ok v xs := by
 obtain ⟨h0, inner, ho, hr⟩ := h
 exact ⟨h0, inner, q_of_own ho, hr⟩
theorem Q_nil (d : Kd α) (e : Nat) (w : World) (base : Nat) (ok : Nat → Prop) : d.Q e w base ok (.slice none 0 0) [] := Q_of_R (R_nil d e w base ok)
end
section
variable {P : Program} {ops : Array Oper} {rest : List Oper} {o : Oper} {a : Act} {Q' : Exit → Act → World → Prop} {Kc : Act → World → Prop} {α : Type}
end
end Kd
namespace Kd
section
variable {α : Type} {d : Kd α} {e e' : Nat} {w w1 W : World} {base : Nat} {ok : Nat → Prop} {u v : Value} {xs : List α}
theorem R_typed (h : d.R e w base ok v xs) : ∀ k, v.ownBlock = some k → ∃ cells, w.heap[k]? = some (.cells cells e (0, 0)) := by
 obtain ⟨inner, ho⟩ := R_own h
 exact fun k hk => own_typed ho k hk
theorem R_over' (h : d.R e W base ok u xs) (hty : ∀ k, v.ownBlock = some k → ∃ cells, W.heap[k]? = some (.cells cells e' (0, 0))) (ht : ∀ q, q ∈ e :: d.E → q ≠ e') (hg : W.grownBy w1 v.ownBlock) : d.R e w1 base ok u xs := by
 refine R_mono (R_move (R_bound h) (fun k hk => hg.block k hk.2.2.1 (fun he => ?_))) (fun _ hk => hk.1)
 obtain ⟨_, _, _, q, hq, cells, hc⟩ := hk
 obtain ⟨cells', hc'⟩ := hty k he.symm
 rw [hc] at hc'
 injection hc' with hc'
 injection hc' with _ hc'
 exact ht q hq hc'
theorem R_elder' (hu : d.R e W base ok u xs) (hbase : ∀ k, v.ownBlock = some k → W.heap.size ≤ k) (hb : Below W.heap.size W w1) : d.R e w1 base (fun k => ok k ∧ some k ≠ v.ownBlock) u xs :=
 R_mono (R_move (R_bound hu) (fun k hk => hb.block k hk.2.2.1)) (fun k hk => ⟨hk.1, fun he => by have := hbase k he.symm; have := hk.2.2.1; omega⟩)
theorem R_new' (h : d.R e w1 W.heap.size ok v xs) (hlt : ∀ k, u.ownBlock = some k → k < W.heap.size) : d.R e w1 W.heap.size (fun k => ok k ∧ some k ≠ u.ownBlock) v xs :=
 R_mono (R_bound h) (fun k hk => ⟨hk.1, fun he => by have := hlt k he.symm; have := hk.2.1; omega⟩)
theorem fresh' (hlt : ∀ k, u.ownBlock = some k → k < W.heap.size) : ∀ k, W.heap.size ≤ k → some k ≠ u.ownBlock := fun k hk he => by have := hlt k he.symm; omega
end
end Kd
theorem seg_get {α : Type} (a seg : List α) (o : Nat) (h : o + seg.length ≤ a.length) (q : Nat) :
  (a.take o ++ seg ++ a.drop (o + seg.length))[q]? = if q < o then a[q]? else if q < o + seg.length then seg[q - o]? else a[q]? := by
 have hl : (a.take o).length = o := by rw [List.length_take]; omega
 rw [List.append_assoc]
 by_cases h1 : q < o
 ·rw [if_pos h1, List.getElem?_append_left (by omega), List.getElem?_take, if_pos h1]
 ·rw [if_neg h1, List.getElem?_append_right (by omega), hl]
  by_cases h2 : q < o + seg.length
  ·rw [if_pos h2, List.getElem?_append_left (by omega)]
  ·rw [if_neg h2, List.getElem?_append_right (by omega), List.getElem?_drop]
   congr 1
   omega
namespace Kd
section
variable {α : Type} {d : Kd α} {e base g n cap : Nat} {ok okp : Nat → Prop} {W : World} {xs : List α}
theorem R_elem (h : d.R e W base ok (.slice (some ⟨g, 0, none⟩) n cap) xs) (z : α) (i : Int) (h0 : 0 ≤ i) (h1 : i < n) :
  ∃ c, c.length = d.sz ∧ d.M W base (fun k => ok k ∧ k ≠ g) (xs.getD i.toNat z) c ∧ (∀ j u, c[j]? = some u → W.cell? ⟨g, i.toNat * d.sz + j, none⟩ = some u) ∧ ∀ j, W.frozen? ⟨g, i.toNat * d.sz + j, none⟩ = false := by
 obtain ⟨hn, hnc, hC⟩ := R_reads' h
 obtain ⟨_, inner, ho, hr⟩ := h
 have hil : i.toNat < xs.length := by omega
 have hseg : i.toNat * d.sz + d.sz ≤ inner.length := by rw [hr.1, ← Nat.succ_mul]; exact Nat.mul_le_mul_right _ hil
 have hM := hr.2 i.toNat _ (List.getElem?_eq_getElem hil)
 refine ⟨(inner.drop (i.toNat * d.sz)).take d.sz, by rw [List.length_take, List.length_drop]; omega, ?_, fun j u hu => ?_, fun j => ?_⟩
 ·rw [List.getD_eq_getElem?_getD, List.getElem?_eq_getElem hil]
  exact d.M_mono (fun k hk => ⟨hk.1, fun he => hk.2 (by rw [he]; simp [Value.ownBlock])⟩) hM
 ·rw [List.getElem?_take] at hu
  split at hu
  ·rw [List.getElem?_drop] at hu
   have := ho.cells (g := g) (by simp [Value.ownBlock]) _ u hu
   rwa [add_plain] at this
  ·cases hu
 ·obtain ⟨cells, hc⟩ := own_typed ho g (by simp [Value.ownBlock])
  exact blk_frozen hc _
theorem R_seg (h : d.R e W base ok (.slice (some ⟨g, 0, none⟩) n cap) xs) (i : Int) (h0 : 0 ≤ i) (h1 : i < n) {c seg : List Value} {j : Nat} (hcl : c.length = d.sz) (hcc : ∀ j u, c[j]? = some u → W.cell? ⟨g, i.toNat * d.sz + j, none⟩ = some u)
  (hj : j + seg.length ≤ d.sz) {x' : α} (hM : d.M W base okp x' (c.take j ++ seg ++ c.drop (j + seg.length))) (hokp : ∀ k, okp k → ok k ∧ k ≠ g) :
  d.R e (W.setCells g (i.toNat * d.sz + j) seg) base ok (.slice (some ⟨g, 0, none⟩) n cap) (xs.set i.toNat x') ∧ W.grownBy (W.setCells g (i.toNat * d.sz + j) seg) (some g) := by
 obtain ⟨hn, hnc, _⟩ := R_reads' h
 obtain ⟨hok, inner, ho, hr⟩ := h
 have hil : i.toNat < xs.length := by omega
 have hseg : i.toNat * d.sz + d.sz ≤ inner.length := by rw [hr.1, ← Nat.succ_mul]; exact Nat.mul_le_mul_right _ hil
 have hin : inner.length = n * d.sz := by rw [hr.1, hn]
 obtain ⟨ho1, ho2⟩ := ho
 rcases ho2 with ⟨hv, _⟩ | ⟨g', cap', cur, hv, hb, hh, hnc', hcm, hcs, ht⟩
 ·cases hv
 injection hv with ha _ hc
 injection ha with ha
 injection ha with hg
 subst hg; subst hc
 have hfit : i.toNat * d.sz + j + seg.length ≤ cur.size := by
  have : n * d.sz ≤ cap * d.sz := Nat.mul_le_mul_right _ hnc
  omega
 obtain ⟨cur', h3, h4, h5⟩ := setCells_row seg (i.toNat * d.sz + j) W cur hh hfit
 obtain ⟨s1, s2, s3, s4⟩ := setCells_same g seg (i.toNat * d.sz + j) W
 have hfar : ∀ k, k ≠ g → (W.setCells g (i.toNat * d.sz + j) seg).heap[k]? = W.heap[k]? := fun k hk => setCells_far seg _ k hk
 have hcin : ∀ q, q < d.sz → c[q]? = inner[i.toNat * d.sz + q]? := by
  intro q hq
  have hq' : q < c.length := by omega
  have h6 := hcc q _ (List.getElem?_eq_getElem hq')
  rw [cell_of_row W g _ cur e (0, 0) hh] at h6
  rw [List.getElem?_eq_getElem hq', ← h6, ← ht, List.getElem?_take, if_pos (by rw [← hn]; omega), Array.getElem?_toList]
 refine ⟨⟨hok, inner.take (i.toNat * d.sz + j) ++ seg ++ inner.drop (i.toNat * d.sz + j + seg.length), ⟨?_, .inr ⟨g, cap, cur', by rw [List.length_set, hn], hb, h3, by rw [List.length_set, ← hn]; exact hnc, hcm, by rw [h4, hcs], ?_⟩⟩, ?_⟩,
  ⟨s1, s2, s3, by rw [s4]; exact Nat.le_refl _, fun k _ hk => hfar k (fun he => hk (by rw [he]))⟩⟩
 ·rw [List.length_set]
  simp only [List.length_append, List.length_take, List.length_drop]
  rw [hr.1] at hseg ⊢
  omega
 ·rw [List.length_set, ← hn]
  apply List.ext_getElem?
  intro q
  rw [List.getElem?_take, h5]
  rw [seg_get cur.toList seg (i.toNat * d.sz + j) (by rw [Array.length_toList]; omega) q, seg_get inner seg (i.toNat * d.sz + j) (by omega) q]
  have hcur : ∀ q, q < n * d.sz → cur.toList[q]? = inner[q]? := by
   intro q hq
   rw [← ht, List.getElem?_take, if_pos (by rw [← hn]; exact hq)]
  by_cases hq : q < n * d.sz
  ·rw [if_pos hq, hcur q hq]
  ·rw [if_neg hq, if_neg (by omega), if_neg (by omega), List.getElem?_eq_none (by omega)]
 ·refine ⟨?_, fun m p hm => ?_⟩
  ·rw [List.length_set]
   simp only [List.length_append, List.length_take, List.length_drop]
   rw [hr.1] at hseg ⊢
   omega
  ·have hml : m < xs.length := by
    have := (List.getElem?_eq_some_iff.1 hm).1
    rwa [List.length_set] at this
   have hmfit : m * d.sz + d.sz ≤ inner.length := by rw [hr.1, ← Nat.succ_mul]; exact Nat.mul_le_mul_right _ hml
   have hgo : some g = (Value.slice (some ⟨g, 0, none⟩) n cap).ownBlock := by simp [Value.ownBlock]
   by_cases hmi : m = i.toNat
   ·subst hmi
    rw [List.getElem?_set_self (by omega)] at hm
    injection hm with hm
    subst hm
    have hcells : ((inner.take (i.toNat * d.sz + j) ++ seg ++ inner.drop (i.toNat * d.sz + j + seg.length)).drop (i.toNat * d.sz)).take d.sz = c.take j ++ seg ++ c.drop (j + seg.length) := by
     apply List.ext_getElem?
     intro q
     rw [List.getElem?_take, List.getElem?_drop, seg_get inner seg _ (by omega), seg_get c seg j (by omega) q]
     by_cases hq : q < d.sz
     ·rw [if_pos hq, hcin q hq]
      by_cases hq1 : q < j
      ·rw [if_pos (by omega), if_pos hq1]
      ·rw [if_neg (by omega), if_neg hq1]
       by_cases hq2 : q < j + seg.length
       ·rw [if_pos (by omega), if_pos hq2]
        congr 1
        omega
       ·rw [if_neg (by omega), if_neg hq2]
     ·rw [if_neg hq, if_neg (by omega), if_neg (by omega), List.getElem?_eq_none (by omega)]
    rw [hcells]
    refine d.M_mono (fun k hk => ?_) (d.M_move (w1 := W.setCells g (i.toNat * d.sz + j) seg) (fun k hk => hfar k (hokp k hk).2) hM)
    exact ⟨(hokp k hk).1, fun he => (hokp k hk).2 (by rw [← hgo] at he; injection he)⟩
   ·rw [List.getElem?_set_ne (by omega)] at hm
    have hold := hr.2 m p hm
    have hcells : ((inner.take (i.toNat * d.sz + j) ++ seg ++ inner.drop (i.toNat * d.sz + j + seg.length)).drop (m * d.sz)).take d.sz = (inner.drop (m * d.sz)).take d.sz := by
     apply List.ext_getElem?
     intro q
     rw [List.getElem?_take, List.getElem?_take, List.getElem?_drop, List.getElem?_drop, seg_get inner seg _ (by omega)]
     by_cases hq : q < d.sz
     ·rw [if_pos hq, if_pos hq]
      rcases Nat.lt_or_gt_of_ne hmi with hlt | hgt
      ·have : m * d.sz + d.sz ≤ i.toNat * d.sz := by rw [← Nat.succ_mul]; exact Nat.mul_le_mul_right _ hlt
       rw [if_pos (by omega)]
      ·have : i.toNat * d.sz + d.sz ≤ m * d.sz := by rw [← Nat.succ_mul]; exact Nat.mul_le_mul_right _ hgt
       rw [if_neg (by omega), if_neg (by omega)]
     ·rw [if_neg hq, if_neg hq]
    rw [hcells]
    refine d.M_move (fun k hk => hfar k (fun he => hk.2 (by rw [he]; exact hgo))) hold
end
end Kd
namespace Kd
section
variable {α : Type} {F : Kd α → Kd α} {sz : Nat} {E : List Nat} {hs : ∀ n, (upto F sz E n).sz = sz} {hE : ∀ n q, q ∈ (upto F sz E n).E → q ∈ E}
end
end Kd
namespace Kd
theorem reps_append {α : Type} {R : α → List Value → Prop} {size : Nat} {ps qs : List α} {cs ds : List Value} (h : Reps R size ps cs) (h' : Reps R size qs ds) : Reps R size (ps ++ qs) (cs ++ ds) := by
 refine ⟨by rw [List.length_append, List.length_append, h.1, h'.1, Nat.add_mul], fun j p hj => ?_⟩
 rcases Nat.lt_or_ge j ps.length with hlt | hge
 ·rw [List.getElem?_append_left hlt] at hj
  have hle : j * size + size ≤ cs.length := by rw [h.1, ← Nat.succ_mul]; exact Nat.mul_le_mul_right _ hlt
  rw [List.drop_append_of_le_length (by omega), List.take_append_of_le_length (by rw [List.length_drop]; omega)]
  exact h.2 j p hj
 ·rw [List.getElem?_append_right hge] at hj
  have h2 := h'.2 (j - ps.length) p hj
  have hle : ps.length * size ≤ j * size := Nat.mul_le_mul_right _ hge
  rw [List.drop_append, List.drop_eq_nil_of_le (by rw [h.1]; exact hle), List.nil_append, h.1, ← Nat.sub_mul]
  exact h2
section
variable {P : Program} {ops : Array Oper} {rest : List Oper} {o : Oper} {a : Act} {Q : Exit → Act → World → Prop} {α : Type}
theorem R_append_rows (d : Kd α) {Rr : α → List Value → Prop} {w0 W : World} (base : Nat) (hgd : o.guard = none) (s x : Operand) (t e : TypeId) (z : Value) (bytes : Nat)
  (ho : o.op = .call { callee := .builtin .append, args := #[s, x], argTypes := #[t, t] })
  (ht : P.underlying t = some (.slice e)) (hinfo : (P.info? e).map (fun i => (i.zero, i.size, i.bytes)) = some (some z, d.sz, bytes)) (hz : z.cells.size = d.sz) (hs0 : 0 < d.sz) (hb0 : 0 < bytes)
  (v : Value) (xs ys : List α) (A : Option Addr) (m c : Nat) (ok okp : Nat → Prop) (hs : a.eval s = v) (hx : a.eval x = .slice A m c)
  (HO : d.R e W base ok v xs) (HR : ReadsRow Rr d.sz W A m ys) (hKM : ∀ x cs, Rr x cs → d.M W base okp x cs) (hokp : ∀ k, okp k → ok k ∧ some k ≠ v.ownBlock) (hfresh : ∀ k, W.heap.size ≤ k → ok k)
  (HB : Below base w0 W) (hbase : base ≤ W.heap.size) (hl : (xs.length + m) * bytes ≤ 140737488355328)
  (h : ∀ v1 w1, d.R e w1 base ok v1 (xs ++ ys) → Below base w0 w1 → W.grownBy w1 v.ownBlock → (v1.ownBlock = v.ownBlock ∨ ∃ b, v1.ownBlock = some b ∧ W.heap.size ≤ b) → wpList P ops Q rest (a.put o.dst v1) w1) :
  wpList P ops Q (o :: rest) a W := by
 obtain ⟨i0, hi, hzz⟩ := Option.map_eq_some_iff.1 hinfo
 simp only [Prod.mk.injEq] at hzz
 obtain ⟨hz0, hz1, hz2⟩ := hzz
 have hm : ys.length = m := HR.1
 have hlen : xs.length + m ≤ 140737488355328 := Nat.le_trans (Nat.le_mul_of_pos_right _ hb0) hl
 obtain ⟨hok, inner, hown, hr⟩ := HO
 have hrun : ∃ v1 w1, (Builtin.append_ #[t, t] o.type #[v, .slice A m c]).run P W = .ok v1 w1 ∧ d.R e w1 base ok v1 (xs ++ ys) ∧ W.grownBy w1 v.ownBlock ∧ (v1.ownBlock = v.ownBlock ∨ ∃ b, v1.ownBlock = some b ∧ W.heap.size ≤ b) := by
  rcases A with _ | ad
  ·have h0 : m = 0 := by
    rcases Nat.eq_zero_or_pos m with h0 | h0
    ·exact h0
    ·obtain ⟨ad, h, _⟩ := HR.2.2 h0
     cases h
   subst h0
   obtain rfl : ys = [] := List.eq_nil_of_length_eq_zero hm
   refine ⟨v, W, ?_, by rw [List.append_nil]; exact ⟨hok, inner, hown, hr⟩, World.grownBy.refl W _, .inl rfl⟩
   rcases hown.2 with ⟨rfl, hn⟩ | ⟨g, cap, cur, rfl, _, _, hnc, _⟩
   ·simp [Builtin.append_, run_underlying ht, sizeOf, typeInfo, hi, Builtin.lenOf, Builtin.firstCells]
   ·simp [Builtin.append_, run_underlying ht, sizeOf, typeInfo, hi, Builtin.lenOf, Builtin.firstCells, hnc, storeCells]
  ·obtain ⟨news, hnr, hnc⟩ := ReadsRow.inner_ HR
   have hnM : Reps (d.M W base okp) d.sz ys news := hnr.imp_ (fun p c hp => hKM p c hp)
   have hone : ∀ u ∈ news, u.oneCell' = true := by
    intro u hu
    obtain ⟨q, hq, rfl⟩ := List.mem_iff_getElem.1 hu
    have hql : q / d.sz < ys.length := by
     rw [Nat.div_lt_iff_lt_mul hs0]
     rw [← hnM.1]
     exact hq
    have hc := hnM.2 (q / d.sz) _ (List.getElem?_eq_getElem hql)
    refine d.K_one (d.K_of_M hc) _ ?_
    rw [List.mem_iff_getElem?]
    refine ⟨q % d.sz, ?_⟩
    rw [List.getElem?_take, if_pos (Nat.mod_lt _ hs0), List.getElem?_drop, Nat.mul_comm, Nat.div_add_mod, List.getElem?_eq_getElem hq]
   obtain ⟨v1, w1, hrun, h2, hg, _, hat⟩ := run_append_own_at (P := P) W base t o.type e i0 z d.sz bytes ht hi hz0 hz1 hz2 hz hs0 v xs.length inner hown ad m c news (by rw [hnM.1, hm]) hnc hone (by simp only [maxLen]; omega) hl hbase
   have hat' : v1.ownBlock = v.ownBlock ∨ ∃ b, v1.ownBlock = some b ∧ W.heap.size ≤ b := by
    rcases hat with hat | hat
    ·exact .inl hat
    ·exact .inr ⟨_, hat, Nat.le_refl _⟩
   have hne : ∀ k, some k ≠ v.ownBlock → k < W.heap.size → some k ≠ v1.ownBlock := by
    intro k hk hlt
    rcases hat' with hat | ⟨b, hb, hle⟩
    ·rw [hat]; exact hk
    ·rw [hb]
     intro he
     injection he with he
     omega
   have step : ∀ {q : α} {c : List Value} {o : Nat → Prop}, d.M W base o q c → (∀ k, o k → ok k ∧ some k ≠ v.ownBlock) → d.M w1 base (fun k => ok k ∧ some k ≠ v1.ownBlock) q c := by
    intro q c o hq ho
    have h1 := d.M_move (w1 := w1) (fun k hk => hg.block k hk.2.2.1 (ho k hk.1).2) (d.M_bound hq)
    exact d.M_mono (fun k hk => ⟨(ho k hk.1).1, hne k (ho k hk.1).2 hk.2.2.1⟩) h1
   refine ⟨v1, w1, hrun, ⟨fun k hk => ?_, inner ++ news, by rw [List.length_append, hm]; exact h2, reps_append (hr.imp_ (fun _ _ hq => step hq (fun _ hk => hk))) (hnM.imp_ (fun _ _ hq => step hq hokp))⟩, hg, hat'⟩
   rcases hat' with hat | ⟨b, hb, hle⟩
   ·exact hok k (hat ▸ hk)
   ·rw [hb] at hk
    injection hk with hk
    exact hfresh k (by omega)
 obtain ⟨v1, w1, hr1, h1, hg, hat⟩ := hrun
 refine wpList_plain hgd fun K hK => ?_
 unfold Oper.wp execOp
 simp only [ho, resolve, invoke, builtin, Sem.run_bind, Sem.run_pure, Result.andThen_ok, List.map_toArray, List.map_cons, List.map_nil, hs, hx, hr1]
 exact hK _ _ (h v1 w1 h1 (HB.grown hg hbase (own_base hown)) hg hat)
end
end Kd
namespace Kd
section
variable {P : Program} {ops : Array Oper} {rest : List Oper} {o : Oper} {a : Act} {Q : Exit → Act → World → Prop} {α : Type}
end
end Kd
theorem add_add (a : Addr) (i j : Nat) : (a.add i).add j = a.add (i + j) := by
 unfold Addr.add
 by_cases h1 : i = 0 <;> by_cases h2 : j = 0 <;> simp [h1, h2, Nat.add_assoc]
namespace Kd
section
variable {α : Type} {k : Kd α} {w : World} {A : Option Addr} {xs : List α} {m c : Nat}
end
end Kd
section
variable {P : Program}
end
theorem below_size {w W : World} (h : Below w.heap.size w W) : w.heap.size ≤ W.heap.size := h.size
theorem below_step {w W w2 : World} (h : Below w.heap.size w W) (k : Below W.heap.size W w2) : Below w.heap.size w w2 := below_then h h.size k
theorem below_set {w W : World} {g j : Nat} {v : Value} (h : Below w.heap.size w W) (hg : w.heap.size ≤ g) : Below w.heap.size w (W.setCell ⟨g, j, none⟩ v) := h.setCell hg _
theorem keep_cell {w W : World} {g : Nat} (h : KeepBut w W g none) {a : Addr} {v : Value} (hc : w.cell? a = some v) (hne : a.block ≠ g) : W.cell? a = some v := by
 have := h.2 a.block (World.block_lt_of_cell? w a hc) hne (by simp)
 simpa [World.cell?, this] using hc
theorem add_block (a : Addr) (i : Nat) : (a.add i).block = a.block := by unfold Addr.add; split <;> rfl
theorem ReadsOf.drewN {α : Type} {enc : α → Value} {d : α} {W : World} {A : Option Addr} {n : Nat} {xs : List α} (h : ReadsOf enc d W A n xs) (m : Nat) : ReadsOf enc d (W.drewN m) A n xs := h
theorem ReadsOf.keep {α : Type} {enc : α → Value} {d : α} {w W : World} {A : Option Addr} {n g : Nat} {xs : List α} (h : ReadsOf enc d w A n xs) (hk : KeepBut w W g none) (hf : ∀ ad, A = some ad → 0 < n → ad.block ≠ g) : ReadsOf enc d W A n xs :=
 ⟨h.1, h.2.1, fun hn => by
  obtain ⟨ad, e, hc⟩ := h.2.2 hn
  exact ⟨ad, e, fun j hj => keep_cell hk (hc j hj) (by rw [add_block]; exact hf ad e hn)⟩⟩
theorem blk_put {w : World} {g : Nat} {t : TypeId} {cs cs' : Array Value} (h : w.heap[g]? = some (.cells cs t (0, 0))) (i : Nat) (u : Value) (e : cs.setIfInBounds i u = cs') : (w.setCell ⟨g, i, none⟩ u).heap[g]? = some (.cells cs' t (0, 0)) := e ▸ blk_set h i u
theorem below_drew1 {base : Nat} {w W : World} (h : Below base w W) : Below base w W.drew := h.drew
namespace Kd
section
variable {α β : Type} {d : Kd α} {d' : Kd β} {e e' base base' n : Nat} {ok ok' : Nat → Prop} {w W w1 W1 : World} {v u : Value} {xs : List α} {ys : List β} {A : Option Addr} {c : Nat}
end
section
variable {α : Type} {enc : α → Value} {h1 : ∀ x, (enc x).oneCell' = true} {w W : World} {A : Option Addr} {n g : Nat} {xs : List α}
end
end Kd
namespace Kd
section
variable {α : Type} {d : Kd α} {e base g : Nat} {ok : Nat → Prop} {w w1 : World} {v : Value} {xs : List α} {o : Obj}
end
end Kd
section
variable {P : Program} {ops : Array Oper} {rest : List Oper} {o : Oper} {a : Act} {Q : Exit → Act → World → Prop}
theorem box_event {W : World} (hgd : o.guard = none) {N : Tmp} (_hd : o.dst = some N) {cs : Array Value} {t : TypeId}
  (hrun : (execOp a.eval o).run P W = .ok (.value (.pointer (some ⟨W.heap.size, 0, none⟩))) (W.alloc (.cells cs t (0, 0))))
  (h : ∀ g, g = W.heap.size → ∀ w1, w1.heap[g]? = some (.cells cs t (0, 0)) → Below W.heap.size W w1 → wpList P ops Q rest (a.put o.dst (.pointer (some ⟨g, 0, none⟩))) w1) : wpList P ops Q (o :: rest) a W :=
 Kd.event_run hgd hrun (h _ rfl _ (blk_new W _) (below_alloc (Below.refl _ _) _))
end
namespace Kd
section
variable {α : Type} {enc : α → Value} {h1 : ∀ x, (enc x).oneCell' = true} {e base g n cap : Nat} {ok : Nat → Prop} {W : World} {xs : List α}
theorem R_celln (d : α) (h : (scalar enc h1).R e W base ok (.slice (some ⟨g, 0, none⟩) n cap) xs) (i : Int) (h0 : 0 ≤ i) (hi : i < n) : W.cell? ⟨g, i.toNat, none⟩ = some (enc (rdOf d xs i)) ∧ W.frozen? ⟨g, i.toNat, none⟩ = false := by
 obtain ⟨rfl, _⟩ := R_reads' h
 exact R_cell d h i h0 hi
end
end Kd
section
variable {P : Program} {ops : Array Oper} {rest : List Oper} {o : Oper} {a : Act} {Q : Exit → Act → World → Prop}
theorem store_event {W w1 : World} (hgd : o.guard = none) {t : TypeId} {p : Tmp} {v : Operand} (_ho : o.op = .store t (.tmp p) v) (hN : o.dst = none)
  (hrun : (execOp a.eval o).run P W = .ok .skip w1) (h : ∀ w', w' = w1 → wpList P ops Q rest a w') : wpList P ops Q (o :: rest) a W := by
 refine wpList_plain hgd fun K hK => ?_
 unfold Oper.wp
 rw [hrun]
 show K (a.put o.dst undef) w1
 rw [hN]
 exact hK _ _ (h _ rfl)
end
namespace Kd
section
variable {α : Type} {enc : α → Value} {h1 : ∀ x, (enc x).oneCell' = true} {e base g n cap : Nat} {ok : Nat → Prop} {W : World} {xs : List α}
theorem R_putg (h : (scalar enc h1).R e W base ok (.slice (some ⟨g, 0, none⟩) n cap) xs) (i : Int) (x : α) : (scalar enc h1).R e (W.setCell ⟨g, i.toNat, none⟩ (enc x)) base ok (.slice (some ⟨g, 0, none⟩) n cap) (xs.set i.toNat x) ∧ W.grownBy (W.setCell ⟨g, i.toNat, none⟩ (enc x)) (some g) := by
 obtain ⟨rfl, _⟩ := R_reads' h
 exact R_put h i x
end
end Kd
section
variable {P : Program} {ops : Array Oper} {rest : List Oper} {o : Oper} {a : Act} {Q : Exit → Act → World → Prop} {W : World}
theorem gate_dst {N : Tmp} (_hN : o.dst = some N) (h : wpList P ops Q (o :: rest) a W) : wpList P ops Q (o :: rest) a W := h
theorem gate_store {t : TypeId} {p : Tmp} {v : Operand} (_ho : o.op = .store t (.tmp p) v) (h : wpList P ops Q (o :: rest) a W) : wpList P ops Q (o :: rest) a W := h
end
section
variable {P : Program} {ops : Array Oper} {o : Oper} {a : Act} {Q : Exit → Act → World → Prop} {Kc : Act → World → Prop}
namespace Kd
variable {α : Type}
end Kd
end
section
variable {P : Program} {tmps : Array Value} {w : World}
end
namespace Kd
section
variable {P : Program} {α : Type}
end
section
variable {P : Program} {ops : Array Oper} {rest : List Oper} {o : Oper} {a : Act} {Q : Exit → Act → World → Prop} {Kc : Act → World → Prop} {α : Type}
end
end Kd
end Go.Proofs.YtfbbfnadmnejeaaW.PrintWords
namespace Go.Proofs.YtfbbfnadmnejeaaW.PrintLast
section
variable {P : Program} {ops : Array Oper} {Q : Exit → Act → World → Prop} {md : Region.Mode} {S : World → Prop} {ds : List Nat}
end
section
variable {P : Program} {ops : Array Oper} {Q : Exit → Act → World → Prop} {md : Region.Mode} {S : World → Prop} {ds : List Nat}
theorem enters_ {f : FuncId} {fn : Func} (hf : P.funcs[f]? = some fn) (hname : (fn.name == "runtime.NumGoroutine") = false) (hb : fn.body.isSome = true) (args : Array Value) (w : World) : (callFunc f args).run P w = .ok (.enter f args) w := by
 have h1 : fn.name ≠ "runtime.NumGoroutine" := by simpa using hname
 obtain ⟨c, hc⟩ := Option.isSome_iff_exists.1 hb
 simp [callFunc, hf, h1, hc]
theorem goesL_ {rest : List Oper} {oi : Oper} {a : Act} {w : World} (N : Option Tmp) (hd : oi.dst = N) (hg : oi.guard = none) {f : FuncId} {fn : Func} {as_ : Array Operand} {ts : Array TypeId} (hf : P.funcs[f]? = some fn) (hname : (fn.name == "runtime.NumGoroutine") = false) (hb : fn.body.isSome = true) (args : Array Value)
  (hop : oi.op = .call { callee := .value (.func f), args := as_, argTypes := ts }) (hargs : as_.map a.eval = args)
  (h : Calls P f args w fun e w' => ∃ v, e = .returned v ∧ wpList P ops Q rest (a.put N v) w') : wpList P ops Q (oi :: rest) a w := by
 refine wpList_plain hg fun K hK => ?_
 have he := enters_ hf hname hb args w
 have hrun : (execOp a.eval oi).run P w = .ok (.enter f args) w := by
  unfold execOp
  simp [hop, resolve, Deferred.ofValue, invoke, Act.eval, hargs, he]
 unfold Oper.wp
 rw [hrun, Oper.upon_enter]
 refine h.mono fun e w'' hh => ?_
 obtain ⟨v, rfl, hk⟩ := hh
 subst hd
 exact hK _ _ hk
theorem i64_w (n : Int) : IntKind.i64.wrap n = Go.RowKit.wrap64 n := by unfold Go.RowKit.wrap64; exact IntKind.wrap_i64 n
theorem i32_w (n : Int) : IntKind.i32.wrap n = Go.RowKit.wrap32 n := by unfold Go.RowKit.wrap32; exact IntKind.wrap_i32 n
end
end Go.Proofs.YtfbbfnadmnejeaaW.PrintLast
namespace Go.Proofs.YtfbbfnadmnejeaaW.PrintWords
open Go.RowKit
namespace Kd
def tag {α : Type} (f : Nat → Nat) (d : Kd α) : Kd (α × Nat) where
 sz := d.sz
 E := d.E
 K := fun w x cs => d.K w x.1 cs
 M := fun w base ok x cs => d.M w base (fun k => ok k ∧ f k = x.2) x.1 cs
 K_len := fun h => d.K_len h
 K_one := fun h => d.K_one h
 K_below := fun hb h => d.K_below hb h
 K_of_M := fun h => d.K_of_M h
 M_mono := fun hok h => d.M_mono (fun k hk => ⟨hok k hk.1, hk.2⟩) h
 M_bound := fun h => d.M_mono (fun _ hk => ⟨⟨hk.1.1, hk.2⟩, hk.1.2⟩) (d.M_bound h)
 M_move := fun hm h => d.M_move (fun k hk => hm k hk.1) h
 M_lower := fun hb h => d.M_lower hb h
def raw (sz : Nat) : Kd (List Value) where
 sz := sz
 E := []
 K := fun _ x cs => cs = x ∧ cs.length = sz ∧ ∀ u ∈ cs, u.oneCell' = true
 M := fun _ _ _ x cs => cs = x ∧ cs.length = sz ∧ ∀ u ∈ cs, u.oneCell' = true
 K_len := fun h => h.2.1
 K_one := fun h => h.2.2
 K_below := fun _ h => h
 K_of_M := fun h => h
 M_mono := fun _ h => h
 M_bound := fun h => h
 M_move := fun _ h => h
 M_lower := fun _ h => h
def S {α : Type} (d : Kd α) (e : Nat) (w : World) (base : Nat) (ok : Nat → Prop) (v : Value) (xs : List α) : Prop := ∃ f, (tag f d).R e w base ok v xs.zipIdx
section
variable {α β : Type} {d : Kd α} {d' : Kd β} {e e' : Nat} {w w1 W : World} {base b : Nat} {ok ok' okv oku : Nat → Prop} {u v : Value} {xs : List α} {ys : List β}
theorem R_tight (hE : d.E = []) (h : d.R e w base ok v xs) : d.R e w base (fun k => some k = v.ownBlock) v xs := by
 obtain ⟨h0, inner, ho, hr⟩ := h
 refine ⟨fun k hk => hk.symm, inner, ho, hr.imp_ (fun p c hp => d.M_mono (fun k hk => ?_) (d.M_bound hp))⟩
 obtain ⟨_, _, _, q, hq, _⟩ := hk
 rw [hE] at hq
 cases hq
theorem S_nil (d : Kd α) (e : Nat) (w : World) (base : Nat) (ok : Nat → Prop) : S d e w base ok (.slice none 0 0) [] := ⟨fun _ => 0, R_nil _ _ _ _ _⟩
end
section
variable {α β : Type} {d : Kd α} {d' : Kd β} {e e' g : Nat} {w w1 W : World} {base b : Nat} {ok ok' okv oku : Nat → Prop} {u v : Value} {xs : List α} {ys : List β}
end
section
variable {P : Program} {ops : Array Oper} {rest : List Oper} {o : Oper} {a : Act} {Q : Exit → Act → World → Prop} {Kc : Act → World → Prop} {α : Type}
end
def gap {α : Type} (f : Nat → Nat) (d : Kd α) (i : Nat) (c : List Value) : Kd (α × Nat) where
 sz := d.sz
 E := d.E
 K := fun w x cs => (x.2 = i → cs = c ∧ cs.length = d.sz ∧ ∀ u ∈ cs, u.oneCell' = true) ∧ (x.2 ≠ i → d.K w x.1 cs)
 M := fun w base ok x cs => (x.2 = i → cs = c ∧ cs.length = d.sz ∧ ∀ u ∈ cs, u.oneCell' = true) ∧ (x.2 ≠ i → d.M w base (fun k => ok k ∧ f k = x.2) x.1 cs)
 K_len := fun {w x cs} h => by
  by_cases hx : x.2 = i
  ·exact (h.1 hx).2.1
  ·exact d.K_len (h.2 hx)
 K_one := fun {w x cs} h => by
  by_cases hx : x.2 = i
  ·exact (h.1 hx).2.2
  ·exact d.K_one (h.2 hx)
 K_below := fun hb h => ⟨h.1, fun hx => d.K_below hb (h.2 hx)⟩
 K_of_M := fun h => ⟨h.1, fun hx => d.K_of_M (h.2 hx)⟩
 M_mono := fun hok h => ⟨h.1, fun hx => d.M_mono (fun k hk => ⟨hok k hk.1, hk.2⟩) (h.2 hx)⟩
 M_bound := fun h => ⟨h.1, fun hx => d.M_mono (fun _ hk => ⟨⟨hk.1.1, hk.2⟩, hk.1.2⟩) (d.M_bound (h.2 hx))⟩
 M_move := fun hm h => ⟨h.1, fun hx => d.M_move (fun k hk => hm k hk.1) (h.2 hx)⟩
 M_lower := fun hb h => ⟨h.1, fun hx => d.M_lower hb (h.2 hx)⟩
def H {α : Type} (d : Kd α) (e : Nat) (w : World) (base : Nat) (ok : Nat → Prop) (v : Value) (xs : List α) (i : Int) (oki : Nat → Prop) (c : List Value) : Prop :=
 (∀ k, oki k → ok k) ∧ ∃ f, (gap f d i.toNat c).R e w base (fun k => ok k ∧ ¬ oki k) v xs.zipIdx
section
variable {α β : Type} {d : Kd α} {e e' g n cap : Nat} {w w1 W : World} {base : Nat} {ok ok' oki okp : Nat → Prop} {u v : Value} {xs : List α} {i : Int} {c : List Value}
end
section
variable {P : Program} {ops : Array Oper} {rest : List Oper} {o : Oper} {a : Act} {Q : Exit → Act → World → Prop} {α : Type}
end
end Kd
end Go.Proofs.YtfbbfnadmnejeaaW.PrintWords
namespace Go.Proofs.YtfbbfnadmnejeaaW.PrintWords
open Go.RowKit
namespace Kd
theorem reps_set {α : Type} {R : α → List Value → Prop} {size : Nat} {ps : List α} {cs : List Value} (h : Reps R size ps cs) {i : Nat} (hi : i < ps.length) {x : α} {seg : List Value} (hx : R x seg) (hl : seg.length = size) : Reps R size (ps.set i x) (cs.take (i * size) ++ seg ++ cs.drop (i * size + seg.length)) := by
 have hfit : i * size + size ≤ cs.length := by rw [h.1, ← Nat.succ_mul]; exact Nat.mul_le_mul_right _ hi
 refine ⟨?_, fun m p hm => ?_⟩
 ·rw [List.length_set, ← h.1]
  simp only [List.length_append, List.length_take, List.length_drop]
  omega
 ·have hml : m < ps.length := by
   have := (List.getElem?_eq_some_iff.1 hm).1
   rwa [List.length_set] at this
  by_cases hmi : m = i
  ·subst hmi
   rw [List.getElem?_set_self hml] at hm
   injection hm with hm
   subst hm
   rw [show ((cs.take (m * size) ++ seg ++ cs.drop (m * size + seg.length)).drop (m * size)).take size = seg by
    rw [List.append_assoc, List.drop_left' (by rw [List.length_take]; omega), List.take_left' hl]]
   exact hx
  ·rw [List.getElem?_set_ne (Ne.symm hmi)] at hm
   have hmf : m * size + size ≤ cs.length := by rw [h.1, ← Nat.succ_mul]; exact Nat.mul_le_mul_right _ hml
   rw [show ((cs.take (i * size) ++ seg ++ cs.drop (i * size + seg.length)).drop (m * size)).take size = (cs.drop (m * size)).take size from by
    apply List.ext_getElem?
    intro q
    rw [List.getElem?_take, List.getElem?_take, List.getElem?_drop, List.getElem?_drop, seg_get cs seg _ (by omega)]
    by_cases hq : q < size
    ·rw [if_pos hq, if_pos hq]
     rcases Nat.lt_or_gt_of_ne hmi with hlt | hgt
     ·have : m * size + size ≤ i * size := by rw [← Nat.succ_mul]; exact Nat.mul_le_mul_right _ hlt
      rw [if_pos (by omega)]
     ·have : i * size + size ≤ m * size := by rw [← Nat.succ_mul]; exact Nat.mul_le_mul_right _ hgt
      rw [if_neg (by omega), if_neg (by omega)]
    ·rw [if_neg hq, if_neg hq]]
   exact h.2 m p hm
section
variable {α : Type} {n : Nat} {d : Kd α} {hs : 0 < d.sz} {w : World} {base : Nat} {ok : Nat → Prop} {xs : List α} {cs : List Value}
end
section
variable {α : Type} {n : Nat} {enc : α → Value} {h1 : ∀ x, (enc x).oneCell' = true} {hs : 0 < (scalar enc h1).sz} {w : World} {base : Nat} {ok : Nat → Prop} {xs : List α} {cs : List Value}
end
end Kd
end Go.Proofs.YtfbbfnadmnejeaaW.PrintWords
namespace Go.Proofs.YtfbbfnadmnejeaaW.PrintWords
open Go.RowKit
def Kept (w W : World) (S : Nat → Prop) : Prop := w.heap.size ≤ W.heap.size ∧ ∀ i, i < w.heap.size → ¬ S i → W.heap[i]? = w.heap[i]?
section
variable {w W W2 : World} {S S2 S' : Nat → Prop}
theorem Kept.refl (w : World) (S : Nat → Prop) : Kept w w S := ⟨Nat.le_refl _, fun _ _ _ => rfl⟩
theorem Kept.of_below (h : Below w.heap.size w W) (S : Nat → Prop) : Kept w W S := ⟨h.size, fun i hi _ => h.block i hi⟩
theorem Kept.mono (h : Kept w W S) (hs : ∀ k, S k → S' k) : Kept w W S' := ⟨h.1, fun i hi hn => h.2 i hi (fun hk => hn (hs i hk))⟩
theorem Kept.then_ (h : Kept w W S) (k : Kept W W2 S2) (hs : ∀ k, S2 k → S k ∨ w.heap.size ≤ k) : Kept w W2 S :=
 ⟨Nat.le_trans h.1 k.1, fun i hi hn => (k.2 i (Nat.lt_of_lt_of_le hi h.1) (fun h2 => (hs i h2).elim hn (fun h3 => by omega))).trans (h.2 i hi hn)⟩
theorem Kept.below (h : Kept w W S) (hb : Below W.heap.size W W2) : Kept w W2 S := h.then_ (Kept.of_below hb (fun _ => False)) (fun _ hk => hk.elim)
theorem Kept.alloc (h : Kept w W S) (o : Obj) : Kept w (W.alloc o) S := h.below (below_alloc (Below.refl _ _) o)
theorem Kept.drew (h : Kept w W S) : Kept w W.drew S := h
theorem Kept.drewN (h : Kept w W S) (m : Nat) : Kept w (W.drewN m) S := h
theorem Kept.setCell (h : Kept w W S) {p : Addr} (hp : S p.block ∨ w.heap.size ≤ p.block) (u : Value) : Kept w (W.setCell p u) S :=
 h.then_ (S2 := fun k => k = p.block) ⟨by simp [World.setCell], fun i _ hn => Below.heap_setCell W p u i hn⟩ (fun k hk => by rw [hk]; exact hp)
theorem Kept.keep {g : Nat} (h : KeepBut w W g none) (k : Kept W W2 S2) (hs : ∀ k, S2 k → w.heap.size ≤ k) : KeepBut w W2 g none :=
 ⟨Nat.le_trans h.1 k.1, fun i hi hg hr => (k.2 i (Nat.lt_of_lt_of_le hi h.1) (fun h2 => by have := hs i h2; omega)).trans (h.2 i hi hg hr)⟩
end
namespace Kd
section
variable {α : Type} {d : Kd α} {e base n c : Nat} {ok oki S S2 : Nat → Prop} {w w0 W W1 W2 : World} {v : Value} {A : Option Addr} {xs : List α} {i : Int} {cs : List Value}
theorem R_kept (h : d.R e W base ok v xs) (hk : Kept W W2 S) (hne : ∀ k, ok k → ¬ S k) : d.R e W2 base ok v xs := R_step h (fun k ho hlt => hk.2 k hlt (hne k ho))
end
end Kd
end Go.Proofs.YtfbbfnadmnejeaaW.PrintWords
namespace Go.Proofs.YtfbbfnadmnejeaaW.PrintWords
open Go.RowKit
def Foot (P : World → Prop) (W : World) (ok : Nat → Prop) : Prop := ∀ W' : World, (∀ k, ok k → k < W.heap.size → W'.heap[k]? = W.heap[k]?) → P W'
theorem heap_lt {W W1 : World} {k : Nat} (h : W1.heap[k]? = W.heap[k]?) (hlt : k < W.heap.size) : k < W1.heap.size := by
 rw [Array.getElem?_eq_getElem hlt] at h
 exact (Array.getElem?_eq_some_iff.1 h).1
namespace Foot
variable {P Q : World → Prop} {W W1 : World} {ok ok' : Nat → Prop}
theorem mono (h : Foot P W ok) (hok : ∀ k, ok k → ok' k) : Foot P W ok' := fun W' hW => h W' (fun k hk hlt => hW k (hok k hk) hlt)
theorem step (h : Foot P W ok) (hm : ∀ k, ok k → k < W.heap.size → W1.heap[k]? = W.heap[k]?) : Foot P W1 ok := fun W' hW => h W' (fun k hk hlt => (hW k hk (heap_lt (hm k hk hlt) hlt)).trans (hm k hk hlt))
end Foot
namespace Kd
def F {α : Type} (d : Kd α) (W : World) (ok : Nat → Prop) (A : Option Addr) (n : Nat) (xs : List α) : Prop := Foot (fun W => d.C W A n xs) W ok
def FK {α : Type} (d : Kd α) (W : World) (ok : Nat → Prop) (x : α) (c : List Value) : Prop := Foot (fun W => d.K W x c) W ok
section
variable {α β : Type} {d : Kd α} {e base n n' cc g N : Nat} {ok ok' okp S : Nat → Prop} {w w0 w1 W W1 : World} {A A' : Option Addr} {u v v1 : Value} {xs : List α} {xs' : List β} {d' : Kd β} {x : α} {c : List Value}
theorem F_nil (d : Kd α) (W : World) (ok : Nat → Prop) : F d W ok none ([] : List α).length [] := fun W' _ => C_nil d W'
theorem FK_of_M (h : d.M W base ok x c) : FK d W ok x c := fun _ hW => d.K_of_M (M_step h hW)
end
end Kd
end Go.Proofs.YtfbbfnadmnejeaaW.PrintWords
namespace Go.Proofs.YtfbbfnadmnejeaaW.PrintWords
open Go.RowKit
namespace Kd
def chunks (sz : Nat) (n : Nat) (inner : List Value) : List (List Value) := (List.range n).map fun j => (inner.drop (j * sz)).take sz
theorem chunks_length (sz n : Nat) (inner : List Value) : (chunks sz n inner).length = n := by simp [chunks]
theorem chunks_at {sz n : Nat} {inner : List Value} {j : Nat} (hj : j < n) : (chunks sz n inner)[j]? = some ((inner.drop (j * sz)).take sz) := by simp [chunks, hj]
theorem chunks_get {sz n : Nat} {inner : List Value} {j : Nat} {c : List Value} (h : (chunks sz n inner)[j]? = some c) : c = (inner.drop (j * sz)).take sz := by
 have hj : j < n := by have := (List.getElem?_eq_some_iff.1 h).1; rwa [chunks_length] at this
 rw [chunks_at hj] at h
 injection h with h
 exact h.symm
theorem reps_raw {α : Type} {Rr : α → List Value → Prop} {sz : Nat} {xs : List α} {inner : List Value} (h : Reps Rr sz xs inner) (hR : ∀ x c, Rr x c → c.length = sz ∧ ∀ u ∈ c, u.oneCell' = true) : Reps (fun x cs => cs = x ∧ cs.length = sz ∧ ∀ u ∈ cs, u.oneCell' = true) sz (chunks sz xs.length inner) inner := by
 refine ⟨by rw [chunks_length]; exact h.1, fun j p hj => ?_⟩
 have hjl : j < xs.length := by have := (List.getElem?_eq_some_iff.1 hj).1; rwa [chunks_length] at this
 have hp := chunks_get hj
 exact ⟨hp.symm, hR _ _ (h.2 j _ (List.getElem?_eq_getElem hjl))⟩
section
variable {α : Type} {d : Kd α} {e base n cc g : Nat} {ok ok' okp S : Nat → Prop} {w w1 W W1 : World} {A : Option Addr} {u v v1 : Value} {xs : List α} {x : α} {c : List Value}
def N {α : Type} (d : Kd α) (e : Nat) (w : World) (base : Nat) (ok : Nat → Prop) (v : Value) (xs : List α) : Prop :=
 (∀ k, v.ownBlock = some k → ok k) ∧ ∃ rows : List (List Value), rows.length = xs.length ∧ (raw d.sz).R e w base (fun k => some k = v.ownBlock) v rows ∧ ∀ (j : Nat) (x : α) (c : List Value), xs[j]? = some x → rows[j]? = some c → FK d w (fun k => ok k ∧ some k ≠ v.ownBlock) x c
theorem R_N (h : d.R e w base ok v xs) : N d e w base ok v xs := by
 obtain ⟨h0, inner, ho, hr⟩ := h
 refine ⟨h0, chunks d.sz xs.length inner, chunks_length _ _ _, ⟨fun k hk => hk.symm, inner, by rw [chunks_length]; exact ho, reps_raw hr (fun x c hp => ⟨d.K_len (d.K_of_M hp), d.K_one (d.K_of_M hp)⟩)⟩, fun j x c hx hc => ?_⟩
 rw [chunks_get hc]
 exact FK_of_M (hr.2 j x hx)
theorem N_nil (d : Kd α) (e : Nat) (w : World) (base : Nat) (ok : Nat → Prop) : N d e w base ok (.slice none 0 0) [] := R_N (R_nil _ _ _ _ _)
end
end Kd
end Go.Proofs.YtfbbfnadmnejeaaW.PrintWords
namespace Go.Proofs.YtfbbfnadmnejeaaW.PrintWords
open Go.RowKit
section
variable {w w' u : World} {m B g : Nat} {o : Obj} {row : Option Nat} {S : Nat → Prop} {a : Addr} {v : Value}
theorem below_at (hq : w.drewN m = w') (h : Below B u w) : Below B u w' := by subst hq; exact pw_below_drewN h m
end
namespace Kd
section
variable {α : Type} {d : Kd α} {e base n m : Nat} {ok : Nat → Prop} {w w' : World} {v : Value} {A : Option Addr} {xs : List α}
theorem R_at (hq : w.drewN m = w') (h : d.R e w base ok v xs) : d.R e w' base ok v xs := by subst hq; exact R_drewN h m
end
end Kd
end Go.Proofs.YtfbbfnadmnejeaaW.PrintWords
namespace Go.Proofs.YtfbbfnadmnejeaaW.PrintWords
open Go.RowKit
section
variable {P : Program} {d : Nat} {xs ys : Array Value} {f : Field} {fs : List Field} {a b : Value} {r s : Bool} {w : World}
theorem eqf_last (hn : (f.name == "_") = false) (ha : (part f.type xs f.offset).run P w = .ok a w) (hb : (part f.type ys f.offset).run P w = .ok b w) (he : (Op.equalIn d f.type a b).run P w = .ok r w) : (Op.eqFields d xs ys [f]).run P w = .ok r w := by
 have hn' : f.name ≠ "_" := by simpa using hn
 simp only [Op.eqFields, if_pos hn', Sem.run_bind, ha, hb, he, Result.andThen_ok]
 cases r <;> simp
theorem eqf_cons (hn : (f.name == "_") = false) (ha : (part f.type xs f.offset).run P w = .ok a w) (hb : (part f.type ys f.offset).run P w = .ok b w) (he : (Op.equalIn d f.type a b).run P w = .ok r w) (hr : (Op.eqFields d xs ys fs).run P w = .ok s w) : (Op.eqFields d xs ys (f :: fs)).run P w = .ok (r && s) w := by
 have hn' : f.name ≠ "_" := by simpa using hn
 rw [Op.eqFields]
 simp only [if_pos hn', Sem.run_bind, ha, hb, he, Result.andThen_ok]
 cases r
 ·simp
 ·simpa using hr
theorem eqA_of {t : TypeId} {fs : Array Field} (hu : P.underlying t = some (.struct fs)) (hp : P.stoodInHeld t = false) (h : (Op.eqFields d xs ys fs.toList).run P w = .ok r w) : (Op.equalIn (d + 1) t (.agg xs) (.agg ys)).run P w = .ok r w := by
 have hf : P.fieldsOf t = fs := by simp [Program.fieldsOf, hu]
 rw [run_equalIn_struct (P := P) w d t xs ys (by rw [hf]; exact hu) hp, hf]
 exact h
end
end Go.Proofs.YtfbbfnadmnejeaaW.PrintWords
namespace Go.Proofs.YtfbbfnadmnejeaaW.PrintWords
theorem Reps.one {α : Type} {R : α → List Value → Prop} {ps : List α} {cs : List Value} {p : α} {v : Value} (hp : R p [v]) (h : Reps R 1 ps cs) : Reps R 1 (p :: ps) (v :: cs) := by
 refine ⟨by simp [h.1], fun j q hq => ?_⟩
 cases j with
 | zero =>
  simp only [List.getElem?_cons_zero, Option.some.injEq] at hq
  subst hq
  simpa using hp
 | succ j =>
  simp only [List.getElem?_cons_succ] at hq
  have h1 := h.2 j q hq
  simpa [Nat.mul_one] using h1
theorem Reps.front {α : Type} {R : α → List Value → Prop} {size : Nat} {ps : List α} {cs c all : List Value} {p : α} (hp : R p c) (hc : c.length = size) (h : Reps R size ps cs) (ha : c ++ cs = all) : Reps R size (p :: ps) all := by
 subst ha
 refine ⟨by rw [List.length_append, hc, h.1, List.length_cons, Nat.succ_mul, Nat.add_comm], fun j q hq => ?_⟩
 cases j with
 | zero =>
  simp only [List.getElem?_cons_zero, Option.some.injEq] at hq
  subst hq
  rw [Nat.zero_mul, List.drop_zero, List.take_append_of_le_length (by omega), List.take_of_length_le (by omega)]
  exact hp
 | succ j =>
  simp only [List.getElem?_cons_succ] at hq
  have h1 := h.2 j q hq
  rw [Nat.succ_mul, List.drop_append, List.drop_of_length_le (by rw [hc]; exact Nat.le_add_left _ _), List.nil_append, hc, Nat.add_sub_cancel]
  exact h1
theorem Reps.c2 {α : Type} {R : α → List Value → Prop} {ps : List α} {cs : List Value} {p : α} {va vb : Value} (hp : R p [va, vb]) (h : Reps R 2 ps cs) : Reps R 2 (p :: ps) (va :: vb :: cs) := Reps.front hp rfl h rfl
theorem Reps.c3 {α : Type} {R : α → List Value → Prop} {ps : List α} {cs : List Value} {p : α} {va vb vc : Value} (hp : R p [va, vb, vc]) (h : Reps R 3 ps cs) : Reps R 3 (p :: ps) (va :: vb :: vc :: cs) := Reps.front hp rfl h rfl
theorem Reps.c4 {α : Type} {R : α → List Value → Prop} {ps : List α} {cs : List Value} {p : α} {va vb vc vd : Value} (hp : R p [va, vb, vc, vd]) (h : Reps R 4 ps cs) : Reps R 4 (p :: ps) (va :: vb :: vc :: vd :: cs) := Reps.front hp rfl h rfl
theorem Reps.c5 {α : Type} {R : α → List Value → Prop} {ps : List α} {cs : List Value} {p : α} {va vb vc vd ve : Value} (hp : R p [va, vb, vc, vd, ve]) (h : Reps R 5 ps cs) : Reps R 5 (p :: ps) (va :: vb :: vc :: vd :: ve :: cs) := Reps.front hp rfl h rfl
theorem Reps.c6 {α : Type} {R : α → List Value → Prop} {ps : List α} {cs : List Value} {p : α} {va vb vc vd ve vf : Value} (hp : R p [va, vb, vc, vd, ve, vf]) (h : Reps R 6 ps cs) : Reps R 6 (p :: ps) (va :: vb :: vc :: vd :: ve :: vf :: cs) := Reps.front hp rfl h rfl
theorem Reps.c7 {α : Type} {R : α → List Value → Prop} {ps : List α} {cs : List Value} {p : α} {va vb vc vd ve vf vg : Value} (hp : R p [va, vb, vc, vd, ve, vf, vg]) (h : Reps R 7 ps cs) : Reps R 7 (p :: ps) (va :: vb :: vc :: vd :: ve :: vf :: vg :: cs) := Reps.front hp rfl h rfl
theorem Reps.c8 {α : Type} {R : α → List Value → Prop} {ps : List α} {cs : List Value} {p : α} {va vb vc vd ve vf vg vh : Value} (hp : R p [va, vb, vc, vd, ve, vf, vg, vh]) (h : Reps R 8 ps cs) : Reps R 8 (p :: ps) (va :: vb :: vc :: vd :: ve :: vf :: vg :: vh :: cs) := Reps.front hp rfl h rfl
theorem Reps.c9 {α : Type} {R : α → List Value → Prop} {ps : List α} {cs : List Value} {p : α} {va vb vc vd ve vf vg vh vi : Value} (hp : R p [va, vb, vc, vd, ve, vf, vg, vh, vi]) (h : Reps R 9 ps cs) : Reps R 9 (p :: ps) (va :: vb :: vc :: vd :: ve :: vf :: vg :: vh :: vi :: cs) := Reps.front hp rfl h rfl
theorem Reps.c10 {α : Type} {R : α → List Value → Prop} {ps : List α} {cs : List Value} {p : α} {va vb vc vd ve vf vg vh vi vj : Value} (hp : R p [va, vb, vc, vd, ve, vf, vg, vh, vi, vj]) (h : Reps R 10 ps cs) : Reps R 10 (p :: ps) (va :: vb :: vc :: vd :: ve :: vf :: vg :: vh :: vi :: vj :: cs) := Reps.front hp rfl h rfl
end Go.Proofs.YtfbbfnadmnejeaaW.PrintWords
namespace Go.Proofs.YtfbbfnadmnejeaaW.PrintWords
open Go.RowKit
section
variable {P : Program} {ops : Array Oper} {rest : List Oper} {o : Oper} {a : Act} {Q : Exit → Act → World → Prop} {W : World}
theorem gate_guard (hw : Region.wanted o (yielded ops a.tmps) = true) (h : wpList P ops Q ({ o with guard := none } :: rest) a W) : wpList P ops Q (o :: rest) a W := by
 have h1 : Region.wanted { o with guard := none } (yielded ops a.tmps) = true := rfl
 unfold wpList at h ⊢
 rw [if_pos h1] at h
 rw [if_pos hw]
 exact h
end
end Go.Proofs.YtfbbfnadmnejeaaW.PrintWords
namespace Go.Proofs.YtfbbfnadmnejeaaW.PrintMore
open Go.RowKit Go.Proofs.YtfbbfnadmnejeaaW.PrintWords
namespace Kd
open Go.Proofs.YtfbbfnadmnejeaaW.PrintWords.Kd
end Kd
namespace Kd
open Go.Proofs.YtfbbfnadmnejeaaW.PrintWords.Kd
section
variable {α : Type} {d : Kd α} {e base g N : Nat} {ok : Nat → Prop} {W w1 : World} {u v : Value} {xs : List α}
end
end Kd
theorem max2_int (k k' : IntKind) (x y : Int) : Builtin.max2 (.int k x) (.int k' y) = pure (.int k (if x < y then y else x)) := by simp only [Builtin.max2, gt_iff_lt]
theorem min2_int (k k' : IntKind) (x y : Int) : Builtin.min2 (.int k x) (.int k' y) = pure (.int k (if y < x then y else x)) := by simp only [Builtin.min2]
theorem max_two (ats : Array TypeId) (ty : TypeId) (a b : Value) : Builtin.max_ ats ty #[a, b] = (Builtin.max2 a b >>= fun s => pure s) := by simp only [Builtin.max_, List.foldlM_cons, List.foldlM_nil]
theorem min_two (ats : Array TypeId) (ty : TypeId) (a b : Value) : Builtin.min_ ats ty #[a, b] = (Builtin.min2 a b >>= fun s => pure s) := by simp only [Builtin.min_, List.foldlM_cons, List.foldlM_nil]
theorem max_three (ats : Array TypeId) (ty : TypeId) (a b c : Value) : Builtin.max_ ats ty #[a, b, c] = (Builtin.max2 a b >>= fun s => Builtin.max2 s c >>= fun s => pure s) := by simp only [Builtin.max_, List.foldlM_cons, List.foldlM_nil]
theorem min_three (ats : Array TypeId) (ty : TypeId) (a b c : Value) : Builtin.min_ ats ty #[a, b, c] = (Builtin.min2 a b >>= fun s => Builtin.min2 s c >>= fun s => pure s) := by simp only [Builtin.min_, List.foldlM_cons, List.foldlM_nil]
theorem max_four (ats : Array TypeId) (ty : TypeId) (a b c d : Value) : Builtin.max_ ats ty #[a, b, c, d] = (Builtin.max2 a b >>= fun s => Builtin.max2 s c >>= fun s => Builtin.max2 s d >>= fun s => pure s) := by simp only [Builtin.max_, List.foldlM_cons, List.foldlM_nil]
theorem min_four (ats : Array TypeId) (ty : TypeId) (a b c d : Value) : Builtin.min_ ats ty #[a, b, c, d] = (Builtin.min2 a b >>= fun s => Builtin.min2 s c >>= fun s => Builtin.min2 s d >>= fun s => pure s) := by simp only [Builtin.min_, List.foldlM_cons, List.foldlM_nil]
end Go.Proofs.YtfbbfnadmnejeaaW.PrintMore
namespace Go.Proofs.YtfbbfnadmnejeaaW.PrintWords
open Go.RowKit
section
variable {P : Program} {ops : Array Oper} {rest : List Oper} {o : Oper} {a : Act} {Q : Exit → Act → World → Prop} {W : World}
theorem gate_callee {f : FuncId} {as_ : Array Operand} {ts : Array TypeId} (_ho : o.op = .call { callee := .value (.func f), args := as_, argTypes := ts }) (h : wpList P ops Q (o :: rest) a W) : wpList P ops Q (o :: rest) a W := h
theorem gate_builtin {b : Builtin} {xs : Array Operand} {ts : Array TypeId} (_ho : o.op = .call { callee := .builtin b, args := xs, argTypes := ts }) (h : wpList P ops Q (o :: rest) a W) : wpList P ops Q (o :: rest) a W := h
end
theorem drewN_self (w : World) (n : Nat) : w.drewN n = w.drewN n := rfl
namespace Kd
section
variable {α : Type} {d : Kd α} {e base : Nat} {ok : Nat → Prop} {W w1 : World} {v : Value} {xs : List α}
end
section
variable {α : Type} {d : Kd α} {e base g n cap : Nat} {ok oki okp : Nat → Prop} {W : World} {xs : List α} {i : Int} {c : List Value}
end
section
variable {α : Type} {d : Kd α} {e base b b' g N : Nat} {ok ok1 : Nat → Prop} {W W2 w1 : World} {u v : Value} {xs ys : List α} {S : Nat → Prop}
theorem R_keptB (h : d.R e W base ok v xs) (hk : Kept W W2 S) (hne : ∀ k, ok k → ¬ S k) : d.R e W2 base (fun k => ok k ∧ (¬ S k ∧ k < W.heap.size)) v xs :=
 R_kept (R_mono (R_bound h) (fun k hk => ⟨hk.1, hne k hk.1, hk.2.2.1⟩)) hk (fun _ hk => hk.2.1)
end
end Kd
end Go.Proofs.YtfbbfnadmnejeaaW.PrintWords
namespace Go.Proofs.YtfbbfnadmnejeaaW.PrintWords
open Go.RowKit
namespace Kd
def V {α : Type} (d : Kd α) (_e : Nat) (W : World) (_base : Nat) (ok : Nat → Prop) (v : Value) (xs : List α) : Prop := ∃ A c, v = .slice A xs.length c ∧ xs.length ≤ c ∧ F d W ok A xs.length xs
section
variable {α β : Type} {d : Kd α} {e base base' n m c g N' lo hi : Nat} {ok ok' S : Nat → Prop} {w W w1 : World} {A : Option Addr} {ad : Addr} {u v v1 : Value} {xs : List α}
theorem V_nil (d : Kd α) (e : Nat) (W : World) (base : Nat) (ok : Nat → Prop) : V d e W base ok (.slice none 0 0) [] := ⟨none, 0, rfl, Nat.le_refl _, F_nil d W ok⟩
end
end Kd
end Go.Proofs.YtfbbfnadmnejeaaW.PrintWords
namespace Go.Proofs.Ytfbbfnadmnejeaa.X
open Go.RowKit Go.Proofs.YtfbbfnadmnejeaaW.PrintWords Go.Proofs.YtfbbfnadmnejeaaW.PrintLast Go.Proofs.YtfbbfnadmnejeaaW.PrintMore
attribute [local go_sem] max2_int min2_int max_two min_two max_three min_three max_four min_four
set_option linter.all false
noncomputable section
def errW : Option Int → Value
 | none => .nilIface
 | some c => .iface 0 (.int .i64 c)
theorem errW_none : errW none = .nilIface := rfl
theorem errW_some (c : Int) : errW (some c) = .iface 0 (.int .i64 c) := rfl
theorem info4 : (Try.prog.info? 4).map (fun i => (i.zero, i.size, i.bytes)) = some (some (.bool false), 1, 1) := by kernel_rfl
theorem info34 : (Try.prog.info? 34).map (fun i => (i.zero, i.size, i.bytes)) = some (some (.agg #[(.int .i64 0), (.int .i64 0)]), 2, 16) := by kernel_rfl
theorem info35 : (Try.prog.info? 35).map (fun i => (i.zero, i.size, i.bytes)) = some (some (.int .u16 0), 1, 2) := by kernel_rfl
structure S34 where
 f0 : Int
 f1 : Int
def z34 : S34 := ⟨(0 : Int), (0 : Int)⟩
def k34 : Kd S34 := Kd.iso (Kd.pair (Kd.int .i64) (Kd.int .i64)) (fun x : S34 => (x.f0, x.f1))
theorem k34_open {w : World} {x : S34} {cs : List Value} (h : k34.K w x cs) : cs = [.int .i64 x.f0, .int .i64 x.f1] := by
 obtain ⟨_, _, rfl, rfl, rfl⟩ := h
 exact rfl
theorem k34_openM {w : World} {base : Nat} {ok : Nat → Prop} {x : S34} {cs : List Value} (h : k34.M w base ok x cs) : cs = [.int .i64 x.f0, .int .i64 x.f1] := by
 obtain ⟨_, _, rfl, rfl, rfl⟩ := h
 exact rfl
theorem k34_mkM (w : World) (base : Nat) (ok : Nat → Prop) (x : S34)  : k34.M w base ok x [.int .i64 x.f0, .int .i64 x.f1] := ⟨[.int .i64 x.f0], [.int .i64 x.f1], rfl, rfl, rfl⟩
def rd_T34 (xs : List S34) (i : Int) : S34 := xs.getD i.toNat z34
theorem at_T34 {w : World} {A : Option Addr} {n : Nat} {xs : List S34} (h : Kd.C k34 w A n xs) (i : Int) (h0 : 0 ≤ i) (h1 : i < n) : ∃ ad , A = some ad ∧ w.cell? (ad.add (i.toNat * 2)) = some (.int .i64 (rd_T34 xs i).f0) ∧ w.cell? ⟨(ad.add (i.toNat * 2)).block, (ad.add (i.toNat * 2)).off + 1, none⟩ = some (.int .i64 (rd_T34 xs i).f1) := by
 obtain ⟨ad, c, e, _, hK, hc0⟩ := Kd.C_get h z34 i h0 h1
 have hc : ∀ j u, c[j]? = some u → w.cell? (ad.add (i.toNat * 2 + j)) = some u := hc0
 obtain rfl := k34_open hK
 exact ⟨ad, e, hc 0 _ rfl, by rw [← add_field _ _ 1 (by omega)]; exact hc 1 _ rfl⟩
end
end Go.Proofs.Ytfbbfnadmnejeaa.X
namespace Go.Proofs.Ytfbbfnadmnejeaa.X
open Go.RowKit Go.Proofs.YtfbbfnadmnejeaaW.PrintWords Go.Proofs.YtfbbfnadmnejeaaW.PrintLast Go.Proofs.YtfbbfnadmnejeaaW.PrintMore
attribute [local go_sem] max2_int min2_int max_two min_two max_three min_three max_four min_four
set_option linter.all false
noncomputable section
theorem eqA34 (d : Nat) (w : World) (x0 y0 : Int) (x1 y1 : Int) :
  (Op.equalIn (d + 2) 34 (.agg #[.int .i64 x0, .int .i64 x1]) (.agg #[.int .i64 y0, .int .i64 y1])).run Try.prog w = .ok (x0 == y0 && (x1 == y1)) w := by
 refine eqA_of Try.underlying34 (by kernel_rfl) ?_
 refine eqf_cons (by rfl) (by go_simp; rfl) (by go_simp; rfl) (by go_simp) ?_
 exact eqf_last (by rfl) (by go_simp; rfl) (by go_simp; rfl) (by go_simp)
end
end Go.Proofs.Ytfbbfnadmnejeaa.X
namespace Go.Proofs.Ytfbbfnadmnejeaa.X
open Go.RowKit Go.Proofs.YtfbbfnadmnejeaaW.PrintWords Go.Proofs.YtfbbfnadmnejeaaW.PrintLast Go.Proofs.YtfbbfnadmnejeaaW.PrintMore
set_option linter.all false
theorem reps_take {α : Type} {R : α → List Value → Prop} {sz : Nat} {xs : List α} {cs : List Value} (h : Reps R sz xs cs) (i : Nat) (hi : i ≤ xs.length) : Reps R sz (xs.take i) (cs.take (i * sz)) := by
 refine ⟨?_, fun j p hj => ?_⟩
 ·rw [List.length_take, List.length_take, h.1, Nat.min_eq_left hi, Nat.min_eq_left (Nat.mul_le_mul_right _ hi)]
 ·rw [List.getElem?_take] at hj
  split at hj
  ·rename_i hlt
   have h2 := h.2 j p hj
   have h3 : j * sz + sz ≤ i * sz := by rw [← Nat.succ_mul]; exact Nat.mul_le_mul_right _ hlt
   have : ((cs.take (i * sz)).drop (j * sz)).take sz = (cs.drop (j * sz)).take sz := by
    rw [List.drop_take, List.take_take, Nat.min_eq_left (by omega)]
   rw [this]; exact h2
  ·cases hj
theorem reps_drop {α : Type} {R : α → List Value → Prop} {sz : Nat} {xs : List α} {cs : List Value} (h : Reps R sz xs cs) (i : Nat) : Reps R sz (xs.drop i) (cs.drop (i * sz)) := by
 refine ⟨?_, fun j p hj => ?_⟩
 ·rw [List.length_drop, List.length_drop, h.1, Nat.sub_mul]
 ·rw [List.getElem?_drop] at hj
  have h2 := h.2 _ p hj
  rw [List.drop_drop, show i * sz + j * sz = (i + j) * sz from (Nat.add_mul _ _ _).symm]
  exact h2
theorem reps_append {α : Type} {R : α → List Value → Prop} {sz : Nat} {xs ys : List α} {cs ds : List Value} (h : Reps R sz xs cs) (h' : Reps R sz ys ds) : Reps R sz (xs ++ ys) (cs ++ ds) := by
 refine ⟨by rw [List.length_append, List.length_append, h.1, h'.1, Nat.add_mul], fun j p hj => ?_⟩
 rcases Nat.lt_or_ge j xs.length with hl | hl
 ·rw [List.getElem?_append_left hl] at hj
  have h2 := h.2 j p hj
  have h3 : j * sz + sz ≤ cs.length := by rw [h.1, ← Nat.succ_mul]; exact Nat.mul_le_mul_right _ hl
  rw [List.drop_append_of_le_length (by omega), List.take_append_of_le_length (by rw [List.length_drop]; omega)]
  exact h2
 ·rw [List.getElem?_append_right hl] at hj
  have h2 := h'.2 _ p hj
  have h3 : cs.length ≤ j * sz := by rw [h.1]; exact Nat.mul_le_mul_right _ hl
  rw [List.drop_append, List.drop_eq_nil_of_le h3, List.nil_append, h.1, ← Nat.sub_mul]
  exact h2
theorem reps_cons {α : Type} {R : α → List Value → Prop} {sz : Nat} {x : α} {ys : List α} {c ds : List Value} (hc : R x c) (hl : c.length = sz) (h' : Reps R sz ys ds) : Reps R sz (x :: ys) (c ++ ds) :=
 reps_append (xs := [x]) (cs := c) ⟨by simp [hl], fun j p hj => by
  cases j with
  | zero => simp at hj; subst hj; rw [Nat.zero_mul, List.drop_zero, ← hl, List.take_length]; exact hc
  | succ j => simp at hj⟩ h'
theorem reps_set {α : Type} {R : α → List Value → Prop} {sz : Nat} {xs : List α} {cs c : List Value} (h : Reps R sz xs cs) (i : Nat) (x : α) (hi : i < xs.length) (hc : R x c) (hl : c.length = sz) : Reps R sz (xs.set i x) (cs.take (i * sz) ++ c ++ cs.drop (i * sz + c.length)) := by
 have e : xs.set i x = xs.take i ++ (x :: xs.drop (i + 1)) := by
  rw [List.set_eq_take_append_cons_drop, if_pos hi]
 rw [e, List.append_assoc, hl, show i * sz + sz = (i + 1) * sz by rw [Nat.succ_mul]]
 exact reps_append (reps_take h i (by omega)) (reps_cons hc hl (reps_drop h (i + 1)))
structure Opn {α : Type} (d : Kd α) (e : Nat) (W : World) (base : Nat) (ok : Nat → Prop) (g n cap : Nat) (xs : List α) (cur : Array Value) : Prop where
 len : n = xs.length
 hb : base ≤ g
 hk : ok g
 nc : n ≤ cap
 cm : cap ≤ maxLen
 row : W.heap[g]? = some (.cells cur e (0, 0))
 sz : cur.size = cap * d.sz
 reps : Reps (d.M W base (fun k => ok k ∧ some k ≠ some g)) d.sz xs (cur.toList.take (n * d.sz))
theorem R_open {α : Type} {d : Kd α} {e base g n cap : Nat} {ok : Nat → Prop} {W : World} {xs : List α} (h : d.R e W base ok (.slice (some ⟨g, 0, none⟩) n cap) xs) : ∃ cur, Opn d e W base ok g n cap xs cur := by
 obtain ⟨hn, hnc, _⟩ := Kd.R_reads' h
 obtain ⟨hok, inner, ⟨hl, hw⟩, hr⟩ := h
 rcases hw with ⟨hv, _⟩ | ⟨g', cap', cur, hv, hb, hh, hnc', hcm, hcs, ht⟩
 ·cases hv
 injection hv with ha _ hc
 injection ha with ha
 injection ha with hg
 subst hg; subst hc
 refine ⟨cur, hn, hb, hok g (by simp [Value.ownBlock]), hnc, hcm, hh, hcs, ?_⟩
 rw [hn, ht]
 exact hr
theorem Opn.shut {α : Type} {d : Kd α} {e base g n cap : Nat} {ok : Nat → Prop} {W : World} {xs : List α} {cur : Array Value} (h : Opn d e W base ok g n cap xs cur) : d.R e W base ok (.slice (some ⟨g, 0, none⟩) n cap) xs := by
 refine ⟨fun k hk => by simp [Value.ownBlock] at hk; subst hk; exact h.hk, cur.toList.take (n * d.sz), ⟨?_, .inr ⟨g, cap, cur, by rw [h.len], h.hb, h.row, by rw [← h.len]; exact h.nc, h.cm, h.sz, by rw [h.len]⟩⟩, ?_⟩
 ·rw [List.length_take, Array.length_toList, h.sz, h.len, Nat.min_eq_left]
  rw [← h.len]; exact Nat.mul_le_mul_right _ h.nc
 ·exact h.reps
theorem Opn.cell {α : Type} {d : Kd α} {e base g n cap : Nat} {ok : Nat → Prop} {W : World} {xs : List α} {cur : Array Value} (h : Opn d e W base ok g n cap xs cur) (t : Nat) (ht : t < cap * d.sz) : (W.cell? ⟨g, t, none⟩).isSome = true ∧ W.frozen? ⟨g, t, none⟩ = false := by
 refine ⟨?_, blk_frozen h.row t⟩
 rw [blk_cell h.row t, Array.getElem?_eq_getElem (by rw [h.sz]; exact ht)]
 rfl
theorem Opn.lay {α : Type} {d : Kd α} {e base g n cap : Nat} {ok : Nat → Prop} {W : World} {xs : List α} {cur : Array Value} (h : Opn d e W base ok g n cap xs cur) (off : Nat) (seg : List Value) (m : Nat) (ys : List α) (hfit : off + seg.length ≤ cap * d.sz) (hm : m ≤ cap) (hl : m = ys.length)
  (hr : Reps (d.M W base (fun k => ok k ∧ some k ≠ some g)) d.sz ys ((cur.toList.take off ++ seg ++ cur.toList.drop (off + seg.length)).take (m * d.sz))) :
  (∃ cur1, Opn d e (W.setCells g off seg) base ok g m cap ys cur1 ∧ cur1.toList = cur.toList.take off ++ seg ++ cur.toList.drop (off + seg.length)) ∧ W.grownBy (W.setCells g off seg) (some g) := by
 obtain ⟨s1, s2, s3, s4⟩ := setCells_same g seg off W
 have hfar : ∀ k, k ≠ g → (W.setCells g off seg).heap[k]? = W.heap[k]? := fun k hk => setCells_far seg _ k hk
 obtain ⟨cur', h3, h4, h5⟩ := setCells_row seg off W cur h.row (by rw [h.sz]; exact hfit)
 refine ⟨⟨cur', ⟨hl, h.hb, h.hk, hm, h.cm, h3, by rw [h4, h.sz], ?_⟩, h5⟩, ⟨s1, s2, s3, by rw [s4]; exact Nat.le_refl _, fun k _ hk => hfar k (fun he => hk (by rw [he]))⟩⟩
 rw [h5]
 exact hr.imp_ (fun p c hp => d.M_move (fun k hk => hfar k (fun he => hk.2 (by rw [he]))) hp)
theorem Opn.beyond {α : Type} {d : Kd α} {e base g n cap : Nat} {ok : Nat → Prop} {W : World} {xs : List α} {cur : Array Value} (h : Opn d e W base ok g n cap xs cur) (off : Nat) (seg : List Value) (ho : n * d.sz ≤ off) (hfit : off + seg.length ≤ cap * d.sz) :
  (∃ cur1, Opn d e (W.setCells g off seg) base ok g n cap xs cur1) ∧ W.grownBy (W.setCells g off seg) (some g) := by
 have hle : off ≤ cur.toList.length := by rw [Array.length_toList, h.sz]; omega
 have e0 : (cur.toList.take off ++ seg ++ cur.toList.drop (off + seg.length)).take (n * d.sz) = cur.toList.take (n * d.sz) := by
  rw [List.append_assoc, List.take_append_of_le_length (by rw [List.length_take]; omega), List.take_take, Nat.min_eq_left ho]
 obtain ⟨⟨cur1, h1, _⟩, h2⟩ := h.lay off seg n xs hfit h.nc h.len (by rw [e0]; exact h.reps)
 exact ⟨⟨cur1, h1⟩, h2⟩
theorem Opn.put {α : Type} {d : Kd α} {e base g n cap : Nat} {ok : Nat → Prop} {W : World} {xs : List α} {cur : Array Value} (h : Opn d e W base ok g n cap xs cur) (i : Nat) (hi : i < n) (x : α) (c : List Value) (hc : d.M W base (fun k => ok k ∧ some k ≠ some g) x c) :
  (∃ cur1, Opn d e (W.setCells g (i * d.sz) c) base ok g n cap (xs.set i x) cur1) ∧ W.grownBy (W.setCells g (i * d.sz) c) (some g) := by
 have hl := d.K_len (d.K_of_M hc)
 have hic : i * d.sz + d.sz ≤ n * d.sz := by rw [← Nat.succ_mul]; exact Nat.mul_le_mul_right _ hi
 have hnc : n * d.sz ≤ cap * d.sz := Nat.mul_le_mul_right _ h.nc
 have hcl : cur.toList.length = cap * d.sz := by rw [Array.length_toList, h.sz]
 have e0 : (cur.toList.take (i * d.sz) ++ c ++ cur.toList.drop (i * d.sz + c.length)).take (n * d.sz) = (cur.toList.take (n * d.sz)).take (i * d.sz) ++ c ++ (cur.toList.take (n * d.sz)).drop (i * d.sz + c.length) := by
  rw [List.take_append, List.take_take, Nat.min_eq_left (show i * d.sz ≤ n * d.sz by omega)]
  rw [List.take_of_length_le (show (cur.toList.take (i * d.sz) ++ c).length ≤ n * d.sz by rw [List.length_append, List.length_take]; omega)]
  congr 1
  rw [List.drop_take]
  congr 1
  rw [List.length_append, List.length_take]; omega
 have hr := reps_set h.reps i x (by rw [← h.len]; exact hi) hc hl
 obtain ⟨⟨cur1, h1, _⟩, h2⟩ := h.lay (i * d.sz) c n (xs.set i x) (by rw [hl]; omega) h.nc (by rw [List.length_set]; exact h.len) (by rw [e0]; exact hr)
 exact ⟨⟨cur1, h1⟩, h2⟩
theorem Opn.cutOut {α : Type} {d : Kd α} {e base g n cap : Nat} {ok : Nat → Prop} {W : World} {xs : List α} {cur : Array Value} (h : Opn d e W base ok g n cap xs cur) (i j : Nat) (hij : i ≤ j) (hj : j ≤ n) :
  ∃ news : List Value, news.length = (n - j) * d.sz ∧ (∀ t u, news[t]? = some u → W.cell? ⟨g, j * d.sz + t, none⟩ = some u) ∧ (∀ u ∈ news, u.oneCell' = true) ∧
   (∃ cur1, Opn d e (W.setCells g (i * d.sz) news) base ok g (i + (n - j)) cap (xs.take i ++ xs.drop j) cur1) ∧ W.grownBy (W.setCells g (i * d.sz) news) (some g) := by
 have hn := h.len
 have hcl : cur.toList.length = cap * d.sz := by rw [Array.length_toList, h.sz]
 have hnc : n * d.sz ≤ cap * d.sz := Nat.mul_le_mul_right _ h.nc
 have hjn : j * d.sz ≤ n * d.sz := Nat.mul_le_mul_right _ hj
 have hijz : i * d.sz ≤ j * d.sz := Nat.mul_le_mul_right _ hij
 have e1 : (n - j) * d.sz = n * d.sz - j * d.sz := Nat.sub_mul _ _ _
 have e2 : (i + (n - j)) * d.sz = i * d.sz + (n * d.sz - j * d.sz) := by rw [Nat.add_mul, e1]
 have hL : ((cur.toList.take (n * d.sz)).drop (j * d.sz)).length = (n - j) * d.sz := by
  rw [List.length_drop, List.length_take, hcl, e1]; omega
 refine ⟨(cur.toList.take (n * d.sz)).drop (j * d.sz), hL, fun t u hu => ?_, fun u hu => ?_, ?_⟩
 ·rw [List.getElem?_drop, List.getElem?_take] at hu
  split at hu
  ·rw [blk_cell h.row, ← hu, Array.getElem?_toList]
  ·cases hu
 ·have hu' : u ∈ cur.toList.take (n * d.sz) := List.mem_of_mem_drop hu
  obtain ⟨q, hq, rfl⟩ := List.getElem_of_mem hu'
  have hql : q < n * d.sz := by rw [List.length_take] at hq; omega
  have hz0 : 0 < d.sz := by
   rcases Nat.eq_zero_or_pos d.sz with h0 | h0
   ·rw [h0, Nat.mul_zero] at hql; omega
   ·exact h0
  have hqn : q / d.sz < xs.length := by rw [← hn]; exact (Nat.div_lt_iff_lt_mul hz0).2 hql
  have hone := h.reps.2 (q / d.sz) xs[q / d.sz] (List.getElem?_eq_getElem hqn)
  refine d.K_one (d.K_of_M hone) _ ?_
  have hmod : q / d.sz * d.sz + q % d.sz = q := by rw [Nat.mul_comm]; exact Nat.div_add_mod q d.sz
  have hmlt := Nat.mod_lt q hz0
  apply List.mem_of_getElem? (i := q % d.sz)
  rw [List.getElem?_take, if_pos hmlt, List.getElem?_drop, hmod, List.getElem?_eq_getElem hq]
 ·have hr := reps_append (reps_take h.reps i (by omega)) (reps_drop h.reps j)
  have e3 : (cur.toList.take (i * d.sz) ++ (cur.toList.take (n * d.sz)).drop (j * d.sz) ++ cur.toList.drop (i * d.sz + ((cur.toList.take (n * d.sz)).drop (j * d.sz)).length)).take ((i + (n - j)) * d.sz) = (cur.toList.take (n * d.sz)).take (i * d.sz) ++ (cur.toList.take (n * d.sz)).drop (j * d.sz) := by
   rw [List.take_append_of_le_length (by rw [List.length_append, List.length_take, hL]; omega), List.take_of_length_le (by rw [List.length_append, List.length_take, hL]; omega), List.take_take, Nat.min_eq_left (show i * d.sz ≤ n * d.sz by omega)]
  obtain ⟨⟨cur1, h1, _⟩, h2⟩ := h.lay (i * d.sz) ((cur.toList.take (n * d.sz)).drop (j * d.sz)) (i + (n - j)) (xs.take i ++ xs.drop j) (by rw [hL]; omega) (by have := h.nc; omega) (by rw [List.length_append, List.length_take, List.length_drop]; omega) (by rw [e3]; exact hr)
  exact ⟨⟨cur1, h1⟩, h2⟩
theorem zeroCells_len (zs : Array Value) (n : Nat) : (Builtin.zeroCells zs n).toList.length = n * zs.size := by simp [Builtin.zeroCells]
theorem zeroCells_one (zs : Array Value) (h : ∀ v ∈ zs, v.oneCell' = true) (n : Nat) : ∀ v ∈ (Builtin.zeroCells zs n).toList, v.oneCell' = true := by
 intro v hv
 obtain ⟨i, hi, rfl⟩ := List.getElem_of_mem hv
 have hz : 0 < zs.size := by
  rcases Nat.eq_zero_or_pos zs.size with h0 | h0
  ·rw [zeroCells_len, h0, Nat.mul_zero] at hi; omega
  ·exact h0
 have : (Builtin.zeroCells zs n).toList[i]'hi = zs[i % zs.size]'(Nat.mod_lt _ hz) := by
  simp [Builtin.zeroCells, getElem!_pos, Nat.mod_lt _ hz]
 rw [this]
 exact h _ (Array.getElem_mem _)
theorem run_clear_any {P : Program} (w : World) (t e ty : TypeId) (z : Value) (ht : P.underlying t = some (.slice e)) (hv : ∀ w, (zeroValue e).run P w = .ok z w) (h1 : ∀ v ∈ z.cells, v.oneCell' = true) (b o n c : Nat) (hn : 0 < n)
  (hc : ∀ j, j < n * z.cells.size → (w.cell? ⟨b, o + j, none⟩).isSome = true) (hf : ∀ j, j < n * z.cells.size → w.frozen? ⟨b, o + j, none⟩ = false) :
  (Builtin.clear_ #[t] ty #[.slice (some ⟨b, o, none⟩) n c]).run P w = .ok (.tuple #[]) (w.setCells b o (Builtin.zeroCells z.cells n).toList) := by
 have hst := run_storeCells_cells (P := P) b o (Builtin.zeroCells z.cells n).toList 0 w (by rw [zeroCells_len]; simpa using hc) (by rw [zeroCells_len]; simpa using hf) (zeroCells_one _ h1 n)
 simp only [Nat.add_zero] at hst
 obtain ⟨m, rfl⟩ : ∃ m, n = m + 1 := ⟨n - 1, by omega⟩
 simp [Builtin.clear_, run_underlying ht, hv, hst]
end Go.Proofs.Ytfbbfnadmnejeaa.X
namespace Go.Proofs.Ytfbbfnadmnejeaa.X
open Go.RowKit Go.Proofs.YtfbbfnadmnejeaaW.PrintWords Go.Proofs.YtfbbfnadmnejeaaW.PrintLast Go.Proofs.YtfbbfnadmnejeaaW.PrintMore
set_option linter.all false
def api_Move.f (l0 : List S34) (a1 a2 : Int) : Option (List S34) := if 0 ≤ a1 ∧ a1 < a2 ∧ a2 ≤ l0.length ∧ l0.length ≤ 1000000 then some (l0.take a1.toNat ++ l0.drop a2.toNat) else none
set_option maxHeartbeats 4000000 in
set_option maxRecDepth 1000000 in
theorem del_mv (g cap i j base : Nat) (ok : Nat → Prop) (l0 : List S34) (w : World) (ho : Kd.R k34 34 w base ok (.slice (some ⟨g, 0, none⟩) l0.length cap) l0) (hij : i < j) (hj : j ≤ l0.length) :
  Calls Try.prog 26 #[.slice (some ⟨g, 0, none⟩) l0.length cap, .int .i64 i, .int .i64 j] w fun e w' => e = .returned (.slice (some ⟨g, 0, none⟩) (i + (l0.length - j)) cap) ∧ Kd.R k34 34 w' base ok (.slice (some ⟨g, 0, none⟩) (i + (l0.length - j)) cap) (l0.take i ++ l0.drop j) ∧ w.grownBy w' (some g) := by
 obtain ⟨i0, hi0, hzz⟩ := Option.map_eq_some_iff.1 info34
 have hz1 : i0.size = 2 := by simp only [Prod.mk.injEq] at hzz; exact hzz.2.1
 clear hzz
 obtain ⟨cur, HO⟩ := R_open (Kd.R_drew ho)
 have hnc := HO.nc
 have hcm := HO.cm
 unfold maxLen at hcm
 obtain ⟨news, s1, hsrc, s2, ⟨cur1, HO1⟩, hG1⟩ := HO.cutOut i j (by omega) hj
 have s1 : Hid (news.length = (l0.length - j) * 2) := s1
 have s2 : Hid (∀ u ∈ news, u.oneCell' = true) := s2
 obtain ⟨A, hA, hsrc⟩ : ∃ A : Addr, (if cap = j then some (⟨g, 0, none⟩ : Addr) else some ⟨g, j * 2, none⟩) = some A ∧ Hid (∀ t u, news[t]? = some u → w.drew.cell? (A.add t) = some u) := by
  by_cases h : cap = j
  ·refine ⟨⟨g, 0, none⟩, by simp [h], fun t u hu => ?_⟩
   have h0 : news.length = 0 := by rw [s1.out]; omega
   rw [List.length_eq_zero_iff.1 h0] at hu
   simp at hu
  ·refine ⟨⟨g, j * 2, none⟩, by simp [h], fun t u hu => ?_⟩
   rw [Addr.add_lit]
   exact hsrc t u hu
 have s3 : Hid (∀ t, t < news.length → (w.drew.cell? ⟨g, 0 + i * 2 + t, none⟩).isSome = true ∧ w.drew.frozen? ⟨g, 0 + i * 2 + t, none⟩ = false) := by
  intro t ht
  rw [s1.out] at ht
  exact HO.cell _ (by show _ < cap * 2; omega)
 obtain ⟨W1, hW1⟩ : ∃ W1, W1 = w.drew.setCells g (0 + i * 2) news := ⟨_, rfl⟩
 have hWe : w.drew.setCells g (i * 2) news = W1 := by rw [hW1, Nat.zero_add]
 change Opn k34 34 (w.drew.setCells g (i * 2) news) base ok g (i + (l0.length - j)) cap (l0.take i ++ l0.drop j) cur1 at HO1
 change World.grownBy w.drew (w.drew.setCells g (i * 2) news) (some g) at hG1
 rw [hWe] at HO1 hG1
 have hcl : ∀ ty, (Builtin.clear_ #[22] ty #[.slice (some ⟨g, (i + (l0.length - j)) * 2, none⟩) (l0.length - (i + (l0.length - j))) (cap - (i + (l0.length - j)))]).run Try.prog W1 = .ok (.tuple #[]) (W1.setCells g ((i + (l0.length - j)) * 2) (Builtin.zeroCells #[.int .i64 0, .int .i64 0] (l0.length - (i + (l0.length - j)))).toList) :=
  fun ty => run_clear_any W1 22 34 ty (.agg #[.int .i64 0, .int .i64 0]) Try.underlying22 (fun w => by kernel_rfl) (by decide) g _ _ _ (by omega) (fun t ht => (HO1.cell _ (by
   have h2 : t < (l0.length - (i + (l0.length - j))) * 2 := ht
   show _ < cap * 2; omega)).1) (fun t ht => (HO1.cell _ (by
   have h2 : t < (l0.length - (i + (l0.length - j))) * 2 := ht
   show _ < cap * 2; omega)).2)
 obtain ⟨⟨cur2, HO2⟩, hG2⟩ := HO1.beyond ((i + (l0.length - j)) * 2) (Builtin.zeroCells #[.int .i64 0, .int .i64 0] (l0.length - (i + (l0.length - j)))).toList (Nat.le_refl _) (by
  rw [zeroCells_len]; show (i + (l0.length - j)) * 2 + (l0.length - (i + (l0.length - j))) * 2 ≤ cap * 2; omega)
 have HE := Aside0.mk (And.intro HO2.shut ((grown_of_below (below_drew (Below.refl _ _)) (some g)).trans (hG1.trans hG2)))
 have hW : Hid (W1 = w.drew.setCells g (0 + i * 2) news) := hW1
 have hic : i ≤ cap := by omega
 have hjc : j ≤ cap := by omega
 have hne : ((i : Int) == j) = false := beq_eq_false_iff_ne.2 (by omega)
 clear hW1 hWe hG1 hG2 HO2 HO1 HO ho
 go_enter Try.func26, Try.ntmps26
 go_wp2_with fail
 go_region_law (refine step_append_room rfl (.tmp 22) (.tmp 25) 22 rfl 34 i0 2 Try.underlying22 hi0 hz1 g 0 i cap (by simp [Act.eval, Act.put]) A (l0.length - j) (cap - j) news (by simp [Act.eval, Act.put]) s1.out hsrc.out s2.out (by omega) s3.out ?_; rw [← hW.out])
 go_wp2
 go_ret
 exact ⟨rfl, HE.out⟩
theorem api_Move.calls (P0_ : Nat → Prop) (u9000_ : Value) (l0 : List S34) (a1 a2 : Int) (r : List S34) (w0 w : World) (hB : Below w0.heap.size w0 w) (ho0 : Kd.R k34 34 w w0.heap.size P0_ u9000_ l0) (h : api_Move.f l0 a1 a2 = some r) :
  Calls Try.prog 26 #[u9000_, .int .i64 a1, .int .i64 a2] w fun e w' => ∃ v0_ : Value, e = .returned v0_ ∧ Kd.R k34 34 w' w0.heap.size (fun k_ => (P0_ k_ ∨ w.heap.size ≤ k_)) v0_ r ∧ Below w0.heap.size w0 w' ∧ Kept w w' (fun k_ => P0_ k_) := by
 unfold api_Move.f at h
 by_cases hl : 0 ≤ a1 ∧ a1 < a2 ∧ a2 ≤ l0.length ∧ l0.length ≤ 1000000
 ·rw [if_pos hl] at h
  obtain rfl := Option.some.inj h
  obtain ⟨h0, h1, h2, h3⟩ := hl
  obtain ⟨i, rfl⟩ := Int.eq_ofNat_of_zero_le h0
  obtain ⟨j, rfl⟩ := Int.eq_ofNat_of_zero_le (show 0 ≤ a2 by omega)
  obtain ⟨g, co, rfl, gb, gl, cl, hg⟩ := Kd.R_form ho0 (by omega)
  refine (del_mv g co i j _ _ l0 w ho0 (by omega) (by omega)).mono ?_
  rintro e w' ⟨rfl, hR, hgr⟩
  refine ⟨_, rfl, Kd.R_mono hR (fun k hk => .inl hk), hB.grown hgr hB.size (fun k hk => by injection hk with hk; omega), ⟨hgr.size, fun i hi hS => hgr.block i hi (fun he => hS ?_)⟩⟩
  injection he with he
  subst he
  exact ho0.1 i (by simp [Value.ownBlock])
 ·rw [if_neg hl] at h; cases h
end Go.Proofs.Ytfbbfnadmnejeaa.X
namespace Go.Proofs.Ytfbbfnadmnejeaa.X
open Go.RowKit Go.Proofs.YtfbbfnadmnejeaaW.PrintWords Go.Proofs.YtfbbfnadmnejeaaW.PrintLast Go.Proofs.YtfbbfnadmnejeaaW.PrintMore
set_option linter.all false
theorem sl_Clone_mv (A0 : Option Addr) (c0 : Nat) (l0 : List S34) (w : World) (hr0 : Kd.C k34 w A0 l0.length l0) (hc0 : l0.length ≤ c0) (hl : l0.length < 1000000) :
  Calls Try.prog 29 #[.slice A0 l0.length c0] w fun e w' => ∃ v0_ : Value, e = .returned (v0_) ∧ Kd.R k34 34 w' w.heap.size (fun _ => True) v0_ l0 ∧ Below w.heap.size w w' := by
 have HR0 := Aside0.mk hr0
 have HL := Aside0.mk hl
 clear hr0 hl
 cases A0 with
 | none =>
  obtain rfl : l0 = [] := by
   rcases Nat.eq_zero_or_pos l0.length with h | h
   ·exact List.eq_nil_of_length_eq_zero h
   ·obtain ⟨ad, e, _⟩ := HR0.out.2.2 h
    cases e
  have he : ∀ w : World, (binOp .eql 22 (.slice none 0 c0) (.slice none 0 0)).run Try.prog w = .ok (.bool true) w := fun w => Lib.run_eql_slice_nil (P := Try.prog) w 22 34 none 0 c0 0 0 Try.underlying22
  go_enter Try.func29, Try.ntmps29
  go_wp2
  go_ret
  exact ⟨_, rfl, Kd.R_nil _ _ _ _ _, Below.refl _ _⟩
 | some ad =>
  have he : ∀ w : World, (binOp .eql 22 (.slice (some ad) l0.length c0) (.slice none 0 0)).run Try.prog w = .ok (.bool false) w := fun w => Lib.run_eql_slice_nil (P := Try.prog) w 22 34 (some ad) l0.length c0 0 0 Try.underlying22
  go_enter Try.func29, Try.ntmps29
  go_wp2_with (first | ((with_reducible refine gate_dst (N := 5) rfl ?_); refine Kd.R_lit k34 _ 34 ?hg (N := 5) ?hd (xs := ([] : List S34)) (inner := []) (ok := fun _ => True) (okp := fun _ => True) ?hr ?hp (fun _ hk => hk) trivial (Below.refl _ _) (Nat.le_refl _) (by simp) ?_; (case hd => rfl); (case hg => rfl); (case hr => first | (go_simp; done) | (go_simp; rfl)); (case hp => exact (Reps.none _ _)); intro v5 w5 ho5 hb5 hg_ hnew_; clear hg_ hnew_; have HO5 := Aside0.mk ho5; have HB5 := Aside0.mk hb5; clear ho5 hb5) | ((with_reducible refine gate_builtin (b := .append) (xs := #[.tmp 5, .tmp 6]) rfl ?_); at_builtin; refine Kd.R_append_rows k34 (w0 := w) w.heap.size rfl (.tmp 5) (.tmp 6) 22 34 (.agg #[.int .i64 0, .int .i64 0]) 16 rfl Try.underlying22 info34 rfl (by decide) (by omega) v5 ([] : List S34) l0 _ _ _ (fun _ => True) (fun _ => False) rfl rfl ?aO ?aR (fun _ _ h => h) (fun _ h => h.elim) ?aF ?aB ?aS ?aL ?_; (case aR => exact Kd.C_below HR0.out HB5.out); (case aB => exact HB5.out); (case aF => exact (fun _ _ => trivial)); (case aO => exact HO5.out); (case aS => exact (below_size HB5.out)); (case aL => have := HL.out; simp; omega); intro v7 w7 ho hb hg hat; rw [List.nil_append] at ho; have HO7 := Aside0.mk ho; have HB7 := Aside0.mk hb; clear ho hb hg hat))
  go_ret
  exact ⟨_, rfl, HO7.out, HB7.out⟩
theorem sl_Clone_u16 (A0 : Option Addr) (c0 : Nat) (l0 : List Int) (w : World) (hr0 : Kd.C (Kd.int .u16) w A0 l0.length l0) (hc0 : l0.length ≤ c0) (hl : l0.length < 1000000) :
  Calls Try.prog 20 #[.slice A0 l0.length c0] w fun e w' => ∃ v0_ : Value, e = .returned (v0_) ∧ Kd.R (Kd.int .u16) 35 w' w.heap.size (fun _ => True) v0_ l0 ∧ Below w.heap.size w w' := by
 have HR0 := Aside0.mk hr0
 have HL := Aside0.mk hl
 clear hr0 hl
 cases A0 with
 | none =>
  obtain rfl : l0 = [] := by
   rcases Nat.eq_zero_or_pos l0.length with h | h
   ·exact List.eq_nil_of_length_eq_zero h
   ·obtain ⟨ad, e, _⟩ := HR0.out.2.2 h
    cases e
  have he : ∀ w : World, (binOp .eql 23 (.slice none 0 c0) (.slice none 0 0)).run Try.prog w = .ok (.bool true) w := fun w => Lib.run_eql_slice_nil (P := Try.prog) w 23 35 none 0 c0 0 0 Try.underlying23
  go_enter Try.func20, Try.ntmps20
  go_wp2
  go_ret
  exact ⟨_, rfl, Kd.R_nil _ _ _ _ _, Below.refl _ _⟩
 | some ad =>
  have he : ∀ w : World, (binOp .eql 23 (.slice (some ad) l0.length c0) (.slice none 0 0)).run Try.prog w = .ok (.bool false) w := fun w => Lib.run_eql_slice_nil (P := Try.prog) w 23 35 (some ad) l0.length c0 0 0 Try.underlying23
  go_enter Try.func20, Try.ntmps20
  go_wp2_with (first | ((with_reducible refine gate_dst (N := 5) rfl ?_); refine Kd.R_lit (Kd.int .u16) _ 35 ?hg (N := 5) ?hd (xs := ([] : List Int)) (inner := []) (ok := fun _ => True) (okp := fun _ => True) ?hr ?hp (fun _ hk => hk) trivial (Below.refl _ _) (Nat.le_refl _) (by simp) ?_; (case hd => rfl); (case hg => rfl); (case hr => first | (go_simp; done) | (go_simp; rfl)); (case hp => exact (Reps.none _ _)); intro v5 w5 ho5 hb5 hg_ hnew_; clear hg_ hnew_; have HO5 := Aside0.mk ho5; have HB5 := Aside0.mk hb5; clear ho5 hb5) | ((with_reducible refine gate_builtin (b := .append) (xs := #[.tmp 5, .tmp 6]) rfl ?_); at_builtin; refine Kd.R_append_rows (Kd.int .u16) (w0 := w) w.heap.size rfl (.tmp 5) (.tmp 6) 23 35 (.int .u16 0) 2 rfl Try.underlying23 info35 rfl (by decide) (by omega) v5 ([] : List Int) l0 _ _ _ (fun _ => True) (fun _ => False) rfl rfl ?aO ?aR (fun _ _ h => h) (fun _ h => h.elim) ?aF ?aB ?aS ?aL ?_; (case aR => exact Kd.C_below HR0.out HB5.out); (case aB => exact HB5.out); (case aF => exact (fun _ _ => trivial)); (case aO => exact HO5.out); (case aS => exact (below_size HB5.out)); (case aL => have := HL.out; simp; omega); intro v7 w7 ho hb hg hat; rw [List.nil_append] at ho; have HO7 := Aside0.mk ho; have HB7 := Aside0.mk hb; clear ho hb hg hat))
  go_ret
  exact ⟨_, rfl, HO7.out, HB7.out⟩
def PredM (g : FuncId) (lb : Array Value) (p : S34 → Bool) (l : List S34) (w : World) (row : Option Nat) : Prop :=
 ∀ x ∈ l, ∀ W : World, w.grownBy W row → Calls Try.prog g (#[.agg #[.int .i64 x.f0, .int .i64 x.f1]] ++ lb) W fun e w' => e = .returned (.bool (p x)) ∧ Below W.heap.size W w'
def idxF {α : Type} (p : α → Bool) : List α → Int → Int
 | [], _ => -1
 | x :: l, i => if p x = true then i else idxF p l (i + 1)
theorem idxF_hit {α : Type} (p : α → Bool) (z : α) : ∀ (l : List α) (i : Int) (k : Nat), k < l.length → (∀ j, j < k → p (l.getD j z) = false) → p (l.getD k z) = true → idxF p l i = i + k
 | [], _, _, h, _, _ => absurd h (Nat.not_lt_zero _)
 | x :: l, i, 0, _, _, hp => by simp at hp; simp [idxF, hp]
 | x :: l, i, k + 1, h, hj, hp => by
  have h0 : p x = false := by simpa using hj 0 (by omega)
  have := idxF_hit p z l (i + 1) k (by simpa using h) (fun j hj' => by simpa using hj (j + 1) (by omega)) (by simpa using hp)
  simp only [idxF, h0, Bool.false_eq_true, if_false, this]
  omega
theorem idxF_miss {α : Type} (p : α → Bool) (z : α) : ∀ (l : List α) (i : Int), (∀ j, j < l.length → p (l.getD j z) = false) → idxF p l i = -1
 | [], _, _ => rfl
 | x :: l, i, h => by
  have h0 : p x = false := by simpa using h 0 (by simp)
  simp only [idxF, h0, Bool.false_eq_true, if_false]
  exact idxF_miss p z l (i + 1) (fun j hj => by simpa using h (j + 1) (by simpa using hj))
theorem getD_mem {α : Type} (l : List α) (k : Nat) (z : α) (h : k < l.length) : l.getD k z ∈ l := by
 rw [List.getD_eq_getElem?_getD, List.getElem?_eq_getElem h]
 exact List.getElem_mem h
theorem wrap64_small (n : Int) (h0 : -9223372036854775808 ≤ n) (h1 : n ≤ 9223372036854775807) : wrap64 n = n := by unfold wrap64; omega
set_option maxHeartbeats 2000000 in
theorem sl_IndexFunc_mv (A0 : Option Addr) (c0 : Nat) (l0 : List S34) (g : Nat) (lb : Array Value) (p : S34 → Bool) (row : Option Nat) (w : World) (eg : ∀ args w, (callFunc g args).run Try.prog w = .ok (.enter g args) w)
  (hr0 : Kd.C k34 w A0 l0.length l0) (hc0 : l0.length ≤ c0) (hp : PredM g lb p l0 w row) :
  Calls Try.prog 27 #[.slice A0 l0.length c0, .func (.func g) #[] lb] w fun e w' => e = .returned (.int .i64 (idxF p l0 0)) ∧ Below w.heap.size w w' := by
 have HR0 := Aside0.mk hr0
 have HP := Aside0.mk hp
 have hm := hr0.2.1
 clear hr0 hp
 go_enter Try.func27, Try.ntmps27
 go_wp2
 go_loopg [5, 8] l0.length (fun gg _ s8 wr => ∃ x : Int, s8 = .int .i64 x ∧ Aside0 (0 ≤ x ∧ x ≤ l0.length ∧ l0.length - x ≤ gg) ∧ Aside0 (Below w.heap.size w wr) ∧ Aside0 (∀ j : Nat, (j : Int) < x → p (l0.getD j z34) = false))
 case atStart => exact ⟨0, rfl, ⟨by omega⟩, ⟨Below.refl _ _⟩, ⟨fun j hj => by omega⟩⟩
 case round =>
  obtain ⟨x, rfl, HX, HB, HA⟩ := hrel
  obtain ⟨hx0, hx1, hg⟩ := HX.out
  by_cases hlt : x < (l0.length : Int)
  ·have hd : decide (x < (l0.length : Int)) = true := decide_eq_true hlt
   obtain ⟨ad, e1, hx, hy⟩ := at_T34 (Kd.C_below HR0.out HB.out) x hx0 hlt
   cases e1
   have HK := Aside0.mk (show ((x.toNat : Nat) : Int) = x ∧ x.toNat < l0.length by omega)
   have hcall := HP.out (rd_T34 l0 x) (getD_mem l0 _ z34 HK.out.2) wr (grown_of_below HB.out row)
   have p0 := eq_true hx0
   have q0 := eq_true hlt
   clear hx0 hlt hx1 hg
   cases hq : p (rd_T34 l0 x) with
   | true =>
    rw [hq] at hcall
    have HC := Aside0.mk hcall
    have HQ := Aside0.mk hq
    clear hcall hq
    go_wp2_with (go_at_fn g; refine HC.out.mono ?_; rintro e w' ⟨rfl, hb⟩; have HB2 := Aside0.mk (below_step HB.out hb); clear hb)
    go_ret
    refine ⟨?_, HB2.out⟩
    have := idxF_hit p z34 l0 0 x.toNat HK.out.2 (fun j hj => HA.out j (by have := HK.out.1; omega)) HQ.out
    rw [this, HK.out.1, Int.zero_add]
    rfl
   | false =>
    rw [hq] at hcall
    have HC := Aside0.mk hcall
    have HQ := Aside0.mk hq
    clear hcall hq
    go_wp2_with (go_at_fn g; refine HC.out.mono ?_; rintro e w' ⟨rfl, hb⟩; have HB2 := Aside0.mk (below_step HB.out hb); clear hb)
    go_roundg (l0.length - (x.toNat + 1))
    case measure => have := HK.out; have := HX.out; omega
    case rel =>
     refine ⟨_, rfl, ⟨?_⟩, HB2, ⟨fun j hj => ?_⟩⟩
     ·rw [wrap64_small _ (by have := HK.out; omega) (by have := HK.out; omega)]
      have := HK.out; have := HX.out; omega
     ·rw [wrap64_small _ (by have := HK.out; omega) (by have := HK.out; omega)] at hj
      by_cases e : j = x.toNat
      ·subst e
       exact HQ.out
      ·exact HA.out j (by have := HK.out; omega)
  ·have hd : decide (x < (l0.length : Int)) = false := decide_eq_false hlt
   have HK := Aside0.mk (show x = l0.length by omega)
   clear hx0 hlt hx1 hg
   go_wp2
   go_ret
   refine ⟨?_, HB.out⟩
   rw [idxF_miss p z34 l0 0 (fun j hj => HA.out j (by have := HK.out; omega))]
   rfl
theorem idxF_spec {α : Type} (p : α → Bool) (z : α) (l : List α) : (idxF p l 0 = -1 ∧ ∀ j, j < l.length → p (l.getD j z) = false) ∨ ∃ k : Nat, k < l.length ∧ idxF p l 0 = k ∧ p (l.getD k z) = true ∧ ∀ j, j < k → p (l.getD j z) = false := by
 by_cases h : ∃ k, k < l.length ∧ p (l.getD k z) = true
 ·obtain ⟨k, ⟨hk, hp⟩, hmin⟩ := exists_least h
  have hlow : ∀ j, j < k → p (l.getD j z) = false := fun j hj => by
   cases hq : p (l.getD j z) with
   | false => rfl
   | true => have := hmin j ⟨by omega, hq⟩; omega
  exact .inr ⟨k, hk, by rw [idxF_hit p z l 0 k hk hlow hp, Int.zero_add], hp, hlow⟩
 ·have hall : ∀ j, j < l.length → p (l.getD j z) = false := fun j hj => by
   cases hq : p (l.getD j z) with
   | false => rfl
   | true => exact absurd ⟨j, hj, hq⟩ h
  exact .inl ⟨idxF_miss p z l 0 hall, hall⟩
theorem sl_ContainsFunc_mv (A0 : Option Addr) (c0 : Nat) (l0 : List S34) (g : Nat) (lb : Array Value) (p : S34 → Bool) (row : Option Nat) (w : World) (eg : ∀ args w, (callFunc g args).run Try.prog w = .ok (.enter g args) w)
  (hr0 : Kd.C k34 w A0 l0.length l0) (hc0 : l0.length ≤ c0) (hp : PredM g lb p l0 w row) :
  Calls Try.prog 21 #[.slice A0 l0.length c0, .func (.func g) #[] lb] w fun e w' => e = .returned (.bool (decide (0 ≤ idxF p l0 0))) ∧ Below w.heap.size w w' := by
 have HC := Aside0.mk (sl_IndexFunc_mv A0 c0 l0 g lb p row w eg hr0 hc0 hp)
 clear hr0 hp
 go_enter Try.func21, Try.ntmps21
 go_wp2_with (go_at_call 27; refine HC.out.mono ?_; rintro e w' ⟨rfl, hb⟩; have HB := Aside0.mk hb; clear hb)
 go_ret
 exact ⟨rfl, HB.out⟩
end Go.Proofs.Ytfbbfnadmnejeaa.X
namespace Go.Proofs.Ytfbbfnadmnejeaa.X
open Go.Shelf Go.RowKit Go.Proofs.YtfbbfnadmnejeaaW.PrintWords Go.Proofs.YtfbbfnadmnejeaaW.PrintLast Go.Proofs.YtfbbfnadmnejeaaW.PrintMore
set_option linter.all false
def freeP (l : List S34) (m : S34) : Bool := !(decide (0 ≤ idxF (fun n : S34 => n.f1 == m.f0) l 0))
def copies_free.f (l0 : List S34) : Option Int := some (idxF (freeP l0) l0 0)
theorem free_inner (x : S34) (a b : Int) (g : Nat) (w : World) (hb : w.heap[g]? = some (.cells #[.int .i64 a, .int .i64 b] 34 (0, 0))) :
  Calls Try.prog 32 #[.agg #[.int .i64 x.f0, .int .i64 x.f1], .pointer (some ⟨g, 0, none⟩)] w fun e w' => e = .returned (.bool (x.f1 == a)) ∧ Below w.heap.size w w' := by
 have BG := Aside0.mk hb
 clear hb
 go_enter Try.func32, Try.ntmps32
 go_wp2_with (((with_reducible refine gate_dst (N := 2) rfl ?_); refine box_event ?hg (N := 2) ?hd (cs := #[.int .i64 x.f0, .int .i64 x.f1]) (t := 34) ?hr ?_; (case hd => rfl); (case hg => rfl); (case hr => first | (go_simp; done) | (go_simp; rfl)); intro gb hg w4 hbox hb; have HB4 := Aside0.mk hb; have hcz0 := (blk_cell hbox 0).trans rfl; have hcz1 := (blk_cell hbox 1).trans rfl; have hcy0 : w4.cell? ⟨g, 0, none⟩ = some (.int .i64 a) := (blk_cell (blk_below BG.out hb) 0).trans rfl; clear hbox hb hg))
 go_ret
 exact ⟨rfl, HB4.out⟩
theorem free_outer (A : Option Addr) (c : Nat) (l : List S34) (x : S34) (g : Nat) (w : World) (hr : Kd.C k34 w A l.length l) (hc : l.length ≤ c) (hb : w.heap[g]? = some (.cells #[.slice A l.length c] 22 (0, 0))) :
  Calls Try.prog 31 #[.agg #[.int .i64 x.f0, .int .i64 x.f1], .pointer (some ⟨g, 0, none⟩)] w fun e w' => e = .returned (.bool (freeP l x)) ∧ Below w.heap.size w w' := by
 have BG := Aside0.mk hb
 have HR := Aside0.mk hr
 have HE := Aside0.mk (rfl : freeP l x = !(decide (0 ≤ idxF (fun n : S34 => n.f1 == x.f0) l 0)))
 have HCC := Aside0.mk hc
 clear hb hr hc
 go_enter Try.func31, Try.ntmps31
 go_wp2_with (first | ((with_reducible refine gate_dst (N := 2) rfl ?_); refine box_event ?hg (N := 2) ?hd (cs := #[.int .i64 x.f0, .int .i64 x.f1]) (t := 34) ?hr ?_; (case hd => rfl); (case hg => rfl); (case hr => first | (go_simp; done) | (go_simp; rfl)); intro gb hg w4 hbox hb; have HB4 := Aside0.mk hb; have BK := Aside0.mk hbox; have hcy0 : w4.cell? ⟨g, 0, none⟩ = some (.slice A l.length c) := (blk_cell (blk_below BG.out hb) 0).trans rfl; clear hbox hb hg) | (go_at_call 21; refine (sl_ContainsFunc_mv A c l 32 #[.pointer (some ⟨gb, 0, none⟩)] (fun n => n.f1 == x.f0) none _ (enters_of Try.func32 (by kernel_rfl) rfl) (Kd.C_below HR.out HB4.out) HCC.out (fun y hy W hW => free_inner y x.f0 x.f1 gb W (blk_grown BK.out hW (by simp)))).mono ?_; rintro e w' ⟨rfl, hb⟩; have HB := Aside0.mk (below_step HB4.out hb); clear hb))
 go_ret
 exact ⟨rfl, HB.out⟩
theorem copies_free.calls (A0 : Option Addr) (c0 : Nat) (l0 : List S34) (r : Int) (w : World) (hr0 : Kd.C k34 w A0 l0.length l0) (hc0 : l0.length ≤ c0) (h : copies_free.f l0 = some r) :
  Calls Try.prog 25 #[.slice A0 l0.length c0] w fun e w' => e = .returned (.int .i64 r) ∧ Below w.heap.size w w' := by
 have HN := Aside0.mk (Option.some.inj h)
 have HR := Aside0.mk hr0
 have HCC := Aside0.mk hc0
 clear h hr0 hc0
 go_enter Try.func25, Try.ntmps25
 go_wp2_with (first | ((with_reducible refine gate_dst (N := 1) rfl ?_); refine box_event ?hg (N := 1) ?hd (cs := #[.slice A0 l0.length c0]) (t := 22) ?hr ?_; (case hd => rfl); (case hg => rfl); (case hr => first | (go_simp; done) | (go_simp; rfl)); intro gb hg w4 hbox hb; have HB4 := Aside0.mk hb; have BK := Aside0.mk hbox; have hcy0 : w4.cell? ⟨gb, 0, none⟩ = some (.slice A0 l0.length c0) := (blk_cell hbox 0).trans rfl; clear hbox hb hg) | (go_at_call 27; refine (sl_IndexFunc_mv A0 c0 l0 31 #[.pointer (some ⟨gb, 0, none⟩)] (freeP l0) none _ (enters_of Try.func31 (by kernel_rfl) rfl) (Kd.C_below HR.out HB4.out) HCC.out (fun y hy W hW => free_outer A0 c0 l0 y gb W (Kd.C_below HR.out (HB4.out.grown hW (below_size HB4.out) (by simp))) HCC.out (blk_grown BK.out hW (by simp)))).mono ?_; rintro e w' ⟨rfl, hb⟩; have HB := Aside0.mk (below_step HB4.out hb); clear hb))
 go_ret
 exact ⟨by rw [← HN.out]; rfl, HB.out⟩
end Go.Proofs.Ytfbbfnadmnejeaa.X
namespace Go.Proofs.Ytfbbfnadmnejeaa.X
open Go.Shelf Go.RowKit Go.Proofs.YtfbbfnadmnejeaaW.PrintWords Go.Proofs.YtfbbfnadmnejeaaW.PrintLast Go.Proofs.YtfbbfnadmnejeaaW.PrintMore
set_option linter.all false
theorem filter_all {α : Type} (p : α → Bool) (z : α) (l : List α) (h : ∀ j, j < l.length → p (l.getD j z) = false) : l.filter (fun x => !p x) = l := by
 apply List.filter_eq_self.2
 intro x hx
 obtain ⟨j, hj, rfl⟩ := List.getElem_of_mem hx
 have := h j hj
 rw [List.getD_eq_getElem?_getD, List.getElem?_eq_getElem hj] at this
 simpa using this
structure KeptI {α : Type} (p : α → Bool) (l d : List α) (i j : Nat) : Prop where
 len : d.length = l.length
 lo : d.take i = (l.take j).filter (fun x => !p x)
 hi : d.drop j = l.drop j
 lt : i < j
 le : j ≤ l.length
theorem take_one {α : Type} (l : List α) (j : Nat) (z : α) (h : j < l.length) : l.take (j + 1) = l.take j ++ [l.getD j z] := by
 rw [List.take_succ_eq_append_getElem h, List.getD_eq_getElem?_getD, List.getElem?_eq_getElem h]
 rfl
theorem KeptI.start {α : Type} {p : α → Bool} (z : α) {l : List α} {k : Nat} (hk : k < l.length) (hp : p (l.getD k z) = true) (hlow : ∀ j, j < k → p (l.getD j z) = false) : KeptI p l l k (k + 1) := by
 refine ⟨rfl, ?_, rfl, by omega, by omega⟩
 rw [take_one l k z hk, List.filter_append, filter_all p z (l.take k) (fun j hj => by
  rw [List.length_take] at hj
  rw [List.getD_eq_getElem?_getD, List.getElem?_take, if_pos (by omega), ← List.getD_eq_getElem?_getD]
  exact hlow j (by omega))]
 simp only [List.filter_cons, List.filter_nil, hp, Bool.not_true, Bool.false_eq_true, if_false, List.append_nil]
theorem KeptI.same {α : Type} {p : α → Bool} {l d : List α} {i j : Nat} (h : KeptI p l d i j) (z : α) (hj : j < l.length) : d.getD j z = l.getD j z := by
 have := congrArg (fun x => x.getD 0 z) h.hi
 simpa [List.getD_eq_getElem?_getD] using this
theorem KeptI.skip {α : Type} {p : α → Bool} {l d : List α} {i j : Nat} (h : KeptI p l d i j) (z : α) (hj : j < l.length) (hp : p (l.getD j z) = true) : KeptI p l d i (j + 1) := by
 refine ⟨h.len, ?_, ?_, by have := h.lt; omega, hj⟩
 ·rw [take_one l j z hj, List.filter_append, ← h.lo]
  simp only [List.filter_cons, List.filter_nil, hp, Bool.not_true, Bool.false_eq_true, if_false, List.append_nil]
 ·rw [← List.drop_drop, ← List.drop_drop, h.hi]
theorem KeptI.keep {α : Type} {p : α → Bool} {l d : List α} {i j : Nat} (h : KeptI p l d i j) (z : α) (hj : j < l.length) (hp : p (l.getD j z) = false) : KeptI p l (d.set i (l.getD j z)) (i + 1) (j + 1) := by
 have hij := h.lt
 have hl := h.len
 refine ⟨by rw [List.length_set, h.len], ?_, ?_, by omega, hj⟩
 ·rw [take_one _ i z (by rw [List.length_set]; omega), take_one l j z hj, List.filter_append, ← h.lo]
  have e1 : (d.set i (l.getD j z)).take i = d.take i := List.take_set_of_le (Nat.le_refl i)
  have e2 : (d.set i (l.getD j z)).getD i z = l.getD j z := by
   rw [List.getD_eq_getElem?_getD, List.getElem?_set_self (by omega)]; rfl
  rw [e1, e2]
  simp only [List.filter_cons, List.filter_nil, hp, Bool.not_false, if_true]
 ·rw [← List.drop_drop, ← List.drop_drop, ← h.hi, List.drop_set_of_lt hij]
theorem KeptI.done {α : Type} {p : α → Bool} {l d : List α} {i : Nat} (h : KeptI p l d i l.length) : d.take i = l.filter (fun x => !p x) := by
 rw [h.lo, List.take_length]
theorem R_read_mv {e base g n cap : Nat} {ok : Nat → Prop} {W : World} {xs : List S34} (h : Kd.R k34 e W base ok (.slice (some ⟨g, 0, none⟩) n cap) xs) (i : Nat) (hi : i < n) :
  (W.cell? ⟨g, i * 2, none⟩ = some (.int .i64 (xs.getD i z34).f0) ∧ W.cell? ⟨g, i * 2 + 1, none⟩ = some (.int .i64 (xs.getD i z34).f1)) ∧ W.frozen? ⟨g, i * 2, none⟩ = false ∧ W.frozen? ⟨g, i * 2 + 1, none⟩ = false := by
 obtain ⟨c, hl, hM, hc, hf⟩ := Kd.R_elem h z34 (i : Int) (by omega) (by omega)
 obtain rfl := k34_openM hM
 rw [Int.toNat_natCast] at hc hf
 exact ⟨⟨hc 0 _ rfl, hc 1 _ rfl⟩, hf 0, hf 1⟩
theorem R_write_mv {e base g n cap : Nat} {ok : Nat → Prop} {W : World} {xs : List S34} (h : Kd.R k34 e W base ok (.slice (some ⟨g, 0, none⟩) n cap) xs) (i : Nat) (hi : i < n) (u : S34) :
  Kd.R k34 e ((W.setCell ⟨g, i * 2, none⟩ (.int .i64 u.f0)).setCell ⟨g, i * 2 + 1, none⟩ (.int .i64 u.f1)) base ok (.slice (some ⟨g, 0, none⟩) n cap) (xs.set i u) ∧ W.grownBy ((W.setCell ⟨g, i * 2, none⟩ (.int .i64 u.f0)).setCell ⟨g, i * 2 + 1, none⟩ (.int .i64 u.f1)) (some g) := by
 obtain ⟨cur, HO⟩ := R_open h
 obtain ⟨⟨cur1, h1⟩, h2⟩ := HO.put i hi u [.int .i64 u.f0, .int .i64 u.f1] (k34_mkM _ _ _ u)
 exact ⟨h1.shut, h2⟩
set_option maxHeartbeats 4000000 in
set_option maxRecDepth 100000 in
theorem sl_DeleteFunc_mv (v : Value) (l0 : List S34) (base : Nat) (ok : Nat → Prop) (g : Nat) (lb : Array Value) (p : S34 → Bool) (w : World) (eg : ∀ args w, (callFunc g args).run Try.prog w = .ok (.enter g args) w)
  (ho : Kd.R k34 34 w base ok v l0) (hp : PredM g lb p l0 w v.ownBlock) :
  Calls Try.prog 28 #[v, .func (.func g) #[] lb] w fun e w' => ∃ v' : Value, e = .returned v' ∧ Kd.R k34 34 w' base ok v' (l0.filter fun x => !p x) ∧ w.grownBy w' v.ownBlock ∧ v'.ownBlock = v.ownBlock := by
 obtain ⟨A, c, rfl, hc, hC⟩ := Kd.R_reads ho
 have hIF := Aside0.mk (sl_IndexFunc_mv A c l0 g lb p _ w eg hC hc hp)
 have HO := Aside0.mk ho
 have HP := Aside0.mk hp
 have hm := hC.2.1
 clear ho hp hC
 rcases idxF_spec p z34 l0 with ⟨e1, hall⟩ | ⟨k0, hk0, e1, ht, hlow⟩
 ·have HF := Aside0.mk (filter_all p z34 l0 hall)
  rw [e1] at hIF
  clear hall e1
  go_enter Try.func28, Try.ntmps28
  go_wp2_with (go_at_call 27; refine hIF.out.mono ?_; rintro e w' ⟨rfl, hb⟩; have HB := Aside0.mk hb; clear hb)
  go_ret
  exact ⟨_, rfl, by rw [HF.out]; exact Kd.R_below HO.out HB.out, grown_of_below HB.out _, rfl⟩
 ·rw [e1] at hIF
  obtain ⟨go, co, eo, gb, gl, cl, hg0⟩ := Kd.R_form HO.out (by omega)
  injection eo with ea _ ec
  subst ea; subst ec
  have HK := Aside0.mk (KeptI.start z34 hk0 ht hlow)
  have HGL := Aside0.mk gl
  clear ht hlow e1 gb hg0 gl
  have hne1 : ((k0 : Int) == -1) = false := beq_eq_false_iff_ne.2 (by omega)
  go_enter Try.func28, Try.ntmps28
  go_wp2_with (go_at_call 27; refine hIF.out.mono ?_; rintro e w' ⟨rfl, hb⟩; have HB := Aside0.mk hb; clear hb)
  go_loopg [5, 6] l0.length (fun gg s5 s6 wr => ∃ (i j : Nat) (d : List S34), s5 = .int .i64 i ∧ s6 = .int .i64 j ∧ l0.length - j ≤ gg ∧ Aside0 (KeptI p l0 d i j) ∧ Aside0 (Kd.R k34 34 wr base ok (.slice (some ⟨go, 0, none⟩) l0.length c) d) ∧ Aside0 (w.grownBy wr (some go)))
  case atStart => exact ⟨k0, k0 + 1, l0, rfl, by go_num, by omega, HK, ⟨Kd.R_below HO.out HB.out⟩, ⟨grown_of_below HB.out _⟩⟩
  case round =>
   obtain ⟨i, j, d, rfl, rfl, hgg, HK, HR, HG⟩ := hrel
   have hij := HK.out.lt
   have hjl := HK.out.le
   by_cases hlt : j < l0.length
   ·have hltz : (j : Int) < (l0.length : Int) := by omega
    obtain ⟨⟨hx0, hx1⟩, _⟩ := R_read_mv HR.out j hlt
    have HM := Aside0.mk (getD_mem l0 j z34 hlt)
    rw [HK.out.same z34 hlt] at hx0 hx1
    obtain ⟨u, HU⟩ : ∃ u, Aside0 (l0.getD j z34 = u) := ⟨_, ⟨rfl⟩⟩
    rw [HU.out] at hx0 hx1 HM
    have HW := Aside0.mk (show go < wr.heap.size from Nat.lt_of_lt_of_le HGL.out HG.out.size)
    cases hq : p u with
    | false =>
     have HQ := Aside0.mk hq
     clear hq
     go_wp2_with (first | ((with_reducible refine gate_dst (N := 7) rfl ?_); refine box_event ?hg (N := 7) ?hd (cs := #[.int .i64 0, .int .i64 0]) (t := 34) ?hr ?_; (case hd => rfl); (case hg => rfl); (case hr => first | (go_simp; done) | (go_simp; rfl)); intro gb hg w4 hbox hb; have BK := Aside0.mk hbox; have HB4 := Aside0.mk hb; have GE := Aside0.mk (show wr.heap.size ≤ gb by omega); have hcz0 := (blk_cell hbox 0).trans rfl; have hcz1 := (blk_cell hbox 1).trans rfl; have hfz0 := blk_frozen hbox 0; have hfz1 := blk_frozen hbox 1; clear hbox hb hg) | (go_at_fn g; go_loud (have HB5 := Aside0.mk (show Below wr.heap.size wr ((w4.setCell ⟨gb, 0, none⟩ (.int .i64 u.f0)).setCell ⟨gb, 1, none⟩ (.int .i64 u.f1)) from below_set (below_set HB4.out GE.out) GE.out); have hcall := HP.out u HM.out _ (HG.out.trans (grown_of_below HB5.out (some go))); rw [HQ.out] at hcall; refine hcall.mono ?_; clear hcall; rintro e w' ⟨rfl, hb⟩; have HB2 := Aside0.mk (below_step HB5.out hb); have BK2 := Aside0.mk (show w'.heap[gb]? = some (.cells #[.int .i64 u.f0, .int .i64 u.f1] 34 (0, 0)) from blk_below (blk_put (blk_put BK.out 0 (.int .i64 u.f0) rfl) 1 (.int .i64 u.f1) rfl) hb); clear hb hcz0 hcz1 hfz0 hfz1; have hcy0 := (blk_cell BK2.out 0).trans rfl; have hcy1 := (blk_cell BK2.out 1).trans rfl; obtain ⟨⟨hxi, hxi1⟩, hfi, hfi1⟩ := R_read_mv (Kd.R_below HR.out HB2.out) i (by omega))))
     go_roundg (l0.length - (j + 1))
     case measure => omega
     case rel =>
      have hput := R_write_mv (Kd.R_below HR.out HB2.out) i (by omega) u
      refine ⟨i + 1, j + 1, d.set i u, by go_num, by go_num, Nat.le_refl _, ⟨by have := HK.out.keep z34 hlt (by rw [HU.out]; exact HQ.out); rwa [HU.out] at this⟩, ⟨hput.1⟩, ⟨?_⟩⟩
      exact (HG.out.trans (grown_of_below HB2.out (some go))).trans hput.2
    | true =>
     have HQ := Aside0.mk hq
     clear hq
     go_wp2_with (first | ((with_reducible refine gate_dst (N := 7) rfl ?_); refine box_event ?hg (N := 7) ?hd (cs := #[.int .i64 0, .int .i64 0]) (t := 34) ?hr ?_; (case hd => rfl); (case hg => rfl); (case hr => first | (go_simp; done) | (go_simp; rfl)); intro gb hg w4 hbox hb; have BK := Aside0.mk hbox; have HB4 := Aside0.mk hb; have GE := Aside0.mk (show wr.heap.size ≤ gb by omega); have hcz0 := (blk_cell hbox 0).trans rfl; have hcz1 := (blk_cell hbox 1).trans rfl; have hfz0 := blk_frozen hbox 0; have hfz1 := blk_frozen hbox 1; clear hbox hb hg) | (go_at_fn g; go_loud (have HB5 := Aside0.mk (show Below wr.heap.size wr ((w4.setCell ⟨gb, 0, none⟩ (.int .i64 u.f0)).setCell ⟨gb, 1, none⟩ (.int .i64 u.f1)) from below_set (below_set HB4.out GE.out) GE.out); have hcall := HP.out u HM.out _ (HG.out.trans (grown_of_below HB5.out (some go))); rw [HQ.out] at hcall; refine hcall.mono ?_; clear hcall; rintro e w' ⟨rfl, hb⟩; have HB2 := Aside0.mk (below_step HB5.out hb); clear hb hcz0 hcz1 hfz0 hfz1)))
     go_roundg (l0.length - (j + 1))
     case measure => omega
     case rel => exact ⟨i, j + 1, d, rfl, by go_num, Nat.le_refl _, ⟨HK.out.skip z34 hlt (by rw [HU.out]; exact HQ.out)⟩, ⟨Kd.R_below HR.out HB2.out⟩, ⟨HG.out.trans (grown_of_below HB2.out (some go))⟩⟩
   ·obtain rfl : j = l0.length := by omega
    have hltz : ¬ (l0.length : Int) < (l0.length : Int) := by omega
    obtain ⟨cur, HOP⟩ := R_open (Kd.R_take HR.out (m := i) (by rw [HK.out.len]; omega))
    obtain ⟨_, HOF⟩ := R_open HR.out
    have HNC := HOF.nc
    have hcl : ∀ ty, (Builtin.clear_ #[22] ty #[.slice (some ⟨go, i * 2, none⟩) (l0.length - i) (c - i)]).run Try.prog wr = .ok (.tuple #[]) (wr.setCells go (i * 2) (Builtin.zeroCells #[.int .i64 0, .int .i64 0] (l0.length - i)).toList) :=
     fun ty => run_clear_any wr 22 34 ty (.agg #[.int .i64 0, .int .i64 0]) Try.underlying22 (fun w => by kernel_rfl) (by decide) go (i * 2) _ _ (by omega) (fun t ht => (HOF.cell _ (by
      have h2 : t < (l0.length - i) * 2 := ht
      show i * 2 + t < c * 2; omega)).1) (fun t ht => (HOF.cell _ (by
      have h2 : t < (l0.length - i) * 2 := ht
      show i * 2 + t < c * 2; omega)).2)
    obtain ⟨⟨cur2, HO2⟩, hG2⟩ := HOP.beyond (i * 2) (Builtin.zeroCells #[.int .i64 0, .int .i64 0] (l0.length - i)).toList (Nat.le_refl _) (by
     rw [zeroCells_len]; show i * 2 + (l0.length - i) * 2 ≤ c * 2; omega)
    have HE := Aside0.mk (And.intro HO2.shut (HG.out.trans hG2))
    have HD := Aside0.mk HK.out.done
    clear HOP HO2 hG2 HNC HOF
    go_wp2
    go_ret
    exact ⟨_, rfl, by rw [← HD.out]; exact HE.out.1, HE.out.2, rfl⟩
def copies_real.f (l0 : List S34) : Option (List S34) := if l0.length < 1000000 then some (l0.filter fun m => !(m.f0 == m.f1)) else none
theorem real_pred (x : S34) (w : World) : Calls Try.prog 30 #[.agg #[.int .i64 x.f0, .int .i64 x.f1]] w fun e w' => e = .returned (.bool (x.f0 == x.f1)) ∧ Below w.heap.size w w' := by
 go_enter Try.func30, Try.ntmps30
 go_wp2_with (((with_reducible refine gate_dst (N := 1) rfl ?_); refine box_event ?hg (N := 1) ?hd (cs := #[.int .i64 x.f0, .int .i64 x.f1]) (t := 34) ?hr ?_; (case hd => rfl); (case hg => rfl); (case hr => first | (go_simp; done) | (go_simp; rfl)); intro gb hg w4 hbox hb; have HB4 := Aside0.mk hb; have hcz0 := (blk_cell hbox 0).trans rfl; have hcz1 := (blk_cell hbox 1).trans rfl; clear hbox hb hg))
 go_ret
 exact ⟨rfl, HB4.out⟩
theorem copies_real.calls (A0 : Option Addr) (c0 : Nat) (l0 : List S34) (r : List S34) (w : World) (hr0 : Kd.C k34 w A0 l0.length l0) (hc0 : l0.length ≤ c0) (h : copies_real.f l0 = some r) :
  Calls Try.prog 24 #[.slice A0 l0.length c0] w fun e w' => ∃ v0_ : Value, e = .returned (v0_) ∧ Kd.R k34 34 w' w.heap.size (fun _ => True) v0_ r ∧ Below w.heap.size w w' := by
 unfold copies_real.f at h
 by_cases hl : l0.length < 1000000
 ·rw [if_pos hl] at h
  have HN := Aside0.mk (Option.some.inj h)
  clear h
  have HC := Aside0.mk (sl_Clone_mv A0 c0 l0 w hr0 hc0 hl)
  clear hr0 hc0 hl
  go_enter Try.func24, Try.ntmps24
  go_wp2_with (first | (go_at_call 29; refine HC.out.mono ?_; rintro e w' ⟨v0, rfl, ho, hb⟩; have HO := Aside0.mk ho; have HB := Aside0.mk hb; clear ho hb) | (go_at_call 28; refine (sl_DeleteFunc_mv v0 l0 w.heap.size (fun _ => True) 30 #[] (fun m => m.f0 == m.f1) _ (enters_of Try.func30 (by kernel_rfl) rfl) HO.out (fun x _ W _ => real_pred x W)).mono ?_; rintro e w' ⟨v1, rfl, ho, hg, _⟩; have n0_ := Aside0.mk (HB.out.grown hg (below_size HB.out) (Kd.R_base HO.out)); clear HO HB; have HO := Aside0.mk ho; have HB := n0_; clear n0_ ho hg))
  go_ret
  exact ⟨_, rfl, by rw [← HN.out]; exact HO.out, HB.out⟩
 ·rw [if_neg hl] at h; cases h
end Go.Proofs.Ytfbbfnadmnejeaa.X
namespace Go.Proofs.Ytfbbfnadmnejeaa.X
open Go.RowKit Go.Proofs.YtfbbfnadmnejeaaW.PrintWords Go.Proofs.YtfbbfnadmnejeaaW.PrintLast Go.Proofs.YtfbbfnadmnejeaaW.PrintMore
attribute [local go_sem] max2_int min2_int max_two min_two max_three min_three max_four min_four
set_option linter.all false
noncomputable section
mutual
def copies_row.l0 : Nat → List (S34) → Int → List (S34) → Int → Option ((List (S34)) × Int)
 | 0, _, _, _, _ => none
 | k + 1, x0, x1, x6, x7 => if (x0.length : Int) > 0 then ((copies_free.f x0).bind fun t104 => (if t104 ≥ 0 then (if 0 ≤ t104 then (if t104 < (x0.length : Int) then (if x6.length < 8796093022208 then ((api_Move.f x0 t104 (wrap64 (t104 + 1))).bind fun t109 => (copies_row.l0 k t109 x1 (x6 ++ [(⟨(rd_T34 x0 t104).f0, (rd_T34 x0 t104).f1⟩ : S34)]) x7)) else (none)) else (none)) else (none)) else (if 0 < (x0.length : Int) then (if x6.length < 8796093022208 then (copies_row.l1 k x0 x1 (x6 ++ [(⟨x1, (rd_T34 x0 0).f0⟩ : S34)]) (wrap64 (x7 + 1)) ((rd_T34 x0 0).f0) (x0.length : Int) 0) else (none)) else (none)))) else (some (x6, x7))
def copies_row.l1 : Nat → List (S34) → Int → List (S34) → Int → Int → Int → Int → Option ((List (S34)) × Int)
 | 0, _, _, _, _, _, _, _ => none
 | k + 1, x0, x1, x6, x7, x9, x45, x46 => if x46 < x45 then (if 0 ≤ x46 then (if x46 < (x0.length : Int) then (if ((rd_T34 x0 x46).f1) = x9 then (copies_row.l1 k (x0.set (x46 : Int).toNat (⟨(rd_T34 x0 x46).f0, x1⟩ : S34)) x1 x6 x7 x9 x45 (wrap64 (x46 + 1))) else (copies_row.l1 k x0 x1 x6 x7 x9 x45 (wrap64 (x46 + 1)))) else (none)) else (none)) else (copies_row.l0 k x0 x1 x6 x7)
end
def copies_row.f (k : Nat) (l0 : List (S34)) (a1 : Int) : Option ((List (S34)) × Int) := (copies_real.f l0).bind fun t101 => (copies_row.l0 k t101 a1 ([] : List (S34)) 0)
theorem copies_row.mono_l : ∀ k, (∀ y0 y1 y2 y3, LeO (copies_row.l0 k y0 y1 y2 y3) (copies_row.l0 (k + 1) y0 y1 y2 y3)) ∧ (∀ y0 y1 y2 y3 y4 y5 y6, LeO (copies_row.l1 k y0 y1 y2 y3 y4 y5 y6) (copies_row.l1 (k + 1) y0 y1 y2 y3 y4 y5 y6))
 | 0 => ⟨fun _ _ _ _ r h => by simp [copies_row.l0] at h, fun _ _ _ _ _ _ _ r h => by simp [copies_row.l1] at h⟩
 | k + 1 => by
  obtain ⟨ih0, ih1⟩ := copies_row.mono_l k
  refine ⟨?_, ?_⟩
  ·intro y0 y1 y2 y3
   unfold copies_row.l0
   repeat' first
   | (with_reducible exact ih0 _ _ _ _)
   | (with_reducible exact ih1 _ _ _ _ _ _ _)
   | (with_reducible exact LeO.refl _)
   | (with_reducible exact LeO.none _)
   | (with_reducible refine LeO.ite ?_ ?_)
   | (with_reducible refine LeO.bind ?_ (fun _ => ?_))
   | exact ih0 _ _ _ _
   | exact ih1 _ _ _ _ _ _ _
   | exact LeO.none _
   | refine LeO.ite ?_ ?_
   | refine LeO.bind ?_ (fun _ => ?_)
  ·intro y0 y1 y2 y3 y4 y5 y6
   unfold copies_row.l1
   repeat' first
   | (with_reducible exact ih0 _ _ _ _)
   | (with_reducible exact ih1 _ _ _ _ _ _ _)
   | (with_reducible exact LeO.refl _)
   | (with_reducible exact LeO.none _)
   | (with_reducible refine LeO.ite ?_ ?_)
   | (with_reducible refine LeO.bind ?_ (fun _ => ?_))
   | exact ih0 _ _ _ _
   | exact ih1 _ _ _ _ _ _ _
   | exact LeO.none _
   | refine LeO.ite ?_ ?_
   | refine LeO.bind ?_ (fun _ => ?_)
theorem copies_row.mono : ∀ a0 a1 k, LeO (copies_row.f k a0 a1) (copies_row.f (k + 1) a0 a1) := by
 intro a0 a1 k
 obtain ⟨ih0, ih1⟩ := copies_row.mono_l k
 unfold copies_row.f
 repeat' first
   | (with_reducible exact ih0 _ _ _ _)
   | (with_reducible exact ih1 _ _ _ _ _ _ _)
   | (with_reducible exact LeO.refl _)
   | (with_reducible exact LeO.none _)
   | (with_reducible refine LeO.ite ?_ ?_)
   | (with_reducible refine LeO.bind ?_ (fun _ => ?_))
   | exact ih0 _ _ _ _
   | exact ih1 _ _ _ _ _ _ _
   | exact LeO.none _
   | refine LeO.ite ?_ ?_
   | refine LeO.bind ?_ (fun _ => ?_)
set_option maxHeartbeats 8000000 in
set_option maxRecDepth 100000 in
theorem copies_row.calls (k : Nat) (A0 : Option Addr) (c0 : Nat) (l0 : List (S34)) (a1 : Int) (r1 : List (S34)) (r2 : Int) (w : World) (hr0 : Kd.C k34 w A0 l0.length l0) (hc0 : l0.length ≤ c0) (h : copies_row.f k l0 a1 = some (r1, r2)) :
  Calls Try.prog 18 #[.slice A0 l0.length c0, .int .i64 a1] w fun e w' => ∃ v0_ : Value, e = .returned (.tuple #[v0_, .int .i64 r2]) ∧ Kd.R k34 34 w' w.heap.size (fun _ => True) v0_ r1 ∧ Below w.heap.size w w' := by
 have hu34 := Try.underlying34
 have HR0 := Aside0.mk hr0
 have HC0 := Aside0.mk hc0
 clear hr0 hc0
 have HB := Aside0.mk (Below.refl w.heap.size w)
 have H : ((copies_real.f l0).bind fun t101 => (copies_row.l0 k t101 a1 ([] : List (S34)) 0)) = some (r1, r2) := h
 clear h
 replace H := Option.bind_eq_some_iff.mp H
 obtain ⟨t101, A30, H⟩ := H
 replace H : (copies_row.l0 k t101 a1 ([] : List (S34)) 0) = some (r1, r2) := H
 have A3 := Aside0.mk A30
 clear A30
 have H' := Aside0.mk H
 clear H
 go_enter Try.func18, Try.ntmps18
 go_wp2_with (first | ((with_reducible refine gate_callee (f := 24) rfl ?_); refine goesL_ (some 12) rfl rfl Try.func24 (by kernel_rfl) rfl #[.slice A0 l0.length c0] rfl (by (try simp only [List.map_toArray, List.map_cons, List.map_nil]); first | done | rfl | (simp only [List.length_drop, List.length_take]; rfl)) ?_; (with_reducible refine (copies_real.calls _ _ l0 t101 _ ?side1 ?side2 A3.out).mono ?_); (case side1 => repeat (first | exact HR0.out | (with_reducible refine Kd.C_alloc ?_ _) | (with_reducible refine Kd.C_drewN ?_ _) | (with_reducible refine Kd.C_drew ?_))); (case side2 => exact HC0.out); rintro e w4 ⟨v102, rfl, ho0, hb⟩; refine ⟨_, rfl, ?_⟩; have n0_ := Aside0.mk (Kd.R_lower ho0 (below_size (by repeat (first | (with_reducible first | exact HB.out | apply below_alloc | apply pw_below_drewN | apply below_drew1) | exact HB.out)))); have n1_ := Aside0.mk (below_step (by repeat (first | (with_reducible first | exact HB.out | apply below_alloc | apply pw_below_drewN | apply below_drew1) | exact HB.out)) hb); clear HB; have HO103 := n0_; have HB := n1_; clear n0_ n1_; (try clear hb); (try clear hb2); (try clear hk); (try clear hi); (try clear ho0)))
 go_loopg [0, 6, 7] k (fun kq v0 v6 v7 w' => ∃ (x0_1 : List (S34)) (x6_1 : List (S34)) (x7_1 : Int), v7 = .int .i64 x7_1 ∧ Aside0 (copies_row.l0 kq x0_1 a1 x6_1 x7_1 = some (r1, r2)) ∧ Aside0 (kq ≤ k) ∧ Aside0 (Kd.R k34 34 w' w.heap.size (fun k_ => some k_ ≠ (v6 : Value).ownBlock) v0 x0_1) ∧ Aside0 (Kd.R k34 34 w' w.heap.size (fun k_ => some k_ ≠ (v0 : Value).ownBlock) v6 x6_1) ∧ Aside0 (Below w.heap.size w w'))
 case atStart => exact ⟨(t101), (([] : List (S34))), (0), (by first | rfl | (simp; done) | (simp [*]; done)), H', ⟨Nat.le_refl _⟩, ⟨by (with_reducible repeat (first | apply Kd.R_alloc | apply Kd.R_drewN | apply Kd.R_drew)); exact Kd.R_mono HO103.out (fun _ hk => (by simp [Value.ownBlock]))⟩, ⟨by first | exact Kd.R_nil _ _ _ _ _ | exact Kd.N_nil _ _ _ _ _ | exact Kd.V_nil _ _ _ _ _ | exact Kd.Q_nil _ _ _ _ _ | exact Kd.S_nil _ _ _ _ _⟩, ⟨by repeat (first | (with_reducible first | exact HB.out | apply below_alloc | apply pw_below_drewN | apply below_drew1) | exact HB.out)⟩⟩
 case round =>
  clear H'
  try clear c1
  try clear c2
  try clear p2
  obtain ⟨x0_1, x6_1, x7_1, rfl, HA, HK1, HO_0, HO_6, HB⟩ := hrel
  cases gk with
  | zero => exact absurd HA.out (by simp [copies_row.l0])
  | succ k1 =>
   have H := HA.out
   clear HA
   simp only [copies_row.l0] at H
   by_cases c5 : (x0_1.length : Int) > 0
   ·rw [if_pos c5] at H
    have c5b0 : decide (0 < (x0_1.length : Int)) = true := decide_eq_true c5
    have c5b1 : decide (0 < x0_1.length) = true := decide_eq_true (by omega)
    clear c5
    replace H := Option.bind_eq_some_iff.mp H
    obtain ⟨t104, A60, H⟩ := H
    replace H : (if t104 ≥ 0 then (if 0 ≤ t104 then (if t104 < (x0_1.length : Int) then (if x6_1.length < 8796093022208 then ((api_Move.f x0_1 t104 (wrap64 (t104 + 1))).bind fun t109 => (copies_row.l0 k1 t109 a1 (x6_1 ++ [(⟨(rd_T34 x0_1 t104).f0, (rd_T34 x0_1 t104).f1⟩ : S34)]) x7_1)) else (none)) else (none)) else (none)) else (if 0 < (x0_1.length : Int) then (if x6_1.length < 8796093022208 then (copies_row.l1 k1 x0_1 a1 (x6_1 ++ [(⟨a1, (rd_T34 x0_1 0).f0⟩ : S34)]) (wrap64 (x7_1 + 1)) ((rd_T34 x0_1 0).f0) (x0_1.length : Int) 0) else (none)) else (none))) = some (r1, r2) := H
    have A6 := Aside0.mk A60
    clear A60
    by_cases c7 : t104 ≥ 0
    ·rw [if_pos c7] at H
     have c7b0 : decide (0 ≤ t104) = true := decide_eq_true c7
     clear c7
     by_cases c8 : 0 ≤ t104
     ·rw [if_pos c8] at H
      have c8b0 : decide (0 ≤ t104) = true := decide_eq_true c8
      clear c8
      by_cases c9 : t104 < (x0_1.length : Int)
      ·rw [if_pos c9] at H
       have c9b0 : decide (t104 < (x0_1.length : Int)) = true := decide_eq_true c9
       clear c9
       by_cases c10 : x6_1.length < 8796093022208
       ·rw [if_pos c10] at H
        have LMc10 := Aside0.mk c10
        clear c10
        obtain ⟨y106, hy106⟩ : ∃ y_ : List (S34), y_ = (x6_1 ++ [(⟨(rd_T34 x0_1 t104).f0, (rd_T34 x0_1 t104).f1⟩ : S34)]) := ⟨_, rfl⟩
        replace H : ((api_Move.f x0_1 t104 (wrap64 (t104 + 1))).bind fun t109 => (copies_row.l0 k1 t109 a1 y106 x7_1)) = some (r1, r2) := by first | (rw [hy106]; with_reducible exact H) | (have H2_ := (Option.bind_some _ _).symm.trans H; rw [hy106]; with_reducible exact H2_) | (have H2_ := (Option.bind_some _ _).symm.trans H; with_reducible exact H2_) | with_reducible exact H | (rw [hy106]; exact H) | exact H
        have Ny106 := Aside0.mk hy106
        clear hy106
        replace H := Option.bind_eq_some_iff.mp H
        obtain ⟨t109, A110, H⟩ := H
        replace H : (copies_row.l0 k1 t109 a1 y106 x7_1) = some (r1, r2) := H
        have A11 := Aside0.mk A110
        clear A110
        have H' := Aside0.mk H
        clear H
        obtain ⟨Ao12, co12, eo12⟩ := Kd.R_slice HO_0.out
        subst eo12
        go_wp2_with (first | ((with_reducible refine gate_callee (f := 25) rfl ?_); refine goesL_ (some 17) rfl rfl Try.func25 (by kernel_rfl) rfl #[.slice Ao12 x0_1.length co12] rfl (by (try simp only [List.map_toArray, List.map_cons, List.map_nil]); first | done | rfl | (simp only [List.length_drop, List.length_take]; rfl)) ?_; (with_reducible refine (copies_free.calls _ _ x0_1 t104 _ ?side1 ?side2 A6.out).mono ?_); (case side1 => repeat (first | exact (Kd.R_reads' HO_0.out).2.2 | (with_reducible refine Kd.C_alloc ?_ _) | (with_reducible refine Kd.C_drewN ?_ _) | (with_reducible refine Kd.C_drew ?_))); (case side2 => exact (Kd.R_reads' HO_0.out).2.1); rintro e w13 ⟨rfl, hb⟩; refine ⟨_, rfl, ?_⟩; have n0_ := Aside0.mk (Kd.R_below (by (with_reducible repeat (first | apply Kd.R_alloc | apply Kd.R_drewN | apply Kd.R_drew)); exact HO_0.out) hb); have n1_ := Aside0.mk (Kd.R_below (by (with_reducible repeat (first | apply Kd.R_alloc | apply Kd.R_drewN | apply Kd.R_drew)); exact HO_6.out) hb); have n2_ := Aside0.mk (below_step (by repeat (first | (with_reducible first | exact HB.out | apply below_alloc | apply pw_below_drewN | apply below_drew1) | exact HB.out)) hb); clear HO_0; clear HO_6; clear HB; have HO_0 := n0_; have HO_6 := n1_; have HB := n2_; clear n0_ n1_ n2_; (try clear hb); (try clear hb2); (try clear hk); (try clear hi); have p105 : 0 ≤ (t104 : Int) := of_decide_eq_true (by first | (with_reducible assumption) | assumption); have q105 : t104 < (x0_1.length : Int) := of_decide_eq_true (by first | (with_reducible assumption) | assumption); obtain ⟨ad105, e105, hx105_0, hx105_1⟩ := at_T34 (Kd.R_reads' HO_0.out).2.2 t104 p105 q105; cases e105; replace p105 := eq_true p105; replace q105 := eq_true q105) | ((with_reducible refine gate_builtin (b := .append) (xs := #[.tmp 20, .tmp 25]) rfl ?_); at_builtin; refine Kd.R_append k34 (w0 := w) w.heap.size rfl (.tmp 20) (.tmp 25) 22 34 (.agg #[(.int .i64 0), (.int .i64 0)]) 16 rfl Try.underlying22 info34 rfl (by decide) (by omega) u6 x6_1 (⟨(rd_T34 x0_1 t104).f0, (rd_T34 x0_1 t104).f1⟩ : S34) [.int .i64 ((rd_T34 x0_1 t104).f0), .int .i64 ((rd_T34 x0_1 t104).f1)] (fun k_ => some k_ ≠ (.slice (some ad105) x0_1.length co12 : Value).ownBlock) (fun _ => False) rfl rfl ?aP (fun _ hk => hk.elim) ?aF ?aO ?aB ?aS ?aL ?_; (case aP => exact k34_mkM _ _ _ (⟨(rd_T34 x0_1 t104).f0, (rd_T34 x0_1 t104).f1⟩ : S34)); (case aB => exact (by repeat (first | (with_reducible first | exact HB.out | apply below_alloc | apply pw_below_drewN | apply below_drew1) | exact HB.out))); (case aF => exact (fun k_ hk => Kd.fresh' (Kd.R_lt (by (with_reducible repeat (first | apply Kd.R_alloc | apply Kd.R_drewN | apply Kd.R_drew)); exact HO_0.out)) k_ hk)); (case aO => exact (by (with_reducible repeat (first | apply Kd.R_alloc | apply Kd.R_drewN | apply Kd.R_drew)); exact HO_6.out)); (case aS => exact (below_size (by repeat (first | (with_reducible first | exact HB.out | apply below_alloc | apply pw_below_drewN | apply below_drew1) | exact HB.out)))); (case aL => have := LMc10.out; omega); intro v107 w14 ho hb hg hat; rw [← Ny106.out] at ho; have n0_ := Aside0.mk (Kd.R_after (ok := (fun _ => True)) (by (with_reducible repeat (first | apply Kd.R_alloc | apply Kd.R_drewN | apply Kd.R_drew)); exact Kd.R_mono HO_0.out (fun _ hk => ⟨trivial, hk⟩)) hg hat); have n1_ := Aside0.mk (hb); have n2_ := Aside0.mk (ho); clear HO_0; clear HB; clear HO_6; have HO_0 := n0_; have HB := n1_; have HO108 := n2_; clear n0_ n1_ n2_; clear ho hb hg hat) | ((with_reducible refine gate_callee (f := 26) rfl ?_); refine goesL_ (some 31) rfl rfl Try.func26 (by kernel_rfl) rfl #[.slice (some ad105) x0_1.length co12, .int .i64 t104, .int .i64 (wrap64 (t104 + 1))] rfl (by (try simp only [List.map_toArray, List.map_cons, List.map_nil]); first | done | rfl | (simp only [List.length_drop, List.length_take]; rfl)) ?_; (with_reducible refine (api_Move.calls (fun k_ => some k_ = (.slice (some ad105) x0_1.length co12 : Value).ownBlock) (.slice (some ad105) x0_1.length co12) x0_1 t104 (wrap64 (t104 + 1)) t109 w _ ?side1 ?side2 A11.out).mono ?_); (case side1 => repeat (first | (with_reducible first | exact HB.out | apply below_alloc | apply pw_below_drewN | apply below_drew1) | exact HB.out)); (case side2 => exact Kd.R_tight rfl HO_0.out); rintro e w15 ⟨v110, rfl, ho0, hb, hkp⟩; refine ⟨_, rfl, ?_⟩; have n0_ := Aside0.mk (Kd.R_mono (ok' := fun k_ => some k_ ≠ (v110 : Value).ownBlock) (Kd.R_keptB (HO108.out) hkp (fun k_ hk_ hs_ => (hk_) hs_)) (fun k_ hk_ => fun e_ => Or.elim (ho0.1 k_ e_.symm) (fun hs_ => hk_.2.1 hs_) (fun hn_ => Nat.not_le.2 hk_.2.2 hn_))); have n1_ := Aside0.mk (Kd.R_mono (ok' := fun k_ => some k_ ≠ (v107 : Value).ownBlock) ho0 (fun k_ hk_ => Or.elim hk_ (fun hs_ => fun e_ => (((HO108.out).1 k_ e_.symm)) hs_) (fun hn_ => (Kd.fresh' (Kd.R_lt (by (with_reducible repeat (first | apply Kd.R_alloc | apply Kd.R_drewN | apply Kd.R_drew)); exact HO108.out)) k_ hn_)))); have n2_ := Aside0.mk (hb); clear HO108; clear HB; clear HO_0; have HO108 := n0_; have HO111 := n1_; have HB := n2_; clear n0_ n1_ n2_; (try clear hb); (try clear hkp); (try clear ho0)))
        go_roundg k1
        case measure => have := HK1.out; omega
        case rel => exact ⟨(t109), (y106), (x7_1), (by first | rfl | (simp; done) | (simp [*]; done)), H', ⟨by have := HK1.out; omega⟩, ⟨by (with_reducible repeat (first | apply Kd.R_alloc | apply Kd.R_drewN | apply Kd.R_drew)); exact HO111.out⟩, ⟨by (with_reducible repeat (first | apply Kd.R_alloc | apply Kd.R_drewN | apply Kd.R_drew)); exact HO108.out⟩, ⟨by repeat (first | (with_reducible first | exact HB.out | apply below_alloc | apply pw_below_drewN | apply below_drew1) | exact HB.out)⟩⟩
       ·rw [if_neg c10] at H
        exact absurd H (by simp)
      ·rw [if_neg c9] at H
       exact absurd H (by simp)
     ·rw [if_neg c8] at H
      exact absurd H (by simp)
    ·rw [if_neg c7] at H
     have c7b0 : decide (0 ≤ t104) = false := decide_eq_false c7
     clear c7
     by_cases c16 : 0 < (x0_1.length : Int)
     ·rw [if_pos c16] at H
      have c16b0 : decide (0 < (x0_1.length : Int)) = true := decide_eq_true c16
      have c16b1 : decide (0 < x0_1.length) = true := decide_eq_true (by omega)
      clear c16
      by_cases c17 : x6_1.length < 8796093022208
      ·rw [if_pos c17] at H
       have LMc17 := Aside0.mk c17
       clear c17
       obtain ⟨y113, hy113⟩ : ∃ y_ : List (S34), y_ = (x6_1 ++ [(⟨a1, (rd_T34 x0_1 0).f0⟩ : S34)]) := ⟨_, rfl⟩
       replace H : (copies_row.l1 k1 x0_1 a1 y113 (wrap64 (x7_1 + 1)) ((rd_T34 x0_1 0).f0) (x0_1.length : Int) 0) = some (r1, r2) := by first | (rw [hy113]; with_reducible exact H) | (have H2_ := (Option.bind_some _ _).symm.trans H; rw [hy113]; with_reducible exact H2_) | (have H2_ := (Option.bind_some _ _).symm.trans H; with_reducible exact H2_) | with_reducible exact H | (rw [hy113]; exact H) | exact H
       have Ny113 := Aside0.mk hy113
       clear hy113
       have H' := Aside0.mk H
       clear H
       obtain ⟨Ao18, co18, eo18⟩ := Kd.R_slice HO_0.out
       subst eo18
       go_wp2_with (first | ((with_reducible refine gate_callee (f := 25) rfl ?_); refine goesL_ (some 17) rfl rfl Try.func25 (by kernel_rfl) rfl #[.slice Ao18 x0_1.length co18] rfl (by (try simp only [List.map_toArray, List.map_cons, List.map_nil]); first | done | rfl | (simp only [List.length_drop, List.length_take]; rfl)) ?_; (with_reducible refine (copies_free.calls _ _ x0_1 t104 _ ?side1 ?side2 A6.out).mono ?_); (case side1 => repeat (first | exact (Kd.R_reads' HO_0.out).2.2 | (with_reducible refine Kd.C_alloc ?_ _) | (with_reducible refine Kd.C_drewN ?_ _) | (with_reducible refine Kd.C_drew ?_))); (case side2 => exact (Kd.R_reads' HO_0.out).2.1); rintro e w19 ⟨rfl, hb⟩; refine ⟨_, rfl, ?_⟩; have n0_ := Aside0.mk (Kd.R_below (by (with_reducible repeat (first | apply Kd.R_alloc | apply Kd.R_drewN | apply Kd.R_drew)); exact HO_0.out) hb); have n1_ := Aside0.mk (Kd.R_below (by (with_reducible repeat (first | apply Kd.R_alloc | apply Kd.R_drewN | apply Kd.R_drew)); exact HO_6.out) hb); have n2_ := Aside0.mk (below_step (by repeat (first | (with_reducible first | exact HB.out | apply below_alloc | apply pw_below_drewN | apply below_drew1) | exact HB.out)) hb); clear HO_0; clear HO_6; clear HB; have HO_0 := n0_; have HO_6 := n1_; have HB := n2_; clear n0_ n1_ n2_; (try clear hb); (try clear hb2); (try clear hk); (try clear hi); have p112 : 0 ≤ (0 : Int) := (by omega); have q112 : 0 < (x0_1.length : Int) := of_decide_eq_true (by first | (with_reducible assumption) | assumption); obtain ⟨ad112, e112, hx112_0, hx112_1⟩ := at_T34 (Kd.R_reads' HO_0.out).2.2 0 p112 q112; cases e112; have qi112 : (0 < x0_1.length) = True := eq_true (by omega); (try rw [show ((0 : Int)).toNat = 0 from rfl] at hx112_0); (try rw [show 0 * 2 = 0 from rfl] at hx112_0); (try rw [Addr.add_zero'] at hx112_0); (try rw [show ((0 : Int)).toNat = 0 from rfl] at hx112_1); (try rw [show 0 * 2 = 0 from rfl] at hx112_1); (try rw [Addr.add_zero'] at hx112_1); replace p112 := eq_true p112; replace q112 := eq_true q112) | ((with_reducible refine gate_builtin (b := .append) (xs := #[.tmp 38, .tmp 42]) rfl ?_); at_builtin; refine Kd.R_append k34 (w0 := w) w.heap.size rfl (.tmp 38) (.tmp 42) 22 34 (.agg #[(.int .i64 0), (.int .i64 0)]) 16 rfl Try.underlying22 info34 rfl (by decide) (by omega) u6 x6_1 (⟨a1, (rd_T34 x0_1 0).f0⟩ : S34) [.int .i64 a1, .int .i64 ((rd_T34 x0_1 0).f0)] (fun k_ => some k_ ≠ (.slice (some ad112) x0_1.length co18 : Value).ownBlock) (fun _ => False) rfl rfl ?aP (fun _ hk => hk.elim) ?aF ?aO ?aB ?aS ?aL ?_; (case aP => exact k34_mkM _ _ _ (⟨a1, (rd_T34 x0_1 0).f0⟩ : S34)); (case aB => exact (by repeat (first | (with_reducible first | exact HB.out | apply below_alloc | apply pw_below_drewN | apply below_drew1) | exact HB.out))); (case aF => exact (fun k_ hk => Kd.fresh' (Kd.R_lt (by (with_reducible repeat (first | apply Kd.R_alloc | apply Kd.R_drewN | apply Kd.R_drew)); exact HO_0.out)) k_ hk)); (case aO => exact (by (with_reducible repeat (first | apply Kd.R_alloc | apply Kd.R_drewN | apply Kd.R_drew)); exact HO_6.out)); (case aS => exact (below_size (by repeat (first | (with_reducible first | exact HB.out | apply below_alloc | apply pw_below_drewN | apply below_drew1) | exact HB.out)))); (case aL => have := LMc17.out; omega); intro v114 w20 ho hb hg hat; rw [← Ny113.out] at ho; have n0_ := Aside0.mk (Kd.R_after (ok := (fun _ => True)) (by (with_reducible repeat (first | apply Kd.R_alloc | apply Kd.R_drewN | apply Kd.R_drew)); exact Kd.R_mono HO_0.out (fun _ hk => ⟨trivial, hk⟩)) hg hat); have n1_ := Aside0.mk (hb); have n2_ := Aside0.mk (ho); clear HO_0; clear HB; clear HO_6; have HO_0 := n0_; have HB := n1_; have HO115 := n2_; clear n0_ n1_ n2_; clear ho hb hg hat))
       go_loopg [46] k1 (fun kq v46 w' => ∃ (x0_2 : List (S34)) (x46_2 : Int), v46 = .int .i64 x46_2 ∧ Aside0 (copies_row.l1 kq x0_2 a1 y113 (wrap64 (x7_1 + 1)) ((rd_T34 x0_1 0).f0) (x0_1.length : Int) x46_2 = some (r1, r2)) ∧ Aside0 (kq ≤ k1) ∧ Aside0 (Kd.R k34 34 w' w.heap.size (fun k_ => some k_ ≠ (v114 : Value).ownBlock) (.slice (some ad112) x0_1.length co18) x0_2) ∧ Aside0 (Kd.R k34 34 w' w.heap.size (fun k_ => some k_ ≠ ((.slice (some ad112) x0_1.length co18) : Value).ownBlock) v114 y113) ∧ Aside0 (Below w.heap.size w w'))
       case atStart => exact ⟨(x0_1), (0), (by first | rfl | (simp; done) | (simp [*]; done)), H', ⟨Nat.le_refl _⟩, ⟨by (with_reducible repeat (first | apply Kd.R_alloc | apply Kd.R_drewN | apply Kd.R_drew)); exact Kd.R_mono HO_0.out (fun _ hk => hk.2)⟩, ⟨by (with_reducible repeat (first | apply Kd.R_alloc | apply Kd.R_drewN | apply Kd.R_drew)); exact HO115.out⟩, ⟨by repeat (first | (with_reducible first | exact HB.out | apply below_alloc | apply pw_below_drewN | apply below_drew1) | exact HB.out)⟩⟩
       case round =>
        clear H'
        try clear c1
        try clear p1
        try clear q1
        try clear hx1
        try clear qi1
        try clear c2
        try clear p2
        try clear c5
        try clear c5b0
        try clear c5b1
        try clear p6
        try clear c7
        try clear c7b0
        try clear c8
        try clear c8b0
        try clear c9
        try clear c9b0
        try clear c10
        try clear p10
        try clear q10
        try clear hx10
        try clear p11
        try clear q11
        try clear hx11
        try clear qi11
        try clear c16
        try clear c16b0
        try clear c16b1
        try clear c17
        try clear c18
        try clear hx105_0
        try clear hx105_1
        try clear hx112_0
        try clear hx112_1
        try clear p105
        try clear p112
        try clear p2
        try clear q105
        try clear q112
        obtain ⟨x0_2, x46_2, rfl, HA, HK2, HO_0, HO_6, HB⟩ := hrel
        have hl0_2 := (Kd.R_reads' HO_0.out).1
        rw [hl0_2] at HO_0
        (try simp only [hl0_2])
        (try simp only [hl0_2] at HO_6)
        cases gk with
        | zero => exact absurd HA.out (by simp [copies_row.l1])
        | succ k2 =>
         have H := HA.out
         clear HA
         simp only [copies_row.l1] at H
         by_cases c21 : x46_2 < (x0_1.length : Int)
         ·rw [if_pos c21] at H
          have c21b0 : decide (x46_2 < (x0_1.length : Int)) = true := decide_eq_true c21
          clear c21
          by_cases c22 : 0 ≤ x46_2
          ·rw [if_pos c22] at H
           have c22b0 : decide (0 ≤ x46_2) = true := decide_eq_true c22
           clear c22
           by_cases c23 : x46_2 < (x0_2.length : Int)
           ·rw [if_pos c23] at H
            have c23b0 : decide (x46_2 < (x0_2.length : Int)) = true := decide_eq_true c23
            clear c23
            by_cases c24 : ((rd_T34 x0_2 x46_2).f1) = ((rd_T34 x0_1 0).f0)
            ·rw [if_pos c24] at H
             have c24b0 : (((rd_T34 x0_2 x46_2).f1) == ((rd_T34 x0_1 0).f0)) = true := beq_iff_eq.mpr c24
             have c24b1 : (((rd_T34 x0_2 x46_2).f1) != ((rd_T34 x0_1 0).f0)) = false := bne_eq_false_iff_eq.mpr c24
             clear c24
             obtain ⟨y117, hy117⟩ : ∃ y_ : List (S34), y_ = (x0_2.set (x46_2 : Int).toNat (⟨(rd_T34 x0_2 x46_2).f0, a1⟩ : S34)) := ⟨_, rfl⟩
             replace H : (copies_row.l1 k2 y117 a1 y113 (wrap64 (x7_1 + 1)) ((rd_T34 x0_1 0).f0) (x0_1.length : Int) (wrap64 (x46_2 + 1))) = some (r1, r2) := by first | (rw [hy117]; with_reducible exact H) | (have H2_ := (Option.bind_some _ _).symm.trans H; rw [hy117]; with_reducible exact H2_) | (have H2_ := (Option.bind_some _ _).symm.trans H; with_reducible exact H2_) | with_reducible exact H | (rw [hy117]; exact H) | exact H
             have Ny117 := Aside0.mk hy117
             clear hy117
             have H' := Aside0.mk H
             clear H
             have p116 : 0 ≤ (x46_2 : Int) := of_decide_eq_true (by first | (with_reducible assumption) | assumption)
             have q116 : x46_2 < (x0_2.length : Int) := of_decide_eq_true (by first | (with_reducible assumption) | assumption)
             obtain ⟨ad116, e116, hx116_0, hx116_1⟩ := at_T34 (Kd.R_reads' HO_0.out).2.2 x46_2 p116 q116
             obtain rfl : ad112 = ad116 := (by injection e116)
             replace p116 := eq_true p116
             replace q116 := eq_true q116
             have p25 : 0 ≤ (x46_2 : Int) := of_decide_eq_true (by first | (with_reducible assumption) | assumption)
             have q25 : (x46_2 : Int) < ((x0_2.length : Int) : Int) := of_decide_eq_true (by first | (with_reducible assumption) | assumption)
             obtain ⟨go25, co25, eo25, gb25, gl25, cl25, HG25⟩ := Kd.R_form HO_0.out (by omega)
             (first | cases eo25 | (injection eo25 with ea_ en_ ec_; (first | subst ea_ | (injection ea_ with ea_; subst ea_)); subst ec_; clear en_))
             have GB25 := Aside0.mk gb25
             have GG25 := Aside0.mk HG25
             clear gb25 gl25 HG25
             (first | simp only [add_plain] at hx112_0 | skip)
             (first | simp only [add_plain] at hx112_1 | skip)
             (first | simp only [add_plain] at hx116_0 | skip)
             (first | simp only [add_plain] at hx116_1 | skip)
             obtain ⟨ce25, hcl25, hM25, hcc25, hfr25⟩ := Kd.R_elem HO_0.out z34 (x46_2 : Int) p25 q25
             obtain rfl := k34_openM hM25
             have hx25_0 : wr.cell? ⟨go25, (x46_2 : Int).toNat * 2, none⟩ = some (.int .i64 ((rd_T34 x0_2 x46_2).f0)) := hcc25 0 _ rfl
             have hx25_1 : wr.cell? ⟨go25, (x46_2 : Int).toNat * 2 + 1, none⟩ = some (.int .i64 ((rd_T34 x0_2 x46_2).f1)) := hcc25 1 _ rfl
             have hf25_0 : wr.frozen? ⟨go25, (x46_2 : Int).toNat * 2, none⟩ = false := hfr25 0
             have hf25_1 : wr.frozen? ⟨go25, (x46_2 : Int).toNat * 2 + 1, none⟩ = false := hfr25 1
             clear hcl25 hcc25 hfr25 hM25
             replace p25 := eq_true p25
             replace q25 := eq_true q25
             have HX26 := Aside0.mk (show Kd.R k34 34 wr w.heap.size (fun k_ => some k_ ≠ (v114 : Value).ownBlock) (.slice (some ⟨go25, 0, none⟩) x0_2.length co18) x0_2 from (by (with_reducible repeat (first | apply Kd.R_alloc | apply Kd.R_drewN | apply Kd.R_drew)); exact HO_0.out))
             obtain ⟨ce26, hcl26, hM26, hcc26, hfr26⟩ := Kd.R_elem HX26.out z34 (x46_2 : Int) (of_decide_eq_true (by first | (with_reducible assumption) | assumption)) (by have h_ : (x46_2 : Int) < ((x0_2.length : Int) : Int) := of_decide_eq_true (by first | (with_reducible assumption) | assumption); first | exact h_ | (have e_ := (Kd.R_reads' HO_0.out).1; omega) | simpa using h_)
             obtain rfl := k34_openM hM26
             have HP26 := Kd.R_seg HX26.out (x46_2 : Int) (of_decide_eq_true (by first | (with_reducible assumption) | assumption)) (by have h_ : (x46_2 : Int) < ((x0_2.length : Int) : Int) := of_decide_eq_true (by first | (with_reducible assumption) | assumption); first | exact h_ | (have e_ := (Kd.R_reads' HO_0.out).1; omega) | simpa using h_) (seg := [.int .i64 a1]) (j := 1) hcl26 hcc26 (show 2 ≤ 2 from by decide) (x' := (⟨(rd_T34 x0_2 x46_2).f0, a1⟩ : S34)) (k34_mkM _ _ _ (⟨(rd_T34 x0_2 x46_2).f0, a1⟩ : S34) ) (fun _ hk => hk)
             have hx26_1 := hcc26 1 _ rfl
             (try simp only [show (k34).sz = 2 from rfl, Nat.mul_one, Nat.add_zero] at hx26_1)
             have hf26_1 := hfr26 1
             (try simp only [show (k34).sz = 2 from rfl, Nat.mul_one, Nat.add_zero] at hf26_1)
             clear hcl26 hcc26 hfr26 hM26
             go_wp2_with (first | ((with_reducible refine gate_store (t := 3) (p := 60) rfl ?_); refine store_event (t := 3) (p := 60) (v := ?vo_w27) (w1 := (wr.setCell ⟨go25, (x46_2 : Int).toNat * 2 + 1, none⟩ (.int .i64 a1))) ?hg ?ho ?hn ?hr ?_; (case ho => rfl); (case hg => rfl); (case hn => rfl); (case hr => first | (go_simp; done) | (go_simp; rfl)); intro w27 hw; have hg : wr.grownBy w27 (some go25) := (by rw [hw]; exact HP26.2); have hp_ : Kd.R k34 34 w27 w.heap.size (fun k_ => some k_ ≠ (v114 : Value).ownBlock) (.slice (some ⟨go25, 0, none⟩) x0_2.length co18) y117 := (by rw [hw, Ny117.out]; exact HP26.1); clear HP26; have n0_ := Aside0.mk (hp_); have n1_ := Aside0.mk (Kd.R_after (v := (.slice (some ⟨go25, 0, none⟩) x0_2.length co18)) (v1 := (.slice (some ⟨go25, 0, none⟩) x0_2.length co18)) (ok := (fun _ => True)) (by (with_reducible repeat (first | apply Kd.R_alloc | apply Kd.R_drewN | apply Kd.R_drew)); exact Kd.R_mono HO_6.out (fun _ hk => ⟨trivial, hk⟩)) hg (.inl rfl)); have n2_ := Aside0.mk ((by rw [hw]; exact below_set (HB.out) GB25.out : Below w.heap.size w w27)); clear HO_0; clear HO_6; clear HB; have HO_0 := n0_; have HO_6 := n1_; have HB := n2_; clear n0_ n1_ n2_; clear hg hw hp_))
             (try simp only [← hl0_2])
             go_roundg k2
             case measure => have := HK1.out; have := HK2.out; omega
             case rel => exact ⟨(y117), (wrap64 (x46_2 + 1)), (by first | rfl | (simp; done) | (simp [*]; done)), H', ⟨by have := HK1.out; have := HK2.out; omega⟩, ⟨by (try simp only [hl0_2]); (with_reducible repeat (first | apply Kd.R_alloc | apply Kd.R_drewN | apply Kd.R_drew)); exact HO_0.out⟩, ⟨by (try simp only [hl0_2]); (with_reducible repeat (first | apply Kd.R_alloc | apply Kd.R_drewN | apply Kd.R_drew)); exact Kd.R_mono HO_6.out (fun _ hk => hk.2)⟩, ⟨by repeat (first | (with_reducible first | exact HB.out | apply below_alloc | apply pw_below_drewN | apply below_drew1) | exact HB.out)⟩⟩
            ·rw [if_neg c24] at H
             have c24b0 : (((rd_T34 x0_2 x46_2).f1) == ((rd_T34 x0_1 0).f0)) = false := beq_eq_false_iff_ne.mpr c24
             have c24b1 : (((rd_T34 x0_2 x46_2).f1) != ((rd_T34 x0_1 0).f0)) = true := bne_iff_ne.mpr c24
             have H' := Aside0.mk H
             clear H
             have p116 : 0 ≤ (x46_2 : Int) := of_decide_eq_true (by first | (with_reducible assumption) | assumption)
             have q116 : x46_2 < (x0_2.length : Int) := of_decide_eq_true (by first | (with_reducible assumption) | assumption)
             obtain ⟨ad116, e116, hx116_0, hx116_1⟩ := at_T34 (Kd.R_reads' HO_0.out).2.2 x46_2 p116 q116
             obtain rfl : ad112 = ad116 := (by injection e116)
             replace p116 := eq_true p116
             replace q116 := eq_true q116
             go_wp2
             (try simp only [← hl0_2])
             go_roundg k2
             case measure => have := HK1.out; have := HK2.out; omega
             case rel => exact ⟨(x0_2), (wrap64 (x46_2 + 1)), (by first | rfl | (simp; done) | (simp [*]; done)), H', ⟨by have := HK1.out; have := HK2.out; omega⟩, ⟨by (try simp only [hl0_2]); (with_reducible repeat (first | apply Kd.R_alloc | apply Kd.R_drewN | apply Kd.R_drew)); exact HO_0.out⟩, ⟨by (try simp only [hl0_2]); (with_reducible repeat (first | apply Kd.R_alloc | apply Kd.R_drewN | apply Kd.R_drew)); exact HO_6.out⟩, ⟨by repeat (first | (with_reducible first | exact HB.out | apply below_alloc | apply pw_below_drewN | apply below_drew1) | exact HB.out)⟩⟩
           ·rw [if_neg c23] at H
            exact absurd H (by simp)
          ·rw [if_neg c22] at H
           exact absurd H (by simp)
         ·rw [if_neg c21] at H
          have c21b0 : decide (x46_2 < (x0_1.length : Int)) = false := decide_eq_false c21
          clear c21
          have c21z : decide (x46_2 < (x0_2.length : Int)) = false := by rw [← hl0_2]; exact c21b0
          have H' := Aside0.mk H
          clear H
          go_wp2
          (try simp only [← hl0_2])
          go_roundg k2
          case measure => have := HK1.out; have := HK2.out; omega
          case rel => exact ⟨(x0_2), (y113), ((wrap64 (x7_1 + 1))), (by first | rfl | (simp; done) | (simp [*]; done)), H', ⟨by have := HK1.out; have := HK2.out; omega⟩, ⟨by (try simp only [hl0_2]); (with_reducible repeat (first | apply Kd.R_alloc | apply Kd.R_drewN | apply Kd.R_drew)); exact HO_0.out⟩, ⟨by (try simp only [hl0_2]); (with_reducible repeat (first | apply Kd.R_alloc | apply Kd.R_drewN | apply Kd.R_drew)); exact HO_6.out⟩, ⟨by repeat (first | (with_reducible first | exact HB.out | apply below_alloc | apply pw_below_drewN | apply below_drew1) | exact HB.out)⟩⟩
      ·rw [if_neg c17] at H
       exact absurd H (by simp)
     ·rw [if_neg c16] at H
      exact absurd H (by simp)
   ·rw [if_neg c5] at H
    have c5b0 : decide (0 < (x0_1.length : Int)) = false := decide_eq_false c5
    have c5b1 : decide (0 < x0_1.length) = false := decide_eq_false (by omega)
    clear c5
    simp only [Option.some.injEq, Prod.mk.injEq] at H
    obtain ⟨rfl, rfl⟩ := H
    obtain ⟨Ao28, co28, eo28⟩ := Kd.R_slice HO_0.out
    subst eo28
    go_wp2
    go_ret2
    exact ⟨_, by first | rfl | (simp [errW_none, errW_some] <;> rfl) | (simp [*, errW_none, errW_some] <;> rfl), by (with_reducible repeat (first | apply Kd.R_alloc | apply Kd.R_drewN | apply Kd.R_drew)); exact Kd.R_mono HO_6.out (fun _ hk => trivial), by repeat (first | (with_reducible first | exact HB.out | apply below_alloc | apply pw_below_drewN | apply below_drew1) | exact HB.out)⟩
end
end Go.Proofs.Ytfbbfnadmnejeaa.X
namespace Go.Proofs.Ytfbbfnadmnejeaa.X
open Go.RowKit Go.Proofs.YtfbbfnadmnejeaaW.PrintWords Go.Proofs.YtfbbfnadmnejeaaW.PrintLast Go.Proofs.YtfbbfnadmnejeaaW.PrintMore
set_option linter.all false
def wfI (x : Int) : Prop := -9223372036854775808 ≤ x ∧ x ≤ 9223372036854775807
instance (x : Int) : Decidable (wfI x) := inferInstanceAs (Decidable (_ ∧ _))
theorem wfI_lit {x : Int} (h : wfI x) : (Lit.int .i64 x).wf = true := by
 obtain ⟨h1, h2⟩ := h
 simp [Lit.wf, IntKind.min, IntKind.max, IntKind.signed, IntKind.bits]; omega
def bdesc (P : Program) (b : Nat) (S : List Int) (D : DataW Unit) : Prop := ∀ x : Int, D.atKey (.int .i64 x) (.lit (.bool false)) = .lit (.bool (decide (x ∈ S)))
def MapSet (W : World) (b n : Nat) (S : List Int) : Prop := ∃ D : DataW Unit, W.ownsMap Try.prog 3 (plainElem Try.prog 4) b n D ∧ bdesc Try.prog b S D
theorem MapSet.lt {W : World} {b n : Nat} {S : List Int} (h : MapSet W b n S) : b < W.heap.size := by
 obtain ⟨D, h, _⟩ := h
 exact h.lt
theorem MapSet.made (W : World) : MapSet (W.alloc (.map #[] 0)) W.heap.size 0 [] :=
 ⟨.map [], World.ownsMap_made _ _ _ _, fun x => rfl⟩
theorem MapSet.grown {W W' : World} {b n : Nat} {S : List Int} {row : Option Nat} (h : MapSet W b n S) (hg : W.grownBy W' row) (hne : some b ≠ row) : MapSet W' b n S := by
 obtain ⟨D, h, hD⟩ := h
 exact ⟨D, h.kept hg hne, hD⟩
theorem MapSet.below {W W' : World} {b n : Nat} {S : List Int} (h : MapSet W b n S) (hb : Below W.heap.size W W') : MapSet W' b n S := h.grown (grown_of_below hb none) (by simp)
theorem plainElem_bool_inv {P : Program} {e : TypeId} (he : P.underlying e = some .bool) {v : Value} {z : DataW Unit × List MemPlace} (h : plainElem P e v = some z) : ∃ a, v = .bool a ∧ z = (.lit (.bool a), []) := by
 unfold plainElem at h
 rw [he] at h
 cases v <;> simp at h
 subst h
 exact ⟨_, rfl, rfl⟩
theorem MapSet.look {W : World} {b n : Nat} {S : List Int} (h : MapSet W b n S) {x : Int} (hx : wfI x) : (Instr.lookup 40 (.map (some b)) (.int .i64 x) false).run Try.prog W = .ok (.bool (decide (x ∈ S))) W := by
 obtain ⟨D, h, hD⟩ := h
 have hz : (zeroValue 4).run Try.prog W = .ok (.bool false) W := by kernel_rfl
 obtain ⟨v, ps, hrun, hv⟩ := h.lookup (Maps.int_keyed Try.underlying3) Try.underlying40 hz (plainElem_bool Try.underlying4 false) (Maps.keyOf_int_mk Try.underlying3 (wfI_lit hx))
 rw [hD x] at hv
 obtain ⟨a, rfl, ha⟩ := plainElem_bool_inv Try.underlying4 hv
 simp only [Prod.mk.injEq] at ha
 rw [hrun]
 congr 1
 have := ha.1
 injection this with this
 injection this with this
 rw [this]
theorem MapSet.put {W : World} {b n : Nat} {S : List Int} (h : MapSet W b n S) (hn : n < maxLen) {x : Int} (hx : wfI x) : ∃ W', (Instr.mapUpdate 40 (.map (some b)) (.int .i64 x) (.bool true)).run Try.prog W = .ok () W' ∧ MapSet W' b (n + 1) (x :: S) ∧ W.grownBy W' (some b) := by
 obtain ⟨D, h, hD⟩ := h
 obtain ⟨W', hrun, r1, r2⟩ := h.update (Maps.int_keyed Try.underlying3) Try.underlying40 hn (Maps.keyOf_int_mk Try.underlying3 (wfI_lit hx)) (plainElem_bool Try.underlying4 true)
 refine ⟨W', hrun, ⟨_, r1, fun y => ?_⟩, r2⟩
 by_cases hy : y = x
 ·subst hy
  rw [Maps.atKey_put_same h.isMap (by simp [WideAt.IsKeyLit])]
  simp
 ·rw [Maps.atKey_put_other (by intro e; injection e with _ e; exact hy e), hD y]
  simp [hy]
end Go.Proofs.Ytfbbfnadmnejeaa.X
namespace Go.Proofs.Ytfbbfnadmnejeaa.X
open Go.RowKit Go.Proofs.YtfbbfnadmnejeaaW.PrintWords Go.Proofs.YtfbbfnadmnejeaaW.PrintLast Go.Proofs.YtfbbfnadmnejeaaW.PrintMore
attribute [local go_sem] max2_int min2_int max_two min_two max_three min_three max_four min_four
set_option linter.all false
noncomputable section
def copies_place.f (a0 : Int) : Option (Bool) := if a0 ≥ 0 then (some (decide (a0 ≤ 65535))) else (some false)
set_option maxHeartbeats 8000000 in
set_option maxRecDepth 100000 in
theorem copies_place.calls (a0 : Int) (r : Bool) (w : World) (h : copies_place.f a0 = some r) :
  Calls Try.prog 17 #[.int .i64 a0] w fun e w' => e = .returned (.bool r) ∧ Drawn0 w w' := by
 have H : (if a0 ≥ 0 then (some (decide (a0 ≤ 65535))) else (some false)) = some r := h
 clear h
 by_cases c2 : a0 ≥ 0
 ·rw [if_pos c2] at H
  have c2b0 : decide (0 ≤ a0) = true := decide_eq_true c2
  clear c2
  obtain rfl := Option.some.inj H
  go_enter Try.func17, Try.ntmps17
  go_wp2
  go_ret
  exact ⟨by first | rfl | (simp; done) | (simp [*]; done), by repeat (first | exact Drawn0.refl _ | apply Drawn0.step)⟩
 ·rw [if_neg c2] at H
  have c2b0 : decide (0 ≤ a0) = false := decide_eq_false c2
  clear c2
  obtain rfl := Option.some.inj H
  go_enter Try.func17, Try.ntmps17
  go_wp2
  go_ret
  exact ⟨by first | rfl | (simp; done) | (simp [*]; done), by repeat (first | exact Drawn0.refl _ | apply Drawn0.step)⟩
end
end Go.Proofs.Ytfbbfnadmnejeaa.X
namespace Go.Proofs.Ytfbbfnadmnejeaa.X
open Go.Shelf Go.RowKit Go.Proofs.YtfbbfnadmnejeaaW.PrintWords Go.Proofs.YtfbbfnadmnejeaaW.PrintLast Go.Proofs.YtfbbfnadmnejeaaW.PrintMore
set_option linter.all false
def placeB (a : Int) : Bool := decide (0 ≤ a ∧ a ≤ 65535)
theorem place_eq (a : Int) : copies_place.f a = some (placeB a) := by
 unfold copies_place.f placeB
 by_cases h : a ≥ 0
 ·rw [if_pos h]; simp [show 0 ≤ a from h]
 ·rw [if_neg h]; simp [show ¬ 0 ≤ a from h]
def mayGo : List Int → List S34 → Bool
 | _, [] => true
 | S, m :: r => if placeB m.f0 = true ∧ placeB m.f1 = true ∧ m.f0 ∉ S then mayGo (m.f0 :: S) r else false
def mayL (l : List S34) : Bool := mayGo [] l && decide (l.length ≤ 64)
def copies_May.f (l0 : List S34) : Option Bool := if l0.length < 1000000 then some (mayL l0) else none
theorem drop_at {α : Type} (l : List α) (k : Nat) (z : α) (h : k < l.length) : l.drop k = l.getD k z :: l.drop (k + 1) := by
 rw [List.drop_eq_getElem_cons h, List.getD_eq_getElem?_getD, List.getElem?_eq_getElem h]; rfl
set_option maxHeartbeats 4000000 in
set_option maxRecDepth 100000 in
theorem copies_May.calls (A0 : Option Addr) (c0 : Nat) (l0 : List S34) (r : Bool) (w : World) (hr0 : Kd.C k34 w A0 l0.length l0) (hc0 : l0.length ≤ c0) (h : copies_May.f l0 = some r) :
  Calls Try.prog 7 #[.slice A0 l0.length c0] w fun e w' => e = .returned (.bool r) ∧ Below w.heap.size w w' := by
 unfold copies_May.f at h
 by_cases hl : l0.length < 1000000
 ·rw [if_pos hl] at h
  have HN := Aside0.mk (Option.some.inj h)
  have HR := Aside0.mk hr0
  have HL := Aside0.mk hl
  clear h hr0 hc0 hl
  have hmm := @run_makeMap Try.prog
  go_enter Try.func7, Try.ntmps7
  go_wp2
  clear hmm
  have HM := Aside0.mk (MapSet.made w)
  have HB0 := Aside0.mk (below_alloc (Below.refl w.heap.size w) (.map #[] 0))
  have HBM := Aside0.mk (Nat.le_refl w.heap.size)
  obtain ⟨bm, hbm⟩ : ∃ bm, w.heap.size = bm := ⟨_, rfl⟩
  rw [hbm] at HM HBM ⊢
  have HZ := Aside0.mk (show w.heap.size ≤ bm by omega)
  clear hbm HBM
  go_loopg [9] l0.length (fun gg s9 wr => ∃ (x : Nat) (S : List Int), s9 = .int .i64 x ∧ l0.length - x ≤ gg ∧ Aside0 (x ≤ l0.length) ∧ Aside0 (S.length = x) ∧ Aside0 (mayL l0 = (mayGo S (l0.drop x) && decide (l0.length ≤ 64))) ∧ Aside0 (MapSet wr bm S.length S) ∧ Aside0 (Below w.heap.size w wr))
  case atStart => exact ⟨0, [], rfl, by omega, ⟨Nat.zero_le _⟩, ⟨rfl⟩, ⟨rfl⟩, HM, HB0⟩
  case round =>
   clear HM HB0
   obtain ⟨x, S, rfl, hgg, HX, HSL, HG, HM, HB⟩ := hrel
   by_cases hlt : x < l0.length
   ·have hltz : (x : Int) < (l0.length : Int) := by omega
    obtain ⟨ad, e1, hx, hy⟩ := at_T34 (Kd.C_below HR.out HB.out) (x : Int) (by omega) hltz
    cases e1
    rw [Int.toNat_natCast] at hx hy
    obtain ⟨u, HU⟩ : ∃ u, Aside0 (l0.getD x z34 = u) := ⟨_, ⟨rfl⟩⟩
    rw [show rd_T34 l0 (x : Int) = u from HU.out] at hx hy
    have hd := drop_at l0 x z34 hlt
    rw [HU.out] at hd
    have hG := HG.out
    rw [hd, mayGo] at hG
    clear hd HG
    have HC0 := Aside0.mk (fun W => copies_place.calls u.f0 _ W (place_eq u.f0))
    have HC1 := Aside0.mk (fun W => copies_place.calls u.f1 _ W (place_eq u.f1))
    have HPB := Aside0.mk (show placeB u.f0 = true → wfI u.f0 from fun h => by have := of_decide_eq_true h; constructor <;> omega)
    have p0 : (0 ≤ (x : Int)) = True := eq_true (by omega)
    cases h0 : placeB u.f0 with
    | false =>
     rw [if_neg (by rw [h0]; simp)] at hG
     rw [h0] at HC0
     have HGG := Aside0.mk hG
     clear hG h0
     go_wp2_with (first | ((with_reducible refine gate_dst (N := 5) rfl ?_); refine box_event ?hg (N := 5) ?hd (cs := #[.int .i64 0, .int .i64 0]) (t := 34) ?hr ?_; (case hd => rfl); (case hg => rfl); (case hr => first | (go_simp; done) | (go_simp; rfl)); intro gb hg w4 hbox hb; have BK := Aside0.mk hbox; have HB4 := Aside0.mk hb; have GE := Aside0.mk (show wr.heap.size ≤ gb by omega); have hcz0 := (blk_cell hbox 0).trans rfl; have hcz1 := (blk_cell hbox 1).trans rfl; have hfz0 := blk_frozen hbox 0; have hfz1 := blk_frozen hbox 1; clear hbox hb hg) | (go_at_call 17; refine (HC0.out _).mono ?_; rintro e w5 ⟨rfl, hb⟩; have HB5 := Aside0.mk (below_step (below_set (below_set HB4.out GE.out) GE.out) hb.below); have BK5 := Aside0.mk (show w5.heap[gb]? = some (.cells #[.int .i64 u.f0, .int .i64 u.f1] 34 (0, 0)) from blk_below (blk_put (blk_put BK.out 0 (.int .i64 u.f0) rfl) 1 (.int .i64 u.f1) rfl) hb.below); clear hb hcz0 hcz1 hfz0 hfz1; have hcy0 := (blk_cell BK5.out 0).trans rfl; have hcy1 := (blk_cell BK5.out 1).trans rfl))
     go_ret
     exact ⟨by rw [← HN.out, HGG.out]; rfl, HB.out.trans (HB5.out.mono HB.out.size)⟩
    | true =>
     have H0 := Aside0.mk h0
     rw [h0] at HC0
     cases h1 : placeB u.f1 with
     | false =>
      rw [if_neg (by rw [h1]; simp)] at hG
      rw [h1] at HC1
      have HGG := Aside0.mk hG
      clear hG h0 h1
      go_wp2_with (first | ((with_reducible refine gate_dst (N := 5) rfl ?_); refine box_event ?hg (N := 5) ?hd (cs := #[.int .i64 0, .int .i64 0]) (t := 34) ?hr ?_; (case hd => rfl); (case hg => rfl); (case hr => first | (go_simp; done) | (go_simp; rfl)); intro gb hg w4 hbox hb; have BK := Aside0.mk hbox; have HB4 := Aside0.mk hb; have GE := Aside0.mk (show wr.heap.size ≤ gb by omega); have hcz0 := (blk_cell hbox 0).trans rfl; have hcz1 := (blk_cell hbox 1).trans rfl; have hfz0 := blk_frozen hbox 0; have hfz1 := blk_frozen hbox 1; clear hbox hb hg) | (go_at_call 17; refine (HC0.out _).mono ?_; rintro e w5 ⟨rfl, hb⟩; have HB5 := Aside0.mk (below_step (below_set (below_set HB4.out GE.out) GE.out) hb.below); have BK5 := Aside0.mk (show w5.heap[gb]? = some (.cells #[.int .i64 u.f0, .int .i64 u.f1] 34 (0, 0)) from blk_below (blk_put (blk_put BK.out 0 (.int .i64 u.f0) rfl) 1 (.int .i64 u.f1) rfl) hb.below); clear hb hcz0 hcz1 hfz0 hfz1; have hcy0 := (blk_cell BK5.out 0).trans rfl; have hcy1 := (blk_cell BK5.out 1).trans rfl) | (go_at_call 17; refine (HC1.out _).mono ?_; rintro e w6 ⟨rfl, hb⟩; have HB6 := Aside0.mk (below_step HB5.out hb.below); have BK6 := Aside0.mk (blk_below BK5.out hb.below); clear hb hcy0 hcy1; have hcw0 := (blk_cell BK6.out 0).trans rfl))
      go_ret
      exact ⟨by rw [← HN.out, HGG.out]; rfl, HB.out.trans (HB6.out.mono HB.out.size)⟩
     | true =>
      rw [h1] at HC1
      by_cases hin : u.f0 ∈ S
      ·rw [if_neg (by simp [hin])] at hG
       have HD := Aside0.mk (decide_eq_true hin)
       have HGG := Aside0.mk hG
       clear hG h0 h1 hin
       go_wp2_with (first | ((with_reducible refine gate_dst (N := 5) rfl ?_); refine box_event ?hg (N := 5) ?hd (cs := #[.int .i64 0, .int .i64 0]) (t := 34) ?hr ?_; (case hd => rfl); (case hg => rfl); (case hr => first | (go_simp; done) | (go_simp; rfl)); intro gb hg w4 hbox hb; have BK := Aside0.mk hbox; have HB4 := Aside0.mk hb; have GE := Aside0.mk (show wr.heap.size ≤ gb by omega); have hcz0 := (blk_cell hbox 0).trans rfl; have hcz1 := (blk_cell hbox 1).trans rfl; have hfz0 := blk_frozen hbox 0; have hfz1 := blk_frozen hbox 1; clear hbox hb hg) | (go_at_call 17; refine (HC0.out _).mono ?_; rintro e w5 ⟨rfl, hb⟩; have HB5 := Aside0.mk (below_step (below_set (below_set HB4.out GE.out) GE.out) hb.below); have BK5 := Aside0.mk (show w5.heap[gb]? = some (.cells #[.int .i64 u.f0, .int .i64 u.f1] 34 (0, 0)) from blk_below (blk_put (blk_put BK.out 0 (.int .i64 u.f0) rfl) 1 (.int .i64 u.f1) rfl) hb.below); clear hb hcz0 hcz1 hfz0 hfz1; have hcy0 := (blk_cell BK5.out 0).trans rfl; have hcy1 := (blk_cell BK5.out 1).trans rfl) | (go_at_call 17; refine (HC1.out _).mono ?_; rintro e w6 ⟨rfl, hb⟩; have HB6 := Aside0.mk (below_step HB5.out hb.below); have BK6 := Aside0.mk (blk_below BK5.out hb.below); clear hb hcy0 hcy1; have hcw0 := (blk_cell BK6.out 0).trans rfl; have hlook := (HM.out.below HB6.out).look (HPB.out H0.out); rw [HD.out] at hlook))
       go_ret
       exact ⟨by rw [← HN.out, HGG.out]; rfl, HB.out.trans (HB6.out.mono HB.out.size)⟩
      ·rw [if_pos ⟨h0, h1, hin⟩] at hG
       have HD := Aside0.mk (decide_eq_false hin)
       have HGG := Aside0.mk hG
       clear hG h0 h1 hin
       go_wp2_with (first | ((with_reducible refine gate_dst (N := 5) rfl ?_); refine box_event ?hg (N := 5) ?hd (cs := #[.int .i64 0, .int .i64 0]) (t := 34) ?hr ?_; (case hd => rfl); (case hg => rfl); (case hr => first | (go_simp; done) | (go_simp; rfl)); intro gb hg w4 hbox hb; have BK := Aside0.mk hbox; have HB4 := Aside0.mk hb; have GE := Aside0.mk (show wr.heap.size ≤ gb by omega); have hcz0 := (blk_cell hbox 0).trans rfl; have hcz1 := (blk_cell hbox 1).trans rfl; have hfz0 := blk_frozen hbox 0; have hfz1 := blk_frozen hbox 1; clear hbox hb hg) | (go_at_call 17; refine (HC0.out _).mono ?_; rintro e w5 ⟨rfl, hb⟩; have HB5 := Aside0.mk (below_step (below_set (below_set HB4.out GE.out) GE.out) hb.below); have BK5 := Aside0.mk (show w5.heap[gb]? = some (.cells #[.int .i64 u.f0, .int .i64 u.f1] 34 (0, 0)) from blk_below (blk_put (blk_put BK.out 0 (.int .i64 u.f0) rfl) 1 (.int .i64 u.f1) rfl) hb.below); clear hb hcz0 hcz1 hfz0 hfz1; have hcy0 := (blk_cell BK5.out 0).trans rfl; have hcy1 := (blk_cell BK5.out 1).trans rfl) | (go_at_call 17; refine (HC1.out _).mono ?_; rintro e w6 ⟨rfl, hb⟩; have HB6 := Aside0.mk (below_step HB5.out hb.below); have BK6 := Aside0.mk (blk_below BK5.out hb.below); clear hb hcy0 hcy1; have hcw0 := (blk_cell BK6.out 0).trans rfl; have hlook := (HM.out.below HB6.out).look (HPB.out H0.out); rw [HD.out] at hlook; obtain ⟨w7, hupd, hm7, hg7⟩ := (HM.out.below HB6.out).put (show S.length < maxLen by have := HX.out; have := HL.out; have := HSL.out; unfold maxLen; omega) (HPB.out H0.out); have HM7 := Aside0.mk hm7; have HBt := HB.out.trans (HB6.out.mono HB.out.size); have HB7 := Aside0.mk (HBt.grown hg7 (below_size HBt) (fun k hk => by injection hk with hk; have := HZ.out; omega)); have hcx0 : w7.cell? ⟨gb, 0, none⟩ = some (.int .i64 u.f0) := (blk_cell (blk_grown BK6.out hg7 (by intro he; injection he with he; have := HM.out.lt; have := GE.out; omega)) 0).trans rfl; clear hm7 hg7 HBt))
       go_roundg (l0.length - (x + 1))
       case measure => omega
       case rel => exact ⟨x + 1, u.f0 :: S, by rw [wrap64_small _ (by have := HX.out; have := HL.out; omega) (by have := HX.out; have := HL.out; omega)]; go_num, Nat.le_refl _, ⟨by omega⟩, ⟨by have := HSL.out; simp; omega⟩, HGG, HM7, HB7⟩
   ·have HXE := Aside0.mk (show x = l0.length by have := HX.out; omega)
    have hltz : ¬ (x : Int) < (l0.length : Int) := by omega
    have hd : decide ((x : Int) < (l0.length : Int)) = false := decide_eq_false hltz
    have HGG := Aside0.mk (show mayL l0 = decide (l0.length ≤ 64) by rw [HG.out, HXE.out, List.drop_length]; rfl)
    clear HG hltz
    go_wp2
    go_ret
    refine ⟨?_, HB.out⟩
    rw [← HN.out, HGG.out]
    show Ending.returned (.bool (decide ((l0.length : Int) ≤ 64))) = _
    rw [show decide ((l0.length : Int) ≤ 64) = decide (l0.length ≤ 64) from decide_eq_decide.2 (by omega)]
 ·rw [if_neg hl] at h; cases h
end Go.Proofs.Ytfbbfnadmnejeaa.X
namespace Go.Proofs.Ytfbbfnadmnejeaa.X
open Go.RowKit Go.Proofs.YtfbbfnadmnejeaaW.PrintWords Go.Proofs.YtfbbfnadmnejeaaW.PrintLast Go.Proofs.YtfbbfnadmnejeaaW.PrintMore
attribute [local go_sem] max2_int min2_int max_two min_two max_three min_three max_four min_four
set_option linter.all false
noncomputable section
def copies_Rings.f (k : Nat) (l0 : List (S34)) : Option (Int) := (copies_May.f l0).bind fun t118 => (if t118 = true then ((copies_row.f k l0 (-1)).bind fun bt119 => (some bt119.2)) else (some 0))
theorem copies_Rings.mono : ∀ a0 k, LeO (copies_Rings.f k a0) (copies_Rings.f (k + 1) a0) := by
 intro a0 k
 unfold copies_Rings.f
 repeat' first
   | (with_reducible exact copies_row.mono _ _ _)
   | (with_reducible exact LeO.refl _)
   | (with_reducible exact LeO.none _)
   | (with_reducible refine LeO.ite ?_ ?_)
   | (with_reducible refine LeO.bind ?_ (fun _ => ?_))
   | exact copies_row.mono _ _ _
   | exact LeO.none _
   | refine LeO.ite ?_ ?_
   | refine LeO.bind ?_ (fun _ => ?_)
set_option maxHeartbeats 8000000 in
set_option maxRecDepth 100000 in
theorem copies_Rings.calls (k : Nat) (A0 : Option Addr) (c0 : Nat) (l0 : List (S34)) (r : Int) (w : World) (hr0 : Kd.C k34 w A0 l0.length l0) (hc0 : l0.length ≤ c0) (h : copies_Rings.f k l0 = some r) :
  Calls Try.prog 9 #[.slice A0 l0.length c0] w fun e w' => e = .returned (.int .i64 r) ∧ Below w.heap.size w w' := by
 have HR0 := Aside0.mk hr0
 have HC0 := Aside0.mk hc0
 clear hr0 hc0
 have HB := Aside0.mk (Below.refl w.heap.size w)
 have H : ((copies_May.f l0).bind fun t118 => (if t118 = true then ((copies_row.f k l0 (-1)).bind fun bt119 => (some bt119.2)) else (some 0))) = some r := h
 clear h
 replace H := Option.bind_eq_some_iff.mp H
 obtain ⟨t118, A20, H⟩ := H
 replace H : (if t118 = true then ((copies_row.f k l0 (-1)).bind fun bt119 => (some bt119.2)) else (some 0)) = some r := H
 have A2 := Aside0.mk A20
 clear A20
 by_cases c3 : t118 = true
 ·subst c3
  have H1 : ((copies_row.f k l0 (-1)).bind fun bt119 => (some bt119.2)) = some r := by rw [if_pos rfl] at H; exact H
  clear H
  have H := H1
  clear H1
  replace H := Option.bind_eq_some_iff.mp H
  obtain ⟨⟨t119, t120⟩, A40, H⟩ := H
  replace H : (some t120) = some r := H
  have A4 := Aside0.mk A40
  clear A40
  obtain rfl := Option.some.inj H
  go_enter Try.func9, Try.ntmps9
  go_wp2_with (first | ((with_reducible refine gate_callee (f := 7) rfl ?_); refine goesL_ (some 6) rfl rfl Try.func7 (by kernel_rfl) rfl #[.slice A0 l0.length c0] rfl (by (try simp only [List.map_toArray, List.map_cons, List.map_nil]); first | done | rfl | (simp only [List.length_drop, List.length_take]; rfl)) ?_; (with_reducible refine (copies_May.calls _ _ l0 true _ ?side1 ?side2 A2.out).mono ?_); (case side1 => repeat (first | exact HR0.out | (with_reducible refine Kd.C_alloc ?_ _) | (with_reducible refine Kd.C_drewN ?_ _) | (with_reducible refine Kd.C_drew ?_))); (case side2 => exact HC0.out); rintro e w5 ⟨rfl, hb⟩; refine ⟨_, rfl, ?_⟩; have n0_ := Aside0.mk (below_step (by repeat (first | (with_reducible first | exact HB.out | apply below_alloc | apply pw_below_drewN | apply below_drew1) | exact HB.out)) hb); clear HB; have HB := n0_; clear n0_; (try clear hb); (try clear hb2); (try clear hk); (try clear hi)) | ((with_reducible refine gate_callee (f := 18) rfl ?_); refine goesL_ (some 10) rfl rfl Try.func18 (by kernel_rfl) rfl #[.slice A0 l0.length c0, .int .i64 (-1)] rfl (by (try simp only [List.map_toArray, List.map_cons, List.map_nil]); first | done | rfl | (simp only [List.length_drop, List.length_take]; rfl)) ?_; (with_reducible refine (copies_row.calls k _ _ l0 (-1) t119 t120 _ ?side1 ?side2 A4.out).mono ?_); (case side1 => repeat (first | exact (Kd.C_below HR0.out HB.out) | (with_reducible refine Kd.C_alloc ?_ _) | (with_reducible refine Kd.C_drewN ?_ _) | (with_reducible refine Kd.C_drew ?_))); (case side2 => exact HC0.out); rintro e w6 ⟨v121, rfl, ho0, hb⟩; refine ⟨_, rfl, ?_⟩; have n0_ := Aside0.mk (Kd.R_lower ho0 (below_size (by repeat (first | (with_reducible first | exact HB.out | apply below_alloc | apply pw_below_drewN | apply below_drew1) | exact HB.out)))); have n1_ := Aside0.mk (below_step (by repeat (first | (with_reducible first | exact HB.out | apply below_alloc | apply pw_below_drewN | apply below_drew1) | exact HB.out)) hb); clear HB; have HO122 := n0_; have HB := n1_; clear n0_ n1_; (try clear hb); (try clear hb2); (try clear hk); (try clear hi); (try clear ho0)))
  go_ret
  exact ⟨by first | rfl | (simp [errW_none, errW_some] <;> rfl) | (simp [*, errW_none, errW_some] <;> rfl), by repeat (first | (with_reducible first | exact HB.out | apply below_alloc | apply pw_below_drewN | apply below_drew1) | exact HB.out)⟩
 ·replace c3 := Bool.eq_false_iff.mpr c3
  subst c3
  have H1 : (some 0) = some r := by rw [if_neg (show ¬ (false = true) by decide)] at H; exact H
  clear H
  have H := H1
  clear H1
  obtain rfl := Option.some.inj H
  go_enter Try.func9, Try.ntmps9
  go_wp2_with (first | ((with_reducible refine gate_callee (f := 7) rfl ?_); refine goesL_ (some 6) rfl rfl Try.func7 (by kernel_rfl) rfl #[.slice A0 l0.length c0] rfl (by (try simp only [List.map_toArray, List.map_cons, List.map_nil]); first | done | rfl | (simp only [List.length_drop, List.length_take]; rfl)) ?_; (with_reducible refine (copies_May.calls _ _ l0 false _ ?side1 ?side2 A2.out).mono ?_); (case side1 => repeat (first | exact HR0.out | (with_reducible refine Kd.C_alloc ?_ _) | (with_reducible refine Kd.C_drewN ?_ _) | (with_reducible refine Kd.C_drew ?_))); (case side2 => exact HC0.out); rintro e w7 ⟨rfl, hb⟩; refine ⟨_, rfl, ?_⟩; have n0_ := Aside0.mk (below_step (by repeat (first | (with_reducible first | exact HB.out | apply below_alloc | apply pw_below_drewN | apply below_drew1) | exact HB.out)) hb); clear HB; have HB := n0_; clear n0_; (try clear hb); (try clear hb2); (try clear hk); (try clear hi)))
  go_ret
  exact ⟨by first | rfl | (simp [errW_none, errW_some] <;> rfl) | (simp [*, errW_none, errW_some] <;> rfl), by repeat (first | (with_reducible first | exact HB.out | apply below_alloc | apply pw_below_drewN | apply below_drew1) | exact HB.out)⟩
end
end Go.Proofs.Ytfbbfnadmnejeaa.X
namespace Go.Proofs.Ytfbbfnadmnejeaa.X
open Go.Shelf Go.RowKit Go.Proofs.YtfbbfnadmnejeaaW.PrintWords Go.Proofs.YtfbbfnadmnejeaaW.PrintLast Go.Proofs.YtfbbfnadmnejeaaW.PrintMore
set_option linter.all false
def slices_Clone_uint16_uint16.f (l0 : List Int) : Option (List Int) := if l0.length < 1000000 then some l0 else none
theorem slices_Clone_uint16_uint16.calls (A0 : Option Addr) (c0 : Nat) (l0 : List Int) (r : List Int) (w : World) (hr0 : Kd.C (Kd.int .u16) w A0 l0.length l0) (hc0 : l0.length ≤ c0) (h : slices_Clone_uint16_uint16.f l0 = some r) :
  Calls Try.prog 20 #[.slice A0 l0.length c0] w fun e w' => ∃ v0_ : Value, e = .returned (v0_) ∧ Kd.R (Kd.int .u16) 35 w' w.heap.size (fun _ => True) v0_ r ∧ Below w.heap.size w w' := by
 unfold slices_Clone_uint16_uint16.f at h
 by_cases hl : l0.length < 1000000
 ·rw [if_pos hl] at h
  obtain rfl := Option.some.inj h
  exact sl_Clone_u16 A0 c0 l0 w hr0 hc0 hl
 ·rw [if_neg hl] at h; cases h
end Go.Proofs.Ytfbbfnadmnejeaa.X
namespace Go.Proofs.Ytfbbfnadmnejeaa.X
open Go.RowKit Go.Proofs.YtfbbfnadmnejeaaW.PrintWords Go.Proofs.YtfbbfnadmnejeaaW.PrintLast Go.Proofs.YtfbbfnadmnejeaaW.PrintMore
attribute [local go_sem] max2_int min2_int max_two min_two max_three min_three max_four min_four
set_option linter.all false
noncomputable section
mutual
def copies_Made.l0 : Nat → List Int → List (S34) → Int → Int → Option (List Int)
 | 0, _, _, _, _ => none
 | k + 1, x5, x11, x12, x13 => if x13 < x12 then (if 0 ≤ x13 then (if x13 < (x11.length : Int) then (if ((rd_T34 x11 x13).f1) ≥ 0 then (copies_Made.j1 k x5 0 x11 x12 x13 (decide (((rd_T34 x11 x13).f1) < (x5.length : Int))) ((rd_T34 x11 x13).f0) ((rd_T34 x11 x13).f1)) else (copies_Made.j1 k x5 0 x11 x12 x13 false ((rd_T34 x11 x13).f0) ((rd_T34 x11 x13).f1))) else (none)) else (none)) else (some x5)
def copies_Made.j1 : Nat → List Int → Int → List (S34) → Int → Int → Bool → Int → Int → Option (List Int)
 | 0, _, _, _, _, _, _, _, _ => none
 | k + 1, x5, x8, x11, x12, x13, x26, x128000, x128001 => if x26 = true then (if 0 ≤ x128001 then (if x128001 < (x5.length : Int) then (if x128000 ≥ 0 then (if x128000 < (x5.length : Int) then (if 0 ≤ x128000 then (copies_Made.l0 k (x5.set (x128000 : Int).toNat (rd x5 x128001)) x11 x12 (wrap64 (x13 + 1))) else (none)) else (copies_Made.l0 k x5 x11 x12 (wrap64 (x13 + 1)))) else (copies_Made.l0 k x5 x11 x12 (wrap64 (x13 + 1)))) else (none)) else (none)) else (if x128000 ≥ 0 then (if x128000 < (x5.length : Int) then (if 0 ≤ x128000 then (copies_Made.l0 k (x5.set (x128000 : Int).toNat x8) x11 x12 (wrap64 (x13 + 1))) else (none)) else (copies_Made.l0 k x5 x11 x12 (wrap64 (x13 + 1)))) else (copies_Made.l0 k x5 x11 x12 (wrap64 (x13 + 1))))
end
def copies_Made.f (k : Nat) (l0 : List (S34)) (l1 : List Int) : Option (List Int) := (slices_Clone_uint16_uint16.f l1).bind fun t123 => (copies_Made.l0 k t123 l0 (l0.length : Int) 0)
theorem copies_Made.mono_l : ∀ k, (∀ y0 y1 y2 y3, LeO (copies_Made.l0 k y0 y1 y2 y3) (copies_Made.l0 (k + 1) y0 y1 y2 y3)) ∧ (∀ y0 y1 y2 y3 y4 y5 y6 y7, LeO (copies_Made.j1 k y0 y1 y2 y3 y4 y5 y6 y7) (copies_Made.j1 (k + 1) y0 y1 y2 y3 y4 y5 y6 y7))
 | 0 => ⟨fun _ _ _ _ r h => by simp [copies_Made.l0] at h, fun _ _ _ _ _ _ _ _ r h => by simp [copies_Made.j1] at h⟩
 | k + 1 => by
  obtain ⟨ih0, ih1⟩ := copies_Made.mono_l k
  refine ⟨?_, ?_⟩
  ·intro y0 y1 y2 y3
   unfold copies_Made.l0
   repeat' first
   | (with_reducible exact ih0 _ _ _ _)
   | (with_reducible exact ih1 _ _ _ _ _ _ _ _)
   | (with_reducible exact LeO.refl _)
   | (with_reducible exact LeO.none _)
   | (with_reducible refine LeO.ite ?_ ?_)
   | (with_reducible refine LeO.bind ?_ (fun _ => ?_))
   | exact ih0 _ _ _ _
   | exact ih1 _ _ _ _ _ _ _ _
   | exact LeO.none _
   | refine LeO.ite ?_ ?_
   | refine LeO.bind ?_ (fun _ => ?_)
  ·intro y0 y1 y2 y3 y4 y5 y6 y7
   unfold copies_Made.j1
   repeat' first
   | (with_reducible exact ih0 _ _ _ _)
   | (with_reducible exact ih1 _ _ _ _ _ _ _ _)
   | (with_reducible exact LeO.refl _)
   | (with_reducible exact LeO.none _)
   | (with_reducible refine LeO.ite ?_ ?_)
   | (with_reducible refine LeO.bind ?_ (fun _ => ?_))
   | exact ih0 _ _ _ _
   | exact ih1 _ _ _ _ _ _ _ _
   | exact LeO.none _
   | refine LeO.ite ?_ ?_
   | refine LeO.bind ?_ (fun _ => ?_)
theorem copies_Made.mono : ∀ a0 a1 k, LeO (copies_Made.f k a0 a1) (copies_Made.f (k + 1) a0 a1) := by
 intro a0 a1 k
 obtain ⟨ih0, ih1⟩ := copies_Made.mono_l k
 unfold copies_Made.f
 repeat' first
   | (with_reducible exact ih0 _ _ _ _)
   | (with_reducible exact ih1 _ _ _ _ _ _ _ _)
   | (with_reducible exact LeO.refl _)
   | (with_reducible exact LeO.none _)
   | (with_reducible refine LeO.ite ?_ ?_)
   | (with_reducible refine LeO.bind ?_ (fun _ => ?_))
   | exact ih0 _ _ _ _
   | exact ih1 _ _ _ _ _ _ _ _
   | exact LeO.none _
   | refine LeO.ite ?_ ?_
   | refine LeO.bind ?_ (fun _ => ?_)
set_option maxHeartbeats 8000000 in
set_option maxRecDepth 100000 in
theorem copies_Made.calls (k : Nat) (A0 : Option Addr) (c0 : Nat) (l0 : List (S34)) (A1 : Option Addr) (c1 : Nat) (l1 : List Int) (r : List Int) (w : World) (hr0 : Kd.C k34 w A0 l0.length l0) (hc0 : l0.length ≤ c0) (hr1 : Kd.C (Kd.int .u16) w A1 l1.length l1) (hc1 : l1.length ≤ c1) (h : copies_Made.f k l0 l1 = some r) :
  Calls Try.prog 12 #[.slice A0 l0.length c0, .slice A1 l1.length c1] w fun e w' => ∃ v0_ : Value, e = .returned (v0_) ∧ Kd.R (Kd.int .u16) 35 w' w.heap.size (fun _ => True) v0_ r ∧ Below w.heap.size w w' := by
 have hu34 := Try.underlying34
 have HR0 := Aside0.mk hr0
 have HC0 := Aside0.mk hc0
 clear hr0 hc0
 have HR1 := Aside0.mk hr1
 have HC1 := Aside0.mk hc1
 clear hr1 hc1
 have HB := Aside0.mk (Below.refl w.heap.size w)
 have H : ((slices_Clone_uint16_uint16.f l1).bind fun t123 => (copies_Made.l0 k t123 l0 (l0.length : Int) 0)) = some r := h
 clear h
 replace H := Option.bind_eq_some_iff.mp H
 obtain ⟨t123, A30, H⟩ := H
 replace H : (copies_Made.l0 k t123 l0 (l0.length : Int) 0) = some r := H
 have A3 := Aside0.mk A30
 clear A30
 have H' := Aside0.mk H
 clear H
 go_enter Try.func12, Try.ntmps12
 go_wp2_with (first | ((with_reducible refine gate_callee (f := 20) rfl ?_); refine goesL_ (some 10) rfl rfl Try.func20 (by kernel_rfl) rfl #[.slice A1 l1.length c1] rfl (by (try simp only [List.map_toArray, List.map_cons, List.map_nil]); first | done | rfl | (simp only [List.length_drop, List.length_take]; rfl)) ?_; (with_reducible refine (slices_Clone_uint16_uint16.calls _ _ l1 t123 _ ?side1 ?side2 A3.out).mono ?_); (case side1 => repeat (first | exact HR1.out | (with_reducible refine Kd.C_alloc ?_ _) | (with_reducible refine Kd.C_drewN ?_ _) | (with_reducible refine Kd.C_drew ?_))); (case side2 => exact HC1.out); rintro e w4 ⟨v124, rfl, ho0, hb⟩; refine ⟨_, rfl, ?_⟩; have n0_ := Aside0.mk (Kd.R_lower ho0 (below_size (by repeat (first | (with_reducible first | exact HB.out | apply below_alloc | apply pw_below_drewN | apply below_drew1) | exact HB.out)))); have n1_ := Aside0.mk (below_step (by repeat (first | (with_reducible first | exact HB.out | apply below_alloc | apply pw_below_drewN | apply below_drew1) | exact HB.out)) hb); clear HB; have HO125 := n0_; have HB := n1_; clear n0_ n1_; (try clear hb); (try clear hb2); (try clear hk); (try clear hi); (try clear ho0)))
 go_loopg [13] k (fun kq v13 w' => ∃ (x5_1 : List Int) (x13_1 : Int), v13 = .int .i64 x13_1 ∧ Aside0 (copies_Made.l0 kq x5_1 l0 (l0.length : Int) x13_1 = some r) ∧ Aside0 (kq ≤ k) ∧ Aside0 (Kd.R (Kd.int .u16) 35 w' w.heap.size (fun _ => True) v124 x5_1) ∧ Aside0 (Below w.heap.size w w'))
 case atStart => exact ⟨(t123), (0), (by first | rfl | (simp; done) | (simp [*]; done)), H', ⟨Nat.le_refl _⟩, ⟨by (with_reducible repeat (first | apply Kd.R_alloc | apply Kd.R_drewN | apply Kd.R_drew)); exact HO125.out⟩, ⟨by repeat (first | (with_reducible first | exact HB.out | apply below_alloc | apply pw_below_drewN | apply below_drew1) | exact HB.out)⟩⟩
 case round =>
  clear H'
  try clear c1
  try clear c2
  try clear p2
  obtain ⟨x5_1, x13_1, rfl, HA, HK1, HO_5, HB⟩ := hrel
  cases gk with
  | zero => exact absurd HA.out (by simp [copies_Made.l0])
  | succ k1 =>
   have H := HA.out
   clear HA
   simp only [copies_Made.l0] at H
   by_cases c5 : x13_1 < (l0.length : Int)
   ·rw [if_pos c5] at H
    have c5b0 : decide (x13_1 < (l0.length : Int)) = true := decide_eq_true c5
    clear c5
    by_cases c6 : 0 ≤ x13_1
    ·rw [if_pos c6] at H
     have c6b0 : decide (0 ≤ x13_1) = true := decide_eq_true c6
     clear c6
     by_cases c7 : x13_1 < (l0.length : Int)
     ·rw [if_pos c7] at H
      have c7b0 : decide (x13_1 < (l0.length : Int)) = true := decide_eq_true c7
      clear c7
      have HC8 := Aside0.mk H
      clear H
      have p126 : 0 ≤ (x13_1 : Int) := of_decide_eq_true (by first | (with_reducible assumption) | assumption)
      have q126 : x13_1 < (l0.length : Int) := of_decide_eq_true (by first | (with_reducible assumption) | assumption)
      obtain ⟨ad126, e126, hx126_0, hx126_1⟩ := at_T34 HR0.out x13_1 p126 q126
      cases e126
      replace hx126_0 := (HB.out.cell (World.block_lt_of_cell? w _ hx126_0)).trans hx126_0
      replace hx126_1 := (HB.out.cell (World.block_lt_of_cell? w _ hx126_1)).trans hx126_1
      replace p126 := eq_true p126
      replace q126 := eq_true q126
      go_upto_region 6 with (first | ((with_reducible refine gate_dst (N := 7) rfl ?_); (try (refine gate_guard (by rfl) ?_; dsimp only)); refine box_event ?hg (N := 7) ?hd (cs := #[.int .i64 0, .int .i64 0]) (t := 34) ?hr ?_; (case hd => rfl); (case hg => rfl); (case hr => first | (go_simp; done) | (go_simp; rfl)); intro gb127 hg w9 hbox hb; have n0_ := Aside0.mk (Kd.R_below (by (with_reducible repeat (first | apply Kd.R_alloc | apply Kd.R_drewN | apply Kd.R_drew)); exact HO_5.out) hb); have n1_ := Aside0.mk (below_step (by repeat (first | (with_reducible first | exact HB.out | apply below_alloc | apply pw_below_drewN | apply below_drew1) | exact HB.out)) hb); have n2_ := Aside0.mk (hbox); have n3_ := Aside0.mk ((by rw [hg]; exact (below_size (by repeat (first | (with_reducible first | exact HB.out | apply below_alloc | apply pw_below_drewN | apply below_drew1) | exact HB.out))) : w.heap.size ≤ gb127)); have n4_ := Aside0.mk ((by rw [hg]; exact (below_size (by repeat (first | (with_reducible first | exact HB.out | apply below_alloc | apply pw_below_drewN | apply below_drew1) | exact HB.out))) : w.heap.size ≤ gb127)); clear HO_5; clear HB; have HO_5 := n0_; have HB := n1_; have BK127 := n2_; have GW127 := n3_; have GE127 := n4_; clear n0_ n1_ n2_ n3_ n4_; clear hb hbox hg; have hcz10_0 : w9.cell? ⟨gb127, 0, none⟩ = some (.int .i64 0) := (blk_cell BK127.out 0).trans rfl; have hcz10_1 : w9.cell? ⟨gb127, 1, none⟩ = some (.int .i64 0) := (blk_cell BK127.out 1).trans rfl; have hfz10_0 := blk_frozen BK127.out 0; have hfz10_1 := blk_frozen BK127.out 1))
      (try simp only [Act.put, List.setIfInBounds_toArray, List.set_cons_zero, List.set_cons_succ])
      go_cut [26] (fun v26 wc => ∃ (kq : Nat) (x26_7 : Bool), v26 = .bool x26_7 ∧ Aside0 (copies_Made.j1 kq x5_1 0 l0 (l0.length : Int) x13_1 x26_7 ((rd_T34 l0 x13_1).f0) ((rd_T34 l0 x13_1).f1) = some r) ∧ Aside0 (kq ≤ k1) ∧ Aside0 (Kd.R (Kd.int .u16) 35 wc w.heap.size (fun _ => True) v124 x5_1) ∧ Aside0 (wc.heap[gb127]? = some (.cells #[.int .i64 ((rd_T34 l0 x13_1).f0), .int .i64 ((rd_T34 l0 x13_1).f1)] 34 (0, 0))) ∧ Aside0 (Below w.heap.size w wc))
      case first =>
       have H := HC8.out
       clear HC8
       by_cases c11 : ((rd_T34 l0 x13_1).f1) ≥ 0
       ·rw [if_pos c11] at H
        have c11b0 : decide (0 ≤ ((rd_T34 l0 x13_1).f1)) = true := decide_eq_true c11
        clear c11
        (first | rw [c11b0] | (simp only [i64_w, i32_w]; rw [c11b0]) | skip)
        have H' := Aside0.mk H
        clear H
        have hcz12_0 : w9.cell? ⟨gb127, 0, none⟩ = some (.int .i64 0) := (blk_cell BK127.out 0).trans rfl
        have hcz12_1 : w9.cell? ⟨gb127, 1, none⟩ = some (.int .i64 0) := (blk_cell BK127.out 1).trans rfl
        have hfz12_0 := blk_frozen BK127.out 0
        have hfz12_1 := blk_frozen BK127.out 1
        obtain ⟨Ao13, co13, eo13⟩ := Kd.R_slice HO_5.out
        subst eo13
        go_wp2
        go_meet
        case rel => exact ⟨_, (decide (((rd_T34 l0 x13_1).f1) < (x5_1.length : Int))), (by first | rfl | (simp; done) | (simp [*]; done)), H', ⟨by have := HK1.out; first | omega | exact Nat.le_refl _⟩, ⟨by (with_reducible repeat (first | apply Kd.R_alloc | apply Kd.R_drewN | apply Kd.R_drew)); exact Kd.R_mono (Kd.R_far (p := ⟨gb127, 1, none⟩) (Kd.R_far (p := ⟨gb127, 0, none⟩) (Kd.R_types HO_5.out BK127.out (by decide)) (fun _ hk => hk.2) (.int .i64 ((rd_T34 l0 x13_1).f0))) (fun _ hk => hk.2) (.int .i64 ((rd_T34 l0 x13_1).f1))) (fun _ hk => trivial)⟩, ⟨by (with_reducible repeat (first | refine blk_drewN ?_ _ | refine blk_drew ?_ | refine blk_alloc ?_ _)); refine blk_put (cs := #[.int .i64 ((rd_T34 l0 x13_1).f0), .int .i64 0]) ?_ 1 _ rfl; (with_reducible repeat (first | refine blk_drewN ?_ _ | refine blk_drew ?_ | refine blk_alloc ?_ _)); refine blk_put (cs := #[.int .i64 0, .int .i64 0]) ?_ 0 _ rfl; (with_reducible repeat (first | refine blk_drewN ?_ _ | refine blk_drew ?_ | refine blk_alloc ?_ _)); exact BK127.out⟩, ⟨by repeat (first | (with_reducible first | exact HB.out | apply below_alloc | apply pw_below_drewN | apply below_drew1 | refine below_set ?_ GE127.out) | exact HB.out)⟩⟩
       ·rw [if_neg c11] at H
        have c11b0 : decide (0 ≤ ((rd_T34 l0 x13_1).f1)) = false := decide_eq_false c11
        clear c11
        (first | rw [c11b0] | (simp only [i64_w, i32_w]; rw [c11b0]) | skip)
        have H' := Aside0.mk H
        clear H
        have hcz14_0 : w9.cell? ⟨gb127, 0, none⟩ = some (.int .i64 0) := (blk_cell BK127.out 0).trans rfl
        have hcz14_1 : w9.cell? ⟨gb127, 1, none⟩ = some (.int .i64 0) := (blk_cell BK127.out 1).trans rfl
        have hfz14_0 := blk_frozen BK127.out 0
        have hfz14_1 := blk_frozen BK127.out 1
        go_wp2
        go_meet
        case rel => exact ⟨_, (false), (by first | rfl | (simp; done) | (simp [*]; done)), H', ⟨by have := HK1.out; first | omega | exact Nat.le_refl _⟩, ⟨by (with_reducible repeat (first | apply Kd.R_alloc | apply Kd.R_drewN | apply Kd.R_drew)); exact Kd.R_mono (Kd.R_far (p := ⟨gb127, 1, none⟩) (Kd.R_far (p := ⟨gb127, 0, none⟩) (Kd.R_types HO_5.out BK127.out (by decide)) (fun _ hk => hk.2) (.int .i64 ((rd_T34 l0 x13_1).f0))) (fun _ hk => hk.2) (.int .i64 ((rd_T34 l0 x13_1).f1))) (fun _ hk => trivial)⟩, ⟨by (with_reducible repeat (first | refine blk_drewN ?_ _ | refine blk_drew ?_ | refine blk_alloc ?_ _)); refine blk_put (cs := #[.int .i64 ((rd_T34 l0 x13_1).f0), .int .i64 0]) ?_ 1 _ rfl; (with_reducible repeat (first | refine blk_drewN ?_ _ | refine blk_drew ?_ | refine blk_alloc ?_ _)); refine blk_put (cs := #[.int .i64 0, .int .i64 0]) ?_ 0 _ rfl; (with_reducible repeat (first | refine blk_drewN ?_ _ | refine blk_drew ?_ | refine blk_alloc ?_ _)); exact BK127.out⟩, ⟨by repeat (first | (with_reducible first | exact HB.out | apply below_alloc | apply pw_below_drewN | apply below_drew1 | refine below_set ?_ GE127.out) | exact HB.out)⟩⟩
      case rest =>
       clear HC8
       try clear c1
       try clear p1
       try clear q1
       try clear hx1
       try clear c2
       try clear p2
       try clear c5
       try clear c5b0
       try clear c6
       try clear c6b0
       try clear c7
       try clear c7b0
       try clear c11
       try clear c11b0
       try clear c12
       try clear p12
       try clear q12
       try clear hx12
       try clear hcz10_0
       try clear hcz10_1
       try clear hcz12_0
       try clear hcz12_1
       try clear hcz14_0
       try clear hcz14_1
       try clear hfz10_0
       try clear hfz10_1
       try clear hfz12_0
       try clear hfz12_1
       try clear hfz14_0
       try clear hfz14_1
       try clear hx126_0
       try clear hx126_1
       try clear p126
       try clear p2
       try clear q126
       obtain ⟨kq, x26_7, rfl, HA, HJ7, HO_5, BK127, HB⟩ := hcut
       cases kq with
       | zero => exact absurd HA.out (by simp [copies_Made.j1])
       | succ kj7 =>
        have H := HA.out
        clear HA
        simp only [copies_Made.j1] at H
        by_cases c15 : x26_7 = true
        ·subst c15
         have H1 : (if 0 ≤ ((rd_T34 l0 x13_1).f1) then (if ((rd_T34 l0 x13_1).f1) < (x5_1.length : Int) then (if ((rd_T34 l0 x13_1).f0) ≥ 0 then (if ((rd_T34 l0 x13_1).f0) < (x5_1.length : Int) then (if 0 ≤ ((rd_T34 l0 x13_1).f0) then (copies_Made.l0 kj7 (x5_1.set (((rd_T34 l0 x13_1).f0) : Int).toNat (rd x5_1 ((rd_T34 l0 x13_1).f1))) l0 (l0.length : Int) (wrap64 (x13_1 + 1))) else (none)) else (copies_Made.l0 kj7 x5_1 l0 (l0.length : Int) (wrap64 (x13_1 + 1)))) else (copies_Made.l0 kj7 x5_1 l0 (l0.length : Int) (wrap64 (x13_1 + 1)))) else (none)) else (none)) = some r := by rw [if_pos rfl] at H; exact H
         clear H
         have H := H1
         clear H1
         by_cases c16 : 0 ≤ ((rd_T34 l0 x13_1).f1)
         ·rw [if_pos c16] at H
          have c16b0 : decide (0 ≤ ((rd_T34 l0 x13_1).f1)) = true := decide_eq_true c16
          clear c16
          by_cases c17 : ((rd_T34 l0 x13_1).f1) < (x5_1.length : Int)
          ·rw [if_pos c17] at H
           have c17b0 : decide (((rd_T34 l0 x13_1).f1) < (x5_1.length : Int)) = true := decide_eq_true c17
           clear c17
           by_cases c18 : ((rd_T34 l0 x13_1).f0) ≥ 0
           ·rw [if_pos c18] at H
            have c18b0 : decide (0 ≤ ((rd_T34 l0 x13_1).f0)) = true := decide_eq_true c18
            clear c18
            by_cases c19 : ((rd_T34 l0 x13_1).f0) < (x5_1.length : Int)
            ·rw [if_pos c19] at H
             have c19b0 : decide (((rd_T34 l0 x13_1).f0) < (x5_1.length : Int)) = true := decide_eq_true c19
             clear c19
             by_cases c20 : 0 ≤ ((rd_T34 l0 x13_1).f0)
             ·rw [if_pos c20] at H
              have c20b0 : decide (0 ≤ ((rd_T34 l0 x13_1).f0)) = true := decide_eq_true c20
              clear c20
              obtain ⟨y129, hy129⟩ : ∃ y_ : List Int, y_ = (x5_1.set (((rd_T34 l0 x13_1).f0) : Int).toNat (rd x5_1 ((rd_T34 l0 x13_1).f1))) := ⟨_, rfl⟩
              replace H : (copies_Made.l0 kj7 y129 l0 (l0.length : Int) (wrap64 (x13_1 + 1))) = some r := by first | (rw [hy129]; with_reducible exact H) | (have H2_ := (Option.bind_some _ _).symm.trans H; rw [hy129]; with_reducible exact H2_) | (have H2_ := (Option.bind_some _ _).symm.trans H; with_reducible exact H2_) | with_reducible exact H | (rw [hy129]; exact H) | exact H
              have Ny129 := Aside0.mk hy129
              clear hy129
              have H' := Aside0.mk H
              clear H
              have hcz22_0 : wc.cell? ⟨gb127, 0, none⟩ = some (.int .i64 ((rd_T34 l0 x13_1).f0)) := (blk_cell BK127.out 0).trans rfl
              have hcz22_1 : wc.cell? ⟨gb127, 1, none⟩ = some (.int .i64 ((rd_T34 l0 x13_1).f1)) := (blk_cell BK127.out 1).trans rfl
              have hfz22_0 := blk_frozen BK127.out 0
              have hfz22_1 := blk_frozen BK127.out 1
              obtain ⟨Ao23, co23, eo23⟩ := Kd.R_slice HO_5.out
              subst eo23
              have p128 : 0 ≤ (((rd_T34 l0 x13_1).f1) : Int) := of_decide_eq_true (by first | (with_reducible assumption) | assumption)
              have q128 : ((rd_T34 l0 x13_1).f1) < (x5_1.length : Int) := of_decide_eq_true (by first | (with_reducible assumption) | assumption)
              obtain ⟨ad128, e128, hx128_0⟩ := Kd.at_int (Kd.R_reads' HO_5.out).2.2 ((rd_T34 l0 x13_1).f1) p128 q128
              cases e128
              replace p128 := eq_true p128
              replace q128 := eq_true q128
              have p21 : 0 ≤ (((rd_T34 l0 x13_1).f0) : Int) := of_decide_eq_true (by first | (with_reducible assumption) | assumption)
              have q21 : (((rd_T34 l0 x13_1).f0) : Int) < ((x5_1.length : Int) : Int) := of_decide_eq_true (by first | (with_reducible assumption) | assumption)
              obtain ⟨go21, co21, eo21, gb21, gl21, cl21, HG21⟩ := Kd.R_form HO_5.out (by omega)
              (first | cases eo21 | (injection eo21 with ea_ en_ ec_; (first | subst ea_ | (injection ea_ with ea_; subst ea_)); subst ec_; clear en_))
              have GB21 := Aside0.mk gb21
              have GG21 := Aside0.mk HG21
              clear gb21 gl21 HG21
              (first | simp only [add_plain] at hx128_0 | skip)
              obtain ⟨hx21_0, hf21_0⟩ := Kd.R_celln 0 HO_5.out (((rd_T34 l0 x13_1).f0) : Int) p21 q21
              replace p21 := eq_true p21
              replace q21 := eq_true q21
              have HP24 := Kd.R_putg HO_5.out (((rd_T34 l0 x13_1).f0) : Int) (rd x5_1 ((rd_T34 l0 x13_1).f1))
              go_wp2_with (first | ((with_reducible refine gate_store (t := 35) (p := 46) rfl ?_); refine store_event (t := 35) (p := 46) (v := ?vo_w25) (w1 := (wc.setCell ⟨go21, (((rd_T34 l0 x13_1).f0) : Int).toNat, none⟩ (.int .u16 (rd x5_1 ((rd_T34 l0 x13_1).f1))))) ?hg ?ho ?hn ?hr ?_; (case ho => rfl); (case hg => rfl); (case hn => rfl); (case hr => first | (go_simp; done) | (go_simp; rfl)); intro w25 hw; have hg : wc.grownBy w25 (some go21) := (by rw [hw]; exact HP24.2); have hp_ : Kd.R (Kd.int .u16) 35 w25 w.heap.size (fun _ => True) (.slice (some ⟨go21, 0, none⟩) x5_1.length co23) y129 := (by rw [hw, Ny129.out]; exact HP24.1); clear HP24; have n0_ := Aside0.mk (hp_); have n1_ := Aside0.mk (blk_grown (g := gb127) (o := .cells #[.int .i64 ((rd_T34 l0 x13_1).f0), .int .i64 ((rd_T34 l0 x13_1).f1)] 34 (0, 0)) (by (with_reducible repeat (first | refine blk_drewN ?_ _ | refine blk_drew ?_ | refine blk_alloc ?_ _)); exact BK127.out) hg (Kd.R_ne HO_5.out BK127.out (by decide))); have n2_ := Aside0.mk ((by rw [hw]; exact below_set (HB.out) GB21.out : Below w.heap.size w w25)); clear HO_5; clear BK127; clear HB; have HO_5 := n0_; have BK127 := n1_; have HB := n2_; clear n0_ n1_ n2_; clear hg hw hp_))
              go_roundg kj7
              case measure => have := HK1.out; have := HJ7.out; omega
              case rel => exact ⟨(y129), (wrap64 (x13_1 + 1)), (by first | rfl | (simp; done) | (simp [*]; done)), H', ⟨by have := HK1.out; have := HJ7.out; omega⟩, ⟨by (with_reducible repeat (first | apply Kd.R_alloc | apply Kd.R_drewN | apply Kd.R_drew)); exact HO_5.out⟩, ⟨by repeat (first | (with_reducible first | exact HB.out | apply below_alloc | apply pw_below_drewN | apply below_drew1 | refine below_set ?_ GE127.out) | exact HB.out)⟩⟩
             ·rw [if_neg c20] at H
              exact absurd H (by simp)
            ·rw [if_neg c19] at H
             have c19b0 : decide (((rd_T34 l0 x13_1).f0) < (x5_1.length : Int)) = false := decide_eq_false c19
             clear c19
             have H' := Aside0.mk H
             clear H
             have hcz26_0 : wc.cell? ⟨gb127, 0, none⟩ = some (.int .i64 ((rd_T34 l0 x13_1).f0)) := (blk_cell BK127.out 0).trans rfl
             have hcz26_1 : wc.cell? ⟨gb127, 1, none⟩ = some (.int .i64 ((rd_T34 l0 x13_1).f1)) := (blk_cell BK127.out 1).trans rfl
             have hfz26_0 := blk_frozen BK127.out 0
             have hfz26_1 := blk_frozen BK127.out 1
             obtain ⟨Ao27, co27, eo27⟩ := Kd.R_slice HO_5.out
             subst eo27
             have p128 : 0 ≤ (((rd_T34 l0 x13_1).f1) : Int) := of_decide_eq_true (by first | (with_reducible assumption) | assumption)
             have q128 : ((rd_T34 l0 x13_1).f1) < (x5_1.length : Int) := of_decide_eq_true (by first | (with_reducible assumption) | assumption)
             obtain ⟨ad128, e128, hx128_0⟩ := Kd.at_int (Kd.R_reads' HO_5.out).2.2 ((rd_T34 l0 x13_1).f1) p128 q128
             cases e128
             replace p128 := eq_true p128
             replace q128 := eq_true q128
             go_wp2
             go_roundg kj7
             case measure => have := HK1.out; have := HJ7.out; omega
             case rel => exact ⟨(x5_1), (wrap64 (x13_1 + 1)), (by first | rfl | (simp; done) | (simp [*]; done)), H', ⟨by have := HK1.out; have := HJ7.out; omega⟩, ⟨by (with_reducible repeat (first | apply Kd.R_alloc | apply Kd.R_drewN | apply Kd.R_drew)); exact HO_5.out⟩, ⟨by repeat (first | (with_reducible first | exact HB.out | apply below_alloc | apply pw_below_drewN | apply below_drew1 | refine below_set ?_ GE127.out) | exact HB.out)⟩⟩
           ·rw [if_neg c18] at H
            have c18b0 : decide (0 ≤ ((rd_T34 l0 x13_1).f0)) = false := decide_eq_false c18
            clear c18
            have H' := Aside0.mk H
            clear H
            have hcz28_0 : wc.cell? ⟨gb127, 0, none⟩ = some (.int .i64 ((rd_T34 l0 x13_1).f0)) := (blk_cell BK127.out 0).trans rfl
            have hcz28_1 : wc.cell? ⟨gb127, 1, none⟩ = some (.int .i64 ((rd_T34 l0 x13_1).f1)) := (blk_cell BK127.out 1).trans rfl
            have hfz28_0 := blk_frozen BK127.out 0
            have hfz28_1 := blk_frozen BK127.out 1
            obtain ⟨Ao29, co29, eo29⟩ := Kd.R_slice HO_5.out
            subst eo29
            have p128 : 0 ≤ (((rd_T34 l0 x13_1).f1) : Int) := of_decide_eq_true (by first | (with_reducible assumption) | assumption)
            have q128 : ((rd_T34 l0 x13_1).f1) < (x5_1.length : Int) := of_decide_eq_true (by first | (with_reducible assumption) | assumption)
            obtain ⟨ad128, e128, hx128_0⟩ := Kd.at_int (Kd.R_reads' HO_5.out).2.2 ((rd_T34 l0 x13_1).f1) p128 q128
            cases e128
            replace p128 := eq_true p128
            replace q128 := eq_true q128
            go_wp2
            go_roundg kj7
            case measure => have := HK1.out; have := HJ7.out; omega
            case rel => exact ⟨(x5_1), (wrap64 (x13_1 + 1)), (by first | rfl | (simp; done) | (simp [*]; done)), H', ⟨by have := HK1.out; have := HJ7.out; omega⟩, ⟨by (with_reducible repeat (first | apply Kd.R_alloc | apply Kd.R_drewN | apply Kd.R_drew)); exact HO_5.out⟩, ⟨by repeat (first | (with_reducible first | exact HB.out | apply below_alloc | apply pw_below_drewN | apply below_drew1 | refine below_set ?_ GE127.out) | exact HB.out)⟩⟩
          ·rw [if_neg c17] at H
           exact absurd H (by simp)
         ·rw [if_neg c16] at H
          exact absurd H (by simp)
        ·replace c15 := Bool.eq_false_iff.mpr c15
         subst c15
         have H1 : (if ((rd_T34 l0 x13_1).f0) ≥ 0 then (if ((rd_T34 l0 x13_1).f0) < (x5_1.length : Int) then (if 0 ≤ ((rd_T34 l0 x13_1).f0) then (copies_Made.l0 kj7 (x5_1.set (((rd_T34 l0 x13_1).f0) : Int).toNat 0) l0 (l0.length : Int) (wrap64 (x13_1 + 1))) else (none)) else (copies_Made.l0 kj7 x5_1 l0 (l0.length : Int) (wrap64 (x13_1 + 1)))) else (copies_Made.l0 kj7 x5_1 l0 (l0.length : Int) (wrap64 (x13_1 + 1)))) = some r := by rw [if_neg (show ¬ (false = true) by decide)] at H; exact H
         clear H
         have H := H1
         clear H1
         by_cases c30 : ((rd_T34 l0 x13_1).f0) ≥ 0
         ·rw [if_pos c30] at H
          have c30b0 : decide (0 ≤ ((rd_T34 l0 x13_1).f0)) = true := decide_eq_true c30
          clear c30
          by_cases c31 : ((rd_T34 l0 x13_1).f0) < (x5_1.length : Int)
          ·rw [if_pos c31] at H
           have c31b0 : decide (((rd_T34 l0 x13_1).f0) < (x5_1.length : Int)) = true := decide_eq_true c31
           clear c31
           by_cases c32 : 0 ≤ ((rd_T34 l0 x13_1).f0)
           ·rw [if_pos c32] at H
            have c32b0 : decide (0 ≤ ((rd_T34 l0 x13_1).f0)) = true := decide_eq_true c32
            clear c32
            obtain ⟨y130, hy130⟩ : ∃ y_ : List Int, y_ = (x5_1.set (((rd_T34 l0 x13_1).f0) : Int).toNat 0) := ⟨_, rfl⟩
            replace H : (copies_Made.l0 kj7 y130 l0 (l0.length : Int) (wrap64 (x13_1 + 1))) = some r := by first | (rw [hy130]; with_reducible exact H) | (have H2_ := (Option.bind_some _ _).symm.trans H; rw [hy130]; with_reducible exact H2_) | (have H2_ := (Option.bind_some _ _).symm.trans H; with_reducible exact H2_) | with_reducible exact H | (rw [hy130]; exact H) | exact H
            have Ny130 := Aside0.mk hy130
            clear hy130
            have H' := Aside0.mk H
            clear H
            have hcz34_0 : wc.cell? ⟨gb127, 0, none⟩ = some (.int .i64 ((rd_T34 l0 x13_1).f0)) := (blk_cell BK127.out 0).trans rfl
            have hcz34_1 : wc.cell? ⟨gb127, 1, none⟩ = some (.int .i64 ((rd_T34 l0 x13_1).f1)) := (blk_cell BK127.out 1).trans rfl
            have hfz34_0 := blk_frozen BK127.out 0
            have hfz34_1 := blk_frozen BK127.out 1
            obtain ⟨Ao35, co35, eo35⟩ := Kd.R_slice HO_5.out
            subst eo35
            have p33 : 0 ≤ (((rd_T34 l0 x13_1).f0) : Int) := of_decide_eq_true (by first | (with_reducible assumption) | assumption)
            have q33 : (((rd_T34 l0 x13_1).f0) : Int) < ((x5_1.length : Int) : Int) := of_decide_eq_true (by first | (with_reducible assumption) | assumption)
            obtain ⟨go33, co33, eo33, gb33, gl33, cl33, HG33⟩ := Kd.R_form HO_5.out (by omega)
            (first | cases eo33 | (injection eo33 with ea_ en_ ec_; (first | subst ea_ | (injection ea_ with ea_; subst ea_)); subst ec_; clear en_))
            have GB33 := Aside0.mk gb33
            have GG33 := Aside0.mk HG33
            clear gb33 gl33 HG33
            obtain ⟨hx33_0, hf33_0⟩ := Kd.R_celln 0 HO_5.out (((rd_T34 l0 x13_1).f0) : Int) p33 q33
            replace p33 := eq_true p33
            replace q33 := eq_true q33
            have HP36 := Kd.R_putg HO_5.out (((rd_T34 l0 x13_1).f0) : Int) 0
            go_wp2_with (first | ((with_reducible refine gate_store (t := 35) (p := 46) rfl ?_); refine store_event (t := 35) (p := 46) (v := ?vo_w37) (w1 := (wc.setCell ⟨go33, (((rd_T34 l0 x13_1).f0) : Int).toNat, none⟩ (.int .u16 0))) ?hg ?ho ?hn ?hr ?_; (case ho => rfl); (case hg => rfl); (case hn => rfl); (case hr => first | (go_simp; done) | (go_simp; rfl)); intro w37 hw; have hg : wc.grownBy w37 (some go33) := (by rw [hw]; exact HP36.2); have hp_ : Kd.R (Kd.int .u16) 35 w37 w.heap.size (fun _ => True) (.slice (some ⟨go33, 0, none⟩) x5_1.length co35) y130 := (by rw [hw, Ny130.out]; exact HP36.1); clear HP36; have n0_ := Aside0.mk (hp_); have n1_ := Aside0.mk (blk_grown (g := gb127) (o := .cells #[.int .i64 ((rd_T34 l0 x13_1).f0), .int .i64 ((rd_T34 l0 x13_1).f1)] 34 (0, 0)) (by (with_reducible repeat (first | refine blk_drewN ?_ _ | refine blk_drew ?_ | refine blk_alloc ?_ _)); exact BK127.out) hg (Kd.R_ne HO_5.out BK127.out (by decide))); have n2_ := Aside0.mk ((by rw [hw]; exact below_set (HB.out) GB33.out : Below w.heap.size w w37)); clear HO_5; clear BK127; clear HB; have HO_5 := n0_; have BK127 := n1_; have HB := n2_; clear n0_ n1_ n2_; clear hg hw hp_))
            go_roundg kj7
            case measure => have := HK1.out; have := HJ7.out; omega
            case rel => exact ⟨(y130), (wrap64 (x13_1 + 1)), (by first | rfl | (simp; done) | (simp [*]; done)), H', ⟨by have := HK1.out; have := HJ7.out; omega⟩, ⟨by (with_reducible repeat (first | apply Kd.R_alloc | apply Kd.R_drewN | apply Kd.R_drew)); exact HO_5.out⟩, ⟨by repeat (first | (with_reducible first | exact HB.out | apply below_alloc | apply pw_below_drewN | apply below_drew1 | refine below_set ?_ GE127.out) | exact HB.out)⟩⟩
           ·rw [if_neg c32] at H
            exact absurd H (by simp)
          ·rw [if_neg c31] at H
           have c31b0 : decide (((rd_T34 l0 x13_1).f0) < (x5_1.length : Int)) = false := decide_eq_false c31
           clear c31
           have H' := Aside0.mk H
           clear H
           have hcz38_0 : wc.cell? ⟨gb127, 0, none⟩ = some (.int .i64 ((rd_T34 l0 x13_1).f0)) := (blk_cell BK127.out 0).trans rfl
           have hcz38_1 : wc.cell? ⟨gb127, 1, none⟩ = some (.int .i64 ((rd_T34 l0 x13_1).f1)) := (blk_cell BK127.out 1).trans rfl
           have hfz38_0 := blk_frozen BK127.out 0
           have hfz38_1 := blk_frozen BK127.out 1
           obtain ⟨Ao39, co39, eo39⟩ := Kd.R_slice HO_5.out
           subst eo39
           go_wp2
           go_roundg kj7
           case measure => have := HK1.out; have := HJ7.out; omega
           case rel => exact ⟨(x5_1), (wrap64 (x13_1 + 1)), (by first | rfl | (simp; done) | (simp [*]; done)), H', ⟨by have := HK1.out; have := HJ7.out; omega⟩, ⟨by (with_reducible repeat (first | apply Kd.R_alloc | apply Kd.R_drewN | apply Kd.R_drew)); exact HO_5.out⟩, ⟨by repeat (first | (with_reducible first | exact HB.out | apply below_alloc | apply pw_below_drewN | apply below_drew1 | refine below_set ?_ GE127.out) | exact HB.out)⟩⟩
         ·rw [if_neg c30] at H
          have c30b0 : decide (0 ≤ ((rd_T34 l0 x13_1).f0)) = false := decide_eq_false c30
          clear c30
          have H' := Aside0.mk H
          clear H
          have hcz40_0 : wc.cell? ⟨gb127, 0, none⟩ = some (.int .i64 ((rd_T34 l0 x13_1).f0)) := (blk_cell BK127.out 0).trans rfl
          have hcz40_1 : wc.cell? ⟨gb127, 1, none⟩ = some (.int .i64 ((rd_T34 l0 x13_1).f1)) := (blk_cell BK127.out 1).trans rfl
          have hfz40_0 := blk_frozen BK127.out 0
          have hfz40_1 := blk_frozen BK127.out 1
          go_wp2
          go_roundg kj7
          case measure => have := HK1.out; have := HJ7.out; omega
          case rel => exact ⟨(x5_1), (wrap64 (x13_1 + 1)), (by first | rfl | (simp; done) | (simp [*]; done)), H', ⟨by have := HK1.out; have := HJ7.out; omega⟩, ⟨by (with_reducible repeat (first | apply Kd.R_alloc | apply Kd.R_drewN | apply Kd.R_drew)); exact HO_5.out⟩, ⟨by repeat (first | (with_reducible first | exact HB.out | apply below_alloc | apply pw_below_drewN | apply below_drew1 | refine below_set ?_ GE127.out) | exact HB.out)⟩⟩
     ·rw [if_neg c7] at H
      exact absurd H (by simp)
    ·rw [if_neg c6] at H
     exact absurd H (by simp)
   ·rw [if_neg c5] at H
    have c5b0 : decide (x13_1 < (l0.length : Int)) = false := decide_eq_false c5
    clear c5
    obtain rfl := Option.some.inj H
    go_wp2
    go_ret
    exact ⟨_, by first | rfl | (simp [errW_none, errW_some] <;> rfl) | (simp [*, errW_none, errW_some] <;> rfl), by (with_reducible repeat (first | apply Kd.R_alloc | apply Kd.R_drewN | apply Kd.R_drew)); exact HO_5.out, by repeat (first | (with_reducible first | exact HB.out | apply below_alloc | apply pw_below_drewN | apply below_drew1) | exact HB.out)⟩
end
end Go.Proofs.Ytfbbfnadmnejeaa.X
namespace Go.Proofs.Ytfbbfnadmnejeaa.X
open Go.Shelf Go.RowKit Go.Proofs.YtfbbfnadmnejeaaW.PrintWords Go.Proofs.YtfbbfnadmnejeaaW.PrintLast Go.Proofs.YtfbbfnadmnejeaaW.PrintMore
set_option linter.all false
def namedB (l : List S34) (a : Int) : Bool := decide (0 ≤ idxF (fun m : S34 => m.f0 == a || m.f1 == a) l 0)
def copies_Row.f (k : Nat) (l0 : List S34) (a1 : Int) : Option (List S34 × Int) :=
 if l0.length < 1000000 then (if mayL l0 = true then (if placeB a1 = true then (if namedB l0 a1 = true then some ([], 1) else (copies_row.f k l0 a1).bind fun p => some (p.1, 0)) else some ([], 1)) else some ([], 1)) else none
theorem copies_Row.mono : ∀ a0 a1 k, LeO (copies_Row.f k a0 a1) (copies_Row.f (k + 1) a0 a1) := by
 intro a0 a1 k
 unfold copies_Row.f
 repeat' first
   | (with_reducible exact LeO.refl _)
   | (with_reducible exact copies_row.mono _ _ _)
   | (with_reducible refine LeO.ite ?_ ?_)
   | (with_reducible refine LeO.bind ?_ (fun _ => ?_))
theorem row_pred (x : S34) (a : Int) (g : Nat) (w : World) (hb : w.heap[g]? = some (.cells #[.int .i64 a] 3 (0, 0))) :
  Calls Try.prog 22 #[.agg #[.int .i64 x.f0, .int .i64 x.f1], .pointer (some ⟨g, 0, none⟩)] w fun e w' => e = .returned (.bool (x.f0 == a || x.f1 == a)) ∧ Below w.heap.size w w' := by
 have BG := Aside0.mk hb
 clear hb
 cases h0 : (x.f0 == a) with
 | true =>
  go_enter Try.func22, Try.ntmps22
  go_wp2_with (((with_reducible refine gate_dst (N := 2) rfl ?_); refine box_event ?hg (N := 2) ?hd (cs := #[.int .i64 x.f0, .int .i64 x.f1]) (t := 34) ?hr ?_; (case hd => rfl); (case hg => rfl); (case hr => first | (go_simp; done) | (go_simp; rfl)); intro gb hg w4 hbox hb; have HB4 := Aside0.mk hb; have hcz0 := (blk_cell hbox 0).trans rfl; have hcz1 := (blk_cell hbox 1).trans rfl; have hcy0 : w4.cell? ⟨g, 0, none⟩ = some (.int .i64 a) := (blk_cell (blk_below BG.out hb) 0).trans rfl; clear hbox hb hg))
  go_ret
  exact ⟨rfl, HB4.out⟩
 | false =>
  go_enter Try.func22, Try.ntmps22
  go_wp2_with (((with_reducible refine gate_dst (N := 2) rfl ?_); refine box_event ?hg (N := 2) ?hd (cs := #[.int .i64 x.f0, .int .i64 x.f1]) (t := 34) ?hr ?_; (case hd => rfl); (case hg => rfl); (case hr => first | (go_simp; done) | (go_simp; rfl)); intro gb hg w4 hbox hb; have HB4 := Aside0.mk hb; have hcz0 := (blk_cell hbox 0).trans rfl; have hcz1 := (blk_cell hbox 1).trans rfl; have hcy0 : w4.cell? ⟨g, 0, none⟩ = some (.int .i64 a) := (blk_cell (blk_below BG.out hb) 0).trans rfl; clear hbox hb hg))
  go_ret
  exact ⟨rfl, HB4.out⟩
set_option maxHeartbeats 4000000 in
set_option maxRecDepth 100000 in
theorem copies_Row.calls (k : Nat) (A0 : Option Addr) (c0 : Nat) (l0 : List S34) (a1 : Int) (r1 : List S34) (r2 : Int) (w : World) (hr0 : Kd.C k34 w A0 l0.length l0) (hc0 : l0.length ≤ c0) (h : copies_Row.f k l0 a1 = some (r1, r2)) :
  Calls Try.prog 14 #[.slice A0 l0.length c0, .int .i64 a1] w fun e w' => ∃ v0_ : Value, e = .returned (.tuple #[v0_, .int .i64 r2]) ∧ Kd.R k34 34 w' w.heap.size (fun _ => True) v0_ r1 ∧ Below w.heap.size w w' := by
 unfold copies_Row.f at h
 by_cases hl : l0.length < 1000000
 ·rw [if_pos hl] at h
  have HMY := Aside0.mk (show copies_May.f l0 = some (mayL l0) by unfold copies_May.f; rw [if_pos hl])
  have HR := Aside0.mk hr0
  have HCC := Aside0.mk hc0
  clear hr0 hc0 hl
  obtain ⟨nm, HNM⟩ : ∃ nm, Aside0 (decide (0 ≤ idxF (fun m : S34 => m.f0 == a1 || m.f1 == a1) l0 0) = nm) := ⟨_, ⟨rfl⟩⟩
  rw [show namedB l0 a1 = nm from HNM.out] at h
  cases hm : mayL l0 with
  | false =>
   rw [hm, if_neg (by simp)] at h
   have HMV := Aside0.mk hm
   simp only [Option.some.injEq, Prod.mk.injEq] at h
   obtain ⟨rfl, rfl⟩ := h
   clear hm
   go_enter Try.func14, Try.ntmps14
   go_wp2_with (first | ((with_reducible refine gate_dst (N := 3) rfl ?_); refine box_event ?hg (N := 3) ?hd (cs := #[.int .i64 a1]) (t := 3) ?hr ?_; (case hd => rfl); (case hg => rfl); (case hr => first | (go_simp; done) | (go_simp; rfl)); intro gb hg w4 hbox hb; have BK := Aside0.mk hbox; have HB := Aside0.mk hb; clear hbox hb hg) | (go_at_call 21; refine (sl_ContainsFunc_mv A0 c0 l0 22 #[.pointer (some ⟨gb, 0, none⟩)] (fun m => m.f0 == a1 || m.f1 == a1) none _ (enters_of Try.func22 (by kernel_rfl) rfl) (Kd.C_below HR.out HB.out) HCC.out (fun y hy W hW => row_pred y a1 gb W (blk_grown BK.out hW (by simp)))).mono ?_; rintro e w5 ⟨rfl, hb⟩; have n0_ := Aside0.mk (below_step HB.out hb); have n1_ := Aside0.mk (blk_below BK.out hb); clear hb HB BK; have HB := n0_; have BK := n1_; clear n0_ n1_; rw [HNM.out]) | (go_at_call 7; refine (copies_May.calls A0 c0 l0 (mayL l0) _ (Kd.C_below HR.out HB.out) HCC.out HMY.out).mono ?_; rintro e w6 ⟨rfl, hb⟩; have n0_ := Aside0.mk (below_step HB.out hb); have n1_ := Aside0.mk (blk_below BK.out hb); clear hb HB BK; have HB := n0_; have BK := n1_; clear n0_ n1_; have hcy0 := (blk_cell BK.out 0).trans rfl; rw [HMV.out]))
   go_ret2
   exact ⟨_, rfl, Kd.R_nil _ _ _ _ _, HB.out⟩
  | true =>
   rw [hm, if_pos rfl] at h
   have HMV := Aside0.mk hm
   clear hm
   cases hp : placeB a1 with
   | false =>
    rw [hp, if_neg (by simp)] at h
    have HPL := Aside0.mk hp
    simp only [Option.some.injEq, Prod.mk.injEq] at h
    obtain ⟨rfl, rfl⟩ := h
    clear hp
    go_enter Try.func14, Try.ntmps14
    go_wp2_with (first | ((with_reducible refine gate_dst (N := 3) rfl ?_); refine box_event ?hg (N := 3) ?hd (cs := #[.int .i64 a1]) (t := 3) ?hr ?_; (case hd => rfl); (case hg => rfl); (case hr => first | (go_simp; done) | (go_simp; rfl)); intro gb hg w4 hbox hb; have BK := Aside0.mk hbox; have HB := Aside0.mk hb; clear hbox hb hg) | (go_at_call 21; refine (sl_ContainsFunc_mv A0 c0 l0 22 #[.pointer (some ⟨gb, 0, none⟩)] (fun m => m.f0 == a1 || m.f1 == a1) none _ (enters_of Try.func22 (by kernel_rfl) rfl) (Kd.C_below HR.out HB.out) HCC.out (fun y hy W hW => row_pred y a1 gb W (blk_grown BK.out hW (by simp)))).mono ?_; rintro e w5 ⟨rfl, hb⟩; have n0_ := Aside0.mk (below_step HB.out hb); have n1_ := Aside0.mk (blk_below BK.out hb); clear hb HB BK; have HB := n0_; have BK := n1_; clear n0_ n1_; rw [HNM.out]) | (go_at_call 7; refine (copies_May.calls A0 c0 l0 (mayL l0) _ (Kd.C_below HR.out HB.out) HCC.out HMY.out).mono ?_; rintro e w6 ⟨rfl, hb⟩; have n0_ := Aside0.mk (below_step HB.out hb); have n1_ := Aside0.mk (blk_below BK.out hb); clear hb HB BK; have HB := n0_; have BK := n1_; clear n0_ n1_; have hcy0 := (blk_cell BK.out 0).trans rfl; rw [HMV.out]) | (go_at_call 17; refine (copies_place.calls a1 _ _ (place_eq a1)).mono ?_; rintro e w7 ⟨rfl, hb⟩; have n0_ := Aside0.mk (below_step HB.out hb.below); have n1_ := Aside0.mk (blk_below BK.out hb.below); clear hb HB BK hcy0; have HB := n0_; have BK := n1_; clear n0_ n1_; have hcy0 := (blk_cell BK.out 0).trans rfl; rw [HPL.out]))
    go_ret2
    exact ⟨_, rfl, Kd.R_nil _ _ _ _ _, HB.out⟩
   | true =>
    rw [hp, if_pos rfl] at h
    have HPL := Aside0.mk hp
    clear hp
    cases nm with
    | true =>
     rw [if_pos rfl] at h
     simp only [Option.some.injEq, Prod.mk.injEq] at h
     obtain ⟨rfl, rfl⟩ := h
     go_enter Try.func14, Try.ntmps14
     go_wp2_with (first | ((with_reducible refine gate_dst (N := 3) rfl ?_); refine box_event ?hg (N := 3) ?hd (cs := #[.int .i64 a1]) (t := 3) ?hr ?_; (case hd => rfl); (case hg => rfl); (case hr => first | (go_simp; done) | (go_simp; rfl)); intro gb hg w4 hbox hb; have BK := Aside0.mk hbox; have HB := Aside0.mk hb; clear hbox hb hg) | (go_at_call 21; refine (sl_ContainsFunc_mv A0 c0 l0 22 #[.pointer (some ⟨gb, 0, none⟩)] (fun m => m.f0 == a1 || m.f1 == a1) none _ (enters_of Try.func22 (by kernel_rfl) rfl) (Kd.C_below HR.out HB.out) HCC.out (fun y hy W hW => row_pred y a1 gb W (blk_grown BK.out hW (by simp)))).mono ?_; rintro e w5 ⟨rfl, hb⟩; have n0_ := Aside0.mk (below_step HB.out hb); have n1_ := Aside0.mk (blk_below BK.out hb); clear hb HB BK; have HB := n0_; have BK := n1_; clear n0_ n1_; rw [HNM.out]) | (go_at_call 7; refine (copies_May.calls A0 c0 l0 (mayL l0) _ (Kd.C_below HR.out HB.out) HCC.out HMY.out).mono ?_; rintro e w6 ⟨rfl, hb⟩; have n0_ := Aside0.mk (below_step HB.out hb); have n1_ := Aside0.mk (blk_below BK.out hb); clear hb HB BK; have HB := n0_; have BK := n1_; clear n0_ n1_; have hcy0 := (blk_cell BK.out 0).trans rfl; rw [HMV.out]) | (go_at_call 17; refine (copies_place.calls a1 _ _ (place_eq a1)).mono ?_; rintro e w7 ⟨rfl, hb⟩; have n0_ := Aside0.mk (below_step HB.out hb.below); have n1_ := Aside0.mk (blk_below BK.out hb.below); clear hb HB BK hcy0; have HB := n0_; have BK := n1_; clear n0_ n1_; have hcy0 := (blk_cell BK.out 0).trans rfl; rw [HPL.out]))
     go_ret2
     exact ⟨_, rfl, Kd.R_nil _ _ _ _ _, HB.out⟩
    | false =>
     rw [if_neg (by simp)] at h
     obtain ⟨⟨q1, q2⟩, hq, h⟩ := Option.bind_eq_some_iff.1 h
     have HRW := Aside0.mk hq
     simp only [Option.some.injEq, Prod.mk.injEq] at h
     obtain ⟨rfl, rfl⟩ := h
     clear hq
     go_enter Try.func14, Try.ntmps14
     go_wp2_with (first | ((with_reducible refine gate_dst (N := 3) rfl ?_); refine box_event ?hg (N := 3) ?hd (cs := #[.int .i64 a1]) (t := 3) ?hr ?_; (case hd => rfl); (case hg => rfl); (case hr => first | (go_simp; done) | (go_simp; rfl)); intro gb hg w4 hbox hb; have BK := Aside0.mk hbox; have HB := Aside0.mk hb; clear hbox hb hg) | (go_at_call 21; refine (sl_ContainsFunc_mv A0 c0 l0 22 #[.pointer (some ⟨gb, 0, none⟩)] (fun m => m.f0 == a1 || m.f1 == a1) none _ (enters_of Try.func22 (by kernel_rfl) rfl) (Kd.C_below HR.out HB.out) HCC.out (fun y hy W hW => row_pred y a1 gb W (blk_grown BK.out hW (by simp)))).mono ?_; rintro e w5 ⟨rfl, hb⟩; have n0_ := Aside0.mk (below_step HB.out hb); have n1_ := Aside0.mk (blk_below BK.out hb); clear hb HB BK; have HB := n0_; have BK := n1_; clear n0_ n1_; rw [HNM.out]) | (go_at_call 7; refine (copies_May.calls A0 c0 l0 (mayL l0) _ (Kd.C_below HR.out HB.out) HCC.out HMY.out).mono ?_; rintro e w6 ⟨rfl, hb⟩; have n0_ := Aside0.mk (below_step HB.out hb); have n1_ := Aside0.mk (blk_below BK.out hb); clear hb HB BK; have HB := n0_; have BK := n1_; clear n0_ n1_; have hcy0 := (blk_cell BK.out 0).trans rfl; rw [HMV.out]) | (go_at_call 17; refine (copies_place.calls a1 _ _ (place_eq a1)).mono ?_; rintro e w7 ⟨rfl, hb⟩; have n0_ := Aside0.mk (below_step HB.out hb.below); have n1_ := Aside0.mk (blk_below BK.out hb.below); clear hb HB BK hcy0; have HB := n0_; have BK := n1_; clear n0_ n1_; have hcy0 := (blk_cell BK.out 0).trans rfl; rw [HPL.out]) | (go_at_call 18; refine (copies_row.calls k A0 c0 l0 a1 q1 q2 _ (Kd.C_below HR.out HB.out) HCC.out HRW.out).mono ?_; rintro e w8 ⟨v0, rfl, ho, hb⟩; have HO := Aside0.mk (Kd.R_lower ho (below_size HB.out)); have n0_ := Aside0.mk (below_step HB.out hb); clear hb HB hcy0 ho; have HB := n0_; clear n0_))
     go_ret2
     exact ⟨_, rfl, HO.out, HB.out⟩
 ·rw [if_neg hl] at h; cases h
end Go.Proofs.Ytfbbfnadmnejeaa.X
