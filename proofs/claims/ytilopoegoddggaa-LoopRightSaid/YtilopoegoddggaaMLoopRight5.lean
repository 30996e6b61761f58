/- Part 6 of the proof of the statement LoopRight: the words of the walks, the walks through the functions that it reaches, and the plain laws of what they compute. -/
import Derived.Test.YtilopoegoddggaaMLoopRight4
import Derived.Deep.Slices
import Derived.Lib.SmallJoins
import Derived.ChangeArms
import Derived.Test.YtilopoegoddggaaRows
import Derived.WalkKit
import Derived.ProofKit
import Derived.OpenShut
import Derived.ShutString
import Derived.ChangeOld
import Derived.Below
import Derived.SizedLaws
import Derived.Carry
namespace Go.Proofs.Ytilopoegoddggaa.X
open Go.RowKit Go.Proofs.YtilopoegoddggaaW.PrintWords Go.Proofs.YtilopoegoddggaaW.PrintLast Go.Proofs.YtilopoegoddggaaW.PrintMore
open Go.Proofs.Ytilopoegoddggaa.G
set_option linter.all false
abbrev DD (bs : List S50) (a b : Int) : Prop := Dom bs.length (nextL bs) a b
structure OverOk (bs : List S50) (r : List Int) (place o : Int → Int) : Prop where
 len : r.length = bs.length
 rd : ∀ m : Int, 0 ≤ m → m < bs.length → rd r m = if m = 0 then -1 else o m
 pl : Pl bs.length (nextL bs) place
 tree : Tree bs.length (nextL bs) place o
 done : ∀ m, RR bs m → 0 ≤ o m
 lt : ∀ m, RR bs m → place m < bs.length
 anc : ∀ x m, RR bs m → (Anc o x m ↔ DD bs x m)
theorem reached_ok (a0 a1 : Int) (bs : List S50) (hl : bs.length ≤ 1000) : ∃ seen, flow_Reached.f a0 a1 bs = some seen ∧ seen.length = bs.length ∧ ∀ m : Int, 0 ≤ m → m < bs.length → (rdOf false seen m = true ↔ RR bs m) := by
 obtain ⟨seen, left, e, O⟩ := walk_ok bs hl
 refine ⟨seen, ?_, O.len, O.seen⟩
 unfold flow_Reached.f
 rw [if_pos hl, e]; rfl
theorem over_ok (a0 a1 : Int) (bs : List S50) (hl : bs.length ≤ 1000) (h0 : 0 < bs.length) : ∃ r place o, dom_Over.f a0 a1 bs = some r ∧ OverOk bs r place o := by
 obtain ⟨seen, left, e, O⟩ := walk_ok bs hl
 obtain ⟨t, ht⟩ := O.head h0
 obtain ⟨p, ep, hp, h1, h2⟩ := place_ok left.reverse 0 (List.replicate bs.length 0) (fun m hm => by rw [List.length_replicate]; exact ((O.mem m).1 hm).inV (next_edges bs)) O.nd
 have Q : Pos left.reverse (rd p) := ⟨fun l1 l2 m h => by rw [h1 l1 l2 m h]; omega⟩
 have L := Q.pl O h0
 have hp' : p.length = bs.length := by rw [hp, List.length_replicate]
 have hst : rd ((List.replicate bs.length (-1 : Int)).set 0 0) = fun x => if x = 0 then 0 else rd ((List.replicate bs.length (-1 : Int)).set 0 0) x := by
  funext x
  split
  ·rename_i h
   subst h
   unfold rd
   rw [List.getD_eq_getElem?_getD, List.getElem?_set]
   simp [h0]
  ·rfl
 have hI : Inv bs.length (nextL bs) (rd p) (rd ((List.replicate bs.length (-1 : Int)).set 0 0)) 1 false := by
  have S := Inv.start L h0
  have hz : rd ((List.replicate bs.length (-1 : Int)).set 0 0) 0 = 0 := by
   unfold rd
   rw [List.getD_eq_getElem?_getD, List.getElem?_set]
   simp [h0]
  have hm : ∀ m : Int, 0 ≤ m → m < bs.length → m ≠ 0 → rd ((List.replicate bs.length (-1 : Int)).set 0 0) m = -1 := by
   intro m a b c
   unfold rd
   rw [List.getD_eq_getElem?_getD, List.getElem?_set, if_neg (by omega), List.getElem?_replicate, if_pos (by omega)]
   rfl
  have hR : ∀ m, RR bs m → m ≠ 0 → ¬ 0 ≤ rd ((List.replicate bs.length (-1 : Int)).set 0 0) m := fun m a b c => by
   have hv := a.inV (next_edges bs)
   rw [hm m hv.1 hv.2 b] at c
   omega
  refine { toTree := ⟨hz, fun n a b c => hm n a b (fun e => c (e ▸ .zero h0 (by omega))), fun n a b => ?_, fun n a b c => absurd c (hR n a b)⟩, P := fun m a b => ?_, U := fun m a b x h => ?_, K := fun m a b c => absurd c (hR m a b), M := fun m q a b c => absurd c (hR m a b) }
  ·by_cases hn : n = 0
   ·rw [hn, hz]; omega
   ·rw [hm n a b hn]; omega
  ·rcases b with b | b
   ·have : m = 0 := L.inj _ _ a (.zero h0 (by omega)) (by have := L.pos m a; have := L.zero; omega)
    rw [this, hz]; omega
   ·cases b
  ·by_cases e : m = 0
   ·subst e
    rw [h.at_zero]; exact .refl _
   ·exact absurd b (hR m a e)
 obtain ⟨over, ⟨K, hK⟩, F1, F2, F3⟩ := first_ok a0 a1 hl O Q L hp' ht _ (by simp) hI
 have hdone : ∀ m, RR bs m → 0 ≤ rd over m := fun m hm => F2.P m hm (.inr rfl)
 refine ⟨over.set 0 (-1), rd p, rd over, ?_, by rw [List.length_set]; exact F1, fun m a b => ?_, L, F2.toTree, hdone, fun m hm => (by have := pos_lt O Q hm; have := O.cnt; omega), fun x m hm => F2.dom L hdone F3 hm⟩
 ·unfold dom_Over.f
  rw [if_pos hl]
  refine anyK_ev ⟨K, fun k hk => ?_⟩ (grownO_mono a0 a1 bs)
  unfold grownO flow_Order.f
  rw [if_pos hl, e]
  simp only [Option.map_some, Option.bind_some]
  rw [ep, Option.bind_some, if_neg (by rw [ht]; simp), if_pos h0]
  have : left.reverse.drop 1 = t := by rw [ht]; rfl
  rw [this, hK k k hk hk, Option.bind_some, if_pos (by omega)]
 ·have := rd_set over 0 m (-1) (by omega) (by omega) a
  exact this
open Classical in
theorem is_l0 {bs : List S50} {r : List Int} {place o : Int → Int} (H : OverOk bs r place o) (a : Int) (ha : 0 ≤ a) : ∀ (j : Nat) (b : Int), (place b).toNat ≤ j → RR bs b → Evt (fun k => dom_Is.l0 k a b r) (decide (DD bs a b)) := by
 intro j
 induction j with
 | zero =>
  intro b hj hb
  have hz : b = 0 := H.pl.inj _ _ hb (.zero (by have := hb.inV (next_edges bs); omega) (by omega)) (by have := H.pl.pos b hb; have := H.pl.zero; omega)
  subst hz
  have hN : 0 < bs.length := by have := hb.inV (next_edges bs); omega
  by_cases e : 0 = a
  ·refine Evt.succ ?_
   simp only [dom_Is.l0, if_pos e]
   rw [decide_eq_true (show DD bs a 0 from e ▸ Dom.refl (next_edges bs) hb)]
   rw [show ((0 : Int) == a) = true by simp [e]]
   exact Evt.pure _
  ·have hr0 : rd r 0 = -1 := by rw [H.rd 0 (by omega) (by omega), if_pos rfl]
   refine Evt.succ ?_
   simp only [dom_Is.l0, if_neg e, if_pos (show (0 : Int) ≥ 0 by omega), if_pos (show (0 : Int) ≤ 0 by omega), if_pos (show (0 : Int) < (r.length : Int) by have := H.len; omega), hr0]
   refine Evt.succ ?_
   simp only [dom_Is.l0, if_neg (show ¬ (-1 : Int) = a by omega), if_neg (show ¬ (-1 : Int) ≥ 0 by omega)]
   rw [decide_eq_false (show ¬ DD bs a 0 from fun h => e h.at_zero.symm), show ((-1 : Int) == a) = false by simp; omega]
   exact Evt.pure _
 | succ j ih =>
  intro b hj hb
  have hv := hb.inV (next_edges bs)
  by_cases e : b = a
  ·refine Evt.succ ?_
   simp only [dom_Is.l0, if_pos e]
   rw [decide_eq_true (show DD bs a b from e ▸ Dom.refl (next_edges bs) hb)]
   rw [show (b == a) = true by simp [e]]
   exact Evt.pure _
  ·by_cases hz : b = 0
   ·subst hz
    have hr0 : rd r 0 = -1 := by rw [H.rd 0 (by omega) (by omega), if_pos rfl]
    refine Evt.succ ?_
    simp only [dom_Is.l0, if_neg e, if_pos (show (0 : Int) ≥ 0 by omega), if_pos (show (0 : Int) ≤ 0 by omega), if_pos (show (0 : Int) < (r.length : Int) by have := H.len; omega), hr0]
    refine Evt.succ ?_
    simp only [dom_Is.l0, if_neg (show ¬ (-1 : Int) = a by omega), if_neg (show ¬ (-1 : Int) ≥ 0 by omega)]
    rw [decide_eq_false (show ¬ DD bs a 0 from fun h => e h.at_zero.symm), show ((-1 : Int) == a) = false by simp; omega]
    exact Evt.pure _
   ·obtain ⟨u1, u2, u3⟩ := H.tree.up b hb hz (H.done b hb)
    have hpo := H.pl.pos _ u1
    refine Evt.succ ?_
    simp only [dom_Is.l0, if_neg e, if_pos (show b ≥ 0 by omega), if_pos (show 0 ≤ b by omega), if_pos (show b < (r.length : Int) by have := H.len; omega), H.rd b hv.1 hv.2, if_neg hz]
    rw [decide_eq_decide.2 (show DD bs a b ↔ DD bs a (o b) by
     rw [← H.anc a b hb, ← H.anc a (o b) u1]
     exact ⟨fun h => (h.cases_ne fun e' => e e'.symm).2, fun h => .up hz h⟩)]
    exact ih (o b) (by omega) u1
open Classical in
theorem is_ev (a0 a1 : Int) (bs : List S50) (hl : bs.length ≤ 1000) (a b : Int) : Evt (fun k => dom_Is.f k a0 a1 bs a b) (decide (DD bs a b)) := by
 have hoff : ¬ DD bs a b → Evt (fun k => dom_Is.j0 k a b true a0 a1 bs) (decide (DD bs a b)) := fun h => by
  refine Evt.succ ?_
  simp only [dom_Is.j0, if_pos]
  rw [decide_eq_false h]
  exact Evt.pure _
 unfold dom_Is.f
 by_cases h1 : a < 0
 ·simp only [if_pos h1]
  exact hoff fun h => by have := h.2.1; omega
 simp only [if_neg h1]
 by_cases h2 : a ≥ (bs.length : Int)
 ·simp only [if_pos h2]
  exact hoff fun h => by have := h.2.1; omega
 simp only [if_neg h2]
 by_cases h3 : b < 0
 ·simp only [if_pos h3]
  exact hoff fun h => by have := h.1.inV (next_edges bs); omega
 simp only [if_neg h3]
 by_cases h4 : b ≥ (bs.length : Int)
 ·simp only [if_pos h4]
  exact hoff fun h => by have := h.1.inV (next_edges bs); omega
 simp only [if_neg h4]
 obtain ⟨seen, e, hs, hr⟩ := reached_ok a0 a1 bs hl
 simp only [e, Option.bind_some, if_pos (show 0 ≤ b by omega), if_pos (show b < (seen.length : Int) by omega)]
 by_cases hb : RR bs b
 ·rw [(hr b (by omega) (by omega)).2 hb]
  obtain ⟨r, place, o, er, H⟩ := over_ok a0 a1 bs hl (by omega)
  refine Evt.succ ?_
  simp only [dom_Is.j0, Bool.not_true, if_neg Bool.false_ne_true, er, Option.bind_some]
  have := is_l0 H a (by omega) _ b (Nat.le_refl _) hb
  exact this
 ·have : rdOf false seen b = false := by
   cases h : rdOf false seen b with
   | false => rfl
   | true => exact absurd ((hr b (by omega) (by omega)).1 h) hb
  rw [this]
  exact hoff fun h => hb h.1
end Go.Proofs.Ytilopoegoddggaa.X
namespace Go.Proofs.Ytilopoegoddggaa.X
open Go.RowKit Go.Proofs.YtilopoegoddggaaW.PrintWords Go.Proofs.YtilopoegoddggaaW.PrintLast Go.Proofs.YtilopoegoddggaaW.PrintMore
open Go.Proofs.Ytilopoegoddggaa.G
set_option linter.all false
theorem refnext_l0 (a0 a1 : Int) (bs : List S50) (l : List Int) (hl : l.length ≤ 3) : ∀ (d : Nat) (i : Int) (out : List Int), 0 ≤ i → i + d = l.length → out.length ≤ i.toNat →
  Evt (fun k => davitref07_Next.l0 k l out i a0 a1 bs) (out ++ (l.drop i.toNat).filter fun k => isB bs.length k)
 | 0, i, out, h0, h1, h2 => by
  refine Evt.succ ?_
  simp only [davitref07_Next.l0, if_neg (show ¬ i < (l.length : Int) by omega)]
  rw [List.drop_eq_nil_of_le (by omega), List.filter_nil, List.append_nil]
  exact Evt.pure _
 | d + 1, i, out, h0, h1, h2 => by
  have hlt : i < (l.length : Int) := by omega
  rw [rd_get h0 hlt]
  refine Evt.succ ?_
  simp only [davitref07_Next.l0, if_pos hlt, if_pos h0, wrap64_small (i + 1) (by omega) (by omega), if_pos (show out.length < 17592186044416 by omega)]
  by_cases e1 : rd l i ≥ 0
  ·by_cases e2 : rd l i < (bs.length : Int)
   ·simp only [if_pos e1, if_pos e2]
    have := refnext_l0 a0 a1 bs l hl d (i + 1) (out ++ [rd l i]) (by omega) (by omega) (by simp; omega)
    rw [List.filter_cons, if_pos ((isB_iff _ _).2 ⟨e1, e2⟩)]
    rw [List.append_assoc] at this
    exact this
   ·simp only [if_pos e1, if_neg e2]
    have := refnext_l0 a0 a1 bs l hl d (i + 1) out (by omega) (by omega) (by omega)
    rw [List.filter_cons, if_neg (fun h => e2 ((isB_iff _ _).1 h).2)]
    exact this
  ·simp only [if_neg e1]
   have := refnext_l0 a0 a1 bs l hl d (i + 1) out (by omega) (by omega) (by omega)
   rw [List.filter_cons, if_neg (fun h => e1 ((isB_iff _ _).1 h).1)]
   exact this
theorem refnext_ev (a0 a1 : Int) (bs : List S50) (n : Int) : Evt (fun k => davitref07_Next.f k a0 a1 bs n) (nextL bs n) := by
 have hoff : isB bs.length n = false → Evt (fun k => davitref07_Next.j0 k n true a0 a1 bs) (nextL bs n) := fun h => by
  refine Evt.succ ?_
  simp only [davitref07_Next.j0, if_pos, nextL, h, if_neg Bool.false_ne_true]
  exact Evt.pure _
 unfold davitref07_Next.f
 by_cases h1 : n < 0
 ·simp only [if_pos h1]
  exact hoff (by simp [isB]; omega)
 ·by_cases h2 : n ≥ (bs.length : Int)
  ·simp only [if_neg h1, decide_eq_true h2]
   exact hoff (by simp [isB]; omega)
  ·have hb : isB bs.length n = true := (isB_iff _ _).2 ⟨by omega, by omega⟩
   simp only [if_neg h1, decide_eq_false h2, nextL, hb, if_pos]
   have key : ∀ l : List Int, l = allL (rd_T50 bs n) → Evt (fun k => davitref07_Next.l0 k l [] 0 a0 a1 bs) ((allL (rd_T50 bs n)).filter fun k => isB bs.length k) := fun l e => by
    subst e
    have := refnext_l0 a0 a1 bs _ (allL_len (rd_T50 bs n)) _ 0 [] (by omega) (Int.zero_add _) (by simp)
    simpa using this
   refine Evt.succ ?_
   simp only [davitref07_Next.j0, if_neg Bool.false_ne_true, if_pos (show 0 ≤ n by omega), if_pos (show n < (bs.length : Int) by omega)]
   by_cases k2 : (rd_T50 bs n).f3.f0 = 2
   ·simp only [if_pos k2]
    refine Evt.succ ?_
    simp only [davitref07_Next.j1, if_pos, List.length_nil, if_pos (show 0 < 17592186044416 by omega)]
    refine Evt.succ ?_
    simp only [davitref07_Next.j2, k2, if_neg (show ¬ (2 : Int) = 3 by omega)]
    refine Evt.succ ?_
    simp only [davitref07_Next.j3, if_neg (show ¬ (2 : Int) = 4 by omega)]
    refine Evt.succ ?_
    simp only [davitref07_Next.j4]
    exact key _ (by simp [allL, goalsL, k2])
   ·by_cases k3 : (rd_T50 bs n).f3.f0 = 3
    ·simp only [if_neg k2, if_pos k3]
     refine Evt.succ ?_
     simp only [davitref07_Next.j1, if_pos, List.length_nil, if_pos (show 0 < 17592186044416 by omega)]
     refine Evt.succ ?_
     simp only [davitref07_Next.j2, k3, if_pos]
     simp only [List.nil_append, List.length_cons, List.length_nil, if_pos (show 0 + 1 < 17592186044416 by omega)]
     refine Evt.succ ?_
     simp only [davitref07_Next.j3, if_neg (show ¬ (3 : Int) = 4 by omega)]
     refine Evt.succ ?_
     simp only [davitref07_Next.j4]
     exact key _ (by simp [allL, goalsL, k3])
    ·simp only [if_neg k2, if_neg k3]
     by_cases k4 : (rd_T50 bs n).f3.f0 = 4
     ·simp only [k4]
      refine Evt.succ ?_
      simp only [davitref07_Next.j1, beq_self_eq_true, if_pos, List.length_nil, if_pos (show 0 < 17592186044416 by omega)]
      refine Evt.succ ?_
      simp only [davitref07_Next.j2, if_neg (show ¬ (4 : Int) = 3 by omega)]
      refine Evt.succ ?_
      simp only [davitref07_Next.j3, if_pos, List.nil_append, List.length_cons, List.length_nil, if_pos (show 0 + 1 < 17592186044416 by omega)]
      refine Evt.succ ?_
      simp only [davitref07_Next.j4]
      exact key _ (by simp [allL, goalsL, k4])
     ·refine Evt.succ ?_
      simp only [davitref07_Next.j1, show ((rd_T50 bs n).f3.f0 == 4) = false by simp [k4], if_neg Bool.false_ne_true]
      refine Evt.succ ?_
      simp only [davitref07_Next.j2, if_neg k3]
      refine Evt.succ ?_
      simp only [davitref07_Next.j3, if_neg k4]
      refine Evt.succ ?_
      simp only [davitref07_Next.j4]
      exact key _ (by simp [allL, goalsL, k2, k3, k4])
open Classical in
noncomputable def lst (P : Int → Prop) (N : Nat) : List Bool := (upTo N).map fun i => decide (P i)
theorem lst_len (P : Int → Prop) (N : Nat) : (lst P N).length = N := by simp [lst, upTo_len]
theorem upTo_get {N : Nat} {i : Nat} (h : i < N) : (upTo N)[i]? = some (i : Int) := by
 simp [upTo, List.getElem?_map, List.getElem?_range h]
open Classical in
theorem lst_rd (P : Int → Prop) {N : Nat} {i : Int} (h0 : 0 ≤ i) (h1 : i < N) : rdOf false (lst P N) i = decide (P i) := by
 unfold rdOf lst
 rw [List.getD_eq_getElem?_getD, List.getElem?_map, upTo_get (show i.toNat < N by omega)]
 simp only [Option.map_some, Option.getD_some]
 rw [show ((i.toNat : Nat) : Int) = i by omega]
open Classical in
theorem lst_eq {P : Int → Prop} {N : Nat} {s : List Bool} (hl : s.length = N) (h : ∀ i : Int, 0 ≤ i → i < N → (rdOf false s i = true ↔ P i)) : s = lst P N := by
 refine List.ext_getElem (by rw [hl, lst_len]) fun j h1 h2 => ?_
 have e1 : rdOf false s (j : Int) = s[j] := by unfold rdOf; simp [List.getD_eq_getElem?_getD, List.getElem?_eq_getElem h1]
 have e2 : rdOf false (lst P N) (j : Int) = (lst P N)[j] := by unfold rdOf; simp [List.getD_eq_getElem?_getD, List.getElem?_eq_getElem h2]
 have := h j (by omega) (by omega)
 rw [← e1, ← e2, lst_rd P (by omega) (by omega)]
 by_cases hp : P j
 ·rw [this.2 hp, decide_eq_true hp]
 ·rw [decide_eq_false hp]
  cases hb : rdOf false s (j : Int) with
  | false => rfl
  | true => exact absurd (this.1 hb) hp
section
variable {bs : List S50} {no : Int} (a0 a1 : Int)
structure Snd (bs : List S50) (P : Int → Prop) (s : List Bool) : Prop where
 len : s.length = bs.length
 snd : ∀ i : Int, 0 ≤ i → i < bs.length → rdOf false s i = true → P i
theorem Snd.set {P : Int → Prop} {s : List Bool} (h : Snd bs P s) {b : Int} (h0 : 0 ≤ b) (h1 : b < bs.length) (hp : P b) : Snd bs P (s.set b.toNat true) := by
 refine ⟨by rw [List.length_set]; exact h.len, fun i a c hi => ?_⟩
 rw [rdOf_set s b i true h0 (by have := h.len; omega) a] at hi
 by_cases e : i = b
 ·exact e ▸ hp
 ·rw [if_neg e] at hi; exact h.snd i a c hi
abbrev RW (bs : List S50) (no : Int) : Int → Prop := Rch bs.length (nextL bs) no
theorem without_l2 (hl : bs.length ≤ 1000) (R : List Bool) (c0 : Nat) (i : Int) (hi : 0 ≤ i) (hi1 : i < bs.length)
  (K : ∀ s more, Snd bs (RW bs no) s → rdOf false s 0 = true → (more = false → ∀ j : Int, 0 ≤ j → j < i + 1 → rdOf false s j = true → ∀ b ∈ nextL bs j, b ≠ no → rdOf false s b = true) → s.count false ≤ c0 → (more = true → s.count false < c0) → Evt (fun k => davitref07_Without.l1 k no s more (i + 1) a0 a1 bs) R) :
  ∀ (d : Nat) (p : Int) (s : List Bool) (more : Bool), 0 ≤ p → p + d = (nextL bs i).length → Snd bs (RW bs no) s → rdOf false s 0 = true →
   (more = false → ∀ j : Int, 0 ≤ j → j < i → rdOf false s j = true → ∀ b ∈ nextL bs j, b ≠ no → rdOf false s b = true) → (more = false → rdOf false s i = true → ∀ b ∈ (nextL bs i).take p.toNat, b ≠ no → rdOf false s b = true) → s.count false ≤ c0 → (more = true → s.count false < c0) →
   Evt (fun k => davitref07_Without.l2 k no s more i (nextL bs i) p a0 a1 bs) R
 | 0, p, s, more, h0, h1, hs, hz, hc, ht, hn, hm => by
  refine Evt.succ ?_
  simp only [davitref07_Without.l2, if_neg (show ¬ p < ((nextL bs i).length : Int) by omega), wrap64_small (i + 1) (by omega) (by omega)]
  refine K s more hs hz (fun e j j0 j1 hj b hb hbn => ?_) hn hm
  by_cases e' : j = i
  ·subst e'
   exact ht e hj b (by rw [List.take_of_length_le (by omega)]; exact hb) hbn
  ·exact hc e j j0 (by omega) hj b hb hbn
 | d + 1, p, s, more, h0, h1, hs, hz, hc, ht, hn, hm => by
  have hlt : p < ((nextL bs i).length : Int) := by omega
  have h3 := next_len bs i
  have hw := wrap64_small (p + 1) (by omega) (by omega)
  have hlen := hs.len
  have hmem := rd_mem h0 hlt
  have hv := (next_edges bs _ _ hmem).2
  have htk : (nextL bs i).take (p + 1).toNat = (nextL bs i).take p.toNat ++ [rd (nextL bs i) p] := by
   rw [show (p + 1).toNat = p.toNat + 1 by omega]
   exact take_one _ _ 0 (by omega)
  refine Evt.succ ?_
  cases hsi : rdOf false s i with
  | false =>
   simp only [davitref07_Without.l2, if_pos hlt, if_pos hi, if_pos (show i < (s.length : Int) by omega), hsi, if_neg Bool.false_ne_true, hw]
   exact without_l2 hl R c0 i hi hi1 K d (p + 1) s more (by omega) (by omega) hs hz hc (fun e h => by rw [hsi] at h; cases h) hn hm
  | true =>
   simp only [davitref07_Without.l2, if_pos hlt, if_pos hi, if_pos (show i < (s.length : Int) by omega), hsi, if_pos, if_pos h0, hw]
   by_cases e1 : rd (nextL bs i) p = no
   ·simp only [if_pos e1]
    exact without_l2 hl R c0 i hi hi1 K d (p + 1) s more (by omega) (by omega) hs hz hc (fun e h b hb hbn => by
     rw [htk] at hb
     rcases List.mem_append.1 hb with hb | hb
     ·exact ht e h b hb hbn
     ·exact absurd ((List.mem_singleton.1 hb).trans e1) hbn) hn hm
   ·simp only [if_neg e1, if_pos hv.1, if_pos (show rd (nextL bs i) p < (s.length : Int) by omega)]
    cases hsb : rdOf false s (rd (nextL bs i) p) with
    | true =>
     simp only [if_pos]
     exact without_l2 hl R c0 i hi hi1 K d (p + 1) s more (by omega) (by omega) hs hz hc (fun e h b hb hbn => by
      rw [htk] at hb
      rcases List.mem_append.1 hb with hb | hb
      ·exact ht e h b hb hbn
      ·rw [List.mem_singleton.1 hb]; exact hsb) hn hm
    | false =>
     simp only [if_neg Bool.false_ne_true]
     have hcn := count_unseen s _ hv.1 (by omega) hsb
     refine without_l2 hl R c0 i hi hi1 K d (p + 1) _ true (by omega) (by omega) (hs.set hv.1 hv.2 (.step (hs.snd i hi hi1 hsi) hmem e1)) ?_ (by simp) (by simp) (by omega) (fun _ => by omega)
     rw [rdOf_set s _ 0 true hv.1 (by omega) (by omega)]
     split
     ·rfl
     ·exact hz
theorem without_l1 (hl : bs.length ≤ 1000) (R : List Bool) (c0 : Nat)
  (K : ∀ s more, Snd bs (RW bs no) s → rdOf false s 0 = true → (more = false → ∀ j : Int, 0 ≤ j → j < bs.length → rdOf false s j = true → ∀ b ∈ nextL bs j, b ≠ no → rdOf false s b = true) → (more = true → s.count false < c0) → Evt (fun k => davitref07_Without.l0 k no s more a0 a1 bs) R) :
  ∀ (d : Nat) (i : Int) (s : List Bool) (more : Bool), 0 ≤ i → i + d = bs.length → Snd bs (RW bs no) s → rdOf false s 0 = true →
   (more = false → ∀ j : Int, 0 ≤ j → j < i → rdOf false s j = true → ∀ b ∈ nextL bs j, b ≠ no → rdOf false s b = true) → s.count false ≤ c0 → (more = true → s.count false < c0) →
   Evt (fun k => davitref07_Without.l1 k no s more i a0 a1 bs) R
 | 0, i, s, more, h0, h1, hs, hz, hc, hn, hm => by
  have hlen := hs.len
  refine Evt.succ ?_
  simp only [davitref07_Without.l1, if_neg (show ¬ i < (s.length : Int) by omega)]
  exact K s more hs hz (fun e j j0 j1 => hc e j j0 (by omega)) hm
 | d + 1, i, s, more, h0, h1, hs, hz, hc, hn, hm => by
  have hlen := hs.len
  refine Evt.succ ?_
  simp only [davitref07_Without.l1, if_pos (show i < (s.length : Int) by omega)]
  refine Evt.bind (refnext_ev a0 a1 bs i) ?_
  exact without_l2 a0 a1 hl R c0 i h0 (by omega) (fun s' more' q1 q2 q3 q4 q5 => without_l1 hl R c0 K d (i + 1) s' more' (by omega) (by omega) q1 q2 q3 q4 q5) _ 0 s more (by omega) (by rw [Int.zero_add]) hs hz hc (by simp) hn hm
theorem without_l0 (hl : bs.length ≤ 1000) : ∀ (c : Nat) (s : List Bool), Snd bs (RW bs no) s → rdOf false s 0 = true → s.count false ≤ c → Evt (fun k => davitref07_Without.l0 k no s true a0 a1 bs) (lst (RW bs no) bs.length) := by
 intro c
 induction c using Nat.strongRecOn with
 | ind c ih =>
  intro s hs hz hc
  refine Evt.succ ?_
  simp only [davitref07_Without.l0, if_pos]
  refine without_l1 a0 a1 hl _ c (fun s' more' q1 q2 q3 q4 => ?_) bs.length 0 s false (by omega) (by omega) hs hz (fun _ j j0 j1 => by omega) hc (by simp)
  cases more' with
  | true => exact ih _ (q4 rfl) s' q1 q2 (Nat.le_refl _)
  | false =>
   refine Evt.succ ?_
   simp only [davitref07_Without.l0, if_neg Bool.false_ne_true]
   rw [show s' = lst (RW bs no) bs.length from lst_eq q1.len fun i i0 i1 => ⟨q1.snd i i0 i1, fun h => ?_⟩]
   ·exact Evt.pure _
   ·induction h with
    | zero _ _ => exact q2
    | step ha hb hne ihh =>
     have hv := next_edges bs _ _ hb
     exact q3 rfl _ hv.1.1 hv.1.2 (ihh hv.1.1 hv.1.2) _ hb hne
theorem without_ev (hl : bs.length ≤ 1000) (no : Int) : Evt (fun k => davitref07_Without.f k a0 a1 bs no) (lst (RW bs no) bs.length) := by
 unfold davitref07_Without.f
 simp only [if_pos (show 0 ≤ (bs.length : Int) by omega), Int.toNat_natCast, if_pos (show bs.length ≤ 281474976710656 by omega), Option.bind_some, List.length_replicate]
 have hrep : ∀ i : Int, rdOf false (List.replicate bs.length false) i = false := by
  intro m
  unfold rdOf
  rw [List.getD_eq_getElem?_getD]
  by_cases h : m.toNat < bs.length
  ·rw [List.getElem?_replicate, if_pos h]; rfl
  ·rw [List.getElem?_replicate, if_neg h]; rfl
 have hoff : (∀ i, ¬ RW bs no i) → Evt (fun k => davitref07_Without.j0 k no (List.replicate bs.length false) true a0 a1 bs) (lst (RW bs no) bs.length) := fun h => by
  refine Evt.succ ?_
  simp only [davitref07_Without.j0, if_pos]
  rw [show List.replicate bs.length false = lst (RW bs no) bs.length from lst_eq (by simp) fun i i0 i1 => by rw [hrep i]; simp [h i]]
  exact Evt.pure _
 by_cases h0 : bs.length = 0
 ·simp only [if_pos (show (bs.length : Int) = 0 by omega)]
  exact hoff fun i h => by have := h.inV (next_edges bs); omega
 ·simp only [if_neg (show ¬ (bs.length : Int) = 0 by omega)]
  by_cases e : no = 0
  ·simp only [show (no == 0) = true by simp [e]]
   exact hoff fun i h => by subst e; exact no_rch0 h
  ·simp only [show (no == 0) = false by simp [e]]
   refine Evt.succ ?_
   simp only [davitref07_Without.j0, if_neg Bool.false_ne_true, List.length_replicate, if_pos (show 0 < (bs.length : Int) by omega)]
   refine without_l0 a0 a1 hl _ _ (Snd.set ⟨by simp, fun i _ _ h => by rw [hrep i] at h; cases h⟩ (by omega) (by omega) (.zero (by omega) (fun h => e h.symm))) ?_ (Nat.le_refl _)
   have := rdOf_set (List.replicate bs.length false) 0 0 true (by omega) (by simp; omega) (by omega)
   rw [this, if_pos rfl]
theorem refreached_ev (hl : bs.length ≤ 1000) : Evt (fun k => davitref07_Reached.f k a0 a1 bs) (lst (RR bs) bs.length) := by
 unfold davitref07_Reached.f
 exact Evt.bind (without_ev a0 a1 hl (-1)) (Evt.pure _)
end
end Go.Proofs.Ytilopoegoddggaa.X
namespace Go.Proofs.Ytilopoegoddggaa.X
open Go.RowKit Go.Proofs.YtilopoegoddggaaW.PrintWords Go.Proofs.YtilopoegoddggaaW.PrintLast Go.Proofs.YtilopoegoddggaaW.PrintMore
open Go.Proofs.Ytilopoegoddggaa.G
open Classical
set_option linter.all false
noncomputable def allT (bs : List S50) : List (List Bool) := (upTo bs.length).map fun a => lst (DD bs a) bs.length
theorem allT_len (bs : List S50) : (allT bs).length = bs.length := by simp [allT, upTo_len]
theorem allT_rd (bs : List S50) {a : Int} (h0 : 0 ≤ a) (h1 : a < bs.length) : rd_L12 (allT bs) a = lst (DD bs a) bs.length := by
 unfold rd_L12 allT
 rw [List.getD_eq_getElem?_getD, List.getElem?_map, upTo_get (show a.toNat < bs.length by omega)]
 simp only [Option.map_some, Option.getD_some]
 rw [show ((a.toNat : Nat) : Int) = a by omega]
section
variable {bs : List S50} (a0 a1 : Int)
theorem rep_rd (n : Nat) (m : Int) : rdOf false (List.replicate n false) m = false := by
 unfold rdOf
 rw [List.getD_eq_getElem?_getD]
 by_cases h : m.toNat < n
 ·rw [List.getElem?_replicate, if_pos h]; rfl
 ·rw [List.getElem?_replicate, if_neg h]; rfl
theorem all_l1 (hl : bs.length ≤ 1000) (R : List (List Bool)) (out : List (List Bool)) (ho : out.length ≤ 1000) (a : Int) (ha : 0 ≤ a ∧ a < bs.length)
  (K : Evt (fun k => davitref08_All.l0 k (lst (RR bs) bs.length) (out ++ [lst (DD bs a) bs.length]) (a + 1) a0 a1 bs) R) :
  ∀ (d : Nat) (i : Int) (row : List Bool), 0 ≤ i → i + d = bs.length → row.length = bs.length → (∀ j : Int, 0 ≤ j → j < i → (rdOf false row j = true ↔ DD bs a j)) →
   Evt (fun k => davitref08_All.l1 k (lst (RR bs) bs.length) out a (lst (RW bs a) bs.length) row i a0 a1 bs) R
 | 0, i, row, h0, h1, hr, hj => by
  refine Evt.succ ?_
  simp only [davitref08_All.l1, if_neg (show ¬ i < (bs.length : Int) by omega), if_pos (show out.length < 5864062014805 by omega), wrap64_small (a + 1) (by omega) (by omega)]
  rw [show row = lst (DD bs a) bs.length from lst_eq hr fun j j0 j1 => hj j j0 (by omega)]
  exact K
 | d + 1, i, row, h0, h1, hr, hj => by
  have hi : i < (bs.length : Int) := by omega
  refine Evt.succ ?_
  have step : ∀ b : Bool, (b = true ↔ DD bs a i) → Evt (fun k => davitref08_All.l1 k (lst (RR bs) bs.length) out a (lst (RW bs a) bs.length) (row.set i.toNat b) (i + 1) a0 a1 bs) R := fun b hb => by
   refine all_l1 hl R out ho a ha K d (i + 1) _ (by omega) (by omega) (by rw [List.length_set]; exact hr) fun j j0 j1 => ?_
   rw [rdOf_set row i j b h0 (by omega) j0]
   by_cases e : j = i
   ·rw [if_pos e, e]; exact hb
   ·rw [if_neg e]; exact hj j j0 (by omega)
  simp only [davitref08_All.l1, if_pos hi, if_pos h0, lst_len, hr, lst_rd (RR bs) h0 hi, lst_rd (RW bs a) h0 hi, wrap64_small (i + 1) (by omega) (by omega)]
  by_cases hR : RR bs i
  ·simp only [decide_eq_true hR, if_pos]
   by_cases e : a = i
   ·simp only [if_pos e]
    exact step true ⟨fun _ => by rw [e]; exact Dom.refl (next_edges bs) hR, fun _ => rfl⟩
   ·simp only [if_neg e]
    refine step _ ?_
    by_cases hw : RW bs a i
    ·rw [decide_eq_true hw]
     exact ⟨fun h => (by simp at h), fun h => absurd hw (h.2.2.resolve_left e)⟩
    ·rw [decide_eq_false hw]
     exact ⟨fun _ => ⟨hR, by omega, .inr hw⟩, fun _ => rfl⟩
  ·simp only [decide_eq_false hR, if_neg Bool.false_ne_true]
   exact step false ⟨fun h => (by cases h), fun h => absurd h.1 hR⟩
theorem all_l0 (hl : bs.length ≤ 1000) : ∀ (d : Nat) (a : Int), 0 ≤ a → a + d = bs.length → Evt (fun k => davitref08_All.l0 k (lst (RR bs) bs.length) ((upTo a.toNat).map fun a => lst (DD bs a) bs.length) a a0 a1 bs) (allT bs)
 | 0, a, h0, h1 => by
  refine Evt.succ ?_
  simp only [davitref08_All.l0, if_neg (show ¬ a < (bs.length : Int) by omega)]
  rw [show a.toNat = bs.length by omega]
  exact Evt.pure _
 | d + 1, a, h0, h1 => by
  have ha : a < (bs.length : Int) := by omega
  refine Evt.succ ?_
  simp only [davitref08_All.l0, if_pos ha]
  refine Evt.bind (without_ev a0 a1 hl a) ?_
  simp only [if_pos (show 0 ≤ (bs.length : Int) by omega), Int.toNat_natCast, if_pos (show bs.length ≤ 281474976710656 by omega)]
  refine all_l1 a0 a1 hl _ _ (by simp [upTo_len]; omega) a ⟨h0, ha⟩ ?_ bs.length 0 _ (by omega) (by omega) (by simp) (fun j j0 j1 => by omega)
  have := all_l0 hl d (a + 1) (by omega) (by omega)
  rw [show (a + 1).toNat = a.toNat + 1 by omega, upTo_succ, List.map_append, List.map_cons, List.map_nil, show ((a.toNat : Nat) : Int) = a by omega] at this
  exact this
theorem refall_ev (hl : bs.length ≤ 1000) : Evt (fun k => davitref08_All.f k a0 a1 bs) (allT bs) := by
 unfold davitref08_All.f
 exact Evt.bind (refreached_ev a0 a1 hl) (all_l0 a0 a1 hl bs.length 0 (by omega) (by omega))
end
end Go.Proofs.Ytilopoegoddggaa.X
namespace Go.Proofs.Ytilopoegoddggaa.X
open Go.RowKit Go.Proofs.YtilopoegoddggaaW.PrintWords Go.Proofs.YtilopoegoddggaaW.PrintLast Go.Proofs.YtilopoegoddggaaW.PrintMore
open Go.Proofs.Ytilopoegoddggaa.G
open Classical
set_option linter.all false
theorem Evt.at {α : Type} {g : Nat → Option α} {r q : α} (h : Evt g r) (hm : ∀ k, LeO (g k) (g (k + 1))) {k : Nat} (hq : g k = some q) : r = q := by
 obtain ⟨K, hK⟩ := h
 have h1 := more_rounds hm k (K - k) q hq
 by_cases hk : K ≤ k
 ·rw [hK k hk] at hq; exact Option.some.inj hq
 ·rw [hK (k + (K - k)) (by omega)] at h1
  exact Option.some.inj h1
end Go.Proofs.Ytilopoegoddggaa.X
namespace Go.Proofs.Ytilopoegoddggaa.X
open Go.RowKit Go.Proofs.YtilopoegoddggaaW.PrintWords Go.Proofs.YtilopoegoddggaaW.PrintLast Go.Proofs.YtilopoegoddggaaW.PrintMore
open Go.Proofs.Ytilopoegoddggaa.G
open Classical
set_option linter.all false
inductive Cm (bs : List S50) (no tg : Int) : Int → Prop
 | here : tg ≠ no → Cm bs no tg tg
 | step {k l : Int} : Cm bs no tg l → l ∈ nextL bs k → k ≠ no → Cm bs no tg k
def Back (bs : List S50) (h n : Int) : Prop := DD bs h n ∧ h ∈ nextL bs n
def HasL (bs : List S50) (h : Int) : Prop := ∃ n, Back bs h n
def InL (bs : List S50) (h k : Int) : Prop := k = h ∨ (DD bs h k ∧ ∃ n, Back bs h n ∧ Cm bs h n k)
noncomputable def loopB (bs : List S50) (h : Int) : List Int := (upTo bs.length).filter fun k => decide (InL bs h k)
noncomputable def loopsL (bs : List S50) (m : Nat) : List S40 := ((upTo m).filter fun h => decide (HasL bs h)).map fun h => ⟨h, loopB bs h⟩
section
variable {bs : List S50}
theorem Cm.ne {no tg k : Int} (h : Cm bs no tg k) : k ≠ no := by
 cases h with
 | here h => exact h
 | step _ _ h => exact h
theorem Cm.dom {h n k : Int} (hc : Cm bs h n k) (hd : DD bs h n) (hk : RR bs k) : DD bs h k := by
 induction hc with
 | here _ => exact hd
 | step hc hs hne ih =>
  rename_i k l
  have hl : RR bs l := hk.next (next_edges bs) hs
  exact (ih hl).pred (next_edges bs) (fun e => hc.ne e.symm) hs hk
noncomputable def backsL (bs : List S50) (h : Int) : List Int := (predsL bs h).filter fun n => decide (DD bs h n)
theorem mem_backs {h n : Int} : n ∈ backsL bs h ↔ Back bs h n := by
 unfold backsL Back
 rw [List.mem_filter, mem_preds, decide_eq_true_eq]
 exact and_comm
variable (a0 a1 : Int)
theorem filterO_mono {f g : Int → Option Bool} (h : ∀ x, LeO (f x) (g x)) : ∀ l, LeO (filterO f l) (filterO g l)
 | [] => LeO.refl _
 | x :: l => by
  rw [filterO, filterO]
  exact LeO.bind (h x) fun b => LeO.map _ (filterO_mono h l)
theorem filterO_ev (hl : bs.length ≤ 1000) (h : Int) : ∀ l : List Int, Evt (fun k => filterO (fun x => dom_Is.f k a0 a1 bs h x) l) (l.filter fun n => decide (DD bs h n))
 | [] => Evt.pure _
 | x :: l => by
  simp only [filterO]
  refine Evt.bind (is_ev a0 a1 bs hl h x) ?_
  obtain ⟨K, hK⟩ := filterO_ev hl h l
  refine ⟨K, fun k hk => ?_⟩
  have := hK k hk
  simp only [this, Option.map_some, List.filter_cons]
theorem backs_ev (hl : bs.length ≤ 1000) (h : Int) : loop_backs.f a0 a1 bs h = some (backsL bs h) := by
 unfold loop_backs.f
 refine anyK_ev ?_ fun k => ?_
 ·unfold backsO
  exact Evt.bind (before_ev a0 a1 bs h (by omega)) (filterO_ev a0 a1 hl h _)
 ·unfold backsO
  exact LeO.bind (flow_Before.mono _ _ _ _ k) fun ps => filterO_mono (fun x => dom_Is.mono _ _ _ _ _ k) ps
def Out (bs : List S50) (S : List Int) : Nat := ((upTo bs.length).map fun x => if x ∈ S then 0 else 1).sum
theorem out_le (S : List Int) : Out bs S ≤ bs.length := by
 have := sum_le (fun x => if x ∈ S then 0 else 1) (fun _ => 1) (upTo bs.length) (fun x _ => by split <;> omega)
 unfold Out
 have e : ((upTo bs.length).map fun _ => 1).sum = bs.length := by
  rw [List.map_const', upTo_len]; simp
 omega
theorem out_add {S : List Int} {n : Int} (hv : 0 ≤ n ∧ n < bs.length) (hn : n ∉ S) : Out bs (n :: S) < Out bs S := by
 refine sum_lt _ _ (upTo bs.length) n (fun x _ => ?_) (mem_upTo.2 hv) ?_
 ·by_cases hx : x ∈ S
  ·rw [if_pos (List.mem_cons_of_mem _ hx), if_pos hx]; exact Nat.le_refl _
  ·rw [if_neg hx]; split <;> omega
 ·rw [if_pos (List.mem_cons_self ..), if_neg hn]; omega
theorem addO_mono {f g : Int → Option Bool} (h : ∀ x, LeO (f x) (g x)) : ∀ ps t, LeO (addO f ps t) (addO g ps t)
 | [], _ => LeO.refl _
 | x :: ps, t => by
  rw [addO, addO]
  exact LeO.bind (h x) fun b => LeO.ite (LeO.ite (addO_mono h ps _) (LeO.refl _)) (addO_mono h ps _)
theorem addO_ev (hl : bs.length ≤ 1000) (h : Int) : ∀ (ps t : List Int), t.length + ps.length ≤ 1000000 → Evt (fun k => addO (fun x => dom_Is.f k a0 a1 bs h x) ps t) (t ++ ps.filter fun n => decide (DD bs h n))
 | [], t, _ => by rw [List.filter_nil, List.append_nil]; exact Evt.pure _
 | x :: ps, t, ht => by
  simp only [addO]
  rw [List.length_cons] at ht
  refine Evt.bind (is_ev a0 a1 bs hl h x) ?_
  by_cases hd : DD bs h x
  ·simp only [decide_eq_true hd, if_pos, if_pos (show t.length < 1000000 by omega)]
   have := addO_ev hl h ps (t ++ [x]) (by simp; omega)
   rw [List.append_assoc] at this
   rw [List.filter_cons, if_pos (decide_eq_true hd)]
   exact this
  ·simp only [decide_eq_false hd, if_neg Bool.false_ne_true]
   rw [List.filter_cons, if_neg (by simp [hd])]
   exact addO_ev hl h ps t (by omega)
structure WL (bs : List S50) (h : Int) (S todo : List Int) : Prop where
 head : h ∈ S
 snd : ∀ x, x ∈ S ∨ x ∈ todo → InL bs h x
 inV : ∀ x ∈ todo, 0 ≤ x ∧ x < bs.length
 backs : ∀ n, Back bs h n → n ∈ S ∨ n ∈ todo
 cl : ∀ x ∈ S, x ≠ h → ∀ p, x ∈ nextL bs p → DD bs h p → p ∈ S ∨ p ∈ todo
theorem WL.done {h : Int} {S : List Int} (W : WL bs h S []) (x : Int) : x ∈ S ↔ InL bs h x := by
 refine ⟨fun hx => W.snd x (.inl hx), fun hx => ?_⟩
 rcases hx with rfl | ⟨hd, n, hb, hc⟩
 ·exact W.head
 ·induction hc with
  | here _ => exact (W.backs n hb).resolve_right (by simp)
  | step hc hs hne ih =>
   rename_i k l
   have hl : RR bs l := hd.1.next (next_edges bs) hs
   have := ih (hc.dom hb.1 hl)
   exact (W.cl l this hc.ne k hs hd).resolve_right (by simp)
theorem go_ok (hl : bs.length ≤ 100) (h : Int) : ∀ (m : Nat) (S todo : List Int), m ≤ 500000 → Out bs S * (bs.length + 1) + todo.length ≤ m → S.length + Out bs S ≤ bs.length + 1 → WL bs h S todo →
  ∃ S', (∃ K, ∀ k j, K ≤ k → K ≤ j → goO a0 a1 bs h k j S todo = some S') ∧ ∀ x, x ∈ S' ↔ InL bs h x := by
 intro m
 induction m with
 | zero =>
  intro S todo hmm hm hS W
  have : todo = [] := List.eq_nil_of_length_eq_zero (by omega)
  subst this
  refine ⟨S, ⟨1, fun k j _ hj => ?_⟩, W.done⟩
  obtain ⟨j', rfl⟩ : ∃ j', j = j' + 1 := ⟨j - 1, by omega⟩
  rw [goO]
 | succ m ih =>
  intro S todo hmm hm hS W
  cases todo with
  | nil =>
   refine ⟨S, ⟨1, fun k j _ hj => ?_⟩, W.done⟩
   obtain ⟨j', rfl⟩ : ∃ j', j = j' + 1 := ⟨j - 1, by omega⟩
   rw [goO]
  | cons n todo =>
   have hv := W.inV n (List.mem_cons_self ..)
   have hc : wfI n ∧ S.length < 1000000 := ⟨⟨by omega, by omega⟩, by omega⟩
   rw [List.length_cons] at hm
   by_cases hn : n ∈ S
   ·obtain ⟨S', ⟨K, hK⟩, h2⟩ := ih S todo (by omega) (by omega) hS ⟨W.head, fun x hx => W.snd x (hx.imp id (List.mem_cons_of_mem _)), fun x hx => W.inV x (List.mem_cons_of_mem _ hx),
     fun x hx => (W.backs x hx).elim .inl fun hx => (List.mem_cons.1 hx).elim (fun e => .inl (e ▸ hn)) .inr, fun x hx hne p hp hd => (W.cl x hx hne p hp hd).elim .inl fun hx => (List.mem_cons.1 hx).elim (fun e => .inl (e ▸ hn)) .inr⟩
    refine ⟨S', ⟨K + 1, fun k j hk hj => ?_⟩, h2⟩
    obtain ⟨j', rfl⟩ : ∃ j', j = j' + 1 := ⟨j - 1, by omega⟩
    rw [goO, if_pos hc, if_pos hn]
    exact hK k j' (by omega) (by omega)
   ·have hnh : n ≠ h := fun e => hn (e ▸ W.head)
    have hin := W.snd n (.inr (List.mem_cons_self ..))
    obtain ⟨hdn, n0, hb0, hc0⟩ := hin.resolve_left hnh
    have ho := out_add hv hn
    have hol := out_le (bs := bs) S
    have hpl := preds_len bs n
    have hmul : Out bs (n :: S) * (bs.length + 1) + (bs.length + 1) ≤ Out bs S * (bs.length + 1) := by
     have := Nat.mul_le_mul_right (bs.length + 1) (show Out bs (n :: S) + 1 ≤ Out bs S from ho)
     rw [Nat.add_mul, Nat.one_mul] at this
     exact this
    have hfl : ((predsL bs n).filter fun x => decide (DD bs h x)).length ≤ bs.length := Nat.le_trans (List.length_filter_le _ _) hpl
    have htl : todo.length ≤ 500000 := by omega
    have W2 : WL bs h (n :: S) (todo ++ (predsL bs n).filter fun x => decide (DD bs h x)) := by
     refine ⟨List.mem_cons_of_mem _ W.head, fun x hx => ?_, fun x hx => ?_, fun x hx => ?_, fun x hx hne p hp hd => ?_⟩
     ·rcases hx with hx | hx
      ·rcases List.mem_cons.1 hx with rfl | hx
       ·exact hin
       ·exact W.snd x (.inl hx)
      ·rcases List.mem_append.1 hx with hx | hx
       ·exact W.snd x (.inr (List.mem_cons_of_mem _ hx))
       ·obtain ⟨q1, q2⟩ := List.mem_filter.1 hx
        have hd : DD bs h x := of_decide_eq_true q2
        by_cases e : x = h
        ·exact .inl e
        ·exact .inr ⟨hd, n0, hb0, .step hc0 (mem_preds.1 q1) e⟩
     ·rcases List.mem_append.1 hx with hx | hx
      ·exact W.inV x (List.mem_cons_of_mem _ hx)
      ·exact (next_edges bs _ _ (mem_preds.1 (List.mem_filter.1 hx).1)).1
     ·rcases W.backs x hx with h | h
      ·exact .inl (List.mem_cons_of_mem _ h)
      ·rcases List.mem_cons.1 h with rfl | h
       ·exact .inl (List.mem_cons_self ..)
       ·exact .inr (List.mem_append_left _ h)
     ·rcases List.mem_cons.1 hx with rfl | hx
      ·exact .inr (List.mem_append_right _ (List.mem_filter.2 ⟨mem_preds.2 hp, decide_eq_true hd⟩))
      ·rcases W.cl x hx hne p hp hd with h | h
       ·exact .inl (List.mem_cons_of_mem _ h)
       ·rcases List.mem_cons.1 h with rfl | h
        ·exact .inl (List.mem_cons_self ..)
        ·exact .inr (List.mem_append_left _ h)
    obtain ⟨S', ⟨K, hK⟩, h2⟩ := ih (n :: S) (todo ++ (predsL bs n).filter fun x => decide (DD bs h x)) (by omega) (by rw [List.length_append]; omega) (by rw [List.length_cons]; omega) W2
    obtain ⟨K1, h1⟩ := before_ev a0 a1 bs n (by omega)
    obtain ⟨K2, h3⟩ := addO_ev a0 a1 (by omega : bs.length ≤ 1000) h (predsL bs n) todo (by omega)
    refine ⟨S', ⟨K + K1 + K2 + 1, fun k j hk hj => ?_⟩, h2⟩
    obtain ⟨j', rfl⟩ : ∃ j', j = j' + 1 := ⟨j - 1, by omega⟩
    have e1 : flow_Before.f k a0 a1 bs n = some (predsL bs n) := h1 k (by omega)
    have e2 : addO (fun x => dom_Is.f k a0 a1 bs h x) (predsL bs n) todo = _ := h3 k (by omega)
    rw [goO, if_pos hc, if_neg hn, e1, Option.bind_some, e2, Option.bind_some]
    exact hK k j' (by omega) (by omega)
theorem goO_mono (bs : List S50) (h : Int) (k : Nat) : ∀ j S t, LeO (goO a0 a1 bs h k j S t) (goO a0 a1 bs h (k + 1) (j + 1) S t)
 | 0, _, _ => LeO.none _
 | j + 1, S, [] => by rw [goO, goO]; exact LeO.refl _
 | j + 1, S, n :: r => by
  rw [goO, goO]
  exact LeO.ite (LeO.ite (goO_mono bs h k j S r) (LeO.bind (flow_Before.mono _ _ _ _ k) fun ps => LeO.bind (addO_mono (fun x => dom_Is.mono _ _ _ _ _ k) ps r) fun t => goO_mono bs h k j _ t)) (LeO.refl _)
theorem body_ev (hl : bs.length ≤ 100) (h : Int) (hv : 0 ≤ h ∧ h < bs.length) : loop_body.f a0 a1 bs h (backsL bs h) = some (loopB bs h) := by
 have hlen : (backsL bs h).length ≤ bs.length := Nat.le_trans (List.length_filter_le _ _) (preds_len bs h)
 have hout := out_le (bs := bs) [h]
 have ho1 : Out bs [h] < bs.length := by
  have h1 := out_add (bs := bs) (S := []) hv (by simp)
  have h2 := out_le (bs := bs) []
  omega
 have hm : Out bs [h] * (bs.length + 1) ≤ 100 * 101 := Nat.mul_le_mul (by omega) (by omega)
 have W2 : WL bs h [h] (backsL bs h) := by
  refine ⟨by simp, fun x hx => ?_, fun x hx => ?_, fun n hn => .inr (mem_backs.2 hn), fun x hx hne => absurd (List.mem_singleton.1 hx) hne⟩
  ·rcases hx with hx | hx
   ·exact .inl (List.mem_singleton.1 hx)
   ·have hb := mem_backs.1 hx
    by_cases e : x = h
    ·exact .inl e
    ·exact .inr ⟨hb.1, x, hb, .here e⟩
  ·exact (next_edges bs _ _ (mem_backs.1 hx).2).1
 obtain ⟨S', ⟨K, hK⟩, hS⟩ := go_ok a0 a1 hl h (Out bs [h] * (bs.length + 1) + (backsL bs h).length) [h] (backsL bs h) (by omega) (Nat.le_refl _) (by simp; omega) W2
 unfold loop_body.f
 refine anyK_ev ⟨K, fun k hk => ?_⟩ fun k => ?_
 ·unfold bodyO
  rw [if_pos ⟨⟨by omega, by omega⟩, by omega⟩, hK k k hk hk, Option.map_some]
  congr 1
  unfold pick loopB upTo
  exact List.filter_congr fun x _ => decide_eq_decide.2 (hS x)
 ·unfold bodyO
  exact LeO.ite (LeO.map _ (goO_mono a0 a1 bs h k k _ _)) (LeO.refl _)
theorem loopsL_succ (m : Nat) : loopsL bs (m + 1) = loopsL bs m ++ (if HasL bs m then [⟨(m : Int), loopB bs m⟩] else []) := by
 unfold loopsL
 rw [upTo_succ, List.filter_append, List.map_append]
 congr 1
 by_cases h : HasL bs m <;> simp [h]
theorem loopsL_len (m : Nat) : (loopsL bs m).length ≤ m := by
 unfold loopsL
 rw [List.length_map]
 exact Nat.le_trans (List.length_filter_le _ _) (by rw [upTo_len]; exact Nat.le_refl _)
theorem loopB_len (h : Int) : (loopB bs h).length ≤ bs.length := Nat.le_trans (List.length_filter_le _ _) (by rw [upTo_len]; exact Nat.le_refl _)
theorem all_l0' (hl : bs.length ≤ 100) : ∀ (d : Nat) (i : Int), 0 ≤ i → i + d = bs.length → Evt (fun k => loop_All.l0 k (loopsL bs i.toNat) bs.length i a0 a1 bs) (loopsL bs bs.length)
 | 0, i, h0, h1 => by
  refine Evt.succ ?_
  simp only [loop_All.l0, if_neg (show ¬ i < (bs.length : Int) by omega)]
  rw [show i.toNat = bs.length by omega]
  exact Evt.pure _
 | d + 1, i, h0, h1 => by
  have hi : i < (bs.length : Int) := by omega
  have hlen := loopsL_len (bs := bs) i.toNat
  have ih := all_l0' hl d (i + 1) (by omega) (by omega)
  rw [show (i + 1).toNat = i.toNat + 1 by omega, loopsL_succ, show ((i.toNat : Nat) : Int) = i by omega] at ih
  refine Evt.succ ?_
  simp only [loop_All.l0, if_pos hi, backs_ev a0 a1 (by omega : bs.length ≤ 1000) i, Option.bind_some, wrap64_small (i + 1) (by omega) (by omega), if_pos (show (loopsL bs i.toNat).length < 4398046511104 by omega)]
  by_cases hh : HasL bs i
  ·obtain ⟨n, hn⟩ := hh
   have hpos : ((backsL bs i).length : Int) > 0 := by
    have := List.length_pos_of_mem (mem_backs.2 hn)
    omega
   rw [if_pos (show HasL bs i from ⟨n, hn⟩)] at ih
   simp only [if_pos hpos, body_ev a0 a1 hl i ⟨h0, hi⟩, Option.bind_some]
   exact ih
  ·have hz : backsL bs i = [] := List.eq_nil_iff_forall_not_mem.2 fun n hn => hh ⟨n, mem_backs.1 hn⟩
   rw [if_neg hh, List.append_nil] at ih
   simp only [hz, List.length_nil, if_neg (show ¬ (((0 : Nat) : Int) > 0) by omega)]
   exact ih
theorem all_ev (hl : bs.length ≤ 100) : Evt (fun k => loop_All.f k a0 a1 bs) (loopsL bs bs.length) := by
 unfold loop_All.f
 exact all_l0' a0 a1 hl bs.length 0 (by omega) (by omega)
def deepL (n : Int) (L : List S40) : Nat := (L.filter fun l => decide (n ∈ l.f1)).length
theorem rd40 {L : List S40} {i : Int} (h0 : 0 ≤ i) (h1 : i < (L.length : Int)) : L.take (i + 1).toNat = L.take i.toNat ++ [rd_T40 L i] := by
 rw [show (i + 1).toNat = i.toNat + 1 by omega]
 exact take_one _ _ z40 (by omega)
theorem rd40_mem {L : List S40} {i : Int} (h0 : 0 ≤ i) (h1 : i < (L.length : Int)) : rd_T40 L i ∈ L := by
 have h : i.toNat < L.length := by omega
 unfold rd_T40
 rw [List.getD_eq_getElem?_getD, List.getElem?_eq_getElem h]
 exact List.getElem_mem h
theorem deepL_step (n : Int) {L : List S40} {i : Int} (h0 : 0 ≤ i) (h1 : i < (L.length : Int)) : deepL n (L.take (i + 1).toNat) = deepL n (L.take i.toNat) + if n ∈ (rd_T40 L i).f1 then 1 else 0 := by
 rw [rd40 h0 h1]
 unfold deepL
 rw [List.filter_append, List.length_append]
 congr 1
 by_cases h : n ∈ (rd_T40 L i).f1 <;> simp [h]
theorem deepL_len (n : Int) (L : List S40) : deepL n L ≤ L.length := List.length_filter_le _ _
theorem deep_l0 (n : Int) (L : List S40) (hL : L.length ≤ 1000) (hb : ∀ l ∈ L, l.f1.length ≤ 1000) : ∀ (d : Nat) (i : Int), 0 ≤ i → i + d = L.length → Evt (fun k => loop_Deep.l0 k n (deepL n (L.take i.toNat)) L L.length i) (deepL n L : Int)
 | 0, i, h0, h1 => by
  refine Evt.succ ?_
  simp only [loop_Deep.l0, if_neg (show ¬ i < (L.length : Int) by omega)]
  rw [List.take_of_length_le (by omega)]
  exact Evt.pure _
 | d + 1, i, h0, h1 => by
  have hi : i < (L.length : Int) := by omega
  have ih := deep_l0 n L hL hb d (i + 1) (by omega) (by omega)
  rw [deepL_step n h0 hi] at ih
  have hdl := deepL_len n (L.take i.toNat)
  rw [List.length_take] at hdl
  refine Evt.succ ?_
  simp only [loop_Deep.l0, if_pos hi, if_pos h0, wrap64_small (i + 1) (by omega) (by omega), wrap64_small ((deepL n (L.take i.toNat) : Int) + 1) (by omega) (by omega)]
  refine Evt.bind (contains_ev _ _ (by have := hb _ (rd40_mem h0 hi); omega)) ?_
  by_cases h : n ∈ (rd_T40 L i).f1
  ·simp only [decide_eq_true h, if_pos]
   rw [if_pos h] at ih
   exact ih
  ·simp only [decide_eq_false h, if_neg Bool.false_ne_true]
   rw [if_neg h] at ih
   exact ih
theorem loops_blocks (m : Nat) : ∀ l ∈ loopsL bs m, l.f1.length ≤ bs.length := by
 intro l hl
 unfold loopsL at hl
 obtain ⟨h, _, rfl⟩ := List.mem_map.1 hl
 exact loopB_len h
theorem deep_ev (hl : bs.length ≤ 100) (n : Int) : Evt (fun k => loop_Deep.f k a0 a1 bs n) (deepL n (loopsL bs bs.length) : Int) := by
 unfold loop_Deep.f
 refine Evt.bind (all_ev a0 a1 hl) ?_
 have := deep_l0 n (loopsL bs bs.length) (by have := loopsL_len (bs := bs) bs.length; omega) (fun l h => by have := loops_blocks (bs := bs) bs.length l h; omega) (loopsL bs bs.length).length 0 (by omega) (by omega)
 exact this
end
end Go.Proofs.Ytilopoegoddggaa.X
namespace Go.Proofs.Ytilopoegoddggaa.X
open Go.RowKit Go.Proofs.YtilopoegoddggaaW.PrintWords Go.Proofs.YtilopoegoddggaaW.PrintLast Go.Proofs.YtilopoegoddggaaW.PrintMore
open Go.Proofs.Ytilopoegoddggaa.G
open Classical
set_option linter.all false
section
variable {bs : List S50} {no tg : Int} (a0 a1 : Int)
def ClU (bs : List S50) (no : Int) (s : List Bool) (i : Int) : Prop := ∀ j : Int, 0 ≤ j → j < i → j ≠ no → ∀ b ∈ nextL bs j, rdOf false s b = true → rdOf false s j = true
theorem comes_l2 (hl : bs.length ≤ 1000) (R : List Bool) (c0 : Nat) (i : Int) (hi : 0 ≤ i) (hi1 : i < bs.length) (hno : i ≠ no)
  (K : ∀ s more, Snd bs (Cm bs no tg) s → rdOf false s tg = true → (more = false → ClU bs no s (i + 1)) → s.count false ≤ c0 → (more = true → s.count false < c0) → Evt (fun k => davitref09_comes.l1 k no s more (i + 1) a0 a1 bs) R) :
  ∀ (d : Nat) (p : Int) (s : List Bool) (more : Bool), 0 ≤ p → p + d = (nextL bs i).length → Snd bs (Cm bs no tg) s → rdOf false s tg = true → 0 ≤ tg →
   (more = false → ClU bs no s i) → (more = false → rdOf false s i = false ∧ ∀ b ∈ (nextL bs i).take p.toNat, rdOf false s b = false) → s.count false ≤ c0 → (more = true → s.count false < c0) →
   Evt (fun k => davitref09_comes.l2 k no s more i (nextL bs i) p a0 a1 bs) R
 | 0, p, s, more, h0, h1, hs, hz, ht0, hc, ht, hn, hm => by
  refine Evt.succ ?_
  simp only [davitref09_comes.l2, if_neg (show ¬ p < ((nextL bs i).length : Int) by omega), wrap64_small (i + 1) (by omega) (by omega)]
  refine K s more hs hz (fun e j j0 j1 hj b hb hsb => ?_) hn hm
  by_cases e' : j = i
  ·subst e'
   have := (ht e).2 b (by rw [List.take_of_length_le (by omega)]; exact hb)
   rw [this] at hsb; cases hsb
  ·exact hc e j j0 (by omega) hj b hb hsb
 | d + 1, p, s, more, h0, h1, hs, hz, ht0, hc, ht, hn, hm => by
  have hlt : p < ((nextL bs i).length : Int) := by omega
  have h3 := next_len bs i
  have hw := wrap64_small (p + 1) (by omega) (by omega)
  have hlen := hs.len
  have hmem := rd_mem h0 hlt
  have hv := (next_edges bs _ _ hmem).2
  have htk : (nextL bs i).take (p + 1).toNat = (nextL bs i).take p.toNat ++ [rd (nextL bs i) p] := by
   rw [show (p + 1).toNat = p.toNat + 1 by omega]
   exact take_one _ _ 0 (by omega)
  refine Evt.succ ?_
  simp only [davitref09_comes.l2, if_pos hlt, if_pos h0, if_pos hv.1, if_pos (show rd (nextL bs i) p < (s.length : Int) by omega), if_pos hi, if_pos (show i < (s.length : Int) by omega), hw]
  cases hsb : rdOf false s (rd (nextL bs i) p) with
  | true =>
   simp only [if_pos]
   have hCi : Cm bs no tg i := .step (hs.snd _ hv.1 hv.2 hsb) hmem hno
   have hz' : rdOf false (s.set i.toNat true) tg = true := by
    rw [rdOf_set s i tg true hi (by omega) ht0]
    split
    ·rfl
    ·exact hz
   cases hsi : rdOf false s i with
   | true =>
    have hmt : more = true := by
     cases more with
     | true => rfl
     | false => rw [(ht rfl).1] at hsi; cases hsi
    have hset : s.set i.toNat true = s := by
     have hl' : i.toNat < s.length := by omega
     have : s[i.toNat] = true := by
      unfold rdOf at hsi
      rwa [List.getD_eq_getElem?_getD, List.getElem?_eq_getElem hl'] at hsi
     rw [← this]; simp
    rw [hset]
    exact comes_l2 hl R c0 i hi hi1 hno K d (p + 1) s true (by omega) (by omega) hs hz ht0 (by simp) (by simp) hn (fun _ => hm hmt)
   | false =>
    have hcn := count_unseen s i hi (by omega) hsi
    exact comes_l2 hl R c0 i hi hi1 hno K d (p + 1) _ true (by omega) (by omega) (hs.set hi hi1 hCi) hz' ht0 (by simp) (by simp) (by omega) (fun _ => by omega)
  | false =>
   simp only [if_neg Bool.false_ne_true]
   exact comes_l2 hl R c0 i hi hi1 hno K d (p + 1) s more (by omega) (by omega) hs hz ht0 hc (fun e => ⟨(ht e).1, fun b hb => by
    rw [htk] at hb
    rcases List.mem_append.1 hb with hb | hb
    ·exact (ht e).2 b hb
    ·rw [List.mem_singleton.1 hb]; exact hsb⟩) hn hm
theorem comes_l1 (hl : bs.length ≤ 1000) (ht0 : 0 ≤ tg) (R : List Bool) (c0 : Nat)
  (K : ∀ s more, Snd bs (Cm bs no tg) s → rdOf false s tg = true → (more = false → ClU bs no s bs.length) → (more = true → s.count false < c0) → Evt (fun k => davitref09_comes.l0 k no s more a0 a1 bs) R) :
  ∀ (d : Nat) (i : Int) (s : List Bool) (more : Bool), 0 ≤ i → i + d = bs.length → Snd bs (Cm bs no tg) s → rdOf false s tg = true →
   (more = false → ClU bs no s i) → s.count false ≤ c0 → (more = true → s.count false < c0) → Evt (fun k => davitref09_comes.l1 k no s more i a0 a1 bs) R
 | 0, i, s, more, h0, h1, hs, hz, hc, hn, hm => by
  have hlen := hs.len
  refine Evt.succ ?_
  simp only [davitref09_comes.l1, if_neg (show ¬ i < (s.length : Int) by omega)]
  exact K s more hs hz (fun e j j0 j1 => hc e j j0 (by omega)) hm
 | d + 1, i, s, more, h0, h1, hs, hz, hc, hn, hm => by
  have hlen := hs.len
  have skip : (rdOf false s i = true ∨ i = no) → Evt (fun k => davitref09_comes.j2 k no s more i true a0 a1 bs) R := fun hsk => by
   refine Evt.succ ?_
   simp only [davitref09_comes.j2, if_pos, wrap64_small (i + 1) (by omega) (by omega)]
   refine comes_l1 hl ht0 R c0 K d (i + 1) s more (by omega) (by omega) hs hz (fun e j j0 j1 hj b hb hsb => ?_) hn hm
   by_cases e' : j = i
   ·subst e'; exact hsk.resolve_right hj
   ·exact hc e j j0 (by omega) hj b hb hsb
  refine Evt.succ ?_
  simp only [davitref09_comes.l1, if_pos (show i < (s.length : Int) by omega), if_pos h0]
  cases hsi : rdOf false s i with
  | true =>
   simp only [if_pos]
   exact skip (.inl hsi)
  | false =>
   simp only [if_neg Bool.false_ne_true]
   by_cases e : i = no
   ·rw [show (i == no) = true by simp [e]]
    exact skip (.inr e)
   ·rw [show (i == no) = false by simp [e]]
    refine Evt.succ ?_
    simp only [davitref09_comes.j2, if_neg Bool.false_ne_true]
    refine Evt.bind (refnext_ev a0 a1 bs i) ?_
    exact comes_l2 a0 a1 hl R c0 i h0 (by omega) e (fun s' more' q1 q2 q3 q4 q5 => comes_l1 hl ht0 R c0 K d (i + 1) s' more' (by omega) (by omega) q1 q2 q3 q4 q5) _ 0 s more (by omega) (by rw [Int.zero_add]) hs hz ht0 hc (fun _ => ⟨hsi, by simp⟩) hn hm
theorem comes_l0 (hl : bs.length ≤ 1000) (ht0 : 0 ≤ tg) : ∀ (c : Nat) (s : List Bool), Snd bs (Cm bs no tg) s → rdOf false s tg = true → s.count false ≤ c → Evt (fun k => davitref09_comes.l0 k no s true a0 a1 bs) (lst (Cm bs no tg) bs.length) := by
 intro c
 induction c using Nat.strongRecOn with
 | ind c ih =>
  intro s hs hz hc
  refine Evt.succ ?_
  simp only [davitref09_comes.l0, if_pos]
  refine comes_l1 a0 a1 hl ht0 _ c (fun s' more' q1 q2 q3 q4 => ?_) bs.length 0 s false (by omega) (by omega) hs hz (fun _ j j0 j1 => by omega) hc (by simp)
  cases more' with
  | true => exact ih _ (q4 rfl) s' q1 q2 (Nat.le_refl _)
  | false =>
   refine Evt.succ ?_
   simp only [davitref09_comes.l0, if_neg Bool.false_ne_true]
   rw [show s' = lst (Cm bs no tg) bs.length from lst_eq q1.len fun i i0 i1 => ⟨q1.snd i i0 i1, fun h => ?_⟩]
   ·exact Evt.pure _
   ·induction h with
    | here _ => exact q2
    | step ha hb hne ihh =>
     have hv := next_edges bs _ _ hb
     exact q3 rfl _ hv.1.1 hv.1.2 hne _ hb (ihh hv.2.1 hv.2.2)
theorem comes_ev (hl : bs.length ≤ 1000) (tg no : Int) (hto : 0 ≤ tg ∧ tg < bs.length) : Evt (fun k => davitref09_comes.f k a0 a1 bs tg no) (lst (Cm bs no tg) bs.length) := by
 unfold davitref09_comes.f
 simp only [if_pos (show 0 ≤ (bs.length : Int) by omega), Int.toNat_natCast, if_pos (show bs.length ≤ 281474976710656 by omega), Option.bind_some, List.length_replicate]
 by_cases e : tg = no
 ·simp only [if_pos e]
  rw [show List.replicate bs.length false = lst (Cm bs no tg) bs.length from lst_eq (by simp) fun i i0 i1 => by
   rw [rep_rd]
   refine ⟨fun h => (by cases h), fun h => ?_⟩
   exfalso
   induction h with
   | here h => exact h e
   | step _ hs _ ih => have hv := (next_edges bs _ _ hs).2; exact ih hv.1 hv.2]
  exact Evt.pure _
 ·simp only [if_neg e, if_pos hto.1, if_pos hto.2]
  refine comes_l0 a0 a1 hl hto.1 _ _ (Snd.set ⟨by simp, fun i _ _ h => by rw [rep_rd] at h; cases h⟩ hto.1 hto.2 (.here e)) ?_ (Nat.le_refl _)
  rw [rdOf_set _ tg tg true hto.1 (by simp; omega) hto.1, if_pos rfl]
def Brings (bs : List S50) (h i k : Int) : Prop := DD bs h k ∧ ∃ n, n < i ∧ Back bs h n ∧ Cm bs h n k
structure InOk (bs : List S50) (s : List Bool) (P : Int → Prop) : Prop where
 len : s.length = bs.length
 eq : ∀ k : Int, 0 ≤ k → k < bs.length → (rdOf false s k = true ↔ P k)
theorem rall_l2 (hl : bs.length ≤ 1000) (R : List S40) (out : List S40) (h : Int) (hh : 0 ≤ h ∧ h < bs.length) (n : Int) (hn : 0 ≤ n ∧ n < bs.length) (hb : Back bs h n)
  (K : ∀ s, InOk bs s (Brings bs h (n + 1)) → Evt (fun k => davitref09_All.l1 k (allT bs) out h s true (n + 1) a0 a1 bs) R) :
  ∀ (d : Nat) (i : Int) (s : List Bool), 0 ≤ i → i + d = bs.length → InOk bs s (fun k => Brings bs h n k ∨ (k < i ∧ Cm bs h n k ∧ DD bs h k)) →
   Evt (fun k => davitref09_All.l2 k (allT bs) out h s true n (lst (Cm bs h n) bs.length) i a0 a1 bs) R
 | 0, i, s, h0, h1, hs => by
  have hlen := hs.len
  refine Evt.succ ?_
  simp only [davitref09_All.l2, if_neg (show ¬ i < (s.length : Int) by omega), wrap64_small (n + 1) (by omega) (by omega)]
  refine K s ⟨hs.len, fun k k0 k1 => (hs.eq k k0 k1).trans ?_⟩
  constructor
  ·rintro (⟨q1, m, q2, q3, q4⟩ | ⟨_, q1, q2⟩)
   ·exact ⟨q1, m, by omega, q3, q4⟩
   ·exact ⟨q2, n, by omega, hb, q1⟩
  ·rintro ⟨q1, m, q2, q3, q4⟩
   by_cases e : m = n
   ·exact .inr ⟨by omega, e ▸ q4, q1⟩
   ·exact .inl ⟨q1, m, by omega, q3, q4⟩
 | d + 1, i, s, h0, h1, hs => by
  have hlen := hs.len
  have hi : i < (bs.length : Int) := by omega
  have step : ∀ b : Bool, (b = true ↔ Brings bs h n i ∨ (Cm bs h n i ∧ DD bs h i)) → Evt (fun k => davitref09_All.l2 k (allT bs) out h (s.set i.toNat b) true n (lst (Cm bs h n) bs.length) (i + 1) a0 a1 bs) R := fun b hbb => by
   refine rall_l2 hl R out h hh n hn hb K d (i + 1) _ (by omega) (by omega) ⟨by rw [List.length_set]; exact hlen, fun k k0 k1 => ?_⟩
   rw [rdOf_set s i k b h0 (by omega) k0]
   by_cases e : k = i
   ·rw [if_pos e, e, hbb]
    exact or_congr_right ⟨fun q => ⟨by omega, q⟩, fun q => q.2⟩
   ·rw [if_neg e, hs.eq k k0 k1]
    exact or_congr_right ⟨fun q => ⟨by omega, q.2⟩, fun q => ⟨by omega, q.2⟩⟩
  have hcur := hs.eq i h0 hi
  refine Evt.succ ?_
  simp only [davitref09_All.l2, if_pos (show i < (s.length : Int) by omega), if_pos h0, lst_len, if_pos hi, lst_rd (Cm bs h n) h0 hi, if_pos hh.1, allT_len, if_pos hh.2, allT_rd bs hh.1 hh.2, lst_rd (DD bs h) h0 hi, wrap64_small (i + 1) (by omega) (by omega)]
  cases hsi : rdOf false s i with
  | true =>
   simp only [if_pos]
   refine step true ⟨fun _ => ?_, fun _ => rfl⟩
   rcases hcur.1 hsi with q | q
   ·exact .inl q
   ·exact .inr q.2
  | false =>
   have hnb : ¬ Brings bs h n i := fun q => by rw [hcur.2 (.inl q)] at hsi; cases hsi
   simp only [if_neg Bool.false_ne_true]
   by_cases hc : Cm bs h n i
   ·simp only [decide_eq_true hc, if_pos]
    refine step _ ?_
    by_cases hd : DD bs h i
    ·rw [decide_eq_true hd]; exact ⟨fun _ => .inr ⟨hc, hd⟩, fun _ => rfl⟩
    ·rw [decide_eq_false hd]; exact ⟨fun q => (by cases q), fun q => q.elim (fun q => absurd q hnb) (fun q => absurd q.2 hd)⟩
   ·simp only [decide_eq_false hc, if_neg Bool.false_ne_true]
    exact step false ⟨fun q => (by cases q), fun q => q.elim (fun q => absurd q hnb) (fun q => absurd q.1 hc)⟩
theorem rall_l3 (hl : bs.length ≤ 1000) (R : List S40) (out : List S40) (hout : out.length ≤ 1000) (h : Int) (hh : 0 ≤ h ∧ h < bs.length) (s : List Bool) (hs : InOk bs s (InL bs h))
  (K : Evt (fun k => davitref09_All.l0 k (allT bs) (out ++ [⟨h, loopB bs h⟩]) (h + 1) a0 a1 bs) R) :
  ∀ (d : Nat) (i : Int), 0 ≤ i → i + d = bs.length → Evt (fun k => davitref09_All.l3 k (allT bs) out h s i a0 a1 bs h ((upTo i.toNat).filter fun k => decide (InL bs h k))) R
 | 0, i, h0, h1 => by
  have hlen := hs.len
  refine Evt.succ ?_
  simp only [davitref09_All.l3, if_neg (show ¬ i < (s.length : Int) by omega), if_pos (show out.length < 4398046511104 by omega), wrap64_small (h + 1) (by omega) (by omega)]
  rw [show i.toNat = bs.length by omega]
  exact K
 | d + 1, i, h0, h1 => by
  have hlen := hs.len
  have hi : i < (bs.length : Int) := by omega
  have ih := rall_l3 hl R out hout h hh s hs K d (i + 1) (by omega) (by omega)
  rw [show (i + 1).toNat = i.toNat + 1 by omega, upTo_succ, List.filter_append, show ((i.toNat : Nat) : Int) = i by omega] at ih
  have hfl : ((upTo i.toNat).filter fun k => decide (InL bs h k)).length ≤ 1000 := Nat.le_trans (List.length_filter_le _ _) (by rw [upTo_len]; omega)
  refine Evt.succ ?_
  simp only [davitref09_All.l3, if_pos (show i < (s.length : Int) by omega), if_pos h0, wrap64_small (i + 1) (by omega) (by omega), if_pos (show ((upTo i.toNat).filter fun k => decide (InL bs h k)).length < 17592186044416 by omega)]
  have hcur := hs.eq i h0 hi
  cases hsi : rdOf false s i with
  | true =>
   simp only [if_pos]
   rw [List.filter_cons, if_pos (decide_eq_true (hcur.1 hsi))] at ih
   exact ih
  | false =>
   simp only [if_neg Bool.false_ne_true]
   rw [List.filter_cons, if_neg (by intro q; rw [hcur.2 (of_decide_eq_true q)] at hsi; cases hsi)] at ih
   simpa using ih
theorem rall_l1 (hl : bs.length ≤ 1000) (R : List S40) (out : List S40) (hout : out.length ≤ 1000) (h : Int) (hh : 0 ≤ h ∧ h < bs.length)
  (K : Evt (fun k => davitref09_All.l0 k (allT bs) (out ++ (if HasL bs h then [⟨h, loopB bs h⟩] else [])) (h + 1) a0 a1 bs) R) :
  ∀ (d : Nat) (n : Int) (s : List Bool) (found : Bool), 0 ≤ n → n + d = bs.length → InOk bs s (Brings bs h n) → (found = true ↔ ∃ m, m < n ∧ Back bs h m) →
   Evt (fun k => davitref09_All.l1 k (allT bs) out h s found n a0 a1 bs) R
 | 0, n, s, found, h0, h1, hs, hf => by
  have hlen := hs.len
  have hE : found = true ↔ HasL bs h := hf.trans ⟨fun ⟨m, _, q⟩ => ⟨m, q⟩, fun ⟨m, q⟩ => ⟨m, by have := (next_edges bs _ _ q.2).1; omega, q⟩⟩
  refine Evt.succ ?_
  simp only [davitref09_All.l1, if_neg (show ¬ n < (bs.length : Int) by omega), if_pos hh.1, hlen, if_pos hh.2, wrap64_small (h + 1) (by omega) (by omega)]
  by_cases hc : found = true
  ·have hL := hE.1 hc
   rw [if_pos hL] at K
   simp only [if_pos hc]
   refine rall_l3 a0 a1 hl R out hout h hh _ ⟨by rw [List.length_set]; exact hlen, fun k k0 k1 => ?_⟩ K bs.length 0 (by omega) (by omega)
   rw [rdOf_set s h k true hh.1 (by omega) k0]
   by_cases e : k = h
   ·rw [if_pos e]; exact ⟨fun _ => .inl e, fun _ => rfl⟩
   ·rw [if_neg e, hs.eq k k0 k1]
    constructor
    ·rintro ⟨q1, m, _, q2, q3⟩; exact .inr ⟨q1, m, q2, q3⟩
    ·rintro (q | ⟨q1, m, q2, q3⟩)
     ·exact absurd q e
     ·exact ⟨q1, m, by have := (next_edges bs _ _ q2.2).1; omega, q2, q3⟩
  ·rw [if_neg (fun q => hc (hE.2 q)), List.append_nil] at K
   simp only [if_neg hc]
   exact K
 | d + 1, n, s, found, h0, h1, hs, hf => by
  have hn : n < (bs.length : Int) := by omega
  have skip : ¬ Back bs h n → Evt (fun k => davitref09_All.j2 k (allT bs) out h s found n true a0 a1 bs) R := fun hb => by
   refine Evt.succ ?_
   simp only [davitref09_All.j2, if_pos, wrap64_small (n + 1) (by omega) (by omega)]
   refine rall_l1 hl R out hout h hh K d (n + 1) s found (by omega) (by omega) ⟨hs.len, fun k k0 k1 => (hs.eq k k0 k1).trans (and_congr_right fun _ => ⟨fun ⟨m, q, q'⟩ => ⟨m, by omega, q'⟩, fun ⟨m, q, q'⟩ => ⟨m, ?_, q'⟩⟩)⟩ (hf.trans ⟨fun ⟨m, q, q'⟩ => ⟨m, by omega, q'⟩, fun ⟨m, q, q'⟩ => ⟨m, ?_, q'⟩⟩)
   ·have : m ≠ n := fun e => hb (e ▸ q'.1)
    omega
   ·have : m ≠ n := fun e => hb (e ▸ q')
    omega
  refine Evt.succ ?_
  simp only [davitref09_All.l1, if_pos hn, if_pos hh.1, allT_len, if_pos hh.2, if_pos h0, allT_rd bs hh.1 hh.2, lst_len, lst_rd (DD bs h) h0 hn]
  by_cases hd : DD bs h n
  ·simp only [decide_eq_true hd, if_pos]
   refine Evt.bind (refnext_ev a0 a1 bs n) (Evt.bind (has_ev _ _ (by have := next_len bs n; omega)) ?_)
   by_cases hm : h ∈ nextL bs n
   ·simp only [decide_eq_true hm, Bool.not_true]
    refine Evt.succ ?_
    simp only [davitref09_All.j2, if_neg Bool.false_ne_true]
    refine Evt.bind (comes_ev a0 a1 hl n h ⟨h0, hn⟩) ?_
    refine rall_l2 a0 a1 hl R out h hh n ⟨h0, hn⟩ ⟨hd, hm⟩ (fun s' q => rall_l1 hl R out hout h hh K d (n + 1) s' true (by omega) (by omega) q ⟨fun _ => ⟨n, by omega, hd, hm⟩, fun _ => rfl⟩) bs.length 0 s (by omega) (by omega) ⟨hs.len, fun k k0 k1 => (hs.eq k k0 k1).trans ⟨.inl, fun q => q.resolve_right fun q => by omega⟩⟩
   ·simp only [decide_eq_false hm, Bool.not_false]
    exact skip fun q => hm q.2
  ·simp only [decide_eq_false hd, if_neg Bool.false_ne_true]
   exact skip fun q => hd q.1
theorem rall_l0 (hl : bs.length ≤ 1000) : ∀ (d : Nat) (h : Int), 0 ≤ h → h + d = bs.length → Evt (fun k => davitref09_All.l0 k (allT bs) (loopsL bs h.toNat) h a0 a1 bs) (loopsL bs bs.length)
 | 0, h, h0, h1 => by
  refine Evt.succ ?_
  simp only [davitref09_All.l0, if_neg (show ¬ h < (bs.length : Int) by omega)]
  rw [show h.toNat = bs.length by omega]
  exact Evt.pure _
 | d + 1, h, h0, h1 => by
  have hh : h < (bs.length : Int) := by omega
  have ih := rall_l0 hl d (h + 1) (by omega) (by omega)
  rw [show (h + 1).toNat = h.toNat + 1 by omega, loopsL_succ, show ((h.toNat : Nat) : Int) = h by omega] at ih
  refine Evt.succ ?_
  simp only [davitref09_All.l0, if_pos hh, if_pos (show 0 ≤ (bs.length : Int) by omega), Int.toNat_natCast, if_pos (show bs.length ≤ 281474976710656 by omega)]
  exact rall_l1 a0 a1 hl _ _ (by have := loopsL_len (bs := bs) h.toNat; omega) h ⟨h0, hh⟩ ih bs.length 0 _ false (by omega) (by omega) ⟨by simp, fun k k0 k1 => by
   rw [rep_rd]
   exact ⟨fun q => (by cases q), fun ⟨_, m, q, q', _⟩ => by have := (next_edges bs _ _ q'.2).1; omega⟩⟩ ⟨fun q => (by cases q), fun ⟨m, q, q'⟩ => by have := (next_edges bs _ _ q'.2).1; omega⟩
theorem refloops_ev (hl : bs.length ≤ 1000) : Evt (fun k => davitref09_All.f k a0 a1 bs) (loopsL bs bs.length) := by
 unfold davitref09_All.f
 exact Evt.bind (refall_ev a0 a1 hl) (rall_l0 a0 a1 hl bs.length 0 (by omega) (by omega))
end
end Go.Proofs.Ytilopoegoddggaa.X
namespace Go.Proofs.Ytilopoegoddggaa.X
open Go.RowKit Go.Proofs.YtilopoegoddggaaW.PrintWords Go.Proofs.YtilopoegoddggaaW.PrintLast Go.Proofs.YtilopoegoddggaaW.PrintMore
open Go.Proofs.Ytilopoegoddggaa.G
open Classical
set_option linter.all false
def wake9 : List S50 := [(⟨false, (⟨0, ([] : List Int), false, false⟩ : S47), ([] : List (S117)), (⟨2, 0, 0, 0, ([] : List Int), 1, 0, 0⟩ : S44)⟩ : S50), (⟨false, (⟨0, ([] : List Int), false, false⟩ : S47), ([] : List (S117)), (⟨3, 0, 0, 0, ([] : List Int), 1, 2, 0⟩ : S44)⟩ : S50), (⟨false, (⟨0, ([] : List Int), false, false⟩ : S47), ([] : List (S117)), (⟨1, 0, 0, 0, ([] : List Int), 0, 0, 0⟩ : S44)⟩ : S50)]
set_option maxRecDepth 100000 in
theorem wake_loops : davitref09_All.f 200 0 1 wake9 = some [⟨1, [1]⟩] := by kernel_rfl
theorem awake09 : Evt (fun k => davitlaw09_awake.f k) true := by
 have hl : wake9.length ≤ 100 := by decide
 have hL := Evt.at (refloops_ev (bs := wake9) 0 1 (by decide)) (davitref09_All.mono _ _ _) wake_loops
 have hA := all_ev (bs := wake9) 0 1 hl
 have hD1 := deep_ev (bs := wake9) 0 1 hl 1
 have hD2 := deep_ev (bs := wake9) 0 1 hl 2
 rw [hL] at hA hD1 hD2
 rw [show deepL 1 [(⟨1, [1]⟩ : S40)] = 1 by simp [deepL]] at hD1
 rw [show deepL 2 [(⟨1, [1]⟩ : S40)] = 0 by simp [deepL]] at hD2
 unfold davitlaw09_awake.f
 simp only [Option.bind_some]
 change Evt (fun k => (loop_All.f k 0 1 wake9).bind fun t356 => (if (t356.length : Int) = 1 then (if 0 < (t356.length : Int) then (if ((rd_T40 t356 0).f0) = 1 then ((davitref02_Ints.f k ((rd_T40 t356 0).f1) (([1] : List Int))).bind fun t364 => (if t364 = true then ((loop_Deep.f k 0 1 wake9 1).bind fun t365 => (if t365 = 1 then ((loop_Deep.f k 0 1 wake9 2).bind fun t366 => (some (t366 == 0))) else (some false))) else (some false))) else (some false)) else (none)) else (some false))) true
 refine Evt.bind hA ?_
 have e0 : rd_T40 [(⟨1, [1]⟩ : S40)] 0 = ⟨1, [1]⟩ := rfl
 simp only [List.length_cons, List.length_nil, e0, if_pos (show ((0 + 1 : Nat) : Int) = 1 by simp), if_pos (show (0 : Int) < ((0 + 1 : Nat) : Int) by simp), if_pos]
 refine Evt.bind (ints_ev _ _ (by simp)) ?_
 simp only [decide_true, if_pos]
 refine Evt.bind hD1 ?_
 simp only [if_pos (show ((1 : Nat) : Int) = 1 by rfl)]
 refine Evt.bind hD2 ?_
 exact Evt.pure _
section
variable {bs : List S50} (a0 a1 : Int)
theorem right_l0 (hl : bs.length ≤ 100) (n : Int) : ∀ (d : Nat) (i : Int), 0 ≤ i → i + d = (loopsL bs bs.length).length → Evt (fun k => davitlaw09_LoopRight.l0 k n (loopsL bs bs.length) (loopsL bs bs.length) (deepL n ((loopsL bs bs.length).take i.toNat)) i a0 a1 bs) true
 | 0, i, h0, h1 => by
  refine Evt.succ ?_
  simp only [davitlaw09_LoopRight.l0, if_neg (show ¬ i < ((loopsL bs bs.length).length : Int) by omega)]
  refine Evt.bind (deep_ev a0 a1 hl n) ?_
  rw [List.take_of_length_le (by omega)]
  simp only [beq_self_eq_true]
  exact Evt.pure _
 | d + 1, i, h0, h1 => by
  have hi : i < ((loopsL bs bs.length).length : Int) := by omega
  have hlen := loopsL_len (bs := bs) bs.length
  have hbl := loops_blocks (bs := bs) bs.length _ (rd40_mem h0 hi)
  have ih := right_l0 hl n d (i + 1) (by omega) (by omega)
  rw [deepL_step n h0 hi] at ih
  have hdl := deepL_len n ((loopsL bs bs.length).take i.toNat)
  rw [List.length_take] at hdl
  refine Evt.succ ?_
  simp only [davitlaw09_LoopRight.l0, if_pos hi, if_pos h0, if_pos]
  refine Evt.bind (ints_ev _ _ (by omega)) ?_
  simp only [decide_true, Bool.not_true]
  refine Evt.succ ?_
  simp only [davitlaw09_LoopRight.j1, if_neg Bool.false_ne_true, if_pos h0, if_pos hi, wrap64_small (i + 1) (by omega) (by omega), wrap64_small ((deepL n ((loopsL bs bs.length).take i.toNat) : Int) + 1) (by omega) (by omega)]
  refine Evt.bind (has_ev _ _ (by omega)) ?_
  by_cases h : n ∈ (rd_T40 (loopsL bs bs.length) i).f1
  ·simp only [decide_eq_true h, if_pos]
   rw [if_pos h] at ih
   exact ih
  ·simp only [decide_eq_false h, if_neg Bool.false_ne_true]
   rw [if_neg h] at ih
   exact ih
end
theorem loopRight_pure (a0 a1 : Int) (bs : List S50) (n : Int) : ∃ k, davitlaw09_LoopRight.f k a0 a1 bs n = some true := by
 refine Evt.ex (g := fun k => davitlaw09_LoopRight.f k a0 a1 bs n) ?_
 unfold davitlaw09_LoopRight.f
 refine Evt.bind awake09 ?_
 simp only [if_pos]
 by_cases h30 : (bs.length : Int) > 30
 ·simp only [if_pos h30]
  exact Evt.pure _
 ·have hl : bs.length ≤ 100 := by omega
  simp only [if_neg h30]
  refine Evt.bind (all_ev a0 a1 hl) (Evt.bind (refloops_ev a0 a1 (by omega)) ?_)
  simp only [if_pos]
  exact right_l0 a0 a1 hl n _ 0 (by omega) (Int.zero_add _)
section
variable {bs : List S50}
theorem InL.dom {h k : Int} (hh : RR bs h) (hk : InL bs h k) : DD bs h k := by
 rcases hk with rfl | hk
 ·exact Dom.refl (next_edges bs) hh
 ·exact hk.1
theorem HasL.rch {r : List Int} {place o : Int → Int} (H : OverOk bs r place o) {h : Int} (hh : HasL bs h) : RR bs h := by
 obtain ⟨n, hd, _⟩ := hh
 exact (H.tree.anc ((H.anc _ _ hd.1).2 hd) hd.1 (H.done _ hd.1)).1
end
end Go.Proofs.Ytilopoegoddggaa.X
namespace Go.Proofs.Ytilopoegoddggaa.Pure
open Go.RowKit Go.Proofs.Ytilopoegoddggaa.X
theorem LoopRight (a0 a1 : Int) (l : List S50) (n : Int) (_ : (Lit.int .i64 n).wf = true) : ∃ k, davitlaw09_LoopRight.f k a0 a1 l n = some true := loopRight_pure a0 a1 l n
end Go.Proofs.Ytilopoegoddggaa.Pure
namespace Go.Proofs.Ytilopoegoddggaa.X
open Go.RowKit Go.Proofs.YtilopoegoddggaaW.PrintWords Go.Proofs.YtilopoegoddggaaW.PrintLast Go.Proofs.YtilopoegoddggaaW.PrintMore
set_option linter.all false
def Opens {α : Type} (d : Kd α) (t : TypeId) : Prop := ∀ (H : Type) (enc : TypeId × Value → H) (w : World) (fuel : Nat) (cs : List Value) (x : DataW H × List MemPlace),
 DataW.trod enc Try.prog w 0 (fun _ => true) true fuel t cs = some x → ∃ a, d.K w a cs
theorem Opens.int {k : IntKind} {t : TypeId} (ht : Try.prog.underlying t = some (.int k)) : Opens (Kd.int k) t := fun H enc w fuel cs x h => by
 obtain ⟨n, rfl, _⟩ := DataW.trod_int ht h
 exact ⟨n, rfl⟩
theorem Opens.bool {t : TypeId} (ht : Try.prog.underlying t = some .bool) : Opens Kd.bool t := fun H enc w fuel cs x h => by
 obtain ⟨n, rfl, _⟩ := DataW.trod_bool ht h
 exact ⟨n, rfl⟩
theorem Opens.slice {α : Type} {d : Kd α} {t e : TypeId} (e' : Nat) (ht : Try.prog.underlying t = some (.slice e)) (hd : Opens d e) (hs : d.sz = Try.prog.cellsOf e) : Opens (Kd.slice e' d) t := fun H enc w fuel cs x h => by
 rcases Go.Deep.open_slice ht h with ⟨rfl, _⟩ | ⟨a, len, cap, m, n, D, Pl, rfl, _, hl, hm, hmm, _, hx⟩
 ·exact ⟨[], none, 0, rfl, Nat.le_refl _, ⟨rfl, by simp, fun h => absurd h (by simp)⟩⟩
 ·have hlm : len ≤ m := by rw [hmm]; split <;> omega
  have key : ∀ j, j ≤ len → ∃ xs : List α, xs.length = j ∧ ∀ i p, xs[i]? = some p → ∃ c, c.length = d.sz ∧ d.K w p c ∧ ∀ q u, c[q]? = some u → w.cell? (a.add (i * d.sz + q)) = some u := by
   intro j
   induction j with
   | zero => exact fun _ => ⟨[], rfl, fun i p h => by simp at h⟩
   | succ j ih =>
    intro hj
    obtain ⟨xs, h1, h2⟩ := ih (by omega)
    obtain ⟨cs', h3, h4⟩ := hx j (by omega)
    obtain ⟨p, hp⟩ := hd H enc w n cs' _ h4
    obtain ⟨_, h5, h6⟩ := World.cells?_some h3
    refine ⟨xs ++ [p], by simp [h1], fun i q hq => ?_⟩
    by_cases hi : i < j
    ·rw [List.getElem?_append_left (by omega)] at hq
     exact h2 i q hq
    ·have hi' : i = j := by
      have := (List.getElem?_eq_some_iff.1 hq).1
      simp [h1] at this; omega
     subst hi'
     rw [List.getElem?_append_right (by omega), h1, Nat.sub_self] at hq
     simp at hq
     subst hq
     refine ⟨cs', by rw [h5, hs], hp, fun z u hz => ?_⟩
     have hzl := (List.getElem?_eq_some_iff.1 hz).1
     have := h6 z (by omega)
     rw [Go.Deep.add_add, ← hs] at this
     rw [this, hz]
  obtain ⟨xs, h1, h2⟩ := key len (Nat.le_refl _)
  have hmx : maxLen ≤ 9223372036854775807 := by decide
  exact ⟨xs, some a, cap, by rw [h1], by rw [h1]; exact hl, ⟨rfl, by omega, fun _ => ⟨a, rfl, h2⟩⟩⟩
theorem Opens.iso {α β : Type} {d : Kd α} {t : TypeId} (f : β → α) (g : α → β) (hg : ∀ y, f (g y) = y) (h : Opens d t) : Opens (Kd.iso d f) t := fun H enc w fuel cs x hx => by
 obtain ⟨a, ha⟩ := h H enc w fuel cs x hx
 exact ⟨g a, show d.K w (f (g a)) cs by rw [hg]; exact ha⟩
def OpensF {α : Type} (d : Kd α) (fs : List Field) (off : Nat) : Prop := ∀ (H : Type) (enc : TypeId × Value → H) (w : World) (n : Nat) (cs : List Value), cs.length = off + d.sz →
 (∀ f ∈ fs, ∃ y, DataW.trod enc Try.prog w 0 (fun _ => true) true n f.type ((cs.drop f.offset).take (Try.prog.cellsOf f.type)) = some y) → ∃ a, d.K w a (cs.drop off)
theorem OpensF.one {α : Type} {d : Kd α} {f : Field} {off : Nat} (ho : f.offset = off) (hd : Opens d f.type) (hs : Try.prog.cellsOf f.type = d.sz) : OpensF d [f] off := fun H enc w n cs hl h => by
 obtain ⟨y, hy⟩ := h f (List.mem_cons_self ..)
 rw [ho, hs, List.take_of_length_le (by rw [List.length_drop]; omega)] at hy
 exact hd H enc w n _ _ hy
theorem OpensF.cons {α β : Type} {d : Kd α} {d2 : Kd β} {f : Field} {fs : List Field} {off : Nat} (ho : f.offset = off) (hd : Opens d f.type) (hs : Try.prog.cellsOf f.type = d.sz) (h2 : OpensF d2 fs (off + d.sz)) : OpensF (Kd.pair d d2) (f :: fs) off := fun H enc w n cs hl h => by
 obtain ⟨y, hy⟩ := h f (List.mem_cons_self ..)
 rw [ho, hs] at hy
 obtain ⟨a, ha⟩ := hd H enc w n _ _ hy
 have hl' : cs.length = off + (d.sz + d2.sz) := hl
 obtain ⟨b, hb⟩ := h2 H enc w n cs (by omega) fun g hg => h g (List.mem_cons_of_mem _ hg)
 refine ⟨(a, b), _, _, ?_, ha, hb⟩
 rw [show cs.drop (off + d.sz) = (cs.drop off).drop d.sz by rw [List.drop_drop], List.take_append_drop]
theorem Opens.struct {α : Type} {d : Kd α} {t : TypeId} {fs : Array Field} (ht : Try.prog.underlying t = some (.struct fs)) (hs : Try.prog.cellsOf t = d.sz) (h : OpensF d fs.toList 0) : Opens d t := fun H enc w fuel cs x hx => by
 obtain ⟨xs, n, _, _, hl, hlen, hf⟩ := DataW.trod_struct ht hx
 have := h H enc w n cs (by omega) fun f hm => by
  obtain ⟨i, hi, e⟩ := List.getElem_of_mem hm
  have hi' : i < fs.size := by simpa using hi
  have := hf i f (by rw [← e]; simp [hi'])
  rw [this, List.getElem?_eq_getElem (by omega)]
  exact ⟨_, rfl⟩
 simpa using this
end Go.Proofs.Ytilopoegoddggaa.X
namespace Go.Proofs.Ytilopoegoddggaa.X
open Go.RowKit Go.Proofs.YtilopoegoddggaaW.PrintWords Go.Proofs.YtilopoegoddggaaW.PrintLast Go.Proofs.YtilopoegoddggaaW.PrintMore
set_option linter.all false
set_option maxRecDepth 100000
theorem oInt : Opens (Kd.int .i64) 3 := Opens.int Try.underlying3
theorem oBool : Opens Kd.bool 4 := Opens.bool Try.underlying4
theorem oInts : Opens (Kd.slice 3 (Kd.int .i64)) 27 := Opens.slice 3 Try.underlying27 oInt (by kernel_rfl)
theorem oWords : Opens (Kd.slice 115 (Kd.int .u16)) 45 := Opens.slice 115 (t := 45) (e := 115) (by kernel_rfl) (Opens.int (by kernel_rfl)) (by kernel_rfl)
theorem o47 : Opens k47 47 := Opens.iso _ (fun y => ⟨y.1, y.2.1, y.2.2.1, y.2.2.2⟩) (fun _ => rfl) (Opens.struct Try.underlying47 (by kernel_rfl)
 (.cons rfl oInt (by kernel_rfl) (.cons rfl oWords (by kernel_rfl) (.cons rfl oBool (by kernel_rfl) (.one rfl oBool (by kernel_rfl))))))
theorem o117 : Opens k117 117 := Opens.iso _ (fun y => ⟨y.1, y.2.1, y.2.2.1, y.2.2.2.1, y.2.2.2.2.1, y.2.2.2.2.2.1, y.2.2.2.2.2.2⟩) (fun _ => rfl) (Opens.struct Try.underlying117 (by kernel_rfl)
 (.cons rfl oInt (by kernel_rfl) (.cons rfl oInt (by kernel_rfl) (.cons rfl oInt (by kernel_rfl) (.cons rfl oInt (by kernel_rfl) (.cons rfl (Opens.int (by kernel_rfl)) (by kernel_rfl) (.cons rfl oInt (by kernel_rfl) (.one rfl oInts (by kernel_rfl)))))))))
theorem o44 : Opens k44 44 := Opens.iso _ (fun y => ⟨y.1, y.2.1, y.2.2.1, y.2.2.2.1, y.2.2.2.2.1, y.2.2.2.2.2.1, y.2.2.2.2.2.2.1, y.2.2.2.2.2.2.2⟩) (fun _ => rfl) (Opens.struct Try.underlying44 (by kernel_rfl)
 (.cons rfl oInt (by kernel_rfl) (.cons rfl oInt (by kernel_rfl) (.cons rfl oInt (by kernel_rfl) (.cons rfl oInt (by kernel_rfl) (.cons rfl oInts (by kernel_rfl) (.cons rfl oInt (by kernel_rfl) (.cons rfl oInt (by kernel_rfl) (.one rfl oInt (by kernel_rfl))))))))))
theorem o50 : Opens k50 50 := Opens.iso _ (fun y => ⟨y.1, y.2.1, y.2.2.1, y.2.2.2⟩) (fun _ => rfl) (Opens.struct Try.underlying50 (by kernel_rfl)
 (.cons rfl oBool (by kernel_rfl) (.cons rfl o47 (by kernel_rfl) (.cons rfl (Opens.slice 117 (t := 48) (e := 117) (by kernel_rfl) o117 (by kernel_rfl)) (by kernel_rfl) (.one rfl o44 (by kernel_rfl))))))
theorem oBlocks : Opens (Kd.slice 50 k50) 22 := Opens.slice 50 Try.underlying22 o50 (by kernel_rfl)
theorem open_func {H : Type} {enc : TypeId × Value → H} {W : World} {r : Reach} {b0 : Nat} {v : Value} {d : DataW H} {p : List MemPlace} (hv : Value.okWide Try.prog W r b0 24 v) (h : DataW.Trod enc Try.prog W 0 (fun _ => true) true 24 v d p) :
  ∃ (a0 a1 : Int) (A : Option Addr) (c : Nat) (l : List S50), v = .agg #[.int .i64 a0, .int .i64 a1, .slice A l.length c] ∧ Kd.C k50 W A l.length l ∧ l.length ≤ c := by
 obtain ⟨v0, v1, v2, y0, y1, y2, n, rfl, _, _, h0, h1, h2⟩ := Go.Joins.open_agg3 (t := 24) Try.underlying24 (by kernel_rfl) (by kernel_rfl) hv h
 obtain ⟨a0, e0⟩ := oInt H enc W n _ _ h0
 obtain ⟨a1, e1⟩ := oInt H enc W n _ _ h1
 obtain ⟨l, A, c, e2, hc, hC⟩ := oBlocks H enc W n _ _ h2
 cases e0; cases e1; cases e2
 exact ⟨a0, a1, A, c, l, rfl, hC, hc⟩
end Go.Proofs.Ytilopoegoddggaa.X
namespace Go.Proofs.Ytilopoegoddggaa.loopRight
open Go.ChangeShapes Go.WideShapes Go.ChangeAt Go.RowKit Go.Proofs.Ytilopoegoddggaa.X Go.Proofs.YtilopoegoddggaaW.PrintWords
set_option linter.all false
theorem own : ownKnob Try.prog.godebug = none := by kernel_rfl
theorem laidOut : laidOutB Try.prog = true := by kernel_rfl
set_option maxRecDepth 100000 in
theorem lifted (os : Os) (started : os.Started) (H : Type) (enc : TypeId × Value → H) :
  ReturnsInHanded {} Try.checked os 7 .any (Rows.loopRightSpec.pre6 enc Try.prog Try.f7 Rows.loopRightRow.domain false) (Rows.loopRightSpec.post enc Try.prog Try.f7 false true false false) := by
 refine returnsInHanded_of_change_sized (C := Try.checked) own started (by kernel_rfl) Try.func7
  (ChangeSpec.witness6 (enc := enc) (C := Try.checked) false ⟨#[], #[.agg #[.int .i64 0, .int .i64 0, .slice none 0 0], .int .i64 0], []⟩ 8 (by kernel_rfl) (by kernel_rfl) (by kernel_rfl) (by kernel_rfl)) ?_
 intro W base args ds gs before hval0 hW hcnd hsz0 _
 have hval : ∀ (j : Nat) t v, Try.f7.params[j]? = some t → args[j]? = some v → Value.okWide Try.prog W .any base t v := hval0
 have hW' := hW
 obtain ⟨p, q, hA0, hV, rfl, hfz, hnd⟩ := hW
 have hA : DataW.TrodAll enc Try.prog W 0 (fun _ => true) true Try.f7.params.toList args.toList ds p := hA0
 rw [Try.params7] at hA hval
 obtain ⟨v0, vs0, d0, ds0, p0, q0, hargs, rfl, rfl, h0, r0⟩ := trodAll_cons hA
 obtain ⟨v1, vs1, d1, ds1, p1, q1, rfl, rfl, rfl, h1, r1⟩ := trodAll_cons r0
 obtain ⟨rfl, rfl, rfl⟩ := trodAll_nil r1
 obtain rfl : args = #[v0, v1] := by cases args; simp_all
 obtain ⟨rfl, rfl⟩ := trodVars_none hV
 have k0 := h0
 have lt0 : ∀ x ∈ p0, x.block < W.heap.size := by obtain ⟨m, hm⟩ := k0; exact DataW.trod_lt m _ _ _ hm
 obtain ⟨a0_0, a0_1, A0, c0, l0, rfl, hr0, hc0⟩ := open_func (hval 0 24 v0 rfl rfl) h0
 obtain ⟨a1, rfl, rfl, rfl, w1⟩ := open_int Try.underlying3 (hval 1 3 v1 rfl rfl) h1
 clear hA0 hval0 hsz0
 obtain ⟨k, hk⟩ := Pure.LoopRight a0_0 a0_1 l0 a1 w1
 refine (davitlaw09_LoopRight.calls k a0_0 a0_1 A0 c0 l0 a1 true W hr0 hc0 hk).mono fun e W' ⟨he, bel⟩ => ?_
 subst he
 exact ⟨_, rfl, _, _, _, [], _, [], hW', trodAll_mk1 (shut_bool Try.underlying4 _), (trodAll_cons_mk (Below.trod laidOut (by kernel_rfl) (of_decide_eq_true (by kernel_rfl)) k0 bel lt0) (trodAll_cons_mk (shut_int Try.underlying3 w1) trodAll_mk0)), rfl, bel.frame _, fun h => by cases h⟩
theorem over : Rows.loopRightRow.holds Try.pinned (OpenSpec.ofChange Rows.loopRightSpec) :=
 OpenClaim.holds_of_wide 7 Try.f7 rfl rfl rfl rfl rfl rfl rfl ⟨rfl, rfl, rfl, rfl, rfl⟩ rfl rfl rfl rfl rfl (by kernel_rfl) Try.func7 (by kernel_rfl)
  (of_decide_eq_true (by kernel_rfl)) (by unfold Func.isWrapper; first | (rw [if_pos (by decide +kernel)]; kernel_rfl) | (rw [if_neg (by decide +kernel)]; exact ⟨rfl, rfl⟩))
  (fun os started H enc _ => lifted os started H enc)
theorem proved : Rows.LoopRightSaid := over
#print axioms proved
end Go.Proofs.Ytilopoegoddggaa.loopRight
namespace Go.Proofs.Ytilopoegoddggaa
theorem loopRight_holds : Rows.LoopRightSaid := loopRight.proved
end Go.Proofs.Ytilopoegoddggaa
