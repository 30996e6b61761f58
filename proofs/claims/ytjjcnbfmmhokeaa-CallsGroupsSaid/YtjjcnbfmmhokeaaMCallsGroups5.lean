/- Part 6 of the proof of the statement CallsGroups: the words of the walks, the walks through the functions that it reaches, and the plain laws of what they compute. -/
import Derived.Test.YtjjcnbfmmhokeaaMCallsGroups4
import Derived.Deep.Slices
import Derived.Lib.SmallJoins
import Derived.ChangeArms
import Derived.Test.YtjjcnbfmmhokeaaRows
import Derived.WalkKit
import Derived.ProofKit
import Derived.OpenShut
import Derived.ShutString
import Derived.ChangeOld
import Derived.Below
import Derived.SizedLaws
import Derived.Carry
namespace Go.Proofs.Ytjjcnbfmmhokeaa.Pure
open Go.RowKit Go.Proofs.Ytjjcnbfmmhokeaa.X Go.Proofs.Ytjjcnbfmmhokeaa.G Go.Proofs.YtjjcnbfmmhokeaaW.PrintWords
set_option linter.all false
set_option maxHeartbeats 4000000
theorem rdI2 (l : List Int) (i : Nat) : rd l (i : Int) = l.getD i 0 := by unfold rd; rw [Int.toNat_natCast]
theorem strict_get {l : List Int} (h : l.Pairwise (· < ·)) (i : Nat) (hi : i + 1 < l.length) : l.getD i 0 < l.getD (i + 1) 0 := by
 have := List.pairwise_iff_getElem.1 h i (i + 1) (by omega) hi (by omega)
 rw [List.getD_eq_getElem?_getD, List.getD_eq_getElem?_getD, List.getElem?_eq_getElem (by omega : i < l.length), List.getElem?_eq_getElem hi]
 exact this
theorem wrapN (k : Nat) (h : k ≤ 100000) : wrap64 ((k : Int) + 1) = ((k + 1 : Nat) : Int) := by
 rw [G.wrap_small _ (by omega) (by omega)]; omega
theorem wrapI (k : Nat) (h : k ≤ 100000) : wrap64 ((k : Int) + 1) = (k : Int) + 1 := G.wrap_small _ (by omega) (by omega)
theorem wrapM (k : Nat) (h0 : 0 < k) (h : k ≤ 100000) : wrap64 ((k : Int) - 1) = ((k - 1 : Nat) : Int) := by
 rw [G.wrap_small _ (by omega) (by omega)]; omega
theorem cg_l1 (m : List S33) (hml : m.length ≤ 20) (g : List (List Int)) (hgl : g.length ≤ m.length) (i : Nat) (hi : i < g.length) (row : List Int) (hrow : g.getD i [] = row) (hst : row.Pairwise (· < ·)) (hin : ∀ x ∈ row, ∃ q : Nat, x = (q : Int) ∧ q < m.length) (hrl : row.length ≤ m.length) (t0 : List Int) (many : Nat) (hmany : many ≤ 1000) (res : Bool)
  (K : ∀ t : List Int, t.length = m.length → (∀ a : Nat, a < m.length → t.getD a 0 = if (a : Int) ∈ row then (i : Int) else t0.getD a 0) → Evt (fun f => davitlaw11_CallsGroups.l0 f g t ((many + row.length : Nat) : Int) ((i : Int) + 1) m) res) :
  ∀ (d k : Nat) (t : List Int), k + d = row.length → t.length = m.length → (∀ a : Nat, a < m.length → t.getD a 0 = if (a : Int) ∈ row.take k then (i : Int) else t0.getD a 0) →
   Evt (fun f => davitlaw11_CallsGroups.l1 f g t ((many + k : Nat) : Int) (i : Int) (k : Int) m) res := by
 have e0 : (0 : Int) ≤ (i : Int) := Int.natCast_nonneg i
 have e1 : (i : Int) < (g.length : Int) := by omega
 have erow : rd_L5 g (i : Int) = row := (rdL5 g i).trans hrow
 intro d
 induction d with
 | zero =>
  intro k t hk ht hv
  obtain rfl : k = row.length := by omega
  rw [List.take_length] at hv
  have e2 : ¬ (row.length : Int) < (row.length : Int) := by omega
  have hi2 : i ≤ 100000 := by omega
  refine Evt.succ (Evt.congr (K t ht hv) fun f => ?_)
  rw [davitlaw11_CallsGroups.l1, if_pos e0, if_pos e1, erow, if_neg e2, wrapI i hi2]
 | succ d ih =>
  intro k t hk ht hv
  have hkl : k < row.length := by omega
  obtain ⟨q, hq, hqn⟩ := hin _ (getD_in row k 0 hkl)
  have nx := ih (k + 1) (t.set q (i : Int)) (by omega) (by rw [List.length_set]; exact ht) (fun a ha => by
   rw [take_snoc row k 0 hkl, hq]
   by_cases e : a = q
   ·subst e
    have hl : a < t.length := by omega
    rw [List.getD_eq_getElem?_getD, List.getElem?_set_self hl, if_pos (by simp)]
    rfl
   ·rw [List.getD_eq_getElem?_getD, List.getElem?_set_ne (fun h => e h.symm), ← List.getD_eq_getElem?_getD, hv a ha]
    have hne : ¬ (a : Int) = (q : Int) := by omega
    by_cases h : (a : Int) ∈ row.take k
    ·rw [if_pos h, if_pos (List.mem_append_left _ h)]
    ·rw [if_neg h, if_neg (fun h2 => by
      rcases List.mem_append.1 h2 with h2 | h2
      ·exact h h2
      ·exact hne (List.mem_singleton.1 h2))])
  have hk2 : k ≤ 100000 := by omega
  have hm2 : many + k ≤ 100000 := by omega
  have c0 : (0 : Int) ≤ (k : Int) := Int.natCast_nonneg k
  have c1 : (k : Int) < (row.length : Int) := by omega
  have erd : rd row (k : Int) = (q : Int) := (rdI2 row k).trans hq
  have c2 : ¬ (q : Int) < 0 := by omega
  have c3 : ¬ (q : Int) ≥ (t.length : Int) := by omega
  have c4 : (0 : Int) ≤ (q : Int) := Int.natCast_nonneg q
  have c5 : (q : Int) < (t.length : Int) := by omega
  have j2 : Evt (fun f => davitlaw11_CallsGroups.j2 f g t ((many + k : Nat) : Int) (i : Int) (k : Int) false m) res := by
   refine Evt.succ (Evt.congr nx fun f => ?_)
   rw [davitlaw11_CallsGroups.j2, if_neg Bool.false_ne_true, if_pos e0, if_pos e1, if_pos c0, erow, if_pos c1, erd, if_pos c4, if_pos c5, wrapN k hk2, wrapN (many + k) hm2, Int.toNat_natCast]
   rfl
  refine Evt.succ (Evt.congr j2 fun f => ?_)
  by_cases hk0 : k = 0
  ·have c6 : ¬ (k : Int) > 0 := by omega
   rw [davitlaw11_CallsGroups.l1, if_pos e0, if_pos e1, erow, if_pos c1, if_pos c0, erd, if_neg c2, if_neg c3, if_neg c6]
  ·have c6 : (k : Int) > 0 := by omega
   have hkp : 0 < k := by omega
   have c7 : (0 : Int) ≤ ((k - 1 : Nat) : Int) := Int.natCast_nonneg _
   have c8 : ((k - 1 : Nat) : Int) < (row.length : Int) := by omega
   have hs := strict_get hst (k - 1) (by omega)
   have ek : k - 1 + 1 = k := by omega
   rw [ek, hq] at hs
   have c9 : ¬ (q : Int) ≤ row.getD (k - 1) 0 := by omega
   rw [davitlaw11_CallsGroups.l1, if_pos e0, if_pos e1, erow, if_pos c1, if_pos c0, erd, if_neg c2, if_neg c3, if_pos c6, wrapM k hkp hk2, if_pos c7, if_pos c8, rdI2 row (k - 1), decide_eq_false c9]
theorem cg_l3 (m : List S33) (hm : Sh m) (t : List Int) (ht : t.length = m.length)
  (F1 : ∀ a b : Nat, a < m.length → b < m.length → (t.getD a 0 == t.getD b 0) = (a == b || (wsh (E m) m.length a b && wsh (E m) m.length b a)))
  (F2 : ∀ a b : Nat, a < m.length → b < m.length → wsh (E m) m.length a b = true → t.getD b 0 ≤ t.getD a 0)
  (a : Nat) (ha : a < m.length) (res : Bool) (K : Evt (fun f => davitlaw11_CallsGroups.l2 f t ((a : Int) + 1) m) res) :
  ∀ (d b : Nat), b + d = m.length → Evt (fun f => davitlaw11_CallsGroups.l3 f t (a : Int) (b : Int) m) res := by
 have hl := hm.len
 have a0 : (0 : Int) ≤ (a : Int) := Int.natCast_nonneg a
 have a1 : (a : Int) < (t.length : Int) := by omega
 intro d
 induction d with
 | zero =>
  intro b hb
  have c : ¬ (b : Int) < (t.length : Int) := by omega
  have ha2 : a ≤ 100000 := by omega
  refine Evt.succ (Evt.congr K fun f => ?_)
  rw [davitlaw11_CallsGroups.l3, if_neg c, wrapI a ha2]
 | succ d ih =>
  intro b hb
  have hbn : b < m.length := by omega
  have nx := ih (b + 1) (by omega)
  rw [cast_succ] at nx
  have hb2 : b ≤ 100000 := by omega
  have b0 : (0 : Int) ≤ (b : Int) := Int.natCast_nonneg b
  have b1 : (b : Int) < (t.length : Int) := by omega
  have hab := comes_ev m hm (a : Int) (b : Int)
  have hba := comes_ev m hm (b : Int) (a : Int)
  rw [cm_nat m a b ha hbn] at hab
  rw [cm_nat m b a hbn ha] at hba
  have f1 := F1 a b ha hbn
  have j6 : Evt (fun f => davitlaw11_CallsGroups.j6 f t (a : Int) (b : Int) false m) res := by
   refine Evt.succ (Evt.congr nx fun f => ?_)
   rw [davitlaw11_CallsGroups.j6, if_neg Bool.false_ne_true, wrapI b hb2]
  have j5 : ∀ v : Bool, v = (t.getD a 0 == t.getD b 0) → Evt (fun f => davitlaw11_CallsGroups.j5 f t (a : Int) (b : Int) v m) res := by
   intro v hv
   have c : ¬ (v != (t.getD a 0 == t.getD b 0)) = true := by rw [hv]; simp
   have unf : ∀ f, davitlaw11_CallsGroups.j5 (f + 1) t (a : Int) (b : Int) v m = (calls_Comes.f f m (a : Int) (b : Int)).bind fun t167 => (if t167 = true then (davitlaw11_CallsGroups.j6 f t (a : Int) (b : Int) (decide (t.getD b 0 > t.getD a 0)) m) else (davitlaw11_CallsGroups.j6 f t (a : Int) (b : Int) false m)) := by
    intro f
    rw [davitlaw11_CallsGroups.j5, if_pos a0, if_pos a1, if_pos b0, if_pos b1, rdI2 t a, rdI2 t b, if_neg c]
   refine Evt.succ (Evt.congr ?_ unf)
   refine Evt.bind (h := fun f t167 => (if t167 = true then (davitlaw11_CallsGroups.j6 f t (a : Int) (b : Int) (decide (t.getD b 0 > t.getD a 0)) m) else (davitlaw11_CallsGroups.j6 f t (a : Int) (b : Int) false m))) hab ?_
   cases hT : wsh (E m) m.length a b with
   | false => exact Evt.congr j6 fun f => if_neg Bool.false_ne_true
   | true =>
    have h2 := F2 a b ha hbn hT
    have c2 : ¬ t.getD b 0 > t.getD a 0 := by omega
    exact Evt.congr j6 fun f => (if_pos rfl).trans (by rw [decide_eq_false c2])
  by_cases e : a = b
  ·have e' : (a : Int) = (b : Int) := by omega
   have e2 : (a == b) = true := by simpa using e
   rw [e2, Bool.true_or] at f1
   refine Evt.succ (Evt.congr (j5 true f1.symm) fun f => ?_)
   rw [davitlaw11_CallsGroups.l3, if_pos b1, if_pos e']
  ·have e' : ¬ (a : Int) = (b : Int) := by omega
   have e2 : (a == b) = false := by simpa using e
   rw [e2, Bool.false_or] at f1
   have unf : ∀ f, davitlaw11_CallsGroups.l3 (f + 1) t (a : Int) (b : Int) m = (calls_Comes.f f m (a : Int) (b : Int)).bind fun t163 => (if t163 = true then ((calls_Comes.f f m (b : Int) (a : Int)).bind fun t164 => (davitlaw11_CallsGroups.j5 f t (a : Int) (b : Int) t164 m)) else (davitlaw11_CallsGroups.j5 f t (a : Int) (b : Int) false m)) := by
    intro f
    rw [davitlaw11_CallsGroups.l3, if_pos b1, if_neg e']
   refine Evt.succ (Evt.congr ?_ unf)
   refine Evt.bind (h := fun f t163 => (if t163 = true then ((calls_Comes.f f m (b : Int) (a : Int)).bind fun t164 => (davitlaw11_CallsGroups.j5 f t (a : Int) (b : Int) t164 m)) else (davitlaw11_CallsGroups.j5 f t (a : Int) (b : Int) false m))) hab ?_
   cases hT : wsh (E m) m.length a b with
   | false =>
    rw [hT, Bool.false_and] at f1
    exact Evt.congr (j5 false f1.symm) fun f => if_neg Bool.false_ne_true
   | true =>
    rw [hT, Bool.true_and] at f1
    refine Evt.congr ?_ fun f => if_pos rfl
    exact Evt.bind (h := fun f t164 => davitlaw11_CallsGroups.j5 f t (a : Int) (b : Int) t164 m) hba (j5 _ f1.symm)
theorem getD_mem_take {g : List (List Int)} {j : Nat} (hj : j < g.length) : g = g.take j ++ g.getD j [] :: g.drop (j + 1) := by
 rw [← drop_one g j [] hj, List.take_append_drop]
theorem CallsGroups (m : List S33) : ∃ k, davitlaw11_CallsGroups.f k m = some true := by
 obtain ⟨s, hs, hsh⟩ := short_ev m
 refine Evt.ex (Evt.congr (g' := fun k => (davitlaw11_awake.f k).bind fun t248 => (if t248 = true then ((davitref02_Short.f k m).bind fun t249 => (if t249 = true then ((calls_Groups.f k m).bind fun t250 => (if 0 ≤ (m.length : Int) then (if ((m.length : Int) : Int).toNat ≤ 35184372088832 then (davitlaw11_CallsGroups.l0 k t250 (List.replicate ((m.length : Int) : Int).toNat 0) 0 0 m) else (none)) else (none))) else (some true))) else (some false))) (Evt.bind awake_ev ?_) fun k => rfl)
 refine Evt.congr ?_ fun k => if_pos rfl
 refine Evt.bind hs ?_
 cases s with
 | false => exact Evt.congr (Evt.pure _) fun k => if_neg Bool.false_ne_true
 | true =>
  have hm := hsh rfl
  have hl := hm.len
  refine Evt.congr ?_ fun k => if_pos rfl
  obtain ⟨g, hg1, _, hgI, hgf, hgl⟩ := groups_ev m hm
  refine Evt.bind hg1 ?_
  have c0 : (0 : Int) ≤ (m.length : Int) := Int.natCast_nonneg _
  have c1 : ((m.length : Int) : Int).toNat ≤ 35184372088832 := by rw [Int.toNat_natCast]; omega
  refine Evt.congr (g' := fun k => davitlaw11_CallsGroups.l0 k g (List.replicate m.length 0) ((0 : Nat) : Int) ((0 : Nat) : Int) m) ?_ fun k => (if_pos c0).trans ((if_pos c1).trans (by rw [Int.toNat_natCast]; rfl))
  have trn : Trn m.length (wsh (E m) m.length) := by
   intro a b c ha hb hc h1 h2
   exact (wsh_iff _ _ a c ha hc).2 (((wsh_iff _ _ a b ha hb).1 h1).trans ((wsh_iff _ _ b c hb hc).1 h2))
  have one : ∀ (i j : Nat) (x : Int), i < j → j < g.length → x ∈ g.getD i [] → x ∈ g.getD j [] → False := by
   intro i j x hij hj h1 h2
   have hp := (List.pairwise_flatten.1 hgI.nd).2
   have := List.pairwise_iff_getElem.1 hp i j (by omega) hj hij
   rw [List.getD_eq_getElem?_getD, List.getElem?_eq_getElem (by omega : i < g.length)] at h1
   rw [List.getD_eq_getElem?_getD, List.getElem?_eq_getElem hj] at h2
   exact this x h1 x h2 rfl
  have all := hgI.all.1 hgf
  have at_of : ∀ a, a < m.length → ∃ j, j < g.length ∧ (a : Int) ∈ g.getD j [] := by
   intro a ha
   obtain ⟨r, hr, har⟩ := List.mem_flatten.1 (all a ha)
   obtain ⟨j, hj, rfl⟩ := of_getD hr []
   exact ⟨j, hj, har⟩
  have behind : ∀ t : List Int, t.length = m.length → (∀ a j : Nat, a < m.length → j < g.length → (a : Int) ∈ g.getD j [] → t.getD a 0 = (j : Int)) → Evt (fun f => davitlaw11_CallsGroups.l2 f t 0 m) true := by
   intro t ht hv
   have F2 : ∀ a b : Nat, a < m.length → b < m.length → wsh (E m) m.length a b = true → t.getD b 0 ≤ t.getD a 0 := by
    intro a b ha hb hT
    obtain ⟨j, hj, haj⟩ := at_of a ha
    rw [hv a j ha hj haj]
    rcases hgI.ord (g.take j) (g.getD j []) (g.drop (j + 1)) (getD_mem_take hj) a b ha hb haj hT with h | h
    ·obtain ⟨r, hr, hbr⟩ := List.mem_flatten.1 h
     obtain ⟨i, hi, rfl⟩ := of_getD hr []
     rw [List.length_take] at hi
     have e : (g.take j).getD i [] = g.getD i [] := by rw [List.getD_eq_getElem?_getD, List.getD_eq_getElem?_getD, List.getElem?_take_of_lt (by omega)]
     rw [e] at hbr
     rw [hv b i hb (by omega) hbr]
     omega
    ·rw [hv b j hb hj h]
     exact Int.le_refl _
   have F1 : ∀ a b : Nat, a < m.length → b < m.length → (t.getD a 0 == t.getD b 0) = (a == b || (wsh (E m) m.length a b && wsh (E m) m.length b a)) := by
    intro a b ha hb
    obtain ⟨j, hj, haj⟩ := at_of a ha
    obtain ⟨i, hi, hbi⟩ := at_of b hb
    obtain ⟨c, hc, ec⟩ := hgI.cl _ (getD_in g j [] hj)
    rw [hv a j ha hj haj, hv b i hb hi hbi]
    have hac := (mem_cls.1 (ec ▸ haj)).2
    rw [Bool.eq_iff_iff]
    simp only [beq_iff_eq, Bool.or_eq_true, Bool.and_eq_true]
    constructor
    ·intro h
     obtain rfl : i = j := by omega
     have hbc := (mem_cls.1 (ec ▸ hbi)).2
     rcases hac with rfl | ⟨h1, h2⟩
     ·rcases hbc with rfl | ⟨h3, h4⟩
      ·exact .inl rfl
      ·exact .inr ⟨h3, h4⟩
     ·rcases hbc with rfl | ⟨h3, h4⟩
      ·exact .inr ⟨h2, h1⟩
      ·exact .inr ⟨trn a c b ha hc hb h2 h3, trn b c a hb hc ha h4 h1⟩
    ·intro h
     have hbj : (b : Int) ∈ g.getD j [] := by
      rcases h with rfl | ⟨h1, h2⟩
      ·exact haj
      ·rw [ec]
       refine mem_cls.2 ⟨hb, ?_⟩
       rcases hac with rfl | ⟨h3, h4⟩
       ·exact .inr ⟨h1, h2⟩
       ·exact .inr ⟨trn c a b hc ha hb h3 h1, trn b a c hb ha hc h2 h4⟩
     rcases Nat.lt_trichotomy i j with h | h | h
     ·exact (one i j _ h hj hbi hbj).elim
     ·rw [h]
     ·exact (one j i _ h hi hbj hbi).elim
   have key : ∀ (d a : Nat), a + d = m.length → Evt (fun f => davitlaw11_CallsGroups.l2 f t (a : Int) m) true := by
    intro d
    induction d with
    | zero =>
     intro a ha
     have c : ¬ (a : Int) < (t.length : Int) := by omega
     refine Evt.succ (Evt.congr (Evt.pure _) fun f => ?_)
     rw [davitlaw11_CallsGroups.l2, if_neg c]
    | succ d ih =>
     intro a ha
     have nx := ih (a + 1) (by omega)
     rw [cast_succ] at nx
     have c : (a : Int) < (t.length : Int) := by omega
     refine Evt.succ (Evt.congr (cg_l3 m hm t ht F1 F2 a (by omega) true nx m.length 0 (by omega)) fun f => ?_)
     rw [davitlaw11_CallsGroups.l2, if_pos c]
     rfl
   exact key m.length 0 (by omega)
  have go : ∀ (d i : Nat) (t : List Int), i + d = g.length → t.length = m.length → (∀ a j : Nat, a < m.length → j < i → (a : Int) ∈ g.getD j [] → t.getD a 0 = (j : Int)) → Evt (fun f => davitlaw11_CallsGroups.l0 f g t (((g.take i).flatten.length : Nat) : Int) (i : Int) m) true := by
   intro d
   induction d with
   | zero =>
    intro i t hi ht hv
    obtain rfl : i = g.length := by omega
    have c : ¬ (g.length : Int) < (g.length : Int) := by omega
    rw [List.take_length]
    have c2 : ((g.flatten.length : Nat) : Int) = (t.length : Int) := by omega
    refine Evt.succ (Evt.congr (behind t ht fun a j ha hj => hv a j ha hj) fun f => ?_)
    rw [davitlaw11_CallsGroups.l0, if_neg c, if_pos c2]
   | succ d ih =>
    intro i t hi ht hv
    have hil : i < g.length := by omega
    have c : (i : Int) < (g.length : Int) := by omega
    obtain ⟨cc, hcc, ec⟩ := hgI.cl _ (getD_in g i [] hil)
    have hlen : (g.take i).flatten.length ≤ m.length := by
     have e := getD_mem_take hil
     have : g.flatten.length = (g.take i).flatten.length + (g.getD i [] :: g.drop (i + 1)).flatten.length := by
      rw [← List.length_append, ← List.flatten_append, ← e]
     omega
    have hrl : (g.getD i []).length ≤ m.length := by rw [ec]; exact pickN_len _ _
    have := cg_l1 m hl g hgl i hil (g.getD i []) rfl (by rw [ec]; exact pickN_strict _ _) (fun x hx => by
     rw [ec] at hx
     obtain ⟨q, e, h1, _⟩ := mem_pickN.1 hx
     exact ⟨q, e, h1⟩) hrl t (g.take i).flatten.length (by omega) true (fun t' ht' hv' => by
     have nx := ih (i + 1) t' (by omega) ht' (fun a j ha hj haj => by
      rw [hv' a ha]
      rcases Nat.lt_or_ge j i with h | h
      ·rw [if_neg (fun h2 => one j i _ h (by omega) haj h2)]
       exact hv a j ha h haj
      ·obtain rfl : j = i := by omega
       rw [if_pos haj])
     rw [cast_succ, take_snoc g i [] hil, List.flatten_append, List.length_append] at nx
     simpa using nx) (g.getD i []).length 0 t (by omega) ht (fun a ha => by simp)
    refine Evt.succ (Evt.congr this fun f => ?_)
    rw [davitlaw11_CallsGroups.l0, if_pos c]
    rfl
  exact go g.length 0 (List.replicate m.length 0) (by omega) (by simp) (fun a j ha hj => by omega)
end Go.Proofs.Ytjjcnbfmmhokeaa.Pure
namespace Go.Proofs.Ytjjcnbfmmhokeaa.X
open Go.ChangeShapes Go.WideShapes Go.ChangeAt Go.RowKit Go.Proofs.YtjjcnbfmmhokeaaW.PrintWords Go.Proofs.YtjjcnbfmmhokeaaW.PrintLast Go.Proofs.YtjjcnbfmmhokeaaW.PrintMore
set_option linter.all false
def Opens {α : Type} (d : Kd α) (t : TypeId) : Prop := ∀ (H : Type) (enc : TypeId × Value → H) (w : World) (fuel : Nat) (cs : List Value) (x : DataW H × List MemPlace),
 DataW.trod enc Try.prog w 0 (fun _ => true) true fuel t cs = some x → ∃ a, d.K w a cs
theorem Opens.int {k : IntKind} {t : TypeId} (ht : Try.prog.underlying t = some (.int k)) : Opens (Kd.int k) t := fun H enc w fuel cs x h => by
 obtain ⟨n, rfl, _⟩ := DataW.trod_int ht h
 exact ⟨n, rfl⟩
theorem Opens.bool {t : TypeId} (ht : Try.prog.underlying t = some .bool) : Opens Kd.bool t := fun H enc w fuel cs x h => by
 obtain ⟨n, rfl, _⟩ := DataW.trod_bool ht h
 exact ⟨n, rfl⟩
theorem Opens.slice {α : Type} {d : Kd α} {t e : TypeId} (e' : Nat) (ht : Try.prog.underlying t = some (.slice e)) (hd : Opens d e) (hs : d.sz = Try.prog.cellsOf e) : Opens (Kd.slice e' d) t := fun H enc w fuel cs x h => by
 rcases Go.Deep.open_slice ht h with ⟨rfl, _⟩ | ⟨a, len, cap, m, n, D, Pl, rfl, _, hl, hm, hmm, _, hx⟩
 ·exact ⟨[], none, 0, rfl, Nat.le_refl _, ⟨rfl, by simp, fun h => absurd h (by simp)⟩⟩
 ·have hlm : len ≤ m := by rw [hmm]; split <;> omega
  have key : ∀ j, j ≤ len → ∃ xs : List α, xs.length = j ∧ ∀ i p, xs[i]? = some p → ∃ c, c.length = d.sz ∧ d.K w p c ∧ ∀ q u, c[q]? = some u → w.cell? (a.add (i * d.sz + q)) = some u := by
   intro j
   induction j with
   | zero => exact fun _ => ⟨[], rfl, fun i p h => by simp at h⟩
   | succ j ih =>
    intro hj
    obtain ⟨xs, h1, h2⟩ := ih (by omega)
    obtain ⟨cs', h3, h4⟩ := hx j (by omega)
    obtain ⟨p, hp⟩ := hd H enc w n cs' _ h4
    obtain ⟨_, h5, h6⟩ := World.cells?_some h3
    refine ⟨xs ++ [p], by simp [h1], fun i q hq => ?_⟩
    by_cases hi : i < j
    ·rw [List.getElem?_append_left (by omega)] at hq
     exact h2 i q hq
    ·have hi' : i = j := by
      have := (List.getElem?_eq_some_iff.1 hq).1
      simp [h1] at this; omega
     subst hi'
     rw [List.getElem?_append_right (by omega), h1, Nat.sub_self] at hq
     simp at hq
     subst hq
     refine ⟨cs', by rw [h5, hs], hp, fun z u hz => ?_⟩
     have hzl := (List.getElem?_eq_some_iff.1 hz).1
     have := h6 z (by omega)
     rw [Go.Deep.add_add, ← hs] at this
     rw [this, hz]
  obtain ⟨xs, h1, h2⟩ := key len (Nat.le_refl _)
  have hmx : maxLen ≤ 9223372036854775807 := by decide
  exact ⟨xs, some a, cap, by rw [h1], by rw [h1]; exact hl, ⟨rfl, by omega, fun _ => ⟨a, rfl, h2⟩⟩⟩
theorem Opens.iso {α β : Type} {d : Kd α} {t : TypeId} (f : β → α) (g : α → β) (hg : ∀ y, f (g y) = y) (h : Opens d t) : Opens (Kd.iso d f) t := fun H enc w fuel cs x hx => by
 obtain ⟨a, ha⟩ := h H enc w fuel cs x hx
 exact ⟨g a, show d.K w (f (g a)) cs by rw [hg]; exact ha⟩
def OpensF {α : Type} (d : Kd α) (fs : List Field) (off : Nat) : Prop := ∀ (H : Type) (enc : TypeId × Value → H) (w : World) (n : Nat) (cs : List Value), cs.length = off + d.sz →
 (∀ f ∈ fs, ∃ y, DataW.trod enc Try.prog w 0 (fun _ => true) true n f.type ((cs.drop f.offset).take (Try.prog.cellsOf f.type)) = some y) → ∃ a, d.K w a (cs.drop off)
theorem OpensF.one {α : Type} {d : Kd α} {f : Field} {off : Nat} (ho : f.offset = off) (hd : Opens d f.type) (hs : Try.prog.cellsOf f.type = d.sz) : OpensF d [f] off := fun H enc w n cs hl h => by
 obtain ⟨y, hy⟩ := h f (List.mem_cons_self ..)
 rw [ho, hs, List.take_of_length_le (by rw [List.length_drop]; omega)] at hy
 exact hd H enc w n _ _ hy
theorem OpensF.cons {α β : Type} {d : Kd α} {d2 : Kd β} {f : Field} {fs : List Field} {off : Nat} (ho : f.offset = off) (hd : Opens d f.type) (hs : Try.prog.cellsOf f.type = d.sz) (h2 : OpensF d2 fs (off + d.sz)) : OpensF (Kd.pair d d2) (f :: fs) off := fun H enc w n cs hl h => by
 obtain ⟨y, hy⟩ := h f (List.mem_cons_self ..)
 rw [ho, hs] at hy
 obtain ⟨a, ha⟩ := hd H enc w n _ _ hy
 have hl' : cs.length = off + (d.sz + d2.sz) := hl
 obtain ⟨b, hb⟩ := h2 H enc w n cs (by omega) fun g hg => h g (List.mem_cons_of_mem _ hg)
 refine ⟨(a, b), _, _, ?_, ha, hb⟩
 rw [show cs.drop (off + d.sz) = (cs.drop off).drop d.sz by rw [List.drop_drop], List.take_append_drop]
theorem Opens.struct {α : Type} {d : Kd α} {t : TypeId} {fs : Array Field} (ht : Try.prog.underlying t = some (.struct fs)) (hs : Try.prog.cellsOf t = d.sz) (h : OpensF d fs.toList 0) : Opens d t := fun H enc w fuel cs x hx => by
 obtain ⟨xs, n, _, _, hl, hlen, hf⟩ := DataW.trod_struct ht hx
 have := h H enc w n cs (by omega) fun f hm => by
  obtain ⟨i, hi, e⟩ := List.getElem_of_mem hm
  have hi' : i < fs.size := by simpa using hi
  have := hf i f (by rw [← e]; simp [hi'])
  rw [this, List.getElem?_eq_getElem (by omega)]
  exact ⟨_, rfl⟩
 simpa using this
end Go.Proofs.Ytjjcnbfmmhokeaa.X
namespace Go.Proofs.Ytjjcnbfmmhokeaa.X
open Go.RowKit Go.Proofs.YtjjcnbfmmhokeaaW.PrintWords Go.Proofs.YtjjcnbfmmhokeaaW.PrintLast Go.Proofs.YtjjcnbfmmhokeaaW.PrintMore
set_option linter.all false
set_option maxRecDepth 100000
theorem oInt : Opens (Kd.int .i64) 3 := Opens.int Try.underlying3
theorem oBool : Opens Kd.bool 4 := Opens.bool Try.underlying4
theorem oInts : Opens (Kd.slice 3 (Kd.int .i64)) 29 := Opens.slice 3 Try.underlying29 oInt (by kernel_rfl)
theorem oWords : Opens (Kd.slice 34 (Kd.int .u16)) 38 := Opens.slice 34 (t := 38) (e := 34) (by kernel_rfl) (Opens.int (by kernel_rfl)) (by kernel_rfl)
theorem o40 : Opens k40 40 := Opens.iso _ (fun y => ⟨y.1, y.2.1, y.2.2.1, y.2.2.2⟩) (fun _ => rfl) (Opens.struct Try.underlying40 (by kernel_rfl)
 (.cons rfl oInt (by kernel_rfl) (.cons rfl oWords (by kernel_rfl) (.cons rfl oBool (by kernel_rfl) (.one rfl oBool (by kernel_rfl))))))
theorem o36 : Opens k36 36 := Opens.iso _ (fun y => ⟨y.1, y.2.1, y.2.2.1, y.2.2.2.1, y.2.2.2.2.1, y.2.2.2.2.2.1, y.2.2.2.2.2.2⟩) (fun _ => rfl) (Opens.struct Try.underlying36 (by kernel_rfl)
 (.cons rfl oInt (by kernel_rfl) (.cons rfl oInt (by kernel_rfl) (.cons rfl oInt (by kernel_rfl) (.cons rfl oInt (by kernel_rfl) (.cons rfl (Opens.int (by kernel_rfl)) (by kernel_rfl) (.cons rfl oInt (by kernel_rfl) (.one rfl oInts (by kernel_rfl)))))))))
theorem o42 : Opens k42 42 := Opens.iso _ (fun y => ⟨y.1, y.2.1, y.2.2.1, y.2.2.2.1, y.2.2.2.2.1, y.2.2.2.2.2.1, y.2.2.2.2.2.2.1, y.2.2.2.2.2.2.2⟩) (fun _ => rfl) (Opens.struct Try.underlying42 (by kernel_rfl)
 (.cons rfl oInt (by kernel_rfl) (.cons rfl oInt (by kernel_rfl) (.cons rfl oInt (by kernel_rfl) (.cons rfl oInt (by kernel_rfl) (.cons rfl oInts (by kernel_rfl) (.cons rfl oInt (by kernel_rfl) (.cons rfl oInt (by kernel_rfl) (.one rfl oInt (by kernel_rfl))))))))))
theorem o44 : Opens k44 44 := Opens.iso _ (fun y => ⟨y.1, y.2.1, y.2.2.1, y.2.2.2⟩) (fun _ => rfl) (Opens.struct Try.underlying44 (by kernel_rfl)
 (.cons rfl oBool (by kernel_rfl) (.cons rfl o40 (by kernel_rfl) (.cons rfl (Opens.slice 36 (t := 37) (e := 36) (by kernel_rfl) o36 (by kernel_rfl)) (by kernel_rfl) (.one rfl o42 (by kernel_rfl))))))
theorem o33 : Opens k33 33 := Opens.iso _ (fun y => ⟨y.1, y.2.1, y.2.2⟩) (fun _ => rfl) (Opens.struct Try.underlying33 (by kernel_rfl)
 (.cons rfl oInt (by kernel_rfl) (.cons rfl oInt (by kernel_rfl) (.one rfl (Opens.slice 44 (t := 31) (e := 44) (by kernel_rfl) o44 (by kernel_rfl)) (by kernel_rfl)))))
theorem o24 : Opens k24 24 := Opens.iso _ (fun y => ⟨y⟩) (fun _ => rfl) (Opens.struct Try.underlying24 (by kernel_rfl)
 (.one rfl (Opens.slice 33 (t := 22) (e := 33) (by kernel_rfl) o33 (by kernel_rfl)) (by kernel_rfl)))
theorem open_mod {H : Type} {enc : TypeId × Value → H} {W : World} {r : Reach} {b0 : Nat} {v : Value} {d : DataW H} {p : List MemPlace} (hv : Value.okWide Try.prog W r b0 24 v) (h : DataW.Trod enc Try.prog W 0 (fun _ => true) true 24 v d p) :
  ∃ (A : Option Addr) (c : Nat) (l : List S33), v = .agg #[.slice A l.length c] ∧ Kd.C k33 W A l.length l ∧ l.length ≤ c := by
 obtain ⟨cs, rfl, hsz⟩ := Go.WideShapes.okWide_struct (t := 24) Try.underlying24 hv
 have hsz : cs.size = 1 := hsz.trans (by kernel_rfl)
 obtain ⟨c0, rfl⟩ : ∃ c0, cs = #[c0] := by
  obtain ⟨l⟩ := cs
  match l, hsz with
  | [c0], _ => exact ⟨c0, rfl⟩
 obtain ⟨fuel, hf⟩ := h
 obtain ⟨a, ha⟩ := o24 H enc W fuel _ _ hf
 obtain ⟨A, c, e, hc, hC⟩ := ha
 simp only [Value.cells] at e
 injection e with e _
 subst e
 exact ⟨A, c, a.f0, rfl, hC, hc⟩
end Go.Proofs.Ytjjcnbfmmhokeaa.X
namespace Go.Proofs.Ytjjcnbfmmhokeaa.callsGroups
open Go.ChangeShapes Go.WideShapes Go.ChangeAt Go.RowKit Go.Proofs.Ytjjcnbfmmhokeaa.X Go.Proofs.YtjjcnbfmmhokeaaW.PrintWords
set_option linter.all false
theorem own : ownKnob Try.prog.godebug = none := by kernel_rfl
theorem laidOut : laidOutB Try.prog = true := by kernel_rfl
set_option maxRecDepth 100000 in
theorem lifted (os : Os) (started : os.Started) (H : Type) (enc : TypeId × Value → H) :
  ReturnsInHanded {} Try.checked os 3 .any (Rows.callsGroupsSpec.pre6 enc Try.prog Try.f3 Rows.callsGroupsRow.domain false) (Rows.callsGroupsSpec.post enc Try.prog Try.f3 false true false false) := by
 refine returnsInHanded_of_change_sized (C := Try.checked) own started (by kernel_rfl) Try.func3
  (ChangeSpec.witness6 (enc := enc) (C := Try.checked) false ⟨#[], #[.agg #[.slice none 0 0]], []⟩ 8 (by kernel_rfl) (by kernel_rfl) (by kernel_rfl) (by kernel_rfl)) ?_
 intro W base args ds gs before hval0 hW hcnd hsz0 _
 have hval : ∀ (j : Nat) t v, Try.f3.params[j]? = some t → args[j]? = some v → Value.okWide Try.prog W .any base t v := hval0
 have hW' := hW
 obtain ⟨p, q, hA0, hV, rfl, hfz, hnd⟩ := hW
 have hA : DataW.TrodAll enc Try.prog W 0 (fun _ => true) true Try.f3.params.toList args.toList ds p := hA0
 rw [Try.params3] at hA hval
 obtain ⟨v0, vs0, d0, ds0, p0, q0, hargs, rfl, rfl, h0, r0⟩ := trodAll_cons hA
 obtain ⟨rfl, rfl, rfl⟩ := trodAll_nil r0
 obtain rfl : args = #[v0] := by cases args; simp_all
 obtain ⟨rfl, rfl⟩ := trodVars_none hV
 have k0 := h0
 have lt0 : ∀ x ∈ p0, x.block < W.heap.size := by obtain ⟨m, hm⟩ := k0; exact DataW.trod_lt m _ _ _ hm
 obtain ⟨A_0, c_0, l_0, rfl, hC_0, hc_0⟩ := open_mod (hval 0 24 v0 rfl rfl) h0
 clear hA0 hval0 hsz0
 obtain ⟨k, hk⟩ := Pure.CallsGroups l_0
 refine (davitlaw11_CallsGroups.calls k A_0 c_0 l_0 true W hC_0 hc_0 hk).mono fun e W' ⟨he, bel⟩ => ?_
 subst he
 exact ⟨_, rfl, _, _, _, [], _, [], hW', trodAll_mk1 (shut_bool Try.underlying4 _), (trodAll_cons_mk (Below.trod laidOut (by kernel_rfl) (of_decide_eq_true (by kernel_rfl)) k0 bel lt0) trodAll_mk0), rfl, bel.frame _, fun h => by cases h⟩
theorem over : Rows.callsGroupsRow.holds Try.pinned (OpenSpec.ofChange Rows.callsGroupsSpec) :=
 OpenClaim.holds_of_wide 3 Try.f3 rfl rfl rfl rfl rfl rfl rfl ⟨rfl, rfl, rfl, rfl, rfl⟩ rfl rfl rfl rfl rfl (by kernel_rfl) Try.func3 (by kernel_rfl)
  (of_decide_eq_true (by kernel_rfl)) (by unfold Func.isWrapper; first | (rw [if_pos (by decide +kernel)]; kernel_rfl) | (rw [if_neg (by decide +kernel)]; exact ⟨rfl, rfl⟩))
  (fun os started H enc _ => lifted os started H enc)
theorem proved : Rows.CallsGroupsSaid := over
#print axioms proved
end Go.Proofs.Ytjjcnbfmmhokeaa.callsGroups
namespace Go.Proofs.Ytjjcnbfmmhokeaa
theorem callsGroups_holds : Rows.CallsGroupsSaid := callsGroups.proved
end Go.Proofs.Ytjjcnbfmmhokeaa
