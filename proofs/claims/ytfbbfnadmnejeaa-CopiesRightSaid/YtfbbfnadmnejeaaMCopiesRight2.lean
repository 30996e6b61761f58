/- Part 3 of the proof of the statement CopiesRight: the words of the walks, the walks through the functions that it reaches, and the plain laws of what they compute. -/
import Derived.Test.YtfbbfnadmnejeaaMCopiesRight1
import Derived.Deep.Slices
import Derived.Lib.SmallJoins
import Derived.ChangeArms
import Derived.Test.YtfbbfnadmnejeaaRows
import Derived.WalkKit
import Derived.ProofKit
import Derived.OpenShut
import Derived.ShutString
import Derived.ChangeOld
import Derived.Below
import Derived.SizedLaws
import Derived.Carry
namespace Go.Proofs.Ytfbbfnadmnejeaa.G
open Go.Proofs.Ytfbbfnadmnejeaa.X Go.RowKit Go.Proofs.YtfbbfnadmnejeaaW.PrintWords
set_option linter.all false
theorem Evt.of_mono {α : Type} {g : Nat → Option α} {r : α} (hm : ∀ k, LeO (g k) (g (k + 1))) {k : Nat} (h : g k = some r) : Evt g r := by
 refine ⟨k, fun j hj => ?_⟩
 obtain ⟨d, rfl⟩ := Nat.exists_eq_add_of_le hj
 clear hj
 induction d with
 | zero => exact h
 | succ d ih => exact hm (k + d) _ ih
structure MayIs (l : List S34) : Prop where
 len : l.length ≤ 64
 pl : ∀ m ∈ l, (0 ≤ m.f0 ∧ m.f0 ≤ 65535) ∧ (0 ≤ m.f1 ∧ m.f1 ≤ 65535)
 nd : (ds l).Nodup
theorem placeB_iff (a : Int) : placeB a = true ↔ 0 ≤ a ∧ a ≤ 65535 := by unfold placeB; simp
theorem mayGo_iff : ∀ (l : List S34) (S : List Int), mayGo S l = true ↔ (∀ m ∈ l, (0 ≤ m.f0 ∧ m.f0 ≤ 65535) ∧ (0 ≤ m.f1 ∧ m.f1 ≤ 65535)) ∧ (ds l).Nodup ∧ ∀ m ∈ l, m.f0 ∉ S
 | [], S => by simp [mayGo, ds]
 | m :: r, S => by
  rw [mayGo]
  have ih := mayGo_iff r (m.f0 :: S)
  constructor
  ·intro h
   split at h
   ·rename_i hc
    obtain ⟨h1, h2, h3⟩ := ih.1 h
    refine ⟨fun x hx => ?_, ?_, fun x hx => ?_⟩
    ·rcases List.mem_cons.1 hx with rfl | hx
     ·exact ⟨(placeB_iff _).1 hc.1, (placeB_iff _).1 hc.2.1⟩
     ·exact h1 x hx
    ·simp only [ds, List.map_cons, List.nodup_cons]
     refine ⟨fun hin => ?_, h2⟩
     obtain ⟨x, hx, e⟩ := of_ds hin
     exact h3 x hx (by rw [e]; simp)
    ·rcases List.mem_cons.1 hx with rfl | hx
     ·exact hc.2.2
     ·exact fun hin => h3 x hx (List.mem_cons_of_mem _ hin)
   ·cases h
  ·rintro ⟨h1, h2, h3⟩
   simp only [ds, List.map_cons, List.nodup_cons] at h2
   rw [if_pos ⟨(placeB_iff _).2 (h1 m (by simp)).1, (placeB_iff _).2 (h1 m (by simp)).2, h3 m (by simp)⟩]
   refine ih.2 ⟨fun x hx => h1 x (by simp [hx]), h2.2, fun x hx hin => ?_⟩
   rcases List.mem_cons.1 hin with e | hin
   ·exact h2.1 (by rw [← e]; exact mem_ds hx)
   ·exact h3 x (by simp [hx]) hin
theorem mayL_iff (l : List S34) : mayL l = true ↔ MayIs l := by
 unfold mayL
 rw [Bool.and_eq_true, mayGo_iff, decide_eq_true_eq]
 exact ⟨fun ⟨⟨h1, h2, _⟩, h3⟩ => ⟨h3, h1, h2⟩, fun h => ⟨⟨h.pl, h.nd, fun _ _ => by simp⟩, h.len⟩⟩
theorem nd_iff (l : List S34) : (ds l).Nodup ↔ ∀ j, j < l.length → ∀ i, i < j → (l.getD i z34).f0 ≠ (l.getD j z34).f0 := by
 rw [ds, List.nodup_iff_pairwise_ne, List.pairwise_map, List.pairwise_iff_getElem]
 constructor
 ·intro h j hj i hi
  have := h i j (by omega) hj hi
  rwa [List.getD_eq_getElem?_getD, List.getD_eq_getElem?_getD, List.getElem?_eq_getElem hj, List.getElem?_eq_getElem (by omega)]
 ·intro h i j hi hj hij
  have := h j hj i hij
  rwa [List.getD_eq_getElem?_getD, List.getD_eq_getElem?_getD, List.getElem?_eq_getElem hj, List.getElem?_eq_getElem hi] at this
theorem refMay_inner (l : List S34) (i : Nat) (hi : i < l.length) (hl : l.length ≤ 1000) (r : Bool) (hdup : (∃ k, k < i ∧ (l.getD k z34).f0 = (l.getD i z34).f0) → r = false) (hn : (∀ k, k < i → (l.getD k z34).f0 ≠ (l.getD i z34).f0) → Evt (fun k => davitref20_May.l0 k l ((i : Int) + 1)) r) :
  ∀ (d k : Nat), k + d = i → (∀ j, j < k → (l.getD j z34).f0 ≠ (l.getD i z34).f0) → Evt (fun f => davitref20_May.l1 f l (i : Int) (k : Int)) r := by
 intro d
 induction d with
 | zero =>
  intro k hk hno
  obtain rfl : k = i := by omega
  refine Evt.succ (Evt.congr (hn hno) fun f => ?_)
  rw [davitref20_May.l1, if_neg (by omega), wrap_small _ (by omega) (by omega)]
 | succ d ih =>
  intro k hk hno
  by_cases e : (l.getD k z34).f0 = (l.getD i z34).f0
  ·obtain rfl := hdup ⟨k, by omega, e⟩
   refine Evt.succ (Evt.congr (Evt.pure _) fun f => ?_)
   rw [davitref20_May.l1, if_pos (by omega), if_pos (by omega), if_pos (by omega), if_pos (by omega), if_pos (by omega), rd_nat, rd_nat, if_pos e]
  ·have := ih (k + 1) (by omega) (fun j hj => by
    rcases Nat.lt_or_ge j k with h | h
    ·exact hno j h
    ·obtain rfl : j = k := by omega
     exact e)
   refine Evt.succ (Evt.congr this fun f => ?_)
   rw [davitref20_May.l1, if_pos (by omega), if_pos (by omega), if_pos (by omega), if_pos (by omega), if_pos (by omega), rd_nat, rd_nat, if_neg e, wrap_small _ (by omega) (by omega), show (((k + 1 : Nat)) : Int) = (k : Int) + 1 by omega]
theorem refMay_loop (l : List S34) (hl : l.length ≤ 1000) : ∀ (d i : Nat), i + d = l.length → i ≤ 64 → (∀ j, j < i → ((0 ≤ (l.getD j z34).f0 ∧ (l.getD j z34).f0 ≤ 65535) ∧ (0 ≤ (l.getD j z34).f1 ∧ (l.getD j z34).f1 ≤ 65535)) ∧ ∀ k, k < j → (l.getD k z34).f0 ≠ (l.getD j z34).f0) →
  Evt (fun f => davitref20_May.l0 f l (i : Int)) (mayL l) := by
 intro d
 induction d with
 | zero =>
  intro i hi h64 hp
  obtain rfl : i = l.length := by omega
  have : mayL l = true := (mayL_iff l).2 ⟨h64, fun m hm => by
   obtain ⟨j, hj, rfl⟩ := List.getElem_of_mem hm
   have := (hp j hj).1
   rwa [List.getD_eq_getElem?_getD, List.getElem?_eq_getElem hj] at this, (nd_iff l).2 fun j hj k hk => (hp j hj).2 k hk⟩
  rw [this]
  refine Evt.succ (Evt.congr (Evt.pure _) fun f => ?_)
  rw [davitref20_May.l0, if_neg (by omega)]
 | succ d ih =>
  intro i hi h64 hp
  have hil : i < l.length := by omega
  have bad : mayL l = false → Evt (fun f => davitref20_May.j1 f l (i : Int) true) (mayL l) := fun e => by
   rw [e]
   refine Evt.succ (Evt.congr (Evt.pure _) fun f => ?_)
   rw [davitref20_May.j1, if_pos rfl]
  have no : ¬ MayIs l → mayL l = false := fun h => by
   cases e : mayL l with
   | false => rfl
   | true => exact absurd ((mayL_iff l).1 e) h
  have hmem := getD_mem l i z34 hil
  by_cases h1 : 64 ≤ i
  ·refine Evt.succ (Evt.congr (bad (no fun h => by have := h.len; omega)) fun f => ?_)
   rw [davitref20_May.l0, if_pos (by omega), if_pos (by omega)]
  ·by_cases hpl : (0 ≤ (l.getD i z34).f0 ∧ (l.getD i z34).f0 ≤ 65535) ∧ (0 ≤ (l.getD i z34).f1 ∧ (l.getD i z34).f1 ≤ 65535)
   ·have good : Evt (fun f => davitref20_May.j1 f l (i : Int) false) (mayL l) := by
     have := refMay_inner l i hil hl (mayL l) (fun ⟨k, hk, e⟩ => no fun h => (nd_iff l).1 h.nd i hil k hk e) (fun hno => by
      have := ih (i + 1) (by omega) (by omega) (fun j hj => by
       rcases Nat.lt_or_ge j i with h | h
       ·exact hp j h
       ·obtain rfl : j = i := by omega
        exact ⟨hpl, hno⟩)
      rwa [show (((i + 1 : Nat)) : Int) = (i : Int) + 1 by omega] at this) i 0 (by omega) (fun j hj => by omega)
     refine Evt.succ (Evt.congr this fun f => ?_)
     rw [davitref20_May.j1, if_neg (by simp)]
     rfl
    refine Evt.succ (Evt.congr good fun f => ?_)
    rw [davitref20_May.l0, if_pos (by omega), if_neg (by omega), if_pos (by omega), rd_nat, if_neg (by omega), if_neg (by omega), if_neg (by omega), decide_eq_false (by omega)]
   ·have hb := bad (no fun h => hpl (h.pl _ hmem))
    refine Evt.succ (Evt.congr hb fun f => ?_)
    rw [davitref20_May.l0, if_pos (by omega), if_neg (by omega), if_pos (by omega), rd_nat]
    by_cases c1 : (l.getD i z34).f0 < 0
    ·rw [if_pos c1]
    ·rw [if_neg c1]
     by_cases c2 : (l.getD i z34).f0 > 65535
     ·rw [if_pos c2]
     ·rw [if_neg c2]
      by_cases c3 : (l.getD i z34).f1 < 0
      ·rw [if_pos c3]
      ·rw [if_neg c3, decide_eq_true (by omega)]
theorem refMay_ev (l : List S34) (hl : l.length ≤ 1000) : Evt (fun f => davitref20_May.f f l) (mayL l) := refMay_loop l hl l.length 0 (by omega) (by omega) (fun j hj => by omega)
def realL (l : List S34) : List S34 := l.filter fun m => !(m.f0 == m.f1)
theorem realL_mem {l : List S34} {m : S34} : m ∈ realL l ↔ m ∈ l ∧ m.f0 ≠ m.f1 := by unfold realL; rw [List.mem_filter]; simp
theorem ok_real {l : List S34} (h : MayIs l) : Ok (realL l) := by
 refine ⟨?_, fun m hm => (h.pl m (realL_mem.1 hm).1).1.1, fun m hm => (realL_mem.1 hm).2⟩
 exact h.nd.sublist (List.Sublist.map _ List.filter_sublist)
theorem row_ev (N : Nat) (l : List S34) (apart : Int) (h : MayIs l) (ha : apart ∉ ds (realL l)) : ∃ r c, RowIs N (realL l) apart r c ∧ Evt (fun k => copies_row.f k l apart) (r, (c : Int)) := by
 have hle : (realL l).length ≤ l.length := List.length_filter_le _ _
 have := h.len
 obtain ⟨r, c, h1, h2⟩ := row_loop N apart 64 (realL l) (by omega) (by omega) (ok_real h) ha [] 0 (by simp) (by omega) (by omega)
 refine ⟨r, c, h1, Evt.congr (r := (r, (c : Int))) (by rw [List.nil_append, Int.zero_add] at h2; exact h2) fun k => ?_⟩
 unfold copies_row.f copies_real.f
 rw [if_pos (by omega)]
 rfl
theorem rings_ev (l : List S34) (hl : l.length ≤ 1000) : Evt (fun k => copies_Rings.f k l) (if mayL l = true then ((cyc (realL l) : Nat) : Int) else 0) := by
 by_cases hm : mayL l = true
 ·rw [if_pos hm]
  have hM := (mayL_iff l).1 hm
  obtain ⟨r, c, h1, h2⟩ := row_ev 0 l (-1) hM (fun hin => by
   obtain ⟨m, hm, e⟩ := of_ds hin
   have := (hM.pl m (realL_mem.1 hm).1).1.1
   omega)
  refine Evt.congr (g' := fun k => (copies_row.f k l (-1)).bind fun p => some p.2) (Evt.bind h2 (by rw [h1.2.1]; exact Evt.pure _)) fun k => ?_
  unfold copies_Rings.f copies_May.f
  rw [if_pos (by omega), Option.bind_some, if_pos hm]
 ·rw [if_neg hm]
  refine Evt.congr (Evt.pure _) fun k => ?_
  unfold copies_Rings.f copies_May.f
  rw [if_pos (by omega), Option.bind_some, if_neg hm]
theorem from_ev (l : List S34) (p : Int) (hl : l.length ≤ 1000) : Evt (fun k => davitref20_from.f k l p) (frm l p) := by
 have key : ∀ (d i : Nat), i + d = l.length → Evt (fun k => davitref20_from.l0 k l p (i : Int)) (frm (l.drop i) p) := by
  intro d
  induction d with
  | zero =>
   intro i hi
   refine Evt.succ (Evt.congr (Evt.pure _) fun k => ?_)
   rw [davitref20_from.l0, if_neg (by omega), List.drop_of_length_le (by omega)]
   rfl
  | succ d ih =>
   intro i hi
   have hil : i < l.length := by omega
   rw [drop_at l i z34 hil, frm]
   by_cases e : (l.getD i z34).f0 = p
   ·rw [if_pos e]
    refine Evt.succ (Evt.congr (Evt.pure _) fun k => ?_)
    rw [davitref20_from.l0, if_pos (by omega), if_pos (by omega), rd_nat, if_pos e]
   ·rw [if_neg e]
    refine Evt.succ (Evt.congr (ih (i + 1) (by omega)) fun k => ?_)
    rw [davitref20_from.l0, if_pos (by omega), if_pos (by omega), rd_nat, if_neg e, wrap_small _ (by omega) (by omega), show (((i + 1 : Nat)) : Int) = (i : Int) + 1 by omega]
 exact key l.length 0 (by omega)
theorem least_bound {l : List S34} {m : S34} (hm : m ∈ l) (h0 : 0 ≤ m.f0) {t : Nat} (h1 : orb (frm l) m.f1 t = m.f0) (h2 : ∀ j, j < t → m.f0 < orb (frm l) m.f1 j) : t < l.length := by
 have dist : ∀ i j, i < j → j ≤ t → orb (frm l) m.f1 i ≠ orb (frm l) m.f1 j := by
  intro i j hij hjt e
  have h3 : orb (frm l) m.f1 (i + (t - j)) = m.f0 := by
   rw [orb_add, e, ← orb_add, show j + (t - j) = t by omega]; exact h1
  have := h2 (i + (t - j)) (by omega)
  omega
 have hn : ((List.range (t + 1)).map (orb (frm l) m.f1)).Nodup := by
  rw [List.nodup_iff_pairwise_ne, List.pairwise_map, List.pairwise_iff_getElem]
  intro i j hi hj hij
  simp only [List.length_range] at hi hj
  simp only [List.getElem_range]
  exact dist i j hij (by omega)
 have := hn.length_le_of_subset (l₂ := ss l) (fun x hx => by
  obtain ⟨j, hj, rfl⟩ := List.mem_map.1 hx
  have hj := List.mem_range.1 hj
  cases j with
  | zero => exact mem_ss hm
  | succ j =>
   rcases frm_mem l (orb (frm l) m.f1 j) with h | h
   ·exact h
   ·exfalso
    have e : orb (frm l) m.f1 (j + 1) = -1 := h
    rcases Nat.lt_or_ge (j + 1) t with h3 | h3
    ·have := h2 _ h3; omega
    ·have : j + 1 = t := by omega
     rw [this] at e; omega)
 simp [ss] at this
 omega
theorem refRings_inner (l : List S34) (i : Nat) (hi : i < l.length) (hl : l.length ≤ 1000) (n : Int) (hn0 : 0 ≤ n ∧ n ≤ 1000) (res : Int) (h0 : 0 ≤ (l.getD i z34).f0)
  (hyes : (l.getD i z34).f1 ≠ (l.getD i z34).f0 ∧ Least l (l.getD i z34) → Evt (fun k => davitref20_Rings.l0 k l (n + 1) ((i : Int) + 1)) res)
  (hno : ¬ ((l.getD i z34).f1 ≠ (l.getD i z34).f0 ∧ Least l (l.getD i z34)) → Evt (fun k => davitref20_Rings.l0 k l n ((i : Int) + 1)) res) :
  ∀ (d k : Nat) (lb : Bool), k + d = l.length → lb = decide (∀ j, j < k → (l.getD i z34).f0 < orb (frm l) (l.getD i z34).f1 j) → (∀ j, j < k → 0 ≤ orb (frm l) (l.getD i z34).f1 j ∧ orb (frm l) (l.getD i z34).f1 j ≠ (l.getD i z34).f0) →
   Evt (fun f => davitref20_Rings.l1 f l n (i : Int) (orb (frm l) (l.getD i z34).f1 k) lb (k : Int)) res := by
 obtain ⟨m, hm⟩ : ∃ m, m = l.getD i z34 := ⟨_, rfl⟩
 have hmem : m ∈ l := by rw [hm]; exact getD_mem l i z34 hi
 rw [← hm] at hyes hno h0 ⊢
 have w1 : wrap64 ((i : Int) + 1) = (i : Int) + 1 := wrap_small _ (by omega) (by omega)
 have w2 : wrap64 (n + 1) = n + 1 := wrap_small _ (by omega) (by omega)
 have stop : ∀ (k : Nat) (lb : Bool), lb = decide (∀ j, j < k → m.f0 < orb (frm l) m.f1 j) → (∀ j, j < k → 0 ≤ orb (frm l) m.f1 j ∧ orb (frm l) m.f1 j ≠ m.f0) → (k < l.length → orb (frm l) m.f1 k < 0 ∨ orb (frm l) m.f1 k = m.f0) →
   Evt (fun f => if orb (frm l) m.f1 k = m.f0 then (if m.f1 = m.f0 then davitref20_Rings.l0 f l n ((i : Int) + 1) else (if lb = true then davitref20_Rings.l0 f l (n + 1) ((i : Int) + 1) else davitref20_Rings.l0 f l n ((i : Int) + 1))) else davitref20_Rings.l0 f l n ((i : Int) + 1)) res := by
  intro k lb hlb hpre hst
  by_cases e : orb (frm l) m.f1 k = m.f0
  ·by_cases e2 : m.f1 = m.f0
   ·refine Evt.congr (hno fun h => h.1 e2) fun f => ?_
    rw [if_pos e, if_pos e2]
   ·cases lb with
    | true =>
     refine Evt.congr (hyes ⟨e2, k, e, of_decide_eq_true hlb.symm⟩) fun f => ?_
     rw [if_pos e, if_neg e2, if_pos rfl]
    | false =>
     refine Evt.congr (hno fun h => ?_) fun f => ?_
     ·obtain ⟨_, t, h1, h2⟩ := h
      refine of_decide_eq_false hlb.symm fun j hj => h2 j ?_
      rcases Nat.lt_or_ge j t with h3 | h3
      ·exact h3
      ·exact absurd h1 (hpre t (by omega)).2
     ·rw [if_pos e, if_neg e2, if_neg (by simp)]
  ·refine Evt.congr (hno fun h => ?_) fun f => by rw [if_neg e]
   obtain ⟨_, t, h1, h2⟩ := h
   have htb := least_bound hmem h0 h1 h2
   rcases Nat.lt_trichotomy t k with h3 | h3 | h3
   ·exact (hpre t h3).2 h1
   ·subst h3; exact e h1
   ·have h4 := h2 k h3
    rcases hst (by omega) with h5 | h5 <;> omega
 intro d
 induction d with
 | zero =>
  intro k lb hk hlb hpre
  have hs := stop k lb hlb hpre (fun h => by omega)
  refine Evt.succ (Evt.congr hs fun f => ?_)
  rw [davitref20_Rings.l1, if_neg (by omega), if_pos (by omega), if_pos (by omega), rd_nat, ← hm, w1, w2]
 | succ d ih =>
  intro k lb hk hlb hpre
  by_cases hneg : orb (frm l) m.f1 k ≥ 0
  ·by_cases e : orb (frm l) m.f1 k = m.f0
   ·have hs := stop k lb hlb hpre (fun _ => .inr e)
    refine Evt.succ (Evt.congr hs fun f => ?_)
    rw [davitref20_Rings.l1, if_pos (by omega), if_pos hneg, if_pos (by omega), if_pos (by omega), rd_nat, ← hm, w1, w2, if_pos e, if_pos e]
   ·have nx : ∀ lb2 : Bool, lb2 = decide (∀ j, j < k + 1 → m.f0 < orb (frm l) m.f1 j) → Evt (fun f => (davitref20_from.f f l (orb (frm l) m.f1 k)).bind fun t => davitref20_Rings.l1 f l n (i : Int) t lb2 ((k : Int) + 1)) res := by
     intro lb2 h2
     have := ih (k + 1) lb2 (by omega) h2 (fun j hj => by
      rcases Nat.lt_or_ge j k with h | h
      ·exact hpre j h
      ·obtain rfl : j = k := by omega
       exact ⟨hneg, e⟩)
     rw [show (((k + 1 : Nat)) : Int) = (k : Int) + 1 by omega] at this
     exact Evt.bind (from_ev l _ hl) this
    have wk : wrap64 ((k : Int) + 1) = (k : Int) + 1 := wrap_small _ (by omega) (by omega)
    cases lb with
    | true =>
     have hall := of_decide_eq_true hlb.symm
     refine Evt.succ (Evt.congr (nx (decide (orb (frm l) m.f1 k > m.f0)) (decide_eq_decide.2 ⟨fun h j hj => ?_, fun h => h k (by omega)⟩)) fun f => ?_)
     ·rcases Nat.lt_or_ge j k with h3 | h3
      ·exact hall j h3
      ·obtain rfl : j = k := by omega
       exact h
     ·rw [davitref20_Rings.l1, if_pos (by omega), if_pos hneg, if_pos (by omega), if_pos (by omega), rd_nat, ← hm, if_neg e, if_pos rfl, wk]
    | false =>
     have hnall := of_decide_eq_false hlb.symm
     refine Evt.succ (Evt.congr (nx false (Eq.symm (decide_eq_false fun h => hnall fun j hj => h j (by omega)))) fun f => ?_)
     rw [davitref20_Rings.l1, if_pos (by omega), if_pos hneg, if_pos (by omega), if_pos (by omega), rd_nat, ← hm, if_neg e, if_neg (by simp), wk]
  ·have hs := stop k lb hlb hpre (fun _ => .inl (by omega))
   refine Evt.succ (Evt.congr hs fun f => ?_)
   rw [davitref20_Rings.l1, if_pos (by omega), if_neg hneg, if_pos (by omega), if_pos (by omega), rd_nat, ← hm, w1, w2]
theorem least_real {l : List S34} (h : MayIs l) {m : S34} (hm : m ∈ l) (hr : m.f1 ≠ m.f0) : Least l m ↔ Least (realL l) m := by
 have h0 := (h.pl m hm).1.1
 have self : ∀ x ∈ l, x.f0 = x.f1 → frm l x.f0 = x.f0 := fun x hx e => by rw [frm_some h.nd hx, ← e]
 have same : ∀ p, (∀ x ∈ l, x.f0 = p → x.f0 ≠ x.f1) → frm (realL l) p = frm l p := fun p hp => frm_filter _ (fun x hx e => by simpa using hp x hx e)
 have gone : ∀ x ∈ l, x.f0 = x.f1 → frm (realL l) x.f0 = -1 := by
  intro x hx e
  refine frm_none fun hin => ?_
  obtain ⟨y, hy, ey⟩ := of_ds hin
  obtain ⟨hy1, hy2⟩ := realL_mem.1 hy
  have e1 := frm_some h.nd hx
  have e2 := frm_some h.nd hy1
  rw [ey, e1] at e2
  exact hy2 (by rw [ey, e, e2])
 have minus : frm (realL l) (-1) = -1 := frm_none fun hin => by
  obtain ⟨y, hy, ey⟩ := of_ds hin
  have := (h.pl y (realL_mem.1 hy).1).1.1
  omega
 have stuckM : ∀ (p : Int) (j d : Nat), orb (frm (realL l)) p j = -1 → orb (frm (realL l)) p (j + d) = -1 := by
  intro p j d e
  induction d with
  | zero => exact e
  | succ d ih => show frm _ (orb (frm (realL l)) p (j + d)) = -1; rw [ih]; exact minus
 have stuckS : ∀ (p : Int) (j d : Nat) (x : S34), x ∈ l → x.f0 = x.f1 → orb (frm l) p j = x.f0 → orb (frm l) p (j + d) = x.f0 := by
  intro p j d x hx e1 e
  induction d with
  | zero => exact e
  | succ d ih => show frm _ (orb (frm l) p (j + d)) = _; rw [ih]; exact self x hx e1
 constructor
 ·rintro ⟨t, h1, h2⟩
  have eq : ∀ j, j ≤ t → orb (frm (realL l)) m.f1 j = orb (frm l) m.f1 j := by
   intro j
   induction j with
   | zero => intro _; rfl
   | succ j ih =>
    intro hj
    show frm _ _ = frm _ _
    rw [ih (by omega)]
    refine same _ fun x hx e1 e2 => ?_
    have e3 := stuckS m.f1 j (t - j) x hx e2 e1.symm
    rw [show j + (t - j) = t by omega, h1] at e3
    have := h2 j (by omega)
    omega
  exact ⟨t, by rw [eq t (Nat.le_refl _)]; exact h1, fun j hj => by rw [eq j (by omega)]; exact h2 j hj⟩
 ·rintro ⟨t, h1, h2⟩
  have eq : ∀ j, j ≤ t → orb (frm (realL l)) m.f1 j = orb (frm l) m.f1 j := by
   intro j
   induction j with
   | zero => intro _; rfl
   | succ j ih =>
    intro hj
    show frm _ _ = frm _ _
    rw [← ih (by omega)]
    refine same _ fun x hx e1 e2 => ?_
    have e3 : orb (frm (realL l)) m.f1 (j + 1) = -1 := by
     show frm _ _ = -1
     rw [← e1]; exact gone x hx e2
    have e4 := stuckM m.f1 (j + 1) (t - (j + 1)) e3
    rw [show j + 1 + (t - (j + 1)) = t by omega, h1] at e4
    omega
  exact ⟨t, by rw [← eq t (Nat.le_refl _)]; exact h1, fun j hj => by rw [← eq j (by omega)]; exact h2 j hj⟩
theorem countP_filter' {α : Type} (p q : α → Bool) (l : List α) : (l.filter p).countP q = l.countP (fun x => p x && q x) := by
 rw [List.countP_filter]
 refine List.countP_congr fun x _ => by simp [Bool.and_comm]
open Classical in
theorem refRings_ev (l : List S34) (hl : l.length ≤ 1000) : Evt (fun k => davitref20_Rings.f k l) (if mayL l = true then ((cyc (realL l) : Nat) : Int) else 0) := by
 by_cases hm : mayL l = true
 ·rw [if_pos hm]
  have hM := (mayL_iff l).1 hm
  have key : ∀ (d i : Nat), i + d = l.length → Evt (fun k => davitref20_Rings.l0 k l (((l.take i).countP (fun m => decide (m.f1 ≠ m.f0 ∧ Least l m)) : Nat) : Int) (i : Int)) ((l.countP (fun m => decide (m.f1 ≠ m.f0 ∧ Least l m)) : Nat) : Int) := by
   intro d
   induction d with
   | zero =>
    intro i hi
    refine Evt.succ (Evt.congr (Evt.pure _) fun k => ?_)
    rw [davitref20_Rings.l0, if_neg (by omega), List.take_of_length_le (by omega)]
   | succ d ih =>
    intro i hi
    have hil : i < l.length := by omega
    have nx := ih (i + 1) (by omega)
    rw [take_one l i z34 hil, List.countP_append, List.countP_singleton, show (((i + 1 : Nat)) : Int) = (i : Int) + 1 by omega] at nx
    have hc : (l.take i).countP (fun m => decide (m.f1 ≠ m.f0 ∧ Least l m)) ≤ i := Nat.le_trans List.countP_le_length (by simp; omega)
    have := refRings_inner l i hil hl ((((l.take i).countP (fun m => decide (m.f1 ≠ m.f0 ∧ Least l m)) : Nat)) : Int) ⟨by omega, by omega⟩ _ (hM.pl _ (getD_mem l i z34 hil)).1.1 (fun hy => by
     rw [if_pos (by simpa using hy)] at nx
     rw [Int.natCast_add] at nx
     exact nx) (fun hno => by
     rw [if_neg (by simpa using hno), Nat.add_zero] at nx
     exact nx) l.length 0 true (by omega) (by simp) (fun j hj => by omega)
    refine Evt.succ (Evt.congr this fun k => ?_)
    rw [davitref20_Rings.l0, if_pos (by omega), if_pos (by omega), rd_nat]
    rfl
  have hcount : cyc (realL l) = l.countP (fun m => decide (m.f1 ≠ m.f0 ∧ Least l m)) := by
   unfold cyc realL
   rw [countP_filter']
   refine List.countP_congr fun x hx => ?_
   by_cases e : x.f1 = x.f0
   ·simp [e]
   ·have e' : ¬ x.f0 = x.f1 := fun h => e h.symm
    have := least_real hM hx e
    unfold realL at this
    simp [e, e', this]
  rw [hcount]
  refine Evt.congr (g' := fun k => (davitref20_May.f k l).bind fun t => if t = true then davitref20_Rings.l0 k l 0 0 else some 0) (Evt.bind (refMay_ev l hl) ?_) fun k => rfl
  have h0 := key l.length 0 (by omega)
  refine Evt.congr h0 fun k => ?_
  rw [if_pos hm]
  rfl
 ·rw [if_neg hm]
  refine Evt.congr (g' := fun k => (davitref20_May.f k l).bind fun t => if t = true then davitref20_Rings.l0 k l 0 0 else some 0) (Evt.bind (refMay_ev l hl) ?_) fun k => rfl
  refine Evt.congr (Evt.pure _) fun k => ?_
  rw [if_neg hm]
end Go.Proofs.Ytfbbfnadmnejeaa.G
namespace Go.Proofs.Ytfbbfnadmnejeaa.G
open Go.Proofs.Ytfbbfnadmnejeaa.X Go.RowKit Go.Proofs.YtfbbfnadmnejeaaW.PrintWords
set_option linter.all false
theorem rd_wd (w : List Int) (p : Int) (h : 0 ≤ p ∧ p < (w.length : Int)) : rd w p = wd w p := by unfold wd rd; rw [if_pos h]
theorem put_set (w : List Int) (p v : Int) (h : 0 ≤ p ∧ p < (w.length : Int)) : w.set p.toNat v = put w p v := by unfold put; rw [if_pos h]
theorem put_none (w : List Int) (p v : Int) (h : ¬ (0 ≤ p ∧ p < (w.length : Int))) : put w p v = w := by unfold put; rw [if_neg h]
theorem wd_none (w : List Int) (p : Int) (h : ¬ (0 ≤ p ∧ p < (w.length : Int))) : wd w p = 0 := by unfold wd; rw [if_neg h]
theorem madeJ (l : List S34) (w : List Int) (n i : Int) (m : S34) (b : Bool) (res : List Int) (hb : b = decide (0 ≤ m.f1 ∧ m.f1 < (w.length : Int))) (hi : wrap64 (i + 1) = i + 1)
  (h : Evt (fun k => copies_Made.l0 k (put w m.f0 (wd w m.f1)) l n (i + 1)) res) : Evt (fun k => copies_Made.j1 k w 0 l n i b m.f0 m.f1) res := by
 refine Evt.succ (Evt.congr h fun k => ?_)
 rw [copies_Made.j1, hi]
 by_cases h1 : 0 ≤ m.f1 ∧ m.f1 < (w.length : Int)
 ·rw [if_pos (by rw [hb]; exact decide_eq_true h1), if_pos h1.1, if_pos h1.2, rd_wd w _ h1]
  by_cases h2 : 0 ≤ m.f0 ∧ m.f0 < (w.length : Int)
  ·rw [if_pos h2.1, if_pos h2.2, if_pos h2.1, put_set _ _ _ h2]
  ·rw [put_none _ _ _ h2]
   by_cases h3 : m.f0 ≥ 0
   ·rw [if_pos h3, if_neg (by omega)]
   ·rw [if_neg h3]
 ·rw [if_neg (by rw [hb]; simpa using h1), wd_none _ _ h1]
  by_cases h2 : 0 ≤ m.f0 ∧ m.f0 < (w.length : Int)
  ·rw [if_pos h2.1, if_pos h2.2, if_pos h2.1, put_set _ _ _ h2]
  ·rw [put_none _ _ _ h2]
   by_cases h3 : m.f0 ≥ 0
   ·rw [if_pos h3, if_neg (by omega)]
   ·rw [if_neg h3]
theorem made_ev (l : List S34) (w : List Int) (hl : l.length ≤ 1000) (hw : w.length ≤ 1000) : Evt (fun k => copies_Made.f k l w) (made l w) := by
 have key : ∀ (d i : Nat) (w : List Int), i + d = l.length → Evt (fun k => copies_Made.l0 k w l (l.length : Int) (i : Int)) (made (l.drop i) w) := by
  intro d
  induction d with
  | zero =>
   intro i w hi
   refine Evt.succ (Evt.congr (Evt.pure _) fun k => ?_)
   rw [copies_Made.l0, if_neg (by omega), List.drop_of_length_le (by omega)]
   rfl
  | succ d ih =>
   intro i w hi
   have hil : i < l.length := by omega
   rw [drop_at l i z34 hil, made]
   have nx := ih (i + 1) (put w (l.getD i z34).f0 (wd w (l.getD i z34).f1)) (by omega)
   rw [show (((i + 1 : Nat)) : Int) = (i : Int) + 1 by omega] at nx
   have hw1 : wrap64 ((i : Int) + 1) = (i : Int) + 1 := wrap_small _ (by omega) (by omega)
   by_cases h1 : (l.getD i z34).f1 ≥ 0
   ·refine Evt.succ (Evt.congr (madeJ l w _ _ (l.getD i z34) (decide ((l.getD i z34).f1 < (w.length : Int))) _ (decide_eq_decide.2 ⟨fun h => ⟨h1, h⟩, fun h => h.2⟩) hw1 nx) fun k => ?_)
    rw [copies_Made.l0, if_pos (by omega), if_pos (by omega), if_pos (by omega), rd_nat, if_pos h1]
   ·refine Evt.succ (Evt.congr (madeJ l w _ _ (l.getD i z34) false _ (decide_eq_false (fun h => h1 h.1)).symm hw1 nx) fun k => ?_)
    rw [copies_Made.l0, if_pos (by omega), if_pos (by omega), if_pos (by omega), rd_nat, if_neg h1]
 refine Evt.congr (key l.length 0 w (by omega)) fun k => ?_
 unfold copies_Made.f slices_Clone_uint16_uint16.f
 rw [if_pos (by omega)]
 rfl
theorem at_ev (w : List Int) (p : Int) : davitref20_At.f w p = some (wd w p) := by
 unfold davitref20_At.f
 by_cases h1 : p < 0
 ·rw [if_pos h1, wd_none _ _ (by omega)]
 ·rw [if_neg h1]
  by_cases h2 : p ≥ (w.length : Int)
  ·rw [if_pos h2, wd_none _ _ (by omega)]
  ·rw [if_neg h2, if_pos (by omega), if_pos (by omega), rd_wd _ _ (by omega)]
theorem once_ev (l : List S34) (w : List Int) (hl : l.length ≤ 1000) (hw : w.length ≤ 1000) : Evt (fun k => davitref20_Once.f k l w) (once l w) := by
 have key : ∀ (d i : Nat) (out : List Int), i + d = l.length → Evt (fun k => davitref20_Once.l0 k l w out (i : Int)) (onceGo w (l.drop i) out) := by
  intro d
  induction d with
  | zero =>
   intro i out hi
   refine Evt.succ (Evt.congr (Evt.pure _) fun k => ?_)
   rw [davitref20_Once.l0, if_neg (by omega), List.drop_of_length_le (by omega)]
   rfl
  | succ d ih =>
   intro i out hi
   have hil : i < l.length := by omega
   rw [drop_at l i z34 hil, onceGo]
   have nx := ih (i + 1) (put out (l.getD i z34).f0 (wd w (l.getD i z34).f1)) (by omega)
   rw [show (((i + 1 : Nat)) : Int) = (i : Int) + 1 by omega] at nx
   have hw1 : wrap64 ((i : Int) + 1) = (i : Int) + 1 := wrap_small _ (by omega) (by omega)
   refine Evt.succ (Evt.congr nx fun k => ?_)
   rw [davitref20_Once.l0, if_pos (by omega), if_pos (by omega), rd_nat, hw1]
   by_cases h2 : 0 ≤ (l.getD i z34).f0 ∧ (l.getD i z34).f0 < (out.length : Int)
   ·rw [if_pos h2.1, if_pos h2.2, at_ev, Option.bind_some, if_pos h2.1, put_set _ _ _ h2]
   ·rw [put_none _ _ _ h2]
    by_cases h3 : (l.getD i z34).f0 ≥ 0
    ·rw [if_pos h3, if_neg (by omega)]
    ·rw [if_neg h3]
 refine Evt.congr (key l.length 0 w (by omega)) fun k => ?_
 unfold davitref20_Once.f
 rw [Option.bind_some, if_pos (by simp; omega), List.nil_append]
 rfl
theorem refMade_ev (l : List S34) (w : List Int) (hl : l.length ≤ 1000) (hw : w.length ≤ 1000) : Evt (fun k => davitref20_Made.f k l w) (made l w) := by
 have key : ∀ (d i : Nat) (w : List Int), w.length ≤ 1000 → i + d = l.length → Evt (fun k => davitref20_Made.l0 k l w (i : Int)) (made (l.drop i) w) := by
  intro d
  induction d with
  | zero =>
   intro i w hw hi
   refine Evt.succ (Evt.congr (Evt.pure _) fun k => ?_)
   rw [davitref20_Made.l0, if_neg (by omega), List.drop_of_length_le (by omega)]
   rfl
  | succ d ih =>
   intro i w hw hi
   have hil : i < l.length := by omega
   rw [drop_at l i z34 hil, made]
   have nx := ih (i + 1) (put w (l.getD i z34).f0 (wd w (l.getD i z34).f1)) (by rw [put_len]; exact hw) (by omega)
   rw [show (((i + 1 : Nat)) : Int) = (i : Int) + 1 by omega] at nx
   have hw1 : wrap64 ((i : Int) + 1) = (i : Int) + 1 := wrap_small _ (by omega) (by omega)
   have hc : (l.take (i + 1)).drop i = [l.getD i z34] := by
    rw [take_one l i z34 hil, List.drop_append, List.drop_of_length_le (by simp; omega), List.nil_append]
    simp [List.length_take]
    rw [Nat.min_eq_left (by omega), Nat.sub_self]; rfl
   have ho := once_ev [l.getD i z34] w (by simp) hw
   refine Evt.succ (Evt.congr (Evt.bind (h := fun k t => davitref20_Made.l0 k l t ((i : Int) + 1)) ho nx) fun k => ?_)
   rw [davitref20_Made.l0, if_pos (by omega), if_pos (by omega), hw1, if_pos (by omega), if_pos (by omega), Int.toNat_natCast, show ((i : Int) + 1).toNat = i + 1 by omega, hc]
 exact key l.length 0 w hw (by omega)
theorem words_ev (a : List Int) (ha : a.length ≤ 1000) : Evt (fun k => davitref06_Words.f k a a) true := by
 have key : ∀ (d i : Nat), i + d = a.length → Evt (fun k => davitref06_Words.l0 k a a (i : Int)) true := by
  intro d
  induction d with
  | zero =>
   intro i hi
   refine Evt.succ (Evt.congr (Evt.pure _) fun k => ?_)
   rw [davitref06_Words.l0, if_neg (by omega)]
  | succ d ih =>
   intro i hi
   refine Evt.succ (Evt.congr (ih (i + 1) (by omega)) fun k => ?_)
   rw [davitref06_Words.l0, if_pos (by omega), if_pos (by omega), if_pos (by omega), if_pos rfl, wrap_small _ (by omega) (by omega), show (((i + 1 : Nat)) : Int) = (i : Int) + 1 by omega]
 refine Evt.congr (key a.length 0 (by omega)) fun k => ?_
 unfold davitref06_Words.f
 rw [if_pos rfl]
 rfl
theorem awake_ev : Evt (fun k => davitlaw20_awake.f k) true := Evt.of_mono (fun k => davitlaw20_awake.mono k) (k := 40) (by decide +kernel)
end Go.Proofs.Ytfbbfnadmnejeaa.G
namespace Go.Proofs.Ytfbbfnadmnejeaa.Pure
open Go.RowKit Go.Proofs.Ytfbbfnadmnejeaa.X Go.Proofs.Ytfbbfnadmnejeaa.G Go.Proofs.YtfbbfnadmnejeaaW.PrintWords
set_option linter.all false
theorem CopiesRight (l : List S34) (w : List Int) : ∃ k, davitlaw20_CopiesRight.f k l w = some true := by
 refine Evt.ex (Evt.congr (g' := fun k => (davitlaw20_awake.f k).bind fun t => if t = true then (if (l.length : Int) > 80 then davitlaw20_CopiesRight.j0 k l w true else davitlaw20_CopiesRight.j0 k l w (decide ((w.length : Int) > 100))) else some false) (Evt.bind awake_ev ?_) fun k => rfl)
 by_cases h : l.length ≤ 80 ∧ w.length ≤ 100
 ·have h1 := rings_ev l (by omega)
  have h2 := refRings_ev l (by omega)
  have h3 := made_ev l w (by omega) (by omega)
  have h4 := refMade_ev l w (by omega) (by omega)
  have h5 := words_ev (made l w) (by rw [made_len]; omega)
  refine Evt.congr (g' := fun k => davitlaw20_CopiesRight.j0 k l w false) (Evt.succ ?_) fun k => by
   rw [if_pos rfl, if_neg (by omega), decide_eq_false (by omega)]
  refine Evt.congr (g' := fun k => (davitref20_May.f (k) l).bind fun t195 => (if (mayL l == t195) = true then ((copies_Rings.f k l).bind fun t196 => ((davitref20_Rings.f k l).bind fun t197 => (if t196 = t197 then ((copies_Made.f k l w).bind fun t198 => ((davitref20_Made.f k l w).bind fun t201 => ((davitref06_Words.f k t198 t201).bind fun t204 => (some t204)))) else (some false)))) else (some false))) ?_ fun k => by
   rw [davitlaw20_CopiesRight.j0, if_neg (by simp)]
   unfold copies_May.f
   rw [if_pos (by omega), Option.bind_some]
  refine Evt.bind (refMay_ev l (by omega)) ?_
  refine Evt.congr ?_ fun k => by rw [if_pos (by simp)]
  refine Evt.bind h1 (Evt.bind h2 ?_)
  refine Evt.congr ?_ fun k => by rw [if_pos rfl]
  exact Evt.bind h3 (Evt.bind h4 (Evt.bind h5 (Evt.pure _)))
 ·refine Evt.congr (g' := fun k => davitlaw20_CopiesRight.j0 k l w true) (Evt.succ (Evt.congr (Evt.pure _) fun k => by rw [davitlaw20_CopiesRight.j0, if_pos rfl])) fun k => ?_
  rw [if_pos rfl]
  by_cases h2 : (l.length : Int) > 80
  ·rw [if_pos h2]
  ·rw [if_neg h2, decide_eq_true (by omega)]
end Go.Proofs.Ytfbbfnadmnejeaa.Pure
namespace Go.Proofs.Ytfbbfnadmnejeaa.X
open Go.ChangeShapes Go.WideShapes Go.ChangeAt Go.RowKit Go.Proofs.YtfbbfnadmnejeaaW.PrintWords Go.Proofs.YtfbbfnadmnejeaaW.PrintLast Go.Proofs.YtfbbfnadmnejeaaW.PrintMore
set_option linter.all false
def Opens {α : Type} (d : Kd α) (t : TypeId) : Prop := ∀ (H : Type) (enc : TypeId × Value → H) (w : World) (fuel : Nat) (cs : List Value) (x : DataW H × List MemPlace),
 DataW.trod enc Try.prog w 0 (fun _ => true) true fuel t cs = some x → ∃ a, d.K w a cs
theorem Opens.int {k : IntKind} {t : TypeId} (ht : Try.prog.underlying t = some (.int k)) : Opens (Kd.int k) t := fun H enc w fuel cs x h => by
 obtain ⟨n, rfl, _⟩ := DataW.trod_int ht h
 exact ⟨n, rfl⟩
theorem Opens.bool {t : TypeId} (ht : Try.prog.underlying t = some .bool) : Opens Kd.bool t := fun H enc w fuel cs x h => by
 obtain ⟨n, rfl, _⟩ := DataW.trod_bool ht h
 exact ⟨n, rfl⟩
theorem Opens.slice {α : Type} {d : Kd α} {t e : TypeId} (e' : Nat) (ht : Try.prog.underlying t = some (.slice e)) (hd : Opens d e) (hs : d.sz = Try.prog.cellsOf e) : Opens (Kd.slice e' d) t := fun H enc w fuel cs x h => by
 rcases Go.Deep.open_slice ht h with ⟨rfl, _⟩ | ⟨a, len, cap, m, n, D, Pl, rfl, _, hl, hm, hmm, _, hx⟩
 ·exact ⟨[], none, 0, rfl, Nat.le_refl _, ⟨rfl, by simp, fun h => absurd h (by simp)⟩⟩
 ·have hlm : len ≤ m := by rw [hmm]; split <;> omega
  have key : ∀ j, j ≤ len → ∃ xs : List α, xs.length = j ∧ ∀ i p, xs[i]? = some p → ∃ c, c.length = d.sz ∧ d.K w p c ∧ ∀ q u, c[q]? = some u → w.cell? (a.add (i * d.sz + q)) = some u := by
   intro j
   induction j with
   | zero => exact fun _ => ⟨[], rfl, fun i p h => by simp at h⟩
   | succ j ih =>
    intro hj
    obtain ⟨xs, h1, h2⟩ := ih (by omega)
    obtain ⟨cs', h3, h4⟩ := hx j (by omega)
    obtain ⟨p, hp⟩ := hd H enc w n cs' _ h4
    obtain ⟨_, h5, h6⟩ := World.cells?_some h3
    refine ⟨xs ++ [p], by simp [h1], fun i q hq => ?_⟩
    by_cases hi : i < j
    ·rw [List.getElem?_append_left (by omega)] at hq
     exact h2 i q hq
    ·have hi' : i = j := by
      have := (List.getElem?_eq_some_iff.1 hq).1
      simp [h1] at this; omega
     subst hi'
     rw [List.getElem?_append_right (by omega), h1, Nat.sub_self] at hq
     simp at hq
     subst hq
     refine ⟨cs', by rw [h5, hs], hp, fun z u hz => ?_⟩
     have hzl := (List.getElem?_eq_some_iff.1 hz).1
     have := h6 z (by omega)
     rw [Go.Deep.add_add, ← hs] at this
     rw [this, hz]
  obtain ⟨xs, h1, h2⟩ := key len (Nat.le_refl _)
  have hmx : maxLen ≤ 9223372036854775807 := by decide
  exact ⟨xs, some a, cap, by rw [h1], by rw [h1]; exact hl, ⟨rfl, by omega, fun _ => ⟨a, rfl, h2⟩⟩⟩
theorem Opens.iso {α β : Type} {d : Kd α} {t : TypeId} (f : β → α) (g : α → β) (hg : ∀ y, f (g y) = y) (h : Opens d t) : Opens (Kd.iso d f) t := fun H enc w fuel cs x hx => by
 obtain ⟨a, ha⟩ := h H enc w fuel cs x hx
 exact ⟨g a, show d.K w (f (g a)) cs by rw [hg]; exact ha⟩
def OpensF {α : Type} (d : Kd α) (fs : List Field) (off : Nat) : Prop := ∀ (H : Type) (enc : TypeId × Value → H) (w : World) (n : Nat) (cs : List Value), cs.length = off + d.sz →
 (∀ f ∈ fs, ∃ y, DataW.trod enc Try.prog w 0 (fun _ => true) true n f.type ((cs.drop f.offset).take (Try.prog.cellsOf f.type)) = some y) → ∃ a, d.K w a (cs.drop off)
theorem OpensF.one {α : Type} {d : Kd α} {f : Field} {off : Nat} (ho : f.offset = off) (hd : Opens d f.type) (hs : Try.prog.cellsOf f.type = d.sz) : OpensF d [f] off := fun H enc w n cs hl h => by
 obtain ⟨y, hy⟩ := h f (List.mem_cons_self ..)
 rw [ho, hs, List.take_of_length_le (by rw [List.length_drop]; omega)] at hy
 exact hd H enc w n _ _ hy
theorem OpensF.cons {α β : Type} {d : Kd α} {d2 : Kd β} {f : Field} {fs : List Field} {off : Nat} (ho : f.offset = off) (hd : Opens d f.type) (hs : Try.prog.cellsOf f.type = d.sz) (h2 : OpensF d2 fs (off + d.sz)) : OpensF (Kd.pair d d2) (f :: fs) off := fun H enc w n cs hl h => by
 obtain ⟨y, hy⟩ := h f (List.mem_cons_self ..)
 rw [ho, hs] at hy
 obtain ⟨a, ha⟩ := hd H enc w n _ _ hy
 have hl' : cs.length = off + (d.sz + d2.sz) := hl
 obtain ⟨b, hb⟩ := h2 H enc w n cs (by omega) fun g hg => h g (List.mem_cons_of_mem _ hg)
 refine ⟨(a, b), _, _, ?_, ha, hb⟩
 rw [show cs.drop (off + d.sz) = (cs.drop off).drop d.sz by rw [List.drop_drop], List.take_append_drop]
theorem Opens.struct {α : Type} {d : Kd α} {t : TypeId} {fs : Array Field} (ht : Try.prog.underlying t = some (.struct fs)) (hs : Try.prog.cellsOf t = d.sz) (h : OpensF d fs.toList 0) : Opens d t := fun H enc w fuel cs x hx => by
 obtain ⟨xs, n, _, _, hl, hlen, hf⟩ := DataW.trod_struct ht hx
 have := h H enc w n cs (by omega) fun f hm => by
  obtain ⟨i, hi, e⟩ := List.getElem_of_mem hm
  have hi' : i < fs.size := by simpa using hi
  have := hf i f (by rw [← e]; simp [hi'])
  rw [this, List.getElem?_eq_getElem (by omega)]
  exact ⟨_, rfl⟩
 simpa using this
theorem open_sl {α : Type} {d : Kd α} {t e e' : TypeId} (ht : Try.prog.underlying t = some (.slice e)) (ho : Opens (Kd.slice e' d) t) {H : Type} {enc : TypeId × Value → H} {W : World} {r : Reach} {b0 : Nat} {v : Value} {dd : DataW H} {p : List MemPlace} (hv : Value.okWide Try.prog W r b0 t v) (h : DataW.Trod enc Try.prog W 0 (fun _ => true) true t v dd p) :
  ∃ (A : Option Addr) (c : Nat) (l : List α), v = .slice A l.length c ∧ Kd.C d W A l.length l ∧ l.length ≤ c := by
 obtain ⟨A, n, c, rfl⟩ := okWide_slice ht hv
 obtain ⟨fuel, hf⟩ := h
 obtain ⟨l, A', c', e, hc, hC⟩ := ho H enc W fuel _ _ hf
 simp only [Value.cells] at e
 injection e with e _
 injection e with e1 e2 e3
 subst e1
 subst e2
 subst e3
 exact ⟨A, c, l, rfl, hC, hc⟩
end Go.Proofs.Ytfbbfnadmnejeaa.X
namespace Go.Proofs.Ytfbbfnadmnejeaa.X
open Go.RowKit Go.Proofs.YtfbbfnadmnejeaaW.PrintWords Go.Proofs.YtfbbfnadmnejeaaW.PrintLast Go.Proofs.YtfbbfnadmnejeaaW.PrintMore
set_option linter.all false
set_option maxRecDepth 100000
theorem oInt : Opens (Kd.int .i64) 3 := Opens.int Try.underlying3
theorem o34 : Opens k34 34 := Opens.iso _ (fun y => ⟨y.1, y.2⟩) (fun _ => rfl) (Opens.struct Try.underlying34 (by kernel_rfl) (.cons rfl oInt (by kernel_rfl) (.one rfl oInt (by kernel_rfl))))
theorem oMoves : Opens (Kd.slice 34 k34) 22 := Opens.slice 34 Try.underlying22 o34 (by kernel_rfl)
theorem oWords : Opens (Kd.slice 35 (Kd.int .u16)) 23 := Opens.slice 35 Try.underlying23 (Opens.int (by kernel_rfl)) (by kernel_rfl)
end Go.Proofs.Ytfbbfnadmnejeaa.X
namespace Go.Proofs.Ytfbbfnadmnejeaa.copiesRight
open Go.ChangeShapes Go.WideShapes Go.ChangeAt Go.RowKit Go.Proofs.Ytfbbfnadmnejeaa.X Go.Proofs.YtfbbfnadmnejeaaW.PrintWords
set_option linter.all false
theorem own : ownKnob Try.prog.godebug = none := by kernel_rfl
theorem laidOut : laidOutB Try.prog = true := by kernel_rfl
set_option maxRecDepth 100000 in
theorem lifted (os : Os) (started : os.Started) (H : Type) (enc : TypeId × Value → H) :
  ReturnsInHanded {} Try.checked os 3 .any (Rows.copiesRightSpec.pre6 enc Try.prog Try.f3 Rows.copiesRightRow.domain false) (Rows.copiesRightSpec.post enc Try.prog Try.f3 false true false false) := by
 refine returnsInHanded_of_change_sized (C := Try.checked) own started (by kernel_rfl) Try.func3
  (ChangeSpec.witness6 (enc := enc) (C := Try.checked) false ⟨#[], #[.slice none 0 0, .slice none 0 0], []⟩ 8 (by kernel_rfl) (by kernel_rfl) (by kernel_rfl) (by kernel_rfl)) ?_
 intro W base args ds gs before hval0 hW hcnd hsz0 _
 have hval : ∀ (j : Nat) t v, Try.f3.params[j]? = some t → args[j]? = some v → Value.okWide Try.prog W .any base t v := hval0
 have hW' := hW
 obtain ⟨p, q, hA0, hV, rfl, hfz, hnd⟩ := hW
 have hA : DataW.TrodAll enc Try.prog W 0 (fun _ => true) true Try.f3.params.toList args.toList ds p := hA0
 rw [Try.params3] at hA hval
 obtain ⟨v0, vs0, d0, ds0, p0, q0, hargs, rfl, rfl, h0, r0⟩ := trodAll_cons hA
 obtain ⟨v1, vs1, d1, ds1, p1, q1, rfl, rfl, rfl, h1, r1⟩ := trodAll_cons r0
 obtain ⟨rfl, rfl, rfl⟩ := trodAll_nil r1
 obtain rfl : args = #[v0, v1] := by cases args; simp_all
 obtain ⟨rfl, rfl⟩ := trodVars_none hV
 have k0 := h0
 have lt0 : ∀ x ∈ p0, x.block < W.heap.size := by obtain ⟨m, hm⟩ := k0; exact DataW.trod_lt m _ _ _ hm
 obtain ⟨A0, c0, l0, rfl, hr0, hc0⟩ := open_sl Try.underlying22 oMoves (hval 0 22 v0 rfl rfl) h0
 have k1 := h1
 have lt1 : ∀ x ∈ p1, x.block < W.heap.size := by obtain ⟨m, hm⟩ := k1; exact DataW.trod_lt m _ _ _ hm
 obtain ⟨A1, c1, l1, rfl, hr1, hc1⟩ := open_sl Try.underlying23 oWords (hval 1 23 v1 rfl rfl) h1
 clear hA0 hval0 hsz0
 obtain ⟨k, hk⟩ := Pure.CopiesRight l0 l1
 refine (davitlaw20_CopiesRight.calls k A0 c0 l0 A1 c1 l1 true W hr0 hc0 hr1 hc1 hk).mono fun e W' ⟨he, bel⟩ => ?_
 subst he
 exact ⟨_, rfl, _, _, _, [], _, [], hW', trodAll_mk1 (shut_bool Try.underlying4 _), (trodAll_cons_mk (Below.trod laidOut (by kernel_rfl) (of_decide_eq_true (by kernel_rfl)) k0 bel lt0) (trodAll_cons_mk (Below.trod laidOut (by kernel_rfl) (of_decide_eq_true (by kernel_rfl)) k1 bel lt1) trodAll_mk0)), rfl, bel.frame _, fun h => by cases h⟩
theorem over : Rows.copiesRightRow.holds Try.pinned (OpenSpec.ofChange Rows.copiesRightSpec) :=
 OpenClaim.holds_of_wide 3 Try.f3 rfl rfl rfl rfl rfl rfl rfl ⟨rfl, rfl, rfl, rfl, rfl⟩ rfl rfl rfl rfl rfl (by kernel_rfl) Try.func3 (by kernel_rfl)
  (of_decide_eq_true (by kernel_rfl)) (by unfold Func.isWrapper; first | (rw [if_pos (by decide +kernel)]; kernel_rfl) | (rw [if_neg (by decide +kernel)]; exact ⟨rfl, rfl⟩))
  (fun os started H enc _ => lifted os started H enc)
theorem proved : Rows.CopiesRightSaid := over
#print axioms proved
end Go.Proofs.Ytfbbfnadmnejeaa.copiesRight
namespace Go.Proofs.Ytfbbfnadmnejeaa
theorem copiesRight_holds : Rows.CopiesRightSaid := copiesRight.proved
end Go.Proofs.Ytfbbfnadmnejeaa
