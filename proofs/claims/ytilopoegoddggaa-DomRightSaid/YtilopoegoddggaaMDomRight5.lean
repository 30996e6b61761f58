/- Part 6 of the proof of the statement DomRight: the words of the walks, the walks through the functions that it reaches, and the plain laws of what they compute. -/
import Derived.Test.YtilopoegoddggaaMDomRight4
import Derived.Deep.Slices
import Derived.Lib.SmallJoins
import Derived.ChangeArms
import Derived.Test.YtilopoegoddggaaRows
import Derived.WalkKit
import Derived.ProofKit
import Derived.OpenShut
import Derived.ShutString
import Derived.ChangeOld
import Derived.Below
import Derived.SizedLaws
import Derived.Carry
namespace Go.Proofs.Ytilopoegoddggaa.X
open Go.RowKit Go.Proofs.YtilopoegoddggaaW.PrintWords Go.Proofs.YtilopoegoddggaaW.PrintLast Go.Proofs.YtilopoegoddggaaW.PrintMore
open Go.Proofs.Ytilopoegoddggaa.G
set_option linter.all false
theorem place_ok : ∀ (l : List Int) (i : Int) (p : List Int), (∀ m ∈ l, 0 ≤ m ∧ m < (p.length : Int)) → l.Nodup →
  ∃ p', placeO l i p = some p' ∧ p'.length = p.length ∧ (∀ l1 l2 m, l = l1 ++ m :: l2 → rd p' m = i + l1.length) ∧ (∀ m, 0 ≤ m → m ∉ l → rd p' m = rd p m)
 | [], i, p, _, _ => ⟨p, rfl, rfl, fun l1 l2 m h => by simp at h, fun _ _ _ => rfl⟩
 | n :: l, i, p, hv, hn => by
  have hv0 := hv n (List.mem_cons_self ..)
  obtain ⟨hn1, hn2⟩ := List.nodup_cons.1 hn
  obtain ⟨p', e, hl, h1, h2⟩ := place_ok l (i + 1) (p.set n.toNat i) (fun m hm => by rw [List.length_set]; exact hv m (List.mem_cons_of_mem _ hm)) hn2
  refine ⟨p', by rw [placeO, if_pos (show inL p n from hv0), e], by rw [hl, List.length_set], fun l1 l2 m h => ?_, fun m hm hnm => ?_⟩
  ·cases l1 with
   | nil =>
    simp only [List.nil_append, List.cons.injEq] at h
    obtain ⟨rfl, rfl⟩ := h
    rw [h2 n hv0.1 hn1, rd_set p n n i hv0.1 hv0.2 hv0.1, if_pos rfl]
    simp
   | cons y l1 =>
    simp only [List.cons_append, List.cons.injEq] at h
    rw [h1 l1 l2 m h.2]
    simp only [List.length_cons]
    omega
  ·rw [h2 m hm (fun h => hnm (List.mem_cons_of_mem _ h)), rd_set p n m i hv0.1 hv0.2 hm, if_neg (fun e : m = n => hnm (e ▸ List.mem_cons_self ..))]
structure Pos (ord : List Int) (place : Int → Int) : Prop where
 at_ : ∀ l1 l2 m, ord = l1 ++ m :: l2 → place m = l1.length
theorem Pos.pl {bs : List S50} {seen : List Bool} {ord : List Int} {place : Int → Int} (O : Ord bs seen ord) (Q : Pos ord place) (h : 0 < bs.length) : Pl bs.length (nextL bs) place := by
 refine ⟨next_edges bs, ?_, fun n h => ?_, fun a b ha hb e => ?_, fun n h h0 => ?_⟩
 ·obtain ⟨t, e⟩ := O.head h
  have := Q.at_ [] t 0 (by rw [e]; rfl)
  simpa using this
 ·obtain ⟨l1, l2, e⟩ := List.append_of_mem ((O.mem n).2 h)
  rw [Q.at_ l1 l2 n e]; omega
 ·obtain ⟨l1, l2, ea⟩ := List.append_of_mem ((O.mem a).2 ha)
  obtain ⟨l3, l4, eb⟩ := List.append_of_mem ((O.mem b).2 hb)
  rw [Q.at_ l1 l2 a ea, Q.at_ l3 l4 b eb] at e
  have e' : l1.length = l3.length := by omega
  rw [ea] at eb
  have := (List.append_inj eb e').2
  simp at this
  exact this.1
 ·obtain ⟨l1, l2, q, e, hq, hs⟩ := O.par n ((O.mem n).2 h) h0
  refine ⟨q, (O.mem q).1 (by rw [e]; simp [hq]), hs, ?_⟩
  obtain ⟨l3, l4, e3⟩ := List.append_of_mem hq
  rw [Q.at_ l1 l2 n e, Q.at_ l3 (l4 ++ n :: l2) q (by rw [e, e3]; simp)]
  rw [e3]; simp only [List.length_append, List.length_cons]; omega
section
variable {bs : List S50} {over place : List Int}
abbrev RR (bs : List S50) (n : Int) : Prop := Rch bs.length (nextL bs) (-1) n
theorem RR.inL {l : List Int} {n : Int} (h : RR bs n) (hl : l.length = bs.length) : inL l n := by
 have := h.inV (next_edges bs)
 exact ⟨this.1, by omega⟩
theorem meet_ok (T : Tree bs.length (nextL bs) (rd place) (rd over)) (L : Pl bs.length (nextL bs) (rd place)) (ho : over.length = bs.length) (hp : place.length = bs.length) :
  ∀ (s : Nat) (a b : Int), (rd place a + rd place b).toNat ≤ s → RR bs a → RR bs b → 0 ≤ rd over a → 0 ≤ rd over b →
   ∃ r, Evt (fun k => meetO over place k 0 a b) r ∧ RR bs r ∧ 0 ≤ rd over r ∧ ∀ x, Anc (rd over) x r ↔ Anc (rd over) x a ∧ Anc (rd over) x b := by
 intro s
 induction s using Nat.strongRecOn with
 | ind s ih =>
 have s2 : ∀ (j : Nat) (a b : Int), (rd place b).toNat ≤ j → (rd place a + rd place b).toNat ≤ s → RR bs a → RR bs b → 0 ≤ rd over a → 0 ≤ rd over b → ((rd place a + rd place b).toNat < s ∨ rd place a < rd place b) →
   ∃ r, Evt (fun k => meetO over place k 2 a b) r ∧ RR bs r ∧ 0 ≤ rd over r ∧ ∀ x, Anc (rd over) x r ↔ Anc (rd over) x a ∧ Anc (rd over) x b := by
  intro j
  induction j with
  | zero =>
   intro a b hj hs ra rb oa ob hlt
   have pa := L.pos a ra
   have pb := L.pos b rb
   obtain ⟨r, e, r1, r2, r3⟩ := ih (rd place a + rd place b).toNat (by omega) a b (Nat.le_refl _) ra rb oa ob
   refine ⟨r, Evt.succ ?_, r1, r2, r3⟩
   simp only [meetO, if_pos (And.intro (ra.inL hp) (rb.inL hp)), if_neg (show ¬ rd place b > rd place a by omega)]
   exact e
  | succ j ihj =>
   intro a b hj hs ra rb oa ob hlt
   have pa := L.pos a ra
   have pb := L.pos b rb
   by_cases h : rd place b > rd place a
   ·have hb0 : b ≠ 0 := fun e => by subst e; have := L.zero; omega
    obtain ⟨u1, u2, u3⟩ := T.up b rb hb0 ob
    have pu := L.pos _ u1
    obtain ⟨r, e, r1, r2, r3⟩ := ihj a (rd over b) (by omega) (by omega) ra u1 oa u2 (.inl (by omega))
    refine ⟨r, Evt.succ ?_, r1, r2, fun x => ?_⟩
    ·simp only [meetO, if_pos (And.intro (ra.inL hp) (rb.inL hp)), if_pos h, if_pos (rb.inL ho)]
     exact e
    ·rw [r3]
     refine and_congr_right fun hx => ⟨fun h2 => .up hb0 h2, fun h2 => ?_⟩
     refine (h2.cases_ne fun e => ?_).2
     subst e
     have := (T.anc hx ra oa).2.2
     omega
   ·obtain ⟨r, e, r1, r2, r3⟩ := ih (rd place a + rd place b).toNat (by omega) a b (Nat.le_refl _) ra rb oa ob
    refine ⟨r, Evt.succ ?_, r1, r2, r3⟩
    simp only [meetO, if_pos (And.intro (ra.inL hp) (rb.inL hp)), if_neg h]
    exact e
 have s1 : ∀ (j : Nat) (a b : Int), (rd place a).toNat ≤ j → (rd place a + rd place b).toNat ≤ s → RR bs a → RR bs b → 0 ≤ rd over a → 0 ≤ rd over b → ((rd place a + rd place b).toNat < s ∨ rd place a ≠ rd place b) →
   ∃ r, Evt (fun k => meetO over place k 1 a b) r ∧ RR bs r ∧ 0 ≤ rd over r ∧ ∀ x, Anc (rd over) x r ↔ Anc (rd over) x a ∧ Anc (rd over) x b := by
  intro j
  induction j with
  | zero =>
   intro a b hj hs ra rb oa ob hlt
   have pa := L.pos a ra
   have pb := L.pos b rb
   obtain ⟨r, e, r1, r2, r3⟩ := s2 _ a b (Nat.le_refl _) hs ra rb oa ob (by omega)
   refine ⟨r, Evt.succ ?_, r1, r2, r3⟩
   simp only [meetO, if_pos (And.intro (ra.inL hp) (rb.inL hp)), if_neg (show ¬ rd place a > rd place b by omega)]
   exact e
  | succ j ihj =>
   intro a b hj hs ra rb oa ob hlt
   have pa := L.pos a ra
   have pb := L.pos b rb
   by_cases h : rd place a > rd place b
   ·have ha0 : a ≠ 0 := fun e => by subst e; have := L.zero; omega
    obtain ⟨u1, u2, u3⟩ := T.up a ra ha0 oa
    have pu := L.pos _ u1
    obtain ⟨r, e, r1, r2, r3⟩ := ihj (rd over a) b (by omega) (by omega) u1 rb u2 ob (.inl (by omega))
    refine ⟨r, Evt.succ ?_, r1, r2, fun x => ?_⟩
    ·simp only [meetO, if_pos (And.intro (ra.inL hp) (rb.inL hp)), if_pos h, if_pos (ra.inL ho)]
     exact e
    ·rw [r3]
     refine and_congr_left fun hx => ⟨fun h2 => .up ha0 h2, fun h2 => ?_⟩
     refine (h2.cases_ne fun e => ?_).2
     subst e
     have := (T.anc hx rb ob).2.2
     omega
   ·obtain ⟨r, e, r1, r2, r3⟩ := s2 _ a b (Nat.le_refl _) hs ra rb oa ob (by omega)
    refine ⟨r, Evt.succ ?_, r1, r2, r3⟩
    simp only [meetO, if_pos (And.intro (ra.inL hp) (rb.inL hp)), if_neg h]
    exact e
 intro a b hs ra rb oa ob
 by_cases e : a = b
 ·subst e
  refine ⟨a, Evt.succ ?_, ra, oa, fun x => by simp⟩
  simp only [meetO, if_pos]
  exact Evt.pure _
 ·obtain ⟨r, h, r1, r2, r3⟩ := s1 _ a b (Nat.le_refl _) hs ra rb oa ob (.inr fun h => e (L.inj a b ra rb h))
  refine ⟨r, Evt.succ ?_, r1, r2, r3⟩
  simp only [meetO, if_neg e]
  exact h
def NB (bs : List S50) (o : Int → Int) (Q : Int → Prop) (b : Int) : Prop := (b < 0 ∧ ∀ p, Q p → ¬ 0 ≤ o p) ∨ (RR bs b ∧ 0 ≤ o b ∧ ∀ x, Anc o x b ↔ ∀ p, Q p → 0 ≤ o p → Anc o x p)
theorem best_l (T : Tree bs.length (nextL bs) (rd place) (rd over)) (L : Pl bs.length (nextL bs) (rd place)) (ho : over.length = bs.length) (hp : place.length = bs.length) :
  ∀ (ps : List Int) (Q : Int → Prop) (b : Int), (∀ p ∈ ps, 0 ≤ p ∧ p < (bs.length : Int)) → NB bs (rd over) Q b → ∃ r, Evt (fun k => bestO over place k ps b) r ∧ NB bs (rd over) (fun p => Q p ∨ p ∈ ps) r
 | [], Q, b, _, h => ⟨b, Evt.pure b, by simpa using h⟩
 | p :: ps, Q, b, hv, h => by
  have hv0 := hv p (List.mem_cons_self ..)
  have hin : inL over p := ⟨hv0.1, by omega⟩
  have key : ∀ b', NB bs (rd over) (fun x => Q x ∨ x = p) b' → ∃ r, Evt (fun k => bestO over place k ps b') r ∧ NB bs (rd over) (fun x => Q x ∨ x ∈ p :: ps) r := fun b' h' => by
   obtain ⟨r, e, hr⟩ := best_l T L ho hp ps _ b' (fun x hx => hv x (List.mem_cons_of_mem _ hx)) h'
   refine ⟨r, e, ?_⟩
   have : (fun x => (Q x ∨ x = p) ∨ x ∈ ps) = fun x => Q x ∨ x ∈ p :: ps := by
    funext x; simp [or_assoc]
   rw [this] at hr
   exact hr
  by_cases hneg : rd over p < 0
  ·obtain ⟨r, e, hr⟩ := key b (by
    rcases h with ⟨h1, h2⟩ | ⟨h1, h2, h3⟩
    ·exact .inl ⟨h1, fun x hx => hx.elim (h2 x) (fun e => by rw [e]; omega)⟩
    ·refine .inr ⟨h1, h2, fun x => (h3 x).trans ⟨fun h y hy ho => hy.elim (fun hy => h y hy ho) (fun e => by rw [e] at ho; omega), fun h y hy ho => h y (.inl hy) ho⟩⟩)
   refine ⟨r, ?_, hr⟩
   simp only [bestO, if_pos hin, if_pos hneg]
   exact e
  ·have rp : RR bs p := by
    by_cases hR : RR bs p
    ·exact hR
    ·have := T.neg p hv0.1 hv0.2 hR; omega
   by_cases hb : b < 0
   ·obtain ⟨r, e, hr⟩ := key p (by
     rcases h with ⟨h1, h2⟩ | ⟨h1, h2, h3⟩
     ·refine .inr ⟨rp, by omega, fun x => ⟨fun h y hy ho => hy.elim (fun hy => absurd ho (h2 y hy)) (fun e => e ▸ h), fun h => h p (.inr rfl) (by omega)⟩⟩
     ·have := h1.inV (next_edges bs); omega)
    refine ⟨r, ?_, hr⟩
    simp only [bestO, if_pos hin, if_neg hneg, if_pos hb]
    exact e
   ·rcases h with ⟨h1, h2⟩ | ⟨h1, h2, h3⟩
    ·exact absurd h1 hb
    ·obtain ⟨m, em, m1, m2, m3⟩ := meet_ok T L ho hp _ p b (Nat.le_refl _) rp h1 (by omega) h2
     obtain ⟨r, e, hr⟩ := key m (.inr ⟨m1, m2, fun x => (m3 x).trans ⟨fun h y hy ho => hy.elim (fun hy => (h3 x).1 h.2 y hy ho) (fun e => e ▸ h.1), fun h => ⟨h p (.inr rfl) (by omega), (h3 x).2 fun y hy ho => h y (.inl hy) ho⟩⟩⟩)
     refine ⟨r, ?_, hr⟩
     simp only [bestO, if_pos hin, if_neg hneg, if_neg hb]
     exact Evt.bind em e
end
end Go.Proofs.Ytilopoegoddggaa.X
namespace Go.Proofs.Ytilopoegoddggaa.X
open Go.RowKit Go.Proofs.YtilopoegoddggaaW.PrintWords Go.Proofs.YtilopoegoddggaaW.PrintLast Go.Proofs.YtilopoegoddggaaW.PrintMore
open Go.Proofs.Ytilopoegoddggaa.G
set_option linter.all false
theorem sum_le (f g : Int → Nat) : ∀ l : List Int, (∀ x ∈ l, f x ≤ g x) → (l.map f).sum ≤ (l.map g).sum
 | [], _ => Nat.le_refl _
 | x :: l, h => by
  have h1 := h x (List.mem_cons_self ..)
  have h2 := sum_le f g l fun y hy => h y (List.mem_cons_of_mem _ hy)
  simp only [List.map_cons, List.sum_cons]; omega
theorem sum_lt (f g : Int → Nat) : ∀ (l : List Int) (n : Int), (∀ x ∈ l, f x ≤ g x) → n ∈ l → f n < g n → (l.map f).sum < (l.map g).sum
 | x :: l, n, h, hn, hlt => by
  have h1 := h x (List.mem_cons_self ..)
  have h2 := sum_le f g l fun y hy => h y (List.mem_cons_of_mem _ hy)
  simp only [List.map_cons, List.sum_cons]
  rcases List.mem_cons.1 hn with rfl | hn
  ·omega
  ·have := sum_lt f g l n (fun y hy => h y (List.mem_cons_of_mem _ hy)) hn hlt
   omega
theorem rd_upd (over : List Int) (n r : Int) (h0 : 0 < n) (h1 : n < (over.length : Int)) : rd (over.set n.toNat r) = upd (rd over) n r := by
 funext x
 unfold upd rd
 rw [List.getD_eq_getElem?_getD, List.getD_eq_getElem?_getD, List.getElem?_set]
 by_cases e : x = n
 ·subst e; rw [if_pos rfl, if_pos rfl, if_pos (by omega)]; rfl
 ·rw [if_neg (by omega), if_neg e]
def Sum (ord place over : List Int) : Nat := (ord.map fun n => (rd place (rd over n)).toNat).sum
section
variable {bs : List S50} {ord place : List Int} {seen : List Bool}
theorem best_ok {over : List Int} {n : Int} {fin : Bool} (I : Inv bs.length (nextL bs) (rd place) (rd over) (rd place n) fin) (L : Pl bs.length (nextL bs) (rd place)) (ho : over.length = bs.length) (hp : place.length = bs.length) (hn : RR bs n) (h0 : n ≠ 0) :
  ∃ r, Evt (fun k => bestO over place k (predsL bs n) (-1)) r ∧ Best bs.length (nextL bs) (rd over) n r := by
 obtain ⟨r, e, h⟩ := best_l I.toTree L ho hp (predsL bs n) (fun _ => False) (-1) (fun p hm => (next_edges bs _ _ (mem_preds.1 hm)).1) (.inl ⟨by omega, fun _ h => h.elim⟩)
 refine ⟨r, e, ?_⟩
 obtain ⟨q, q1, q2, q3⟩ := L.pred n hn h0
 have hq := I.P q q1 (.inl q3)
 rcases h with ⟨h1, h2⟩ | ⟨h1, h2, h3⟩
 ·exact absurd hq (h2 q (.inr (mem_preds.2 q2)))
 ·exact ⟨h1, h2, fun x => (h3 x).trans ⟨fun h p a _ c => h p (.inr (mem_preds.2 a)) c, fun h p a c => by
   have hs := mem_preds.1 (a.resolve_left id)
   refine h p hs ?_ c
   by_cases hR : RR bs p
   ·exact hR
   ·have hv := (next_edges bs _ _ hs).1
    have := I.neg p hv.1 hv.2 hR
    omega⟩⟩
theorem row_ok (a0 a1 : Int) (hl : bs.length ≤ 1000) (O : Ord bs seen ord) (Q : Pos ord (rd place)) (L : Pl bs.length (nextL bs) (rd place)) (hp : place.length = bs.length) (fin : Bool) :
  ∀ (ns pre over : List Int) (more : Bool), ord = 0 :: pre ++ ns → over.length = bs.length → Inv bs.length (nextL bs) (rd place) (rd over) (pre.length + 1 : Nat) fin →
   ∃ over' more', Evt (fun k => rowO a0 a1 bs place k ns over more) (over', more') ∧ over'.length = bs.length ∧ Inv bs.length (nextL bs) (rd place) (rd over') ord.length fin ∧
    (more' = false → more = false ∧ over' = over ∧ ∀ n ∈ ns, Best bs.length (nextL bs) (rd over) n (rd over n)) ∧ (fin = true → Sum ord place over' ≤ Sum ord place over ∧ (more' = true → more = true ∨ Sum ord place over' < Sum ord place over))
 | [], pre, over, more, e, ho, I => by
  refine ⟨over, more, Evt.pure _, ho, ?_, fun h => ⟨h, rfl, by simp⟩, fun _ => ⟨Nat.le_refl _, .inl⟩⟩
  rw [e, List.append_nil, List.length_cons]
  exact I
 | n :: ns, pre, over, more, e, ho, I => by
  have hmem : n ∈ ord := by rw [e]; simp
  have hn : RR bs n := (O.mem n).1 hmem
  have hv := hn.inV (next_edges bs)
  have hpl : rd place n = (pre.length + 1 : Nat) := by
   have := Q.at_ (0 :: pre) ns n e
   simpa using this
  have h0 : n ≠ 0 := fun h => by rw [h, L.zero] at hpl; omega
  rw [← hpl] at I
  obtain ⟨r, er, B⟩ := best_ok I L ho hp hn h0
  have hin : inL over n := ⟨hv.1, by omega⟩
  have hfun := rd_upd over n r (by omega) hin.2
  have I' := I.step L hn h0 B
  rw [← hfun] at I'
  obtain ⟨over', more', e', h1, h2, h3, h4⟩ := row_ok a0 a1 hl O Q L hp fin ns (pre ++ [n]) (over.set n.toNat r) (more || (rd over n != r)) (by rw [e]; simp) (by rw [List.length_set]; exact ho) (by
   rw [hpl] at I'
   have : ((pre ++ [n]).length + 1 : Nat) = ((pre.length + 1 : Nat) : Int) + 1 := by simp
   rw [this]; exact I')
  refine ⟨over', more', ?_, h1, h2, fun hm => ?_, fun hf => ?_⟩
  ·simp only [rowO]
   refine Evt.bind (before_ev a0 a1 bs n (by omega)) (Evt.bind er ?_)
   simp only [if_pos hin]
   exact e'
  ·obtain ⟨m1, m2, m3⟩ := h3 hm
   obtain ⟨m4, m5⟩ : more = false ∧ rd over n = r := by simpa using m1
   have hset : over.set n.toNat r = over := by
    rw [← m5]
    unfold rd
    rw [List.getD_eq_getElem?_getD, List.getElem?_eq_getElem (show n.toNat < over.length by omega)]
    simp
   rw [hset] at m2 m3
   refine ⟨m4, m2, fun x hx => ?_⟩
   rcases List.mem_cons.1 hx with rfl | hx
   ·rw [m5]; exact B
   ·exact m3 x hx
  ·obtain ⟨s1, s2⟩ := h4 hf
   subst hf
   have hon := I.P n hn (.inr rfl)
   have hK : Anc (rd over) r (rd over n) := I.K n hn h0 hon r ((B.all r).1 (.refl _))
   obtain ⟨u1, u2, u3⟩ := I.up n hn h0 hon
   have hle := (I.toTree.anc hK u1 u2).2.2
   have hpr := L.pos r B.rch
   have hpo := L.pos _ u1
   have hpt : ∀ x ∈ ord, (rd place (rd (over.set n.toNat r) x)).toNat ≤ (rd place (rd over x)).toNat := by
    intro x hx
    rw [hfun]
    unfold upd
    split
    ·rename_i hxn
     subst hxn
     omega
    ·exact Nat.le_refl _
   have hsum : Sum ord place (over.set n.toNat r) ≤ Sum ord place over := sum_le _ _ ord hpt
   refine ⟨Nat.le_trans s1 hsum, fun hm => ?_⟩
   rcases s2 hm with h | h
   ·rw [Bool.or_eq_true] at h
    rcases h with h | h
    ·exact .inl h
    ·refine .inr (Nat.lt_of_le_of_lt s1 (sum_lt _ _ ord n hpt hmem ?_))
     have hne : r ≠ rd over n := fun e => by simp [e] at h
     have := I.toTree.lt hK hne u1 u2
     rw [hfun, upd_self]
     omega
   ·exact .inr (by omega)
def Fin (bs : List S50) (place over : List Int) : Prop := over.length = bs.length ∧ Inv bs.length (nextL bs) (rd place) (rd over) 1 true ∧ Fix bs.length (nextL bs) (rd over)
theorem pos_lt (O : Ord bs seen ord) (Q : Pos ord (rd place)) {m : Int} (h : RR bs m) : rd place m < ord.length := by
 obtain ⟨l1, l2, e⟩ := List.append_of_mem ((O.mem m).2 h)
 rw [Q.at_ l1 l2 m e, e]
 simp; omega
theorem round_ok (a0 a1 : Int) (hl : bs.length ≤ 1000) (O : Ord bs seen ord) (Q : Pos ord (rd place)) (L : Pl bs.length (nextL bs) (rd place)) (hp : place.length = bs.length) {t : List Int} (ht : ord = 0 :: t) (fin : Bool) (over : List Int) (ho : over.length = bs.length) (I : Inv bs.length (nextL bs) (rd place) (rd over) 1 fin) :
  ∃ over' more', Evt (fun k => rowO a0 a1 bs place k t over false) (over', more') ∧ over'.length = bs.length ∧ Inv bs.length (nextL bs) (rd place) (rd over') 1 true ∧ (more' = false → Fin bs place over') ∧ (more' = true → fin = true → Sum ord place over' < Sum ord place over) := by
 obtain ⟨over', more', e, h1, h2, h3, h4⟩ := row_ok a0 a1 hl O Q L hp fin t [] over false (by rw [ht]; rfl) ho (by simpa using I)
 have hj : ∀ m, RR bs m → rd place m < ord.length := fun m h => pos_lt O Q h
 have h2' := h2.again L hj
 refine ⟨over', more', e, h1, h2', fun hm => ⟨h1, h2', fun n hn h0 => ?_⟩, fun hm hf => ?_⟩
 ·obtain ⟨_, m2, m3⟩ := h3 hm
  subst m2
  refine m3 n ?_
  have := (O.mem n).2 hn
  rw [ht] at this
  exact (List.mem_cons.1 this).resolve_left h0
 ·rcases (h4 hf).2 hm with h | h
  ·cases h
  ·exact h
theorem rounds_ok (a0 a1 : Int) (hl : bs.length ≤ 1000) (O : Ord bs seen ord) (Q : Pos ord (rd place)) (L : Pl bs.length (nextL bs) (rd place)) (hp : place.length = bs.length) {t : List Int} (ht : ord = 0 :: t) :
  ∀ (s : Nat) (over : List Int), over.length = bs.length → Inv bs.length (nextL bs) (rd place) (rd over) 1 true → Sum ord place over ≤ s → ∃ over', (∃ K, ∀ k j, K ≤ k → K ≤ j → roundsO a0 a1 bs place k t j over = some over') ∧ Fin bs place over' := by
 intro s
 induction s with
 | zero =>
  intro over ho I hs
  obtain ⟨over', more', ⟨K, e⟩, h1, h2, h3, h4⟩ := round_ok a0 a1 hl O Q L hp ht true over ho I
  replace e : ∀ k, K ≤ k → rowO a0 a1 bs place k t over false = some (over', more') := e
  cases more' with
  | true => have := h4 rfl rfl; omega
  | false =>
   refine ⟨over', ⟨K + 1, fun k j hk hj => ?_⟩, h3 rfl⟩
   obtain ⟨j', rfl⟩ : ∃ j', j = j' + 1 := ⟨j - 1, by omega⟩
   rw [roundsO, e k (by omega), Option.bind_some, if_neg (by simp)]
 | succ s ih =>
  intro over ho I hs
  obtain ⟨over', more', ⟨K, e⟩, h1, h2, h3, h4⟩ := round_ok a0 a1 hl O Q L hp ht true over ho I
  replace e : ∀ k, K ≤ k → rowO a0 a1 bs place k t over false = some (over', more') := e
  cases more' with
  | true =>
   obtain ⟨r, ⟨K2, er⟩, hr⟩ := ih over' h1 h2 (by have := h4 rfl rfl; omega)
   refine ⟨r, ⟨K + K2 + 1, fun k j hk hj => ?_⟩, hr⟩
   obtain ⟨j', rfl⟩ : ∃ j', j = j' + 1 := ⟨j - 1, by omega⟩
   rw [roundsO, e k (by omega), Option.bind_some, if_pos (by simp)]
   exact er k j' (by omega) (by omega)
  | false =>
   refine ⟨over', ⟨K + 1, fun k j hk hj => ?_⟩, h3 rfl⟩
   obtain ⟨j', rfl⟩ : ∃ j', j = j' + 1 := ⟨j - 1, by omega⟩
   rw [roundsO, e k (by omega), Option.bind_some, if_neg (by simp)]
theorem first_ok (a0 a1 : Int) (hl : bs.length ≤ 1000) (O : Ord bs seen ord) (Q : Pos ord (rd place)) (L : Pl bs.length (nextL bs) (rd place)) (hp : place.length = bs.length) {t : List Int} (ht : ord = 0 :: t)
  (over : List Int) (ho : over.length = bs.length) (I : Inv bs.length (nextL bs) (rd place) (rd over) 1 false) : ∃ over', (∃ K, ∀ k j, K ≤ k → K ≤ j → roundsO a0 a1 bs place k t j over = some over') ∧ Fin bs place over' := by
 obtain ⟨over', more', ⟨K, e⟩, h1, h2, h3, h4⟩ := round_ok a0 a1 hl O Q L hp ht false over ho I
 replace e : ∀ k, K ≤ k → rowO a0 a1 bs place k t over false = some (over', more') := e
 cases more' with
 | true =>
  obtain ⟨r, ⟨K2, er⟩, hr⟩ := rounds_ok a0 a1 hl O Q L hp ht _ over' h1 h2 (Nat.le_refl _)
  refine ⟨r, ⟨K + K2 + 1, fun k j hk hj => ?_⟩, hr⟩
  obtain ⟨j', rfl⟩ : ∃ j', j = j' + 1 := ⟨j - 1, by omega⟩
  rw [roundsO, e k (by omega), Option.bind_some, if_pos (by simp)]
  exact er k j' (by omega) (by omega)
 | false =>
  refine ⟨over', ⟨K + 1, fun k j hk hj => ?_⟩, h3 rfl⟩
  obtain ⟨j', rfl⟩ : ∃ j', j = j' + 1 := ⟨j - 1, by omega⟩
  rw [roundsO, e k (by omega), Option.bind_some, if_neg (by simp)]
end
theorem meetO_mono (over place : List Int) : ∀ k m a b, LeO (meetO over place k m a b) (meetO over place (k + 1) m a b)
 | 0, _, _, _ => LeO.none _
 | k + 1, 0, a, b => by
  rw [meetO, meetO]
  exact LeO.ite (LeO.refl _) (meetO_mono over place k 1 a b)
 | k + 1, 1, a, b => by
  rw [meetO, meetO]
  exact LeO.ite (LeO.ite (LeO.ite (meetO_mono over place k 1 _ _) (LeO.refl _)) (meetO_mono over place k 2 a b)) (LeO.refl _)
 | k + 1, n + 2, a, b => by
  rw [meetO, meetO]
  exact LeO.ite (LeO.ite (LeO.ite (meetO_mono over place k 2 _ _) (LeO.refl _)) (meetO_mono over place k 0 a b)) (LeO.refl _)
theorem bestO_mono (over place : List Int) (k : Nat) : ∀ ps b, LeO (bestO over place k ps b) (bestO over place (k + 1) ps b)
 | [], _ => LeO.refl _
 | p :: ps, b => by
  rw [bestO, bestO]
  exact LeO.ite (LeO.ite (bestO_mono over place k ps b) (LeO.ite (bestO_mono over place k ps p) (LeO.bind (meetO_mono over place k 0 p b) fun m => bestO_mono over place k ps m))) (LeO.refl _)
theorem rowO_mono (a0 a1 : Int) (bs : List S50) (place : List Int) (k : Nat) : ∀ ns over more, LeO (rowO a0 a1 bs place k ns over more) (rowO a0 a1 bs place (k + 1) ns over more)
 | [], _, _ => LeO.refl _
 | n :: ns, over, more => by
  rw [rowO, rowO]
  exact LeO.bind (flow_Before.mono _ _ _ _ k) fun ps => LeO.bind (bestO_mono over place k ps _) fun b => LeO.ite (rowO_mono a0 a1 bs place k ns _ _) (LeO.refl _)
theorem roundsO_mono (a0 a1 : Int) (bs : List S50) (place : List Int) (k : Nat) (ns : List Int) : ∀ j over, LeO (roundsO a0 a1 bs place k ns j over) (roundsO a0 a1 bs place (k + 1) ns (j + 1) over)
 | 0, _ => LeO.none _
 | j + 1, over => by
  rw [roundsO, roundsO]
  exact LeO.bind (rowO_mono a0 a1 bs place k ns over false) fun q => LeO.ite (roundsO_mono a0 a1 bs place k ns j q.1) (LeO.refl _)
theorem grownO_mono (a0 a1 : Int) (bs : List S50) (k : Nat) : LeO (grownO a0 a1 bs k) (grownO a0 a1 bs (k + 1)) := by
 unfold grownO
 exact LeO.bind (LeO.refl _) fun order => LeO.bind (LeO.refl _) fun place => LeO.ite (LeO.refl _) (LeO.ite (LeO.bind (roundsO_mono a0 a1 bs place k _ k _) fun _ => LeO.refl _) (LeO.refl _))
theorem anyK_ev {α : Type} {g : Nat → Option α} {r : α} (h : Evt g r) (hm : ∀ k, LeO (g k) (g (k + 1))) : anyK g = some r := by
 refine anyK_eq h.ex fun k q hq => ?_
 obtain ⟨K, hK⟩ := h
 have h1 := more_rounds hm k (K - k) q hq
 by_cases hk : K ≤ k
 ·rw [hK k hk] at hq; exact (Option.some.inj hq).symm
 ·rw [hK (k + (K - k)) (by omega)] at h1
  exact (Option.some.inj h1).symm
end Go.Proofs.Ytilopoegoddggaa.X
namespace Go.Proofs.Ytilopoegoddggaa.X
open Go.RowKit Go.Proofs.YtilopoegoddggaaW.PrintWords Go.Proofs.YtilopoegoddggaaW.PrintLast Go.Proofs.YtilopoegoddggaaW.PrintMore
open Go.Proofs.Ytilopoegoddggaa.G
set_option linter.all false
abbrev DD (bs : List S50) (a b : Int) : Prop := Dom bs.length (nextL bs) a b
structure OverOk (bs : List S50) (r : List Int) (place o : Int → Int) : Prop where
 len : r.length = bs.length
 rd : ∀ m : Int, 0 ≤ m → m < bs.length → rd r m = if m = 0 then -1 else o m
 pl : Pl bs.length (nextL bs) place
 tree : Tree bs.length (nextL bs) place o
 done : ∀ m, RR bs m → 0 ≤ o m
 lt : ∀ m, RR bs m → place m < bs.length
 anc : ∀ x m, RR bs m → (Anc o x m ↔ DD bs x m)
theorem reached_ok (a0 a1 : Int) (bs : List S50) (hl : bs.length ≤ 1000) : ∃ seen, flow_Reached.f a0 a1 bs = some seen ∧ seen.length = bs.length ∧ ∀ m : Int, 0 ≤ m → m < bs.length → (rdOf false seen m = true ↔ RR bs m) := by
 obtain ⟨seen, left, e, O⟩ := walk_ok bs hl
 refine ⟨seen, ?_, O.len, O.seen⟩
 unfold flow_Reached.f
 rw [if_pos hl, e]; rfl
theorem over_ok (a0 a1 : Int) (bs : List S50) (hl : bs.length ≤ 1000) (h0 : 0 < bs.length) : ∃ r place o, dom_Over.f a0 a1 bs = some r ∧ OverOk bs r place o := by
 obtain ⟨seen, left, e, O⟩ := walk_ok bs hl
 obtain ⟨t, ht⟩ := O.head h0
 obtain ⟨p, ep, hp, h1, h2⟩ := place_ok left.reverse 0 (List.replicate bs.length 0) (fun m hm => by rw [List.length_replicate]; exact ((O.mem m).1 hm).inV (next_edges bs)) O.nd
 have Q : Pos left.reverse (rd p) := ⟨fun l1 l2 m h => by rw [h1 l1 l2 m h]; omega⟩
 have L := Q.pl O h0
 have hp' : p.length = bs.length := by rw [hp, List.length_replicate]
 have hst : rd ((List.replicate bs.length (-1 : Int)).set 0 0) = fun x => if x = 0 then 0 else rd ((List.replicate bs.length (-1 : Int)).set 0 0) x := by
  funext x
  split
  ·rename_i h
   subst h
   unfold rd
   rw [List.getD_eq_getElem?_getD, List.getElem?_set]
   simp [h0]
  ·rfl
 have hI : Inv bs.length (nextL bs) (rd p) (rd ((List.replicate bs.length (-1 : Int)).set 0 0)) 1 false := by
  have S := Inv.start L h0
  have hz : rd ((List.replicate bs.length (-1 : Int)).set 0 0) 0 = 0 := by
   unfold rd
   rw [List.getD_eq_getElem?_getD, List.getElem?_set]
   simp [h0]
  have hm : ∀ m : Int, 0 ≤ m → m < bs.length → m ≠ 0 → rd ((List.replicate bs.length (-1 : Int)).set 0 0) m = -1 := by
   intro m a b c
   unfold rd
   rw [List.getD_eq_getElem?_getD, List.getElem?_set, if_neg (by omega), List.getElem?_replicate, if_pos (by omega)]
   rfl
  have hR : ∀ m, RR bs m → m ≠ 0 → ¬ 0 ≤ rd ((List.replicate bs.length (-1 : Int)).set 0 0) m := fun m a b c => by
   have hv := a.inV (next_edges bs)
   rw [hm m hv.1 hv.2 b] at c
   omega
  refine { toTree := ⟨hz, fun n a b c => hm n a b (fun e => c (e ▸ .zero h0 (by omega))), fun n a b => ?_, fun n a b c => absurd c (hR n a b)⟩, P := fun m a b => ?_, U := fun m a b x h => ?_, K := fun m a b c => absurd c (hR m a b), M := fun m q a b c => absurd c (hR m a b) }
  ·by_cases hn : n = 0
   ·rw [hn, hz]; omega
   ·rw [hm n a b hn]; omega
  ·rcases b with b | b
   ·have : m = 0 := L.inj _ _ a (.zero h0 (by omega)) (by have := L.pos m a; have := L.zero; omega)
    rw [this, hz]; omega
   ·cases b
  ·by_cases e : m = 0
   ·subst e
    rw [h.at_zero]; exact .refl _
   ·exact absurd b (hR m a e)
 obtain ⟨over, ⟨K, hK⟩, F1, F2, F3⟩ := first_ok a0 a1 hl O Q L hp' ht _ (by simp) hI
 have hdone : ∀ m, RR bs m → 0 ≤ rd over m := fun m hm => F2.P m hm (.inr rfl)
 refine ⟨over.set 0 (-1), rd p, rd over, ?_, by rw [List.length_set]; exact F1, fun m a b => ?_, L, F2.toTree, hdone, fun m hm => (by have := pos_lt O Q hm; have := O.cnt; omega), fun x m hm => F2.dom L hdone F3 hm⟩
 ·unfold dom_Over.f
  rw [if_pos hl]
  refine anyK_ev ⟨K, fun k hk => ?_⟩ (grownO_mono a0 a1 bs)
  unfold grownO flow_Order.f
  rw [if_pos hl, e]
  simp only [Option.map_some, Option.bind_some]
  rw [ep, Option.bind_some, if_neg (by rw [ht]; simp), if_pos h0]
  have : left.reverse.drop 1 = t := by rw [ht]; rfl
  rw [this, hK k k hk hk, Option.bind_some, if_pos (by omega)]
 ·have := rd_set over 0 m (-1) (by omega) (by omega) a
  exact this
open Classical in
theorem is_l0 {bs : List S50} {r : List Int} {place o : Int → Int} (H : OverOk bs r place o) (a : Int) (ha : 0 ≤ a) : ∀ (j : Nat) (b : Int), (place b).toNat ≤ j → RR bs b → Evt (fun k => dom_Is.l0 k a b r) (decide (DD bs a b)) := by
 intro j
 induction j with
 | zero =>
  intro b hj hb
  have hz : b = 0 := H.pl.inj _ _ hb (.zero (by have := hb.inV (next_edges bs); omega) (by omega)) (by have := H.pl.pos b hb; have := H.pl.zero; omega)
  subst hz
  have hN : 0 < bs.length := by have := hb.inV (next_edges bs); omega
  by_cases e : 0 = a
  ·refine Evt.succ ?_
   simp only [dom_Is.l0, if_pos e]
   rw [decide_eq_true (show DD bs a 0 from e ▸ Dom.refl (next_edges bs) hb)]
   rw [show ((0 : Int) == a) = true by simp [e]]
   exact Evt.pure _
  ·have hr0 : rd r 0 = -1 := by rw [H.rd 0 (by omega) (by omega), if_pos rfl]
   refine Evt.succ ?_
   simp only [dom_Is.l0, if_neg e, if_pos (show (0 : Int) ≥ 0 by omega), if_pos (show (0 : Int) ≤ 0 by omega), if_pos (show (0 : Int) < (r.length : Int) by have := H.len; omega), hr0]
   refine Evt.succ ?_
   simp only [dom_Is.l0, if_neg (show ¬ (-1 : Int) = a by omega), if_neg (show ¬ (-1 : Int) ≥ 0 by omega)]
   rw [decide_eq_false (show ¬ DD bs a 0 from fun h => e h.at_zero.symm), show ((-1 : Int) == a) = false by simp; omega]
   exact Evt.pure _
 | succ j ih =>
  intro b hj hb
  have hv := hb.inV (next_edges bs)
  by_cases e : b = a
  ·refine Evt.succ ?_
   simp only [dom_Is.l0, if_pos e]
   rw [decide_eq_true (show DD bs a b from e ▸ Dom.refl (next_edges bs) hb)]
   rw [show (b == a) = true by simp [e]]
   exact Evt.pure _
  ·by_cases hz : b = 0
   ·subst hz
    have hr0 : rd r 0 = -1 := by rw [H.rd 0 (by omega) (by omega), if_pos rfl]
    refine Evt.succ ?_
    simp only [dom_Is.l0, if_neg e, if_pos (show (0 : Int) ≥ 0 by omega), if_pos (show (0 : Int) ≤ 0 by omega), if_pos (show (0 : Int) < (r.length : Int) by have := H.len; omega), hr0]
    refine Evt.succ ?_
    simp only [dom_Is.l0, if_neg (show ¬ (-1 : Int) = a by omega), if_neg (show ¬ (-1 : Int) ≥ 0 by omega)]
    rw [decide_eq_false (show ¬ DD bs a 0 from fun h => e h.at_zero.symm), show ((-1 : Int) == a) = false by simp; omega]
    exact Evt.pure _
   ·obtain ⟨u1, u2, u3⟩ := H.tree.up b hb hz (H.done b hb)
    have hpo := H.pl.pos _ u1
    refine Evt.succ ?_
    simp only [dom_Is.l0, if_neg e, if_pos (show b ≥ 0 by omega), if_pos (show 0 ≤ b by omega), if_pos (show b < (r.length : Int) by have := H.len; omega), H.rd b hv.1 hv.2, if_neg hz]
    rw [decide_eq_decide.2 (show DD bs a b ↔ DD bs a (o b) by
     rw [← H.anc a b hb, ← H.anc a (o b) u1]
     exact ⟨fun h => (h.cases_ne fun e' => e e'.symm).2, fun h => .up hz h⟩)]
    exact ih (o b) (by omega) u1
open Classical in
theorem is_ev (a0 a1 : Int) (bs : List S50) (hl : bs.length ≤ 1000) (a b : Int) : Evt (fun k => dom_Is.f k a0 a1 bs a b) (decide (DD bs a b)) := by
 have hoff : ¬ DD bs a b → Evt (fun k => dom_Is.j0 k a b true a0 a1 bs) (decide (DD bs a b)) := fun h => by
  refine Evt.succ ?_
  simp only [dom_Is.j0, if_pos]
  rw [decide_eq_false h]
  exact Evt.pure _
 unfold dom_Is.f
 by_cases h1 : a < 0
 ·simp only [if_pos h1]
  exact hoff fun h => by have := h.2.1; omega
 simp only [if_neg h1]
 by_cases h2 : a ≥ (bs.length : Int)
 ·simp only [if_pos h2]
  exact hoff fun h => by have := h.2.1; omega
 simp only [if_neg h2]
 by_cases h3 : b < 0
 ·simp only [if_pos h3]
  exact hoff fun h => by have := h.1.inV (next_edges bs); omega
 simp only [if_neg h3]
 by_cases h4 : b ≥ (bs.length : Int)
 ·simp only [if_pos h4]
  exact hoff fun h => by have := h.1.inV (next_edges bs); omega
 simp only [if_neg h4]
 obtain ⟨seen, e, hs, hr⟩ := reached_ok a0 a1 bs hl
 simp only [e, Option.bind_some, if_pos (show 0 ≤ b by omega), if_pos (show b < (seen.length : Int) by omega)]
 by_cases hb : RR bs b
 ·rw [(hr b (by omega) (by omega)).2 hb]
  obtain ⟨r, place, o, er, H⟩ := over_ok a0 a1 bs hl (by omega)
  refine Evt.succ ?_
  simp only [dom_Is.j0, Bool.not_true, if_neg Bool.false_ne_true, er, Option.bind_some]
  have := is_l0 H a (by omega) _ b (Nat.le_refl _) hb
  exact this
 ·have : rdOf false seen b = false := by
   cases h : rdOf false seen b with
   | false => rfl
   | true => exact absurd ((hr b (by omega) (by omega)).1 h) hb
  rw [this]
  exact hoff fun h => hb h.1
end Go.Proofs.Ytilopoegoddggaa.X
namespace Go.Proofs.Ytilopoegoddggaa.X
open Go.RowKit Go.Proofs.YtilopoegoddggaaW.PrintWords Go.Proofs.YtilopoegoddggaaW.PrintLast Go.Proofs.YtilopoegoddggaaW.PrintMore
open Go.Proofs.Ytilopoegoddggaa.G
set_option linter.all false
theorem refnext_l0 (a0 a1 : Int) (bs : List S50) (l : List Int) (hl : l.length ≤ 3) : ∀ (d : Nat) (i : Int) (out : List Int), 0 ≤ i → i + d = l.length → out.length ≤ i.toNat →
  Evt (fun k => davitref07_Next.l0 k l out i a0 a1 bs) (out ++ (l.drop i.toNat).filter fun k => isB bs.length k)
 | 0, i, out, h0, h1, h2 => by
  refine Evt.succ ?_
  simp only [davitref07_Next.l0, if_neg (show ¬ i < (l.length : Int) by omega)]
  rw [List.drop_eq_nil_of_le (by omega), List.filter_nil, List.append_nil]
  exact Evt.pure _
 | d + 1, i, out, h0, h1, h2 => by
  have hlt : i < (l.length : Int) := by omega
  rw [rd_get h0 hlt]
  refine Evt.succ ?_
  simp only [davitref07_Next.l0, if_pos hlt, if_pos h0, wrap64_small (i + 1) (by omega) (by omega), if_pos (show out.length < 17592186044416 by omega)]
  by_cases e1 : rd l i ≥ 0
  ·by_cases e2 : rd l i < (bs.length : Int)
   ·simp only [if_pos e1, if_pos e2]
    have := refnext_l0 a0 a1 bs l hl d (i + 1) (out ++ [rd l i]) (by omega) (by omega) (by simp; omega)
    rw [List.filter_cons, if_pos ((isB_iff _ _).2 ⟨e1, e2⟩)]
    rw [List.append_assoc] at this
    exact this
   ·simp only [if_pos e1, if_neg e2]
    have := refnext_l0 a0 a1 bs l hl d (i + 1) out (by omega) (by omega) (by omega)
    rw [List.filter_cons, if_neg (fun h => e2 ((isB_iff _ _).1 h).2)]
    exact this
  ·simp only [if_neg e1]
   have := refnext_l0 a0 a1 bs l hl d (i + 1) out (by omega) (by omega) (by omega)
   rw [List.filter_cons, if_neg (fun h => e1 ((isB_iff _ _).1 h).1)]
   exact this
theorem refnext_ev (a0 a1 : Int) (bs : List S50) (n : Int) : Evt (fun k => davitref07_Next.f k a0 a1 bs n) (nextL bs n) := by
 have hoff : isB bs.length n = false → Evt (fun k => davitref07_Next.j0 k n true a0 a1 bs) (nextL bs n) := fun h => by
  refine Evt.succ ?_
  simp only [davitref07_Next.j0, if_pos, nextL, h, if_neg Bool.false_ne_true]
  exact Evt.pure _
 unfold davitref07_Next.f
 by_cases h1 : n < 0
 ·simp only [if_pos h1]
  exact hoff (by simp [isB]; omega)
 ·by_cases h2 : n ≥ (bs.length : Int)
  ·simp only [if_neg h1, decide_eq_true h2]
   exact hoff (by simp [isB]; omega)
  ·have hb : isB bs.length n = true := (isB_iff _ _).2 ⟨by omega, by omega⟩
   simp only [if_neg h1, decide_eq_false h2, nextL, hb, if_pos]
   have key : ∀ l : List Int, l = allL (rd_T50 bs n) → Evt (fun k => davitref07_Next.l0 k l [] 0 a0 a1 bs) ((allL (rd_T50 bs n)).filter fun k => isB bs.length k) := fun l e => by
    subst e
    have := refnext_l0 a0 a1 bs _ (allL_len (rd_T50 bs n)) _ 0 [] (by omega) (Int.zero_add _) (by simp)
    simpa using this
   refine Evt.succ ?_
   simp only [davitref07_Next.j0, if_neg Bool.false_ne_true, if_pos (show 0 ≤ n by omega), if_pos (show n < (bs.length : Int) by omega)]
   by_cases k2 : (rd_T50 bs n).f3.f0 = 2
   ·simp only [if_pos k2]
    refine Evt.succ ?_
    simp only [davitref07_Next.j1, if_pos, List.length_nil, if_pos (show 0 < 17592186044416 by omega)]
    refine Evt.succ ?_
    simp only [davitref07_Next.j2, k2, if_neg (show ¬ (2 : Int) = 3 by omega)]
    refine Evt.succ ?_
    simp only [davitref07_Next.j3, if_neg (show ¬ (2 : Int) = 4 by omega)]
    refine Evt.succ ?_
    simp only [davitref07_Next.j4]
    exact key _ (by simp [allL, goalsL, k2])
   ·by_cases k3 : (rd_T50 bs n).f3.f0 = 3
    ·simp only [if_neg k2, if_pos k3]
     refine Evt.succ ?_
     simp only [davitref07_Next.j1, if_pos, List.length_nil, if_pos (show 0 < 17592186044416 by omega)]
     refine Evt.succ ?_
     simp only [davitref07_Next.j2, k3, if_pos]
     simp only [List.nil_append, List.length_cons, List.length_nil, if_pos (show 0 + 1 < 17592186044416 by omega)]
     refine Evt.succ ?_
     simp only [davitref07_Next.j3, if_neg (show ¬ (3 : Int) = 4 by omega)]
     refine Evt.succ ?_
     simp only [davitref07_Next.j4]
     exact key _ (by simp [allL, goalsL, k3])
    ·simp only [if_neg k2, if_neg k3]
     by_cases k4 : (rd_T50 bs n).f3.f0 = 4
     ·simp only [k4]
      refine Evt.succ ?_
      simp only [davitref07_Next.j1, beq_self_eq_true, if_pos, List.length_nil, if_pos (show 0 < 17592186044416 by omega)]
      refine Evt.succ ?_
      simp only [davitref07_Next.j2, if_neg (show ¬ (4 : Int) = 3 by omega)]
      refine Evt.succ ?_
      simp only [davitref07_Next.j3, if_pos, List.nil_append, List.length_cons, List.length_nil, if_pos (show 0 + 1 < 17592186044416 by omega)]
      refine Evt.succ ?_
      simp only [davitref07_Next.j4]
      exact key _ (by simp [allL, goalsL, k4])
     ·refine Evt.succ ?_
      simp only [davitref07_Next.j1, show ((rd_T50 bs n).f3.f0 == 4) = false by simp [k4], if_neg Bool.false_ne_true]
      refine Evt.succ ?_
      simp only [davitref07_Next.j2, if_neg k3]
      refine Evt.succ ?_
      simp only [davitref07_Next.j3, if_neg k4]
      refine Evt.succ ?_
      simp only [davitref07_Next.j4]
      exact key _ (by simp [allL, goalsL, k2, k3, k4])
open Classical in
noncomputable def lst (P : Int → Prop) (N : Nat) : List Bool := (upTo N).map fun i => decide (P i)
theorem lst_len (P : Int → Prop) (N : Nat) : (lst P N).length = N := by simp [lst, upTo_len]
theorem upTo_get {N : Nat} {i : Nat} (h : i < N) : (upTo N)[i]? = some (i : Int) := by
 simp [upTo, List.getElem?_map, List.getElem?_range h]
open Classical in
theorem lst_rd (P : Int → Prop) {N : Nat} {i : Int} (h0 : 0 ≤ i) (h1 : i < N) : rdOf false (lst P N) i = decide (P i) := by
 unfold rdOf lst
 rw [List.getD_eq_getElem?_getD, List.getElem?_map, upTo_get (show i.toNat < N by omega)]
 simp only [Option.map_some, Option.getD_some]
 rw [show ((i.toNat : Nat) : Int) = i by omega]
open Classical in
theorem lst_eq {P : Int → Prop} {N : Nat} {s : List Bool} (hl : s.length = N) (h : ∀ i : Int, 0 ≤ i → i < N → (rdOf false s i = true ↔ P i)) : s = lst P N := by
 refine List.ext_getElem (by rw [hl, lst_len]) fun j h1 h2 => ?_
 have e1 : rdOf false s (j : Int) = s[j] := by unfold rdOf; simp [List.getD_eq_getElem?_getD, List.getElem?_eq_getElem h1]
 have e2 : rdOf false (lst P N) (j : Int) = (lst P N)[j] := by unfold rdOf; simp [List.getD_eq_getElem?_getD, List.getElem?_eq_getElem h2]
 have := h j (by omega) (by omega)
 rw [← e1, ← e2, lst_rd P (by omega) (by omega)]
 by_cases hp : P j
 ·rw [this.2 hp, decide_eq_true hp]
 ·rw [decide_eq_false hp]
  cases hb : rdOf false s (j : Int) with
  | false => rfl
  | true => exact absurd (this.1 hb) hp
section
variable {bs : List S50} {no : Int} (a0 a1 : Int)
structure Snd (bs : List S50) (P : Int → Prop) (s : List Bool) : Prop where
 len : s.length = bs.length
 snd : ∀ i : Int, 0 ≤ i → i < bs.length → rdOf false s i = true → P i
theorem Snd.set {P : Int → Prop} {s : List Bool} (h : Snd bs P s) {b : Int} (h0 : 0 ≤ b) (h1 : b < bs.length) (hp : P b) : Snd bs P (s.set b.toNat true) := by
 refine ⟨by rw [List.length_set]; exact h.len, fun i a c hi => ?_⟩
 rw [rdOf_set s b i true h0 (by have := h.len; omega) a] at hi
 by_cases e : i = b
 ·exact e ▸ hp
 ·rw [if_neg e] at hi; exact h.snd i a c hi
abbrev RW (bs : List S50) (no : Int) : Int → Prop := Rch bs.length (nextL bs) no
theorem without_l2 (hl : bs.length ≤ 1000) (R : List Bool) (c0 : Nat) (i : Int) (hi : 0 ≤ i) (hi1 : i < bs.length)
  (K : ∀ s more, Snd bs (RW bs no) s → rdOf false s 0 = true → (more = false → ∀ j : Int, 0 ≤ j → j < i + 1 → rdOf false s j = true → ∀ b ∈ nextL bs j, b ≠ no → rdOf false s b = true) → s.count false ≤ c0 → (more = true → s.count false < c0) → Evt (fun k => davitref07_Without.l1 k no s more (i + 1) a0 a1 bs) R) :
  ∀ (d : Nat) (p : Int) (s : List Bool) (more : Bool), 0 ≤ p → p + d = (nextL bs i).length → Snd bs (RW bs no) s → rdOf false s 0 = true →
   (more = false → ∀ j : Int, 0 ≤ j → j < i → rdOf false s j = true → ∀ b ∈ nextL bs j, b ≠ no → rdOf false s b = true) → (more = false → rdOf false s i = true → ∀ b ∈ (nextL bs i).take p.toNat, b ≠ no → rdOf false s b = true) → s.count false ≤ c0 → (more = true → s.count false < c0) →
   Evt (fun k => davitref07_Without.l2 k no s more i (nextL bs i) p a0 a1 bs) R
 | 0, p, s, more, h0, h1, hs, hz, hc, ht, hn, hm => by
  refine Evt.succ ?_
  simp only [davitref07_Without.l2, if_neg (show ¬ p < ((nextL bs i).length : Int) by omega), wrap64_small (i + 1) (by omega) (by omega)]
  refine K s more hs hz (fun e j j0 j1 hj b hb hbn => ?_) hn hm
  by_cases e' : j = i
  ·subst e'
   exact ht e hj b (by rw [List.take_of_length_le (by omega)]; exact hb) hbn
  ·exact hc e j j0 (by omega) hj b hb hbn
 | d + 1, p, s, more, h0, h1, hs, hz, hc, ht, hn, hm => by
  have hlt : p < ((nextL bs i).length : Int) := by omega
  have h3 := next_len bs i
  have hw := wrap64_small (p + 1) (by omega) (by omega)
  have hlen := hs.len
  have hmem := rd_mem h0 hlt
  have hv := (next_edges bs _ _ hmem).2
  have htk : (nextL bs i).take (p + 1).toNat = (nextL bs i).take p.toNat ++ [rd (nextL bs i) p] := by
   rw [show (p + 1).toNat = p.toNat + 1 by omega]
   exact take_one _ _ 0 (by omega)
  refine Evt.succ ?_
  cases hsi : rdOf false s i with
  | false =>
   simp only [davitref07_Without.l2, if_pos hlt, if_pos hi, if_pos (show i < (s.length : Int) by omega), hsi, if_neg Bool.false_ne_true, hw]
   exact without_l2 hl R c0 i hi hi1 K d (p + 1) s more (by omega) (by omega) hs hz hc (fun e h => by rw [hsi] at h; cases h) hn hm
  | true =>
   simp only [davitref07_Without.l2, if_pos hlt, if_pos hi, if_pos (show i < (s.length : Int) by omega), hsi, if_pos, if_pos h0, hw]
   by_cases e1 : rd (nextL bs i) p = no
   ·simp only [if_pos e1]
    exact without_l2 hl R c0 i hi hi1 K d (p + 1) s more (by omega) (by omega) hs hz hc (fun e h b hb hbn => by
     rw [htk] at hb
     rcases List.mem_append.1 hb with hb | hb
     ·exact ht e h b hb hbn
     ·exact absurd ((List.mem_singleton.1 hb).trans e1) hbn) hn hm
   ·simp only [if_neg e1, if_pos hv.1, if_pos (show rd (nextL bs i) p < (s.length : Int) by omega)]
    cases hsb : rdOf false s (rd (nextL bs i) p) with
    | true =>
     simp only [if_pos]
     exact without_l2 hl R c0 i hi hi1 K d (p + 1) s more (by omega) (by omega) hs hz hc (fun e h b hb hbn => by
      rw [htk] at hb
      rcases List.mem_append.1 hb with hb | hb
      ·exact ht e h b hb hbn
      ·rw [List.mem_singleton.1 hb]; exact hsb) hn hm
    | false =>
     simp only [if_neg Bool.false_ne_true]
     have hcn := count_unseen s _ hv.1 (by omega) hsb
     refine without_l2 hl R c0 i hi hi1 K d (p + 1) _ true (by omega) (by omega) (hs.set hv.1 hv.2 (.step (hs.snd i hi hi1 hsi) hmem e1)) ?_ (by simp) (by simp) (by omega) (fun _ => by omega)
     rw [rdOf_set s _ 0 true hv.1 (by omega) (by omega)]
     split
     ·rfl
     ·exact hz
theorem without_l1 (hl : bs.length ≤ 1000) (R : List Bool) (c0 : Nat)
  (K : ∀ s more, Snd bs (RW bs no) s → rdOf false s 0 = true → (more = false → ∀ j : Int, 0 ≤ j → j < bs.length → rdOf false s j = true → ∀ b ∈ nextL bs j, b ≠ no → rdOf false s b = true) → (more = true → s.count false < c0) → Evt (fun k => davitref07_Without.l0 k no s more a0 a1 bs) R) :
  ∀ (d : Nat) (i : Int) (s : List Bool) (more : Bool), 0 ≤ i → i + d = bs.length → Snd bs (RW bs no) s → rdOf false s 0 = true →
   (more = false → ∀ j : Int, 0 ≤ j → j < i → rdOf false s j = true → ∀ b ∈ nextL bs j, b ≠ no → rdOf false s b = true) → s.count false ≤ c0 → (more = true → s.count false < c0) →
   Evt (fun k => davitref07_Without.l1 k no s more i a0 a1 bs) R
 | 0, i, s, more, h0, h1, hs, hz, hc, hn, hm => by
  have hlen := hs.len
  refine Evt.succ ?_
  simp only [davitref07_Without.l1, if_neg (show ¬ i < (s.length : Int) by omega)]
  exact K s more hs hz (fun e j j0 j1 => hc e j j0 (by omega)) hm
 | d + 1, i, s, more, h0, h1, hs, hz, hc, hn, hm => by
  have hlen := hs.len
  refine Evt.succ ?_
  simp only [davitref07_Without.l1, if_pos (show i < (s.length : Int) by omega)]
  refine Evt.bind (refnext_ev a0 a1 bs i) ?_
  exact without_l2 a0 a1 hl R c0 i h0 (by omega) (fun s' more' q1 q2 q3 q4 q5 => without_l1 hl R c0 K d (i + 1) s' more' (by omega) (by omega) q1 q2 q3 q4 q5) _ 0 s more (by omega) (by rw [Int.zero_add]) hs hz hc (by simp) hn hm
theorem without_l0 (hl : bs.length ≤ 1000) : ∀ (c : Nat) (s : List Bool), Snd bs (RW bs no) s → rdOf false s 0 = true → s.count false ≤ c → Evt (fun k => davitref07_Without.l0 k no s true a0 a1 bs) (lst (RW bs no) bs.length) := by
 intro c
 induction c using Nat.strongRecOn with
 | ind c ih =>
  intro s hs hz hc
  refine Evt.succ ?_
  simp only [davitref07_Without.l0, if_pos]
  refine without_l1 a0 a1 hl _ c (fun s' more' q1 q2 q3 q4 => ?_) bs.length 0 s false (by omega) (by omega) hs hz (fun _ j j0 j1 => by omega) hc (by simp)
  cases more' with
  | true => exact ih _ (q4 rfl) s' q1 q2 (Nat.le_refl _)
  | false =>
   refine Evt.succ ?_
   simp only [davitref07_Without.l0, if_neg Bool.false_ne_true]
   rw [show s' = lst (RW bs no) bs.length from lst_eq q1.len fun i i0 i1 => ⟨q1.snd i i0 i1, fun h => ?_⟩]
   ·exact Evt.pure _
   ·induction h with
    | zero _ _ => exact q2
    | step ha hb hne ihh =>
     have hv := next_edges bs _ _ hb
     exact q3 rfl _ hv.1.1 hv.1.2 (ihh hv.1.1 hv.1.2) _ hb hne
theorem without_ev (hl : bs.length ≤ 1000) (no : Int) : Evt (fun k => davitref07_Without.f k a0 a1 bs no) (lst (RW bs no) bs.length) := by
 unfold davitref07_Without.f
 simp only [if_pos (show 0 ≤ (bs.length : Int) by omega), Int.toNat_natCast, if_pos (show bs.length ≤ 281474976710656 by omega), Option.bind_some, List.length_replicate]
 have hrep : ∀ i : Int, rdOf false (List.replicate bs.length false) i = false := by
  intro m
  unfold rdOf
  rw [List.getD_eq_getElem?_getD]
  by_cases h : m.toNat < bs.length
  ·rw [List.getElem?_replicate, if_pos h]; rfl
  ·rw [List.getElem?_replicate, if_neg h]; rfl
 have hoff : (∀ i, ¬ RW bs no i) → Evt (fun k => davitref07_Without.j0 k no (List.replicate bs.length false) true a0 a1 bs) (lst (RW bs no) bs.length) := fun h => by
  refine Evt.succ ?_
  simp only [davitref07_Without.j0, if_pos]
  rw [show List.replicate bs.length false = lst (RW bs no) bs.length from lst_eq (by simp) fun i i0 i1 => by rw [hrep i]; simp [h i]]
  exact Evt.pure _
 by_cases h0 : bs.length = 0
 ·simp only [if_pos (show (bs.length : Int) = 0 by omega)]
  exact hoff fun i h => by have := h.inV (next_edges bs); omega
 ·simp only [if_neg (show ¬ (bs.length : Int) = 0 by omega)]
  by_cases e : no = 0
  ·simp only [show (no == 0) = true by simp [e]]
   exact hoff fun i h => by subst e; exact no_rch0 h
  ·simp only [show (no == 0) = false by simp [e]]
   refine Evt.succ ?_
   simp only [davitref07_Without.j0, if_neg Bool.false_ne_true, List.length_replicate, if_pos (show 0 < (bs.length : Int) by omega)]
   refine without_l0 a0 a1 hl _ _ (Snd.set ⟨by simp, fun i _ _ h => by rw [hrep i] at h; cases h⟩ (by omega) (by omega) (.zero (by omega) (fun h => e h.symm))) ?_ (Nat.le_refl _)
   have := rdOf_set (List.replicate bs.length false) 0 0 true (by omega) (by simp; omega) (by omega)
   rw [this, if_pos rfl]
theorem refreached_ev (hl : bs.length ≤ 1000) : Evt (fun k => davitref07_Reached.f k a0 a1 bs) (lst (RR bs) bs.length) := by
 unfold davitref07_Reached.f
 exact Evt.bind (without_ev a0 a1 hl (-1)) (Evt.pure _)
open Classical in
theorem refis_ev (hl : bs.length ≤ 1000) (a b : Int) : Evt (fun k => davitref08_Is.f k a0 a1 bs a b) (decide (DD bs a b)) := by
 have hoff : ¬ DD bs a b → Evt (fun _ => some false) (decide (DD bs a b)) := fun h => by
  rw [decide_eq_false h]
  exact Evt.pure _
 unfold davitref08_Is.f
 by_cases h1 : a < 0
 ·simp only [if_pos h1]
  exact hoff fun h => by have := h.2.1; omega
 simp only [if_neg h1]
 by_cases h2 : a ≥ (bs.length : Int)
 ·simp only [if_pos h2]
  exact hoff fun h => by have := h.2.1; omega
 simp only [if_neg h2]
 by_cases h3 : b < 0
 ·simp only [if_pos h3]
  exact hoff fun h => by have := h.1.inV (next_edges bs); omega
 simp only [if_neg h3]
 by_cases h4 : b ≥ (bs.length : Int)
 ·simp only [if_pos h4]
  exact hoff fun h => by have := h.1.inV (next_edges bs); omega
 simp only [if_neg h4]
 refine Evt.bind (refreached_ev a0 a1 hl) ?_
 simp only [if_pos (show 0 ≤ b by omega), lst_len, if_pos (show b < (bs.length : Int) by omega), lst_rd (RR bs) (show 0 ≤ b by omega) (show b < (bs.length : Int) by omega)]
 by_cases hb : RR bs b
 ·simp only [decide_eq_true hb, if_pos]
  by_cases e : a = b
  ·simp only [if_pos e]
   rw [decide_eq_true (show DD bs a b by rw [e]; exact Dom.refl (next_edges bs) hb)]
   exact Evt.pure _
  ·simp only [if_neg e]
   refine Evt.bind (without_ev a0 a1 hl a) ?_
   simp only [lst_len, if_pos (show b < (bs.length : Int) by omega), lst_rd (RW bs a) (show 0 ≤ b by omega) (show b < (bs.length : Int) by omega)]
   rw [show decide (DD bs a b) = !decide (RW bs a b) by
    by_cases hw : RW bs a b
    ·rw [decide_eq_true hw, decide_eq_false (fun h : DD bs a b => h.2.2.elim e (fun h => h hw))]; rfl
    ·rw [decide_eq_false hw, decide_eq_true (show DD bs a b from ⟨hb, ⟨by omega, by omega⟩, .inr hw⟩)]; rfl]
   exact Evt.pure _
 ·simp only [decide_eq_false hb, if_neg Bool.false_ne_true]
  exact hoff fun h => hb h.1
end
end Go.Proofs.Ytilopoegoddggaa.X
namespace Go.Proofs.Ytilopoegoddggaa.X
open Go.RowKit Go.Proofs.YtilopoegoddggaaW.PrintWords Go.Proofs.YtilopoegoddggaaW.PrintLast Go.Proofs.YtilopoegoddggaaW.PrintMore
open Go.Proofs.Ytilopoegoddggaa.G
open Classical
set_option linter.all false
noncomputable def allT (bs : List S50) : List (List Bool) := (upTo bs.length).map fun a => lst (DD bs a) bs.length
theorem allT_len (bs : List S50) : (allT bs).length = bs.length := by simp [allT, upTo_len]
theorem allT_rd (bs : List S50) {a : Int} (h0 : 0 ≤ a) (h1 : a < bs.length) : rd_L12 (allT bs) a = lst (DD bs a) bs.length := by
 unfold rd_L12 allT
 rw [List.getD_eq_getElem?_getD, List.getElem?_map, upTo_get (show a.toNat < bs.length by omega)]
 simp only [Option.map_some, Option.getD_some]
 rw [show ((a.toNat : Nat) : Int) = a by omega]
section
variable {bs : List S50} (a0 a1 : Int)
theorem all_l1 (hl : bs.length ≤ 1000) (R : List (List Bool)) (out : List (List Bool)) (ho : out.length ≤ 1000) (a : Int) (ha : 0 ≤ a ∧ a < bs.length)
  (K : Evt (fun k => davitref08_All.l0 k (lst (RR bs) bs.length) (out ++ [lst (DD bs a) bs.length]) (a + 1) a0 a1 bs) R) :
  ∀ (d : Nat) (i : Int) (row : List Bool), 0 ≤ i → i + d = bs.length → row.length = bs.length → (∀ j : Int, 0 ≤ j → j < i → (rdOf false row j = true ↔ DD bs a j)) →
   Evt (fun k => davitref08_All.l1 k (lst (RR bs) bs.length) out a (lst (RW bs a) bs.length) row i a0 a1 bs) R
 | 0, i, row, h0, h1, hr, hj => by
  refine Evt.succ ?_
  simp only [davitref08_All.l1, if_neg (show ¬ i < (bs.length : Int) by omega), if_pos (show out.length < 5864062014805 by omega), wrap64_small (a + 1) (by omega) (by omega)]
  rw [show row = lst (DD bs a) bs.length from lst_eq hr fun j j0 j1 => hj j j0 (by omega)]
  exact K
 | d + 1, i, row, h0, h1, hr, hj => by
  have hi : i < (bs.length : Int) := by omega
  refine Evt.succ ?_
  have step : ∀ b : Bool, (b = true ↔ DD bs a i) → Evt (fun k => davitref08_All.l1 k (lst (RR bs) bs.length) out a (lst (RW bs a) bs.length) (row.set i.toNat b) (i + 1) a0 a1 bs) R := fun b hb => by
   refine all_l1 hl R out ho a ha K d (i + 1) _ (by omega) (by omega) (by rw [List.length_set]; exact hr) fun j j0 j1 => ?_
   rw [rdOf_set row i j b h0 (by omega) j0]
   by_cases e : j = i
   ·rw [if_pos e, e]; exact hb
   ·rw [if_neg e]; exact hj j j0 (by omega)
  simp only [davitref08_All.l1, if_pos hi, if_pos h0, lst_len, hr, lst_rd (RR bs) h0 hi, lst_rd (RW bs a) h0 hi, wrap64_small (i + 1) (by omega) (by omega)]
  by_cases hR : RR bs i
  ·simp only [decide_eq_true hR, if_pos]
   by_cases e : a = i
   ·simp only [if_pos e]
    exact step true ⟨fun _ => by rw [e]; exact Dom.refl (next_edges bs) hR, fun _ => rfl⟩
   ·simp only [if_neg e]
    refine step _ ?_
    by_cases hw : RW bs a i
    ·rw [decide_eq_true hw]
     exact ⟨fun h => (by simp at h), fun h => absurd hw (h.2.2.resolve_left e)⟩
    ·rw [decide_eq_false hw]
     exact ⟨fun _ => ⟨hR, by omega, .inr hw⟩, fun _ => rfl⟩
  ·simp only [decide_eq_false hR, if_neg Bool.false_ne_true]
   exact step false ⟨fun h => (by cases h), fun h => absurd h.1 hR⟩
theorem all_l0 (hl : bs.length ≤ 1000) : ∀ (d : Nat) (a : Int), 0 ≤ a → a + d = bs.length → Evt (fun k => davitref08_All.l0 k (lst (RR bs) bs.length) ((upTo a.toNat).map fun a => lst (DD bs a) bs.length) a a0 a1 bs) (allT bs)
 | 0, a, h0, h1 => by
  refine Evt.succ ?_
  simp only [davitref08_All.l0, if_neg (show ¬ a < (bs.length : Int) by omega)]
  rw [show a.toNat = bs.length by omega]
  exact Evt.pure _
 | d + 1, a, h0, h1 => by
  have ha : a < (bs.length : Int) := by omega
  refine Evt.succ ?_
  simp only [davitref08_All.l0, if_pos ha]
  refine Evt.bind (without_ev a0 a1 hl a) ?_
  simp only [if_pos (show 0 ≤ (bs.length : Int) by omega), Int.toNat_natCast, if_pos (show bs.length ≤ 281474976710656 by omega)]
  refine all_l1 a0 a1 hl _ _ (by simp [upTo_len]; omega) a ⟨h0, ha⟩ ?_ bs.length 0 _ (by omega) (by omega) (by simp) (fun j j0 j1 => by omega)
  have := all_l0 hl d (a + 1) (by omega) (by omega)
  rw [show (a + 1).toNat = a.toNat + 1 by omega, upTo_succ, List.map_append, List.map_cons, List.map_nil, show ((a.toNat : Nat) : Int) = a by omega] at this
  exact this
theorem refall_ev (hl : bs.length ≤ 1000) : Evt (fun k => davitref08_All.f k a0 a1 bs) (allT bs) := by
 unfold davitref08_All.f
 exact Evt.bind (refreached_ev a0 a1 hl) (all_l0 a0 a1 hl bs.length 0 (by omega) (by omega))
def IsNext (bs : List S50) (a b : Int) : Prop := a ≠ b ∧ DD bs a b ∧ ∀ c : Int, 0 ≤ c → c < bs.length → c ≠ b → DD bs c b → DD bs c a
theorem isNext_iff {r : List Int} {place o : Int → Int} (H : OverOk bs r place o) {a b : Int} : IsNext bs a b ↔ RR bs b ∧ b ≠ 0 ∧ a = o b := by
 constructor
 ·rintro ⟨h1, h2, h3⟩
  have hb := h2.1
  have b0 : b ≠ 0 := fun e => by subst e; exact h1 h2.at_zero
  refine ⟨hb, b0, ?_⟩
  obtain ⟨u1, u2, u3⟩ := H.tree.up b hb b0 (H.done b hb)
  have ho : Anc o (o b) b := .up b0 (.refl _)
  have hov := u1.inV (next_edges bs)
  have h4 := h3 (o b) hov.1 hov.2 (fun e => by rw [e] at u3; omega) ((H.anc _ b hb).1 ho)
  have h5 := ((H.anc a b hb).2 h2).cases_ne h1
  have hra : RR bs a := h4.1
  exact (H.tree.antisymm ((H.anc _ a hra).2 h4) h5.2 hra (H.done a hra)).symm
 ·rintro ⟨hb, b0, rfl⟩
  obtain ⟨u1, u2, u3⟩ := H.tree.up b hb b0 (H.done b hb)
  refine ⟨fun e => by rw [e] at u3; omega, (H.anc _ b hb).1 (.up b0 (.refl _)), fun c _ _ hc hd => ?_⟩
  exact (H.anc c _ u1).1 (((H.anc c b hb).2 hd).cases_ne hc).2
theorem rover_l2 (hl : bs.length ≤ 1000) (R : List Int) (out : List Int) (a b x6 : Int) (ha : 0 ≤ a ∧ a < bs.length) (hb : 0 ≤ b ∧ b < bs.length)
  (K : Evt (fun k => davitref08_Over.l1 k (allT bs) out b (if (∀ c : Int, 0 ≤ c → c < bs.length → c ≠ b → DD bs c b → DD bs c a) then a else x6) (a + 1)) R) :
  ∀ (d : Nat) (i : Int) (last : Bool), 0 ≤ i → i + d = bs.length → (last = true ↔ ∀ c : Int, 0 ≤ c → c < i → c ≠ b → DD bs c b → DD bs c a) → Evt (fun k => davitref08_Over.l2 k (allT bs) out b x6 a last i) R
 | 0, i, last, h0, h1, hx => by
  refine Evt.succ ?_
  have e : i = bs.length := by omega
  simp only [davitref08_Over.l2, allT_len, if_neg (show ¬ i < (bs.length : Int) by omega), wrap64_small (a + 1) (by omega) (by omega)]
  rw [e] at hx
  by_cases hc : last = true
  ·rw [if_pos (hx.1 hc)] at K
   simp only [if_pos hc]
   exact K
  ·rw [if_neg (fun h => hc (hx.2 h))] at K
   simp only [if_neg hc]
   exact K
 | d + 1, i, last, h0, h1, hx => by
  have hi : i < (bs.length : Int) := by omega
  refine Evt.succ ?_
  simp only [davitref08_Over.l2, allT_len, if_pos hi, if_pos h0, if_pos hb.1, allT_rd bs h0 hi, lst_len, if_pos hb.2, lst_rd _ hb.1 hb.2, lst_rd _ ha.1 ha.2, if_pos ha.1, if_pos ha.2, wrap64_small (i + 1) (by omega) (by omega)]
  by_cases e : i = b
  ·simp only [if_pos e]
   refine rover_l2 hl R out a b x6 ha hb K d (i + 1) last (by omega) (by omega) (hx.trans ⟨fun h c c0 c1 c2 => h c c0 (by omega) c2, fun h c c0 c1 => h c c0 (by omega)⟩)
  ·simp only [if_neg e]
   by_cases h2 : DD bs i b
   ·simp only [decide_eq_true h2, if_pos]
    by_cases h3 : DD bs i a
    ·simp only [decide_eq_true h3, if_pos]
     refine rover_l2 hl R out a b x6 ha hb K d (i + 1) last (by omega) (by omega) (hx.trans ⟨fun h c c0 c1 c2 c3 => ?_, fun h c c0 c1 => h c c0 (by omega)⟩)
     by_cases ec : c = i
     ·rw [ec]; exact h3
     ·exact h c c0 (by omega) c2 c3
    ·simp only [decide_eq_false h3, if_neg Bool.false_ne_true]
     exact rover_l2 hl R out a b x6 ha hb K d (i + 1) false (by omega) (by omega) ⟨fun h => (by cases h), fun h => absurd (h i h0 (by omega) e h2) h3⟩
   ·simp only [decide_eq_false h2, if_neg Bool.false_ne_true]
    refine rover_l2 hl R out a b x6 ha hb K d (i + 1) last (by omega) (by omega) (hx.trans ⟨fun h c c0 c1 c2 c3 => ?_, fun h c c0 c1 => h c c0 (by omega)⟩)
    by_cases ec : c = i
    ·rw [ec] at c3; exact absurd c3 h2
    ·exact h c c0 (by omega) c2 c3
theorem rover_l1 (hl : bs.length ≤ 1000) {r : List Int} {place o : Int → Int} (H : OverOk bs r place o) (R : List Int) (out : List Int) (hout : out.length ≤ 1000) (b : Int) (hb : 0 ≤ b ∧ b < bs.length)
  (K : Evt (fun k => davitref08_Over.l0 k (allT bs) (out ++ [rd r b]) (b + 1)) R) :
  ∀ (d : Nat) (i : Int) (x6 : Int), 0 ≤ i → i + d = bs.length → ((x6 = -1 ∧ ∀ a : Int, 0 ≤ a → a < i → ¬ IsNext bs a b) ∨ IsNext bs x6 b) → Evt (fun k => davitref08_Over.l1 k (allT bs) out b x6 i) R
 | 0, i, x6, h0, h1, hx => by
  refine Evt.succ ?_
  simp only [davitref08_Over.l1, allT_len, if_neg (show ¬ i < (bs.length : Int) by omega), if_pos (show out.length < 17592186044416 by omega), wrap64_small (b + 1) (by omega) (by omega)]
  have : x6 = rd r b := by
   rw [H.rd b hb.1 hb.2]
   rcases hx with ⟨hx, hn⟩ | hx
   ·by_cases b0 : b = 0
    ·rw [if_pos b0, hx]
    ·rw [if_neg b0]
     by_cases hR : RR bs b
     ·have hv := (H.tree.up b hR b0 (H.done b hR)).1.inV (next_edges bs)
      exact absurd ((isNext_iff H).2 ⟨hR, b0, rfl⟩) (hn (o b) hv.1 (by omega))
     ·rw [hx, H.tree.neg b hb.1 hb.2 hR]
   ·obtain ⟨q1, q2, q3⟩ := (isNext_iff H).1 hx
    rw [if_neg q2]; exact q3
  rw [this]
  exact K
 | d + 1, i, x6, h0, h1, hx => by
  have hi : i < (bs.length : Int) := by omega
  have skip : ¬ IsNext bs i b → Evt (fun k => davitref08_Over.l1 k (allT bs) out b x6 (i + 1)) R := fun hn => by
   refine rover_l1 hl H R out hout b hb K d (i + 1) x6 (by omega) (by omega) (hx.imp (fun h => ⟨h.1, fun a a0 a1 => ?_⟩) id)
   by_cases e : a = i
   ·rw [e]; exact hn
   ·exact h.2 a a0 (by omega)
  refine Evt.succ ?_
  simp only [davitref08_Over.l1, allT_len, if_pos hi, if_pos h0, if_pos hb.1, allT_rd bs h0 hi, lst_len, if_pos hb.2, lst_rd _ hb.1 hb.2]
  by_cases e : i = b
  ·simp only [if_pos e]
   refine Evt.succ ?_
   simp only [davitref08_Over.j2, if_pos, wrap64_small (i + 1) (by omega) (by omega)]
   exact skip fun h => h.1 e
  ·simp only [if_neg e]
   refine Evt.succ ?_
   by_cases h2 : DD bs i b
   ·simp only [davitref08_Over.j2, decide_eq_true h2, Bool.not_true, if_neg Bool.false_ne_true]
    refine rover_l2 hl R out i b x6 ⟨h0, hi⟩ hb ?_ bs.length 0 true (by omega) (by omega) ⟨fun _ c c0 c1 => by omega, fun _ => rfl⟩
    by_cases h3 : ∀ c : Int, 0 ≤ c → c < bs.length → c ≠ b → DD bs c b → DD bs c i
    ·rw [if_pos h3]
     exact rover_l1 hl H R out hout b hb K d (i + 1) i (by omega) (by omega) (.inr ⟨e, h2, h3⟩)
    ·rw [if_neg h3]
     exact skip fun h => h3 h.2.2
   ·simp only [davitref08_Over.j2, decide_eq_false h2, Bool.not_false, if_pos, wrap64_small (i + 1) (by omega) (by omega)]
    exact skip fun h => h2 h.2.1
theorem rover_l0 (hl : bs.length ≤ 1000) {r : List Int} {place o : Int → Int} (H : OverOk bs r place o) : ∀ (d : Nat) (b : Int), 0 ≤ b → b + d = bs.length → Evt (fun k => davitref08_Over.l0 k (allT bs) (r.take b.toNat) b) r
 | 0, b, h0, h1 => by
  refine Evt.succ ?_
  simp only [davitref08_Over.l0, allT_len, if_neg (show ¬ b < (bs.length : Int) by omega)]
  rw [List.take_of_length_le (by have := H.len; omega)]
  exact Evt.pure _
 | d + 1, b, h0, h1 => by
  have hb : b < (bs.length : Int) := by omega
  refine Evt.succ ?_
  simp only [davitref08_Over.l0, allT_len, if_pos hb]
  refine rover_l1 hl H r _ (by have := H.len; simp; omega) b ⟨h0, hb⟩ ?_ bs.length 0 (-1) (by omega) (by omega) (.inl ⟨rfl, fun a a0 a1 => by omega⟩)
  have := rover_l0 hl H d (b + 1) (by omega) (by omega)
  rw [show (b + 1).toNat = b.toNat + 1 by omega, take_one r b.toNat 0 (by have := H.len; omega)] at this
  exact this
theorem refover_ev (hl : bs.length ≤ 1000) {r : List Int} {place o : Int → Int} (H : OverOk bs r place o) : Evt (fun k => davitref08_Over.f k a0 a1 bs) r := by
 unfold davitref08_Over.f
 exact Evt.bind (refall_ev a0 a1 hl) (by simpa using rover_l0 hl H bs.length 0 (by omega) (by omega))
end
end Go.Proofs.Ytilopoegoddggaa.X
namespace Go.Proofs.Ytilopoegoddggaa.X
open Go.RowKit Go.Proofs.YtilopoegoddggaaW.PrintWords Go.Proofs.YtilopoegoddggaaW.PrintLast Go.Proofs.YtilopoegoddggaaW.PrintMore
open Go.Proofs.Ytilopoegoddggaa.G
open Classical
set_option linter.all false
theorem strict_ext : ∀ (l l' : List Int), l.Pairwise (· < ·) → l'.Pairwise (· < ·) → (∀ x, x ∈ l ↔ x ∈ l') → l = l'
 | [], [], _, _, _ => rfl
 | [], y :: l', _, _, h => absurd ((h y).2 (List.mem_cons_self ..)) (by simp)
 | x :: l, [], _, _, h => absurd ((h x).1 (List.mem_cons_self ..)) (by simp)
 | x :: l, y :: l', h1, h2, h => by
  obtain ⟨a1, a2⟩ := List.pairwise_cons.1 h1
  obtain ⟨b1, b2⟩ := List.pairwise_cons.1 h2
  have e : x = y := by
   rcases List.mem_cons.1 ((h x).1 (List.mem_cons_self ..)) with e | e
   ·exact e
   ·rcases List.mem_cons.1 ((h y).2 (List.mem_cons_self ..)) with e' | e'
    ·exact e'.symm
    ·have := a1 y e'; have := b1 x e; omega
  subst e
  congr 1
  refine strict_ext l l' a2 b2 fun z => ⟨fun hz => ?_, fun hz => ?_⟩
  ·rcases List.mem_cons.1 ((h z).1 (List.mem_cons_of_mem _ hz)) with e | e
   ·have := a1 z hz; omega
   ·exact e
  ·rcases List.mem_cons.1 ((h z).2 (List.mem_cons_of_mem _ hz)) with e | e
   ·have := b1 z hz; omega
   ·exact e
theorem upTo_strict : ∀ n, (upTo n).Pairwise (· < ·)
 | 0 => by simp [upTo]
 | n + 1 => by
  rw [upTo_succ]
  refine List.pairwise_append.2 ⟨upTo_strict n, by simp, fun a ha b hb => ?_⟩
  rw [List.mem_singleton.1 hb]
  exact (mem_upTo.1 ha).2
theorem compact_up (d : Array Int) (hs : ∀ i j, i ≤ j → j < d.size → d[i]! ≤ d[j]!) : ∀ m, m ≤ d.size →
  (Lib.compactUpTo d m).Pairwise (· < ·) ∧ (∀ x ∈ Lib.compactUpTo d m, ∃ j, j < m ∧ x = d[j]!) ∧ (∀ j, j < m → d[j]! ∈ Lib.compactUpTo d m)
 | 0, _ => by simp [Lib.compactUpTo]
 | m + 1, hm => by
  obtain ⟨h1, h2, h3⟩ := compact_up d hs m (by omega)
  rw [Lib.compactUpTo_succ]
  by_cases hk : Lib.keeps d m = true
  ·rw [if_pos hk]
   refine ⟨List.pairwise_append.2 ⟨h1, by simp, fun a ha b hb => ?_⟩, fun x hx => ?_, fun j hj => ?_⟩
   ·rw [List.mem_singleton.1 hb]
    obtain ⟨j, hj, rfl⟩ := h2 a ha
    have q1 := hs j (m - 1) (by omega) (by omega)
    have q2 := hs (m - 1) m (by omega) (by omega)
    have q3 : d[m]! ≠ d[m - 1]! := by
     intro e
     rw [Lib.keeps_neg (by omega) e] at hk
     cases hk
    omega
   ·rcases List.mem_append.1 hx with hx | hx
    ·obtain ⟨j, hj, e⟩ := h2 x hx
     exact ⟨j, by omega, e⟩
    ·exact ⟨m, by omega, List.mem_singleton.1 hx⟩
   ·by_cases e : j = m
    ·exact List.mem_append_right _ (by rw [e]; simp)
    ·exact List.mem_append_left _ (h3 j (by omega))
  ·rw [if_neg hk, List.append_nil]
   refine ⟨h1, fun x hx => ?_, fun j hj => ?_⟩
   ·obtain ⟨j, hj, e⟩ := h2 x hx
    exact ⟨j, by omega, e⟩
   ·by_cases e : j = m
    ·subst e
     have q : j ≠ 0 ∧ d[j]! = d[j - 1]! := by
      unfold Lib.keeps at hk
      simpa using hk
     rw [q.2]
     exact h3 (j - 1) (by omega)
    ·exact h3 j (by omega)
theorem sorted_compact (l : List Int) : (Lib.compact (l.mergeSort fun x y => decide (x ≤ y))).Pairwise (· < ·) ∧ ∀ x, x ∈ Lib.compact (l.mergeSort fun x y => decide (x ≤ y)) ↔ x ∈ l := by
 have hp := List.pairwise_mergeSort (le := fun x y : Int => decide (x ≤ y)) (fun a b c h1 h2 => by simp at h1 h2 ⊢; omega) (fun a b => by simp; omega) l
 generalize hz : (l.mergeSort fun x y => decide (x ≤ y)) = zs at hp ⊢
 have hm : ∀ x, x ∈ zs ↔ x ∈ l := fun x => by rw [← hz]; exact List.mem_mergeSort
 have hget : ∀ j (h : j < zs.length), zs.toArray[j]! = zs[j] := fun j h => by simp [getElem!_pos, h]
 have hs : ∀ i j, i ≤ j → j < zs.toArray.size → zs.toArray[i]! ≤ zs.toArray[j]! := fun i j hij hj => by
  have hj' : j < zs.length := by simpa using hj
  rw [hget j hj', hget i (by omega)]
  by_cases e : i = j
  ·subst e; exact Int.le_refl _
  ·have := List.pairwise_iff_getElem.1 hp i j (by omega) hj' (by omega)
   simpa using this
 obtain ⟨h1, h2, h3⟩ := compact_up zs.toArray hs zs.length (by simp)
 refine ⟨h1, fun x => (⟨fun hx => ?_, fun hx => ?_⟩ : _ ↔ x ∈ zs).trans (hm x)⟩
 ·obtain ⟨j, hj, rfl⟩ := h2 x hx
  rw [hget j hj]; exact List.getElem_mem hj
 ·obtain ⟨j, hj, rfl⟩ := List.getElem_of_mem hx
  have := h3 j hj
  rw [hget j hj] at this
  exact this
section
variable {bs : List S50} (a0 a1 : Int)
def IsEdge (bs : List S50) (n k : Int) : Prop := (∃ b, DD bs n b ∧ k ∈ nextL bs b) ∧ (k = n ∨ ¬ DD bs n k)
noncomputable def edgeL (bs : List S50) (n : Int) : List Int := (upTo bs.length).filter fun k => decide (IsEdge bs n k)
theorem mem_edge {n k : Int} : k ∈ edgeL bs n ↔ IsEdge bs n k := by
 unfold edgeL
 rw [List.mem_filter, mem_upTo, decide_eq_true_eq]
 exact ⟨fun h => h.2, fun h => ⟨by obtain ⟨b, _, hb⟩ := h.1; exact (next_edges bs _ _ hb).2, h⟩⟩
theorem edge_len (n : Int) : (edgeL bs n).length ≤ bs.length := by
 unfold edgeL
 exact Nat.le_trans (List.length_filter_le _ _) (by rw [upTo_len]; exact Nat.le_refl _)
theorem redge_l1 (hl : bs.length ≤ 1000) (n : Int) (R : List Int) (out : List Int) (hout : out.length ≤ 1000) (k : Int) (hk : 0 ≤ k ∧ k < bs.length)
  (K : Evt (fun f => davitref08_Edge.l0 f n (allT bs) (out ++ (if IsEdge bs n k then [k] else [])) (k + 1) a0 a1 bs) R) :
  ∀ (d : Nat) (i : Int) (found : Bool), 0 ≤ i → i + d = bs.length → (found = true ↔ ∃ b, b < i ∧ DD bs n b ∧ k ∈ nextL bs b) → Evt (fun f => davitref08_Edge.l1 f n (allT bs) out k found i a0 a1 bs) R
 | 0, i, found, h0, h1, hx => by
  have hw := wrap64_small (k + 1) (by omega) (by omega)
  have hE : found = true ↔ ∃ b, DD bs n b ∧ k ∈ nextL bs b := hx.trans ⟨fun ⟨b, _, h⟩ => ⟨b, h⟩, fun ⟨b, h⟩ => ⟨b, by have := (next_edges bs _ _ h.2).1; omega, h⟩⟩
  refine Evt.succ ?_
  simp only [davitref08_Edge.l1, allT_len, if_neg (show ¬ i < (bs.length : Int) by omega), hw, if_pos (show out.length < 17592186044416 by omega)]
  cases hf : found with
  | false =>
   simp only [if_neg Bool.false_ne_true]
   rw [if_neg (fun h => by rw [hE.2 h.1] at hf; cases hf), List.append_nil] at K
   exact K
  | true =>
   have hb := hE.1 hf
   obtain ⟨b, hb1, hb2⟩ := hb
   have hn := hb1.2.1
   simp only [if_pos]
   by_cases e : k = n
   ·simp only [if_pos e]
    rw [if_pos (show IsEdge bs n k from ⟨⟨b, hb1, hb2⟩, .inl e⟩)] at K
    exact K
   ·simp only [if_neg e, if_pos hn.1, if_pos hn.2, if_pos hk.1, allT_rd bs hn.1 hn.2, lst_len, if_pos hk.2, lst_rd _ hk.1 hk.2]
    by_cases h2 : DD bs n k
    ·simp only [decide_eq_true h2, if_pos]
     rw [if_neg (fun h => h.2.elim e (fun h => h h2)), List.append_nil] at K
     exact K
    ·simp only [decide_eq_false h2, if_neg Bool.false_ne_true]
     rw [if_pos (show IsEdge bs n k from ⟨⟨b, hb1, hb2⟩, .inr h2⟩)] at K
     exact K
 | d + 1, i, found, h0, h1, hx => by
  have hi : i < (bs.length : Int) := by omega
  have hw := wrap64_small (i + 1) (by omega) (by omega)
  have skip : ¬ (DD bs n i ∧ k ∈ nextL bs i) → Evt (fun f => davitref08_Edge.l1 f n (allT bs) out k found (i + 1) a0 a1 bs) R := fun hn =>
   redge_l1 hl n R out hout k hk K d (i + 1) found (by omega) (by omega) (hx.trans ⟨fun ⟨b, q, h⟩ => ⟨b, by omega, h⟩, fun ⟨b, q, h⟩ => ⟨b, by
    have : b ≠ i := fun e => hn (e ▸ h)
    omega, h⟩⟩)
  refine Evt.succ ?_
  simp only [davitref08_Edge.l1, allT_len, if_pos hi, hw]
  by_cases n0 : n ≥ 0
  ·by_cases n1 : n < (bs.length : Int)
   ·simp only [if_pos n0, if_pos n1, if_pos (show 0 ≤ n from n0), if_pos h0, allT_rd bs n0 n1, lst_len, if_pos hi, lst_rd _ h0 hi]
    by_cases h2 : DD bs n i
    ·simp only [decide_eq_true h2, if_pos]
     refine Evt.bind (refnext_ev a0 a1 bs i) (Evt.bind (has_ev _ _ (by have := next_len bs i; omega)) ?_)
     by_cases h3 : k ∈ nextL bs i
     ·simp only [decide_eq_true h3, if_pos]
      exact redge_l1 hl n R out hout k hk K d (i + 1) true (by omega) (by omega) ⟨fun _ => ⟨i, by omega, h2, h3⟩, fun _ => rfl⟩
     ·simp only [decide_eq_false h3, if_neg Bool.false_ne_true]
      exact skip fun h => h3 h.2
    ·simp only [decide_eq_false h2, if_neg Bool.false_ne_true]
     exact skip fun h => h2 h.1
   ·simp only [if_pos n0, if_neg n1]
    exact skip fun h => n1 h.1.2.1.2
  ·simp only [if_neg n0]
   exact skip fun h => n0 h.1.2.1.1
theorem redge_l0 (hl : bs.length ≤ 1000) (n : Int) : ∀ (d : Nat) (k : Int), 0 ≤ k → k + d = bs.length → Evt (fun f => davitref08_Edge.l0 f n (allT bs) ((upTo k.toNat).filter fun k => decide (IsEdge bs n k)) k a0 a1 bs) (edgeL bs n)
 | 0, k, h0, h1 => by
  refine Evt.succ ?_
  simp only [davitref08_Edge.l0, allT_len, if_neg (show ¬ k < (bs.length : Int) by omega)]
  rw [show k.toNat = bs.length by omega]
  exact Evt.pure _
 | d + 1, k, h0, h1 => by
  have hk : k < (bs.length : Int) := by omega
  refine Evt.succ ?_
  simp only [davitref08_Edge.l0, allT_len, if_pos hk]
  refine redge_l1 a0 a1 hl n _ _ (Nat.le_trans (List.length_filter_le _ _) (by rw [upTo_len]; omega)) k ⟨h0, hk⟩ ?_ bs.length 0 false (by omega) (by omega) ⟨fun h => (by cases h), fun ⟨b, q, h, h'⟩ => by have := (next_edges bs _ _ h').1; omega⟩
  have := redge_l0 hl n d (k + 1) (by omega) (by omega)
  rw [show (k + 1).toNat = k.toNat + 1 by omega, upTo_succ, List.filter_append, show ((k.toNat : Nat) : Int) = k by omega] at this
  rw [show (if IsEdge bs n k then [k] else []) = List.filter (fun k => decide (IsEdge bs n k)) [k] by
   by_cases h : IsEdge bs n k <;> simp [h]]
  exact this
theorem refedge_ev (hl : bs.length ≤ 1000) (n : Int) : Evt (fun f => davitref08_Edge.f f a0 a1 bs n) (edgeL bs n) := by
 unfold davitref08_Edge.f
 exact Evt.bind (refall_ev a0 a1 hl) (redge_l0 a0 a1 hl n bs.length 0 (by omega) (by omega))
theorem edge_l1 (hl : bs.length ≤ 1000) (n : Int) (R : List Int) (b : Int) (hb : 0 ≤ b ∧ b < bs.length)
  (K : ∀ out, out.length ≤ 3 * (b.toNat + 1) → (∀ k, k ∈ out ↔ (∃ x, x < b + 1 ∧ DD bs n x ∧ k ∈ nextL bs x) ∧ (k = n ∨ ¬ DD bs n k)) → Evt (fun f => dom_Edge.l0 f n out bs.length (b + 1) a0 a1 bs) R) (hd : DD bs n b) :
  ∀ (d : Nat) (i : Int) (out : List Int), 0 ≤ i → i + d = (nextL bs b).length → out.length ≤ 3 * b.toNat + i.toNat →
   (∀ k, k ∈ out ↔ ((∃ x, x < b ∧ DD bs n x ∧ k ∈ nextL bs x) ∨ k ∈ (nextL bs b).take i.toNat) ∧ (k = n ∨ ¬ DD bs n k)) → Evt (fun f => dom_Edge.l1 f n out bs.length b (nextL bs b) (nextL bs b).length i a0 a1 bs) R
 | 0, i, out, h0, h1, ho, hx => by
  have h3 := next_len bs b
  refine Evt.succ ?_
  simp only [dom_Edge.l1, if_neg (show ¬ i < ((nextL bs b).length : Int) by omega), wrap64_small (b + 1) (by omega) (by omega)]
  refine K out (by omega) fun k => (hx k).trans (and_congr_left fun _ => ?_)
  rw [List.take_of_length_le (by omega)]
  constructor
  ·rintro (⟨x, q, h⟩ | h)
   ·exact ⟨x, by omega, h⟩
   ·exact ⟨b, by omega, hd, h⟩
  ·rintro ⟨x, q, h⟩
   by_cases e : x = b
   ·exact .inr (e ▸ h.2)
   ·exact .inl ⟨x, by omega, h⟩
 | d + 1, i, out, h0, h1, ho, hx => by
  have h3 := next_len bs b
  have hi : i < ((nextL bs b).length : Int) := by omega
  have hw := wrap64_small (i + 1) (by omega) (by omega)
  have htk : (nextL bs b).take (i + 1).toNat = (nextL bs b).take i.toNat ++ [rd (nextL bs b) i] := by
   rw [show (i + 1).toNat = i.toNat + 1 by omega]
   exact take_one _ _ 0 (by omega)
  have add : (rd (nextL bs b) i = n ∨ ¬ DD bs n (rd (nextL bs b) i)) → Evt (fun f => dom_Edge.l1 f n (out ++ [rd (nextL bs b) i]) bs.length b (nextL bs b) (nextL bs b).length (i + 1) a0 a1 bs) R := fun hq => by
   refine edge_l1 hl n R b hb K hd d (i + 1) _ (by omega) (by omega) (by simp; omega) fun k => ?_
   rw [List.mem_append, hx k, htk, List.mem_append, List.mem_singleton]
   constructor
   ·rintro (⟨h, h'⟩ | h)
    ·exact ⟨h.imp id .inl, h'⟩
    ·exact ⟨.inr (.inr h), by rw [h]; exact hq⟩
   ·rintro ⟨h | h | h, h'⟩
    ·exact .inl ⟨.inl h, h'⟩
    ·exact .inl ⟨.inr h, h'⟩
    ·exact .inr h
  refine Evt.succ ?_
  simp only [dom_Edge.l1, if_pos hi, if_pos h0, hw, if_pos (show out.length < 17592186044416 by omega)]
  by_cases e : rd (nextL bs b) i = n
  ·simp only [if_pos e]
   have := add (.inl e)
   exact this
  ·simp only [if_neg e]
   refine Evt.bind (is_ev a0 a1 bs hl n (rd (nextL bs b) i)) ?_
   by_cases h2 : DD bs n (rd (nextL bs b) i)
   ·simp only [decide_eq_true h2, if_pos]
    refine edge_l1 hl n R b hb K hd d (i + 1) _ (by omega) (by omega) (by omega) fun k => ?_
    rw [hx k, htk, List.mem_append, List.mem_singleton]
    constructor
    ·rintro ⟨h, h'⟩
     exact ⟨h.imp id .inl, h'⟩
    ·rintro ⟨h | h | h, h'⟩
     ·exact ⟨.inl h, h'⟩
     ·exact ⟨.inr h, h'⟩
     ·rw [h] at h'; exact absurd h' (by simp [e, h2])
   ·simp only [decide_eq_false h2, if_neg Bool.false_ne_true]
    exact add (.inr h2)
theorem edge_l0 (hl : bs.length ≤ 1000) (n : Int) : ∀ (d : Nat) (b : Int) (out : List Int), 0 ≤ b → b + d = bs.length → out.length ≤ 3 * b.toNat → (∀ k, k ∈ out ↔ (∃ x, x < b ∧ DD bs n x ∧ k ∈ nextL bs x) ∧ (k = n ∨ ¬ DD bs n k)) →
  Evt (fun f => dom_Edge.l0 f n out bs.length b a0 a1 bs) (edgeL bs n)
 | 0, b, out, h0, h1, ho, hx => by
  refine Evt.succ ?_
  simp only [dom_Edge.l0, if_neg (show ¬ b < (bs.length : Int) by omega), slices_Sort_int_int.f, slices_Compact_int_int.f, if_pos (show out.length ≤ 1000000 by omega), Option.bind_some, List.length_mergeSort]
  obtain ⟨c1, c2⟩ := sorted_compact out
  rw [show edgeL bs n = Lib.compact (out.mergeSort fun x y => decide (x ≤ y)) from strict_ext _ _ ((upTo_strict _).filter _) c1 fun k => by
   rw [mem_edge, c2 k, hx k]
   exact and_congr_left fun _ => ⟨fun ⟨b', h⟩ => ⟨b', by have := (next_edges bs _ _ h.2).1; omega, h⟩, fun ⟨b', _, h⟩ => ⟨b', h⟩⟩]
  exact Evt.pure _
 | d + 1, b, out, h0, h1, ho, hx => by
  have hb : b < (bs.length : Int) := by omega
  refine Evt.succ ?_
  simp only [dom_Edge.l0, if_pos hb, flow_Next.f, Option.bind_some, wrap64_small (b + 1) (by omega) (by omega)]
  refine Evt.bind (is_ev a0 a1 bs hl n b) ?_
  by_cases h2 : DD bs n b
  ·simp only [decide_eq_true h2, if_pos]
   exact edge_l1 a0 a1 hl n _ b ⟨h0, hb⟩ (fun out' q1 q2 => edge_l0 hl n d (b + 1) out' (by omega) (by omega) (by omega) q2) h2 _ 0 out (by omega) (by rw [Int.zero_add]) (by omega) (fun k => by rw [hx k]; simp)
  ·simp only [decide_eq_false h2, if_neg Bool.false_ne_true]
   refine edge_l0 hl n d (b + 1) out (by omega) (by omega) (by omega) fun k => (hx k).trans (and_congr_left fun _ => ⟨fun ⟨x, q, h⟩ => ⟨x, by omega, h⟩, fun ⟨x, q, h⟩ => ⟨x, ?_, h⟩⟩)
   have : x ≠ b := fun e => h2 (e ▸ h.1)
   omega
theorem edge_ev (hl : bs.length ≤ 1000) (n : Int) : Evt (fun f => dom_Edge.f f a0 a1 bs n) (edgeL bs n) := by
 unfold dom_Edge.f
 exact edge_l0 a0 a1 hl n bs.length 0 [] (by omega) (by omega) (by simp) fun k => ⟨fun h => (by simp at h), fun ⟨⟨x, q, h⟩, _⟩ => by have := (next_edges bs _ _ h.2).1; omega⟩
end
end Go.Proofs.Ytilopoegoddggaa.X
namespace Go.Proofs.Ytilopoegoddggaa.X
open Go.RowKit Go.Proofs.YtilopoegoddggaaW.PrintWords Go.Proofs.YtilopoegoddggaaW.PrintLast Go.Proofs.YtilopoegoddggaaW.PrintMore
attribute [local go_sem] max2_int min2_int max_two min_two max_three min_three max_four min_four
set_option linter.all false
noncomputable section
mutual
def davitlaw08_DomChain.l0 : Nat → List Int → Int → Int → Int → List (S50) → Option (Bool)
 | 0, _, _, _, _, _ => none
 | k + 1, x3, x4, x317000, x317001, x317002 => if x4 < (x317002.length : Int) then ((flow_Reached.f x317000 x317001 x317002).bind fun t321 => (if 0 ≤ x4 then (if x4 < (t321.length : Int) then (if rdOf false t321 x4 = true then (if 0 ≤ (x317002.length : Int) then (if ((x317002.length : Int) : Int).toNat ≤ 281474976710656 then (davitlaw08_DomChain.l1 k x3 x4 (List.replicate ((x317002.length : Int) : Int).toNat false) x4 0 x317000 x317001 x317002) else (none)) else (none)) else (davitlaw08_DomChain.l0 k x3 (wrap64 (x4 + 1)) x317000 x317001 x317002)) else (none)) else (none))) else (some true)
def davitlaw08_DomChain.j2 : Nat → List Int → Int → List Bool → Int → Int → Int → List (S50) → Option (Bool)
 | 0, _, _, _, _, _, _, _ => none
 | k + 1, x3, x4, x5, x6, x317000, x317001, x317002 => if x6 = 0 then (if 0 < (x5.length : Int) then (davitlaw08_DomChain.l2 k x3 x4 (x5.set (0 : Int).toNat true) 0 x317000 x317001 x317002) else (none)) else (some false)
def davitlaw08_DomChain.l2 : Nat → List Int → Int → List Bool → Int → Int → Int → List (S50) → Option (Bool)
 | 0, _, _, _, _, _, _, _ => none
 | k + 1, x3, x4, x5, x8, x317000, x317001, x317002 => if x8 < (x317002.length : Int) then (if 0 ≤ x8 then (if x8 < (x5.length : Int) then ((dom_Is.f k x317000 x317001 x317002 x8 x4).bind fun t332 => (if ((rdOf false x5 x8) != t332) = true then (some false) else (davitlaw08_DomChain.l2 k x3 x4 x5 (wrap64 (x8 + 1)) x317000 x317001 x317002))) else (none)) else (none)) else (davitlaw08_DomChain.l0 k x3 (wrap64 (x4 + 1)) x317000 x317001 x317002)
def davitlaw08_DomChain.l1 : Nat → List Int → Int → List Bool → Int → Int → Int → Int → List (S50) → Option (Bool)
 | 0, _, _, _, _, _, _, _, _ => none
 | k + 1, x3, x4, x5, x6, x7, x317000, x317001, x317002 => if x6 > 0 then (if x7 ≤ (x317002.length : Int) then (if 0 ≤ x6 then (if x6 < (x5.length : Int) then (if x6 < (x3.length : Int) then (davitlaw08_DomChain.l1 k x3 x4 (x5.set (x6 : Int).toNat true) (rd x3 x6) (wrap64 (x7 + 1)) x317000 x317001 x317002) else (none)) else (none)) else (none)) else (davitlaw08_DomChain.j2 k x3 x4 x5 x6 x317000 x317001 x317002)) else (davitlaw08_DomChain.j2 k x3 x4 x5 x6 x317000 x317001 x317002)
end
def davitlaw08_DomChain.f (k : Nat) (a0_0 : Int) (a0_1 : Int) (l0_2 : List (S50)) : Option (Bool) := (davitlaw08_awake.f k).bind fun t317 => (if t317 = true then (if (l0_2.length : Int) > 30 then (some true) else ((dom_Over.f a0_0 a0_1 l0_2).bind fun t318 => (if (t318.length : Int) = (l0_2.length : Int) then (davitlaw08_DomChain.l0 k t318 0 a0_0 a0_1 l0_2) else (some false)))) else (some false))
theorem davitlaw08_DomChain.mono_l : ∀ k, (∀ y0 y1 y2 y3 y4, LeO (davitlaw08_DomChain.l0 k y0 y1 y2 y3 y4) (davitlaw08_DomChain.l0 (k + 1) y0 y1 y2 y3 y4)) ∧ (∀ y0 y1 y2 y3 y4 y5 y6, LeO (davitlaw08_DomChain.j2 k y0 y1 y2 y3 y4 y5 y6) (davitlaw08_DomChain.j2 (k + 1) y0 y1 y2 y3 y4 y5 y6)) ∧ (∀ y0 y1 y2 y3 y4 y5 y6, LeO (davitlaw08_DomChain.l2 k y0 y1 y2 y3 y4 y5 y6) (davitlaw08_DomChain.l2 (k + 1) y0 y1 y2 y3 y4 y5 y6)) ∧ (∀ y0 y1 y2 y3 y4 y5 y6 y7, LeO (davitlaw08_DomChain.l1 k y0 y1 y2 y3 y4 y5 y6 y7) (davitlaw08_DomChain.l1 (k + 1) y0 y1 y2 y3 y4 y5 y6 y7))
 | 0 => ⟨fun _ _ _ _ _ r h => by simp [davitlaw08_DomChain.l0] at h, fun _ _ _ _ _ _ _ r h => by simp [davitlaw08_DomChain.j2] at h, fun _ _ _ _ _ _ _ r h => by simp [davitlaw08_DomChain.l2] at h, fun _ _ _ _ _ _ _ _ r h => by simp [davitlaw08_DomChain.l1] at h⟩
 | k + 1 => by
  obtain ⟨ih0, ih1, ih2, ih3⟩ := davitlaw08_DomChain.mono_l k
  refine ⟨?_, ?_, ?_, ?_⟩
  ·intro y0 y1 y2 y3 y4
   unfold davitlaw08_DomChain.l0
   repeat' first
   | (with_reducible exact ih0 _ _ _ _ _)
   | (with_reducible exact ih1 _ _ _ _ _ _ _)
   | (with_reducible exact ih2 _ _ _ _ _ _ _)
   | (with_reducible exact ih3 _ _ _ _ _ _ _ _)
   | (with_reducible exact davitlaw08_awake.mono _)
   | (with_reducible exact dom_Is.mono _ _ _ _ _ _)
   | (with_reducible exact LeO.refl _)
   | (with_reducible exact LeO.none _)
   | (with_reducible refine LeO.ite ?_ ?_)
   | (with_reducible refine LeO.bind ?_ (fun _ => ?_))
   | exact ih0 _ _ _ _ _
   | exact ih1 _ _ _ _ _ _ _
   | exact ih2 _ _ _ _ _ _ _
   | exact ih3 _ _ _ _ _ _ _ _
   | exact davitlaw08_awake.mono _
   | exact dom_Is.mono _ _ _ _ _ _
   | exact LeO.none _
   | refine LeO.ite ?_ ?_
   | refine LeO.bind ?_ (fun _ => ?_)
  ·intro y0 y1 y2 y3 y4 y5 y6
   unfold davitlaw08_DomChain.j2
   repeat' first
   | (with_reducible exact ih0 _ _ _ _ _)
   | (with_reducible exact ih1 _ _ _ _ _ _ _)
   | (with_reducible exact ih2 _ _ _ _ _ _ _)
   | (with_reducible exact ih3 _ _ _ _ _ _ _ _)
   | (with_reducible exact davitlaw08_awake.mono _)
   | (with_reducible exact dom_Is.mono _ _ _ _ _ _)
   | (with_reducible exact LeO.refl _)
   | (with_reducible exact LeO.none _)
   | (with_reducible refine LeO.ite ?_ ?_)
   | (with_reducible refine LeO.bind ?_ (fun _ => ?_))
   | exact ih0 _ _ _ _ _
   | exact ih1 _ _ _ _ _ _ _
   | exact ih2 _ _ _ _ _ _ _
   | exact ih3 _ _ _ _ _ _ _ _
   | exact davitlaw08_awake.mono _
   | exact dom_Is.mono _ _ _ _ _ _
   | exact LeO.none _
   | refine LeO.ite ?_ ?_
   | refine LeO.bind ?_ (fun _ => ?_)
  ·intro y0 y1 y2 y3 y4 y5 y6
   unfold davitlaw08_DomChain.l2
   repeat' first
   | (with_reducible exact ih0 _ _ _ _ _)
   | (with_reducible exact ih1 _ _ _ _ _ _ _)
   | (with_reducible exact ih2 _ _ _ _ _ _ _)
   | (with_reducible exact ih3 _ _ _ _ _ _ _ _)
   | (with_reducible exact davitlaw08_awake.mono _)
   | (with_reducible exact dom_Is.mono _ _ _ _ _ _)
   | (with_reducible exact LeO.refl _)
   | (with_reducible exact LeO.none _)
   | (with_reducible refine LeO.ite ?_ ?_)
   | (with_reducible refine LeO.bind ?_ (fun _ => ?_))
   | exact ih0 _ _ _ _ _
   | exact ih1 _ _ _ _ _ _ _
   | exact ih2 _ _ _ _ _ _ _
   | exact ih3 _ _ _ _ _ _ _ _
   | exact davitlaw08_awake.mono _
   | exact dom_Is.mono _ _ _ _ _ _
   | exact LeO.none _
   | refine LeO.ite ?_ ?_
   | refine LeO.bind ?_ (fun _ => ?_)
  ·intro y0 y1 y2 y3 y4 y5 y6 y7
   unfold davitlaw08_DomChain.l1
   repeat' first
   | (with_reducible exact ih0 _ _ _ _ _)
   | (with_reducible exact ih1 _ _ _ _ _ _ _)
   | (with_reducible exact ih2 _ _ _ _ _ _ _)
   | (with_reducible exact ih3 _ _ _ _ _ _ _ _)
   | (with_reducible exact davitlaw08_awake.mono _)
   | (with_reducible exact dom_Is.mono _ _ _ _ _ _)
   | (with_reducible exact LeO.refl _)
   | (with_reducible exact LeO.none _)
   | (with_reducible refine LeO.ite ?_ ?_)
   | (with_reducible refine LeO.bind ?_ (fun _ => ?_))
   | exact ih0 _ _ _ _ _
   | exact ih1 _ _ _ _ _ _ _
   | exact ih2 _ _ _ _ _ _ _
   | exact ih3 _ _ _ _ _ _ _ _
   | exact davitlaw08_awake.mono _
   | exact dom_Is.mono _ _ _ _ _ _
   | exact LeO.none _
   | refine LeO.ite ?_ ?_
   | refine LeO.bind ?_ (fun _ => ?_)
theorem davitlaw08_DomChain.mono : ∀ a0 a1 a2 k, LeO (davitlaw08_DomChain.f k a0 a1 a2) (davitlaw08_DomChain.f (k + 1) a0 a1 a2) := by
 intro a0 a1 a2 k
 obtain ⟨ih0, ih1, ih2, ih3⟩ := davitlaw08_DomChain.mono_l k
 unfold davitlaw08_DomChain.f
 repeat' first
   | (with_reducible exact ih0 _ _ _ _ _)
   | (with_reducible exact ih1 _ _ _ _ _ _ _)
   | (with_reducible exact ih2 _ _ _ _ _ _ _)
   | (with_reducible exact ih3 _ _ _ _ _ _ _ _)
   | (with_reducible exact davitlaw08_awake.mono _)
   | (with_reducible exact dom_Is.mono _ _ _ _ _ _)
   | (with_reducible exact LeO.refl _)
   | (with_reducible exact LeO.none _)
   | (with_reducible refine LeO.ite ?_ ?_)
   | (with_reducible refine LeO.bind ?_ (fun _ => ?_))
   | exact ih0 _ _ _ _ _
   | exact ih1 _ _ _ _ _ _ _
   | exact ih2 _ _ _ _ _ _ _
   | exact ih3 _ _ _ _ _ _ _ _
   | exact davitlaw08_awake.mono _
   | exact dom_Is.mono _ _ _ _ _ _
   | exact LeO.none _
   | refine LeO.ite ?_ ?_
   | refine LeO.bind ?_ (fun _ => ?_)
def davitlaw08_DomChain.T24 : Bool × List (List Nat × List Nat) := (true, [([], []), ([], []), ([0, 1], [0, 1]), ([2], [2]), ([], []), ([], []), ([], []), ([4, 5, 6], [4, 5, 6]), ([3, 7], [3, 7])])
def davitlaw08_DomChain.B24 : List Nat := [0, 0, 3, 7, 0, 0, 0, 112, 255]
theorem davitlaw08_DomChain.tab24 : rtab .any (opsOf Try.f6 24) = davitlaw08_DomChain.T24 := by kernel_rfl
theorem davitlaw08_DomChain.bits24 : waitsOk davitlaw08_DomChain.T24.2 davitlaw08_DomChain.B24 = true := by kernel_rfl
set_option maxHeartbeats 8000000 in
set_option maxRecDepth 100000 in
theorem davitlaw08_DomChain.calls (k : Nat) (a0_0 : Int) (a0_1 : Int) (A0_2 : Option Addr) (c0_2 : Nat) (l0_2 : List (S50)) (r : Bool) (w : World) (hr0_2 : Kd.C k50 w A0_2 l0_2.length l0_2) (hc0_2 : l0_2.length ≤ c0_2) (h : davitlaw08_DomChain.f k a0_0 a0_1 l0_2 = some r) :
  Calls Try.prog 6 #[.agg #[.int .i64 a0_0, .int .i64 a0_1, .slice A0_2 l0_2.length c0_2]] w fun e w' => e = .returned (.bool r) ∧ Below w.heap.size w w' := by
 have hu24 := Try.underlying24
 have HR0_2 := Aside0.mk hr0_2
 have HC0_2 := Aside0.mk hc0_2
 clear hr0_2 hc0_2
 have HB := Aside0.mk (Below.refl w.heap.size w)
 have H : ((davitlaw08_awake.f k).bind fun t317 => (if t317 = true then (if (l0_2.length : Int) > 30 then (some true) else ((dom_Over.f a0_0 a0_1 l0_2).bind fun t318 => (if (t318.length : Int) = (l0_2.length : Int) then (davitlaw08_DomChain.l0 k t318 0 a0_0 a0_1 l0_2) else (some false)))) else (some false))) = some r := h
 clear h
 replace H := Option.bind_eq_some_iff.mp H
 obtain ⟨t317, A20, H⟩ := H
 replace H : (if t317 = true then (if (l0_2.length : Int) > 30 then (some true) else ((dom_Over.f a0_0 a0_1 l0_2).bind fun t318 => (if (t318.length : Int) = (l0_2.length : Int) then (davitlaw08_DomChain.l0 k t318 0 a0_0 a0_1 l0_2) else (some false)))) else (some false)) = some r := H
 have A2 := Aside0.mk A20
 clear A20
 by_cases c3 : t317 = true
 ·subst c3
  have H1 : (if (l0_2.length : Int) > 30 then (some true) else ((dom_Over.f a0_0 a0_1 l0_2).bind fun t318 => (if (t318.length : Int) = (l0_2.length : Int) then (davitlaw08_DomChain.l0 k t318 0 a0_0 a0_1 l0_2) else (some false)))) = some r := by rw [if_pos rfl] at H; exact H
  clear H
  have H := H1
  clear H1
  by_cases c4 : (l0_2.length : Int) > 30
  ·rw [if_pos c4] at H
   have c4b0 : decide (30 < (l0_2.length : Int)) = true := decide_eq_true c4
   have c4b1 : decide (30 < l0_2.length) = true := decide_eq_true (by omega)
   clear c4
   obtain rfl := Option.some.inj H
   go_enter Try.func6, Try.ntmps6
   go_wp2_with (first | ((with_reducible refine gate_dst (N := 1) rfl ?_); (try (refine gate_guard (by rfl) ?_; dsimp only)); refine box_event ?hg (N := 1) ?hd (cs := #[.int .i64 a0_0, .int .i64 a0_1, .slice A0_2 l0_2.length c0_2]) (t := 24) ?hr ?_; (case hd => rfl); (case hg => rfl); (case hr => first | (go_simp; done) | (go_simp; rfl)); intro gb316 hg w5 hbox hb; have n0_ := Aside0.mk (below_step (by repeat (first | (with_reducible first | exact HB.out | apply below_alloc | apply pw_below_drewN | apply below_drew1) | exact HB.out)) hb); have n1_ := Aside0.mk (hbox); have n2_ := Aside0.mk ((by rw [hg]; exact (below_size (by repeat (first | (with_reducible first | exact HB.out | apply below_alloc | apply pw_below_drewN | apply below_drew1) | exact HB.out))) : w.heap.size ≤ gb316)); have n3_ := Aside0.mk ((by rw [hg]; exact (below_size (by repeat (first | (with_reducible first | exact HB.out | apply below_alloc | apply pw_below_drewN | apply below_drew1) | exact HB.out))) : w.heap.size ≤ gb316)); clear HB; have HB := n0_; have BK316 := n1_; have GW316 := n2_; have GE316 := n3_; clear n0_ n1_ n2_ n3_; clear hb hbox hg) | ((with_reducible refine gate_callee (f := 11) rfl ?_); refine goesL_ (some 9) rfl rfl Try.func11 (by kernel_rfl) rfl #[] rfl (by (try simp only [List.map_toArray, List.map_cons, List.map_nil]); first | done | rfl | (simp only [List.length_drop, List.length_take]; rfl)) ?_; (with_reducible refine (davitlaw08_awake.calls k  true _ A2.out).mono ?_); rintro e w6 ⟨rfl, hb⟩; refine ⟨_, rfl, ?_⟩; have n0_ := Aside0.mk (blk_below (g := gb316) (o := .cells #[.int .i64 a0_0, .int .i64 a0_1, .slice A0_2 l0_2.length c0_2] 24 (0, 0)) (by (with_reducible repeat (first | refine blk_drewN ?_ _ | refine blk_drew ?_ | refine blk_alloc ?_ _)); exact BK316.out) hb); have n1_ := Aside0.mk (below_step (by repeat (first | (with_reducible first | exact HB.out | apply below_alloc | apply pw_below_drewN | apply below_drew1 | refine below_set ?_ GE316.out) | exact HB.out)) hb); clear BK316; clear HB; have BK316 := n0_; have HB := n1_; clear n0_ n1_; (try clear hb); (try clear hb2); (try clear hk); (try clear hi); have hcz7_0 : w6.cell? ⟨gb316, 0, none⟩ = some (.int .i64 a0_0) := (blk_cell BK316.out 0).trans rfl; have hcz7_1 : w6.cell? ⟨gb316, 1, none⟩ = some (.int .i64 a0_1) := (blk_cell BK316.out 1).trans rfl; have hcz7_2 : w6.cell? ⟨gb316, 2, none⟩ = some (.slice A0_2 l0_2.length c0_2) := (blk_cell BK316.out 2).trans rfl; have hfz7_0 := blk_frozen BK316.out 0; have hfz7_1 := blk_frozen BK316.out 1; have hfz7_2 := blk_frozen BK316.out 2))
   go_ret
   exact ⟨by first | rfl | (simp [errW_none, errW_some] <;> rfl) | (simp [*, errW_none, errW_some] <;> rfl), by repeat (first | (with_reducible first | exact HB.out | apply below_alloc | apply pw_below_drewN | apply below_drew1 | refine below_set ?_ GE316.out) | exact HB.out)⟩
  ·rw [if_neg c4] at H
   have c4b0 : decide (30 < (l0_2.length : Int)) = false := decide_eq_false c4
   have c4b1 : decide (30 < l0_2.length) = false := decide_eq_false (by omega)
   clear c4
   replace H := Option.bind_eq_some_iff.mp H
   obtain ⟨t318, A80, H⟩ := H
   replace H : (if (t318.length : Int) = (l0_2.length : Int) then (davitlaw08_DomChain.l0 k t318 0 a0_0 a0_1 l0_2) else (some false)) = some r := H
   have A8 := Aside0.mk A80
   clear A80
   by_cases c9 : (t318.length : Int) = (l0_2.length : Int)
   ·rw [if_pos c9] at H
    have c9b0 : ((t318.length : Int) == (l0_2.length : Int)) = true := beq_iff_eq.mpr c9
    have c9b1 : ((t318.length : Int) != (l0_2.length : Int)) = false := bne_eq_false_iff_eq.mpr c9
    have c9b2 : (t318.length == l0_2.length) = true := by first | simpa using c9 | (simp at c9 ⊢; omega)
    clear c9
    have H' := Aside0.mk H
    clear H
    go_enter Try.func6, Try.ntmps6
    go_wp2_with (first | ((with_reducible refine gate_dst (N := 1) rfl ?_); (try (refine gate_guard (by rfl) ?_; dsimp only)); refine box_event ?hg (N := 1) ?hd (cs := #[.int .i64 a0_0, .int .i64 a0_1, .slice A0_2 l0_2.length c0_2]) (t := 24) ?hr ?_; (case hd => rfl); (case hg => rfl); (case hr => first | (go_simp; done) | (go_simp; rfl)); intro gb316 hg w10 hbox hb; have n0_ := Aside0.mk (below_step (by repeat (first | (with_reducible first | exact HB.out | apply below_alloc | apply pw_below_drewN | apply below_drew1) | exact HB.out)) hb); have n1_ := Aside0.mk (hbox); have n2_ := Aside0.mk ((by rw [hg]; exact (below_size (by repeat (first | (with_reducible first | exact HB.out | apply below_alloc | apply pw_below_drewN | apply below_drew1) | exact HB.out))) : w.heap.size ≤ gb316)); have n3_ := Aside0.mk ((by rw [hg]; exact (below_size (by repeat (first | (with_reducible first | exact HB.out | apply below_alloc | apply pw_below_drewN | apply below_drew1) | exact HB.out))) : w.heap.size ≤ gb316)); clear HB; have HB := n0_; have BK316 := n1_; have GW316 := n2_; have GE316 := n3_; clear n0_ n1_ n2_ n3_; clear hb hbox hg) | ((with_reducible refine gate_callee (f := 11) rfl ?_); refine goesL_ (some 9) rfl rfl Try.func11 (by kernel_rfl) rfl #[] rfl (by (try simp only [List.map_toArray, List.map_cons, List.map_nil]); first | done | rfl | (simp only [List.length_drop, List.length_take]; rfl)) ?_; (with_reducible refine (davitlaw08_awake.calls k  true _ A2.out).mono ?_); rintro e w11 ⟨rfl, hb⟩; refine ⟨_, rfl, ?_⟩; have n0_ := Aside0.mk (blk_below (g := gb316) (o := .cells #[.int .i64 a0_0, .int .i64 a0_1, .slice A0_2 l0_2.length c0_2] 24 (0, 0)) (by (with_reducible repeat (first | refine blk_drewN ?_ _ | refine blk_drew ?_ | refine blk_alloc ?_ _)); exact BK316.out) hb); have n1_ := Aside0.mk (below_step (by repeat (first | (with_reducible first | exact HB.out | apply below_alloc | apply pw_below_drewN | apply below_drew1 | refine below_set ?_ GE316.out) | exact HB.out)) hb); clear BK316; clear HB; have BK316 := n0_; have HB := n1_; clear n0_ n1_; (try clear hb); (try clear hb2); (try clear hk); (try clear hi); have hcz12_0 : w11.cell? ⟨gb316, 0, none⟩ = some (.int .i64 a0_0) := (blk_cell BK316.out 0).trans rfl; have hcz12_1 : w11.cell? ⟨gb316, 1, none⟩ = some (.int .i64 a0_1) := (blk_cell BK316.out 1).trans rfl; have hcz12_2 : w11.cell? ⟨gb316, 2, none⟩ = some (.slice A0_2 l0_2.length c0_2) := (blk_cell BK316.out 2).trans rfl; have hfz12_0 := blk_frozen BK316.out 0; have hfz12_1 := blk_frozen BK316.out 1; have hfz12_2 := blk_frozen BK316.out 2) | ((with_reducible refine gate_callee (f := 13) rfl ?_); refine goesL_ (some 16) rfl rfl Try.func13 (by kernel_rfl) rfl #[.agg #[.int .i64 a0_0, .int .i64 a0_1, .slice A0_2 l0_2.length c0_2]] rfl (by (try simp only [List.map_toArray, List.map_cons, List.map_nil]); first | done | rfl | (simp only [List.length_drop, List.length_take]; rfl)) ?_; (with_reducible refine (dom_Over.calls a0_0 a0_1 _ _ l0_2 t318 _ ?side1 ?side2 A8.out).mono ?_); (case side1 => repeat (first | exact (Kd.C_below HR0_2.out HB.out) | (with_reducible refine Kd.C_alloc ?_ _) | (with_reducible refine Kd.C_drewN ?_ _) | (with_reducible refine Kd.C_drew ?_))); (case side2 => exact HC0_2.out); rintro e w13 ⟨v319, rfl, ho0, hb⟩; refine ⟨_, rfl, ?_⟩; have n0_ := Aside0.mk (Kd.R_lower ho0 (below_size (by repeat (first | (with_reducible first | exact HB.out | apply below_alloc | apply pw_below_drewN | apply below_drew1 | refine below_set ?_ GE316.out) | exact HB.out)))); have n1_ := Aside0.mk (blk_below (g := gb316) (o := .cells #[.int .i64 a0_0, .int .i64 a0_1, .slice A0_2 l0_2.length c0_2] 24 (0, 0)) (by (with_reducible repeat (first | refine blk_drewN ?_ _ | refine blk_drew ?_ | refine blk_alloc ?_ _)); exact BK316.out) hb); have n2_ := Aside0.mk (below_step (by repeat (first | (with_reducible first | exact HB.out | apply below_alloc | apply pw_below_drewN | apply below_drew1 | refine below_set ?_ GE316.out) | exact HB.out)) hb); clear BK316; clear HB; have HO320 := n0_; have BK316 := n1_; have HB := n2_; clear n0_ n1_ n2_; (try clear hb); (try clear hb2); (try clear hk); (try clear hi); (try clear ho0); obtain ⟨Ao14, co14, eo14⟩ := Kd.R_slice HO320.out; subst eo14; have hcz15_0 : w13.cell? ⟨gb316, 0, none⟩ = some (.int .i64 a0_0) := (blk_cell BK316.out 0).trans rfl; have hcz15_1 : w13.cell? ⟨gb316, 1, none⟩ = some (.int .i64 a0_1) := (blk_cell BK316.out 1).trans rfl; have hcz15_2 : w13.cell? ⟨gb316, 2, none⟩ = some (.slice A0_2 l0_2.length c0_2) := (blk_cell BK316.out 2).trans rfl; have hfz15_0 := blk_frozen BK316.out 0; have hfz15_1 := blk_frozen BK316.out 1; have hfz15_2 := blk_frozen BK316.out 2))
    go_loopg [4] k (fun kq v4 w' => ∃ (x4_1 : Int), v4 = .int .i64 x4_1 ∧ Aside0 (davitlaw08_DomChain.l0 kq t318 x4_1 a0_0 a0_1 l0_2 = some r) ∧ Aside0 (kq ≤ k) ∧ Aside0 (Kd.R (Kd.int .i64) 3 w' w.heap.size (fun _ => True) (.slice Ao14 t318.length co14) t318) ∧ Aside0 (w'.heap[gb316]? = some (.cells #[.int .i64 a0_0, .int .i64 a0_1, (.slice A0_2 l0_2.length c0_2)] 24 (0, 0))) ∧ Aside0 (Below w.heap.size w w'))
    case atStart => exact ⟨(0), (by first | rfl | (simp; done) | (simp [*]; done)), H', ⟨Nat.le_refl _⟩, ⟨by (with_reducible repeat (first | apply Kd.R_alloc | apply Kd.R_drewN | apply Kd.R_drew)); exact HO320.out⟩, ⟨by (with_reducible repeat (first | refine blk_drewN ?_ _ | refine blk_drew ?_ | refine blk_alloc ?_ _)); exact BK316.out⟩, ⟨by repeat (first | (with_reducible first | exact HB.out | apply below_alloc | apply pw_below_drewN | apply below_drew1 | refine below_set ?_ GE316.out) | exact HB.out)⟩⟩
    case round =>
     clear H'
     try clear c1
     try clear p2
     try clear c3
     try clear c4
     try clear c4b0
     try clear c4b1
     try clear c6
     try clear c9
     try clear c9b0
     try clear c9b1
     try clear c9b2
     try clear c11
     try clear c13
     try clear hcz12_0
     try clear hcz12_1
     try clear hcz12_2
     try clear hcz15_0
     try clear hcz15_1
     try clear hcz15_2
     try clear hcz7_0
     try clear hcz7_1
     try clear hcz7_2
     try clear hfz12_0
     try clear hfz12_1
     try clear hfz12_2
     try clear hfz15_0
     try clear hfz15_1
     try clear hfz15_2
     try clear hfz7_0
     try clear hfz7_1
     try clear hfz7_2
     obtain ⟨x4_1, rfl, HA, HK1, HO_3, BK316, HB⟩ := hrel
     cases gk with
     | zero => exact absurd HA.out (by simp [davitlaw08_DomChain.l0])
     | succ k1 =>
      have H := HA.out
      clear HA
      simp only [davitlaw08_DomChain.l0] at H
      by_cases c16 : x4_1 < (l0_2.length : Int)
      ·rw [if_pos c16] at H
       have c16b0 : decide (x4_1 < (l0_2.length : Int)) = true := decide_eq_true c16
       clear c16
       replace H := Option.bind_eq_some_iff.mp H
       obtain ⟨t321, A170, H⟩ := H
       replace H : (if 0 ≤ x4_1 then (if x4_1 < (t321.length : Int) then (if rdOf false t321 x4_1 = true then (if 0 ≤ (l0_2.length : Int) then (if ((l0_2.length : Int) : Int).toNat ≤ 281474976710656 then (davitlaw08_DomChain.l1 k1 t318 x4_1 (List.replicate ((l0_2.length : Int) : Int).toNat false) x4_1 0 a0_0 a0_1 l0_2) else (none)) else (none)) else (davitlaw08_DomChain.l0 k1 t318 (wrap64 (x4_1 + 1)) a0_0 a0_1 l0_2)) else (none)) else (none)) = some r := H
       have A17 := Aside0.mk A170
       clear A170
       by_cases c18 : 0 ≤ x4_1
       ·rw [if_pos c18] at H
        have c18b0 : decide (0 ≤ x4_1) = true := decide_eq_true c18
        clear c18
        by_cases c19 : x4_1 < (t321.length : Int)
        ·rw [if_pos c19] at H
         have c19b0 : decide (x4_1 < (t321.length : Int)) = true := decide_eq_true c19
         clear c19
         obtain ⟨bq20, hbq20⟩ : ∃ b_ : Bool, b_ = (rdOf false t321 x4_1) := ⟨_, rfl⟩
         replace H : (if bq20 = true then (if 0 ≤ (l0_2.length : Int) then (if ((l0_2.length : Int) : Int).toNat ≤ 281474976710656 then (davitlaw08_DomChain.l1 k1 t318 x4_1 (List.replicate ((l0_2.length : Int) : Int).toNat false) x4_1 0 a0_0 a0_1 l0_2) else (none)) else (none)) else (davitlaw08_DomChain.l0 k1 t318 (wrap64 (x4_1 + 1)) a0_0 a0_1 l0_2)) = some r := by rw [← hbq20] at H; exact H
         have Nbq20 := Aside0.mk hbq20
         clear hbq20
         by_cases c21 : bq20 = true
         ·subst c21
          have H1 : (if 0 ≤ (l0_2.length : Int) then (if ((l0_2.length : Int) : Int).toNat ≤ 281474976710656 then (davitlaw08_DomChain.l1 k1 t318 x4_1 (List.replicate ((l0_2.length : Int) : Int).toNat false) x4_1 0 a0_0 a0_1 l0_2) else (none)) else (none)) = some r := by rw [if_pos rfl] at H; exact H
          clear H
          have H := H1
          clear H1
          by_cases c22 : 0 ≤ (l0_2.length : Int)
          ·rw [if_pos c22] at H
           have c22b0 := eq_true c22
           have c22b1 : decide (0 ≤ (l0_2.length : Int)) = true := decide_eq_true c22
           clear c22
           by_cases c23 : ((l0_2.length : Int) : Int).toNat ≤ 281474976710656
           ·rw [if_pos c23] at H
            have c23b0 := eq_true c23
            have c23b1 : decide (((l0_2.length : Int) : Int).toNat ≤ 281474976710656) = true := decide_eq_true c23
            clear c23
            obtain ⟨y325, hy325⟩ : ∃ y_ : List Bool, y_ = (List.replicate ((l0_2.length : Int) : Int).toNat false) := ⟨_, rfl⟩
            replace H : (davitlaw08_DomChain.l1 k1 t318 x4_1 y325 x4_1 0 a0_0 a0_1 l0_2) = some r := by first | (rw [hy325]; with_reducible exact H) | (have H2_ := (Option.bind_some _ _).symm.trans H; rw [hy325]; with_reducible exact H2_) | (have H2_ := (Option.bind_some _ _).symm.trans H; with_reducible exact H2_) | with_reducible exact H | (rw [hy325]; exact H) | exact H
            have Ny325 := Aside0.mk hy325
            clear hy325
            have HC24 := Aside0.mk H
            clear H
            have hcz25_0 : wr.cell? ⟨gb316, 0, none⟩ = some (.int .i64 a0_0) := (blk_cell BK316.out 0).trans rfl
            have hcz25_1 : wr.cell? ⟨gb316, 1, none⟩ = some (.int .i64 a0_1) := (blk_cell BK316.out 1).trans rfl
            have hcz25_2 : wr.cell? ⟨gb316, 2, none⟩ = some (.slice A0_2 l0_2.length c0_2) := (blk_cell BK316.out 2).trans rfl
            have hfz25_0 := blk_frozen BK316.out 0
            have hfz25_1 := blk_frozen BK316.out 1
            have hfz25_2 := blk_frozen BK316.out 2
            go_upto_block 2 with (first | ((with_reducible refine gate_callee (f := 19) rfl ?_); refine goesL_ (some 31) rfl rfl Try.func19 (by kernel_rfl) rfl #[.agg #[.int .i64 a0_0, .int .i64 a0_1, .slice A0_2 l0_2.length c0_2]] rfl (by (try simp only [List.map_toArray, List.map_cons, List.map_nil]); first | done | rfl | (simp only [List.length_drop, List.length_take]; rfl)) ?_; (with_reducible refine (flow_Reached.calls a0_0 a0_1 _ _ l0_2 t321 _ ?side1 ?side2 A17.out).mono ?_); (case side1 => repeat (first | exact (Kd.C_below HR0_2.out HB.out) | (with_reducible refine Kd.C_alloc ?_ _) | (with_reducible refine Kd.C_drewN ?_ _) | (with_reducible refine Kd.C_drew ?_))); (case side2 => exact HC0_2.out); rintro e w26 ⟨v322, rfl, ho0, hb⟩; refine ⟨_, rfl, ?_⟩; have n0_ := Aside0.mk (Kd.R_below (by (with_reducible repeat (first | apply Kd.R_alloc | apply Kd.R_drewN | apply Kd.R_drew)); exact HO_3.out) hb); have n1_ := Aside0.mk (Kd.R_lower ho0 (below_size (by repeat (first | (with_reducible first | exact HB.out | apply below_alloc | apply pw_below_drewN | apply below_drew1 | refine below_set ?_ GE316.out) | exact HB.out)))); have n2_ := Aside0.mk (blk_below (g := gb316) (o := .cells #[.int .i64 a0_0, .int .i64 a0_1, .slice A0_2 l0_2.length c0_2] 24 (0, 0)) (by (with_reducible repeat (first | refine blk_drewN ?_ _ | refine blk_drew ?_ | refine blk_alloc ?_ _)); exact BK316.out) hb); have n3_ := Aside0.mk (below_step (by repeat (first | (with_reducible first | exact HB.out | apply below_alloc | apply pw_below_drewN | apply below_drew1 | refine below_set ?_ GE316.out) | exact HB.out)) hb); clear HO_3; clear BK316; clear HB; have HO_3 := n0_; have HO323 := n1_; have BK316 := n2_; have HB := n3_; clear n0_ n1_ n2_ n3_; (try clear hb); (try clear hb2); (try clear hk); (try clear hi); (try clear ho0); obtain ⟨Ao27, co27, eo27⟩ := Kd.R_slice HO323.out; subst eo27; have p324 : 0 ≤ (x4_1 : Int) := of_decide_eq_true (by first | (with_reducible assumption) | assumption); have q324 : x4_1 < (t321.length : Int) := of_decide_eq_true (by first | (with_reducible assumption) | assumption); obtain ⟨ad324, e324, hx324_0⟩ := Kd.at_bool (Kd.R_reads' HO323.out).2.2 x4_1 p324 q324; (try rw [← Nbq20.out] at hx324_0); cases e324; replace p324 := eq_true p324; replace q324 := eq_true q324; have hcz28_0 : w26.cell? ⟨gb316, 0, none⟩ = some (.int .i64 a0_0) := (blk_cell BK316.out 0).trans rfl; have hcz28_1 : w26.cell? ⟨gb316, 1, none⟩ = some (.int .i64 a0_1) := (blk_cell BK316.out 1).trans rfl; have hcz28_2 : w26.cell? ⟨gb316, 2, none⟩ = some (.slice A0_2 l0_2.length c0_2) := (blk_cell BK316.out 2).trans rfl; have hfz28_0 := blk_frozen BK316.out 0; have hfz28_1 := blk_frozen BK316.out 1; have hfz28_2 := blk_frozen BK316.out 2) | ((with_reducible refine gate_dst (N := 39) rfl ?_); (try (refine gate_guard (by rfl) ?_; dsimp only)); refine Kd.R_make Kd.bool _ 4 rfl (N := 39) rfl 32 _ _ rfl (l0_2.length : Int) rfl rfl Try.underlying32 (.bool false) 1 info4 rfl (by decide) (by omega) false (ok := fun _ => True) (okp := fun _ => True) rfl (fun _ hk => hk) trivial (of_decide_eq_true (by first | (with_reducible assumption) | assumption)) (Nat.le_trans (Nat.mul_le_mul_right _ (of_decide_eq_true (by first | (with_reducible assumption) | assumption) : (l0_2.length : Int).toNat ≤ 281474976710656)) (by omega)) (Below.refl _ _) (Nat.le_refl _) ?_; intro v326 w29 ho30 hb hg_ hnew_; clear hg_ hnew_; (first | rw [← Ny325.out] at ho30 | (simp only [Int.reduceToNat] at ho30; rw [← Ny325.out] at ho30)); have n0_ := Aside0.mk (Kd.R_below (by (with_reducible repeat (first | apply Kd.R_alloc | apply Kd.R_drewN | apply Kd.R_drew)); exact HO_3.out) hb); have n1_ := Aside0.mk (Kd.R_elder' (by (with_reducible repeat (first | apply Kd.R_alloc | apply Kd.R_drewN | apply Kd.R_drew)); exact HO323.out) (Kd.R_base ho30) hb); have n2_ := Aside0.mk (Kd.R_lower (Kd.R_new' ho30 (Kd.R_lt (by (with_reducible repeat (first | apply Kd.R_alloc | apply Kd.R_drewN | apply Kd.R_drew)); exact HO323.out))) (below_size (by repeat (first | (with_reducible first | exact HB.out | apply below_alloc | apply pw_below_drewN | apply below_drew1 | refine below_set ?_ GE316.out) | exact HB.out)))); have n3_ := Aside0.mk (blk_below (g := gb316) (o := .cells #[.int .i64 a0_0, .int .i64 a0_1, .slice A0_2 l0_2.length c0_2] 24 (0, 0)) (by (with_reducible repeat (first | refine blk_drewN ?_ _ | refine blk_drew ?_ | refine blk_alloc ?_ _)); exact BK316.out) hb); have n4_ := Aside0.mk (below_step (by repeat (first | (with_reducible first | exact HB.out | apply below_alloc | apply pw_below_drewN | apply below_drew1 | refine below_set ?_ GE316.out) | exact HB.out)) hb); clear HO_3; clear HO323; clear BK316; clear HB; have HO_3 := n0_; have HO323 := n1_; have HO327 := n2_; have BK316 := n3_; have HB := n4_; clear n0_ n1_ n2_ n3_ n4_; clear hb ho30))
            (try simp only [Act.put, List.setIfInBounds_toArray, List.set_cons_zero, List.set_cons_succ])
            go_cut [6] (fun v6 wc => ∃ (kq : Nat) (x5_23 : List Bool) (x6_23 : Int), v6 = .int .i64 x6_23 ∧ Aside0 (davitlaw08_DomChain.j2 kq t318 x4_1 x5_23 x6_23 a0_0 a0_1 l0_2 = some r) ∧ Aside0 (kq ≤ k1) ∧ Aside0 (Kd.R (Kd.int .i64) 3 wc w.heap.size (fun _ => True) (.slice Ao14 t318.length co14) t318) ∧ Aside0 (Kd.R Kd.bool 4 wc w.heap.size (fun _ => True) v326 x5_23) ∧ Aside0 (wc.heap[gb316]? = some (.cells #[.int .i64 a0_0, .int .i64 a0_1, (.slice A0_2 l0_2.length c0_2)] 24 (0, 0))) ∧ Aside0 (Below w.heap.size w wc))
            case first =>
             have H := HC24.out
             clear HC24
             have H' := Aside0.mk H
             clear H
             go_wp2
             go_loopg [6, 7] k1 (fun kq v6 v7 w' => ∃ (x5_2 : List Bool) (x6_2 : Int) (x7_2 : Int), v6 = .int .i64 x6_2 ∧ v7 = .int .i64 x7_2 ∧ Aside0 (davitlaw08_DomChain.l1 kq t318 x4_1 x5_2 x6_2 x7_2 a0_0 a0_1 l0_2 = some r) ∧ Aside0 (kq ≤ k1) ∧ Aside0 (Kd.R (Kd.int .i64) 3 w' w.heap.size (fun _ => True) (.slice Ao14 t318.length co14) t318) ∧ Aside0 (Kd.R Kd.bool 4 w' w.heap.size (fun _ => True) v326 x5_2) ∧ Aside0 (w'.heap[gb316]? = some (.cells #[.int .i64 a0_0, .int .i64 a0_1, (.slice A0_2 l0_2.length c0_2)] 24 (0, 0))) ∧ Aside0 (Below w.heap.size w w'))
             case atStart => exact ⟨(y325), (x4_1), (0), (by first | rfl | (simp; done) | (simp [*]; done)), (by first | rfl | (simp; done) | (simp [*]; done)), H', ⟨Nat.le_refl _⟩, ⟨by (with_reducible repeat (first | apply Kd.R_alloc | apply Kd.R_drewN | apply Kd.R_drew)); exact HO_3.out⟩, ⟨by (with_reducible repeat (first | apply Kd.R_alloc | apply Kd.R_drewN | apply Kd.R_drew)); exact Kd.R_mono HO327.out (fun _ hk => trivial)⟩, ⟨by (with_reducible repeat (first | refine blk_drewN ?_ _ | refine blk_drew ?_ | refine blk_alloc ?_ _)); exact BK316.out⟩, ⟨by repeat (first | (with_reducible first | exact HB.out | apply below_alloc | apply pw_below_drewN | apply below_drew1 | refine below_set ?_ GE316.out) | exact HB.out)⟩⟩
             case round =>
              clear H'
              try clear c1
              try clear c2
              try clear p2
              try clear q2
              try clear c3
              try clear p3
              try clear q3
              try clear hx3
              try clear c4
              try clear c4b0
              try clear c4b1
              try clear c6
              try clear p6
              try clear c9
              try clear c9b0
              try clear c9b1
              try clear c9b2
              try clear c11
              try clear c13
              try clear c16
              try clear c16b0
              try clear c18
              try clear c18b0
              try clear c19
              try clear c19b0
              try clear q20
              try clear c21
              try clear c22
              try clear c22b0
              try clear c22b1
              try clear c23
              try clear c23b0
              try clear c23b1
              try clear hcz12_0
              try clear hcz12_1
              try clear hcz12_2
              try clear hcz15_0
              try clear hcz15_1
              try clear hcz15_2
              try clear hcz25_0
              try clear hcz25_1
              try clear hcz25_2
              try clear hcz28_0
              try clear hcz28_1
              try clear hcz28_2
              try clear hcz7_0
              try clear hcz7_1
              try clear hcz7_2
              try clear hfz12_0
              try clear hfz12_1
              try clear hfz12_2
              try clear hfz15_0
              try clear hfz15_1
              try clear hfz15_2
              try clear hfz25_0
              try clear hfz25_1
              try clear hfz25_2
              try clear hfz28_0
              try clear hfz28_1
              try clear hfz28_2
              try clear hfz7_0
              try clear hfz7_1
              try clear hfz7_2
              try clear hx324_0
              try clear p2
              try clear p324
              try clear q324
              obtain ⟨x5_2, x6_2, x7_2, rfl, rfl, HA, HK2, HO_3, HO_5, BK316, HB⟩ := hrel
              cases gk with
              | zero => exact absurd HA.out (by simp [davitlaw08_DomChain.l1])
              | succ k2 =>
               have H := HA.out
               clear HA
               simp only [davitlaw08_DomChain.l1] at H
               by_cases c31 : x6_2 > 0
               ·rw [if_pos c31] at H
                have c31b0 : decide (0 < x6_2) = true := decide_eq_true c31
                clear c31
                (first | rw [c31b0] | (simp only [i64_w, i32_w]; rw [c31b0]) | skip)
                by_cases c32 : x7_2 ≤ (l0_2.length : Int)
                ·rw [if_pos c32] at H
                 have c32b0 : decide (x7_2 ≤ (l0_2.length : Int)) = true := decide_eq_true c32
                 clear c32
                 by_cases c33 : 0 ≤ x6_2
                 ·rw [if_pos c33] at H
                  have c33b0 : decide (0 ≤ x6_2) = true := decide_eq_true c33
                  clear c33
                  by_cases c34 : x6_2 < (x5_2.length : Int)
                  ·rw [if_pos c34] at H
                   have c34b0 : decide (x6_2 < (x5_2.length : Int)) = true := decide_eq_true c34
                   clear c34
                   obtain ⟨y328, hy328⟩ : ∃ y_ : List Bool, y_ = (x5_2.set (x6_2 : Int).toNat true) := ⟨_, rfl⟩
                   replace H : (if x6_2 < (t318.length : Int) then (davitlaw08_DomChain.l1 k2 t318 x4_1 y328 (rd t318 x6_2) (wrap64 (x7_2 + 1)) a0_0 a0_1 l0_2) else (none)) = some r := by first | (rw [hy328]; with_reducible exact H) | (have H2_ := (Option.bind_some _ _).symm.trans H; rw [hy328]; with_reducible exact H2_) | (have H2_ := (Option.bind_some _ _).symm.trans H; with_reducible exact H2_) | with_reducible exact H | (rw [hy328]; exact H) | exact H
                   have Ny328 := Aside0.mk hy328
                   clear hy328
                   by_cases c36 : x6_2 < (t318.length : Int)
                   ·rw [if_pos c36] at H
                    have c36b0 : decide (x6_2 < (t318.length : Int)) = true := decide_eq_true c36
                    clear c36
                    have H' := Aside0.mk H
                    clear H
                    have hcz37_0 : wr.cell? ⟨gb316, 0, none⟩ = some (.int .i64 a0_0) := (blk_cell BK316.out 0).trans rfl
                    have hcz37_1 : wr.cell? ⟨gb316, 1, none⟩ = some (.int .i64 a0_1) := (blk_cell BK316.out 1).trans rfl
                    have hcz37_2 : wr.cell? ⟨gb316, 2, none⟩ = some (.slice A0_2 l0_2.length c0_2) := (blk_cell BK316.out 2).trans rfl
                    have hfz37_0 := blk_frozen BK316.out 0
                    have hfz37_1 := blk_frozen BK316.out 1
                    have hfz37_2 := blk_frozen BK316.out 2
                    have p35 : 0 ≤ (x6_2 : Int) := of_decide_eq_true (by first | (with_reducible assumption) | assumption)
                    have q35 : (x6_2 : Int) < ((x5_2.length : Int) : Int) := of_decide_eq_true (by first | (with_reducible assumption) | assumption)
                    obtain ⟨go35, co35, eo35, gb35, gl35, cl35, HG35⟩ := Kd.R_form HO_5.out (by omega)
                    (first | cases eo35 | (injection eo35 with ea_ en_ ec_; (first | subst ea_ | (injection ea_ with ea_; subst ea_)); subst ec_; clear en_))
                    have GB35 := Aside0.mk gb35
                    have GG35 := Aside0.mk HG35
                    clear gb35 gl35 HG35
                    obtain ⟨hx35_0, hf35_0⟩ := Kd.R_celln false HO_5.out (x6_2 : Int) p35 q35
                    replace p35 := eq_true p35
                    replace q35 := eq_true q35
                    have HP38 := Kd.R_putg HO_5.out (x6_2 : Int) true
                    go_wp2_with (first | ((with_reducible refine gate_store (t := 4) (p := 52) rfl ?_); refine store_event (t := 4) (p := 52) (v := ?vo_w39) (w1 := (wr.setCell ⟨go35, (x6_2 : Int).toNat, none⟩ (.bool true))) ?hg ?ho ?hn ?hr ?_; (case ho => rfl); (case hg => rfl); (case hn => rfl); (case hr => first | (go_simp; done) | (go_simp; rfl)); intro w39 hw; have hg : wr.grownBy w39 (some go35) := (by rw [hw]; exact HP38.2); have hp_ : Kd.R Kd.bool 4 w39 w.heap.size (fun _ => True) (.slice (some ⟨go35, 0, none⟩) x5_2.length co35) y328 := (by rw [hw, Ny328.out]; exact HP38.1); clear HP38; have n0_ := Aside0.mk (Kd.R_over' (v := (.slice (some ⟨go35, 0, none⟩) x5_2.length co35)) (by (with_reducible repeat (first | apply Kd.R_alloc | apply Kd.R_drewN | apply Kd.R_drew)); exact HO_3.out) (Kd.R_typed HO_5.out) (by decide) hg); have n1_ := Aside0.mk (hp_); have n2_ := Aside0.mk (blk_grown (g := gb316) (o := .cells #[.int .i64 a0_0, .int .i64 a0_1, .slice A0_2 l0_2.length c0_2] 24 (0, 0)) (by (with_reducible repeat (first | refine blk_drewN ?_ _ | refine blk_drew ?_ | refine blk_alloc ?_ _)); exact BK316.out) hg (Kd.R_ne HO_5.out BK316.out (by decide))); have n3_ := Aside0.mk ((by rw [hw]; exact below_set (HB.out) GB35.out : Below w.heap.size w w39)); clear HO_3; clear HO_5; clear BK316; clear HB; have HO_3 := n0_; have HO_5 := n1_; have BK316 := n2_; have HB := n3_; clear n0_ n1_ n2_ n3_; clear hg hw hp_; have p329 : 0 ≤ (x6_2 : Int) := of_decide_eq_true (by first | (with_reducible assumption) | assumption); have q329 : x6_2 < (t318.length : Int) := of_decide_eq_true (by first | (with_reducible assumption) | assumption); obtain ⟨ad329, e329, hx329_0⟩ := Kd.at_int (Kd.R_reads' HO_3.out).2.2 x6_2 p329 q329; cases e329; replace p329 := eq_true p329; replace q329 := eq_true q329))
                    go_roundg k2
                    case measure => have := HK1.out; have := HK2.out; omega
                    case rel => exact ⟨(y328), (rd t318 x6_2), (wrap64 (x7_2 + 1)), (by first | rfl | (simp; done) | (simp [*]; done)), (by first | rfl | (simp; done) | (simp [*]; done)), H', ⟨by have := HK1.out; have := HK2.out; omega⟩, ⟨by (with_reducible repeat (first | apply Kd.R_alloc | apply Kd.R_drewN | apply Kd.R_drew)); exact HO_3.out⟩, ⟨by (with_reducible repeat (first | apply Kd.R_alloc | apply Kd.R_drewN | apply Kd.R_drew)); exact HO_5.out⟩, ⟨by (with_reducible repeat (first | refine blk_drewN ?_ _ | refine blk_drew ?_ | refine blk_alloc ?_ _)); exact BK316.out⟩, ⟨by repeat (first | (with_reducible first | exact HB.out | apply below_alloc | apply pw_below_drewN | apply below_drew1 | refine below_set ?_ GE316.out) | exact HB.out)⟩⟩
                   ·rw [if_neg c36] at H
                    exact absurd H (by simp)
                  ·rw [if_neg c34] at H
                   exact absurd H (by simp)
                 ·rw [if_neg c33] at H
                  exact absurd H (by simp)
                ·rw [if_neg c32] at H
                 have c32b0 : decide (x7_2 ≤ (l0_2.length : Int)) = false := decide_eq_false c32
                 clear c32
                 have H' := Aside0.mk H
                 clear H
                 have hcz40_0 : wr.cell? ⟨gb316, 0, none⟩ = some (.int .i64 a0_0) := (blk_cell BK316.out 0).trans rfl
                 have hcz40_1 : wr.cell? ⟨gb316, 1, none⟩ = some (.int .i64 a0_1) := (blk_cell BK316.out 1).trans rfl
                 have hcz40_2 : wr.cell? ⟨gb316, 2, none⟩ = some (.slice A0_2 l0_2.length c0_2) := (blk_cell BK316.out 2).trans rfl
                 have hfz40_0 := blk_frozen BK316.out 0
                 have hfz40_1 := blk_frozen BK316.out 1
                 have hfz40_2 := blk_frozen BK316.out 2
                 go_wp2
                 go_meet
                 case rel => exact ⟨_, (x5_2), (x6_2), (by first | rfl | (simp; done) | (simp [*]; done)), H', ⟨by have := HK1.out; have := HK2.out; first | omega | exact Nat.le_refl _⟩, ⟨by (with_reducible repeat (first | apply Kd.R_alloc | apply Kd.R_drewN | apply Kd.R_drew)); exact HO_3.out⟩, ⟨by (with_reducible repeat (first | apply Kd.R_alloc | apply Kd.R_drewN | apply Kd.R_drew)); exact HO_5.out⟩, ⟨by (with_reducible repeat (first | refine blk_drewN ?_ _ | refine blk_drew ?_ | refine blk_alloc ?_ _)); exact BK316.out⟩, ⟨by repeat (first | (with_reducible first | exact HB.out | apply below_alloc | apply pw_below_drewN | apply below_drew1 | refine below_set ?_ GE316.out) | exact HB.out)⟩⟩
               ·rw [if_neg c31] at H
                have c31b0 : decide (0 < x6_2) = false := decide_eq_false c31
                clear c31
                (first | rw [c31b0] | (simp only [i64_w, i32_w]; rw [c31b0]) | skip)
                have H' := Aside0.mk H
                clear H
                go_wp2
                go_meet
                case rel => exact ⟨_, (x5_2), (x6_2), (by first | rfl | (simp; done) | (simp [*]; done)), H', ⟨by have := HK1.out; have := HK2.out; first | omega | exact Nat.le_refl _⟩, ⟨by (with_reducible repeat (first | apply Kd.R_alloc | apply Kd.R_drewN | apply Kd.R_drew)); exact HO_3.out⟩, ⟨by (with_reducible repeat (first | apply Kd.R_alloc | apply Kd.R_drewN | apply Kd.R_drew)); exact HO_5.out⟩, ⟨by (with_reducible repeat (first | refine blk_drewN ?_ _ | refine blk_drew ?_ | refine blk_alloc ?_ _)); exact BK316.out⟩, ⟨by repeat (first | (with_reducible first | exact HB.out | apply below_alloc | apply pw_below_drewN | apply below_drew1 | refine below_set ?_ GE316.out) | exact HB.out)⟩⟩
            case rest =>
             clear HC24
             try clear c1
             try clear c2
             try clear p2
             try clear q2
             try clear c3
             try clear p3
             try clear q3
             try clear hx3
             try clear hf3
             try clear c4
             try clear c4b0
             try clear c4b1
             try clear c6
             try clear p6
             try clear c9
             try clear c9b0
             try clear c9b1
             try clear c9b2
             try clear c11
             try clear c13
             try clear c16
             try clear c16b0
             try clear c18
             try clear c18b0
             try clear c19
             try clear c19b0
             try clear q20
             try clear c21
             try clear c22
             try clear c22b0
             try clear c22b1
             try clear c23
             try clear c23b0
             try clear c23b1
             try clear c31
             try clear c31b0
             try clear c32
             try clear c32b0
             try clear p32
             try clear q32
             try clear hx32
             try clear c33
             try clear c33b0
             try clear c34
             try clear c34b0
             try clear p35
             try clear q35
             try clear hx35
             try clear hf35
             try clear c36
             try clear c36b0
             try clear hcz12_0
             try clear hcz12_1
             try clear hcz12_2
             try clear hcz15_0
             try clear hcz15_1
             try clear hcz15_2
             try clear hcz25_0
             try clear hcz25_1
             try clear hcz25_2
             try clear hcz28_0
             try clear hcz28_1
             try clear hcz28_2
             try clear hcz37_0
             try clear hcz37_1
             try clear hcz37_2
             try clear hcz40_0
             try clear hcz40_1
             try clear hcz40_2
             try clear hcz7_0
             try clear hcz7_1
             try clear hcz7_2
             try clear hfz12_0
             try clear hfz12_1
             try clear hfz12_2
             try clear hfz15_0
             try clear hfz15_1
             try clear hfz15_2
             try clear hfz25_0
             try clear hfz25_1
             try clear hfz25_2
             try clear hfz28_0
             try clear hfz28_1
             try clear hfz28_2
             try clear hfz37_0
             try clear hfz37_1
             try clear hfz37_2
             try clear hfz40_0
             try clear hfz40_1
             try clear hfz40_2
             try clear hfz7_0
             try clear hfz7_1
             try clear hfz7_2
             try clear hx324_0
             try clear hx329_0
             try clear hx35_0
             try clear p2
             try clear p3
             try clear p324
             try clear p329
             try clear p35
             try clear p6
             try clear q2
             try clear q20
             try clear q3
             try clear q324
             try clear q329
             try clear q35
             obtain ⟨kq, x5_23, x6_23, rfl, HA, HJ23, HO_3, HO_5, BK316, HB⟩ := hcut
             cases kq with
             | zero => exact absurd HA.out (by simp [davitlaw08_DomChain.j2])
             | succ kj23 =>
              have H := HA.out
              clear HA
              simp only [davitlaw08_DomChain.j2] at H
              by_cases c41 : x6_23 = 0
              ·rw [if_pos c41] at H
               have c41b0 : (x6_23 == 0) = true := beq_iff_eq.mpr c41
               have c41b1 : (x6_23 != 0) = false := bne_eq_false_iff_eq.mpr c41
               clear c41
               by_cases c42 : 0 < (x5_23.length : Int)
               ·rw [if_pos c42] at H
                have c42b0 : decide (0 < (x5_23.length : Int)) = true := decide_eq_true c42
                have c42b1 : decide (0 < x5_23.length) = true := decide_eq_true (by omega)
                clear c42
                obtain ⟨y330, hy330⟩ : ∃ y_ : List Bool, y_ = (x5_23.set (0 : Int).toNat true) := ⟨_, rfl⟩
                replace H : (davitlaw08_DomChain.l2 kj23 t318 x4_1 y330 0 a0_0 a0_1 l0_2) = some r := by first | (rw [hy330]; with_reducible exact H) | (have H2_ := (Option.bind_some _ _).symm.trans H; rw [hy330]; with_reducible exact H2_) | (have H2_ := (Option.bind_some _ _).symm.trans H; with_reducible exact H2_) | with_reducible exact H | (rw [hy330]; exact H) | exact H
                have Ny330 := Aside0.mk hy330
                clear hy330
                have H' := Aside0.mk H
                clear H
                have p43 : 0 ≤ (0 : Int) := (by omega)
                have q43 : (0 : Int) < ((x5_23.length : Int) : Int) := of_decide_eq_true (by first | (with_reducible assumption) | assumption)
                have qi43 : (0 < x5_23.length) = True := eq_true (by omega)
                obtain ⟨go43, co43, eo43, gb43, gl43, cl43, HG43⟩ := Kd.R_form HO_5.out (by omega)
                (first | cases eo43 | (injection eo43 with ea_ en_ ec_; (first | subst ea_ | (injection ea_ with ea_; subst ea_)); subst ec_; clear en_))
                have GB43 := Aside0.mk gb43
                have GG43 := Aside0.mk HG43
                clear gb43 gl43 HG43
                obtain ⟨hx43_0, hf43_0⟩ := Kd.R_celln false HO_5.out (0 : Int) p43 q43
                (try rw [show ((0 : Int)).toNat = 0 from rfl] at hx43_0)
                (try simp only [Nat.reduceMul, Nat.zero_mul, Nat.zero_add, Nat.reduceAdd] at hx43_0)
                (try rw [show ((0 : Int)).toNat = 0 from rfl] at hf43_0)
                (try simp only [Nat.reduceMul, Nat.zero_mul, Nat.zero_add, Nat.reduceAdd] at hf43_0)
                replace p43 := eq_true p43
                replace q43 := eq_true q43
                have HP44 := Kd.R_putg HO_5.out (0 : Int) true
                go_wp2_with (first | ((with_reducible refine gate_store (t := 4) (p := 62) rfl ?_); refine store_event (t := 4) (p := 62) (v := ?vo_w45) (w1 := (wc.setCell ⟨go43, (0 : Int).toNat, none⟩ (.bool true))) ?hg ?ho ?hn ?hr ?_; (case ho => rfl); (case hg => rfl); (case hn => rfl); (case hr => first | (go_simp; done) | (go_simp; rfl)); intro w45 hw; have hg : wc.grownBy w45 (some go43) := (by rw [hw]; exact HP44.2); have hp_ : Kd.R Kd.bool 4 w45 w.heap.size (fun _ => True) (.slice (some ⟨go43, 0, none⟩) x5_23.length co43) y330 := (by rw [hw, Ny330.out]; exact HP44.1); clear HP44; have n0_ := Aside0.mk (Kd.R_over' (v := (.slice (some ⟨go43, 0, none⟩) x5_23.length co43)) (by (with_reducible repeat (first | apply Kd.R_alloc | apply Kd.R_drewN | apply Kd.R_drew)); exact HO_3.out) (Kd.R_typed HO_5.out) (by decide) hg); have n1_ := Aside0.mk (hp_); have n2_ := Aside0.mk (blk_grown (g := gb316) (o := .cells #[.int .i64 a0_0, .int .i64 a0_1, .slice A0_2 l0_2.length c0_2] 24 (0, 0)) (by (with_reducible repeat (first | refine blk_drewN ?_ _ | refine blk_drew ?_ | refine blk_alloc ?_ _)); exact BK316.out) hg (Kd.R_ne HO_5.out BK316.out (by decide))); have n3_ := Aside0.mk ((by rw [hw]; exact below_set (HB.out) GB43.out : Below w.heap.size w w45)); clear HO_3; clear HO_5; clear BK316; clear HB; have HO_3 := n0_; have HO_5 := n1_; have BK316 := n2_; have HB := n3_; clear n0_ n1_ n2_ n3_; clear hg hw hp_))
                go_loopg [8] kj23 (fun kq v8 w' => ∃ (x8_3 : Int), v8 = .int .i64 x8_3 ∧ Aside0 (davitlaw08_DomChain.l2 kq t318 x4_1 y330 x8_3 a0_0 a0_1 l0_2 = some r) ∧ Aside0 (kq ≤ kj23) ∧ Aside0 (Kd.R (Kd.int .i64) 3 w' w.heap.size (fun _ => True) (.slice Ao14 t318.length co14) t318) ∧ Aside0 (Kd.R Kd.bool 4 w' w.heap.size (fun _ => True) (.slice (some ⟨go43, 0, none⟩) x5_23.length co43) y330) ∧ Aside0 (w'.heap[gb316]? = some (.cells #[.int .i64 a0_0, .int .i64 a0_1, (.slice A0_2 l0_2.length c0_2)] 24 (0, 0))) ∧ Aside0 (Below w.heap.size w w'))
                case atStart => exact ⟨(0), (by first | rfl | (simp; done) | (simp [*]; done)), H', ⟨Nat.le_refl _⟩, ⟨by (with_reducible repeat (first | apply Kd.R_alloc | apply Kd.R_drewN | apply Kd.R_drew)); exact HO_3.out⟩, ⟨by (with_reducible repeat (first | apply Kd.R_alloc | apply Kd.R_drewN | apply Kd.R_drew)); exact HO_5.out⟩, ⟨by (with_reducible repeat (first | refine blk_drewN ?_ _ | refine blk_drew ?_ | refine blk_alloc ?_ _)); exact BK316.out⟩, ⟨by repeat (first | (with_reducible first | exact HB.out | apply below_alloc | apply pw_below_drewN | apply below_drew1 | refine below_set ?_ GE316.out) | exact HB.out)⟩⟩
                case round =>
                 clear H'
                 try clear c1
                 try clear c2
                 try clear p2
                 try clear q2
                 try clear c3
                 try clear p3
                 try clear q3
                 try clear hx3
                 try clear hf3
                 try clear c4
                 try clear c4b0
                 try clear c4b1
                 try clear p4
                 try clear q4
                 try clear hx4
                 try clear qi4
                 try clear hf4
                 try clear c6
                 try clear p6
                 try clear c9
                 try clear c9b0
                 try clear c9b1
                 try clear c9b2
                 try clear c11
                 try clear c13
                 try clear c16
                 try clear c16b0
                 try clear c18
                 try clear c18b0
                 try clear c19
                 try clear c19b0
                 try clear q20
                 try clear c21
                 try clear c22
                 try clear c22b0
                 try clear c22b1
                 try clear c23
                 try clear c23b0
                 try clear c23b1
                 try clear c31
                 try clear c31b0
                 try clear c32
                 try clear c32b0
                 try clear p32
                 try clear q32
                 try clear hx32
                 try clear c33
                 try clear c33b0
                 try clear c34
                 try clear c34b0
                 try clear p35
                 try clear q35
                 try clear hx35
                 try clear hf35
                 try clear c36
                 try clear c36b0
                 try clear c41
                 try clear c41b0
                 try clear c41b1
                 try clear c42
                 try clear c42b0
                 try clear c42b1
                 try clear p43
                 try clear q43
                 try clear hx43
                 try clear qi43
                 try clear hf43
                 try clear hcz12_0
                 try clear hcz12_1
                 try clear hcz12_2
                 try clear hcz15_0
                 try clear hcz15_1
                 try clear hcz15_2
                 try clear hcz25_0
                 try clear hcz25_1
                 try clear hcz25_2
                 try clear hcz28_0
                 try clear hcz28_1
                 try clear hcz28_2
                 try clear hcz37_0
                 try clear hcz37_1
                 try clear hcz37_2
                 try clear hcz40_0
                 try clear hcz40_1
                 try clear hcz40_2
                 try clear hcz7_0
                 try clear hcz7_1
                 try clear hcz7_2
                 try clear hfz12_0
                 try clear hfz12_1
                 try clear hfz12_2
                 try clear hfz15_0
                 try clear hfz15_1
                 try clear hfz15_2
                 try clear hfz25_0
                 try clear hfz25_1
                 try clear hfz25_2
                 try clear hfz28_0
                 try clear hfz28_1
                 try clear hfz28_2
                 try clear hfz37_0
                 try clear hfz37_1
                 try clear hfz37_2
                 try clear hfz40_0
                 try clear hfz40_1
                 try clear hfz40_2
                 try clear hfz7_0
                 try clear hfz7_1
                 try clear hfz7_2
                 try clear hx324_0
                 try clear hx329_0
                 try clear hx35_0
                 try clear hx43_0
                 try clear p2
                 try clear p3
                 try clear p32
                 try clear p324
                 try clear p329
                 try clear p35
                 try clear p43
                 try clear p6
                 try clear q2
                 try clear q20
                 try clear q3
                 try clear q32
                 try clear q324
                 try clear q329
                 try clear q35
                 try clear q43
                 obtain ⟨x8_3, rfl, HA, HK3, HO_3, HO_5, BK316, HB⟩ := hrel
                 have hl5_3 := (Kd.R_reads' HO_5.out).1
                 rw [hl5_3] at HO_5
                 (try simp only [hl5_3])
                 (try simp only [hl5_3] at BK316)
                 (try simp only [hl5_3] at HO_3)
                 cases gk with
                 | zero => exact absurd HA.out (by simp [davitlaw08_DomChain.l2])
                 | succ k3 =>
                  have H := HA.out
                  clear HA
                  simp only [davitlaw08_DomChain.l2] at H
                  by_cases c46 : x8_3 < (l0_2.length : Int)
                  ·rw [if_pos c46] at H
                   have c46b0 : decide (x8_3 < (l0_2.length : Int)) = true := decide_eq_true c46
                   clear c46
                   by_cases c47 : 0 ≤ x8_3
                   ·rw [if_pos c47] at H
                    have c47b0 : decide (0 ≤ x8_3) = true := decide_eq_true c47
                    clear c47
                    by_cases c48 : x8_3 < (y330.length : Int)
                    ·rw [if_pos c48] at H
                     have c48b0 : decide (x8_3 < (y330.length : Int)) = true := decide_eq_true c48
                     clear c48
                     replace H := Option.bind_eq_some_iff.mp H
                     obtain ⟨t332, A490, H⟩ := H
                     replace H : (if ((rdOf false y330 x8_3) != t332) = true then (some false) else (davitlaw08_DomChain.l2 k3 t318 x4_1 y330 (wrap64 (x8_3 + 1)) a0_0 a0_1 l0_2)) = some r := H
                     have A49 := Aside0.mk A490
                     clear A490
                     by_cases c50 : ((rdOf false y330 x8_3) != t332) = true
                     ·rw [if_pos c50] at H
                      have c50b0 : ((rdOf false y330 x8_3) != t332) = true := c50
                      (try (have c50b1 : decide ((rdOf false y330 x8_3) = t332) = false := by simpa using c50))
                      (try (have c50b2 : ((rdOf false y330 x8_3) == t332) = false := by simpa using c50))
                      (try (have c50b3 : ¬ ((rdOf false y330 x8_3) = t332) := by simpa using c50))
                      clear c50
                      obtain rfl := Option.some.inj H
                      have hcz51_0 : wr.cell? ⟨gb316, 0, none⟩ = some (.int .i64 a0_0) := (blk_cell BK316.out 0).trans rfl
                      have hcz51_1 : wr.cell? ⟨gb316, 1, none⟩ = some (.int .i64 a0_1) := (blk_cell BK316.out 1).trans rfl
                      have hcz51_2 : wr.cell? ⟨gb316, 2, none⟩ = some (.slice A0_2 l0_2.length c0_2) := (blk_cell BK316.out 2).trans rfl
                      have hfz51_0 := blk_frozen BK316.out 0
                      have hfz51_1 := blk_frozen BK316.out 1
                      have hfz51_2 := blk_frozen BK316.out 2
                      try go_wp2
                      have n0_ := Aside0.mk (Kd.R_drew HO_3.out)
                      have n1_ := Aside0.mk (Kd.R_drew HO_5.out)
                      have n2_ := Aside0.mk (blk_drew BK316.out)
                      have n3_ := Aside0.mk (below_drew1 HB.out)
                      clear HO_3
                      clear HO_5
                      clear BK316
                      clear HB
                      have HO_3 := n0_
                      have HO_5 := n1_
                      have BK316 := n2_
                      have HB := n3_
                      clear n0_ n1_ n2_ n3_
                      have p331 : 0 ≤ (x8_3 : Int) := of_decide_eq_true (by first | (with_reducible assumption) | assumption)
                      have q331 : x8_3 < (y330.length : Int) := of_decide_eq_true (by first | (with_reducible assumption) | assumption)
                      obtain ⟨ad331, e331, hx331_0⟩ := Kd.at_bool (Kd.R_reads' HO_5.out).2.2 x8_3 p331 q331
                      (try rw [← Nbq20.out] at hx331_0)
                      obtain rfl : (⟨go43, 0, none⟩ : Addr) = ad331 := (by injection e331)
                      (first | simp only [add_plain] at hx331_0 | simp only [add_at] at hx331_0 | simp only [Addr.add, Nat.zero_add] at hx331_0 | skip)
                      replace p331 := eq_true p331
                      replace q331 := eq_true q331
                      refine start_ (n := 9) (S := fun w' => w'.cell? ⟨gb316, 0, none⟩ = some (.int .i64 a0_0) ∧ w'.cell? ⟨gb316, 1, none⟩ = some (.int .i64 a0_1) ∧ w'.cell? ⟨gb316, 2, none⟩ = some (.slice A0_2 l0_2.length c0_2) ∧ w'.cell? ⟨go43, (x8_3).toNat, none⟩ = some (.bool (rdOf false y330 x8_3))) (ds := []) #[false, false, false, false, false, false, false, false, false] (by kernel_rfl) rfl rfl ⟨(blk_cell BK316.out 0).trans rfl, (blk_cell BK316.out 1).trans rfl, (blk_cell BK316.out 2).trans rfl, hx331_0⟩ (fun hHeld => ?_); refine with_tabW davitlaw08_DomChain.tab24 davitlaw08_DomChain.bits24 (fun HT_ HW_ => ?_)
                      generalize wr.drew = w52 at HO_3 HO_5 BK316 HB hx331_0 hHeld ⊢
                      refine pure_ (i := 0) (N := some 70) (v := ?_) (a' := ?_) #[true, false, false, false, false, false, false, false, false] rfl rfl (any_of HT_.out (by kernel_rfl)) (fun _ _ _ h => h) (Or.inl ⟨by rfl, ?_⟩) ?_ ?_
                      rotate_left
                      ·intro w'
                       go_simp
                       with_reducible rfl
                      rotate_left
                      ·simp only [Act.put, List.setIfInBounds_toArray, List.set_cons_zero, List.set_cons_succ, i64_w, i32_w]
                       rfl
                      refine pure_ (i := 1) (N := some 71) (v := ?_) (a' := ?_) #[true, true, false, false, false, false, false, false, false] rfl rfl (any_of HT_.out (by kernel_rfl)) (fun _ _ _ h => h) (Or.inl ⟨by rfl, ?_⟩) ?_ ?_
                      rotate_left
                      ·intro w'
                       go_simp
                       with_reducible rfl
                      rotate_left
                      ·simp only [Act.put, List.setIfInBounds_toArray, List.set_cons_zero, List.set_cons_succ, i64_w, i32_w]
                       rfl
                      refine pure_ (i := 2) (N := some 72) (v := ?_) (a' := ?_) #[true, true, true, false, false, false, false, false, false] rfl rfl (any_of HT_.out (by kernel_rfl)) (fun _ _ _ h => h) (Or.inl ⟨by rfl, ?_⟩) ?_ ?_
                      rotate_left
                      ·intro w'
                       go_simp
                       with_reducible rfl
                      rotate_left
                      ·simp only [Act.put, List.setIfInBounds_toArray, List.set_cons_zero, List.set_cons_succ, i64_w, i32_w]
                       rfl
                      refine pure_ (i := 5) (N := some 75) (v := ?_) (a' := ?_) #[true, true, true, false, false, true, false, false, false] rfl rfl (any_of HT_.out (by kernel_rfl)) (fun _ _ _ h => h) (Or.inl ⟨by rfl, ?_⟩) ?_ ?_
                      rotate_left
                      ·intro w'
                       go_simp
                       with_reducible rfl
                      rotate_left
                      ·simp only [Act.put, List.setIfInBounds_toArray, List.set_cons_zero, List.set_cons_succ, i64_w, i32_w]
                       rfl
                      refine pure_ (i := 6) (N := some 76) (v := ?_) (a' := ?_) #[true, true, true, false, false, true, true, false, false] rfl rfl (any_of HT_.out (by kernel_rfl)) (fun _ _ _ h => h) (Or.inl ⟨by rfl, ?_⟩) ?_ ?_
                      rotate_left
                      ·intro w'
                       go_simp
                       with_reducible rfl
                      rotate_left
                      ·simp only [Act.put, List.setIfInBounds_toArray, List.set_cons_zero, List.set_cons_succ, i64_w, i32_w]
                       rfl
                      refine take_ (i := 3) (N := some 73) (v := ?_) (a' := ?_) #[true, true, true, true, false, true, true, false, false] rfl rfl (take_ofW HT_.out HW_.out (by kernel_rfl)) (fun _ _ _ h => h) (Or.inl ⟨by rfl, ?_⟩) hHeld ?_ ?_
                      rotate_left
                      ·rintro w' ⟨s0, s1, s2, s3⟩
                       go_simp
                       with_reducible rfl
                      rotate_left
                      ·simp only [Act.put, List.setIfInBounds_toArray, List.set_cons_zero, List.set_cons_succ, i64_w, i32_w]
                       rfl
                      refine take_ (i := 4) (N := some 74) (v := ?_) (a' := ?_) #[true, true, true, true, true, true, true, false, false] rfl rfl (take_ofW HT_.out HW_.out (by kernel_rfl)) (fun _ _ _ h => h) (Or.inl ⟨by rfl, ?_⟩) hHeld ?_ ?_
                      rotate_left
                      ·rintro w' ⟨s0, s1, s2, s3⟩
                       go_simp
                       with_reducible rfl
                      rotate_left
                      ·simp only [Act.put, List.setIfInBounds_toArray, List.set_cons_zero, List.set_cons_succ, i64_w, i32_w]
                       rfl
                      refine one_ (i := 7) (N := some 77) #[true, true, true, true, true, true, true, true, false] rfl rfl (one_of HT_.out (by kernel_rfl)) (by decide) (fun K hK => ?_)
                      refine goes_ Try.func15 (by kernel_rfl) rfl #[.agg #[.int .i64 a0_0, .int .i64 a0_1, .slice A0_2 l0_2.length c0_2], .int .i64 x8_3, .int .i64 x4_1] (by rfl) rfl rfl (by (try simp only [List.map_toArray, List.map_cons, List.map_nil]); first | done | rfl | (simp only [List.length_drop, List.length_take]; rfl)) ?_
                      with_reducible refine (dom_Is.calls k3 a0_0 a0_1 _ _ l0_2 x8_3 x4_1 t332 _ ?side1 ?side2 A49.out).mono ?_
                      (case side1 => repeat (first | exact (Kd.C_below HR0_2.out HB.out) | (with_reducible refine Kd.C_alloc ?_ _) | (with_reducible refine Kd.C_drewN ?_ _) | (with_reducible refine Kd.C_drew ?_)))
                      (case side2 => exact HC0_2.out)
                      rintro e w53 ⟨rfl, hb⟩
                      have HS3_ := (hb.cell (World.block_lt_of_cell? _ _ (hHeld.2.2.2))).trans (hHeld.2.2.2)
                      refine ⟨_, rfl, ?_⟩
                      have n0_ := Aside0.mk (Kd.R_below (by (with_reducible repeat (first | apply Kd.R_alloc | apply Kd.R_drewN | apply Kd.R_drew)); exact HO_3.out) hb)
                      have n1_ := Aside0.mk (Kd.R_below (by (with_reducible repeat (first | apply Kd.R_alloc | apply Kd.R_drewN | apply Kd.R_drew)); exact HO_5.out) hb)
                      have n2_ := Aside0.mk (blk_below (g := gb316) (o := .cells #[.int .i64 a0_0, .int .i64 a0_1, .slice A0_2 l0_2.length c0_2] 24 (0, 0)) (by (with_reducible repeat (first | refine blk_drewN ?_ _ | refine blk_drew ?_ | refine blk_alloc ?_ _)); exact BK316.out) hb)
                      have n3_ := Aside0.mk (below_step (by repeat (first | (with_reducible first | exact HB.out | apply below_alloc | apply pw_below_drewN | apply below_drew1 | refine below_set ?_ GE316.out) | exact HB.out)) hb)
                      clear HO_3
                      clear HO_5
                      clear BK316
                      clear HB
                      have HO_3 := n0_
                      have HO_5 := n1_
                      have BK316 := n2_
                      have HB := n3_
                      clear n0_ n1_ n2_ n3_
                      (try clear hb)
                      (try clear hb2)
                      (try clear hk)
                      (try clear hi)
                      refine hK.out _ _ ⟨(blk_cell BK316.out 0).trans rfl, (blk_cell BK316.out 1).trans rfl, (blk_cell BK316.out 2).trans rfl, HS3_⟩ (fun hHeld => ?_)
                      clear hK K
                      refine norm_ (a' := ?_) ?_ ?_
                      rotate_left
                      ·show Act.put _ (some 77) _ = _
                       simp only [Act.put, List.setIfInBounds_toArray, List.set_cons_zero, List.set_cons_succ, i64_w, i32_w]
                       rfl
                      refine pure_ (i := 8) (N := some 78) (v := ?_) (a' := ?_) #[true, true, true, true, true, true, true, true, true] rfl rfl (any_of HT_.out (by kernel_rfl)) (fun _ _ _ h => h) (Or.inl ⟨by rfl, ?_⟩) ?_ ?_
                      rotate_left
                      ·intro w'
                       go_simp
                       with_reducible rfl
                      rotate_left
                      ·simp only [Act.put, List.setIfInBounds_toArray, List.set_cons_zero, List.set_cons_succ, i64_w, i32_w]
                       rfl
                      refine done_ (done_of HT_.out (by kernel_rfl)) ?_
                      try go_wp2
                      go_ret
                      exact ⟨by first | rfl | (simp [errW_none, errW_some] <;> rfl) | (simp [*, errW_none, errW_some] <;> rfl), by repeat (first | (with_reducible first | exact HB.out | apply below_alloc | apply pw_below_drewN | apply below_drew1 | refine below_set ?_ GE316.out) | exact HB.out)⟩
                     ·rw [if_neg c50] at H
                      have c50b0 : ((rdOf false y330 x8_3) != t332) = false := by simpa using c50
                      (try (have c50b1 : decide ((rdOf false y330 x8_3) = t332) = true := by simpa using c50))
                      (try (have c50b2 : ((rdOf false y330 x8_3) == t332) = true := by simpa using c50))
                      clear c50
                      have H' := Aside0.mk H
                      clear H
                      have hcz54_0 : wr.cell? ⟨gb316, 0, none⟩ = some (.int .i64 a0_0) := (blk_cell BK316.out 0).trans rfl
                      have hcz54_1 : wr.cell? ⟨gb316, 1, none⟩ = some (.int .i64 a0_1) := (blk_cell BK316.out 1).trans rfl
                      have hcz54_2 : wr.cell? ⟨gb316, 2, none⟩ = some (.slice A0_2 l0_2.length c0_2) := (blk_cell BK316.out 2).trans rfl
                      have hfz54_0 := blk_frozen BK316.out 0
                      have hfz54_1 := blk_frozen BK316.out 1
                      have hfz54_2 := blk_frozen BK316.out 2
                      try go_wp2
                      have n0_ := Aside0.mk (Kd.R_drew HO_3.out)
                      have n1_ := Aside0.mk (Kd.R_drew HO_5.out)
                      have n2_ := Aside0.mk (blk_drew BK316.out)
                      have n3_ := Aside0.mk (below_drew1 HB.out)
                      clear HO_3
                      clear HO_5
                      clear BK316
                      clear HB
                      have HO_3 := n0_
                      have HO_5 := n1_
                      have BK316 := n2_
                      have HB := n3_
                      clear n0_ n1_ n2_ n3_
                      have p331 : 0 ≤ (x8_3 : Int) := of_decide_eq_true (by first | (with_reducible assumption) | assumption)
                      have q331 : x8_3 < (y330.length : Int) := of_decide_eq_true (by first | (with_reducible assumption) | assumption)
                      obtain ⟨ad331, e331, hx331_0⟩ := Kd.at_bool (Kd.R_reads' HO_5.out).2.2 x8_3 p331 q331
                      (try rw [← Nbq20.out] at hx331_0)
                      obtain rfl : (⟨go43, 0, none⟩ : Addr) = ad331 := (by injection e331)
                      (first | simp only [add_plain] at hx331_0 | simp only [add_at] at hx331_0 | simp only [Addr.add, Nat.zero_add] at hx331_0 | skip)
                      replace p331 := eq_true p331
                      replace q331 := eq_true q331
                      refine start_ (n := 9) (S := fun w' => w'.cell? ⟨gb316, 0, none⟩ = some (.int .i64 a0_0) ∧ w'.cell? ⟨gb316, 1, none⟩ = some (.int .i64 a0_1) ∧ w'.cell? ⟨gb316, 2, none⟩ = some (.slice A0_2 l0_2.length c0_2) ∧ w'.cell? ⟨go43, (x8_3).toNat, none⟩ = some (.bool (rdOf false y330 x8_3))) (ds := []) #[false, false, false, false, false, false, false, false, false] (by kernel_rfl) rfl rfl ⟨(blk_cell BK316.out 0).trans rfl, (blk_cell BK316.out 1).trans rfl, (blk_cell BK316.out 2).trans rfl, hx331_0⟩ (fun hHeld => ?_); refine with_tabW davitlaw08_DomChain.tab24 davitlaw08_DomChain.bits24 (fun HT_ HW_ => ?_)
                      generalize wr.drew = w55 at HO_3 HO_5 BK316 HB hx331_0 hHeld ⊢
                      refine pure_ (i := 0) (N := some 70) (v := ?_) (a' := ?_) #[true, false, false, false, false, false, false, false, false] rfl rfl (any_of HT_.out (by kernel_rfl)) (fun _ _ _ h => h) (Or.inl ⟨by rfl, ?_⟩) ?_ ?_
                      rotate_left
                      ·intro w'
                       go_simp
                       with_reducible rfl
                      rotate_left
                      ·simp only [Act.put, List.setIfInBounds_toArray, List.set_cons_zero, List.set_cons_succ, i64_w, i32_w]
                       rfl
                      refine pure_ (i := 1) (N := some 71) (v := ?_) (a' := ?_) #[true, true, false, false, false, false, false, false, false] rfl rfl (any_of HT_.out (by kernel_rfl)) (fun _ _ _ h => h) (Or.inl ⟨by rfl, ?_⟩) ?_ ?_
                      rotate_left
                      ·intro w'
                       go_simp
                       with_reducible rfl
                      rotate_left
                      ·simp only [Act.put, List.setIfInBounds_toArray, List.set_cons_zero, List.set_cons_succ, i64_w, i32_w]
                       rfl
                      refine pure_ (i := 2) (N := some 72) (v := ?_) (a' := ?_) #[true, true, true, false, false, false, false, false, false] rfl rfl (any_of HT_.out (by kernel_rfl)) (fun _ _ _ h => h) (Or.inl ⟨by rfl, ?_⟩) ?_ ?_
                      rotate_left
                      ·intro w'
                       go_simp
                       with_reducible rfl
                      rotate_left
                      ·simp only [Act.put, List.setIfInBounds_toArray, List.set_cons_zero, List.set_cons_succ, i64_w, i32_w]
                       rfl
                      refine pure_ (i := 5) (N := some 75) (v := ?_) (a' := ?_) #[true, true, true, false, false, true, false, false, false] rfl rfl (any_of HT_.out (by kernel_rfl)) (fun _ _ _ h => h) (Or.inl ⟨by rfl, ?_⟩) ?_ ?_
                      rotate_left
                      ·intro w'
                       go_simp
                       with_reducible rfl
                      rotate_left
                      ·simp only [Act.put, List.setIfInBounds_toArray, List.set_cons_zero, List.set_cons_succ, i64_w, i32_w]
                       rfl
                      refine pure_ (i := 6) (N := some 76) (v := ?_) (a' := ?_) #[true, true, true, false, false, true, true, false, false] rfl rfl (any_of HT_.out (by kernel_rfl)) (fun _ _ _ h => h) (Or.inl ⟨by rfl, ?_⟩) ?_ ?_
                      rotate_left
                      ·intro w'
                       go_simp
                       with_reducible rfl
                      rotate_left
                      ·simp only [Act.put, List.setIfInBounds_toArray, List.set_cons_zero, List.set_cons_succ, i64_w, i32_w]
                       rfl
                      refine take_ (i := 3) (N := some 73) (v := ?_) (a' := ?_) #[true, true, true, true, false, true, true, false, false] rfl rfl (take_ofW HT_.out HW_.out (by kernel_rfl)) (fun _ _ _ h => h) (Or.inl ⟨by rfl, ?_⟩) hHeld ?_ ?_
                      rotate_left
                      ·rintro w' ⟨s0, s1, s2, s3⟩
                       go_simp
                       with_reducible rfl
                      rotate_left
                      ·simp only [Act.put, List.setIfInBounds_toArray, List.set_cons_zero, List.set_cons_succ, i64_w, i32_w]
                       rfl
                      refine take_ (i := 4) (N := some 74) (v := ?_) (a' := ?_) #[true, true, true, true, true, true, true, false, false] rfl rfl (take_ofW HT_.out HW_.out (by kernel_rfl)) (fun _ _ _ h => h) (Or.inl ⟨by rfl, ?_⟩) hHeld ?_ ?_
                      rotate_left
                      ·rintro w' ⟨s0, s1, s2, s3⟩
                       go_simp
                       with_reducible rfl
                      rotate_left
                      ·simp only [Act.put, List.setIfInBounds_toArray, List.set_cons_zero, List.set_cons_succ, i64_w, i32_w]
                       rfl
                      refine one_ (i := 7) (N := some 77) #[true, true, true, true, true, true, true, true, false] rfl rfl (one_of HT_.out (by kernel_rfl)) (by decide) (fun K hK => ?_)
                      refine goes_ Try.func15 (by kernel_rfl) rfl #[.agg #[.int .i64 a0_0, .int .i64 a0_1, .slice A0_2 l0_2.length c0_2], .int .i64 x8_3, .int .i64 x4_1] (by rfl) rfl rfl (by (try simp only [List.map_toArray, List.map_cons, List.map_nil]); first | done | rfl | (simp only [List.length_drop, List.length_take]; rfl)) ?_
                      with_reducible refine (dom_Is.calls k3 a0_0 a0_1 _ _ l0_2 x8_3 x4_1 t332 _ ?side1 ?side2 A49.out).mono ?_
                      (case side1 => repeat (first | exact (Kd.C_below HR0_2.out HB.out) | (with_reducible refine Kd.C_alloc ?_ _) | (with_reducible refine Kd.C_drewN ?_ _) | (with_reducible refine Kd.C_drew ?_)))
                      (case side2 => exact HC0_2.out)
                      rintro e w56 ⟨rfl, hb⟩
                      have HS3_ := (hb.cell (World.block_lt_of_cell? _ _ (hHeld.2.2.2))).trans (hHeld.2.2.2)
                      refine ⟨_, rfl, ?_⟩
                      have n0_ := Aside0.mk (Kd.R_below (by (with_reducible repeat (first | apply Kd.R_alloc | apply Kd.R_drewN | apply Kd.R_drew)); exact HO_3.out) hb)
                      have n1_ := Aside0.mk (Kd.R_below (by (with_reducible repeat (first | apply Kd.R_alloc | apply Kd.R_drewN | apply Kd.R_drew)); exact HO_5.out) hb)
                      have n2_ := Aside0.mk (blk_below (g := gb316) (o := .cells #[.int .i64 a0_0, .int .i64 a0_1, .slice A0_2 l0_2.length c0_2] 24 (0, 0)) (by (with_reducible repeat (first | refine blk_drewN ?_ _ | refine blk_drew ?_ | refine blk_alloc ?_ _)); exact BK316.out) hb)
                      have n3_ := Aside0.mk (below_step (by repeat (first | (with_reducible first | exact HB.out | apply below_alloc | apply pw_below_drewN | apply below_drew1 | refine below_set ?_ GE316.out) | exact HB.out)) hb)
                      clear HO_3
                      clear HO_5
                      clear BK316
                      clear HB
                      have HO_3 := n0_
                      have HO_5 := n1_
                      have BK316 := n2_
                      have HB := n3_
                      clear n0_ n1_ n2_ n3_
                      (try clear hb)
                      (try clear hb2)
                      (try clear hk)
                      (try clear hi)
                      refine hK.out _ _ ⟨(blk_cell BK316.out 0).trans rfl, (blk_cell BK316.out 1).trans rfl, (blk_cell BK316.out 2).trans rfl, HS3_⟩ (fun hHeld => ?_)
                      clear hK K
                      refine norm_ (a' := ?_) ?_ ?_
                      rotate_left
                      ·show Act.put _ (some 77) _ = _
                       simp only [Act.put, List.setIfInBounds_toArray, List.set_cons_zero, List.set_cons_succ, i64_w, i32_w]
                       rfl
                      refine pure_ (i := 8) (N := some 78) (v := ?_) (a' := ?_) #[true, true, true, true, true, true, true, true, true] rfl rfl (any_of HT_.out (by kernel_rfl)) (fun _ _ _ h => h) (Or.inl ⟨by rfl, ?_⟩) ?_ ?_
                      rotate_left
                      ·intro w'
                       go_simp
                       with_reducible rfl
                      rotate_left
                      ·simp only [Act.put, List.setIfInBounds_toArray, List.set_cons_zero, List.set_cons_succ, i64_w, i32_w]
                       rfl
                      refine done_ (done_of HT_.out (by kernel_rfl)) ?_
                      try go_wp2
                      (try simp only [← hl5_3])
                      go_roundg k3
                      case measure => have := HK1.out; have := HJ23.out; have := HK3.out; omega
                      case rel => exact ⟨(wrap64 (x8_3 + 1)), (by first | rfl | (simp; done) | (simp [*]; done)), H', ⟨by have := HK1.out; have := HJ23.out; have := HK3.out; omega⟩, ⟨by (try simp only [hl5_3]); (with_reducible repeat (first | apply Kd.R_alloc | apply Kd.R_drewN | apply Kd.R_drew)); exact HO_3.out⟩, ⟨by (try simp only [hl5_3]); (with_reducible repeat (first | apply Kd.R_alloc | apply Kd.R_drewN | apply Kd.R_drew)); exact HO_5.out⟩, ⟨by (try simp only [hl5_3]); (with_reducible repeat (first | refine blk_drewN ?_ _ | refine blk_drew ?_ | refine blk_alloc ?_ _)); exact BK316.out⟩, ⟨by repeat (first | (with_reducible first | exact HB.out | apply below_alloc | apply pw_below_drewN | apply below_drew1 | refine below_set ?_ GE316.out) | exact HB.out)⟩⟩
                    ·rw [if_neg c48] at H
                     exact absurd H (by simp)
                   ·rw [if_neg c47] at H
                    exact absurd H (by simp)
                  ·rw [if_neg c46] at H
                   have c46b0 : decide (x8_3 < (l0_2.length : Int)) = false := decide_eq_false c46
                   clear c46
                   have H' := Aside0.mk H
                   clear H
                   have hcz57_0 : wr.cell? ⟨gb316, 0, none⟩ = some (.int .i64 a0_0) := (blk_cell BK316.out 0).trans rfl
                   have hcz57_1 : wr.cell? ⟨gb316, 1, none⟩ = some (.int .i64 a0_1) := (blk_cell BK316.out 1).trans rfl
                   have hcz57_2 : wr.cell? ⟨gb316, 2, none⟩ = some (.slice A0_2 l0_2.length c0_2) := (blk_cell BK316.out 2).trans rfl
                   have hfz57_0 := blk_frozen BK316.out 0
                   have hfz57_1 := blk_frozen BK316.out 1
                   have hfz57_2 := blk_frozen BK316.out 2
                   go_wp2
                   (try simp only [← hl5_3])
                   go_roundg k3
                   case measure => have := HK1.out; have := HJ23.out; have := HK3.out; omega
                   case rel => exact ⟨(wrap64 (x4_1 + 1)), (by first | rfl | (simp; done) | (simp [*]; done)), H', ⟨by have := HK1.out; have := HJ23.out; have := HK3.out; omega⟩, ⟨by (try simp only [hl5_3]); (with_reducible repeat (first | apply Kd.R_alloc | apply Kd.R_drewN | apply Kd.R_drew)); exact HO_3.out⟩, ⟨by (try simp only [hl5_3]); (with_reducible repeat (first | refine blk_drewN ?_ _ | refine blk_drew ?_ | refine blk_alloc ?_ _)); exact BK316.out⟩, ⟨by repeat (first | (with_reducible first | exact HB.out | apply below_alloc | apply pw_below_drewN | apply below_drew1 | refine below_set ?_ GE316.out) | exact HB.out)⟩⟩
               ·rw [if_neg c42] at H
                exact absurd H (by simp)
              ·rw [if_neg c41] at H
               have c41b0 : (x6_23 == 0) = false := beq_eq_false_iff_ne.mpr c41
               have c41b1 : (x6_23 != 0) = true := bne_iff_ne.mpr c41
               obtain rfl := Option.some.inj H
               go_wp2
               go_ret
               exact ⟨by first | rfl | (simp [errW_none, errW_some] <;> rfl) | (simp [*, errW_none, errW_some] <;> rfl), by repeat (first | (with_reducible first | exact HB.out | apply below_alloc | apply pw_below_drewN | apply below_drew1 | refine below_set ?_ GE316.out) | exact HB.out)⟩
           ·rw [if_neg c23] at H
            exact absurd H (by simp)
          ·rw [if_neg c22] at H
           exact absurd H (by simp)
         ·replace c21 := Bool.eq_false_iff.mpr c21
          subst c21
          have H1 : (davitlaw08_DomChain.l0 k1 t318 (wrap64 (x4_1 + 1)) a0_0 a0_1 l0_2) = some r := by rw [if_neg (show ¬ (false = true) by decide)] at H; exact H
          clear H
          have H := H1
          clear H1
          have H' := Aside0.mk H
          clear H
          have hcz58_0 : wr.cell? ⟨gb316, 0, none⟩ = some (.int .i64 a0_0) := (blk_cell BK316.out 0).trans rfl
          have hcz58_1 : wr.cell? ⟨gb316, 1, none⟩ = some (.int .i64 a0_1) := (blk_cell BK316.out 1).trans rfl
          have hcz58_2 : wr.cell? ⟨gb316, 2, none⟩ = some (.slice A0_2 l0_2.length c0_2) := (blk_cell BK316.out 2).trans rfl
          have hfz58_0 := blk_frozen BK316.out 0
          have hfz58_1 := blk_frozen BK316.out 1
          have hfz58_2 := blk_frozen BK316.out 2
          go_wp2_with (first | ((with_reducible refine gate_callee (f := 19) rfl ?_); refine goesL_ (some 31) rfl rfl Try.func19 (by kernel_rfl) rfl #[.agg #[.int .i64 a0_0, .int .i64 a0_1, .slice A0_2 l0_2.length c0_2]] rfl (by (try simp only [List.map_toArray, List.map_cons, List.map_nil]); first | done | rfl | (simp only [List.length_drop, List.length_take]; rfl)) ?_; (with_reducible refine (flow_Reached.calls a0_0 a0_1 _ _ l0_2 t321 _ ?side1 ?side2 A17.out).mono ?_); (case side1 => repeat (first | exact (Kd.C_below HR0_2.out HB.out) | (with_reducible refine Kd.C_alloc ?_ _) | (with_reducible refine Kd.C_drewN ?_ _) | (with_reducible refine Kd.C_drew ?_))); (case side2 => exact HC0_2.out); rintro e w59 ⟨v322, rfl, ho0, hb⟩; refine ⟨_, rfl, ?_⟩; have n0_ := Aside0.mk (Kd.R_below (by (with_reducible repeat (first | apply Kd.R_alloc | apply Kd.R_drewN | apply Kd.R_drew)); exact HO_3.out) hb); have n1_ := Aside0.mk (Kd.R_lower ho0 (below_size (by repeat (first | (with_reducible first | exact HB.out | apply below_alloc | apply pw_below_drewN | apply below_drew1 | refine below_set ?_ GE316.out) | exact HB.out)))); have n2_ := Aside0.mk (blk_below (g := gb316) (o := .cells #[.int .i64 a0_0, .int .i64 a0_1, .slice A0_2 l0_2.length c0_2] 24 (0, 0)) (by (with_reducible repeat (first | refine blk_drewN ?_ _ | refine blk_drew ?_ | refine blk_alloc ?_ _)); exact BK316.out) hb); have n3_ := Aside0.mk (below_step (by repeat (first | (with_reducible first | exact HB.out | apply below_alloc | apply pw_below_drewN | apply below_drew1 | refine below_set ?_ GE316.out) | exact HB.out)) hb); clear HO_3; clear BK316; clear HB; have HO_3 := n0_; have HO323 := n1_; have BK316 := n2_; have HB := n3_; clear n0_ n1_ n2_ n3_; (try clear hb); (try clear hb2); (try clear hk); (try clear hi); (try clear ho0); obtain ⟨Ao60, co60, eo60⟩ := Kd.R_slice HO323.out; subst eo60; have p324 : 0 ≤ (x4_1 : Int) := of_decide_eq_true (by first | (with_reducible assumption) | assumption); have q324 : x4_1 < (t321.length : Int) := of_decide_eq_true (by first | (with_reducible assumption) | assumption); obtain ⟨ad324, e324, hx324_0⟩ := Kd.at_bool (Kd.R_reads' HO323.out).2.2 x4_1 p324 q324; (try rw [← Nbq20.out] at hx324_0); cases e324; replace p324 := eq_true p324; replace q324 := eq_true q324))
          go_roundg k1
          case measure => have := HK1.out; omega
          case rel => exact ⟨(wrap64 (x4_1 + 1)), (by first | rfl | (simp; done) | (simp [*]; done)), H', ⟨by have := HK1.out; omega⟩, ⟨by (with_reducible repeat (first | apply Kd.R_alloc | apply Kd.R_drewN | apply Kd.R_drew)); exact HO_3.out⟩, ⟨by (with_reducible repeat (first | refine blk_drewN ?_ _ | refine blk_drew ?_ | refine blk_alloc ?_ _)); exact BK316.out⟩, ⟨by repeat (first | (with_reducible first | exact HB.out | apply below_alloc | apply pw_below_drewN | apply below_drew1 | refine below_set ?_ GE316.out) | exact HB.out)⟩⟩
        ·rw [if_neg c19] at H
         exact absurd H (by simp)
       ·rw [if_neg c18] at H
        exact absurd H (by simp)
      ·rw [if_neg c16] at H
       have c16b0 : decide (x4_1 < (l0_2.length : Int)) = false := decide_eq_false c16
       clear c16
       obtain rfl := Option.some.inj H
       have hcz61_0 : wr.cell? ⟨gb316, 0, none⟩ = some (.int .i64 a0_0) := (blk_cell BK316.out 0).trans rfl
       have hcz61_1 : wr.cell? ⟨gb316, 1, none⟩ = some (.int .i64 a0_1) := (blk_cell BK316.out 1).trans rfl
       have hcz61_2 : wr.cell? ⟨gb316, 2, none⟩ = some (.slice A0_2 l0_2.length c0_2) := (blk_cell BK316.out 2).trans rfl
       have hfz61_0 := blk_frozen BK316.out 0
       have hfz61_1 := blk_frozen BK316.out 1
       have hfz61_2 := blk_frozen BK316.out 2
       go_wp2
       go_ret
       exact ⟨by first | rfl | (simp [errW_none, errW_some] <;> rfl) | (simp [*, errW_none, errW_some] <;> rfl), by repeat (first | (with_reducible first | exact HB.out | apply below_alloc | apply pw_below_drewN | apply below_drew1 | refine below_set ?_ GE316.out) | exact HB.out)⟩
   ·rw [if_neg c9] at H
    have c9b0 : ((t318.length : Int) == (l0_2.length : Int)) = false := beq_eq_false_iff_ne.mpr c9
    have c9b1 : ((t318.length : Int) != (l0_2.length : Int)) = true := bne_iff_ne.mpr c9
    have c9b2 : (t318.length == l0_2.length) = false := by first | simpa using c9 | (simp at c9 ⊢; omega)
    obtain rfl := Option.some.inj H
    go_enter Try.func6, Try.ntmps6
    go_wp2_with (first | ((with_reducible refine gate_dst (N := 1) rfl ?_); (try (refine gate_guard (by rfl) ?_; dsimp only)); refine box_event ?hg (N := 1) ?hd (cs := #[.int .i64 a0_0, .int .i64 a0_1, .slice A0_2 l0_2.length c0_2]) (t := 24) ?hr ?_; (case hd => rfl); (case hg => rfl); (case hr => first | (go_simp; done) | (go_simp; rfl)); intro gb316 hg w62 hbox hb; have n0_ := Aside0.mk (below_step (by repeat (first | (with_reducible first | exact HB.out | apply below_alloc | apply pw_below_drewN | apply below_drew1) | exact HB.out)) hb); have n1_ := Aside0.mk (hbox); have n2_ := Aside0.mk ((by rw [hg]; exact (below_size (by repeat (first | (with_reducible first | exact HB.out | apply below_alloc | apply pw_below_drewN | apply below_drew1) | exact HB.out))) : w.heap.size ≤ gb316)); have n3_ := Aside0.mk ((by rw [hg]; exact (below_size (by repeat (first | (with_reducible first | exact HB.out | apply below_alloc | apply pw_below_drewN | apply below_drew1) | exact HB.out))) : w.heap.size ≤ gb316)); clear HB; have HB := n0_; have BK316 := n1_; have GW316 := n2_; have GE316 := n3_; clear n0_ n1_ n2_ n3_; clear hb hbox hg) | ((with_reducible refine gate_callee (f := 11) rfl ?_); refine goesL_ (some 9) rfl rfl Try.func11 (by kernel_rfl) rfl #[] rfl (by (try simp only [List.map_toArray, List.map_cons, List.map_nil]); first | done | rfl | (simp only [List.length_drop, List.length_take]; rfl)) ?_; (with_reducible refine (davitlaw08_awake.calls k  true _ A2.out).mono ?_); rintro e w63 ⟨rfl, hb⟩; refine ⟨_, rfl, ?_⟩; have n0_ := Aside0.mk (blk_below (g := gb316) (o := .cells #[.int .i64 a0_0, .int .i64 a0_1, .slice A0_2 l0_2.length c0_2] 24 (0, 0)) (by (with_reducible repeat (first | refine blk_drewN ?_ _ | refine blk_drew ?_ | refine blk_alloc ?_ _)); exact BK316.out) hb); have n1_ := Aside0.mk (below_step (by repeat (first | (with_reducible first | exact HB.out | apply below_alloc | apply pw_below_drewN | apply below_drew1 | refine below_set ?_ GE316.out) | exact HB.out)) hb); clear BK316; clear HB; have BK316 := n0_; have HB := n1_; clear n0_ n1_; (try clear hb); (try clear hb2); (try clear hk); (try clear hi); have hcz64_0 : w63.cell? ⟨gb316, 0, none⟩ = some (.int .i64 a0_0) := (blk_cell BK316.out 0).trans rfl; have hcz64_1 : w63.cell? ⟨gb316, 1, none⟩ = some (.int .i64 a0_1) := (blk_cell BK316.out 1).trans rfl; have hcz64_2 : w63.cell? ⟨gb316, 2, none⟩ = some (.slice A0_2 l0_2.length c0_2) := (blk_cell BK316.out 2).trans rfl; have hfz64_0 := blk_frozen BK316.out 0; have hfz64_1 := blk_frozen BK316.out 1; have hfz64_2 := blk_frozen BK316.out 2) | ((with_reducible refine gate_callee (f := 13) rfl ?_); refine goesL_ (some 16) rfl rfl Try.func13 (by kernel_rfl) rfl #[.agg #[.int .i64 a0_0, .int .i64 a0_1, .slice A0_2 l0_2.length c0_2]] rfl (by (try simp only [List.map_toArray, List.map_cons, List.map_nil]); first | done | rfl | (simp only [List.length_drop, List.length_take]; rfl)) ?_; (with_reducible refine (dom_Over.calls a0_0 a0_1 _ _ l0_2 t318 _ ?side1 ?side2 A8.out).mono ?_); (case side1 => repeat (first | exact (Kd.C_below HR0_2.out HB.out) | (with_reducible refine Kd.C_alloc ?_ _) | (with_reducible refine Kd.C_drewN ?_ _) | (with_reducible refine Kd.C_drew ?_))); (case side2 => exact HC0_2.out); rintro e w65 ⟨v319, rfl, ho0, hb⟩; refine ⟨_, rfl, ?_⟩; have n0_ := Aside0.mk (Kd.R_lower ho0 (below_size (by repeat (first | (with_reducible first | exact HB.out | apply below_alloc | apply pw_below_drewN | apply below_drew1 | refine below_set ?_ GE316.out) | exact HB.out)))); have n1_ := Aside0.mk (blk_below (g := gb316) (o := .cells #[.int .i64 a0_0, .int .i64 a0_1, .slice A0_2 l0_2.length c0_2] 24 (0, 0)) (by (with_reducible repeat (first | refine blk_drewN ?_ _ | refine blk_drew ?_ | refine blk_alloc ?_ _)); exact BK316.out) hb); have n2_ := Aside0.mk (below_step (by repeat (first | (with_reducible first | exact HB.out | apply below_alloc | apply pw_below_drewN | apply below_drew1 | refine below_set ?_ GE316.out) | exact HB.out)) hb); clear BK316; clear HB; have HO320 := n0_; have BK316 := n1_; have HB := n2_; clear n0_ n1_ n2_; (try clear hb); (try clear hb2); (try clear hk); (try clear hi); (try clear ho0); obtain ⟨Ao66, co66, eo66⟩ := Kd.R_slice HO320.out; subst eo66; have hcz67_0 : w65.cell? ⟨gb316, 0, none⟩ = some (.int .i64 a0_0) := (blk_cell BK316.out 0).trans rfl; have hcz67_1 : w65.cell? ⟨gb316, 1, none⟩ = some (.int .i64 a0_1) := (blk_cell BK316.out 1).trans rfl; have hcz67_2 : w65.cell? ⟨gb316, 2, none⟩ = some (.slice A0_2 l0_2.length c0_2) := (blk_cell BK316.out 2).trans rfl; have hfz67_0 := blk_frozen BK316.out 0; have hfz67_1 := blk_frozen BK316.out 1; have hfz67_2 := blk_frozen BK316.out 2))
    go_ret
    exact ⟨by first | rfl | (simp [errW_none, errW_some] <;> rfl) | (simp [*, errW_none, errW_some] <;> rfl), by repeat (first | (with_reducible first | exact HB.out | apply below_alloc | apply pw_below_drewN | apply below_drew1 | refine below_set ?_ GE316.out) | exact HB.out)⟩
 ·replace c3 := Bool.eq_false_iff.mpr c3
  subst c3
  have H1 : (some false) = some r := by rw [if_neg (show ¬ (false = true) by decide)] at H; exact H
  clear H
  have H := H1
  clear H1
  obtain rfl := Option.some.inj H
  go_enter Try.func6, Try.ntmps6
  go_wp2_with (first | ((with_reducible refine gate_dst (N := 1) rfl ?_); (try (refine gate_guard (by rfl) ?_; dsimp only)); refine box_event ?hg (N := 1) ?hd (cs := #[.int .i64 a0_0, .int .i64 a0_1, .slice A0_2 l0_2.length c0_2]) (t := 24) ?hr ?_; (case hd => rfl); (case hg => rfl); (case hr => first | (go_simp; done) | (go_simp; rfl)); intro gb316 hg w68 hbox hb; have n0_ := Aside0.mk (below_step (by repeat (first | (with_reducible first | exact HB.out | apply below_alloc | apply pw_below_drewN | apply below_drew1) | exact HB.out)) hb); have n1_ := Aside0.mk (hbox); have n2_ := Aside0.mk ((by rw [hg]; exact (below_size (by repeat (first | (with_reducible first | exact HB.out | apply below_alloc | apply pw_below_drewN | apply below_drew1) | exact HB.out))) : w.heap.size ≤ gb316)); have n3_ := Aside0.mk ((by rw [hg]; exact (below_size (by repeat (first | (with_reducible first | exact HB.out | apply below_alloc | apply pw_below_drewN | apply below_drew1) | exact HB.out))) : w.heap.size ≤ gb316)); clear HB; have HB := n0_; have BK316 := n1_; have GW316 := n2_; have GE316 := n3_; clear n0_ n1_ n2_ n3_; clear hb hbox hg) | ((with_reducible refine gate_callee (f := 11) rfl ?_); refine goesL_ (some 9) rfl rfl Try.func11 (by kernel_rfl) rfl #[] rfl (by (try simp only [List.map_toArray, List.map_cons, List.map_nil]); first | done | rfl | (simp only [List.length_drop, List.length_take]; rfl)) ?_; (with_reducible refine (davitlaw08_awake.calls k  false _ A2.out).mono ?_); rintro e w69 ⟨rfl, hb⟩; refine ⟨_, rfl, ?_⟩; have n0_ := Aside0.mk (blk_below (g := gb316) (o := .cells #[.int .i64 a0_0, .int .i64 a0_1, .slice A0_2 l0_2.length c0_2] 24 (0, 0)) (by (with_reducible repeat (first | refine blk_drewN ?_ _ | refine blk_drew ?_ | refine blk_alloc ?_ _)); exact BK316.out) hb); have n1_ := Aside0.mk (below_step (by repeat (first | (with_reducible first | exact HB.out | apply below_alloc | apply pw_below_drewN | apply below_drew1 | refine below_set ?_ GE316.out) | exact HB.out)) hb); clear BK316; clear HB; have BK316 := n0_; have HB := n1_; clear n0_ n1_; (try clear hb); (try clear hb2); (try clear hk); (try clear hi)))
  go_ret
  exact ⟨by first | rfl | (simp [errW_none, errW_some] <;> rfl) | (simp [*, errW_none, errW_some] <;> rfl), by repeat (first | (with_reducible first | exact HB.out | apply below_alloc | apply pw_below_drewN | apply below_drew1 | refine below_set ?_ GE316.out) | exact HB.out)⟩
end
end Go.Proofs.Ytilopoegoddggaa.X
namespace Go.Proofs.Ytilopoegoddggaa.X
open Go.RowKit Go.Proofs.YtilopoegoddggaaW.PrintWords Go.Proofs.YtilopoegoddggaaW.PrintLast Go.Proofs.YtilopoegoddggaaW.PrintMore
open Go.Proofs.Ytilopoegoddggaa.G
open Classical
set_option linter.all false
theorem Evt.at {α : Type} {g : Nat → Option α} {r q : α} (h : Evt g r) (hm : ∀ k, LeO (g k) (g (k + 1))) {k : Nat} (hq : g k = some q) : r = q := by
 obtain ⟨K, hK⟩ := h
 have h1 := more_rounds hm k (K - k) q hq
 by_cases hk : K ≤ k
 ·rw [hK k hk] at hq; exact Option.some.inj hq
 ·rw [hK (k + (K - k)) (by omega)] at h1
  exact Option.some.inj h1
theorem over0 (a0 a1 : Int) (bs : List S50) (h : bs.length = 0) : dom_Over.f a0 a1 bs = some [] ∧ Evt (fun k => davitref08_Over.f k a0 a1 bs) [] := by
 have hb : bs = [] := List.eq_nil_of_length_eq_zero h
 subst hb
 refine ⟨?_, ?_⟩
 ·unfold dom_Over.f
  rw [if_pos (by simp)]
  exact anyK_ev ⟨0, fun k _ => rfl⟩ (grownO_mono a0 a1 [])
 ·unfold davitref08_Over.f
  refine Evt.bind (refall_ev a0 a1 (bs := []) (by simp)) ?_
  refine Evt.succ ?_
  simp only [davitref08_Over.l0, allT_len, if_neg (show ¬ (0 : Int) < (([] : List S50).length : Int) by simp)]
  exact Evt.pure _
theorem over_both (a0 a1 : Int) (bs : List S50) (hl : bs.length ≤ 1000) : ∃ r, dom_Over.f a0 a1 bs = some r ∧ r.length = bs.length ∧ Evt (fun k => davitref08_Over.f k a0 a1 bs) r := by
 by_cases h : bs.length = 0
 ·exact ⟨[], (over0 a0 a1 bs h).1, by simp [h], (over0 a0 a1 bs h).2⟩
 ·obtain ⟨r, place, o, e, H⟩ := over_ok a0 a1 bs hl (by omega)
  exact ⟨r, e, H.len, refover_ev a0 a1 hl H⟩
def wakeB : List S50 := [(⟨false, (⟨0, ([] : List Int), false, false⟩ : S47), ([] : List (S117)), (⟨3, 0, 0, 0, ([] : List Int), 1, 2, 0⟩ : S44)⟩ : S50), (⟨false, (⟨0, ([] : List Int), false, false⟩ : S47), ([] : List (S117)), (⟨2, 0, 0, 0, ([] : List Int), 3, 0, 0⟩ : S44)⟩ : S50), (⟨false, (⟨0, ([] : List Int), false, false⟩ : S47), ([] : List (S117)), (⟨2, 0, 0, 0, ([] : List Int), 3, 0, 0⟩ : S44)⟩ : S50), (⟨false, (⟨0, ([] : List Int), false, false⟩ : S47), ([] : List (S117)), (⟨1, 0, 0, 0, ([] : List Int), 0, 0, 0⟩ : S44)⟩ : S50)]
set_option maxRecDepth 100000 in
theorem wake_over : davitref08_Over.f 200 0 1 wakeB = some [-1, 0, 0, 0] := by kernel_rfl
set_option maxRecDepth 100000 in
theorem wake_edge : davitref08_Edge.f 200 0 1 wakeB 1 = some [3] := by kernel_rfl
set_option maxRecDepth 100000 in
theorem wake_is : davitref08_Is.f 200 0 1 wakeB 0 3 = some true ∧ davitref08_Is.f 200 0 1 wakeB 1 3 = some false := ⟨by kernel_rfl, by kernel_rfl⟩
theorem awake08 : Evt (fun k => davitlaw08_awake.f k) true := by
 have hl : wakeB.length ≤ 1000 := by decide
 have hl4 : wakeB.length = 4 := rfl
 obtain ⟨r, e, hr, hr2⟩ := over_both 0 1 wakeB hl
 obtain rfl := Evt.at hr2 (davitref08_Over.mono _ _ _) wake_over
 have he := Evt.at (refedge_ev 0 1 hl 1) (davitref08_Edge.mono _ _ _ _) wake_edge
 have hi1 := Evt.at (refis_ev 0 1 hl 0 3) (davitref08_Is.mono _ _ _ _ _) wake_is.1
 have hi2 := Evt.at (refis_ev 0 1 hl 1 3) (davitref08_Is.mono _ _ _ _ _) wake_is.2
 unfold davitlaw08_awake.f
 simp only [Option.bind_some]
 change Evt (fun k => (dom_Over.f 0 1 wakeB).bind fun t134 => ((davitref02_Ints.f k t134 (([(-1), 0, 0, 0] : List Int))).bind fun t140 => (if t140 = true then ((dom_Edge.f k 0 1 wakeB 1).bind fun t141 => ((davitref02_Ints.f k t141 (([3] : List Int))).bind fun t147 => (if t147 = true then ((dom_Is.f k 0 1 wakeB 0 3).bind fun t148 => (if t148 = true then ((dom_Is.f k 0 1 wakeB 1 3).bind fun t149 => (some (!t149))) else (some false))) else (some false)))) else (some false)))) true
 simp only [e, Option.bind_some]
 refine Evt.bind (ints_ev _ _ (by simp)) ?_
 simp only [decide_true, if_pos]
 refine Evt.bind (edge_ev 0 1 hl 1) ?_
 rw [he]
 refine Evt.bind (ints_ev _ _ (by simp)) ?_
 simp only [decide_true, if_pos]
 refine Evt.bind (is_ev 0 1 wakeB hl 0 3) ?_
 rw [hi1]
 simp only [if_pos]
 refine Evt.bind (is_ev 0 1 wakeB hl 1 3) ?_
 rw [hi2]
 exact Evt.pure _
theorem domRight_pure (a0 a1 : Int) (bs : List S50) (a b : Int) : ∃ k, davitlaw08_DomRight.f k a0 a1 bs a b = some true := by
 refine Evt.ex (g := fun k => davitlaw08_DomRight.f k a0 a1 bs a b) ?_
 unfold davitlaw08_DomRight.f
 refine Evt.bind awake08 ?_
 simp only [if_pos]
 by_cases h30 : (bs.length : Int) > 30
 ·simp only [if_pos h30]
  exact Evt.pure _
 ·have hl : bs.length ≤ 1000 := by omega
  simp only [if_neg h30]
  obtain ⟨r, e, hr, hr2⟩ := over_both a0 a1 bs hl
  simp only [e, Option.bind_some]
  refine Evt.bind hr2 (Evt.bind (ints_ev _ _ (by omega)) ?_)
  simp only [decide_true, if_pos]
  refine Evt.bind (is_ev a0 a1 bs hl a b) (Evt.bind (refis_ev a0 a1 hl a b) ?_)
  simp only [beq_self_eq_true, if_pos]
  refine Evt.bind (edge_ev a0 a1 hl a) (Evt.bind (refedge_ev a0 a1 hl a) (Evt.bind (ints_ev _ _ (by have := edge_len (bs := bs) a; omega)) ?_))
  simp only [decide_true]
  exact Evt.pure _
end Go.Proofs.Ytilopoegoddggaa.X
namespace Go.Proofs.Ytilopoegoddggaa.Pure
open Go.RowKit Go.Proofs.Ytilopoegoddggaa.X
theorem DomRight (a0 a1 : Int) (l : List S50) (a : Int) (_ : (Lit.int .i64 a).wf = true) (b : Int) (_ : (Lit.int .i64 b).wf = true) : ∃ k, davitlaw08_DomRight.f k a0 a1 l a b = some true := domRight_pure a0 a1 l a b
end Go.Proofs.Ytilopoegoddggaa.Pure
namespace Go.Proofs.Ytilopoegoddggaa.X
open Go.RowKit Go.Proofs.YtilopoegoddggaaW.PrintWords Go.Proofs.YtilopoegoddggaaW.PrintLast Go.Proofs.YtilopoegoddggaaW.PrintMore
set_option linter.all false
def Opens {α : Type} (d : Kd α) (t : TypeId) : Prop := ∀ (H : Type) (enc : TypeId × Value → H) (w : World) (fuel : Nat) (cs : List Value) (x : DataW H × List MemPlace),
 DataW.trod enc Try.prog w 0 (fun _ => true) true fuel t cs = some x → ∃ a, d.K w a cs
theorem Opens.int {k : IntKind} {t : TypeId} (ht : Try.prog.underlying t = some (.int k)) : Opens (Kd.int k) t := fun H enc w fuel cs x h => by
 obtain ⟨n, rfl, _⟩ := DataW.trod_int ht h
 exact ⟨n, rfl⟩
theorem Opens.bool {t : TypeId} (ht : Try.prog.underlying t = some .bool) : Opens Kd.bool t := fun H enc w fuel cs x h => by
 obtain ⟨n, rfl, _⟩ := DataW.trod_bool ht h
 exact ⟨n, rfl⟩
theorem Opens.slice {α : Type} {d : Kd α} {t e : TypeId} (e' : Nat) (ht : Try.prog.underlying t = some (.slice e)) (hd : Opens d e) (hs : d.sz = Try.prog.cellsOf e) : Opens (Kd.slice e' d) t := fun H enc w fuel cs x h => by
 rcases Go.Deep.open_slice ht h with ⟨rfl, _⟩ | ⟨a, len, cap, m, n, D, Pl, rfl, _, hl, hm, hmm, _, hx⟩
 ·exact ⟨[], none, 0, rfl, Nat.le_refl _, ⟨rfl, by simp, fun h => absurd h (by simp)⟩⟩
 ·have hlm : len ≤ m := by rw [hmm]; split <;> omega
  have key : ∀ j, j ≤ len → ∃ xs : List α, xs.length = j ∧ ∀ i p, xs[i]? = some p → ∃ c, c.length = d.sz ∧ d.K w p c ∧ ∀ q u, c[q]? = some u → w.cell? (a.add (i * d.sz + q)) = some u := by
   intro j
   induction j with
   | zero => exact fun _ => ⟨[], rfl, fun i p h => by simp at h⟩
   | succ j ih =>
    intro hj
    obtain ⟨xs, h1, h2⟩ := ih (by omega)
    obtain ⟨cs', h3, h4⟩ := hx j (by omega)
    obtain ⟨p, hp⟩ := hd H enc w n cs' _ h4
    obtain ⟨_, h5, h6⟩ := World.cells?_some h3
    refine ⟨xs ++ [p], by simp [h1], fun i q hq => ?_⟩
    by_cases hi : i < j
    ·rw [List.getElem?_append_left (by omega)] at hq
     exact h2 i q hq
    ·have hi' : i = j := by
      have := (List.getElem?_eq_some_iff.1 hq).1
      simp [h1] at this; omega
     subst hi'
     rw [List.getElem?_append_right (by omega), h1, Nat.sub_self] at hq
     simp at hq
     subst hq
     refine ⟨cs', by rw [h5, hs], hp, fun z u hz => ?_⟩
     have hzl := (List.getElem?_eq_some_iff.1 hz).1
     have := h6 z (by omega)
     rw [Go.Deep.add_add, ← hs] at this
     rw [this, hz]
  obtain ⟨xs, h1, h2⟩ := key len (Nat.le_refl _)
  have hmx : maxLen ≤ 9223372036854775807 := by decide
  exact ⟨xs, some a, cap, by rw [h1], by rw [h1]; exact hl, ⟨rfl, by omega, fun _ => ⟨a, rfl, h2⟩⟩⟩
theorem Opens.iso {α β : Type} {d : Kd α} {t : TypeId} (f : β → α) (g : α → β) (hg : ∀ y, f (g y) = y) (h : Opens d t) : Opens (Kd.iso d f) t := fun H enc w fuel cs x hx => by
 obtain ⟨a, ha⟩ := h H enc w fuel cs x hx
 exact ⟨g a, show d.K w (f (g a)) cs by rw [hg]; exact ha⟩
def OpensF {α : Type} (d : Kd α) (fs : List Field) (off : Nat) : Prop := ∀ (H : Type) (enc : TypeId × Value → H) (w : World) (n : Nat) (cs : List Value), cs.length = off + d.sz →
 (∀ f ∈ fs, ∃ y, DataW.trod enc Try.prog w 0 (fun _ => true) true n f.type ((cs.drop f.offset).take (Try.prog.cellsOf f.type)) = some y) → ∃ a, d.K w a (cs.drop off)
theorem OpensF.one {α : Type} {d : Kd α} {f : Field} {off : Nat} (ho : f.offset = off) (hd : Opens d f.type) (hs : Try.prog.cellsOf f.type = d.sz) : OpensF d [f] off := fun H enc w n cs hl h => by
 obtain ⟨y, hy⟩ := h f (List.mem_cons_self ..)
 rw [ho, hs, List.take_of_length_le (by rw [List.length_drop]; omega)] at hy
 exact hd H enc w n _ _ hy
theorem OpensF.cons {α β : Type} {d : Kd α} {d2 : Kd β} {f : Field} {fs : List Field} {off : Nat} (ho : f.offset = off) (hd : Opens d f.type) (hs : Try.prog.cellsOf f.type = d.sz) (h2 : OpensF d2 fs (off + d.sz)) : OpensF (Kd.pair d d2) (f :: fs) off := fun H enc w n cs hl h => by
 obtain ⟨y, hy⟩ := h f (List.mem_cons_self ..)
 rw [ho, hs] at hy
 obtain ⟨a, ha⟩ := hd H enc w n _ _ hy
 have hl' : cs.length = off + (d.sz + d2.sz) := hl
 obtain ⟨b, hb⟩ := h2 H enc w n cs (by omega) fun g hg => h g (List.mem_cons_of_mem _ hg)
 refine ⟨(a, b), _, _, ?_, ha, hb⟩
 rw [show cs.drop (off + d.sz) = (cs.drop off).drop d.sz by rw [List.drop_drop], List.take_append_drop]
theorem Opens.struct {α : Type} {d : Kd α} {t : TypeId} {fs : Array Field} (ht : Try.prog.underlying t = some (.struct fs)) (hs : Try.prog.cellsOf t = d.sz) (h : OpensF d fs.toList 0) : Opens d t := fun H enc w fuel cs x hx => by
 obtain ⟨xs, n, _, _, hl, hlen, hf⟩ := DataW.trod_struct ht hx
 have := h H enc w n cs (by omega) fun f hm => by
  obtain ⟨i, hi, e⟩ := List.getElem_of_mem hm
  have hi' : i < fs.size := by simpa using hi
  have := hf i f (by rw [← e]; simp [hi'])
  rw [this, List.getElem?_eq_getElem (by omega)]
  exact ⟨_, rfl⟩
 simpa using this
end Go.Proofs.Ytilopoegoddggaa.X
namespace Go.Proofs.Ytilopoegoddggaa.X
open Go.RowKit Go.Proofs.YtilopoegoddggaaW.PrintWords Go.Proofs.YtilopoegoddggaaW.PrintLast Go.Proofs.YtilopoegoddggaaW.PrintMore
set_option linter.all false
set_option maxRecDepth 100000
theorem oInt : Opens (Kd.int .i64) 3 := Opens.int Try.underlying3
theorem oBool : Opens Kd.bool 4 := Opens.bool Try.underlying4
theorem oInts : Opens (Kd.slice 3 (Kd.int .i64)) 27 := Opens.slice 3 Try.underlying27 oInt (by kernel_rfl)
theorem oWords : Opens (Kd.slice 115 (Kd.int .u16)) 45 := Opens.slice 115 (t := 45) (e := 115) (by kernel_rfl) (Opens.int (by kernel_rfl)) (by kernel_rfl)
theorem o47 : Opens k47 47 := Opens.iso _ (fun y => ⟨y.1, y.2.1, y.2.2.1, y.2.2.2⟩) (fun _ => rfl) (Opens.struct Try.underlying47 (by kernel_rfl)
 (.cons rfl oInt (by kernel_rfl) (.cons rfl oWords (by kernel_rfl) (.cons rfl oBool (by kernel_rfl) (.one rfl oBool (by kernel_rfl))))))
theorem o117 : Opens k117 117 := Opens.iso _ (fun y => ⟨y.1, y.2.1, y.2.2.1, y.2.2.2.1, y.2.2.2.2.1, y.2.2.2.2.2.1, y.2.2.2.2.2.2⟩) (fun _ => rfl) (Opens.struct Try.underlying117 (by kernel_rfl)
 (.cons rfl oInt (by kernel_rfl) (.cons rfl oInt (by kernel_rfl) (.cons rfl oInt (by kernel_rfl) (.cons rfl oInt (by kernel_rfl) (.cons rfl (Opens.int (by kernel_rfl)) (by kernel_rfl) (.cons rfl oInt (by kernel_rfl) (.one rfl oInts (by kernel_rfl)))))))))
theorem o44 : Opens k44 44 := Opens.iso _ (fun y => ⟨y.1, y.2.1, y.2.2.1, y.2.2.2.1, y.2.2.2.2.1, y.2.2.2.2.2.1, y.2.2.2.2.2.2.1, y.2.2.2.2.2.2.2⟩) (fun _ => rfl) (Opens.struct Try.underlying44 (by kernel_rfl)
 (.cons rfl oInt (by kernel_rfl) (.cons rfl oInt (by kernel_rfl) (.cons rfl oInt (by kernel_rfl) (.cons rfl oInt (by kernel_rfl) (.cons rfl oInts (by kernel_rfl) (.cons rfl oInt (by kernel_rfl) (.cons rfl oInt (by kernel_rfl) (.one rfl oInt (by kernel_rfl))))))))))
theorem o50 : Opens k50 50 := Opens.iso _ (fun y => ⟨y.1, y.2.1, y.2.2.1, y.2.2.2⟩) (fun _ => rfl) (Opens.struct Try.underlying50 (by kernel_rfl)
 (.cons rfl oBool (by kernel_rfl) (.cons rfl o47 (by kernel_rfl) (.cons rfl (Opens.slice 117 (t := 48) (e := 117) (by kernel_rfl) o117 (by kernel_rfl)) (by kernel_rfl) (.one rfl o44 (by kernel_rfl))))))
theorem oBlocks : Opens (Kd.slice 50 k50) 22 := Opens.slice 50 Try.underlying22 o50 (by kernel_rfl)
theorem open_func {H : Type} {enc : TypeId × Value → H} {W : World} {r : Reach} {b0 : Nat} {v : Value} {d : DataW H} {p : List MemPlace} (hv : Value.okWide Try.prog W r b0 24 v) (h : DataW.Trod enc Try.prog W 0 (fun _ => true) true 24 v d p) :
  ∃ (a0 a1 : Int) (A : Option Addr) (c : Nat) (l : List S50), v = .agg #[.int .i64 a0, .int .i64 a1, .slice A l.length c] ∧ Kd.C k50 W A l.length l ∧ l.length ≤ c := by
 obtain ⟨v0, v1, v2, y0, y1, y2, n, rfl, _, _, h0, h1, h2⟩ := Go.Joins.open_agg3 (t := 24) Try.underlying24 (by kernel_rfl) (by kernel_rfl) hv h
 obtain ⟨a0, e0⟩ := oInt H enc W n _ _ h0
 obtain ⟨a1, e1⟩ := oInt H enc W n _ _ h1
 obtain ⟨l, A, c, e2, hc, hC⟩ := oBlocks H enc W n _ _ h2
 cases e0; cases e1; cases e2
 exact ⟨a0, a1, A, c, l, rfl, hC, hc⟩
end Go.Proofs.Ytilopoegoddggaa.X
namespace Go.Proofs.Ytilopoegoddggaa.domRight
open Go.ChangeShapes Go.WideShapes Go.ChangeAt Go.RowKit Go.Proofs.Ytilopoegoddggaa.X Go.Proofs.YtilopoegoddggaaW.PrintWords
set_option linter.all false
theorem own : ownKnob Try.prog.godebug = none := by kernel_rfl
theorem laidOut : laidOutB Try.prog = true := by kernel_rfl
set_option maxRecDepth 100000 in
theorem lifted (os : Os) (started : os.Started) (H : Type) (enc : TypeId × Value → H) :
  ReturnsInHanded {} Try.checked os 3 .any (Rows.domRightSpec.pre6 enc Try.prog Try.f3 Rows.domRightRow.domain false) (Rows.domRightSpec.post enc Try.prog Try.f3 false true false false) := by
 refine returnsInHanded_of_change_sized (C := Try.checked) own started (by kernel_rfl) Try.func3
  (ChangeSpec.witness6 (enc := enc) (C := Try.checked) false ⟨#[], #[.agg #[.int .i64 0, .int .i64 0, .slice none 0 0], .int .i64 0, .int .i64 0], []⟩ 8 (by kernel_rfl) (by kernel_rfl) (by kernel_rfl) (by kernel_rfl)) ?_
 intro W base args ds gs before hval0 hW hcnd hsz0 _
 have hval : ∀ (j : Nat) t v, Try.f3.params[j]? = some t → args[j]? = some v → Value.okWide Try.prog W .any base t v := hval0
 have hW' := hW
 obtain ⟨p, q, hA0, hV, rfl, hfz, hnd⟩ := hW
 have hA : DataW.TrodAll enc Try.prog W 0 (fun _ => true) true Try.f3.params.toList args.toList ds p := hA0
 rw [Try.params3] at hA hval
 obtain ⟨v0, vs0, d0, ds0, p0, q0, hargs, rfl, rfl, h0, r0⟩ := trodAll_cons hA
 obtain ⟨v1, vs1, d1, ds1, p1, q1, rfl, rfl, rfl, h1, r1⟩ := trodAll_cons r0
 obtain ⟨v2, vs2, d2, ds2, p2, q2, rfl, rfl, rfl, h2, r2⟩ := trodAll_cons r1
 obtain ⟨rfl, rfl, rfl⟩ := trodAll_nil r2
 obtain rfl : args = #[v0, v1, v2] := by cases args; simp_all
 obtain ⟨rfl, rfl⟩ := trodVars_none hV
 have k0 := h0
 have lt0 : ∀ x ∈ p0, x.block < W.heap.size := by obtain ⟨m, hm⟩ := k0; exact DataW.trod_lt m _ _ _ hm
 obtain ⟨a0_0, a0_1, A0, c0, l0, rfl, hr0, hc0⟩ := open_func (hval 0 24 v0 rfl rfl) h0
 obtain ⟨a1, rfl, rfl, rfl, w1⟩ := open_int Try.underlying3 (hval 1 3 v1 rfl rfl) h1
 obtain ⟨a2, rfl, rfl, rfl, w2⟩ := open_int Try.underlying3 (hval 2 3 v2 rfl rfl) h2
 clear hA0 hval0 hsz0
 obtain ⟨k, hk⟩ := Pure.DomRight a0_0 a0_1 l0 a1 w1 a2 w2
 refine (davitlaw08_DomRight.calls k a0_0 a0_1 A0 c0 l0 a1 a2 true W hr0 hc0 hk).mono fun e W' ⟨he, bel⟩ => ?_
 subst he
 exact ⟨_, rfl, _, _, _, [], _, [], hW', trodAll_mk1 (shut_bool Try.underlying4 _), (trodAll_cons_mk (Below.trod laidOut (by kernel_rfl) (of_decide_eq_true (by kernel_rfl)) k0 bel lt0) (trodAll_cons_mk (shut_int Try.underlying3 w1) (trodAll_cons_mk (shut_int Try.underlying3 w2) trodAll_mk0))), rfl, bel.frame _, fun h => by cases h⟩
theorem over : Rows.domRightRow.holds Try.pinned (OpenSpec.ofChange Rows.domRightSpec) :=
 OpenClaim.holds_of_wide 3 Try.f3 rfl rfl rfl rfl rfl rfl rfl ⟨rfl, rfl, rfl, rfl, rfl⟩ rfl rfl rfl rfl rfl (by kernel_rfl) Try.func3 (by kernel_rfl)
  (of_decide_eq_true (by kernel_rfl)) (by unfold Func.isWrapper; first | (rw [if_pos (by decide +kernel)]; kernel_rfl) | (rw [if_neg (by decide +kernel)]; exact ⟨rfl, rfl⟩))
  (fun os started H enc _ => lifted os started H enc)
theorem proved : Rows.DomRightSaid := over
#print axioms proved
end Go.Proofs.Ytilopoegoddggaa.domRight
namespace Go.Proofs.Ytilopoegoddggaa
theorem domRight_holds : Rows.DomRightSaid := domRight.proved
end Go.Proofs.Ytilopoegoddggaa
