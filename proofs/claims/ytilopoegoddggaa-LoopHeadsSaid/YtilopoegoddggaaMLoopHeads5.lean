/- Part 6 of the proof of the statement LoopHeads: the words of the walks, the walks through the functions that it reaches, and the plain laws of what they compute. -/
import Derived.Test.YtilopoegoddggaaMLoopHeads4
import Derived.Deep.Slices
import Derived.Lib.SmallJoins
import Derived.ChangeArms
import Derived.Test.YtilopoegoddggaaRows
import Derived.WalkKit
import Derived.ProofKit
import Derived.OpenShut
import Derived.ShutString
import Derived.ChangeOld
import Derived.Below
import Derived.SizedLaws
import Derived.Carry
namespace Go.Proofs.Ytilopoegoddggaa.X
open Go.RowKit Go.Proofs.YtilopoegoddggaaW.PrintWords Go.Proofs.YtilopoegoddggaaW.PrintLast Go.Proofs.YtilopoegoddggaaW.PrintMore
open Go.Proofs.Ytilopoegoddggaa.G
open Classical
set_option linter.all false
section
variable {bs : List S50} {no tg : Int} (a0 a1 : Int)
def ClU (bs : List S50) (no : Int) (s : List Bool) (i : Int) : Prop := ∀ j : Int, 0 ≤ j → j < i → j ≠ no → ∀ b ∈ nextL bs j, rdOf false s b = true → rdOf false s j = true
theorem comes_l2 (hl : bs.length ≤ 1000) (R : List Bool) (c0 : Nat) (i : Int) (hi : 0 ≤ i) (hi1 : i < bs.length) (hno : i ≠ no)
  (K : ∀ s more, Snd bs (Cm bs no tg) s → rdOf false s tg = true → (more = false → ClU bs no s (i + 1)) → s.count false ≤ c0 → (more = true → s.count false < c0) → Evt (fun k => davitref09_comes.l1 k no s more (i + 1) a0 a1 bs) R) :
  ∀ (d : Nat) (p : Int) (s : List Bool) (more : Bool), 0 ≤ p → p + d = (nextL bs i).length → Snd bs (Cm bs no tg) s → rdOf false s tg = true → 0 ≤ tg →
   (more = false → ClU bs no s i) → (more = false → rdOf false s i = false ∧ ∀ b ∈ (nextL bs i).take p.toNat, rdOf false s b = false) → s.count false ≤ c0 → (more = true → s.count false < c0) →
   Evt (fun k => davitref09_comes.l2 k no s more i (nextL bs i) p a0 a1 bs) R
 | 0, p, s, more, h0, h1, hs, hz, ht0, hc, ht, hn, hm => by
  refine Evt.succ ?_
  simp only [davitref09_comes.l2, if_neg (show ¬ p < ((nextL bs i).length : Int) by omega), wrap64_small (i + 1) (by omega) (by omega)]
  refine K s more hs hz (fun e j j0 j1 hj b hb hsb => ?_) hn hm
  by_cases e' : j = i
  ·subst e'
   have := (ht e).2 b (by rw [List.take_of_length_le (by omega)]; exact hb)
   rw [this] at hsb; cases hsb
  ·exact hc e j j0 (by omega) hj b hb hsb
 | d + 1, p, s, more, h0, h1, hs, hz, ht0, hc, ht, hn, hm => by
  have hlt : p < ((nextL bs i).length : Int) := by omega
  have h3 := next_len bs i
  have hw := wrap64_small (p + 1) (by omega) (by omega)
  have hlen := hs.len
  have hmem := rd_mem h0 hlt
  have hv := (next_edges bs _ _ hmem).2
  have htk : (nextL bs i).take (p + 1).toNat = (nextL bs i).take p.toNat ++ [rd (nextL bs i) p] := by
   rw [show (p + 1).toNat = p.toNat + 1 by omega]
   exact take_one _ _ 0 (by omega)
  refine Evt.succ ?_
  simp only [davitref09_comes.l2, if_pos hlt, if_pos h0, if_pos hv.1, if_pos (show rd (nextL bs i) p < (s.length : Int) by omega), if_pos hi, if_pos (show i < (s.length : Int) by omega), hw]
  cases hsb : rdOf false s (rd (nextL bs i) p) with
  | true =>
   simp only [if_pos]
   have hCi : Cm bs no tg i := .step (hs.snd _ hv.1 hv.2 hsb) hmem hno
   have hz' : rdOf false (s.set i.toNat true) tg = true := by
    rw [rdOf_set s i tg true hi (by omega) ht0]
    split
    ·rfl
    ·exact hz
   cases hsi : rdOf false s i with
   | true =>
    have hmt : more = true := by
     cases more with
     | true => rfl
     | false => rw [(ht rfl).1] at hsi; cases hsi
    have hset : s.set i.toNat true = s := by
     have hl' : i.toNat < s.length := by omega
     have : s[i.toNat] = true := by
      unfold rdOf at hsi
      rwa [List.getD_eq_getElem?_getD, List.getElem?_eq_getElem hl'] at hsi
     rw [← this]; simp
    rw [hset]
    exact comes_l2 hl R c0 i hi hi1 hno K d (p + 1) s true (by omega) (by omega) hs hz ht0 (by simp) (by simp) hn (fun _ => hm hmt)
   | false =>
    have hcn := count_unseen s i hi (by omega) hsi
    exact comes_l2 hl R c0 i hi hi1 hno K d (p + 1) _ true (by omega) (by omega) (hs.set hi hi1 hCi) hz' ht0 (by simp) (by simp) (by omega) (fun _ => by omega)
  | false =>
   simp only [if_neg Bool.false_ne_true]
   exact comes_l2 hl R c0 i hi hi1 hno K d (p + 1) s more (by omega) (by omega) hs hz ht0 hc (fun e => ⟨(ht e).1, fun b hb => by
    rw [htk] at hb
    rcases List.mem_append.1 hb with hb | hb
    ·exact (ht e).2 b hb
    ·rw [List.mem_singleton.1 hb]; exact hsb⟩) hn hm
theorem comes_l1 (hl : bs.length ≤ 1000) (ht0 : 0 ≤ tg) (R : List Bool) (c0 : Nat)
  (K : ∀ s more, Snd bs (Cm bs no tg) s → rdOf false s tg = true → (more = false → ClU bs no s bs.length) → (more = true → s.count false < c0) → Evt (fun k => davitref09_comes.l0 k no s more a0 a1 bs) R) :
  ∀ (d : Nat) (i : Int) (s : List Bool) (more : Bool), 0 ≤ i → i + d = bs.length → Snd bs (Cm bs no tg) s → rdOf false s tg = true →
   (more = false → ClU bs no s i) → s.count false ≤ c0 → (more = true → s.count false < c0) → Evt (fun k => davitref09_comes.l1 k no s more i a0 a1 bs) R
 | 0, i, s, more, h0, h1, hs, hz, hc, hn, hm => by
  have hlen := hs.len
  refine Evt.succ ?_
  simp only [davitref09_comes.l1, if_neg (show ¬ i < (s.length : Int) by omega)]
  exact K s more hs hz (fun e j j0 j1 => hc e j j0 (by omega)) hm
 | d + 1, i, s, more, h0, h1, hs, hz, hc, hn, hm => by
  have hlen := hs.len
  have skip : (rdOf false s i = true ∨ i = no) → Evt (fun k => davitref09_comes.j2 k no s more i true a0 a1 bs) R := fun hsk => by
   refine Evt.succ ?_
   simp only [davitref09_comes.j2, if_pos, wrap64_small (i + 1) (by omega) (by omega)]
   refine comes_l1 hl ht0 R c0 K d (i + 1) s more (by omega) (by omega) hs hz (fun e j j0 j1 hj b hb hsb => ?_) hn hm
   by_cases e' : j = i
   ·subst e'; exact hsk.resolve_right hj
   ·exact hc e j j0 (by omega) hj b hb hsb
  refine Evt.succ ?_
  simp only [davitref09_comes.l1, if_pos (show i < (s.length : Int) by omega), if_pos h0]
  cases hsi : rdOf false s i with
  | true =>
   simp only [if_pos]
   exact skip (.inl hsi)
  | false =>
   simp only [if_neg Bool.false_ne_true]
   by_cases e : i = no
   ·rw [show (i == no) = true by simp [e]]
    exact skip (.inr e)
   ·rw [show (i == no) = false by simp [e]]
    refine Evt.succ ?_
    simp only [davitref09_comes.j2, if_neg Bool.false_ne_true]
    refine Evt.bind (refnext_ev a0 a1 bs i) ?_
    exact comes_l2 a0 a1 hl R c0 i h0 (by omega) e (fun s' more' q1 q2 q3 q4 q5 => comes_l1 hl ht0 R c0 K d (i + 1) s' more' (by omega) (by omega) q1 q2 q3 q4 q5) _ 0 s more (by omega) (by rw [Int.zero_add]) hs hz ht0 hc (fun _ => ⟨hsi, by simp⟩) hn hm
theorem comes_l0 (hl : bs.length ≤ 1000) (ht0 : 0 ≤ tg) : ∀ (c : Nat) (s : List Bool), Snd bs (Cm bs no tg) s → rdOf false s tg = true → s.count false ≤ c → Evt (fun k => davitref09_comes.l0 k no s true a0 a1 bs) (lst (Cm bs no tg) bs.length) := by
 intro c
 induction c using Nat.strongRecOn with
 | ind c ih =>
  intro s hs hz hc
  refine Evt.succ ?_
  simp only [davitref09_comes.l0, if_pos]
  refine comes_l1 a0 a1 hl ht0 _ c (fun s' more' q1 q2 q3 q4 => ?_) bs.length 0 s false (by omega) (by omega) hs hz (fun _ j j0 j1 => by omega) hc (by simp)
  cases more' with
  | true => exact ih _ (q4 rfl) s' q1 q2 (Nat.le_refl _)
  | false =>
   refine Evt.succ ?_
   simp only [davitref09_comes.l0, if_neg Bool.false_ne_true]
   rw [show s' = lst (Cm bs no tg) bs.length from lst_eq q1.len fun i i0 i1 => ⟨q1.snd i i0 i1, fun h => ?_⟩]
   ·exact Evt.pure _
   ·induction h with
    | here _ => exact q2
    | step ha hb hne ihh =>
     have hv := next_edges bs _ _ hb
     exact q3 rfl _ hv.1.1 hv.1.2 hne _ hb (ihh hv.2.1 hv.2.2)
theorem comes_ev (hl : bs.length ≤ 1000) (tg no : Int) (hto : 0 ≤ tg ∧ tg < bs.length) : Evt (fun k => davitref09_comes.f k a0 a1 bs tg no) (lst (Cm bs no tg) bs.length) := by
 unfold davitref09_comes.f
 simp only [if_pos (show 0 ≤ (bs.length : Int) by omega), Int.toNat_natCast, if_pos (show bs.length ≤ 281474976710656 by omega), Option.bind_some, List.length_replicate]
 by_cases e : tg = no
 ·simp only [if_pos e]
  rw [show List.replicate bs.length false = lst (Cm bs no tg) bs.length from lst_eq (by simp) fun i i0 i1 => by
   rw [rep_rd]
   refine ⟨fun h => (by cases h), fun h => ?_⟩
   exfalso
   induction h with
   | here h => exact h e
   | step _ hs _ ih => have hv := (next_edges bs _ _ hs).2; exact ih hv.1 hv.2]
  exact Evt.pure _
 ·simp only [if_neg e, if_pos hto.1, if_pos hto.2]
  refine comes_l0 a0 a1 hl hto.1 _ _ (Snd.set ⟨by simp, fun i _ _ h => by rw [rep_rd] at h; cases h⟩ hto.1 hto.2 (.here e)) ?_ (Nat.le_refl _)
  rw [rdOf_set _ tg tg true hto.1 (by simp; omega) hto.1, if_pos rfl]
def Brings (bs : List S50) (h i k : Int) : Prop := DD bs h k ∧ ∃ n, n < i ∧ Back bs h n ∧ Cm bs h n k
structure InOk (bs : List S50) (s : List Bool) (P : Int → Prop) : Prop where
 len : s.length = bs.length
 eq : ∀ k : Int, 0 ≤ k → k < bs.length → (rdOf false s k = true ↔ P k)
theorem rall_l2 (hl : bs.length ≤ 1000) (R : List S40) (out : List S40) (h : Int) (hh : 0 ≤ h ∧ h < bs.length) (n : Int) (hn : 0 ≤ n ∧ n < bs.length) (hb : Back bs h n)
  (K : ∀ s, InOk bs s (Brings bs h (n + 1)) → Evt (fun k => davitref09_All.l1 k (allT bs) out h s true (n + 1) a0 a1 bs) R) :
  ∀ (d : Nat) (i : Int) (s : List Bool), 0 ≤ i → i + d = bs.length → InOk bs s (fun k => Brings bs h n k ∨ (k < i ∧ Cm bs h n k ∧ DD bs h k)) →
   Evt (fun k => davitref09_All.l2 k (allT bs) out h s true n (lst (Cm bs h n) bs.length) i a0 a1 bs) R
 | 0, i, s, h0, h1, hs => by
  have hlen := hs.len
  refine Evt.succ ?_
  simp only [davitref09_All.l2, if_neg (show ¬ i < (s.length : Int) by omega), wrap64_small (n + 1) (by omega) (by omega)]
  refine K s ⟨hs.len, fun k k0 k1 => (hs.eq k k0 k1).trans ?_⟩
  constructor
  ·rintro (⟨q1, m, q2, q3, q4⟩ | ⟨_, q1, q2⟩)
   ·exact ⟨q1, m, by omega, q3, q4⟩
   ·exact ⟨q2, n, by omega, hb, q1⟩
  ·rintro ⟨q1, m, q2, q3, q4⟩
   by_cases e : m = n
   ·exact .inr ⟨by omega, e ▸ q4, q1⟩
   ·exact .inl ⟨q1, m, by omega, q3, q4⟩
 | d + 1, i, s, h0, h1, hs => by
  have hlen := hs.len
  have hi : i < (bs.length : Int) := by omega
  have step : ∀ b : Bool, (b = true ↔ Brings bs h n i ∨ (Cm bs h n i ∧ DD bs h i)) → Evt (fun k => davitref09_All.l2 k (allT bs) out h (s.set i.toNat b) true n (lst (Cm bs h n) bs.length) (i + 1) a0 a1 bs) R := fun b hbb => by
   refine rall_l2 hl R out h hh n hn hb K d (i + 1) _ (by omega) (by omega) ⟨by rw [List.length_set]; exact hlen, fun k k0 k1 => ?_⟩
   rw [rdOf_set s i k b h0 (by omega) k0]
   by_cases e : k = i
   ·rw [if_pos e, e, hbb]
    exact or_congr_right ⟨fun q => ⟨by omega, q⟩, fun q => q.2⟩
   ·rw [if_neg e, hs.eq k k0 k1]
    exact or_congr_right ⟨fun q => ⟨by omega, q.2⟩, fun q => ⟨by omega, q.2⟩⟩
  have hcur := hs.eq i h0 hi
  refine Evt.succ ?_
  simp only [davitref09_All.l2, if_pos (show i < (s.length : Int) by omega), if_pos h0, lst_len, if_pos hi, lst_rd (Cm bs h n) h0 hi, if_pos hh.1, allT_len, if_pos hh.2, allT_rd bs hh.1 hh.2, lst_rd (DD bs h) h0 hi, wrap64_small (i + 1) (by omega) (by omega)]
  cases hsi : rdOf false s i with
  | true =>
   simp only [if_pos]
   refine step true ⟨fun _ => ?_, fun _ => rfl⟩
   rcases hcur.1 hsi with q | q
   ·exact .inl q
   ·exact .inr q.2
  | false =>
   have hnb : ¬ Brings bs h n i := fun q => by rw [hcur.2 (.inl q)] at hsi; cases hsi
   simp only [if_neg Bool.false_ne_true]
   by_cases hc : Cm bs h n i
   ·simp only [decide_eq_true hc, if_pos]
    refine step _ ?_
    by_cases hd : DD bs h i
    ·rw [decide_eq_true hd]; exact ⟨fun _ => .inr ⟨hc, hd⟩, fun _ => rfl⟩
    ·rw [decide_eq_false hd]; exact ⟨fun q => (by cases q), fun q => q.elim (fun q => absurd q hnb) (fun q => absurd q.2 hd)⟩
   ·simp only [decide_eq_false hc, if_neg Bool.false_ne_true]
    exact step false ⟨fun q => (by cases q), fun q => q.elim (fun q => absurd q hnb) (fun q => absurd q.1 hc)⟩
theorem rall_l3 (hl : bs.length ≤ 1000) (R : List S40) (out : List S40) (hout : out.length ≤ 1000) (h : Int) (hh : 0 ≤ h ∧ h < bs.length) (s : List Bool) (hs : InOk bs s (InL bs h))
  (K : Evt (fun k => davitref09_All.l0 k (allT bs) (out ++ [⟨h, loopB bs h⟩]) (h + 1) a0 a1 bs) R) :
  ∀ (d : Nat) (i : Int), 0 ≤ i → i + d = bs.length → Evt (fun k => davitref09_All.l3 k (allT bs) out h s i a0 a1 bs h ((upTo i.toNat).filter fun k => decide (InL bs h k))) R
 | 0, i, h0, h1 => by
  have hlen := hs.len
  refine Evt.succ ?_
  simp only [davitref09_All.l3, if_neg (show ¬ i < (s.length : Int) by omega), if_pos (show out.length < 4398046511104 by omega), wrap64_small (h + 1) (by omega) (by omega)]
  rw [show i.toNat = bs.length by omega]
  exact K
 | d + 1, i, h0, h1 => by
  have hlen := hs.len
  have hi : i < (bs.length : Int) := by omega
  have ih := rall_l3 hl R out hout h hh s hs K d (i + 1) (by omega) (by omega)
  rw [show (i + 1).toNat = i.toNat + 1 by omega, upTo_succ, List.filter_append, show ((i.toNat : Nat) : Int) = i by omega] at ih
  have hfl : ((upTo i.toNat).filter fun k => decide (InL bs h k)).length ≤ 1000 := Nat.le_trans (List.length_filter_le _ _) (by rw [upTo_len]; omega)
  refine Evt.succ ?_
  simp only [davitref09_All.l3, if_pos (show i < (s.length : Int) by omega), if_pos h0, wrap64_small (i + 1) (by omega) (by omega), if_pos (show ((upTo i.toNat).filter fun k => decide (InL bs h k)).length < 17592186044416 by omega)]
  have hcur := hs.eq i h0 hi
  cases hsi : rdOf false s i with
  | true =>
   simp only [if_pos]
   rw [List.filter_cons, if_pos (decide_eq_true (hcur.1 hsi))] at ih
   exact ih
  | false =>
   simp only [if_neg Bool.false_ne_true]
   rw [List.filter_cons, if_neg (by intro q; rw [hcur.2 (of_decide_eq_true q)] at hsi; cases hsi)] at ih
   simpa using ih
theorem rall_l1 (hl : bs.length ≤ 1000) (R : List S40) (out : List S40) (hout : out.length ≤ 1000) (h : Int) (hh : 0 ≤ h ∧ h < bs.length)
  (K : Evt (fun k => davitref09_All.l0 k (allT bs) (out ++ (if HasL bs h then [⟨h, loopB bs h⟩] else [])) (h + 1) a0 a1 bs) R) :
  ∀ (d : Nat) (n : Int) (s : List Bool) (found : Bool), 0 ≤ n → n + d = bs.length → InOk bs s (Brings bs h n) → (found = true ↔ ∃ m, m < n ∧ Back bs h m) →
   Evt (fun k => davitref09_All.l1 k (allT bs) out h s found n a0 a1 bs) R
 | 0, n, s, found, h0, h1, hs, hf => by
  have hlen := hs.len
  have hE : found = true ↔ HasL bs h := hf.trans ⟨fun ⟨m, _, q⟩ => ⟨m, q⟩, fun ⟨m, q⟩ => ⟨m, by have := (next_edges bs _ _ q.2).1; omega, q⟩⟩
  refine Evt.succ ?_
  simp only [davitref09_All.l1, if_neg (show ¬ n < (bs.length : Int) by omega), if_pos hh.1, hlen, if_pos hh.2, wrap64_small (h + 1) (by omega) (by omega)]
  by_cases hc : found = true
  ·have hL := hE.1 hc
   rw [if_pos hL] at K
   simp only [if_pos hc]
   refine rall_l3 a0 a1 hl R out hout h hh _ ⟨by rw [List.length_set]; exact hlen, fun k k0 k1 => ?_⟩ K bs.length 0 (by omega) (by omega)
   rw [rdOf_set s h k true hh.1 (by omega) k0]
   by_cases e : k = h
   ·rw [if_pos e]; exact ⟨fun _ => .inl e, fun _ => rfl⟩
   ·rw [if_neg e, hs.eq k k0 k1]
    constructor
    ·rintro ⟨q1, m, _, q2, q3⟩; exact .inr ⟨q1, m, q2, q3⟩
    ·rintro (q | ⟨q1, m, q2, q3⟩)
     ·exact absurd q e
     ·exact ⟨q1, m, by have := (next_edges bs _ _ q2.2).1; omega, q2, q3⟩
  ·rw [if_neg (fun q => hc (hE.2 q)), List.append_nil] at K
   simp only [if_neg hc]
   exact K
 | d + 1, n, s, found, h0, h1, hs, hf => by
  have hn : n < (bs.length : Int) := by omega
  have skip : ¬ Back bs h n → Evt (fun k => davitref09_All.j2 k (allT bs) out h s found n true a0 a1 bs) R := fun hb => by
   refine Evt.succ ?_
   simp only [davitref09_All.j2, if_pos, wrap64_small (n + 1) (by omega) (by omega)]
   refine rall_l1 hl R out hout h hh K d (n + 1) s found (by omega) (by omega) ⟨hs.len, fun k k0 k1 => (hs.eq k k0 k1).trans (and_congr_right fun _ => ⟨fun ⟨m, q, q'⟩ => ⟨m, by omega, q'⟩, fun ⟨m, q, q'⟩ => ⟨m, ?_, q'⟩⟩)⟩ (hf.trans ⟨fun ⟨m, q, q'⟩ => ⟨m, by omega, q'⟩, fun ⟨m, q, q'⟩ => ⟨m, ?_, q'⟩⟩)
   ·have : m ≠ n := fun e => hb (e ▸ q'.1)
    omega
   ·have : m ≠ n := fun e => hb (e ▸ q')
    omega
  refine Evt.succ ?_
  simp only [davitref09_All.l1, if_pos hn, if_pos hh.1, allT_len, if_pos hh.2, if_pos h0, allT_rd bs hh.1 hh.2, lst_len, lst_rd (DD bs h) h0 hn]
  by_cases hd : DD bs h n
  ·simp only [decide_eq_true hd, if_pos]
   refine Evt.bind (refnext_ev a0 a1 bs n) (Evt.bind (has_ev _ _ (by have := next_len bs n; omega)) ?_)
   by_cases hm : h ∈ nextL bs n
   ·simp only [decide_eq_true hm, Bool.not_true]
    refine Evt.succ ?_
    simp only [davitref09_All.j2, if_neg Bool.false_ne_true]
    refine Evt.bind (comes_ev a0 a1 hl n h ⟨h0, hn⟩) ?_
    refine rall_l2 a0 a1 hl R out h hh n ⟨h0, hn⟩ ⟨hd, hm⟩ (fun s' q => rall_l1 hl R out hout h hh K d (n + 1) s' true (by omega) (by omega) q ⟨fun _ => ⟨n, by omega, hd, hm⟩, fun _ => rfl⟩) bs.length 0 s (by omega) (by omega) ⟨hs.len, fun k k0 k1 => (hs.eq k k0 k1).trans ⟨.inl, fun q => q.resolve_right fun q => by omega⟩⟩
   ·simp only [decide_eq_false hm, Bool.not_false]
    exact skip fun q => hm q.2
  ·simp only [decide_eq_false hd, if_neg Bool.false_ne_true]
   exact skip fun q => hd q.1
theorem rall_l0 (hl : bs.length ≤ 1000) : ∀ (d : Nat) (h : Int), 0 ≤ h → h + d = bs.length → Evt (fun k => davitref09_All.l0 k (allT bs) (loopsL bs h.toNat) h a0 a1 bs) (loopsL bs bs.length)
 | 0, h, h0, h1 => by
  refine Evt.succ ?_
  simp only [davitref09_All.l0, if_neg (show ¬ h < (bs.length : Int) by omega)]
  rw [show h.toNat = bs.length by omega]
  exact Evt.pure _
 | d + 1, h, h0, h1 => by
  have hh : h < (bs.length : Int) := by omega
  have ih := rall_l0 hl d (h + 1) (by omega) (by omega)
  rw [show (h + 1).toNat = h.toNat + 1 by omega, loopsL_succ, show ((h.toNat : Nat) : Int) = h by omega] at ih
  refine Evt.succ ?_
  simp only [davitref09_All.l0, if_pos hh, if_pos (show 0 ≤ (bs.length : Int) by omega), Int.toNat_natCast, if_pos (show bs.length ≤ 281474976710656 by omega)]
  exact rall_l1 a0 a1 hl _ _ (by have := loopsL_len (bs := bs) h.toNat; omega) h ⟨h0, hh⟩ ih bs.length 0 _ false (by omega) (by omega) ⟨by simp, fun k k0 k1 => by
   rw [rep_rd]
   exact ⟨fun q => (by cases q), fun ⟨_, m, q, q', _⟩ => by have := (next_edges bs _ _ q'.2).1; omega⟩⟩ ⟨fun q => (by cases q), fun ⟨m, q, q'⟩ => by have := (next_edges bs _ _ q'.2).1; omega⟩
theorem refloops_ev (hl : bs.length ≤ 1000) : Evt (fun k => davitref09_All.f k a0 a1 bs) (loopsL bs bs.length) := by
 unfold davitref09_All.f
 exact Evt.bind (refall_ev a0 a1 hl) (rall_l0 a0 a1 hl bs.length 0 (by omega) (by omega))
end
end Go.Proofs.Ytilopoegoddggaa.X
namespace Go.Proofs.Ytilopoegoddggaa.X
open Go.RowKit Go.Proofs.YtilopoegoddggaaW.PrintWords Go.Proofs.YtilopoegoddggaaW.PrintLast Go.Proofs.YtilopoegoddggaaW.PrintMore
open Go.Proofs.Ytilopoegoddggaa.G
open Classical
set_option linter.all false
def wake9 : List S50 := [(⟨false, (⟨0, ([] : List Int), false, false⟩ : S47), ([] : List (S117)), (⟨2, 0, 0, 0, ([] : List Int), 1, 0, 0⟩ : S44)⟩ : S50), (⟨false, (⟨0, ([] : List Int), false, false⟩ : S47), ([] : List (S117)), (⟨3, 0, 0, 0, ([] : List Int), 1, 2, 0⟩ : S44)⟩ : S50), (⟨false, (⟨0, ([] : List Int), false, false⟩ : S47), ([] : List (S117)), (⟨1, 0, 0, 0, ([] : List Int), 0, 0, 0⟩ : S44)⟩ : S50)]
set_option maxRecDepth 100000 in
theorem wake_loops : davitref09_All.f 200 0 1 wake9 = some [⟨1, [1]⟩] := by kernel_rfl
theorem awake09 : Evt (fun k => davitlaw09_awake.f k) true := by
 have hl : wake9.length ≤ 100 := by decide
 have hL := Evt.at (refloops_ev (bs := wake9) 0 1 (by decide)) (davitref09_All.mono _ _ _) wake_loops
 have hA := all_ev (bs := wake9) 0 1 hl
 have hD1 := deep_ev (bs := wake9) 0 1 hl 1
 have hD2 := deep_ev (bs := wake9) 0 1 hl 2
 rw [hL] at hA hD1 hD2
 rw [show deepL 1 [(⟨1, [1]⟩ : S40)] = 1 by simp [deepL]] at hD1
 rw [show deepL 2 [(⟨1, [1]⟩ : S40)] = 0 by simp [deepL]] at hD2
 unfold davitlaw09_awake.f
 simp only [Option.bind_some]
 change Evt (fun k => (loop_All.f k 0 1 wake9).bind fun t356 => (if (t356.length : Int) = 1 then (if 0 < (t356.length : Int) then (if ((rd_T40 t356 0).f0) = 1 then ((davitref02_Ints.f k ((rd_T40 t356 0).f1) (([1] : List Int))).bind fun t364 => (if t364 = true then ((loop_Deep.f k 0 1 wake9 1).bind fun t365 => (if t365 = 1 then ((loop_Deep.f k 0 1 wake9 2).bind fun t366 => (some (t366 == 0))) else (some false))) else (some false))) else (some false)) else (none)) else (some false))) true
 refine Evt.bind hA ?_
 have e0 : rd_T40 [(⟨1, [1]⟩ : S40)] 0 = ⟨1, [1]⟩ := rfl
 simp only [List.length_cons, List.length_nil, e0, if_pos (show ((0 + 1 : Nat) : Int) = 1 by simp), if_pos (show (0 : Int) < ((0 + 1 : Nat) : Int) by simp), if_pos]
 refine Evt.bind (ints_ev _ _ (by simp)) ?_
 simp only [decide_true, if_pos]
 refine Evt.bind hD1 ?_
 simp only [if_pos (show ((1 : Nat) : Int) = 1 by rfl)]
 refine Evt.bind hD2 ?_
 exact Evt.pure _
section
variable {bs : List S50} (a0 a1 : Int)
end
inductive Fw (bs : List S50) (no a : Int) : Int → Prop
 | here : a ≠ no → Fw bs no a a
 | step {y z : Int} : Fw bs no a y → z ∈ nextL bs y → z ≠ no → Fw bs no a z
section
variable {bs : List S50}
theorem Fw.ne {no a y : Int} (h : Fw bs no a y) : y ≠ no := by
 cases h with
 | here h => exact h
 | step _ _ h => exact h
theorem Fw.cm {no a y n : Int} (h : Fw bs no a y) (hc : Cm bs no n y) : Cm bs no n a := by
 induction h with
 | here _ => exact hc
 | step hf hs _ ih => exact ih (.step hc hs hf.ne)
theorem InL.dom {h k : Int} (hh : RR bs h) (hk : InL bs h k) : DD bs h k := by
 rcases hk with rfl | hk
 ·exact Dom.refl (next_edges bs) hh
 ·exact hk.1
theorem HasL.rch {r : List Int} {place o : Int → Int} (H : OverOk bs r place o) {h : Int} (hh : HasL bs h) : RR bs h := by
 obtain ⟨n, hd, _⟩ := hh
 exact (H.tree.anc ((H.anc _ _ hd.1).2 hd) hd.1 (H.done _ hd.1)).1
theorem mem_loopB {h k : Int} : k ∈ loopB bs h ↔ (0 ≤ k ∧ k < bs.length) ∧ InL bs h k := by
 unfold loopB
 rw [List.mem_filter, mem_upTo, decide_eq_true_eq]
end
end Go.Proofs.Ytilopoegoddggaa.X
namespace Go.Proofs.Ytilopoegoddggaa.X
open Go.RowKit Go.Proofs.YtilopoegoddggaaW.PrintWords Go.Proofs.YtilopoegoddggaaW.PrintLast Go.Proofs.YtilopoegoddggaaW.PrintMore
open Go.Proofs.Ytilopoegoddggaa.G
open Classical
set_option linter.all false
theorem evt_upto (n : Nat) (P : Nat → Int → Prop) (h : ∀ y : Int, 0 ≤ y → y < n → ∃ K, ∀ k, K ≤ k → P k y) : ∃ K, ∀ k, K ≤ k → ∀ y : Int, 0 ≤ y → y < n → P k y := by
 induction n with
 | zero => exact ⟨0, fun k _ y h0 h1 => by omega⟩
 | succ n ih =>
  obtain ⟨K1, h1⟩ := ih fun y h0 h1 => h y h0 (by omega)
  obtain ⟨K2, h2⟩ := h n (by omega) (by omega)
  refine ⟨K1 + K2, fun k hk y h0 hy => ?_⟩
  by_cases e : y = n
  ·rw [e]; exact h2 k (by omega)
  ·exact h1 k (by omega) y h0 (by omega)
theorem upTo_sorted (n : Nat) : (upTo n).Pairwise (· < ·) := by
 unfold upTo
 rw [List.pairwise_map]
 exact List.Pairwise.imp (fun h => by omega) (List.pairwise_lt_range (n := n))
theorem rd_lt {l : List Int} (h : l.Pairwise (· < ·)) {y : Int} (h0 : 0 < y) (h1 : y < (l.length : Int)) : rd l (y - 1) < rd l y := by
 have a1 : (y - 1).toNat < l.length := by omega
 have a2 : y.toNat < l.length := by omega
 have := List.pairwise_iff_getElem.1 h (y - 1).toNat y.toNat a1 a2 (by omega)
 unfold rd
 rw [List.getD_eq_getElem?_getD, List.getD_eq_getElem?_getD, List.getElem?_eq_getElem a1, List.getElem?_eq_getElem a2]
 exact this
section
variable {bs : List S50}
theorem last_h {h y : Int} (hv : h ≠ -1) (hy : RR bs y) : RW bs h y ∨ y = h ∨ ∃ z, z ∈ nextL bs h ∧ Fw bs h z y := by
 induction hy with
 | zero hN _ =>
  by_cases e : (0 : Int) = h
  ·exact .inr (.inl e)
  ·exact .inl (.zero hN e)
 | step ha hs hx ih =>
  rename_i a b
  by_cases e : b = h
  ·exact .inr (.inl e)
  rcases ih with w | w | ⟨z, hz, hf⟩
  ·exact .inl (.step w hs e)
  ·exact .inr (.inr ⟨b, w ▸ hs, .here e⟩)
  ·exact .inr (.inr ⟨z, hz, .step hf hs e⟩)
theorem loop_next {h b : Int} (g : HasL bs h) (hr : RR bs h) (hb : InL bs h b) : ∃ z, z ∈ nextL bs b ∧ InL bs h z := by
 have key : b = h → ∃ z, z ∈ nextL bs h ∧ InL bs h z := by
  intro _
  obtain ⟨n, hn⟩ := g
  by_cases e : n = h
  ·exact ⟨h, e ▸ hn.2, .inl rfl⟩
  ·rcases last_h (h := h) (by have := hr.inV (next_edges bs); omega) hn.1.1 with w | w | ⟨z, hz, hf⟩
   ·exact absurd w (hn.1.2.2.resolve_left fun e' => e e'.symm)
   ·exact absurd w e
   ·have hc : Cm bs h n z := hf.cm (.here e)
    exact ⟨z, hz, .inr ⟨hc.dom hn.1 (hr.next (next_edges bs) hz), n, hn, hc⟩⟩
 by_cases e : b = h
 ·rw [e]; exact key e
 obtain ⟨hd, n, hn, hc⟩ := hb.resolve_left e
 cases hc with
 | here _ => exact ⟨h, hn.2, .inl rfl⟩
 | step hc hs hne =>
  rename_i l'
  exact ⟨l', hs, .inr ⟨hc.dom hn.1 (hd.1.next (next_edges bs) hs), n, hn, hc⟩⟩
theorem loop_before {h b p : Int} (hb : InL bs h b) (hne : b ≠ h) (hs : b ∈ nextL bs p) (hp : RR bs p) : InL bs h p := by
 obtain ⟨hd, n, hn, hc⟩ := hb.resolve_left hne
 by_cases e : p = h
 ·exact .inl e
 ·exact .inr ⟨hd.pred (next_edges bs) (fun e' => hne e'.symm) hs hp, n, hn, .step hc hs e⟩
theorem loopB_sorted (h : Int) : (loopB bs h).Pairwise (· < ·) := (upTo_sorted _).filter _
theorem rd_T40_at {L : List S40} {x : Int} (h0 : 0 ≤ x) (h1 : x < (L.length : Int)) : ∃ hx : x.toNat < L.length, rd_T40 L x = L[x.toNat] := by
 have h : x.toNat < L.length := by omega
 refine ⟨h, ?_⟩
 unfold rd_T40
 rw [List.getD_eq_getElem?_getD, List.getElem?_eq_getElem h]
 rfl
theorem heads_sorted (m : Nat) : (loopsL bs m).Pairwise fun a b => a.f0 < b.f0 := by
 unfold loopsL
 rw [List.pairwise_map]
 exact (upTo_sorted m).filter _
theorem heads_lt (m : Nat) {x : Int} (h0 : 0 < x) (h1 : x < ((loopsL bs m).length : Int)) : (rd_T40 (loopsL bs m) (x - 1)).f0 < (rd_T40 (loopsL bs m) x).f0 := by
 obtain ⟨a1, e1⟩ := rd_T40_at (L := loopsL bs m) (x := x - 1) (by omega) (by omega)
 obtain ⟨a2, e2⟩ := rd_T40_at (L := loopsL bs m) (x := x) (by omega) h1
 rw [e1, e2]
 exact List.pairwise_iff_getElem.1 (heads_sorted m) (x - 1).toNat x.toNat a1 a2 (by omega)
variable (a0 a1 : Int)
theorem block_ev (hl : bs.length ≤ 100) {h : Int} (hv : 0 ≤ h ∧ h < bs.length) (g : HasL bs h) (hr : RR bs h) {y : Int} (y0 : 0 ≤ y) (y1 : y < ((loopB bs h).length : Int)) :
  ∃ K, ∀ k, K ≤ k → lhBlock k a0 a1 bs h (loopB bs h) y := by
 have hbl := loopB_len (bs := bs) h
 have hm := rd_mem y0 y1
 obtain ⟨b, hb⟩ : ∃ b, b = rd (loopB bs h) y := ⟨_, rfl⟩
 rw [← hb] at hm
 obtain ⟨vb, ib⟩ := mem_loopB.1 hm
 obtain ⟨K1, h1⟩ := is_ev a0 a1 bs (by omega) h b
 rw [decide_eq_true (ib.dom hr)] at h1
 obtain ⟨K2, h2⟩ := before_ev a0 a1 bs b (by omega)
 obtain ⟨rs, r1, r2, r3⟩ := reached_ok a0 a1 bs (by omega)
 have hpl := preds_len bs b
 obtain ⟨K3, h3⟩ := evt_upto (predsL bs b).length (fun k t => davitref07_Has.f k (loopB bs h) (rd (predsL bs b) t) = some (decide (rd (predsL bs b) t ∈ loopB bs h))) fun t _ _ => has_ev _ _ (by omega)
 obtain ⟨K4, h4⟩ := evt_upto (nextL bs b).length (fun k t => davitref07_Has.f k (loopB bs h) (rd (nextL bs b) t) = some (decide (rd (nextL bs b) t ∈ loopB bs h))) fun t _ _ => has_ev _ _ (by omega)
 refine ⟨K1 + K2 + K3 + K4, fun k hk => ?_⟩
 unfold lhBlock
 rw [← hb]
 refine ⟨h1 k (by omega), fun hy => by rw [hb]; exact rd_lt (loopB_sorted h) hy y1, ⟨predsL bs b, h2 k (by omega), by omega, fun hne => ⟨rs, r1, fun t t0 t1 => ?_⟩⟩, ?_⟩
 ·have hp := mem_preds.1 (rd_mem t0 t1)
  have vp := (next_edges bs _ _ hp).1
  refine ⟨vp.1, by omega, fun hq => ?_⟩
  have hin := loop_before ib hne hp ((r3 _ vp.1 vp.2).1 hq)
  rw [h3 k (by omega) t t0 t1, decide_eq_true (mem_loopB.2 ⟨vp, hin⟩)]
 ·refine ⟨by have := next_len bs b; omega, fun z => decide (z ∈ loopB bs h), h4 k (by omega), ?_⟩
  obtain ⟨z, hz, iz⟩ := loop_next g hr ib
  exact List.any_eq_true.2 ⟨z, hz, decide_eq_true (mem_loopB.2 ⟨(next_edges bs _ _ hz).2, iz⟩)⟩
theorem heads_ev (hl : bs.length ≤ 100) : ∃ K, ∀ k, K ≤ k → lhAll k a0 a1 bs (loopsL bs bs.length) := by
 have hll := loopsL_len (bs := bs) bs.length
 have key := evt_upto (loopsL bs bs.length).length (fun k x => lhHead k a0 a1 bs (loopsL bs bs.length) x (rd_T40 (loopsL bs bs.length) x).f0 (rd_T40 (loopsL bs bs.length) x).f1) fun x x0 x1 => by
  have hm := rd40_mem x0 x1
  have hm' := hm
  unfold loopsL at hm'
  obtain ⟨h, hh, e⟩ := List.mem_map.1 hm'
  obtain ⟨hv, hg⟩ := List.mem_filter.1 hh
  rw [mem_upTo] at hv
  have g : HasL bs h := of_decide_eq_true hg
  change (⟨h, loopB bs h⟩ : S40) = rd_T40 (loopsL bs bs.length) x at e
  have e0 : (rd_T40 (loopsL bs bs.length) x).f0 = h := by rw [← e]
  have e1 : (rd_T40 (loopsL bs bs.length) x).f1 = loopB bs h := by rw [← e]
  have hlt : 0 < x → (rd_T40 (loopsL bs bs.length) (x - 1)).f0 < h := fun hx => by rw [← e0]; exact heads_lt _ hx x1
  rw [e0, e1]
  have hbl := loopB_len (bs := bs) h
  obtain ⟨r, place, o, _, H⟩ := over_ok a0 a1 bs (by omega) (by omega)
  have hr := g.rch H
  obtain ⟨K1, h1⟩ := has_ev (loopB bs h) h (by omega)
  rw [decide_eq_true (mem_loopB.2 ⟨hv, .inl rfl⟩)] at h1
  obtain ⟨K2, h2⟩ := evt_upto (loopB bs h).length (fun k y => lhBlock k a0 a1 bs h (loopB bs h) y) fun y y0 y1 => block_ev a0 a1 hl hv g hr y0 y1
  exact ⟨K1 + K2, fun k hk => ⟨by omega, h1 k (by omega), hlt, h2 k (by omega)⟩⟩
 obtain ⟨K, hK⟩ := key
 exact ⟨K, fun k hk => ⟨by omega, hK k hk⟩⟩
end
theorem loopHeads_pure (a0 a1 : Int) (bs : List S50) : ∃ k, davitlaw09_LoopHeads.f k a0 a1 bs = some true := by
 obtain ⟨K1, h1⟩ := awake09
 by_cases h30 : (bs.length : Int) > 30
 ·refine ⟨K1, ?_⟩
  unfold davitlaw09_LoopHeads.f
  rw [if_pos (h1 K1 (Nat.le_refl _)), if_pos h30]
 ·have hl : bs.length ≤ 100 := by omega
  obtain ⟨K2, h2⟩ := all_ev (bs := bs) a0 a1 hl
  obtain ⟨K3, h3⟩ := heads_ev (bs := bs) a0 a1 hl
  refine ⟨K1 + K2 + K3, ?_⟩
  have e2 : loop_All.f (K1 + K2 + K3) a0 a1 bs = some (loopsL bs bs.length) := h2 (K1 + K2 + K3) (by omega)
  unfold davitlaw09_LoopHeads.f
  rw [if_pos (h1 _ (by omega)), if_neg h30, e2]
  exact if_pos (h3 _ (by omega))
end Go.Proofs.Ytilopoegoddggaa.X
namespace Go.Proofs.Ytilopoegoddggaa.Pure
open Go.RowKit Go.Proofs.Ytilopoegoddggaa.X
theorem LoopHeads (a0 a1 : Int) (l : List S50) : ∃ k, davitlaw09_LoopHeads.f k a0 a1 l = some true := loopHeads_pure a0 a1 l
end Go.Proofs.Ytilopoegoddggaa.Pure
namespace Go.Proofs.Ytilopoegoddggaa.X
open Go.RowKit Go.Proofs.YtilopoegoddggaaW.PrintWords Go.Proofs.YtilopoegoddggaaW.PrintLast Go.Proofs.YtilopoegoddggaaW.PrintMore
set_option linter.all false
def Opens {α : Type} (d : Kd α) (t : TypeId) : Prop := ∀ (H : Type) (enc : TypeId × Value → H) (w : World) (fuel : Nat) (cs : List Value) (x : DataW H × List MemPlace),
 DataW.trod enc Try.prog w 0 (fun _ => true) true fuel t cs = some x → ∃ a, d.K w a cs
theorem Opens.int {k : IntKind} {t : TypeId} (ht : Try.prog.underlying t = some (.int k)) : Opens (Kd.int k) t := fun H enc w fuel cs x h => by
 obtain ⟨n, rfl, _⟩ := DataW.trod_int ht h
 exact ⟨n, rfl⟩
theorem Opens.bool {t : TypeId} (ht : Try.prog.underlying t = some .bool) : Opens Kd.bool t := fun H enc w fuel cs x h => by
 obtain ⟨n, rfl, _⟩ := DataW.trod_bool ht h
 exact ⟨n, rfl⟩
theorem Opens.slice {α : Type} {d : Kd α} {t e : TypeId} (e' : Nat) (ht : Try.prog.underlying t = some (.slice e)) (hd : Opens d e) (hs : d.sz = Try.prog.cellsOf e) : Opens (Kd.slice e' d) t := fun H enc w fuel cs x h => by
 rcases Go.Deep.open_slice ht h with ⟨rfl, _⟩ | ⟨a, len, cap, m, n, D, Pl, rfl, _, hl, hm, hmm, _, hx⟩
 ·exact ⟨[], none, 0, rfl, Nat.le_refl _, ⟨rfl, by simp, fun h => absurd h (by simp)⟩⟩
 ·have hlm : len ≤ m := by rw [hmm]; split <;> omega
  have key : ∀ j, j ≤ len → ∃ xs : List α, xs.length = j ∧ ∀ i p, xs[i]? = some p → ∃ c, c.length = d.sz ∧ d.K w p c ∧ ∀ q u, c[q]? = some u → w.cell? (a.add (i * d.sz + q)) = some u := by
   intro j
   induction j with
   | zero => exact fun _ => ⟨[], rfl, fun i p h => by simp at h⟩
   | succ j ih =>
    intro hj
    obtain ⟨xs, h1, h2⟩ := ih (by omega)
    obtain ⟨cs', h3, h4⟩ := hx j (by omega)
    obtain ⟨p, hp⟩ := hd H enc w n cs' _ h4
    obtain ⟨_, h5, h6⟩ := World.cells?_some h3
    refine ⟨xs ++ [p], by simp [h1], fun i q hq => ?_⟩
    by_cases hi : i < j
    ·rw [List.getElem?_append_left (by omega)] at hq
     exact h2 i q hq
    ·have hi' : i = j := by
      have := (List.getElem?_eq_some_iff.1 hq).1
      simp [h1] at this; omega
     subst hi'
     rw [List.getElem?_append_right (by omega), h1, Nat.sub_self] at hq
     simp at hq
     subst hq
     refine ⟨cs', by rw [h5, hs], hp, fun z u hz => ?_⟩
     have hzl := (List.getElem?_eq_some_iff.1 hz).1
     have := h6 z (by omega)
     rw [Go.Deep.add_add, ← hs] at this
     rw [this, hz]
  obtain ⟨xs, h1, h2⟩ := key len (Nat.le_refl _)
  have hmx : maxLen ≤ 9223372036854775807 := by decide
  exact ⟨xs, some a, cap, by rw [h1], by rw [h1]; exact hl, ⟨rfl, by omega, fun _ => ⟨a, rfl, h2⟩⟩⟩
theorem Opens.iso {α β : Type} {d : Kd α} {t : TypeId} (f : β → α) (g : α → β) (hg : ∀ y, f (g y) = y) (h : Opens d t) : Opens (Kd.iso d f) t := fun H enc w fuel cs x hx => by
 obtain ⟨a, ha⟩ := h H enc w fuel cs x hx
 exact ⟨g a, show d.K w (f (g a)) cs by rw [hg]; exact ha⟩
def OpensF {α : Type} (d : Kd α) (fs : List Field) (off : Nat) : Prop := ∀ (H : Type) (enc : TypeId × Value → H) (w : World) (n : Nat) (cs : List Value), cs.length = off + d.sz →
 (∀ f ∈ fs, ∃ y, DataW.trod enc Try.prog w 0 (fun _ => true) true n f.type ((cs.drop f.offset).take (Try.prog.cellsOf f.type)) = some y) → ∃ a, d.K w a (cs.drop off)
theorem OpensF.one {α : Type} {d : Kd α} {f : Field} {off : Nat} (ho : f.offset = off) (hd : Opens d f.type) (hs : Try.prog.cellsOf f.type = d.sz) : OpensF d [f] off := fun H enc w n cs hl h => by
 obtain ⟨y, hy⟩ := h f (List.mem_cons_self ..)
 rw [ho, hs, List.take_of_length_le (by rw [List.length_drop]; omega)] at hy
 exact hd H enc w n _ _ hy
theorem OpensF.cons {α β : Type} {d : Kd α} {d2 : Kd β} {f : Field} {fs : List Field} {off : Nat} (ho : f.offset = off) (hd : Opens d f.type) (hs : Try.prog.cellsOf f.type = d.sz) (h2 : OpensF d2 fs (off + d.sz)) : OpensF (Kd.pair d d2) (f :: fs) off := fun H enc w n cs hl h => by
 obtain ⟨y, hy⟩ := h f (List.mem_cons_self ..)
 rw [ho, hs] at hy
 obtain ⟨a, ha⟩ := hd H enc w n _ _ hy
 have hl' : cs.length = off + (d.sz + d2.sz) := hl
 obtain ⟨b, hb⟩ := h2 H enc w n cs (by omega) fun g hg => h g (List.mem_cons_of_mem _ hg)
 refine ⟨(a, b), _, _, ?_, ha, hb⟩
 rw [show cs.drop (off + d.sz) = (cs.drop off).drop d.sz by rw [List.drop_drop], List.take_append_drop]
theorem Opens.struct {α : Type} {d : Kd α} {t : TypeId} {fs : Array Field} (ht : Try.prog.underlying t = some (.struct fs)) (hs : Try.prog.cellsOf t = d.sz) (h : OpensF d fs.toList 0) : Opens d t := fun H enc w fuel cs x hx => by
 obtain ⟨xs, n, _, _, hl, hlen, hf⟩ := DataW.trod_struct ht hx
 have := h H enc w n cs (by omega) fun f hm => by
  obtain ⟨i, hi, e⟩ := List.getElem_of_mem hm
  have hi' : i < fs.size := by simpa using hi
  have := hf i f (by rw [← e]; simp [hi'])
  rw [this, List.getElem?_eq_getElem (by omega)]
  exact ⟨_, rfl⟩
 simpa using this
end Go.Proofs.Ytilopoegoddggaa.X
namespace Go.Proofs.Ytilopoegoddggaa.X
open Go.RowKit Go.Proofs.YtilopoegoddggaaW.PrintWords Go.Proofs.YtilopoegoddggaaW.PrintLast Go.Proofs.YtilopoegoddggaaW.PrintMore
set_option linter.all false
set_option maxRecDepth 100000
theorem oInt : Opens (Kd.int .i64) 3 := Opens.int Try.underlying3
theorem oBool : Opens Kd.bool 4 := Opens.bool Try.underlying4
theorem oInts : Opens (Kd.slice 3 (Kd.int .i64)) 27 := Opens.slice 3 Try.underlying27 oInt (by kernel_rfl)
theorem oWords : Opens (Kd.slice 115 (Kd.int .u16)) 45 := Opens.slice 115 (t := 45) (e := 115) (by kernel_rfl) (Opens.int (by kernel_rfl)) (by kernel_rfl)
theorem o47 : Opens k47 47 := Opens.iso _ (fun y => ⟨y.1, y.2.1, y.2.2.1, y.2.2.2⟩) (fun _ => rfl) (Opens.struct Try.underlying47 (by kernel_rfl)
 (.cons rfl oInt (by kernel_rfl) (.cons rfl oWords (by kernel_rfl) (.cons rfl oBool (by kernel_rfl) (.one rfl oBool (by kernel_rfl))))))
theorem o117 : Opens k117 117 := Opens.iso _ (fun y => ⟨y.1, y.2.1, y.2.2.1, y.2.2.2.1, y.2.2.2.2.1, y.2.2.2.2.2.1, y.2.2.2.2.2.2⟩) (fun _ => rfl) (Opens.struct Try.underlying117 (by kernel_rfl)
 (.cons rfl oInt (by kernel_rfl) (.cons rfl oInt (by kernel_rfl) (.cons rfl oInt (by kernel_rfl) (.cons rfl oInt (by kernel_rfl) (.cons rfl (Opens.int (by kernel_rfl)) (by kernel_rfl) (.cons rfl oInt (by kernel_rfl) (.one rfl oInts (by kernel_rfl)))))))))
theorem o44 : Opens k44 44 := Opens.iso _ (fun y => ⟨y.1, y.2.1, y.2.2.1, y.2.2.2.1, y.2.2.2.2.1, y.2.2.2.2.2.1, y.2.2.2.2.2.2.1, y.2.2.2.2.2.2.2⟩) (fun _ => rfl) (Opens.struct Try.underlying44 (by kernel_rfl)
 (.cons rfl oInt (by kernel_rfl) (.cons rfl oInt (by kernel_rfl) (.cons rfl oInt (by kernel_rfl) (.cons rfl oInt (by kernel_rfl) (.cons rfl oInts (by kernel_rfl) (.cons rfl oInt (by kernel_rfl) (.cons rfl oInt (by kernel_rfl) (.one rfl oInt (by kernel_rfl))))))))))
theorem o50 : Opens k50 50 := Opens.iso _ (fun y => ⟨y.1, y.2.1, y.2.2.1, y.2.2.2⟩) (fun _ => rfl) (Opens.struct Try.underlying50 (by kernel_rfl)
 (.cons rfl oBool (by kernel_rfl) (.cons rfl o47 (by kernel_rfl) (.cons rfl (Opens.slice 117 (t := 48) (e := 117) (by kernel_rfl) o117 (by kernel_rfl)) (by kernel_rfl) (.one rfl o44 (by kernel_rfl))))))
theorem oBlocks : Opens (Kd.slice 50 k50) 22 := Opens.slice 50 Try.underlying22 o50 (by kernel_rfl)
theorem open_func {H : Type} {enc : TypeId × Value → H} {W : World} {r : Reach} {b0 : Nat} {v : Value} {d : DataW H} {p : List MemPlace} (hv : Value.okWide Try.prog W r b0 24 v) (h : DataW.Trod enc Try.prog W 0 (fun _ => true) true 24 v d p) :
  ∃ (a0 a1 : Int) (A : Option Addr) (c : Nat) (l : List S50), v = .agg #[.int .i64 a0, .int .i64 a1, .slice A l.length c] ∧ Kd.C k50 W A l.length l ∧ l.length ≤ c := by
 obtain ⟨v0, v1, v2, y0, y1, y2, n, rfl, _, _, h0, h1, h2⟩ := Go.Joins.open_agg3 (t := 24) Try.underlying24 (by kernel_rfl) (by kernel_rfl) hv h
 obtain ⟨a0, e0⟩ := oInt H enc W n _ _ h0
 obtain ⟨a1, e1⟩ := oInt H enc W n _ _ h1
 obtain ⟨l, A, c, e2, hc, hC⟩ := oBlocks H enc W n _ _ h2
 cases e0; cases e1; cases e2
 exact ⟨a0, a1, A, c, l, rfl, hC, hc⟩
end Go.Proofs.Ytilopoegoddggaa.X
namespace Go.Proofs.Ytilopoegoddggaa.loopHeads
open Go.ChangeShapes Go.WideShapes Go.ChangeAt Go.RowKit Go.Proofs.Ytilopoegoddggaa.X Go.Proofs.YtilopoegoddggaaW.PrintWords
set_option linter.all false
theorem own : ownKnob Try.prog.godebug = none := by kernel_rfl
theorem laidOut : laidOutB Try.prog = true := by kernel_rfl
set_option maxRecDepth 100000 in
theorem lifted (os : Os) (started : os.Started) (H : Type) (enc : TypeId × Value → H) :
  ReturnsInHanded {} Try.checked os 8 .any (Rows.loopHeadsSpec.pre6 enc Try.prog Try.f8 Rows.loopHeadsRow.domain false) (Rows.loopHeadsSpec.post enc Try.prog Try.f8 false true false false) := by
 refine returnsInHanded_of_change_sized (C := Try.checked) own started (by kernel_rfl) Try.func8
  (ChangeSpec.witness6 (enc := enc) (C := Try.checked) false ⟨#[], #[.agg #[.int .i64 0, .int .i64 0, .slice none 0 0]], []⟩ 8 (by kernel_rfl) (by kernel_rfl) (by kernel_rfl) (by kernel_rfl)) ?_
 intro W base args ds gs before hval0 hW hcnd hsz0 _
 have hval : ∀ (j : Nat) t v, Try.f8.params[j]? = some t → args[j]? = some v → Value.okWide Try.prog W .any base t v := hval0
 have hW' := hW
 obtain ⟨p, q, hA0, hV, rfl, hfz, hnd⟩ := hW
 have hA : DataW.TrodAll enc Try.prog W 0 (fun _ => true) true Try.f8.params.toList args.toList ds p := hA0
 rw [Try.params8] at hA hval
 obtain ⟨v0, vs0, d0, ds0, p0, q0, hargs, rfl, rfl, h0, r0⟩ := trodAll_cons hA
 obtain ⟨rfl, rfl, rfl⟩ := trodAll_nil r0
 obtain rfl : args = #[v0] := by cases args; simp_all
 obtain ⟨rfl, rfl⟩ := trodVars_none hV
 have k0 := h0
 have lt0 : ∀ x ∈ p0, x.block < W.heap.size := by obtain ⟨m, hm⟩ := k0; exact DataW.trod_lt m _ _ _ hm
 obtain ⟨a0_0, a0_1, A0, c0, l0, rfl, hr0, hc0⟩ := open_func (hval 0 24 v0 rfl rfl) h0
 clear hA0 hval0 hsz0
 obtain ⟨k, hk⟩ := Pure.LoopHeads a0_0 a0_1 l0
 refine (davitlaw09_LoopHeads.calls k a0_0 a0_1 A0 c0 l0 true W hr0 hc0 hk).mono fun e W' ⟨he, bel⟩ => ?_
 subst he
 exact ⟨_, rfl, _, _, _, [], _, [], hW', trodAll_mk1 (shut_bool Try.underlying4 _), (trodAll_cons_mk (Below.trod laidOut (by kernel_rfl) (of_decide_eq_true (by kernel_rfl)) k0 bel lt0) trodAll_mk0), rfl, bel.frame _, fun h => by cases h⟩
theorem over : Rows.loopHeadsRow.holds Try.pinned (OpenSpec.ofChange Rows.loopHeadsSpec) :=
 OpenClaim.holds_of_wide 8 Try.f8 rfl rfl rfl rfl rfl rfl rfl ⟨rfl, rfl, rfl, rfl, rfl⟩ rfl rfl rfl rfl rfl (by kernel_rfl) Try.func8 (by kernel_rfl)
  (of_decide_eq_true (by kernel_rfl)) (by unfold Func.isWrapper; first | (rw [if_pos (by decide +kernel)]; kernel_rfl) | (rw [if_neg (by decide +kernel)]; exact ⟨rfl, rfl⟩))
  (fun os started H enc _ => lifted os started H enc)
theorem proved : Rows.LoopHeadsSaid := over
#print axioms proved
end Go.Proofs.Ytilopoegoddggaa.loopHeads
namespace Go.Proofs.Ytilopoegoddggaa
theorem loopHeads_holds : Rows.LoopHeadsSaid := loopHeads.proved
end Go.Proofs.Ytilopoegoddggaa
