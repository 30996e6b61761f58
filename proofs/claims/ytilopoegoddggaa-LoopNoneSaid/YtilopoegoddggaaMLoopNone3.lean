/- Part 4 of the proof of the statement LoopNone: the words of the walks, the walks through the functions that it reaches, and the plain laws of what they compute. -/
import Derived.Test.YtilopoegoddggaaMLoopNone2
namespace Go.Proofs.Ytilopoegoddggaa.X
open Go.RowKit Go.Proofs.YtilopoegoddggaaW.PrintWords Go.Proofs.YtilopoegoddggaaW.PrintLast Go.Proofs.YtilopoegoddggaaW.PrintMore
open Go.Proofs.Ytilopoegoddggaa.G
set_option linter.all false
theorem rd_get {l : List Int} {i : Int} (h0 : 0 ≤ i) (h1 : i < (l.length : Int)) : l.drop i.toNat = rd l i :: l.drop (i + 1).toNat := by
 have h : i.toNat < l.length := by omega
 rw [List.drop_eq_getElem_cons h]
 congr 1
 ·simp [rd, List.getD_eq_getElem?_getD, List.getElem?_eq_getElem h]
 ·congr 1; omega
theorem rd_mem {l : List Int} {i : Int} (h0 : 0 ≤ i) (h1 : i < (l.length : Int)) : rd l i ∈ l := by
 have h : i.toNat < l.length := by omega
 simp [rd, List.getD_eq_getElem?_getD, List.getElem?_eq_getElem h]
theorem index_l0 (l : List Int) (x : Int) (hl : l.length ≤ 1000000) : ∀ (d : Nat) (i : Int), 0 ≤ i → i + d = l.length → ∃ r, Evt (fun k => slices_Index_int_int.l0 k l x l.length i) r ∧ (0 ≤ r ↔ x ∈ l.drop i.toNat)
 | 0, i, h0, h1 => by
  refine ⟨-1, Evt.succ ?_, ?_⟩
  ·simp only [slices_Index_int_int.l0, if_neg (show ¬ i < (l.length : Int) by omega)]
   exact Evt.pure _
  ·rw [List.drop_eq_nil_of_le (by omega)]; simp
 | d + 1, i, h0, h1 => by
  have hlt : i < (l.length : Int) := by omega
  rw [rd_get h0 hlt]
  by_cases e : x = rd l i
  ·refine ⟨i, Evt.succ ?_, ?_⟩
   ·simp only [slices_Index_int_int.l0, if_pos hlt, if_pos h0, if_pos e]
    exact Evt.pure _
   ·exact ⟨fun _ => e ▸ List.mem_cons_self .., fun _ => h0⟩
  ·obtain ⟨r, hr, hx⟩ := index_l0 l x hl d (i + 1) (by omega) (by omega)
   refine ⟨r, Evt.succ ?_, ?_⟩
   ·simp only [slices_Index_int_int.l0, if_pos hlt, if_pos h0, if_neg e, wrap64_small (i + 1) (by omega) (by omega)]
    exact hr
   ·rw [hx]; simp [e]
theorem contains_ev (l : List Int) (x : Int) (hl : l.length ≤ 1000000) : Evt (fun k => slices_Contains_int_int.f k l x) (decide (x ∈ l)) := by
 obtain ⟨r, hr, hx⟩ := index_l0 l x hl l.length 0 (by omega) (by omega)
 unfold slices_Contains_int_int.f slices_Index_int_int.f
 refine Evt.bind hr ?_
 rw [show decide (x ∈ l) = decide (r ≥ 0) from decide_eq_decide.2 (by simpa using hx.symm)]
 exact Evt.pure _
theorem has_l0 (l : List Int) (x : Int) (hl : l.length ≤ 1000000) : ∀ (d : Nat) (i : Int), 0 ≤ i → i + d = l.length → Evt (fun k => davitref07_Has.l0 k l x i) (decide (x ∈ l.drop i.toNat))
 | 0, i, h0, h1 => by
  refine Evt.succ ?_
  simp only [davitref07_Has.l0, if_neg (show ¬ i < (l.length : Int) by omega)]
  rw [List.drop_eq_nil_of_le (by omega)]
  exact Evt.pure _
 | d + 1, i, h0, h1 => by
  have hlt : i < (l.length : Int) := by omega
  rw [rd_get h0 hlt]
  refine Evt.succ ?_
  by_cases e : rd l i = x
  ·simp only [davitref07_Has.l0, if_pos hlt, if_pos h0, if_pos e]
   rw [decide_eq_true (by rw [e]; exact List.mem_cons_self ..)]
   exact Evt.pure _
  ·simp only [davitref07_Has.l0, if_pos hlt, if_pos h0, if_neg e, wrap64_small (i + 1) (by omega) (by omega)]
   rw [decide_eq_decide.2 (show x ∈ rd l i :: l.drop (i + 1).toNat ↔ x ∈ l.drop (i + 1).toNat by rw [List.mem_cons]; exact ⟨fun h => h.resolve_left (fun h => e h.symm), .inr⟩)]
   exact has_l0 l x hl d (i + 1) (by omega) (by omega)
theorem has_ev (l : List Int) (x : Int) (hl : l.length ≤ 1000000) : Evt (fun k => davitref07_Has.f k l x) (decide (x ∈ l)) := has_l0 l x hl l.length 0 (by omega) (by omega)
theorem ints_l0 (a b : List Int) (hl : a.length ≤ 1000000) (he : a.length = b.length) : ∀ (d : Nat) (i : Int), 0 ≤ i → i + d = a.length → Evt (fun k => davitref02_Ints.l0 k a b i) (decide (a.drop i.toNat = b.drop i.toNat))
 | 0, i, h0, h1 => by
  refine Evt.succ ?_
  simp only [davitref02_Ints.l0, if_neg (show ¬ i < (a.length : Int) by omega)]
  rw [List.drop_eq_nil_of_le (by omega), List.drop_eq_nil_of_le (by omega)]
  exact Evt.pure _
 | d + 1, i, h0, h1 => by
  have hlt : i < (a.length : Int) := by omega
  rw [rd_get h0 hlt, rd_get h0 (show i < (b.length : Int) by omega)]
  refine Evt.succ ?_
  by_cases e : rd a i = rd b i
  ·simp only [davitref02_Ints.l0, if_pos hlt, if_pos h0, if_pos (show i < (b.length : Int) by omega), if_pos e, wrap64_small (i + 1) (by omega) (by omega)]
   rw [decide_eq_decide.2 (show rd a i :: a.drop (i + 1).toNat = rd b i :: b.drop (i + 1).toNat ↔ a.drop (i + 1).toNat = b.drop (i + 1).toNat by simp [e])]
   exact ints_l0 a b hl he d (i + 1) (by omega) (by omega)
  ·simp only [davitref02_Ints.l0, if_pos hlt, if_pos h0, if_pos (show i < (b.length : Int) by omega), if_neg e]
   rw [decide_eq_false (by simp [e])]
   exact Evt.pure _
theorem ints_ev (a b : List Int) (hl : a.length ≤ 1000000) : Evt (fun k => davitref02_Ints.f k a b) (decide (a = b)) := by
 unfold davitref02_Ints.f
 by_cases he : a.length = b.length
 ·simp only [if_pos (show (a.length : Int) = b.length by omega)]
  exact ints_l0 a b hl he a.length 0 (by omega) (by omega)
 ·simp only [if_neg (show ¬ (a.length : Int) = b.length by omega)]
  rw [decide_eq_false (fun h => he (by rw [h]))]
  exact Evt.pure _
theorem isB_iff (n : Nat) (k : Int) : isB n k = true ↔ 0 ≤ k ∧ k < n := by simp [isB]
theorem next_edges (bs : List S50) : Edges bs.length (nextL bs) := by
 intro a b h
 unfold nextL at h
 split at h
 ·rename_i ha
  obtain ⟨_, hb⟩ := List.mem_filter.1 h
  exact ⟨(isB_iff _ _).1 ha, (isB_iff _ _).1 hb⟩
 ·cases h
theorem allL_len (b : S50) : (allL b).length ≤ 3 := by
 have := goals_len b
 unfold allL; split <;> simp <;> omega
theorem next_len (bs : List S50) (n : Int) : (nextL bs n).length ≤ 3 := by
 unfold nextL; split
 ·exact Nat.le_trans (List.length_filter_le _ _) (allL_len _)
 ·simp
def upTo (n : Nat) : List Int := (List.range n).map fun (j : Nat) => (j : Int)
theorem upTo_succ (n : Nat) : upTo (n + 1) = upTo n ++ [(n : Int)] := by simp [upTo, List.range_succ]
theorem mem_upTo {n : Nat} {x : Int} : x ∈ upTo n ↔ 0 ≤ x ∧ x < n := by
 simp only [upTo, List.mem_map, List.mem_range]
 constructor
 ·rintro ⟨j, h, rfl⟩; omega
 ·rintro ⟨h0, h1⟩; exact ⟨x.toNat, by omega, by omega⟩
theorem upTo_len (n : Nat) : (upTo n).length = n := by simp [upTo]
def predsL (bs : List S50) (n : Int) : List Int := (upTo bs.length).filter fun k => decide (n ∈ nextL bs k)
theorem mem_preds {bs : List S50} {n p : Int} : p ∈ predsL bs n ↔ n ∈ nextL bs p := by
 unfold predsL
 rw [List.mem_filter, mem_upTo, decide_eq_true_eq]
 exact ⟨fun h => h.2, fun h => ⟨(next_edges bs _ _ h).1, h⟩⟩
theorem preds_len (bs : List S50) (n : Int) : (predsL bs n).length ≤ bs.length := by
 unfold predsL
 exact Nat.le_trans (List.length_filter_le _ _) (by rw [upTo_len]; exact Nat.le_refl _)
theorem upTo_cut (n : Nat) (i : Int) (h0 : 0 ≤ i) (h1 : i < n) : (upTo n).drop i.toNat = i :: (upTo n).drop (i + 1).toNat := by
 have h : i.toNat < (upTo n).length := by rw [upTo_len]; omega
 rw [List.drop_eq_getElem_cons h]
 congr 1
 ·simp [upTo]; omega
 ·congr 1; omega
theorem before_l0 (a0 a1 : Int) (bs : List S50) (n : Int) (hl : bs.length ≤ 1000000) : ∀ (d : Nat) (i : Int) (out : List Int), 0 ≤ i → i + d = bs.length → out.length ≤ i.toNat →
  Evt (fun k => flow_Before.l0 k n out bs.length i a0 a1 bs) (out ++ ((upTo bs.length).drop i.toNat).filter fun k => decide (n ∈ nextL bs k))
 | 0, i, out, h0, h1, h2 => by
  refine Evt.succ ?_
  simp only [flow_Before.l0, if_neg (show ¬ i < (bs.length : Int) by omega)]
  rw [List.drop_eq_nil_of_le (by rw [upTo_len]; omega), List.filter_nil, List.append_nil]
  exact Evt.pure _
 | d + 1, i, out, h0, h1, h2 => by
  have hlt : i < (bs.length : Int) := by omega
  rw [upTo_cut _ _ h0 hlt]
  refine Evt.succ ?_
  simp only [flow_Before.l0, if_pos hlt, flow_Next.f, Option.bind_some, wrap64_small (i + 1) (by omega) (by omega), if_pos (show out.length < 17592186044416 by omega)]
  refine Evt.bind (contains_ev _ _ (by have := next_len bs i; omega)) ?_
  by_cases e : n ∈ nextL bs i
  ·simp only [decide_eq_true e, if_pos]
   have := before_l0 a0 a1 bs n hl d (i + 1) (out ++ [i]) (by omega) (by omega) (by simp; omega)
   rw [List.filter_cons, if_pos (decide_eq_true e)]
   rw [List.append_assoc] at this
   exact this
  ·simp only [decide_eq_false e, if_neg Bool.false_ne_true]
   have := before_l0 a0 a1 bs n hl d (i + 1) out (by omega) (by omega) (by omega)
   rw [List.filter_cons, if_neg (by simp [e])]
   exact this
theorem before_ev (a0 a1 : Int) (bs : List S50) (n : Int) (hl : bs.length ≤ 1000000) : Evt (fun k => flow_Before.f k a0 a1 bs n) (predsL bs n) := before_l0 a0 a1 bs n hl bs.length 0 [] (by omega) (by omega) (by simp)
end Go.Proofs.Ytilopoegoddggaa.X
namespace Go.Proofs.Ytilopoegoddggaa.X
open Go.RowKit Go.Proofs.YtilopoegoddggaaW.PrintWords Go.Proofs.YtilopoegoddggaaW.PrintLast Go.Proofs.YtilopoegoddggaaW.PrintMore
open Go.Proofs.Ytilopoegoddggaa.G
set_option linter.all false
theorem rdOf_set (s : List Bool) (n m : Int) (b : Bool) (h0 : 0 ≤ n) (h1 : n < (s.length : Int)) (h2 : 0 ≤ m) : rdOf false (s.set n.toNat b) m = if m = n then b else rdOf false s m := by
 unfold rdOf
 rw [List.getD_eq_getElem?_getD, List.getD_eq_getElem?_getD, List.getElem?_set]
 by_cases e : m = n
 ·subst e; rw [if_pos rfl, if_pos rfl, if_pos (by omega)]; rfl
 ·rw [if_neg (by omega), if_neg e]
theorem rd_set (s : List Int) (n m b : Int) (h0 : 0 ≤ n) (h1 : n < (s.length : Int)) (h2 : 0 ≤ m) : rd (s.set n.toNat b) m = if m = n then b else rd s m := by
 unfold rd
 rw [List.getD_eq_getElem?_getD, List.getD_eq_getElem?_getD, List.getElem?_set]
 by_cases e : m = n
 ·subst e; rw [if_pos rfl, if_pos rfl, if_pos (by omega)]; rfl
 ·rw [if_neg (by omega), if_neg e]
theorem count_set : ∀ (s : List Bool) (j : Nat), s.getD j true = false → (s.set j true).count false + 1 = s.count false
 | [], j, h => by simp at h
 | b :: s, 0, h => by
  simp at h; subst h; simp
 | b :: s, j + 1, h => by
  have := count_set s j (by simpa using h)
  simp only [List.set_cons_succ, List.count_cons]
  omega
theorem count_unseen (s : List Bool) (n : Int) (h0 : 0 ≤ n) (h1 : n < (s.length : Int)) (h : rdOf false s n = false) : (s.set n.toNat true).count false + 1 = s.count false := by
 refine count_set s n.toNat ?_
 have hl : n.toNat < s.length := by omega
 unfold rdOf at h
 rw [List.getD_eq_getElem?_getD, List.getElem?_eq_getElem hl] at h ⊢
 exact h
theorem count_zero (s : List Bool) (n : Int) (h0 : 0 ≤ n) (h1 : n < (s.length : Int)) (h : s.count false = 0) : rdOf false s n = true := by
 cases hb : rdOf false s n with
 | true => rfl
 | false => have := count_unseen s n h0 h1 hb; omega
structure DF (bs : List S50) (root : Int → Prop) (seen seen' : List Bool) (ms : List Int) : Prop where
 len : seen'.length = bs.length
 sn : ∀ m : Int, 0 ≤ m → m < bs.length → (rdOf false seen' m = true ↔ rdOf false seen m = true ∨ m ∈ ms)
 new : ∀ m ∈ ms, (0 ≤ m ∧ m < bs.length) ∧ rdOf false seen m = false
 nd : ms.Nodup
 cl : ∀ m ∈ ms, ∀ b ∈ nextL bs m, rdOf false seen' b = true
 par : ∀ m ∈ ms, root m ∨ ∃ l1 l2 q, ms = l1 ++ m :: l2 ∧ q ∈ l2 ∧ m ∈ nextL bs q
 all : ∀ m, root m → rdOf false seen' m = true
 snd : ∀ P : Int → Prop, (∀ m, root m → P m) → (∀ a b, P a → b ∈ nextL bs a → P b) → ∀ m ∈ ms, P m
 cnt : ms.length + seen'.count false ≤ seen.count false
theorem DF.nil (bs : List S50) (seen : List Bool) (h : seen.length = bs.length) (root : Int → Prop) (hr : ∀ m, root m → rdOf false seen m = true) : DF bs root seen seen [] :=
 ⟨h, fun m _ _ => by simp, by simp, List.nodup_nil, by simp, by simp, hr, by simp, by simp⟩
theorem DF.app {bs : List S50} {r1 r2 r : Int → Prop} {s s1 s2 : List Bool} {m1 m2 : List Int} (h1 : DF bs r1 s s1 m1) (h2 : DF bs r2 s1 s2 m2) (hr : ∀ m, r m ↔ r1 m ∨ r2 m) (hv : ∀ m, r m → 0 ≤ m ∧ m < bs.length) : DF bs r s s2 (m1 ++ m2) := by
 have hv1 : ∀ m ∈ m1, ¬ m ∈ m2 := fun m a b => by
  obtain ⟨⟨v0, v1⟩, _⟩ := h1.new m a
  have hs := (h1.sn m v0 v1).2 (.inr a)
  rw [(h2.new m b).2] at hs
  cases hs
 refine ⟨h2.len, fun m a b => ?_, fun m hm => ?_, ?_, fun m hm b hb => ?_, fun m hm => ?_, fun m hm => ?_, fun P p1 p2 m hm => ?_, ?_⟩
 ·rw [h2.sn m a b, h1.sn m a b, List.mem_append, or_assoc]
 ·rcases List.mem_append.1 hm with hm | hm
  ·exact h1.new m hm
  ·obtain ⟨v, hn⟩ := h2.new m hm
   refine ⟨v, ?_⟩
   cases hb : rdOf false s m with
   | false => rfl
   | true => rw [(h1.sn m v.1 v.2).2 (.inl hb)] at hn; cases hn
 ·exact List.nodup_append.2 ⟨h1.nd, h2.nd, fun a ha b hb e => hv1 a ha (e ▸ hb)⟩
 ·rcases List.mem_append.1 hm with hm | hm
  ·have hv := (next_edges bs _ _ hb).2
   exact (h2.sn b hv.1 hv.2).2 (.inl (h1.cl m hm b hb))
  ·exact h2.cl m hm b hb
 ·rcases List.mem_append.1 hm with hm | hm
  ·rcases h1.par m hm with h | ⟨l1, l2, q, e, hq, hs⟩
   ·exact .inl ((hr m).2 (.inl h))
   ·exact .inr ⟨l1, l2 ++ m2, q, by rw [e]; simp, List.mem_append_left _ hq, hs⟩
  ·rcases h2.par m hm with h | ⟨l1, l2, q, e, hq, hs⟩
   ·exact .inl ((hr m).2 (.inr h))
   ·exact .inr ⟨m1 ++ l1, l2, q, by rw [e]; simp, hq, hs⟩
 ·rcases (hr m).1 hm with h | h
  ·have := hv m hm
   exact (h2.sn m this.1 this.2).2 (.inl (h1.all m h))
  ·exact h2.all m h
 ·rcases List.mem_append.1 hm with hm | hm
  ·exact h1.snd P (fun m h => p1 m ((hr m).2 (.inl h))) p2 m hm
  ·exact h2.snd P (fun m h => p1 m ((hr m).2 (.inr h))) p2 m hm
 ·have := h1.cnt
  have := h2.cnt
  simp only [List.length_append]
  omega
theorem DF.one {bs : List S50} {n : Int} {s s2 : List Bool} {ms : List Int} (hs : s.length = bs.length) (h0 : 0 ≤ n) (h1 : n < bs.length) (hn : rdOf false s n = false) (h : DF bs (· ∈ nextL bs n) (s.set n.toNat true) s2 ms) : DF bs (· = n) s s2 (ms ++ [n]) := by
 have hset : ∀ m : Int, 0 ≤ m → rdOf false (s.set n.toNat true) m = if m = n then true else rdOf false s m := fun m hm => rdOf_set s n m true h0 (by omega) hm
 have hnn : n ∉ ms := fun hm => by
  have := (h.new n hm).2
  rw [hset n h0, if_pos rfl] at this
  cases this
 refine ⟨h.len, fun m a b => ?_, fun m hm => ?_, ?_, fun m hm b hb => ?_, fun m hm => ?_, fun m hm => ?_, fun P p1 p2 m hm => ?_, ?_⟩
 ·rw [h.sn m a b, hset m a, List.mem_append, List.mem_singleton]
  by_cases e : m = n
  ·simp [e]
  ·simp [e]
 ·rcases List.mem_append.1 hm with hm | hm
  ·obtain ⟨v, hq⟩ := h.new m hm
   rw [hset m v.1, if_neg (fun e : m = n => hnn (e ▸ hm))] at hq
   exact ⟨v, hq⟩
  ·obtain rfl := List.mem_singleton.1 hm
   exact ⟨⟨h0, h1⟩, hn⟩
 ·exact List.nodup_append.2 ⟨h.nd, by simp, fun a ha b hb e => hnn ((List.mem_singleton.1 hb) ▸ e ▸ ha)⟩
 ·rcases List.mem_append.1 hm with hm | hm
  ·exact h.cl m hm b hb
  ·obtain rfl := List.mem_singleton.1 hm
   exact h.all b hb
 ·rcases List.mem_append.1 hm with hm | hm
  ·rcases h.par m hm with hq | ⟨l1, l2, q, e, hq, hs⟩
   ·obtain ⟨l1, l2, e⟩ := List.append_of_mem hm
    exact .inr ⟨l1, l2 ++ [n], n, by rw [e]; simp, by simp, hq⟩
   ·exact .inr ⟨l1, l2 ++ [n], q, by rw [e]; simp, by simp [hq], hs⟩
  ·exact .inl (List.mem_singleton.1 hm)
 ·subst hm
  exact (h.sn m h0 h1).2 (.inl (by rw [hset m h0, if_pos rfl]))
 ·rcases List.mem_append.1 hm with hm | hm
  ·exact h.snd P (fun b hb => p2 n b (p1 n rfl) hb) p2 m hm
  ·exact p1 m (List.mem_singleton.1 hm)
 ·have := h.cnt
  have := count_unseen s n h0 (by omega) hn
  simp only [List.length_append, List.length_cons, List.length_nil]
  omega
theorem fold_ok (bs : List S50) (c k : Nat) (ih : ∀ n seen left, seen.length = bs.length → 0 ≤ n → n < (bs.length : Int) → seen.count false ≤ c → left.length + seen.count false ≤ 1000000 → ∃ seen' ms, intoO bs k n seen left = some (seen', left ++ ms) ∧ DF bs (· = n) seen seen' ms ∧ (rdOf false seen n = false → ∃ t, ms = t ++ [n])) :
  ∀ (cs : List Int) (seen : List Bool) (left : List Int), (∀ x ∈ cs, 0 ≤ x ∧ x < (bs.length : Int)) → seen.length = bs.length → seen.count false ≤ c → left.length + seen.count false ≤ 1000000 → ∃ seen' ms, foldO (intoO bs k) cs seen left = some (seen', left ++ ms) ∧ DF bs (· ∈ cs) seen seen' ms
 | [], seen, left, _, hs, _, _ => ⟨seen, [], by rw [foldO, List.append_nil], DF.nil bs seen hs _ (by simp)⟩
 | x :: cs, seen, left, hv, hs, hc, hl => by
  obtain ⟨s1, m1, e1, d1, _⟩ := ih x seen left hs (hv x (List.mem_cons_self ..)).1 (hv x (List.mem_cons_self ..)).2 hc hl
  have c1 := d1.cnt
  obtain ⟨s2, m2, e2, d2⟩ := fold_ok bs c k ih cs s1 (left ++ m1) (fun y hy => hv y (List.mem_cons_of_mem _ hy)) d1.len (by omega) (by simp only [List.length_append]; omega)
  refine ⟨s2, m1 ++ m2, ?_, d1.app d2 (fun m => by simp) hv⟩
  rw [foldO, e1, Option.bind_some, e2, List.append_assoc]
theorem into_ok (bs : List S50) : ∀ (c k : Nat), c < k → ∀ n seen left, seen.length = bs.length → 0 ≤ n → n < (bs.length : Int) → seen.count false ≤ c → left.length + seen.count false ≤ 1000000 → ∃ seen' ms, intoO bs k n seen left = some (seen', left ++ ms) ∧ DF bs (· = n) seen seen' ms ∧ (rdOf false seen n = false → ∃ t, ms = t ++ [n]) := by
 intro c
 induction c with
 | zero =>
  intro k hk n seen left hs h0 h1 hc hl
  obtain ⟨j, rfl⟩ : ∃ j, k = j + 1 := ⟨k - 1, by omega⟩
  have hn := count_zero seen n h0 (by omega) (by omega)
  refine ⟨seen, [], ?_, DF.nil bs seen hs _ (fun m hm => by rw [hm]; exact hn), fun h => by simp [hn] at h⟩
  rw [intoO, if_pos ⟨h0, by omega⟩, if_pos hn, List.append_nil]
 | succ c ih =>
  intro k hk n seen left hs h0 h1 hc hl
  obtain ⟨j, rfl⟩ : ∃ j, k = j + 1 := ⟨k - 1, by omega⟩
  cases hn : rdOf false seen n with
  | true =>
   refine ⟨seen, [], ?_, DF.nil bs seen hs _ (fun m hm => by rw [hm]; exact hn), fun h => by simp [hn] at h⟩
   rw [intoO, if_pos ⟨h0, by omega⟩, if_pos hn, List.append_nil]
  | false =>
   have hcn := count_unseen seen n h0 (by omega) hn
   obtain ⟨s2, ms, e, d⟩ := fold_ok bs c j (ih j (by omega)) (nextL bs n) (seen.set n.toNat true) left (fun x hx => (next_edges bs _ _ hx).2) (by simp [hs]) (by omega) (by omega)
   refine ⟨s2, ms ++ [n], ?_, d.one hs h0 h1 hn, fun _ => ⟨ms, rfl⟩⟩
   have := d.cnt
   rw [intoO, if_pos ⟨h0, by omega⟩, if_neg (by simp [hn]), e, Option.bind_some]
   rw [if_pos (by simp only [List.length_append]; omega), List.append_assoc]
structure Ord (bs : List S50) (seen : List Bool) (ord : List Int) : Prop where
 len : seen.length = bs.length
 seen : ∀ m : Int, 0 ≤ m → m < bs.length → (rdOf false seen m = true ↔ Rch bs.length (nextL bs) (-1) m)
 mem : ∀ m : Int, m ∈ ord ↔ Rch bs.length (nextL bs) (-1) m
 nd : ord.Nodup
 head : 0 < bs.length → ∃ t, ord = 0 :: t
 cnt : ord.length ≤ bs.length
 par : ∀ m ∈ ord, m ≠ 0 → ∃ l1 l2 q, ord = l1 ++ m :: l2 ∧ q ∈ l1 ∧ m ∈ nextL bs q
theorem walk_ok (bs : List S50) (hl : bs.length ≤ 1000) : ∃ seen left, walkO bs (bs.length + 2) = some (seen, left) ∧ Ord bs seen left.reverse := by
 by_cases h0 : bs.length = 0
 ·refine ⟨[], [], by rw [walkO, if_pos h0], by simp [h0], fun m a b => by omega, fun m => ?_, by simp, fun h => by omega, by simp, by simp⟩
  simp only [List.reverse_nil, List.not_mem_nil, false_iff]
  intro h
  have := h.inV (next_edges bs)
  omega
 ·have hrep : (List.replicate bs.length false).count false = bs.length := by simp
  obtain ⟨seen, ms, e, d, ht⟩ := into_ok bs bs.length (bs.length + 2) (by omega) 0 (List.replicate bs.length false) [] (by simp) (by omega) (by omega) (by omega) (by simp; omega)
  have hf : ∀ m : Int, rdOf false (List.replicate bs.length false) m = false := by
   intro m
   unfold rdOf
   rw [List.getD_eq_getElem?_getD]
   by_cases h : m.toNat < bs.length
   ·rw [List.getElem?_replicate, if_pos h]; rfl
   ·rw [List.getElem?_replicate, if_neg h]; rfl
  have hsn : ∀ m : Int, 0 ≤ m → m < bs.length → (rdOf false seen m = true ↔ m ∈ ms) := fun m a b => by
   rw [d.sn m a b, hf m]; simp
  have hR : ∀ m : Int, m ∈ ms ↔ Rch bs.length (nextL bs) (-1) m := by
   intro m
   refine ⟨fun h => ?_, fun h => ?_⟩
   ·exact d.snd (fun m => Rch bs.length (nextL bs) (-1) m) (fun m e => e ▸ .zero (by omega) (by omega)) (fun a b ha hb => ha.next (next_edges bs) hb) m h
   ·induction h with
    | zero _ _ => exact (hsn 0 (by omega) (by omega)).1 (d.all 0 rfl)
    | step ha hs _ ih =>
     have hv := (next_edges bs _ _ hs).2
     exact (hsn _ hv.1 hv.2).1 (d.cl _ ih _ hs)
  refine ⟨seen, ms, by rw [walkO, if_neg h0, e, List.nil_append], d.len, fun m a b => (hsn m a b).trans (hR m), fun m => by rw [List.mem_reverse]; exact hR m, List.pairwise_reverse.2 (d.nd.imp fun h => h.symm), fun _ => ?_, (by have := d.cnt; rw [hrep] at this; simp only [List.length_reverse]; omega), fun m hm hm0 => ?_⟩
  ·obtain ⟨t, et⟩ := ht (hf 0)
   exact ⟨t.reverse, by rw [et]; simp⟩
  ·rcases d.par m (List.mem_reverse.1 hm) with h | ⟨l1, l2, q, e, hq, hs⟩
   ·exact absurd h hm0
   ·exact ⟨l2.reverse, l1.reverse, q, by rw [e]; simp, List.mem_reverse.2 hq, hs⟩
end Go.Proofs.Ytilopoegoddggaa.X
namespace Go.Proofs.Ytilopoegoddggaa.X
open Go.RowKit Go.Proofs.YtilopoegoddggaaW.PrintWords Go.Proofs.YtilopoegoddggaaW.PrintLast Go.Proofs.YtilopoegoddggaaW.PrintMore
open Go.Proofs.Ytilopoegoddggaa.G
set_option linter.all false
theorem place_ok : ∀ (l : List Int) (i : Int) (p : List Int), (∀ m ∈ l, 0 ≤ m ∧ m < (p.length : Int)) → l.Nodup →
  ∃ p', placeO l i p = some p' ∧ p'.length = p.length ∧ (∀ l1 l2 m, l = l1 ++ m :: l2 → rd p' m = i + l1.length) ∧ (∀ m, 0 ≤ m → m ∉ l → rd p' m = rd p m)
 | [], i, p, _, _ => ⟨p, rfl, rfl, fun l1 l2 m h => by simp at h, fun _ _ _ => rfl⟩
 | n :: l, i, p, hv, hn => by
  have hv0 := hv n (List.mem_cons_self ..)
  obtain ⟨hn1, hn2⟩ := List.nodup_cons.1 hn
  obtain ⟨p', e, hl, h1, h2⟩ := place_ok l (i + 1) (p.set n.toNat i) (fun m hm => by rw [List.length_set]; exact hv m (List.mem_cons_of_mem _ hm)) hn2
  refine ⟨p', by rw [placeO, if_pos (show inL p n from hv0), e], by rw [hl, List.length_set], fun l1 l2 m h => ?_, fun m hm hnm => ?_⟩
  ·cases l1 with
   | nil =>
    simp only [List.nil_append, List.cons.injEq] at h
    obtain ⟨rfl, rfl⟩ := h
    rw [h2 n hv0.1 hn1, rd_set p n n i hv0.1 hv0.2 hv0.1, if_pos rfl]
    simp
   | cons y l1 =>
    simp only [List.cons_append, List.cons.injEq] at h
    rw [h1 l1 l2 m h.2]
    simp only [List.length_cons]
    omega
  ·rw [h2 m hm (fun h => hnm (List.mem_cons_of_mem _ h)), rd_set p n m i hv0.1 hv0.2 hm, if_neg (fun e : m = n => hnm (e ▸ List.mem_cons_self ..))]
structure Pos (ord : List Int) (place : Int → Int) : Prop where
 at_ : ∀ l1 l2 m, ord = l1 ++ m :: l2 → place m = l1.length
theorem Pos.pl {bs : List S50} {seen : List Bool} {ord : List Int} {place : Int → Int} (O : Ord bs seen ord) (Q : Pos ord place) (h : 0 < bs.length) : Pl bs.length (nextL bs) place := by
 refine ⟨next_edges bs, ?_, fun n h => ?_, fun a b ha hb e => ?_, fun n h h0 => ?_⟩
 ·obtain ⟨t, e⟩ := O.head h
  have := Q.at_ [] t 0 (by rw [e]; rfl)
  simpa using this
 ·obtain ⟨l1, l2, e⟩ := List.append_of_mem ((O.mem n).2 h)
  rw [Q.at_ l1 l2 n e]; omega
 ·obtain ⟨l1, l2, ea⟩ := List.append_of_mem ((O.mem a).2 ha)
  obtain ⟨l3, l4, eb⟩ := List.append_of_mem ((O.mem b).2 hb)
  rw [Q.at_ l1 l2 a ea, Q.at_ l3 l4 b eb] at e
  have e' : l1.length = l3.length := by omega
  rw [ea] at eb
  have := (List.append_inj eb e').2
  simp at this
  exact this.1
 ·obtain ⟨l1, l2, q, e, hq, hs⟩ := O.par n ((O.mem n).2 h) h0
  refine ⟨q, (O.mem q).1 (by rw [e]; simp [hq]), hs, ?_⟩
  obtain ⟨l3, l4, e3⟩ := List.append_of_mem hq
  rw [Q.at_ l1 l2 n e, Q.at_ l3 (l4 ++ n :: l2) q (by rw [e, e3]; simp)]
  rw [e3]; simp only [List.length_append, List.length_cons]; omega
section
variable {bs : List S50} {over place : List Int}
abbrev RR (bs : List S50) (n : Int) : Prop := Rch bs.length (nextL bs) (-1) n
theorem RR.inL {l : List Int} {n : Int} (h : RR bs n) (hl : l.length = bs.length) : inL l n := by
 have := h.inV (next_edges bs)
 exact ⟨this.1, by omega⟩
theorem meet_ok (T : Tree bs.length (nextL bs) (rd place) (rd over)) (L : Pl bs.length (nextL bs) (rd place)) (ho : over.length = bs.length) (hp : place.length = bs.length) :
  ∀ (s : Nat) (a b : Int), (rd place a + rd place b).toNat ≤ s → RR bs a → RR bs b → 0 ≤ rd over a → 0 ≤ rd over b →
   ∃ r, Evt (fun k => meetO over place k 0 a b) r ∧ RR bs r ∧ 0 ≤ rd over r ∧ ∀ x, Anc (rd over) x r ↔ Anc (rd over) x a ∧ Anc (rd over) x b := by
 intro s
 induction s using Nat.strongRecOn with
 | ind s ih =>
 have s2 : ∀ (j : Nat) (a b : Int), (rd place b).toNat ≤ j → (rd place a + rd place b).toNat ≤ s → RR bs a → RR bs b → 0 ≤ rd over a → 0 ≤ rd over b → ((rd place a + rd place b).toNat < s ∨ rd place a < rd place b) →
   ∃ r, Evt (fun k => meetO over place k 2 a b) r ∧ RR bs r ∧ 0 ≤ rd over r ∧ ∀ x, Anc (rd over) x r ↔ Anc (rd over) x a ∧ Anc (rd over) x b := by
  intro j
  induction j with
  | zero =>
   intro a b hj hs ra rb oa ob hlt
   have pa := L.pos a ra
   have pb := L.pos b rb
   obtain ⟨r, e, r1, r2, r3⟩ := ih (rd place a + rd place b).toNat (by omega) a b (Nat.le_refl _) ra rb oa ob
   refine ⟨r, Evt.succ ?_, r1, r2, r3⟩
   simp only [meetO, if_pos (And.intro (ra.inL hp) (rb.inL hp)), if_neg (show ¬ rd place b > rd place a by omega)]
   exact e
  | succ j ihj =>
   intro a b hj hs ra rb oa ob hlt
   have pa := L.pos a ra
   have pb := L.pos b rb
   by_cases h : rd place b > rd place a
   ·have hb0 : b ≠ 0 := fun e => by subst e; have := L.zero; omega
    obtain ⟨u1, u2, u3⟩ := T.up b rb hb0 ob
    have pu := L.pos _ u1
    obtain ⟨r, e, r1, r2, r3⟩ := ihj a (rd over b) (by omega) (by omega) ra u1 oa u2 (.inl (by omega))
    refine ⟨r, Evt.succ ?_, r1, r2, fun x => ?_⟩
    ·simp only [meetO, if_pos (And.intro (ra.inL hp) (rb.inL hp)), if_pos h, if_pos (rb.inL ho)]
     exact e
    ·rw [r3]
     refine and_congr_right fun hx => ⟨fun h2 => .up hb0 h2, fun h2 => ?_⟩
     refine (h2.cases_ne fun e => ?_).2
     subst e
     have := (T.anc hx ra oa).2.2
     omega
   ·obtain ⟨r, e, r1, r2, r3⟩ := ih (rd place a + rd place b).toNat (by omega) a b (Nat.le_refl _) ra rb oa ob
    refine ⟨r, Evt.succ ?_, r1, r2, r3⟩
    simp only [meetO, if_pos (And.intro (ra.inL hp) (rb.inL hp)), if_neg h]
    exact e
 have s1 : ∀ (j : Nat) (a b : Int), (rd place a).toNat ≤ j → (rd place a + rd place b).toNat ≤ s → RR bs a → RR bs b → 0 ≤ rd over a → 0 ≤ rd over b → ((rd place a + rd place b).toNat < s ∨ rd place a ≠ rd place b) →
   ∃ r, Evt (fun k => meetO over place k 1 a b) r ∧ RR bs r ∧ 0 ≤ rd over r ∧ ∀ x, Anc (rd over) x r ↔ Anc (rd over) x a ∧ Anc (rd over) x b := by
  intro j
  induction j with
  | zero =>
   intro a b hj hs ra rb oa ob hlt
   have pa := L.pos a ra
   have pb := L.pos b rb
   obtain ⟨r, e, r1, r2, r3⟩ := s2 _ a b (Nat.le_refl _) hs ra rb oa ob (by omega)
   refine ⟨r, Evt.succ ?_, r1, r2, r3⟩
   simp only [meetO, if_pos (And.intro (ra.inL hp) (rb.inL hp)), if_neg (show ¬ rd place a > rd place b by omega)]
   exact e
  | succ j ihj =>
   intro a b hj hs ra rb oa ob hlt
   have pa := L.pos a ra
   have pb := L.pos b rb
   by_cases h : rd place a > rd place b
   ·have ha0 : a ≠ 0 := fun e => by subst e; have := L.zero; omega
    obtain ⟨u1, u2, u3⟩ := T.up a ra ha0 oa
    have pu := L.pos _ u1
    obtain ⟨r, e, r1, r2, r3⟩ := ihj (rd over a) b (by omega) (by omega) u1 rb u2 ob (.inl (by omega))
    refine ⟨r, Evt.succ ?_, r1, r2, fun x => ?_⟩
    ·simp only [meetO, if_pos (And.intro (ra.inL hp) (rb.inL hp)), if_pos h, if_pos (ra.inL ho)]
     exact e
    ·rw [r3]
     refine and_congr_left fun hx => ⟨fun h2 => .up ha0 h2, fun h2 => ?_⟩
     refine (h2.cases_ne fun e => ?_).2
     subst e
     have := (T.anc hx rb ob).2.2
     omega
   ·obtain ⟨r, e, r1, r2, r3⟩ := s2 _ a b (Nat.le_refl _) hs ra rb oa ob (by omega)
    refine ⟨r, Evt.succ ?_, r1, r2, r3⟩
    simp only [meetO, if_pos (And.intro (ra.inL hp) (rb.inL hp)), if_neg h]
    exact e
 intro a b hs ra rb oa ob
 by_cases e : a = b
 ·subst e
  refine ⟨a, Evt.succ ?_, ra, oa, fun x => by simp⟩
  simp only [meetO, if_pos]
  exact Evt.pure _
 ·obtain ⟨r, h, r1, r2, r3⟩ := s1 _ a b (Nat.le_refl _) hs ra rb oa ob (.inr fun h => e (L.inj a b ra rb h))
  refine ⟨r, Evt.succ ?_, r1, r2, r3⟩
  simp only [meetO, if_neg e]
  exact h
def NB (bs : List S50) (o : Int → Int) (Q : Int → Prop) (b : Int) : Prop := (b < 0 ∧ ∀ p, Q p → ¬ 0 ≤ o p) ∨ (RR bs b ∧ 0 ≤ o b ∧ ∀ x, Anc o x b ↔ ∀ p, Q p → 0 ≤ o p → Anc o x p)
theorem best_l (T : Tree bs.length (nextL bs) (rd place) (rd over)) (L : Pl bs.length (nextL bs) (rd place)) (ho : over.length = bs.length) (hp : place.length = bs.length) :
  ∀ (ps : List Int) (Q : Int → Prop) (b : Int), (∀ p ∈ ps, 0 ≤ p ∧ p < (bs.length : Int)) → NB bs (rd over) Q b → ∃ r, Evt (fun k => bestO over place k ps b) r ∧ NB bs (rd over) (fun p => Q p ∨ p ∈ ps) r
 | [], Q, b, _, h => ⟨b, Evt.pure b, by simpa using h⟩
 | p :: ps, Q, b, hv, h => by
  have hv0 := hv p (List.mem_cons_self ..)
  have hin : inL over p := ⟨hv0.1, by omega⟩
  have key : ∀ b', NB bs (rd over) (fun x => Q x ∨ x = p) b' → ∃ r, Evt (fun k => bestO over place k ps b') r ∧ NB bs (rd over) (fun x => Q x ∨ x ∈ p :: ps) r := fun b' h' => by
   obtain ⟨r, e, hr⟩ := best_l T L ho hp ps _ b' (fun x hx => hv x (List.mem_cons_of_mem _ hx)) h'
   refine ⟨r, e, ?_⟩
   have : (fun x => (Q x ∨ x = p) ∨ x ∈ ps) = fun x => Q x ∨ x ∈ p :: ps := by
    funext x; simp [or_assoc]
   rw [this] at hr
   exact hr
  by_cases hneg : rd over p < 0
  ·obtain ⟨r, e, hr⟩ := key b (by
    rcases h with ⟨h1, h2⟩ | ⟨h1, h2, h3⟩
    ·exact .inl ⟨h1, fun x hx => hx.elim (h2 x) (fun e => by rw [e]; omega)⟩
    ·refine .inr ⟨h1, h2, fun x => (h3 x).trans ⟨fun h y hy ho => hy.elim (fun hy => h y hy ho) (fun e => by rw [e] at ho; omega), fun h y hy ho => h y (.inl hy) ho⟩⟩)
   refine ⟨r, ?_, hr⟩
   simp only [bestO, if_pos hin, if_pos hneg]
   exact e
  ·have rp : RR bs p := by
    by_cases hR : RR bs p
    ·exact hR
    ·have := T.neg p hv0.1 hv0.2 hR; omega
   by_cases hb : b < 0
   ·obtain ⟨r, e, hr⟩ := key p (by
     rcases h with ⟨h1, h2⟩ | ⟨h1, h2, h3⟩
     ·refine .inr ⟨rp, by omega, fun x => ⟨fun h y hy ho => hy.elim (fun hy => absurd ho (h2 y hy)) (fun e => e ▸ h), fun h => h p (.inr rfl) (by omega)⟩⟩
     ·have := h1.inV (next_edges bs); omega)
    refine ⟨r, ?_, hr⟩
    simp only [bestO, if_pos hin, if_neg hneg, if_pos hb]
    exact e
   ·rcases h with ⟨h1, h2⟩ | ⟨h1, h2, h3⟩
    ·exact absurd h1 hb
    ·obtain ⟨m, em, m1, m2, m3⟩ := meet_ok T L ho hp _ p b (Nat.le_refl _) rp h1 (by omega) h2
     obtain ⟨r, e, hr⟩ := key m (.inr ⟨m1, m2, fun x => (m3 x).trans ⟨fun h y hy ho => hy.elim (fun hy => (h3 x).1 h.2 y hy ho) (fun e => e ▸ h.1), fun h => ⟨h p (.inr rfl) (by omega), (h3 x).2 fun y hy ho => h y (.inl hy) ho⟩⟩⟩)
     refine ⟨r, ?_, hr⟩
     simp only [bestO, if_pos hin, if_neg hneg, if_neg hb]
     exact Evt.bind em e
end
end Go.Proofs.Ytilopoegoddggaa.X
namespace Go.Proofs.Ytilopoegoddggaa.X
open Go.RowKit Go.Proofs.YtilopoegoddggaaW.PrintWords Go.Proofs.YtilopoegoddggaaW.PrintLast Go.Proofs.YtilopoegoddggaaW.PrintMore
open Go.Proofs.Ytilopoegoddggaa.G
set_option linter.all false
theorem sum_le (f g : Int → Nat) : ∀ l : List Int, (∀ x ∈ l, f x ≤ g x) → (l.map f).sum ≤ (l.map g).sum
 | [], _ => Nat.le_refl _
 | x :: l, h => by
  have h1 := h x (List.mem_cons_self ..)
  have h2 := sum_le f g l fun y hy => h y (List.mem_cons_of_mem _ hy)
  simp only [List.map_cons, List.sum_cons]; omega
theorem sum_lt (f g : Int → Nat) : ∀ (l : List Int) (n : Int), (∀ x ∈ l, f x ≤ g x) → n ∈ l → f n < g n → (l.map f).sum < (l.map g).sum
 | x :: l, n, h, hn, hlt => by
  have h1 := h x (List.mem_cons_self ..)
  have h2 := sum_le f g l fun y hy => h y (List.mem_cons_of_mem _ hy)
  simp only [List.map_cons, List.sum_cons]
  rcases List.mem_cons.1 hn with rfl | hn
  ·omega
  ·have := sum_lt f g l n (fun y hy => h y (List.mem_cons_of_mem _ hy)) hn hlt
   omega
theorem rd_upd (over : List Int) (n r : Int) (h0 : 0 < n) (h1 : n < (over.length : Int)) : rd (over.set n.toNat r) = upd (rd over) n r := by
 funext x
 unfold upd rd
 rw [List.getD_eq_getElem?_getD, List.getD_eq_getElem?_getD, List.getElem?_set]
 by_cases e : x = n
 ·subst e; rw [if_pos rfl, if_pos rfl, if_pos (by omega)]; rfl
 ·rw [if_neg (by omega), if_neg e]
def Sum (ord place over : List Int) : Nat := (ord.map fun n => (rd place (rd over n)).toNat).sum
section
variable {bs : List S50} {ord place : List Int} {seen : List Bool}
theorem best_ok {over : List Int} {n : Int} {fin : Bool} (I : Inv bs.length (nextL bs) (rd place) (rd over) (rd place n) fin) (L : Pl bs.length (nextL bs) (rd place)) (ho : over.length = bs.length) (hp : place.length = bs.length) (hn : RR bs n) (h0 : n ≠ 0) :
  ∃ r, Evt (fun k => bestO over place k (predsL bs n) (-1)) r ∧ Best bs.length (nextL bs) (rd over) n r := by
 obtain ⟨r, e, h⟩ := best_l I.toTree L ho hp (predsL bs n) (fun _ => False) (-1) (fun p hm => (next_edges bs _ _ (mem_preds.1 hm)).1) (.inl ⟨by omega, fun _ h => h.elim⟩)
 refine ⟨r, e, ?_⟩
 obtain ⟨q, q1, q2, q3⟩ := L.pred n hn h0
 have hq := I.P q q1 (.inl q3)
 rcases h with ⟨h1, h2⟩ | ⟨h1, h2, h3⟩
 ·exact absurd hq (h2 q (.inr (mem_preds.2 q2)))
 ·exact ⟨h1, h2, fun x => (h3 x).trans ⟨fun h p a _ c => h p (.inr (mem_preds.2 a)) c, fun h p a c => by
   have hs := mem_preds.1 (a.resolve_left id)
   refine h p hs ?_ c
   by_cases hR : RR bs p
   ·exact hR
   ·have hv := (next_edges bs _ _ hs).1
    have := I.neg p hv.1 hv.2 hR
    omega⟩⟩
theorem row_ok (a0 a1 : Int) (hl : bs.length ≤ 1000) (O : Ord bs seen ord) (Q : Pos ord (rd place)) (L : Pl bs.length (nextL bs) (rd place)) (hp : place.length = bs.length) (fin : Bool) :
  ∀ (ns pre over : List Int) (more : Bool), ord = 0 :: pre ++ ns → over.length = bs.length → Inv bs.length (nextL bs) (rd place) (rd over) (pre.length + 1 : Nat) fin →
   ∃ over' more', Evt (fun k => rowO a0 a1 bs place k ns over more) (over', more') ∧ over'.length = bs.length ∧ Inv bs.length (nextL bs) (rd place) (rd over') ord.length fin ∧
    (more' = false → more = false ∧ over' = over ∧ ∀ n ∈ ns, Best bs.length (nextL bs) (rd over) n (rd over n)) ∧ (fin = true → Sum ord place over' ≤ Sum ord place over ∧ (more' = true → more = true ∨ Sum ord place over' < Sum ord place over))
 | [], pre, over, more, e, ho, I => by
  refine ⟨over, more, Evt.pure _, ho, ?_, fun h => ⟨h, rfl, by simp⟩, fun _ => ⟨Nat.le_refl _, .inl⟩⟩
  rw [e, List.append_nil, List.length_cons]
  exact I
 | n :: ns, pre, over, more, e, ho, I => by
  have hmem : n ∈ ord := by rw [e]; simp
  have hn : RR bs n := (O.mem n).1 hmem
  have hv := hn.inV (next_edges bs)
  have hpl : rd place n = (pre.length + 1 : Nat) := by
   have := Q.at_ (0 :: pre) ns n e
   simpa using this
  have h0 : n ≠ 0 := fun h => by rw [h, L.zero] at hpl; omega
  rw [← hpl] at I
  obtain ⟨r, er, B⟩ := best_ok I L ho hp hn h0
  have hin : inL over n := ⟨hv.1, by omega⟩
  have hfun := rd_upd over n r (by omega) hin.2
  have I' := I.step L hn h0 B
  rw [← hfun] at I'
  obtain ⟨over', more', e', h1, h2, h3, h4⟩ := row_ok a0 a1 hl O Q L hp fin ns (pre ++ [n]) (over.set n.toNat r) (more || (rd over n != r)) (by rw [e]; simp) (by rw [List.length_set]; exact ho) (by
   rw [hpl] at I'
   have : ((pre ++ [n]).length + 1 : Nat) = ((pre.length + 1 : Nat) : Int) + 1 := by simp
   rw [this]; exact I')
  refine ⟨over', more', ?_, h1, h2, fun hm => ?_, fun hf => ?_⟩
  ·simp only [rowO]
   refine Evt.bind (before_ev a0 a1 bs n (by omega)) (Evt.bind er ?_)
   simp only [if_pos hin]
   exact e'
  ·obtain ⟨m1, m2, m3⟩ := h3 hm
   obtain ⟨m4, m5⟩ : more = false ∧ rd over n = r := by simpa using m1
   have hset : over.set n.toNat r = over := by
    rw [← m5]
    unfold rd
    rw [List.getD_eq_getElem?_getD, List.getElem?_eq_getElem (show n.toNat < over.length by omega)]
    simp
   rw [hset] at m2 m3
   refine ⟨m4, m2, fun x hx => ?_⟩
   rcases List.mem_cons.1 hx with rfl | hx
   ·rw [m5]; exact B
   ·exact m3 x hx
  ·obtain ⟨s1, s2⟩ := h4 hf
   subst hf
   have hon := I.P n hn (.inr rfl)
   have hK : Anc (rd over) r (rd over n) := I.K n hn h0 hon r ((B.all r).1 (.refl _))
   obtain ⟨u1, u2, u3⟩ := I.up n hn h0 hon
   have hle := (I.toTree.anc hK u1 u2).2.2
   have hpr := L.pos r B.rch
   have hpo := L.pos _ u1
   have hpt : ∀ x ∈ ord, (rd place (rd (over.set n.toNat r) x)).toNat ≤ (rd place (rd over x)).toNat := by
    intro x hx
    rw [hfun]
    unfold upd
    split
    ·rename_i hxn
     subst hxn
     omega
    ·exact Nat.le_refl _
   have hsum : Sum ord place (over.set n.toNat r) ≤ Sum ord place over := sum_le _ _ ord hpt
   refine ⟨Nat.le_trans s1 hsum, fun hm => ?_⟩
   rcases s2 hm with h | h
   ·rw [Bool.or_eq_true] at h
    rcases h with h | h
    ·exact .inl h
    ·refine .inr (Nat.lt_of_le_of_lt s1 (sum_lt _ _ ord n hpt hmem ?_))
     have hne : r ≠ rd over n := fun e => by simp [e] at h
     have := I.toTree.lt hK hne u1 u2
     rw [hfun, upd_self]
     omega
   ·exact .inr (by omega)
def Fin (bs : List S50) (place over : List Int) : Prop := over.length = bs.length ∧ Inv bs.length (nextL bs) (rd place) (rd over) 1 true ∧ Fix bs.length (nextL bs) (rd over)
theorem pos_lt (O : Ord bs seen ord) (Q : Pos ord (rd place)) {m : Int} (h : RR bs m) : rd place m < ord.length := by
 obtain ⟨l1, l2, e⟩ := List.append_of_mem ((O.mem m).2 h)
 rw [Q.at_ l1 l2 m e, e]
 simp; omega
theorem round_ok (a0 a1 : Int) (hl : bs.length ≤ 1000) (O : Ord bs seen ord) (Q : Pos ord (rd place)) (L : Pl bs.length (nextL bs) (rd place)) (hp : place.length = bs.length) {t : List Int} (ht : ord = 0 :: t) (fin : Bool) (over : List Int) (ho : over.length = bs.length) (I : Inv bs.length (nextL bs) (rd place) (rd over) 1 fin) :
  ∃ over' more', Evt (fun k => rowO a0 a1 bs place k t over false) (over', more') ∧ over'.length = bs.length ∧ Inv bs.length (nextL bs) (rd place) (rd over') 1 true ∧ (more' = false → Fin bs place over') ∧ (more' = true → fin = true → Sum ord place over' < Sum ord place over) := by
 obtain ⟨over', more', e, h1, h2, h3, h4⟩ := row_ok a0 a1 hl O Q L hp fin t [] over false (by rw [ht]; rfl) ho (by simpa using I)
 have hj : ∀ m, RR bs m → rd place m < ord.length := fun m h => pos_lt O Q h
 have h2' := h2.again L hj
 refine ⟨over', more', e, h1, h2', fun hm => ⟨h1, h2', fun n hn h0 => ?_⟩, fun hm hf => ?_⟩
 ·obtain ⟨_, m2, m3⟩ := h3 hm
  subst m2
  refine m3 n ?_
  have := (O.mem n).2 hn
  rw [ht] at this
  exact (List.mem_cons.1 this).resolve_left h0
 ·rcases (h4 hf).2 hm with h | h
  ·cases h
  ·exact h
theorem rounds_ok (a0 a1 : Int) (hl : bs.length ≤ 1000) (O : Ord bs seen ord) (Q : Pos ord (rd place)) (L : Pl bs.length (nextL bs) (rd place)) (hp : place.length = bs.length) {t : List Int} (ht : ord = 0 :: t) :
  ∀ (s : Nat) (over : List Int), over.length = bs.length → Inv bs.length (nextL bs) (rd place) (rd over) 1 true → Sum ord place over ≤ s → ∃ over', (∃ K, ∀ k j, K ≤ k → K ≤ j → roundsO a0 a1 bs place k t j over = some over') ∧ Fin bs place over' := by
 intro s
 induction s with
 | zero =>
  intro over ho I hs
  obtain ⟨over', more', ⟨K, e⟩, h1, h2, h3, h4⟩ := round_ok a0 a1 hl O Q L hp ht true over ho I
  replace e : ∀ k, K ≤ k → rowO a0 a1 bs place k t over false = some (over', more') := e
  cases more' with
  | true => have := h4 rfl rfl; omega
  | false =>
   refine ⟨over', ⟨K + 1, fun k j hk hj => ?_⟩, h3 rfl⟩
   obtain ⟨j', rfl⟩ : ∃ j', j = j' + 1 := ⟨j - 1, by omega⟩
   rw [roundsO, e k (by omega), Option.bind_some, if_neg (by simp)]
 | succ s ih =>
  intro over ho I hs
  obtain ⟨over', more', ⟨K, e⟩, h1, h2, h3, h4⟩ := round_ok a0 a1 hl O Q L hp ht true over ho I
  replace e : ∀ k, K ≤ k → rowO a0 a1 bs place k t over false = some (over', more') := e
  cases more' with
  | true =>
   obtain ⟨r, ⟨K2, er⟩, hr⟩ := ih over' h1 h2 (by have := h4 rfl rfl; omega)
   refine ⟨r, ⟨K + K2 + 1, fun k j hk hj => ?_⟩, hr⟩
   obtain ⟨j', rfl⟩ : ∃ j', j = j' + 1 := ⟨j - 1, by omega⟩
   rw [roundsO, e k (by omega), Option.bind_some, if_pos (by simp)]
   exact er k j' (by omega) (by omega)
  | false =>
   refine ⟨over', ⟨K + 1, fun k j hk hj => ?_⟩, h3 rfl⟩
   obtain ⟨j', rfl⟩ : ∃ j', j = j' + 1 := ⟨j - 1, by omega⟩
   rw [roundsO, e k (by omega), Option.bind_some, if_neg (by simp)]
theorem first_ok (a0 a1 : Int) (hl : bs.length ≤ 1000) (O : Ord bs seen ord) (Q : Pos ord (rd place)) (L : Pl bs.length (nextL bs) (rd place)) (hp : place.length = bs.length) {t : List Int} (ht : ord = 0 :: t)
  (over : List Int) (ho : over.length = bs.length) (I : Inv bs.length (nextL bs) (rd place) (rd over) 1 false) : ∃ over', (∃ K, ∀ k j, K ≤ k → K ≤ j → roundsO a0 a1 bs place k t j over = some over') ∧ Fin bs place over' := by
 obtain ⟨over', more', ⟨K, e⟩, h1, h2, h3, h4⟩ := round_ok a0 a1 hl O Q L hp ht false over ho I
 replace e : ∀ k, K ≤ k → rowO a0 a1 bs place k t over false = some (over', more') := e
 cases more' with
 | true =>
  obtain ⟨r, ⟨K2, er⟩, hr⟩ := rounds_ok a0 a1 hl O Q L hp ht _ over' h1 h2 (Nat.le_refl _)
  refine ⟨r, ⟨K + K2 + 1, fun k j hk hj => ?_⟩, hr⟩
  obtain ⟨j', rfl⟩ : ∃ j', j = j' + 1 := ⟨j - 1, by omega⟩
  rw [roundsO, e k (by omega), Option.bind_some, if_pos (by simp)]
  exact er k j' (by omega) (by omega)
 | false =>
  refine ⟨over', ⟨K + 1, fun k j hk hj => ?_⟩, h3 rfl⟩
  obtain ⟨j', rfl⟩ : ∃ j', j = j' + 1 := ⟨j - 1, by omega⟩
  rw [roundsO, e k (by omega), Option.bind_some, if_neg (by simp)]
end
theorem meetO_mono (over place : List Int) : ∀ k m a b, LeO (meetO over place k m a b) (meetO over place (k + 1) m a b)
 | 0, _, _, _ => LeO.none _
 | k + 1, 0, a, b => by
  rw [meetO, meetO]
  exact LeO.ite (LeO.refl _) (meetO_mono over place k 1 a b)
 | k + 1, 1, a, b => by
  rw [meetO, meetO]
  exact LeO.ite (LeO.ite (LeO.ite (meetO_mono over place k 1 _ _) (LeO.refl _)) (meetO_mono over place k 2 a b)) (LeO.refl _)
 | k + 1, n + 2, a, b => by
  rw [meetO, meetO]
  exact LeO.ite (LeO.ite (LeO.ite (meetO_mono over place k 2 _ _) (LeO.refl _)) (meetO_mono over place k 0 a b)) (LeO.refl _)
theorem bestO_mono (over place : List Int) (k : Nat) : ∀ ps b, LeO (bestO over place k ps b) (bestO over place (k + 1) ps b)
 | [], _ => LeO.refl _
 | p :: ps, b => by
  rw [bestO, bestO]
  exact LeO.ite (LeO.ite (bestO_mono over place k ps b) (LeO.ite (bestO_mono over place k ps p) (LeO.bind (meetO_mono over place k 0 p b) fun m => bestO_mono over place k ps m))) (LeO.refl _)
theorem rowO_mono (a0 a1 : Int) (bs : List S50) (place : List Int) (k : Nat) : ∀ ns over more, LeO (rowO a0 a1 bs place k ns over more) (rowO a0 a1 bs place (k + 1) ns over more)
 | [], _, _ => LeO.refl _
 | n :: ns, over, more => by
  rw [rowO, rowO]
  exact LeO.bind (flow_Before.mono _ _ _ _ k) fun ps => LeO.bind (bestO_mono over place k ps _) fun b => LeO.ite (rowO_mono a0 a1 bs place k ns _ _) (LeO.refl _)
theorem roundsO_mono (a0 a1 : Int) (bs : List S50) (place : List Int) (k : Nat) (ns : List Int) : ∀ j over, LeO (roundsO a0 a1 bs place k ns j over) (roundsO a0 a1 bs place (k + 1) ns (j + 1) over)
 | 0, _ => LeO.none _
 | j + 1, over => by
  rw [roundsO, roundsO]
  exact LeO.bind (rowO_mono a0 a1 bs place k ns over false) fun q => LeO.ite (roundsO_mono a0 a1 bs place k ns j q.1) (LeO.refl _)
theorem grownO_mono (a0 a1 : Int) (bs : List S50) (k : Nat) : LeO (grownO a0 a1 bs k) (grownO a0 a1 bs (k + 1)) := by
 unfold grownO
 exact LeO.bind (LeO.refl _) fun order => LeO.bind (LeO.refl _) fun place => LeO.ite (LeO.refl _) (LeO.ite (LeO.bind (roundsO_mono a0 a1 bs place k _ k _) fun _ => LeO.refl _) (LeO.refl _))
theorem anyK_ev {α : Type} {g : Nat → Option α} {r : α} (h : Evt g r) (hm : ∀ k, LeO (g k) (g (k + 1))) : anyK g = some r := by
 refine anyK_eq h.ex fun k q hq => ?_
 obtain ⟨K, hK⟩ := h
 have h1 := more_rounds hm k (K - k) q hq
 by_cases hk : K ≤ k
 ·rw [hK k hk] at hq; exact (Option.some.inj hq).symm
 ·rw [hK (k + (K - k)) (by omega)] at h1
  exact (Option.some.inj h1).symm
end Go.Proofs.Ytilopoegoddggaa.X
namespace Go.Proofs.Ytilopoegoddggaa.X
open Go.RowKit Go.Proofs.YtilopoegoddggaaW.PrintWords Go.Proofs.YtilopoegoddggaaW.PrintLast Go.Proofs.YtilopoegoddggaaW.PrintMore
open Go.Proofs.Ytilopoegoddggaa.G
set_option linter.all false
abbrev DD (bs : List S50) (a b : Int) : Prop := Dom bs.length (nextL bs) a b
structure OverOk (bs : List S50) (r : List Int) (place o : Int → Int) : Prop where
 len : r.length = bs.length
 rd : ∀ m : Int, 0 ≤ m → m < bs.length → rd r m = if m = 0 then -1 else o m
 pl : Pl bs.length (nextL bs) place
 tree : Tree bs.length (nextL bs) place o
 done : ∀ m, RR bs m → 0 ≤ o m
 lt : ∀ m, RR bs m → place m < bs.length
 anc : ∀ x m, RR bs m → (Anc o x m ↔ DD bs x m)
theorem reached_ok (a0 a1 : Int) (bs : List S50) (hl : bs.length ≤ 1000) : ∃ seen, flow_Reached.f a0 a1 bs = some seen ∧ seen.length = bs.length ∧ ∀ m : Int, 0 ≤ m → m < bs.length → (rdOf false seen m = true ↔ RR bs m) := by
 obtain ⟨seen, left, e, O⟩ := walk_ok bs hl
 refine ⟨seen, ?_, O.len, O.seen⟩
 unfold flow_Reached.f
 rw [if_pos hl, e]; rfl
theorem over_ok (a0 a1 : Int) (bs : List S50) (hl : bs.length ≤ 1000) (h0 : 0 < bs.length) : ∃ r place o, dom_Over.f a0 a1 bs = some r ∧ OverOk bs r place o := by
 obtain ⟨seen, left, e, O⟩ := walk_ok bs hl
 obtain ⟨t, ht⟩ := O.head h0
 obtain ⟨p, ep, hp, h1, h2⟩ := place_ok left.reverse 0 (List.replicate bs.length 0) (fun m hm => by rw [List.length_replicate]; exact ((O.mem m).1 hm).inV (next_edges bs)) O.nd
 have Q : Pos left.reverse (rd p) := ⟨fun l1 l2 m h => by rw [h1 l1 l2 m h]; omega⟩
 have L := Q.pl O h0
 have hp' : p.length = bs.length := by rw [hp, List.length_replicate]
 have hst : rd ((List.replicate bs.length (-1 : Int)).set 0 0) = fun x => if x = 0 then 0 else rd ((List.replicate bs.length (-1 : Int)).set 0 0) x := by
  funext x
  split
  ·rename_i h
   subst h
   unfold rd
   rw [List.getD_eq_getElem?_getD, List.getElem?_set]
   simp [h0]
  ·rfl
 have hI : Inv bs.length (nextL bs) (rd p) (rd ((List.replicate bs.length (-1 : Int)).set 0 0)) 1 false := by
  have S := Inv.start L h0
  have hz : rd ((List.replicate bs.length (-1 : Int)).set 0 0) 0 = 0 := by
   unfold rd
   rw [List.getD_eq_getElem?_getD, List.getElem?_set]
   simp [h0]
  have hm : ∀ m : Int, 0 ≤ m → m < bs.length → m ≠ 0 → rd ((List.replicate bs.length (-1 : Int)).set 0 0) m = -1 := by
   intro m a b c
   unfold rd
   rw [List.getD_eq_getElem?_getD, List.getElem?_set, if_neg (by omega), List.getElem?_replicate, if_pos (by omega)]
   rfl
  have hR : ∀ m, RR bs m → m ≠ 0 → ¬ 0 ≤ rd ((List.replicate bs.length (-1 : Int)).set 0 0) m := fun m a b c => by
   have hv := a.inV (next_edges bs)
   rw [hm m hv.1 hv.2 b] at c
   omega
  refine { toTree := ⟨hz, fun n a b c => hm n a b (fun e => c (e ▸ .zero h0 (by omega))), fun n a b => ?_, fun n a b c => absurd c (hR n a b)⟩, P := fun m a b => ?_, U := fun m a b x h => ?_, K := fun m a b c => absurd c (hR m a b), M := fun m q a b c => absurd c (hR m a b) }
  ·by_cases hn : n = 0
   ·rw [hn, hz]; omega
   ·rw [hm n a b hn]; omega
  ·rcases b with b | b
   ·have : m = 0 := L.inj _ _ a (.zero h0 (by omega)) (by have := L.pos m a; have := L.zero; omega)
    rw [this, hz]; omega
   ·cases b
  ·by_cases e : m = 0
   ·subst e
    rw [h.at_zero]; exact .refl _
   ·exact absurd b (hR m a e)
 obtain ⟨over, ⟨K, hK⟩, F1, F2, F3⟩ := first_ok a0 a1 hl O Q L hp' ht _ (by simp) hI
 have hdone : ∀ m, RR bs m → 0 ≤ rd over m := fun m hm => F2.P m hm (.inr rfl)
 refine ⟨over.set 0 (-1), rd p, rd over, ?_, by rw [List.length_set]; exact F1, fun m a b => ?_, L, F2.toTree, hdone, fun m hm => (by have := pos_lt O Q hm; have := O.cnt; omega), fun x m hm => F2.dom L hdone F3 hm⟩
 ·unfold dom_Over.f
  rw [if_pos hl]
  refine anyK_ev ⟨K, fun k hk => ?_⟩ (grownO_mono a0 a1 bs)
  unfold grownO flow_Order.f
  rw [if_pos hl, e]
  simp only [Option.map_some, Option.bind_some]
  rw [ep, Option.bind_some, if_neg (by rw [ht]; simp), if_pos h0]
  have : left.reverse.drop 1 = t := by rw [ht]; rfl
  rw [this, hK k k hk hk, Option.bind_some, if_pos (by omega)]
 ·have := rd_set over 0 m (-1) (by omega) (by omega) a
  exact this
open Classical in
theorem is_l0 {bs : List S50} {r : List Int} {place o : Int → Int} (H : OverOk bs r place o) (a : Int) (ha : 0 ≤ a) : ∀ (j : Nat) (b : Int), (place b).toNat ≤ j → RR bs b → Evt (fun k => dom_Is.l0 k a b r) (decide (DD bs a b)) := by
 intro j
 induction j with
 | zero =>
  intro b hj hb
  have hz : b = 0 := H.pl.inj _ _ hb (.zero (by have := hb.inV (next_edges bs); omega) (by omega)) (by have := H.pl.pos b hb; have := H.pl.zero; omega)
  subst hz
  have hN : 0 < bs.length := by have := hb.inV (next_edges bs); omega
  by_cases e : 0 = a
  ·refine Evt.succ ?_
   simp only [dom_Is.l0, if_pos e]
   rw [decide_eq_true (show DD bs a 0 from e ▸ Dom.refl (next_edges bs) hb)]
   rw [show ((0 : Int) == a) = true by simp [e]]
   exact Evt.pure _
  ·have hr0 : rd r 0 = -1 := by rw [H.rd 0 (by omega) (by omega), if_pos rfl]
   refine Evt.succ ?_
   simp only [dom_Is.l0, if_neg e, if_pos (show (0 : Int) ≥ 0 by omega), if_pos (show (0 : Int) ≤ 0 by omega), if_pos (show (0 : Int) < (r.length : Int) by have := H.len; omega), hr0]
   refine Evt.succ ?_
   simp only [dom_Is.l0, if_neg (show ¬ (-1 : Int) = a by omega), if_neg (show ¬ (-1 : Int) ≥ 0 by omega)]
   rw [decide_eq_false (show ¬ DD bs a 0 from fun h => e h.at_zero.symm), show ((-1 : Int) == a) = false by simp; omega]
   exact Evt.pure _
 | succ j ih =>
  intro b hj hb
  have hv := hb.inV (next_edges bs)
  by_cases e : b = a
  ·refine Evt.succ ?_
   simp only [dom_Is.l0, if_pos e]
   rw [decide_eq_true (show DD bs a b from e ▸ Dom.refl (next_edges bs) hb)]
   rw [show (b == a) = true by simp [e]]
   exact Evt.pure _
  ·by_cases hz : b = 0
   ·subst hz
    have hr0 : rd r 0 = -1 := by rw [H.rd 0 (by omega) (by omega), if_pos rfl]
    refine Evt.succ ?_
    simp only [dom_Is.l0, if_neg e, if_pos (show (0 : Int) ≥ 0 by omega), if_pos (show (0 : Int) ≤ 0 by omega), if_pos (show (0 : Int) < (r.length : Int) by have := H.len; omega), hr0]
    refine Evt.succ ?_
    simp only [dom_Is.l0, if_neg (show ¬ (-1 : Int) = a by omega), if_neg (show ¬ (-1 : Int) ≥ 0 by omega)]
    rw [decide_eq_false (show ¬ DD bs a 0 from fun h => e h.at_zero.symm), show ((-1 : Int) == a) = false by simp; omega]
    exact Evt.pure _
   ·obtain ⟨u1, u2, u3⟩ := H.tree.up b hb hz (H.done b hb)
    have hpo := H.pl.pos _ u1
    refine Evt.succ ?_
    simp only [dom_Is.l0, if_neg e, if_pos (show b ≥ 0 by omega), if_pos (show 0 ≤ b by omega), if_pos (show b < (r.length : Int) by have := H.len; omega), H.rd b hv.1 hv.2, if_neg hz]
    rw [decide_eq_decide.2 (show DD bs a b ↔ DD bs a (o b) by
     rw [← H.anc a b hb, ← H.anc a (o b) u1]
     exact ⟨fun h => (h.cases_ne fun e' => e e'.symm).2, fun h => .up hz h⟩)]
    exact ih (o b) (by omega) u1
open Classical in
theorem is_ev (a0 a1 : Int) (bs : List S50) (hl : bs.length ≤ 1000) (a b : Int) : Evt (fun k => dom_Is.f k a0 a1 bs a b) (decide (DD bs a b)) := by
 have hoff : ¬ DD bs a b → Evt (fun k => dom_Is.j0 k a b true a0 a1 bs) (decide (DD bs a b)) := fun h => by
  refine Evt.succ ?_
  simp only [dom_Is.j0, if_pos]
  rw [decide_eq_false h]
  exact Evt.pure _
 unfold dom_Is.f
 by_cases h1 : a < 0
 ·simp only [if_pos h1]
  exact hoff fun h => by have := h.2.1; omega
 simp only [if_neg h1]
 by_cases h2 : a ≥ (bs.length : Int)
 ·simp only [if_pos h2]
  exact hoff fun h => by have := h.2.1; omega
 simp only [if_neg h2]
 by_cases h3 : b < 0
 ·simp only [if_pos h3]
  exact hoff fun h => by have := h.1.inV (next_edges bs); omega
 simp only [if_neg h3]
 by_cases h4 : b ≥ (bs.length : Int)
 ·simp only [if_pos h4]
  exact hoff fun h => by have := h.1.inV (next_edges bs); omega
 simp only [if_neg h4]
 obtain ⟨seen, e, hs, hr⟩ := reached_ok a0 a1 bs hl
 simp only [e, Option.bind_some, if_pos (show 0 ≤ b by omega), if_pos (show b < (seen.length : Int) by omega)]
 by_cases hb : RR bs b
 ·rw [(hr b (by omega) (by omega)).2 hb]
  obtain ⟨r, place, o, er, H⟩ := over_ok a0 a1 bs hl (by omega)
  refine Evt.succ ?_
  simp only [dom_Is.j0, Bool.not_true, if_neg Bool.false_ne_true, er, Option.bind_some]
  have := is_l0 H a (by omega) _ b (Nat.le_refl _) hb
  exact this
 ·have : rdOf false seen b = false := by
   cases h : rdOf false seen b with
   | false => rfl
   | true => exact absurd ((hr b (by omega) (by omega)).1 h) hb
  rw [this]
  exact hoff fun h => hb h.1
end Go.Proofs.Ytilopoegoddggaa.X
namespace Go.Proofs.Ytilopoegoddggaa.X
open Go.RowKit Go.Proofs.YtilopoegoddggaaW.PrintWords Go.Proofs.YtilopoegoddggaaW.PrintLast Go.Proofs.YtilopoegoddggaaW.PrintMore
attribute [local go_sem] max2_int min2_int max_two min_two max_three min_three max_four min_four
set_option linter.all false
noncomputable section
mutual
def davitref07_Without.j0 : Nat → Int → List Bool → Bool → Int → Int → List (S50) → Option (List Bool)
 | 0, _, _, _, _, _, _ => none
 | k + 1, x1, x5, x20, x169000, x169001, x169002 => if x20 = true then (some x5) else (if 0 < (x5.length : Int) then (davitref07_Without.l0 k x1 (x5.set (0 : Int).toNat true) true x169000 x169001 x169002) else (none))
def davitref07_Without.l0 : Nat → Int → List Bool → Bool → Int → Int → List (S50) → Option (List Bool)
 | 0, _, _, _, _, _, _ => none
 | k + 1, x1, x5, x6, x169000, x169001, x169002 => if x6 = true then (davitref07_Without.l1 k x1 x5 false 0 x169000 x169001 x169002) else (some x5)
def davitref07_Without.l1 : Nat → Int → List Bool → Bool → Int → Int → Int → List (S50) → Option (List Bool)
 | 0, _, _, _, _, _, _, _ => none
 | k + 1, x1, x5, x6, x7, x169000, x169001, x169002 => if x7 < (x5.length : Int) then ((davitref07_Next.f k x169000 x169001 x169002 x7).bind fun t173 => (davitref07_Without.l2 k x1 x5 x6 x7 t173 0 x169000 x169001 x169002)) else (davitref07_Without.l0 k x1 x5 x6 x169000 x169001 x169002)
def davitref07_Without.l2 : Nat → Int → List Bool → Bool → Int → List Int → Int → Int → Int → List (S50) → Option (List Bool)
 | 0, _, _, _, _, _, _, _, _, _ => none
 | k + 1, x1, x5, x6, x7, x8, x9, x169000, x169001, x169002 => if x9 < (x8.length : Int) then (if 0 ≤ x7 then (if x7 < (x5.length : Int) then (if rdOf false x5 x7 = true then (if 0 ≤ x9 then (if (rd x8 x9) = x1 then (davitref07_Without.l2 k x1 x5 x6 x7 x8 (wrap64 (x9 + 1)) x169000 x169001 x169002) else (if 0 ≤ (rd x8 x9) then (if (rd x8 x9) < (x5.length : Int) then (if (rdOf false x5 (rd x8 x9) = true) then (davitref07_Without.l2 k x1 x5 x6 x7 x8 (wrap64 (x9 + 1)) x169000 x169001 x169002) else (davitref07_Without.l2 k x1 (x5.set ((rd x8 x9) : Int).toNat true) true x7 x8 (wrap64 (x9 + 1)) x169000 x169001 x169002)) else (none)) else (none))) else (none)) else (davitref07_Without.l2 k x1 x5 x6 x7 x8 (wrap64 (x9 + 1)) x169000 x169001 x169002)) else (none)) else (none)) else (davitref07_Without.l1 k x1 x5 x6 (wrap64 (x7 + 1)) x169000 x169001 x169002)
end
def davitref07_Without.f (k : Nat) (a0_0 : Int) (a0_1 : Int) (l0_2 : List (S50)) (a1 : Int) : Option (List Bool) := if 0 ≤ (l0_2.length : Int) then (if ((l0_2.length : Int) : Int).toNat ≤ 281474976710656 then ((some (List.replicate ((l0_2.length : Int) : Int).toNat false : List Bool)).bind fun y169 => (if (y169.length : Int) = 0 then (davitref07_Without.j0 k a1 y169 true a0_0 a0_1 l0_2) else (davitref07_Without.j0 k a1 y169 (a1 == 0) a0_0 a0_1 l0_2))) else (none)) else (none)
theorem davitref07_Without.mono_l : ∀ k, (∀ y0 y1 y2 y3 y4 y5, LeO (davitref07_Without.j0 k y0 y1 y2 y3 y4 y5) (davitref07_Without.j0 (k + 1) y0 y1 y2 y3 y4 y5)) ∧ (∀ y0 y1 y2 y3 y4 y5, LeO (davitref07_Without.l0 k y0 y1 y2 y3 y4 y5) (davitref07_Without.l0 (k + 1) y0 y1 y2 y3 y4 y5)) ∧ (∀ y0 y1 y2 y3 y4 y5 y6, LeO (davitref07_Without.l1 k y0 y1 y2 y3 y4 y5 y6) (davitref07_Without.l1 (k + 1) y0 y1 y2 y3 y4 y5 y6)) ∧ (∀ y0 y1 y2 y3 y4 y5 y6 y7 y8, LeO (davitref07_Without.l2 k y0 y1 y2 y3 y4 y5 y6 y7 y8) (davitref07_Without.l2 (k + 1) y0 y1 y2 y3 y4 y5 y6 y7 y8))
 | 0 => ⟨fun _ _ _ _ _ _ r h => by simp [davitref07_Without.j0] at h, fun _ _ _ _ _ _ r h => by simp [davitref07_Without.l0] at h, fun _ _ _ _ _ _ _ r h => by simp [davitref07_Without.l1] at h, fun _ _ _ _ _ _ _ _ _ r h => by simp [davitref07_Without.l2] at h⟩
 | k + 1 => by
  obtain ⟨ih0, ih1, ih2, ih3⟩ := davitref07_Without.mono_l k
  refine ⟨?_, ?_, ?_, ?_⟩
  ·intro y0 y1 y2 y3 y4 y5
   unfold davitref07_Without.j0
   repeat' first
   | (with_reducible exact ih0 _ _ _ _ _ _)
   | (with_reducible exact ih1 _ _ _ _ _ _)
   | (with_reducible exact ih2 _ _ _ _ _ _ _)
   | (with_reducible exact ih3 _ _ _ _ _ _ _ _ _)
   | (with_reducible exact davitref07_Next.mono _ _ _ _ _)
   | (with_reducible exact LeO.refl _)
   | (with_reducible exact LeO.none _)
   | (with_reducible refine LeO.ite ?_ ?_)
   | (with_reducible refine LeO.bind ?_ (fun _ => ?_))
   | exact ih0 _ _ _ _ _ _
   | exact ih1 _ _ _ _ _ _
   | exact ih2 _ _ _ _ _ _ _
   | exact ih3 _ _ _ _ _ _ _ _ _
   | exact davitref07_Next.mono _ _ _ _ _
   | exact LeO.none _
   | refine LeO.ite ?_ ?_
   | refine LeO.bind ?_ (fun _ => ?_)
  ·intro y0 y1 y2 y3 y4 y5
   unfold davitref07_Without.l0
   repeat' first
   | (with_reducible exact ih0 _ _ _ _ _ _)
   | (with_reducible exact ih1 _ _ _ _ _ _)
   | (with_reducible exact ih2 _ _ _ _ _ _ _)
   | (with_reducible exact ih3 _ _ _ _ _ _ _ _ _)
   | (with_reducible exact davitref07_Next.mono _ _ _ _ _)
   | (with_reducible exact LeO.refl _)
   | (with_reducible exact LeO.none _)
   | (with_reducible refine LeO.ite ?_ ?_)
   | (with_reducible refine LeO.bind ?_ (fun _ => ?_))
   | exact ih0 _ _ _ _ _ _
   | exact ih1 _ _ _ _ _ _
   | exact ih2 _ _ _ _ _ _ _
   | exact ih3 _ _ _ _ _ _ _ _ _
   | exact davitref07_Next.mono _ _ _ _ _
   | exact LeO.none _
   | refine LeO.ite ?_ ?_
   | refine LeO.bind ?_ (fun _ => ?_)
  ·intro y0 y1 y2 y3 y4 y5 y6
   unfold davitref07_Without.l1
   repeat' first
   | (with_reducible exact ih0 _ _ _ _ _ _)
   | (with_reducible exact ih1 _ _ _ _ _ _)
   | (with_reducible exact ih2 _ _ _ _ _ _ _)
   | (with_reducible exact ih3 _ _ _ _ _ _ _ _ _)
   | (with_reducible exact davitref07_Next.mono _ _ _ _ _)
   | (with_reducible exact LeO.refl _)
   | (with_reducible exact LeO.none _)
   | (with_reducible refine LeO.ite ?_ ?_)
   | (with_reducible refine LeO.bind ?_ (fun _ => ?_))
   | exact ih0 _ _ _ _ _ _
   | exact ih1 _ _ _ _ _ _
   | exact ih2 _ _ _ _ _ _ _
   | exact ih3 _ _ _ _ _ _ _ _ _
   | exact davitref07_Next.mono _ _ _ _ _
   | exact LeO.none _
   | refine LeO.ite ?_ ?_
   | refine LeO.bind ?_ (fun _ => ?_)
  ·intro y0 y1 y2 y3 y4 y5 y6 y7 y8
   unfold davitref07_Without.l2
   repeat' first
   | (with_reducible exact ih0 _ _ _ _ _ _)
   | (with_reducible exact ih1 _ _ _ _ _ _)
   | (with_reducible exact ih2 _ _ _ _ _ _ _)
   | (with_reducible exact ih3 _ _ _ _ _ _ _ _ _)
   | (with_reducible exact davitref07_Next.mono _ _ _ _ _)
   | (with_reducible exact LeO.refl _)
   | (with_reducible exact LeO.none _)
   | (with_reducible refine LeO.ite ?_ ?_)
   | (with_reducible refine LeO.bind ?_ (fun _ => ?_))
   | exact ih0 _ _ _ _ _ _
   | exact ih1 _ _ _ _ _ _
   | exact ih2 _ _ _ _ _ _ _
   | exact ih3 _ _ _ _ _ _ _ _ _
   | exact davitref07_Next.mono _ _ _ _ _
   | exact LeO.none _
   | refine LeO.ite ?_ ?_
   | refine LeO.bind ?_ (fun _ => ?_)
theorem davitref07_Without.mono : ∀ a0 a1 a2 a3 k, LeO (davitref07_Without.f k a0 a1 a2 a3) (davitref07_Without.f (k + 1) a0 a1 a2 a3) := by
 intro a0 a1 a2 a3 k
 obtain ⟨ih0, ih1, ih2, ih3⟩ := davitref07_Without.mono_l k
 unfold davitref07_Without.f
 repeat' first
   | (with_reducible exact ih0 _ _ _ _ _ _)
   | (with_reducible exact ih1 _ _ _ _ _ _)
   | (with_reducible exact ih2 _ _ _ _ _ _ _)
   | (with_reducible exact ih3 _ _ _ _ _ _ _ _ _)
   | (with_reducible exact davitref07_Next.mono _ _ _ _ _)
   | (with_reducible exact LeO.refl _)
   | (with_reducible exact LeO.none _)
   | (with_reducible refine LeO.ite ?_ ?_)
   | (with_reducible refine LeO.bind ?_ (fun _ => ?_))
   | exact ih0 _ _ _ _ _ _
   | exact ih1 _ _ _ _ _ _
   | exact ih2 _ _ _ _ _ _ _
   | exact ih3 _ _ _ _ _ _ _ _ _
   | exact davitref07_Next.mono _ _ _ _ _
   | exact LeO.none _
   | refine LeO.ite ?_ ?_
   | refine LeO.bind ?_ (fun _ => ?_)
set_option maxHeartbeats 8000000 in
set_option maxRecDepth 100000 in
theorem davitref07_Without.calls (k : Nat) (a0_0 : Int) (a0_1 : Int) (A0_2 : Option Addr) (c0_2 : Nat) (l0_2 : List (S50)) (a1 : Int) (r : List Bool) (w : World) (hr0_2 : Kd.C k50 w A0_2 l0_2.length l0_2) (hc0_2 : l0_2.length ≤ c0_2) (h : davitref07_Without.f k a0_0 a0_1 l0_2 a1 = some r) :
  Calls Try.prog 30 #[.agg #[.int .i64 a0_0, .int .i64 a0_1, .slice A0_2 l0_2.length c0_2], .int .i64 a1] w fun e w' => ∃ v0_ : Value, e = .returned (v0_) ∧ Kd.R Kd.bool 4 w' w.heap.size (fun _ => True) v0_ r ∧ Below w.heap.size w w' := by
 have hu24 := Try.underlying24
 have HR0_2 := Aside0.mk hr0_2
 have HC0_2 := Aside0.mk hc0_2
 clear hr0_2 hc0_2
 have HB := Aside0.mk (Below.refl w.heap.size w)
 have H : (if 0 ≤ (l0_2.length : Int) then (if ((l0_2.length : Int) : Int).toNat ≤ 281474976710656 then ((some (List.replicate ((l0_2.length : Int) : Int).toNat false : List Bool)).bind fun y169 => (if (y169.length : Int) = 0 then (davitref07_Without.j0 k a1 y169 true a0_0 a0_1 l0_2) else (davitref07_Without.j0 k a1 y169 (a1 == 0) a0_0 a0_1 l0_2))) else (none)) else (none)) = some r := h
 clear h
 by_cases c3 : 0 ≤ (l0_2.length : Int)
 ·rw [if_pos c3] at H
  have c3b0 := eq_true c3
  have c3b1 : decide (0 ≤ (l0_2.length : Int)) = true := decide_eq_true c3
  clear c3
  by_cases c4 : ((l0_2.length : Int) : Int).toNat ≤ 281474976710656
  ·rw [if_pos c4] at H
   have c4b0 := eq_true c4
   have c4b1 : decide (((l0_2.length : Int) : Int).toNat ≤ 281474976710656) = true := decide_eq_true c4
   clear c4
   obtain ⟨y169, hy169⟩ : ∃ y_ : List Bool, y_ = (List.replicate ((l0_2.length : Int) : Int).toNat false) := ⟨_, rfl⟩
   replace H : (if (y169.length : Int) = 0 then (davitref07_Without.j0 k a1 y169 true a0_0 a0_1 l0_2) else (davitref07_Without.j0 k a1 y169 (a1 == 0) a0_0 a0_1 l0_2)) = some r := by first | (rw [hy169]; with_reducible exact H) | (have H2_ := (Option.bind_some _ _).symm.trans H; rw [hy169]; with_reducible exact H2_) | (have H2_ := (Option.bind_some _ _).symm.trans H; with_reducible exact H2_) | with_reducible exact H | (rw [hy169]; exact H) | exact H
   have Ny169 := Aside0.mk hy169
   clear hy169
   have HC5 := Aside0.mk H
   clear H
   go_enter Try.func30, Try.ntmps30
   go_upto_region 2 with (first | ((with_reducible refine gate_dst (N := 2) rfl ?_); refine box_event ?hg (N := 2) ?hd (cs := #[.int .i64 a0_0, .int .i64 a0_1, .slice A0_2 l0_2.length c0_2]) (t := 24) ?hr ?_; (case hd => rfl); (case hg => rfl); (case hr => first | (go_simp; done) | (go_simp; rfl)); intro gb168 hg w6 hbox hb; have n0_ := Aside0.mk (below_step (by repeat (first | (with_reducible first | exact HB.out | apply below_alloc | apply pw_below_drewN | apply below_drew1) | exact HB.out)) hb); have n1_ := Aside0.mk (hbox); have n2_ := Aside0.mk ((by rw [hg]; exact (below_size (by repeat (first | (with_reducible first | exact HB.out | apply below_alloc | apply pw_below_drewN | apply below_drew1) | exact HB.out))) : w.heap.size ≤ gb168)); have n3_ := Aside0.mk ((by rw [hg]; exact (below_size (by repeat (first | (with_reducible first | exact HB.out | apply below_alloc | apply pw_below_drewN | apply below_drew1) | exact HB.out))) : w.heap.size ≤ gb168)); clear HB; have HB := n0_; have BK168 := n1_; have GW168 := n2_; have GE168 := n3_; clear n0_ n1_ n2_ n3_; clear hb hbox hg; have hcz7_0 : w6.cell? ⟨gb168, 0, none⟩ = some (.int .i64 a0_0) := (blk_cell BK168.out 0).trans rfl; have hcz7_1 : w6.cell? ⟨gb168, 1, none⟩ = some (.int .i64 a0_1) := (blk_cell BK168.out 1).trans rfl; have hcz7_2 : w6.cell? ⟨gb168, 2, none⟩ = some (.slice A0_2 l0_2.length c0_2) := (blk_cell BK168.out 2).trans rfl; have hfz7_0 := blk_frozen BK168.out 0; have hfz7_1 := blk_frozen BK168.out 1; have hfz7_2 := blk_frozen BK168.out 2) | ((with_reducible refine gate_dst (N := 13) rfl ?_); refine Kd.R_make Kd.bool _ 4 rfl (N := 13) rfl 32 _ _ rfl (l0_2.length : Int) rfl rfl Try.underlying32 (.bool false) 1 info4 rfl (by decide) (by omega) false (ok := fun _ => True) (okp := fun _ => True) rfl (fun _ hk => hk) trivial (of_decide_eq_true (by first | (with_reducible assumption) | assumption)) (Nat.le_trans (Nat.mul_le_mul_right _ (of_decide_eq_true (by first | (with_reducible assumption) | assumption) : (l0_2.length : Int).toNat ≤ 281474976710656)) (by omega)) (Below.refl _ _) (Nat.le_refl _) ?_; intro v170 w8 ho9 hb hg_ hnew_; clear hg_ hnew_; (first | rw [← Ny169.out] at ho9 | (simp only [Int.reduceToNat] at ho9; rw [← Ny169.out] at ho9)); have n0_ := Aside0.mk (Kd.R_lower ho9 (below_size (by repeat (first | (with_reducible first | exact HB.out | apply below_alloc | apply pw_below_drewN | apply below_drew1 | refine below_set ?_ GE168.out) | exact HB.out)))); have n1_ := Aside0.mk (blk_below (g := gb168) (o := .cells #[.int .i64 a0_0, .int .i64 a0_1, .slice A0_2 l0_2.length c0_2] 24 (0, 0)) (by (with_reducible repeat (first | refine blk_drewN ?_ _ | refine blk_drew ?_ | refine blk_alloc ?_ _)); exact BK168.out) hb); have n2_ := Aside0.mk (below_step (by repeat (first | (with_reducible first | exact HB.out | apply below_alloc | apply pw_below_drewN | apply below_drew1 | refine below_set ?_ GE168.out) | exact HB.out)) hb); clear BK168; clear HB; have HO171 := n0_; have BK168 := n1_; have HB := n2_; clear n0_ n1_ n2_; clear hb ho9))
   (try simp only [Act.put, List.setIfInBounds_toArray, List.set_cons_zero, List.set_cons_succ])
   go_cut [20] (fun v20 wc => ∃ (kq : Nat) (x20_4 : Bool), v20 = .bool x20_4 ∧ Aside0 (davitref07_Without.j0 kq a1 y169 x20_4 a0_0 a0_1 l0_2 = some r) ∧ Aside0 (kq ≤ k) ∧ Aside0 (Kd.R Kd.bool 4 wc w.heap.size (fun _ => True) v170 y169) ∧ Aside0 (wc.heap[gb168]? = some (.cells #[.int .i64 a0_0, .int .i64 a0_1, (.slice A0_2 l0_2.length c0_2)] 24 (0, 0))) ∧ Aside0 (Below w.heap.size w wc))
   case first =>
    have H := HC5.out
    clear HC5
    by_cases c10 : (y169.length : Int) = 0
    ·rw [if_pos c10] at H
     have c10b0 : ((y169.length : Int) == 0) = true := beq_iff_eq.mpr c10
     have c10b1 : ((y169.length : Int) != 0) = false := bne_eq_false_iff_eq.mpr c10
     clear c10
     (first | rw [c10b0] | (simp only [i64_w, i32_w]; rw [c10b0]) | skip)
     have H' := Aside0.mk H
     clear H
     obtain ⟨Ao11, co11, eo11⟩ := Kd.R_slice HO171.out
     subst eo11
     go_wp2
     go_meet
     case rel => exact ⟨_, (true), (by first | rfl | (simp; done) | (simp [*]; done)), H', ⟨by first | omega | exact Nat.le_refl _⟩, ⟨by (with_reducible repeat (first | apply Kd.R_alloc | apply Kd.R_drewN | apply Kd.R_drew)); exact HO171.out⟩, ⟨by (with_reducible repeat (first | refine blk_drewN ?_ _ | refine blk_drew ?_ | refine blk_alloc ?_ _)); exact BK168.out⟩, ⟨by repeat (first | (with_reducible first | exact HB.out | apply below_alloc | apply pw_below_drewN | apply below_drew1 | refine below_set ?_ GE168.out) | exact HB.out)⟩⟩
    ·rw [if_neg c10] at H
     have c10b0 : ((y169.length : Int) == 0) = false := beq_eq_false_iff_ne.mpr c10
     have c10b1 : ((y169.length : Int) != 0) = true := bne_iff_ne.mpr c10
     have c10b2 : ¬ (y169 = []) := fun h_ => c10 (by rw [h_]; rfl)
     (first | rw [c10b0] | (simp only [i64_w, i32_w]; rw [c10b0]) | skip)
     have H' := Aside0.mk H
     clear H
     obtain ⟨Ao12, co12, eo12⟩ := Kd.R_slice HO171.out
     subst eo12
     go_wp2
     go_meet
     case rel => exact ⟨_, ((a1 == 0)), (by first | rfl | (simp; done) | (simp [*]; done)), H', ⟨by first | omega | exact Nat.le_refl _⟩, ⟨by (with_reducible repeat (first | apply Kd.R_alloc | apply Kd.R_drewN | apply Kd.R_drew)); exact HO171.out⟩, ⟨by (with_reducible repeat (first | refine blk_drewN ?_ _ | refine blk_drew ?_ | refine blk_alloc ?_ _)); exact BK168.out⟩, ⟨by repeat (first | (with_reducible first | exact HB.out | apply below_alloc | apply pw_below_drewN | apply below_drew1 | refine below_set ?_ GE168.out) | exact HB.out)⟩⟩
   case rest =>
    clear HC5
    try clear c1
    try clear p2
    try clear c3
    try clear c3b0
    try clear c3b1
    try clear c4
    try clear c4b0
    try clear c4b1
    try clear c10
    try clear c10b0
    try clear c10b1
    try clear c10b2
    try clear hcz7_0
    try clear hcz7_1
    try clear hcz7_2
    try clear hfz7_0
    try clear hfz7_1
    try clear hfz7_2
    obtain ⟨kq, x20_4, rfl, HA, HJ4, HO_5, BK168, HB⟩ := hcut
    cases kq with
    | zero => exact absurd HA.out (by simp [davitref07_Without.j0])
    | succ kj4 =>
     have H := HA.out
     clear HA
     simp only [davitref07_Without.j0] at H
     by_cases c13 : x20_4 = true
     ·subst c13
      have H1 : (some y169) = some r := by rw [if_pos rfl] at H; exact H
      clear H
      have H := H1
      clear H1
      obtain rfl := Option.some.inj H
      go_wp2
      go_ret
      exact ⟨_, by first | rfl | (simp [errW_none, errW_some] <;> rfl) | (simp [*, errW_none, errW_some] <;> rfl), by (with_reducible repeat (first | apply Kd.R_alloc | apply Kd.R_drewN | apply Kd.R_drew)); exact HO_5.out, by repeat (first | (with_reducible first | exact HB.out | apply below_alloc | apply pw_below_drewN | apply below_drew1 | refine below_set ?_ GE168.out) | exact HB.out)⟩
     ·replace c13 := Bool.eq_false_iff.mpr c13
      subst c13
      have H1 : (if 0 < (y169.length : Int) then (davitref07_Without.l0 kj4 a1 (y169.set (0 : Int).toNat true) true a0_0 a0_1 l0_2) else (none)) = some r := by rw [if_neg (show ¬ (false = true) by decide)] at H; exact H
      clear H
      have H := H1
      clear H1
      by_cases c14 : 0 < (y169.length : Int)
      ·rw [if_pos c14] at H
       have c14b0 : decide (0 < (y169.length : Int)) = true := decide_eq_true c14
       have c14b1 : decide (0 < y169.length) = true := decide_eq_true (by omega)
       clear c14
       obtain ⟨y172, hy172⟩ : ∃ y_ : List Bool, y_ = (y169.set (0 : Int).toNat true) := ⟨_, rfl⟩
       replace H : (davitref07_Without.l0 kj4 a1 y172 true a0_0 a0_1 l0_2) = some r := by first | (rw [hy172]; with_reducible exact H) | (have H2_ := (Option.bind_some _ _).symm.trans H; rw [hy172]; with_reducible exact H2_) | (have H2_ := (Option.bind_some _ _).symm.trans H; with_reducible exact H2_) | with_reducible exact H | (rw [hy172]; exact H) | exact H
       have Ny172 := Aside0.mk hy172
       clear hy172
       have H' := Aside0.mk H
       clear H
       have p15 : 0 ≤ (0 : Int) := (by omega)
       have q15 : (0 : Int) < ((y169.length : Int) : Int) := of_decide_eq_true (by first | (with_reducible assumption) | assumption)
       have qi15 : (0 < y169.length) = True := eq_true (by omega)
       obtain ⟨go15, co15, eo15, gb15, gl15, cl15, HG15⟩ := Kd.R_form HO_5.out (by omega)
       (first | cases eo15 | (injection eo15 with ea_ en_ ec_; (first | subst ea_ | (injection ea_ with ea_; subst ea_)); subst ec_; clear en_))
       have GB15 := Aside0.mk gb15
       have GG15 := Aside0.mk HG15
       clear gb15 gl15 HG15
       obtain ⟨hx15_0, hf15_0⟩ := Kd.R_celln false HO_5.out (0 : Int) p15 q15
       (try rw [show ((0 : Int)).toNat = 0 from rfl] at hx15_0)
       (try simp only [Nat.reduceMul, Nat.zero_mul, Nat.zero_add, Nat.reduceAdd] at hx15_0)
       (try rw [show ((0 : Int)).toNat = 0 from rfl] at hf15_0)
       (try simp only [Nat.reduceMul, Nat.zero_mul, Nat.zero_add, Nat.reduceAdd] at hf15_0)
       replace p15 := eq_true p15
       replace q15 := eq_true q15
       have HP16 := Kd.R_putg HO_5.out (0 : Int) true
       go_wp2_with (first | ((with_reducible refine gate_store (t := 4) (p := 23) rfl ?_); refine store_event (t := 4) (p := 23) (v := ?vo_w17) (w1 := (wc.setCell ⟨go15, (0 : Int).toNat, none⟩ (.bool true))) ?hg ?ho ?hn ?hr ?_; (case ho => rfl); (case hg => rfl); (case hn => rfl); (case hr => first | (go_simp; done) | (go_simp; rfl)); intro w17 hw; have hg : wc.grownBy w17 (some go15) := (by rw [hw]; exact HP16.2); have hp_ : Kd.R Kd.bool 4 w17 w.heap.size (fun _ => True) (.slice (some ⟨go15, 0, none⟩) y169.length co15) y172 := (by rw [hw, Ny172.out]; exact HP16.1); clear HP16; have n0_ := Aside0.mk (hp_); have n1_ := Aside0.mk (blk_grown (g := gb168) (o := .cells #[.int .i64 a0_0, .int .i64 a0_1, .slice A0_2 l0_2.length c0_2] 24 (0, 0)) (by (with_reducible repeat (first | refine blk_drewN ?_ _ | refine blk_drew ?_ | refine blk_alloc ?_ _)); exact BK168.out) hg (Kd.R_ne HO_5.out BK168.out (by decide))); have n2_ := Aside0.mk ((by rw [hw]; exact below_set (HB.out) GB15.out : Below w.heap.size w w17)); clear HO_5; clear BK168; clear HB; have HO_5 := n0_; have BK168 := n1_; have HB := n2_; clear n0_ n1_ n2_; clear hg hw hp_))
       go_loopg [6] kj4 (fun kq v6 w' => ∃ (x5_2 : List Bool) (x6_2 : Bool), v6 = .bool x6_2 ∧ Aside0 (davitref07_Without.l0 kq a1 x5_2 x6_2 a0_0 a0_1 l0_2 = some r) ∧ Aside0 (kq ≤ kj4) ∧ Aside0 (Kd.R Kd.bool 4 w' w.heap.size (fun _ => True) (.slice (some ⟨go15, 0, none⟩) y169.length co15) x5_2) ∧ Aside0 (w'.heap[gb168]? = some (.cells #[.int .i64 a0_0, .int .i64 a0_1, (.slice A0_2 l0_2.length c0_2)] 24 (0, 0))) ∧ Aside0 (Below w.heap.size w w'))
       case atStart => exact ⟨(y172), (true), (by first | rfl | (simp; done) | (simp [*]; done)), H', ⟨Nat.le_refl _⟩, ⟨by (with_reducible repeat (first | apply Kd.R_alloc | apply Kd.R_drewN | apply Kd.R_drew)); exact HO_5.out⟩, ⟨by (with_reducible repeat (first | refine blk_drewN ?_ _ | refine blk_drew ?_ | refine blk_alloc ?_ _)); exact BK168.out⟩, ⟨by repeat (first | (with_reducible first | exact HB.out | apply below_alloc | apply pw_below_drewN | apply below_drew1 | refine below_set ?_ GE168.out) | exact HB.out)⟩⟩
       case round =>
        clear H'
        try clear c1
        try clear p1
        try clear q1
        try clear hx1
        try clear qi1
        try clear p2
        try clear c3
        try clear c3b0
        try clear c3b1
        try clear c4
        try clear c4b0
        try clear c4b1
        try clear c10
        try clear c10b0
        try clear c10b1
        try clear c10b2
        try clear c13
        try clear c14
        try clear c14b0
        try clear c14b1
        try clear p15
        try clear q15
        try clear hx15
        try clear qi15
        try clear hf15
        try clear hcz7_0
        try clear hcz7_1
        try clear hcz7_2
        try clear hfz7_0
        try clear hfz7_1
        try clear hfz7_2
        try clear hx15_0
        try clear p15
        try clear p2
        try clear q15
        obtain ⟨x5_2, x6_2, rfl, HA, HK2, HO_5, BK168, HB⟩ := hrel
        have hl5_2 := (Kd.R_reads' HO_5.out).1
        rw [hl5_2] at HO_5
        (try simp only [hl5_2])
        (try simp only [hl5_2] at BK168)
        cases gk with
        | zero => exact absurd HA.out (by simp [davitref07_Without.l0])
        | succ k2 =>
         have H := HA.out
         clear HA
         simp only [davitref07_Without.l0] at H
         by_cases c18 : x6_2 = true
         ·subst c18
          have H1 : (davitref07_Without.l1 k2 a1 x5_2 false 0 a0_0 a0_1 l0_2) = some r := by rw [if_pos rfl] at H; exact H
          clear H
          have H := H1
          clear H1
          have H' := Aside0.mk H
          clear H
          go_wp2
          go_loopg [6, 7] k2 (fun kq v6 v7 w' => ∃ (x5_3 : List Bool) (x6_3 : Bool) (x7_3 : Int), v6 = .bool x6_3 ∧ v7 = .int .i64 x7_3 ∧ Aside0 (davitref07_Without.l1 kq a1 x5_3 x6_3 x7_3 a0_0 a0_1 l0_2 = some r) ∧ Aside0 (kq ≤ k2) ∧ Aside0 (Kd.R Kd.bool 4 w' w.heap.size (fun _ => True) (.slice (some ⟨go15, 0, none⟩) x5_2.length co15) x5_3) ∧ Aside0 (w'.heap[gb168]? = some (.cells #[.int .i64 a0_0, .int .i64 a0_1, (.slice A0_2 l0_2.length c0_2)] 24 (0, 0))) ∧ Aside0 (Below w.heap.size w w'))
          case atStart => exact ⟨(x5_2), (false), (0), (by first | rfl | (simp; done) | (simp [*]; done)), (by first | rfl | (simp; done) | (simp [*]; done)), H', ⟨Nat.le_refl _⟩, ⟨by (try simp only [hl5_2]); (with_reducible repeat (first | apply Kd.R_alloc | apply Kd.R_drewN | apply Kd.R_drew)); exact HO_5.out⟩, ⟨by (try simp only [hl5_2]); (with_reducible repeat (first | refine blk_drewN ?_ _ | refine blk_drew ?_ | refine blk_alloc ?_ _)); exact BK168.out⟩, ⟨by repeat (first | (with_reducible first | exact HB.out | apply below_alloc | apply pw_below_drewN | apply below_drew1 | refine below_set ?_ GE168.out) | exact HB.out)⟩⟩
          case round =>
           clear H'
           try clear c1
           try clear p1
           try clear q1
           try clear hx1
           try clear qi1
           try clear p2
           try clear c3
           try clear c3b0
           try clear c3b1
           try clear c4
           try clear c4b0
           try clear c4b1
           try clear c10
           try clear c10b0
           try clear c10b1
           try clear c10b2
           try clear c13
           try clear c14
           try clear c14b0
           try clear c14b1
           try clear p15
           try clear q15
           try clear hx15
           try clear qi15
           try clear hf15
           try clear c18
           try clear hcz7_0
           try clear hcz7_1
           try clear hcz7_2
           try clear hfz7_0
           try clear hfz7_1
           try clear hfz7_2
           try clear hx15_0
           try clear p1
           try clear p15
           try clear p2
           try clear q1
           try clear q15
           obtain ⟨x5_3, x6_3, x7_3, rfl, rfl, HA, HK3, HO_5, BK168, HB⟩ := hrel
           have hl5_3 := (Kd.R_reads' HO_5.out).1
           rw [hl5_3] at HO_5
           (try simp only [hl5_3])
           (try simp only [hl5_3] at BK168)
           cases gk with
           | zero => exact absurd HA.out (by simp [davitref07_Without.l1])
           | succ k3 =>
            have H := HA.out
            clear HA
            simp only [davitref07_Without.l1] at H
            by_cases c19 : x7_3 < (x5_3.length : Int)
            ·rw [if_pos c19] at H
             have c19b0 : decide (x7_3 < (x5_3.length : Int)) = true := decide_eq_true c19
             clear c19
             replace H := Option.bind_eq_some_iff.mp H
             obtain ⟨t173, A200, H⟩ := H
             replace H : (davitref07_Without.l2 k3 a1 x5_3 x6_3 x7_3 t173 0 a0_0 a0_1 l0_2) = some r := H
             have A20 := Aside0.mk A200
             clear A200
             have H' := Aside0.mk H
             clear H
             have hcz21_0 : wr.cell? ⟨gb168, 0, none⟩ = some (.int .i64 a0_0) := (blk_cell BK168.out 0).trans rfl
             have hcz21_1 : wr.cell? ⟨gb168, 1, none⟩ = some (.int .i64 a0_1) := (blk_cell BK168.out 1).trans rfl
             have hcz21_2 : wr.cell? ⟨gb168, 2, none⟩ = some (.slice A0_2 l0_2.length c0_2) := (blk_cell BK168.out 2).trans rfl
             have hfz21_0 := blk_frozen BK168.out 0
             have hfz21_1 := blk_frozen BK168.out 1
             have hfz21_2 := blk_frozen BK168.out 2
             go_wp2_with (first | ((with_reducible refine gate_callee (f := 33) rfl ?_); refine goesL_ (some 33) rfl rfl Try.func33 (by kernel_rfl) rfl #[.agg #[.int .i64 a0_0, .int .i64 a0_1, .slice A0_2 l0_2.length c0_2], .int .i64 x7_3] rfl (by (try simp only [List.map_toArray, List.map_cons, List.map_nil]); first | done | rfl | (simp only [List.length_drop, List.length_take]; rfl)) ?_; (with_reducible refine (davitref07_Next.calls k3 a0_0 a0_1 _ _ l0_2 x7_3 t173 _ ?side1 ?side2 A20.out).mono ?_); (case side1 => repeat (first | exact (Kd.C_below HR0_2.out HB.out) | (with_reducible refine Kd.C_alloc ?_ _) | (with_reducible refine Kd.C_drewN ?_ _) | (with_reducible refine Kd.C_drew ?_))); (case side2 => exact HC0_2.out); rintro e w22 ⟨v174, rfl, ho0, hb⟩; refine ⟨_, rfl, ?_⟩; have n0_ := Aside0.mk (Kd.R_below (by (with_reducible repeat (first | apply Kd.R_alloc | apply Kd.R_drewN | apply Kd.R_drew)); exact HO_5.out) hb); have n1_ := Aside0.mk (Kd.R_lower ho0 (below_size (by repeat (first | (with_reducible first | exact HB.out | apply below_alloc | apply pw_below_drewN | apply below_drew1 | refine below_set ?_ GE168.out) | exact HB.out)))); have n2_ := Aside0.mk (blk_below (g := gb168) (o := .cells #[.int .i64 a0_0, .int .i64 a0_1, .slice A0_2 l0_2.length c0_2] 24 (0, 0)) (by (with_reducible repeat (first | refine blk_drewN ?_ _ | refine blk_drew ?_ | refine blk_alloc ?_ _)); exact BK168.out) hb); have n3_ := Aside0.mk (below_step (by repeat (first | (with_reducible first | exact HB.out | apply below_alloc | apply pw_below_drewN | apply below_drew1 | refine below_set ?_ GE168.out) | exact HB.out)) hb); clear HO_5; clear BK168; clear HB; have HO_5 := n0_; have HO175 := n1_; have BK168 := n2_; have HB := n3_; clear n0_ n1_ n2_ n3_; (try clear hb); (try clear hb2); (try clear hk); (try clear hi); (try clear ho0)))
             go_loopg [6, 9] k3 (fun kq v6 v9 w' => ∃ (x5_4 : List Bool) (x6_4 : Bool) (x9_4 : Int), v6 = .bool x6_4 ∧ v9 = .int .i64 x9_4 ∧ Aside0 (davitref07_Without.l2 kq a1 x5_4 x6_4 x7_3 t173 x9_4 a0_0 a0_1 l0_2 = some r) ∧ Aside0 (kq ≤ k3) ∧ Aside0 (Kd.R Kd.bool 4 w' w.heap.size (fun _ => True) (.slice (some ⟨go15, 0, none⟩) x5_3.length co15) x5_4) ∧ Aside0 (Kd.R (Kd.int .i64) 3 w' w.heap.size (fun _ => True) v174 t173) ∧ Aside0 (w'.heap[gb168]? = some (.cells #[.int .i64 a0_0, .int .i64 a0_1, (.slice A0_2 l0_2.length c0_2)] 24 (0, 0))) ∧ Aside0 (Below w.heap.size w w'))
             case atStart => exact ⟨(x5_3), (x6_3), (0), (by first | rfl | (simp; done) | (simp [*]; done)), (by first | rfl | (simp; done) | (simp [*]; done)), H', ⟨Nat.le_refl _⟩, ⟨by (try simp only [hl5_2]); (try simp only [hl5_3]); (with_reducible repeat (first | apply Kd.R_alloc | apply Kd.R_drewN | apply Kd.R_drew)); exact HO_5.out⟩, ⟨by (try simp only [hl5_2]); (try simp only [hl5_3]); (with_reducible repeat (first | apply Kd.R_alloc | apply Kd.R_drewN | apply Kd.R_drew)); exact HO175.out⟩, ⟨by (try simp only [hl5_2]); (try simp only [hl5_3]); (with_reducible repeat (first | refine blk_drewN ?_ _ | refine blk_drew ?_ | refine blk_alloc ?_ _)); exact BK168.out⟩, ⟨by repeat (first | (with_reducible first | exact HB.out | apply below_alloc | apply pw_below_drewN | apply below_drew1 | refine below_set ?_ GE168.out) | exact HB.out)⟩⟩
             case round =>
              clear H'
              try clear c1
              try clear p1
              try clear q1
              try clear hx1
              try clear qi1
              try clear p2
              try clear c3
              try clear c3b0
              try clear c3b1
              try clear c4
              try clear c4b0
              try clear c4b1
              try clear c10
              try clear c10b0
              try clear c10b1
              try clear c10b2
              try clear c13
              try clear c14
              try clear c14b0
              try clear c14b1
              try clear p15
              try clear q15
              try clear hx15
              try clear qi15
              try clear hf15
              try clear c18
              try clear c19
              try clear c19b0
              try clear hcz21_0
              try clear hcz21_1
              try clear hcz21_2
              try clear hcz7_0
              try clear hcz7_1
              try clear hcz7_2
              try clear hfz21_0
              try clear hfz21_1
              try clear hfz21_2
              try clear hfz7_0
              try clear hfz7_1
              try clear hfz7_2
              try clear hx15_0
              try clear p1
              try clear p15
              try clear p2
              try clear q1
              try clear q15
              obtain ⟨x5_4, x6_4, x9_4, rfl, rfl, HA, HK4, HO_5, HO_8, BK168, HB⟩ := hrel
              have hl5_4 := (Kd.R_reads' HO_5.out).1
              rw [hl5_4] at HO_5
              (try simp only [hl5_4])
              (try simp only [hl5_4] at BK168)
              (try simp only [hl5_4] at HO_8)
              cases gk with
              | zero => exact absurd HA.out (by simp [davitref07_Without.l2])
              | succ k4 =>
               have H := HA.out
               clear HA
               simp only [davitref07_Without.l2] at H
               by_cases c23 : x9_4 < (t173.length : Int)
               ·rw [if_pos c23] at H
                have c23b0 : decide (x9_4 < (t173.length : Int)) = true := decide_eq_true c23
                clear c23
                by_cases c24 : 0 ≤ x7_3
                ·rw [if_pos c24] at H
                 have c24b0 : decide (0 ≤ x7_3) = true := decide_eq_true c24
                 clear c24
                 by_cases c25 : x7_3 < (x5_4.length : Int)
                 ·rw [if_pos c25] at H
                  have c25b0 : decide (x7_3 < (x5_4.length : Int)) = true := decide_eq_true c25
                  clear c25
                  obtain ⟨bq26, hbq26⟩ : ∃ b_ : Bool, b_ = (rdOf false x5_4 x7_3) := ⟨_, rfl⟩
                  replace H : (if bq26 = true then (if 0 ≤ x9_4 then (if (rd t173 x9_4) = a1 then (davitref07_Without.l2 k4 a1 x5_4 x6_4 x7_3 t173 (wrap64 (x9_4 + 1)) a0_0 a0_1 l0_2) else (if 0 ≤ (rd t173 x9_4) then (if (rd t173 x9_4) < (x5_4.length : Int) then (if (rdOf false x5_4 (rd t173 x9_4) = true) then (davitref07_Without.l2 k4 a1 x5_4 x6_4 x7_3 t173 (wrap64 (x9_4 + 1)) a0_0 a0_1 l0_2) else (davitref07_Without.l2 k4 a1 (x5_4.set ((rd t173 x9_4) : Int).toNat true) true x7_3 t173 (wrap64 (x9_4 + 1)) a0_0 a0_1 l0_2)) else (none)) else (none))) else (none)) else (davitref07_Without.l2 k4 a1 x5_4 x6_4 x7_3 t173 (wrap64 (x9_4 + 1)) a0_0 a0_1 l0_2)) = some r := by rw [← hbq26] at H; exact H
                  have Nbq26 := Aside0.mk hbq26
                  clear hbq26
                  by_cases c27 : bq26 = true
                  ·subst c27
                   have H1 : (if 0 ≤ x9_4 then (if (rd t173 x9_4) = a1 then (davitref07_Without.l2 k4 a1 x5_4 x6_4 x7_3 t173 (wrap64 (x9_4 + 1)) a0_0 a0_1 l0_2) else (if 0 ≤ (rd t173 x9_4) then (if (rd t173 x9_4) < (x5_4.length : Int) then (if (rdOf false x5_4 (rd t173 x9_4) = true) then (davitref07_Without.l2 k4 a1 x5_4 x6_4 x7_3 t173 (wrap64 (x9_4 + 1)) a0_0 a0_1 l0_2) else (davitref07_Without.l2 k4 a1 (x5_4.set ((rd t173 x9_4) : Int).toNat true) true x7_3 t173 (wrap64 (x9_4 + 1)) a0_0 a0_1 l0_2)) else (none)) else (none))) else (none)) = some r := by rw [if_pos rfl] at H; exact H
                   clear H
                   have H := H1
                   clear H1
                   by_cases c28 : 0 ≤ x9_4
                   ·rw [if_pos c28] at H
                    have c28b0 : decide (0 ≤ x9_4) = true := decide_eq_true c28
                    clear c28
                    by_cases c29 : (rd t173 x9_4) = a1
                    ·rw [if_pos c29] at H
                     have c29b0 : ((rd t173 x9_4) == a1) = true := beq_iff_eq.mpr c29
                     have c29b1 : ((rd t173 x9_4) != a1) = false := bne_eq_false_iff_eq.mpr c29
                     clear c29
                     have H' := Aside0.mk H
                     clear H
                     obtain ⟨Ao30, co30, eo30⟩ := Kd.R_slice HO_8.out
                     subst eo30
                     have p176 : 0 ≤ (x7_3 : Int) := of_decide_eq_true (by first | (with_reducible assumption) | assumption)
                     have q176 : x7_3 < (x5_4.length : Int) := of_decide_eq_true (by first | (with_reducible assumption) | assumption)
                     obtain ⟨ad176, e176, hx176_0⟩ := Kd.at_bool (Kd.R_reads' HO_5.out).2.2 x7_3 p176 q176
                     (try rw [← Nbq26.out] at hx176_0)
                     obtain rfl : (⟨go15, 0, none⟩ : Addr) = ad176 := (by injection e176)
                     (first | simp only [add_plain] at hx176_0 | simp only [add_at] at hx176_0 | simp only [Addr.add, Nat.zero_add] at hx176_0 | skip)
                     replace p176 := eq_true p176
                     replace q176 := eq_true q176
                     have p177 : 0 ≤ (x9_4 : Int) := of_decide_eq_true (by first | (with_reducible assumption) | assumption)
                     have q177 : x9_4 < (t173.length : Int) := of_decide_eq_true (by first | (with_reducible assumption) | assumption)
                     obtain ⟨ad177, e177, hx177_0⟩ := Kd.at_int (Kd.R_reads' HO_8.out).2.2 x9_4 p177 q177
                     cases e177
                     replace p177 := eq_true p177
                     replace q177 := eq_true q177
                     go_wp2
                     (try simp only [← hl5_4])
                     go_roundg k4
                     case measure => have := HJ4.out; have := HK2.out; have := HK3.out; have := HK4.out; omega
                     case rel => exact ⟨(x5_4), (x6_4), (wrap64 (x9_4 + 1)), (by first | rfl | (simp; done) | (simp [*]; done)), (by first | rfl | (simp; done) | (simp [*]; done)), H', ⟨by have := HJ4.out; have := HK2.out; have := HK3.out; have := HK4.out; omega⟩, ⟨by (try simp only [hl5_2]); (try simp only [hl5_3]); (try simp only [hl5_4]); (with_reducible repeat (first | apply Kd.R_alloc | apply Kd.R_drewN | apply Kd.R_drew)); exact HO_5.out⟩, ⟨by (try simp only [hl5_2]); (try simp only [hl5_3]); (try simp only [hl5_4]); (with_reducible repeat (first | apply Kd.R_alloc | apply Kd.R_drewN | apply Kd.R_drew)); exact HO_8.out⟩, ⟨by (try simp only [hl5_2]); (try simp only [hl5_3]); (try simp only [hl5_4]); (with_reducible repeat (first | refine blk_drewN ?_ _ | refine blk_drew ?_ | refine blk_alloc ?_ _)); exact BK168.out⟩, ⟨by repeat (first | (with_reducible first | exact HB.out | apply below_alloc | apply pw_below_drewN | apply below_drew1 | refine below_set ?_ GE168.out) | exact HB.out)⟩⟩
                    ·rw [if_neg c29] at H
                     have c29b0 : ((rd t173 x9_4) == a1) = false := beq_eq_false_iff_ne.mpr c29
                     have c29b1 : ((rd t173 x9_4) != a1) = true := bne_iff_ne.mpr c29
                     by_cases c31 : 0 ≤ (rd t173 x9_4)
                     ·rw [if_pos c31] at H
                      have c31b0 : decide (0 ≤ (rd t173 x9_4)) = true := decide_eq_true c31
                      clear c31
                      by_cases c32 : (rd t173 x9_4) < (x5_4.length : Int)
                      ·rw [if_pos c32] at H
                       have c32b0 : decide ((rd t173 x9_4) < (x5_4.length : Int)) = true := decide_eq_true c32
                       clear c32
                       obtain ⟨bq33, hbq33⟩ : ∃ b_ : Bool, b_ = (rdOf false x5_4 (rd t173 x9_4)) := ⟨_, rfl⟩
                       replace H : (if (bq33 = true) then (davitref07_Without.l2 k4 a1 x5_4 x6_4 x7_3 t173 (wrap64 (x9_4 + 1)) a0_0 a0_1 l0_2) else (davitref07_Without.l2 k4 a1 (x5_4.set ((rd t173 x9_4) : Int).toNat true) true x7_3 t173 (wrap64 (x9_4 + 1)) a0_0 a0_1 l0_2)) = some r := by rw [← hbq33] at H; exact H
                       have Nbq33 := Aside0.mk hbq33
                       clear hbq33
                       by_cases c34 : (bq33 = true)
                       ·subst c34
                        have H1 : (davitref07_Without.l2 k4 a1 x5_4 x6_4 x7_3 t173 (wrap64 (x9_4 + 1)) a0_0 a0_1 l0_2) = some r := by rw [if_pos rfl] at H; exact H
                        clear H
                        have H := H1
                        clear H1
                        have H' := Aside0.mk H
                        clear H
                        obtain ⟨Ao35, co35, eo35⟩ := Kd.R_slice HO_8.out
                        subst eo35
                        have p176 : 0 ≤ (x7_3 : Int) := of_decide_eq_true (by first | (with_reducible assumption) | assumption)
                        have q176 : x7_3 < (x5_4.length : Int) := of_decide_eq_true (by first | (with_reducible assumption) | assumption)
                        obtain ⟨ad176, e176, hx176_0⟩ := Kd.at_bool (Kd.R_reads' HO_5.out).2.2 x7_3 p176 q176
                        (try rw [← Nbq26.out] at hx176_0)
                        (try rw [← Nbq33.out] at hx176_0)
                        obtain rfl : (⟨go15, 0, none⟩ : Addr) = ad176 := (by injection e176)
                        (first | simp only [add_plain] at hx176_0 | simp only [add_at] at hx176_0 | simp only [Addr.add, Nat.zero_add] at hx176_0 | skip)
                        replace p176 := eq_true p176
                        replace q176 := eq_true q176
                        have p177 : 0 ≤ (x9_4 : Int) := of_decide_eq_true (by first | (with_reducible assumption) | assumption)
                        have q177 : x9_4 < (t173.length : Int) := of_decide_eq_true (by first | (with_reducible assumption) | assumption)
                        obtain ⟨ad177, e177, hx177_0⟩ := Kd.at_int (Kd.R_reads' HO_8.out).2.2 x9_4 p177 q177
                        cases e177
                        replace p177 := eq_true p177
                        replace q177 := eq_true q177
                        have p178 : 0 ≤ (x9_4 : Int) := of_decide_eq_true (by first | (with_reducible assumption) | assumption)
                        have q178 : x9_4 < (t173.length : Int) := of_decide_eq_true (by first | (with_reducible assumption) | assumption)
                        obtain ⟨ad178, e178, hx178_0⟩ := Kd.at_int (Kd.R_reads' HO_8.out).2.2 x9_4 p178 q178
                        obtain rfl : ad177 = ad178 := (by injection e178)
                        replace p178 := eq_true p178
                        replace q178 := eq_true q178
                        have p179 : 0 ≤ ((rd t173 x9_4) : Int) := of_decide_eq_true (by first | (with_reducible assumption) | assumption)
                        have q179 : (rd t173 x9_4) < (x5_4.length : Int) := of_decide_eq_true (by first | (with_reducible assumption) | assumption)
                        obtain ⟨ad179, e179, hx179_0⟩ := Kd.at_bool (Kd.R_reads' HO_5.out).2.2 (rd t173 x9_4) p179 q179
                        (try rw [← Nbq26.out] at hx179_0)
                        (try rw [← Nbq33.out] at hx179_0)
                        obtain rfl : (⟨go15, 0, none⟩ : Addr) = ad179 := (by injection e179)
                        (first | simp only [add_plain] at hx179_0 | simp only [add_at] at hx179_0 | simp only [Addr.add, Nat.zero_add] at hx179_0 | skip)
                        replace p179 := eq_true p179
                        replace q179 := eq_true q179
                        go_wp2
                        (try simp only [← hl5_4])
                        go_roundg k4
                        case measure => have := HJ4.out; have := HK2.out; have := HK3.out; have := HK4.out; omega
                        case rel => exact ⟨(x5_4), (x6_4), (wrap64 (x9_4 + 1)), (by first | rfl | (simp; done) | (simp [*]; done)), (by first | rfl | (simp; done) | (simp [*]; done)), H', ⟨by have := HJ4.out; have := HK2.out; have := HK3.out; have := HK4.out; omega⟩, ⟨by (try simp only [hl5_2]); (try simp only [hl5_3]); (try simp only [hl5_4]); (with_reducible repeat (first | apply Kd.R_alloc | apply Kd.R_drewN | apply Kd.R_drew)); exact HO_5.out⟩, ⟨by (try simp only [hl5_2]); (try simp only [hl5_3]); (try simp only [hl5_4]); (with_reducible repeat (first | apply Kd.R_alloc | apply Kd.R_drewN | apply Kd.R_drew)); exact HO_8.out⟩, ⟨by (try simp only [hl5_2]); (try simp only [hl5_3]); (try simp only [hl5_4]); (with_reducible repeat (first | refine blk_drewN ?_ _ | refine blk_drew ?_ | refine blk_alloc ?_ _)); exact BK168.out⟩, ⟨by repeat (first | (with_reducible first | exact HB.out | apply below_alloc | apply pw_below_drewN | apply below_drew1 | refine below_set ?_ GE168.out) | exact HB.out)⟩⟩
                       ·replace c34 := Bool.eq_false_iff.mpr c34
                        subst c34
                        have H1 : (davitref07_Without.l2 k4 a1 (x5_4.set ((rd t173 x9_4) : Int).toNat true) true x7_3 t173 (wrap64 (x9_4 + 1)) a0_0 a0_1 l0_2) = some r := by rw [if_neg (show ¬ (false = true) by decide)] at H; exact H
                        clear H
                        have H := H1
                        clear H1
                        obtain ⟨y181, hy181⟩ : ∃ y_ : List Bool, y_ = (x5_4.set ((rd t173 x9_4) : Int).toNat true) := ⟨_, rfl⟩
                        replace H : (davitref07_Without.l2 k4 a1 y181 true x7_3 t173 (wrap64 (x9_4 + 1)) a0_0 a0_1 l0_2) = some r := by first | (rw [hy181]; with_reducible exact H) | (have H2_ := (Option.bind_some _ _).symm.trans H; rw [hy181]; with_reducible exact H2_) | (have H2_ := (Option.bind_some _ _).symm.trans H; with_reducible exact H2_) | with_reducible exact H | (rw [hy181]; exact H) | exact H
                        have Ny181 := Aside0.mk hy181
                        clear hy181
                        have H' := Aside0.mk H
                        clear H
                        obtain ⟨Ao37, co37, eo37⟩ := Kd.R_slice HO_8.out
                        subst eo37
                        have p176 : 0 ≤ (x7_3 : Int) := of_decide_eq_true (by first | (with_reducible assumption) | assumption)
                        have q176 : x7_3 < (x5_4.length : Int) := of_decide_eq_true (by first | (with_reducible assumption) | assumption)
                        obtain ⟨ad176, e176, hx176_0⟩ := Kd.at_bool (Kd.R_reads' HO_5.out).2.2 x7_3 p176 q176
                        (try rw [← Nbq26.out] at hx176_0)
                        (try rw [← Nbq33.out] at hx176_0)
                        obtain rfl : (⟨go15, 0, none⟩ : Addr) = ad176 := (by injection e176)
                        (first | simp only [add_plain] at hx176_0 | simp only [add_at] at hx176_0 | simp only [Addr.add, Nat.zero_add] at hx176_0 | skip)
                        replace p176 := eq_true p176
                        replace q176 := eq_true q176
                        have p177 : 0 ≤ (x9_4 : Int) := of_decide_eq_true (by first | (with_reducible assumption) | assumption)
                        have q177 : x9_4 < (t173.length : Int) := of_decide_eq_true (by first | (with_reducible assumption) | assumption)
                        obtain ⟨ad177, e177, hx177_0⟩ := Kd.at_int (Kd.R_reads' HO_8.out).2.2 x9_4 p177 q177
                        cases e177
                        replace p177 := eq_true p177
                        replace q177 := eq_true q177
                        have p178 : 0 ≤ (x9_4 : Int) := of_decide_eq_true (by first | (with_reducible assumption) | assumption)
                        have q178 : x9_4 < (t173.length : Int) := of_decide_eq_true (by first | (with_reducible assumption) | assumption)
                        obtain ⟨ad178, e178, hx178_0⟩ := Kd.at_int (Kd.R_reads' HO_8.out).2.2 x9_4 p178 q178
                        obtain rfl : ad177 = ad178 := (by injection e178)
                        replace p178 := eq_true p178
                        replace q178 := eq_true q178
                        have p179 : 0 ≤ ((rd t173 x9_4) : Int) := of_decide_eq_true (by first | (with_reducible assumption) | assumption)
                        have q179 : (rd t173 x9_4) < (x5_4.length : Int) := of_decide_eq_true (by first | (with_reducible assumption) | assumption)
                        obtain ⟨ad179, e179, hx179_0⟩ := Kd.at_bool (Kd.R_reads' HO_5.out).2.2 (rd t173 x9_4) p179 q179
                        (try rw [← Nbq26.out] at hx179_0)
                        (try rw [← Nbq33.out] at hx179_0)
                        obtain rfl : (⟨go15, 0, none⟩ : Addr) = ad179 := (by injection e179)
                        (first | simp only [add_plain] at hx179_0 | simp only [add_at] at hx179_0 | simp only [Addr.add, Nat.zero_add] at hx179_0 | skip)
                        replace p179 := eq_true p179
                        replace q179 := eq_true q179
                        have p180 : 0 ≤ (x9_4 : Int) := of_decide_eq_true (by first | (with_reducible assumption) | assumption)
                        have q180 : x9_4 < (t173.length : Int) := of_decide_eq_true (by first | (with_reducible assumption) | assumption)
                        obtain ⟨ad180, e180, hx180_0⟩ := Kd.at_int (Kd.R_reads' HO_8.out).2.2 x9_4 p180 q180
                        obtain rfl : ad177 = ad180 := (by injection e180)
                        replace p180 := eq_true p180
                        replace q180 := eq_true q180
                        have p36 : 0 ≤ ((rd t173 x9_4) : Int) := of_decide_eq_true (by first | (with_reducible assumption) | assumption)
                        have q36 : ((rd t173 x9_4) : Int) < ((x5_4.length : Int) : Int) := of_decide_eq_true (by first | (with_reducible assumption) | assumption)
                        obtain ⟨hx36_0, hf36_0⟩ := Kd.R_celln false HO_5.out ((rd t173 x9_4) : Int) p36 q36
                        replace p36 := eq_true p36
                        replace q36 := eq_true q36
                        have HP38 := Kd.R_putg HO_5.out ((rd t173 x9_4) : Int) true
                        go_wp2_with (first | ((with_reducible refine gate_store (t := 4) (p := 67) rfl ?_); refine store_event (t := 4) (p := 67) (v := ?vo_w39) (w1 := (wr.setCell ⟨go15, ((rd t173 x9_4) : Int).toNat, none⟩ (.bool true))) ?hg ?ho ?hn ?hr ?_; (case ho => rfl); (case hg => rfl); (case hn => rfl); (case hr => first | (go_simp; done) | (go_simp; rfl)); intro w39 hw; have hg : wr.grownBy w39 (some go15) := (by rw [hw]; exact HP38.2); have hp_ : Kd.R Kd.bool 4 w39 w.heap.size (fun _ => True) (.slice (some ⟨go15, 0, none⟩) x5_4.length co15) y181 := (by rw [hw, Ny181.out]; exact HP38.1); clear HP38; have n0_ := Aside0.mk (hp_); have n1_ := Aside0.mk (Kd.R_over' (v := (.slice (some ⟨go15, 0, none⟩) x5_4.length co15)) (by (with_reducible repeat (first | apply Kd.R_alloc | apply Kd.R_drewN | apply Kd.R_drew)); exact HO_8.out) (Kd.R_typed HO_5.out) (by decide) hg); have n2_ := Aside0.mk (blk_grown (g := gb168) (o := .cells #[.int .i64 a0_0, .int .i64 a0_1, .slice A0_2 l0_2.length c0_2] 24 (0, 0)) (by (with_reducible repeat (first | refine blk_drewN ?_ _ | refine blk_drew ?_ | refine blk_alloc ?_ _)); exact BK168.out) hg (Kd.R_ne HO_5.out BK168.out (by decide))); have n3_ := Aside0.mk ((by rw [hw]; exact below_set (HB.out) GB15.out : Below w.heap.size w w39)); clear HO_5; clear HO_8; clear BK168; clear HB; have HO_5 := n0_; have HO_8 := n1_; have BK168 := n2_; have HB := n3_; clear n0_ n1_ n2_ n3_; clear hg hw hp_))
                        (try simp only [← hl5_4])
                        go_roundg k4
                        case measure => have := HJ4.out; have := HK2.out; have := HK3.out; have := HK4.out; omega
                        case rel => exact ⟨(y181), (true), (wrap64 (x9_4 + 1)), (by first | rfl | (simp; done) | (simp [*]; done)), (by first | rfl | (simp; done) | (simp [*]; done)), H', ⟨by have := HJ4.out; have := HK2.out; have := HK3.out; have := HK4.out; omega⟩, ⟨by (try simp only [hl5_2]); (try simp only [hl5_3]); (try simp only [hl5_4]); (with_reducible repeat (first | apply Kd.R_alloc | apply Kd.R_drewN | apply Kd.R_drew)); exact HO_5.out⟩, ⟨by (try simp only [hl5_2]); (try simp only [hl5_3]); (try simp only [hl5_4]); (with_reducible repeat (first | apply Kd.R_alloc | apply Kd.R_drewN | apply Kd.R_drew)); exact HO_8.out⟩, ⟨by (try simp only [hl5_2]); (try simp only [hl5_3]); (try simp only [hl5_4]); (with_reducible repeat (first | refine blk_drewN ?_ _ | refine blk_drew ?_ | refine blk_alloc ?_ _)); exact BK168.out⟩, ⟨by repeat (first | (with_reducible first | exact HB.out | apply below_alloc | apply pw_below_drewN | apply below_drew1 | refine below_set ?_ GE168.out) | exact HB.out)⟩⟩
                      ·rw [if_neg c32] at H
                       exact absurd H (by simp)
                     ·rw [if_neg c31] at H
                      exact absurd H (by simp)
                   ·rw [if_neg c28] at H
                    exact absurd H (by simp)
                  ·replace c27 := Bool.eq_false_iff.mpr c27
                   subst c27
                   have H1 : (davitref07_Without.l2 k4 a1 x5_4 x6_4 x7_3 t173 (wrap64 (x9_4 + 1)) a0_0 a0_1 l0_2) = some r := by rw [if_neg (show ¬ (false = true) by decide)] at H; exact H
                   clear H
                   have H := H1
                   clear H1
                   have H' := Aside0.mk H
                   clear H
                   obtain ⟨Ao40, co40, eo40⟩ := Kd.R_slice HO_8.out
                   subst eo40
                   have p176 : 0 ≤ (x7_3 : Int) := of_decide_eq_true (by first | (with_reducible assumption) | assumption)
                   have q176 : x7_3 < (x5_4.length : Int) := of_decide_eq_true (by first | (with_reducible assumption) | assumption)
                   obtain ⟨ad176, e176, hx176_0⟩ := Kd.at_bool (Kd.R_reads' HO_5.out).2.2 x7_3 p176 q176
                   (try rw [← Nbq26.out] at hx176_0)
                   obtain rfl : (⟨go15, 0, none⟩ : Addr) = ad176 := (by injection e176)
                   (first | simp only [add_plain] at hx176_0 | simp only [add_at] at hx176_0 | simp only [Addr.add, Nat.zero_add] at hx176_0 | skip)
                   replace p176 := eq_true p176
                   replace q176 := eq_true q176
                   go_wp2
                   (try simp only [← hl5_4])
                   go_roundg k4
                   case measure => have := HJ4.out; have := HK2.out; have := HK3.out; have := HK4.out; omega
                   case rel => exact ⟨(x5_4), (x6_4), (wrap64 (x9_4 + 1)), (by first | rfl | (simp; done) | (simp [*]; done)), (by first | rfl | (simp; done) | (simp [*]; done)), H', ⟨by have := HJ4.out; have := HK2.out; have := HK3.out; have := HK4.out; omega⟩, ⟨by (try simp only [hl5_2]); (try simp only [hl5_3]); (try simp only [hl5_4]); (with_reducible repeat (first | apply Kd.R_alloc | apply Kd.R_drewN | apply Kd.R_drew)); exact HO_5.out⟩, ⟨by (try simp only [hl5_2]); (try simp only [hl5_3]); (try simp only [hl5_4]); (with_reducible repeat (first | apply Kd.R_alloc | apply Kd.R_drewN | apply Kd.R_drew)); exact HO_8.out⟩, ⟨by (try simp only [hl5_2]); (try simp only [hl5_3]); (try simp only [hl5_4]); (with_reducible repeat (first | refine blk_drewN ?_ _ | refine blk_drew ?_ | refine blk_alloc ?_ _)); exact BK168.out⟩, ⟨by repeat (first | (with_reducible first | exact HB.out | apply below_alloc | apply pw_below_drewN | apply below_drew1 | refine below_set ?_ GE168.out) | exact HB.out)⟩⟩
                 ·rw [if_neg c25] at H
                  exact absurd H (by simp)
                ·rw [if_neg c24] at H
                 exact absurd H (by simp)
               ·rw [if_neg c23] at H
                have c23b0 : decide (x9_4 < (t173.length : Int)) = false := decide_eq_false c23
                clear c23
                have H' := Aside0.mk H
                clear H
                obtain ⟨Ao41, co41, eo41⟩ := Kd.R_slice HO_8.out
                subst eo41
                go_wp2
                (try simp only [← hl5_3, ← hl5_4])
                go_roundg k4
                case measure => have := HJ4.out; have := HK2.out; have := HK3.out; have := HK4.out; omega
                case rel => exact ⟨(x5_4), (x6_4), (wrap64 (x7_3 + 1)), (by first | rfl | (simp; done) | (simp [*]; done)), (by first | rfl | (simp; done) | (simp [*]; done)), H', ⟨by have := HJ4.out; have := HK2.out; have := HK3.out; have := HK4.out; omega⟩, ⟨by (try simp only [hl5_2]); (try simp only [hl5_3]); (try simp only [hl5_4]); (with_reducible repeat (first | apply Kd.R_alloc | apply Kd.R_drewN | apply Kd.R_drew)); exact HO_5.out⟩, ⟨by (try simp only [hl5_2]); (try simp only [hl5_3]); (try simp only [hl5_4]); (with_reducible repeat (first | refine blk_drewN ?_ _ | refine blk_drew ?_ | refine blk_alloc ?_ _)); exact BK168.out⟩, ⟨by repeat (first | (with_reducible first | exact HB.out | apply below_alloc | apply pw_below_drewN | apply below_drew1 | refine below_set ?_ GE168.out) | exact HB.out)⟩⟩
            ·rw [if_neg c19] at H
             have c19b0 : decide (x7_3 < (x5_3.length : Int)) = false := decide_eq_false c19
             clear c19
             have H' := Aside0.mk H
             clear H
             go_wp2
             (try simp only [← hl5_2, ← hl5_3])
             go_roundg k3
             case measure => have := HJ4.out; have := HK2.out; have := HK3.out; omega
             case rel => exact ⟨(x5_3), (x6_3), (by first | rfl | (simp; done) | (simp [*]; done)), H', ⟨by have := HJ4.out; have := HK2.out; have := HK3.out; omega⟩, ⟨by (try simp only [hl5_2]); (try simp only [hl5_3]); (with_reducible repeat (first | apply Kd.R_alloc | apply Kd.R_drewN | apply Kd.R_drew)); exact HO_5.out⟩, ⟨by (try simp only [hl5_2]); (try simp only [hl5_3]); (with_reducible repeat (first | refine blk_drewN ?_ _ | refine blk_drew ?_ | refine blk_alloc ?_ _)); exact BK168.out⟩, ⟨by repeat (first | (with_reducible first | exact HB.out | apply below_alloc | apply pw_below_drewN | apply below_drew1 | refine below_set ?_ GE168.out) | exact HB.out)⟩⟩
         ·replace c18 := Bool.eq_false_iff.mpr c18
          subst c18
          have H1 : (some x5_2) = some r := by rw [if_neg (show ¬ (false = true) by decide)] at H; exact H
          clear H
          have H := H1
          clear H1
          obtain rfl := Option.some.inj H
          go_wp2
          go_ret
          exact ⟨_, by first | rfl | (simp [errW_none, errW_some] <;> rfl) | (simp [*, errW_none, errW_some] <;> rfl), by (with_reducible repeat (first | apply Kd.R_alloc | apply Kd.R_drewN | apply Kd.R_drew)); exact HO_5.out, by repeat (first | (with_reducible first | exact HB.out | apply below_alloc | apply pw_below_drewN | apply below_drew1 | refine below_set ?_ GE168.out) | exact HB.out)⟩
      ·rw [if_neg c14] at H
       exact absurd H (by simp)
  ·rw [if_neg c4] at H
   exact absurd H (by simp)
 ·rw [if_neg c3] at H
  exact absurd H (by simp)
end
end Go.Proofs.Ytilopoegoddggaa.X
namespace Go.Proofs.Ytilopoegoddggaa.X
open Go.RowKit Go.Proofs.YtilopoegoddggaaW.PrintWords Go.Proofs.YtilopoegoddggaaW.PrintLast Go.Proofs.YtilopoegoddggaaW.PrintMore
attribute [local go_sem] max2_int min2_int max_two min_two max_three min_three max_four min_four
set_option linter.all false
noncomputable section
def davitref07_Reached.f (k : Nat) (a0_0 : Int) (a0_1 : Int) (l0_2 : List (S50)) : Option (List Bool) := (davitref07_Without.f k a0_0 a0_1 l0_2 (-1)).bind fun t183 => (some t183)
theorem davitref07_Reached.mono : ∀ a0 a1 a2 k, LeO (davitref07_Reached.f k a0 a1 a2) (davitref07_Reached.f (k + 1) a0 a1 a2) := by
 intro a0 a1 a2 k
 unfold davitref07_Reached.f
 repeat' first
   | (with_reducible exact davitref07_Without.mono _ _ _ _ _)
   | (with_reducible exact LeO.refl _)
   | (with_reducible exact LeO.none _)
   | (with_reducible refine LeO.ite ?_ ?_)
   | (with_reducible refine LeO.bind ?_ (fun _ => ?_))
   | exact davitref07_Without.mono _ _ _ _ _
   | exact LeO.none _
   | refine LeO.ite ?_ ?_
   | refine LeO.bind ?_ (fun _ => ?_)
set_option maxHeartbeats 8000000 in
set_option maxRecDepth 100000 in
theorem davitref07_Reached.calls (k : Nat) (a0_0 : Int) (a0_1 : Int) (A0_2 : Option Addr) (c0_2 : Nat) (l0_2 : List (S50)) (r : List Bool) (w : World) (hr0_2 : Kd.C k50 w A0_2 l0_2.length l0_2) (hc0_2 : l0_2.length ≤ c0_2) (h : davitref07_Reached.f k a0_0 a0_1 l0_2 = some r) :
  Calls Try.prog 29 #[.agg #[.int .i64 a0_0, .int .i64 a0_1, .slice A0_2 l0_2.length c0_2]] w fun e w' => ∃ v0_ : Value, e = .returned (v0_) ∧ Kd.R Kd.bool 4 w' w.heap.size (fun _ => True) v0_ r ∧ Below w.heap.size w w' := by
 have hu24 := Try.underlying24
 have HR0_2 := Aside0.mk hr0_2
 have HC0_2 := Aside0.mk hc0_2
 clear hr0_2 hc0_2
 have HB := Aside0.mk (Below.refl w.heap.size w)
 have H : ((davitref07_Without.f k a0_0 a0_1 l0_2 (-1)).bind fun t183 => (some t183)) = some r := h
 clear h
 replace H := Option.bind_eq_some_iff.mp H
 obtain ⟨t183, A20, H⟩ := H
 replace H : (some t183) = some r := H
 have A2 := Aside0.mk A20
 clear A20
 obtain rfl := Option.some.inj H
 go_enter Try.func29, Try.ntmps29
 go_wp2_with (first | ((with_reducible refine gate_dst (N := 1) rfl ?_); refine box_event ?hg (N := 1) ?hd (cs := #[.int .i64 a0_0, .int .i64 a0_1, .slice A0_2 l0_2.length c0_2]) (t := 24) ?hr ?_; (case hd => rfl); (case hg => rfl); (case hr => first | (go_simp; done) | (go_simp; rfl)); intro gb182 hg w3 hbox hb; have n0_ := Aside0.mk (below_step (by repeat (first | (with_reducible first | exact HB.out | apply below_alloc | apply pw_below_drewN | apply below_drew1) | exact HB.out)) hb); have n1_ := Aside0.mk (hbox); have n2_ := Aside0.mk ((by rw [hg]; exact (below_size (by repeat (first | (with_reducible first | exact HB.out | apply below_alloc | apply pw_below_drewN | apply below_drew1) | exact HB.out))) : w.heap.size ≤ gb182)); have n3_ := Aside0.mk ((by rw [hg]; exact (below_size (by repeat (first | (with_reducible first | exact HB.out | apply below_alloc | apply pw_below_drewN | apply below_drew1) | exact HB.out))) : w.heap.size ≤ gb182)); clear HB; have HB := n0_; have BK182 := n1_; have GW182 := n2_; have GE182 := n3_; clear n0_ n1_ n2_ n3_; clear hb hbox hg; have hcz4_0 : w3.cell? ⟨gb182, 0, none⟩ = some (.int .i64 a0_0) := (blk_cell BK182.out 0).trans rfl; have hcz4_1 : w3.cell? ⟨gb182, 1, none⟩ = some (.int .i64 a0_1) := (blk_cell BK182.out 1).trans rfl; have hcz4_2 : w3.cell? ⟨gb182, 2, none⟩ = some (.slice A0_2 l0_2.length c0_2) := (blk_cell BK182.out 2).trans rfl; have hfz4_0 := blk_frozen BK182.out 0; have hfz4_1 := blk_frozen BK182.out 1; have hfz4_2 := blk_frozen BK182.out 2) | ((with_reducible refine gate_callee (f := 30) rfl ?_); refine goesL_ (some 4) rfl rfl Try.func30 (by kernel_rfl) rfl #[.agg #[.int .i64 a0_0, .int .i64 a0_1, .slice A0_2 l0_2.length c0_2], .int .i64 (-1)] rfl (by (try simp only [List.map_toArray, List.map_cons, List.map_nil]); first | done | rfl | (simp only [List.length_drop, List.length_take]; rfl)) ?_; (with_reducible refine (davitref07_Without.calls k a0_0 a0_1 _ _ l0_2 (-1) t183 _ ?side1 ?side2 A2.out).mono ?_); (case side1 => repeat (first | exact (Kd.C_below HR0_2.out HB.out) | (with_reducible refine Kd.C_alloc ?_ _) | (with_reducible refine Kd.C_drewN ?_ _) | (with_reducible refine Kd.C_drew ?_))); (case side2 => exact HC0_2.out); rintro e w5 ⟨v184, rfl, ho0, hb⟩; refine ⟨_, rfl, ?_⟩; have n0_ := Aside0.mk (Kd.R_lower ho0 (below_size (by repeat (first | (with_reducible first | exact HB.out | apply below_alloc | apply pw_below_drewN | apply below_drew1 | refine below_set ?_ GE182.out) | exact HB.out)))); have n1_ := Aside0.mk (blk_below (g := gb182) (o := .cells #[.int .i64 a0_0, .int .i64 a0_1, .slice A0_2 l0_2.length c0_2] 24 (0, 0)) (by (with_reducible repeat (first | refine blk_drewN ?_ _ | refine blk_drew ?_ | refine blk_alloc ?_ _)); exact BK182.out) hb); have n2_ := Aside0.mk (below_step (by repeat (first | (with_reducible first | exact HB.out | apply below_alloc | apply pw_below_drewN | apply below_drew1 | refine below_set ?_ GE182.out) | exact HB.out)) hb); clear BK182; clear HB; have HO185 := n0_; have BK182 := n1_; have HB := n2_; clear n0_ n1_ n2_; (try clear hb); (try clear hb2); (try clear hk); (try clear hi); (try clear ho0)))
 go_ret
 exact ⟨_, by first | rfl | (simp [errW_none, errW_some] <;> rfl) | (simp [*, errW_none, errW_some] <;> rfl), by (with_reducible repeat (first | apply Kd.R_alloc | apply Kd.R_drewN | apply Kd.R_drew)); exact HO185.out, by repeat (first | (with_reducible first | exact HB.out | apply below_alloc | apply pw_below_drewN | apply below_drew1 | refine below_set ?_ GE182.out) | exact HB.out)⟩
end
end Go.Proofs.Ytilopoegoddggaa.X
namespace Go.Proofs.Ytilopoegoddggaa.X
open Go.RowKit Go.Proofs.YtilopoegoddggaaW.PrintWords Go.Proofs.YtilopoegoddggaaW.PrintLast Go.Proofs.YtilopoegoddggaaW.PrintMore
attribute [local go_sem] max2_int min2_int max_two min_two max_three min_three max_four min_four
set_option linter.all false
noncomputable section
mutual
def davitref08_All.l0 : Nat → List Bool → List (List Bool) → Int → Int → Int → List (S50) → Option ((List (List Bool)))
 | 0, _, _, _, _, _, _ => none
 | k + 1, x3, x4, x5, x187000, x187001, x187002 => if x5 < (x187002.length : Int) then ((davitref07_Without.f k x187000 x187001 x187002 x5).bind fun t190 => (if 0 ≤ (x187002.length : Int) then (if ((x187002.length : Int) : Int).toNat ≤ 281474976710656 then (davitref08_All.l1 k x3 x4 x5 t190 (List.replicate ((x187002.length : Int) : Int).toNat false) 0 x187000 x187001 x187002) else (none)) else (none))) else (some x4)
def davitref08_All.l1 : Nat → List Bool → List (List Bool) → Int → List Bool → List Bool → Int → Int → Int → List (S50) → Option ((List (List Bool)))
 | 0, _, _, _, _, _, _, _, _, _ => none
 | k + 1, x3, x4, x5, x6, x7, x8, x187000, x187001, x187002 => if x8 < (x187002.length : Int) then (if 0 ≤ x8 then (if x8 < (x3.length : Int) then (if rdOf false x3 x8 = true then (if x5 = x8 then (if x8 < (x7.length : Int) then (davitref08_All.l1 k x3 x4 x5 x6 (x7.set (x8 : Int).toNat true) (wrap64 (x8 + 1)) x187000 x187001 x187002) else (none)) else (if x8 < (x6.length : Int) then (if x8 < (x7.length : Int) then (davitref08_All.l1 k x3 x4 x5 x6 (x7.set (x8 : Int).toNat (!(rdOf false x6 x8))) (wrap64 (x8 + 1)) x187000 x187001 x187002) else (none)) else (none))) else (if x8 < (x7.length : Int) then (davitref08_All.l1 k x3 x4 x5 x6 (x7.set (x8 : Int).toNat false) (wrap64 (x8 + 1)) x187000 x187001 x187002) else (none))) else (none)) else (none)) else (if x4.length < 5864062014805 then (davitref08_All.l0 k x3 (x4 ++ [x7]) (wrap64 (x5 + 1)) x187000 x187001 x187002) else (none))
end
def davitref08_All.f (k : Nat) (a0_0 : Int) (a0_1 : Int) (l0_2 : List (S50)) : Option ((List (List Bool))) := (davitref07_Reached.f k a0_0 a0_1 l0_2).bind fun t187 => (davitref08_All.l0 k t187 ([] : List (List Bool)) 0 a0_0 a0_1 l0_2)
theorem davitref08_All.mono_l : ∀ k, (∀ y0 y1 y2 y3 y4 y5, LeO (davitref08_All.l0 k y0 y1 y2 y3 y4 y5) (davitref08_All.l0 (k + 1) y0 y1 y2 y3 y4 y5)) ∧ (∀ y0 y1 y2 y3 y4 y5 y6 y7 y8, LeO (davitref08_All.l1 k y0 y1 y2 y3 y4 y5 y6 y7 y8) (davitref08_All.l1 (k + 1) y0 y1 y2 y3 y4 y5 y6 y7 y8))
 | 0 => ⟨fun _ _ _ _ _ _ r h => by simp [davitref08_All.l0] at h, fun _ _ _ _ _ _ _ _ _ r h => by simp [davitref08_All.l1] at h⟩
 | k + 1 => by
  obtain ⟨ih0, ih1⟩ := davitref08_All.mono_l k
  refine ⟨?_, ?_⟩
  ·intro y0 y1 y2 y3 y4 y5
   unfold davitref08_All.l0
   repeat' first
   | (with_reducible exact ih0 _ _ _ _ _ _)
   | (with_reducible exact ih1 _ _ _ _ _ _ _ _ _)
   | (with_reducible exact davitref07_Reached.mono _ _ _ _)
   | (with_reducible exact davitref07_Without.mono _ _ _ _ _)
   | (with_reducible exact LeO.refl _)
   | (with_reducible exact LeO.none _)
   | (with_reducible refine LeO.ite ?_ ?_)
   | (with_reducible refine LeO.bind ?_ (fun _ => ?_))
   | exact ih0 _ _ _ _ _ _
   | exact ih1 _ _ _ _ _ _ _ _ _
   | exact davitref07_Reached.mono _ _ _ _
   | exact davitref07_Without.mono _ _ _ _ _
   | exact LeO.none _
   | refine LeO.ite ?_ ?_
   | refine LeO.bind ?_ (fun _ => ?_)
  ·intro y0 y1 y2 y3 y4 y5 y6 y7 y8
   unfold davitref08_All.l1
   repeat' first
   | (with_reducible exact ih0 _ _ _ _ _ _)
   | (with_reducible exact ih1 _ _ _ _ _ _ _ _ _)
   | (with_reducible exact davitref07_Reached.mono _ _ _ _)
   | (with_reducible exact davitref07_Without.mono _ _ _ _ _)
   | (with_reducible exact LeO.refl _)
   | (with_reducible exact LeO.none _)
   | (with_reducible refine LeO.ite ?_ ?_)
   | (with_reducible refine LeO.bind ?_ (fun _ => ?_))
   | exact ih0 _ _ _ _ _ _
   | exact ih1 _ _ _ _ _ _ _ _ _
   | exact davitref07_Reached.mono _ _ _ _
   | exact davitref07_Without.mono _ _ _ _ _
   | exact LeO.none _
   | refine LeO.ite ?_ ?_
   | refine LeO.bind ?_ (fun _ => ?_)
theorem davitref08_All.mono : ∀ a0 a1 a2 k, LeO (davitref08_All.f k a0 a1 a2) (davitref08_All.f (k + 1) a0 a1 a2) := by
 intro a0 a1 a2 k
 obtain ⟨ih0, ih1⟩ := davitref08_All.mono_l k
 unfold davitref08_All.f
 repeat' first
   | (with_reducible exact ih0 _ _ _ _ _ _)
   | (with_reducible exact ih1 _ _ _ _ _ _ _ _ _)
   | (with_reducible exact davitref07_Reached.mono _ _ _ _)
   | (with_reducible exact davitref07_Without.mono _ _ _ _ _)
   | (with_reducible exact LeO.refl _)
   | (with_reducible exact LeO.none _)
   | (with_reducible refine LeO.ite ?_ ?_)
   | (with_reducible refine LeO.bind ?_ (fun _ => ?_))
   | exact ih0 _ _ _ _ _ _
   | exact ih1 _ _ _ _ _ _ _ _ _
   | exact davitref07_Reached.mono _ _ _ _
   | exact davitref07_Without.mono _ _ _ _ _
   | exact LeO.none _
   | refine LeO.ite ?_ ?_
   | refine LeO.bind ?_ (fun _ => ?_)
set_option maxHeartbeats 8000000 in
set_option maxRecDepth 100000 in
theorem davitref08_All.calls (k : Nat) (a0_0 : Int) (a0_1 : Int) (A0_2 : Option Addr) (c0_2 : Nat) (l0_2 : List (S50)) (r : List (List Bool)) (w : World) (hr0_2 : Kd.C k50 w A0_2 l0_2.length l0_2) (hc0_2 : l0_2.length ≤ c0_2) (h : davitref08_All.f k a0_0 a0_1 l0_2 = some r) :
  Calls Try.prog 28 #[.agg #[.int .i64 a0_0, .int .i64 a0_1, .slice A0_2 l0_2.length c0_2]] w fun e w' => ∃ v0_ : Value, e = .returned (v0_) ∧ Kd.S (Kd.slice 4 Kd.bool) 32 w' w.heap.size (fun _ => True) v0_ r ∧ Below w.heap.size w w' := by
 have hu24 := Try.underlying24
 have HR0_2 := Aside0.mk hr0_2
 have HC0_2 := Aside0.mk hc0_2
 clear hr0_2 hc0_2
 have HB := Aside0.mk (Below.refl w.heap.size w)
 have H : ((davitref07_Reached.f k a0_0 a0_1 l0_2).bind fun t187 => (davitref08_All.l0 k t187 ([] : List (List Bool)) 0 a0_0 a0_1 l0_2)) = some r := h
 clear h
 replace H := Option.bind_eq_some_iff.mp H
 obtain ⟨t187, A20, H⟩ := H
 replace H : (davitref08_All.l0 k t187 ([] : List (List Bool)) 0 a0_0 a0_1 l0_2) = some r := H
 have A2 := Aside0.mk A20
 clear A20
 have H' := Aside0.mk H
 clear H
 go_enter Try.func28, Try.ntmps28
 go_wp2_with (first | ((with_reducible refine gate_dst (N := 1) rfl ?_); refine box_event ?hg (N := 1) ?hd (cs := #[.int .i64 a0_0, .int .i64 a0_1, .slice A0_2 l0_2.length c0_2]) (t := 24) ?hr ?_; (case hd => rfl); (case hg => rfl); (case hr => first | (go_simp; done) | (go_simp; rfl)); intro gb186 hg w3 hbox hb; have n0_ := Aside0.mk (below_step (by repeat (first | (with_reducible first | exact HB.out | apply below_alloc | apply pw_below_drewN | apply below_drew1) | exact HB.out)) hb); have n1_ := Aside0.mk (hbox); have n2_ := Aside0.mk ((by rw [hg]; exact (below_size (by repeat (first | (with_reducible first | exact HB.out | apply below_alloc | apply pw_below_drewN | apply below_drew1) | exact HB.out))) : w.heap.size ≤ gb186)); have n3_ := Aside0.mk ((by rw [hg]; exact (below_size (by repeat (first | (with_reducible first | exact HB.out | apply below_alloc | apply pw_below_drewN | apply below_drew1) | exact HB.out))) : w.heap.size ≤ gb186)); clear HB; have HB := n0_; have BK186 := n1_; have GW186 := n2_; have GE186 := n3_; clear n0_ n1_ n2_ n3_; clear hb hbox hg; have hcz4_0 : w3.cell? ⟨gb186, 0, none⟩ = some (.int .i64 a0_0) := (blk_cell BK186.out 0).trans rfl; have hcz4_1 : w3.cell? ⟨gb186, 1, none⟩ = some (.int .i64 a0_1) := (blk_cell BK186.out 1).trans rfl; have hcz4_2 : w3.cell? ⟨gb186, 2, none⟩ = some (.slice A0_2 l0_2.length c0_2) := (blk_cell BK186.out 2).trans rfl; have hfz4_0 := blk_frozen BK186.out 0; have hfz4_1 := blk_frozen BK186.out 1; have hfz4_2 := blk_frozen BK186.out 2) | ((with_reducible refine gate_callee (f := 29) rfl ?_); refine goesL_ (some 10) rfl rfl Try.func29 (by kernel_rfl) rfl #[.agg #[.int .i64 a0_0, .int .i64 a0_1, .slice A0_2 l0_2.length c0_2]] rfl (by (try simp only [List.map_toArray, List.map_cons, List.map_nil]); first | done | rfl | (simp only [List.length_drop, List.length_take]; rfl)) ?_; (with_reducible refine (davitref07_Reached.calls k a0_0 a0_1 _ _ l0_2 t187 _ ?side1 ?side2 A2.out).mono ?_); (case side1 => repeat (first | exact (Kd.C_below HR0_2.out HB.out) | (with_reducible refine Kd.C_alloc ?_ _) | (with_reducible refine Kd.C_drewN ?_ _) | (with_reducible refine Kd.C_drew ?_))); (case side2 => exact HC0_2.out); rintro e w5 ⟨v188, rfl, ho0, hb⟩; refine ⟨_, rfl, ?_⟩; have n0_ := Aside0.mk (Kd.R_lower ho0 (below_size (by repeat (first | (with_reducible first | exact HB.out | apply below_alloc | apply pw_below_drewN | apply below_drew1 | refine below_set ?_ GE186.out) | exact HB.out)))); have n1_ := Aside0.mk (blk_below (g := gb186) (o := .cells #[.int .i64 a0_0, .int .i64 a0_1, .slice A0_2 l0_2.length c0_2] 24 (0, 0)) (by (with_reducible repeat (first | refine blk_drewN ?_ _ | refine blk_drew ?_ | refine blk_alloc ?_ _)); exact BK186.out) hb); have n2_ := Aside0.mk (below_step (by repeat (first | (with_reducible first | exact HB.out | apply below_alloc | apply pw_below_drewN | apply below_drew1 | refine below_set ?_ GE186.out) | exact HB.out)) hb); clear BK186; clear HB; have HO189 := n0_; have BK186 := n1_; have HB := n2_; clear n0_ n1_ n2_; (try clear hb); (try clear hb2); (try clear hk); (try clear hi); (try clear ho0)))
 go_loopg [4, 5] k (fun kq v4 v5 w' => ∃ (x3_1 : List Bool) (x4_1 : List (List Bool)) (x5_1 : Int), v5 = .int .i64 x5_1 ∧ Aside0 (davitref08_All.l0 kq x3_1 x4_1 x5_1 a0_0 a0_1 l0_2 = some r) ∧ Aside0 (kq ≤ k) ∧ Aside0 (Kd.R Kd.bool 4 w' w.heap.size (fun _ => True) v188 x3_1) ∧ Aside0 (Kd.S (Kd.slice 4 Kd.bool) 32 w' w.heap.size (fun k_ => some k_ ≠ (v188 : Value).ownBlock) v4 x4_1) ∧ Aside0 (w'.heap[gb186]? = some (.cells #[.int .i64 a0_0, .int .i64 a0_1, (.slice A0_2 l0_2.length c0_2)] 24 (0, 0))) ∧ Aside0 (Below w.heap.size w w'))
 case atStart => exact ⟨(t187), (([] : List (List Bool))), (0), (by first | rfl | (simp; done) | (simp [*]; done)), H', ⟨Nat.le_refl _⟩, ⟨by (with_reducible repeat (first | apply Kd.R_alloc | apply Kd.R_drewN | apply Kd.R_drew)); exact HO189.out⟩, ⟨by first | exact Kd.S_nil _ _ _ _ _ | exact Kd.N_nil _ _ _ _ _ | exact Kd.V_nil _ _ _ _ _ | exact Kd.Q_nil _ _ _ _ _ | exact Kd.R_nil _ _ _ _ _⟩, ⟨by (with_reducible repeat (first | refine blk_drewN ?_ _ | refine blk_drew ?_ | refine blk_alloc ?_ _)); exact BK186.out⟩, ⟨by repeat (first | (with_reducible first | exact HB.out | apply below_alloc | apply pw_below_drewN | apply below_drew1 | refine below_set ?_ GE186.out) | exact HB.out)⟩⟩
 case round =>
  clear H'
  try clear c2
  try clear p2
  try clear hcz4_0
  try clear hcz4_1
  try clear hcz4_2
  try clear hfz4_0
  try clear hfz4_1
  try clear hfz4_2
  obtain ⟨x3_1, x4_1, x5_1, rfl, HA, HK1, HO_3, HO_4, BK186, HB⟩ := hrel
  cases gk with
  | zero => exact absurd HA.out (by simp [davitref08_All.l0])
  | succ k1 =>
   have H := HA.out
   clear HA
   simp only [davitref08_All.l0] at H
   by_cases c6 : x5_1 < (l0_2.length : Int)
   ·rw [if_pos c6] at H
    have c6b0 : decide (x5_1 < (l0_2.length : Int)) = true := decide_eq_true c6
    clear c6
    replace H := Option.bind_eq_some_iff.mp H
    obtain ⟨t190, A70, H⟩ := H
    replace H : (if 0 ≤ (l0_2.length : Int) then (if ((l0_2.length : Int) : Int).toNat ≤ 281474976710656 then (davitref08_All.l1 k1 x3_1 x4_1 x5_1 t190 (List.replicate ((l0_2.length : Int) : Int).toNat false) 0 a0_0 a0_1 l0_2) else (none)) else (none)) = some r := H
    have A7 := Aside0.mk A70
    clear A70
    by_cases c8 : 0 ≤ (l0_2.length : Int)
    ·rw [if_pos c8] at H
     have c8b0 := eq_true c8
     have c8b1 : decide (0 ≤ (l0_2.length : Int)) = true := decide_eq_true c8
     clear c8
     by_cases c9 : ((l0_2.length : Int) : Int).toNat ≤ 281474976710656
     ·rw [if_pos c9] at H
      have c9b0 := eq_true c9
      have c9b1 : decide (((l0_2.length : Int) : Int).toNat ≤ 281474976710656) = true := decide_eq_true c9
      clear c9
      obtain ⟨y193, hy193⟩ : ∃ y_ : List Bool, y_ = (List.replicate ((l0_2.length : Int) : Int).toNat false) := ⟨_, rfl⟩
      replace H : (davitref08_All.l1 k1 x3_1 x4_1 x5_1 t190 y193 0 a0_0 a0_1 l0_2) = some r := by first | (rw [hy193]; with_reducible exact H) | (have H2_ := (Option.bind_some _ _).symm.trans H; rw [hy193]; with_reducible exact H2_) | (have H2_ := (Option.bind_some _ _).symm.trans H; with_reducible exact H2_) | with_reducible exact H | (rw [hy193]; exact H) | exact H
      have Ny193 := Aside0.mk hy193
      clear hy193
      have H' := Aside0.mk H
      clear H
      have hcz10_0 : wr.cell? ⟨gb186, 0, none⟩ = some (.int .i64 a0_0) := (blk_cell BK186.out 0).trans rfl
      have hcz10_1 : wr.cell? ⟨gb186, 1, none⟩ = some (.int .i64 a0_1) := (blk_cell BK186.out 1).trans rfl
      have hcz10_2 : wr.cell? ⟨gb186, 2, none⟩ = some (.slice A0_2 l0_2.length c0_2) := (blk_cell BK186.out 2).trans rfl
      have hfz10_0 := blk_frozen BK186.out 0
      have hfz10_1 := blk_frozen BK186.out 1
      have hfz10_2 := blk_frozen BK186.out 2
      go_wp2_with (first | ((with_reducible refine gate_callee (f := 30) rfl ?_); refine goesL_ (some 20) rfl rfl Try.func30 (by kernel_rfl) rfl #[.agg #[.int .i64 a0_0, .int .i64 a0_1, .slice A0_2 l0_2.length c0_2], .int .i64 x5_1] rfl (by (try simp only [List.map_toArray, List.map_cons, List.map_nil]); first | done | rfl | (simp only [List.length_drop, List.length_take]; rfl)) ?_; (with_reducible refine (davitref07_Without.calls k1 a0_0 a0_1 _ _ l0_2 x5_1 t190 _ ?side1 ?side2 A7.out).mono ?_); (case side1 => repeat (first | exact (Kd.C_below HR0_2.out HB.out) | (with_reducible refine Kd.C_alloc ?_ _) | (with_reducible refine Kd.C_drewN ?_ _) | (with_reducible refine Kd.C_drew ?_))); (case side2 => exact HC0_2.out); rintro e w11 ⟨v191, rfl, ho0, hb⟩; refine ⟨_, rfl, ?_⟩; have n0_ := Aside0.mk (Kd.R_elder' (by (with_reducible repeat (first | apply Kd.R_alloc | apply Kd.R_drewN | apply Kd.R_drew)); exact HO_3.out) (Kd.R_base ho0) hb); have n1_ := Aside0.mk (Kd.S_elder' (by (with_reducible repeat (first | apply Kd.S_alloc | apply Kd.S_drewN | apply Kd.S_drew)); exact HO_4.out) (Kd.R_base ho0) hb); have n2_ := Aside0.mk (Kd.R_lower (Kd.R_new' ho0 (Kd.R_lt (by (with_reducible repeat (first | apply Kd.R_alloc | apply Kd.R_drewN | apply Kd.R_drew)); exact HO_3.out))) (below_size (by repeat (first | (with_reducible first | exact HB.out | apply below_alloc | apply pw_below_drewN | apply below_drew1 | refine below_set ?_ GE186.out) | exact HB.out)))); have n3_ := Aside0.mk (blk_below (g := gb186) (o := .cells #[.int .i64 a0_0, .int .i64 a0_1, .slice A0_2 l0_2.length c0_2] 24 (0, 0)) (by (with_reducible repeat (first | refine blk_drewN ?_ _ | refine blk_drew ?_ | refine blk_alloc ?_ _)); exact BK186.out) hb); have n4_ := Aside0.mk (below_step (by repeat (first | (with_reducible first | exact HB.out | apply below_alloc | apply pw_below_drewN | apply below_drew1 | refine below_set ?_ GE186.out) | exact HB.out)) hb); clear HO_3; clear HO_4; clear BK186; clear HB; have HO_3 := n0_; have HO_4 := n1_; have HO192 := n2_; have BK186 := n3_; have HB := n4_; clear n0_ n1_ n2_ n3_ n4_; (try clear hb); (try clear hb2); (try clear hk); (try clear hi); (try clear ho0); have hcz12_0 : w11.cell? ⟨gb186, 0, none⟩ = some (.int .i64 a0_0) := (blk_cell BK186.out 0).trans rfl; have hcz12_1 : w11.cell? ⟨gb186, 1, none⟩ = some (.int .i64 a0_1) := (blk_cell BK186.out 1).trans rfl; have hcz12_2 : w11.cell? ⟨gb186, 2, none⟩ = some (.slice A0_2 l0_2.length c0_2) := (blk_cell BK186.out 2).trans rfl; have hfz12_0 := blk_frozen BK186.out 0; have hfz12_1 := blk_frozen BK186.out 1; have hfz12_2 := blk_frozen BK186.out 2) | ((with_reducible refine gate_dst (N := 24) rfl ?_); refine Kd.R_make Kd.bool _ 4 rfl (N := 24) rfl 32 _ _ rfl (l0_2.length : Int) rfl rfl Try.underlying32 (.bool false) 1 info4 rfl (by decide) (by omega) false (ok := fun _ => True) (okp := fun _ => True) rfl (fun _ hk => hk) trivial (of_decide_eq_true (by first | (with_reducible assumption) | assumption)) (Nat.le_trans (Nat.mul_le_mul_right _ (of_decide_eq_true (by first | (with_reducible assumption) | assumption) : (l0_2.length : Int).toNat ≤ 281474976710656)) (by omega)) (Below.refl _ _) (Nat.le_refl _) ?_; intro v194 w13 ho14 hb hg_ hnew_; clear hg_ hnew_; (first | rw [← Ny193.out] at ho14 | (simp only [Int.reduceToNat] at ho14; rw [← Ny193.out] at ho14)); have n0_ := Aside0.mk (Kd.R_elder' (by (with_reducible repeat (first | apply Kd.R_alloc | apply Kd.R_drewN | apply Kd.R_drew)); exact HO_3.out) (Kd.R_base ho14) hb); have n1_ := Aside0.mk (Kd.S_elder' (by (with_reducible repeat (first | apply Kd.S_alloc | apply Kd.S_drewN | apply Kd.S_drew)); exact HO_4.out) (Kd.R_base ho14) hb); have n2_ := Aside0.mk (Kd.R_elder' (by (with_reducible repeat (first | apply Kd.R_alloc | apply Kd.R_drewN | apply Kd.R_drew)); exact HO192.out) (Kd.R_base ho14) hb); have n3_ := Aside0.mk (Kd.R_lower (Kd.R_new' (Kd.R_new' ho14 (Kd.R_lt (by (with_reducible repeat (first | apply Kd.R_alloc | apply Kd.R_drewN | apply Kd.R_drew)); exact HO_3.out))) (Kd.R_lt (by (with_reducible repeat (first | apply Kd.R_alloc | apply Kd.R_drewN | apply Kd.R_drew)); exact HO192.out))) (below_size (by repeat (first | (with_reducible first | exact HB.out | apply below_alloc | apply pw_below_drewN | apply below_drew1 | refine below_set ?_ GE186.out) | exact HB.out)))); have n4_ := Aside0.mk (blk_below (g := gb186) (o := .cells #[.int .i64 a0_0, .int .i64 a0_1, .slice A0_2 l0_2.length c0_2] 24 (0, 0)) (by (with_reducible repeat (first | refine blk_drewN ?_ _ | refine blk_drew ?_ | refine blk_alloc ?_ _)); exact BK186.out) hb); have n5_ := Aside0.mk (below_step (by repeat (first | (with_reducible first | exact HB.out | apply below_alloc | apply pw_below_drewN | apply below_drew1 | refine below_set ?_ GE186.out) | exact HB.out)) hb); clear HO_3; clear HO_4; clear HO192; clear BK186; clear HB; have HO_3 := n0_; have HO_4 := n1_; have HO192 := n2_; have HO195 := n3_; have BK186 := n4_; have HB := n5_; clear n0_ n1_ n2_ n3_ n4_ n5_; clear hb ho14))
      go_loopg [8] k1 (fun kq v8 w' => ∃ (x7_2 : List Bool) (x8_2 : Int), v8 = .int .i64 x8_2 ∧ Aside0 (davitref08_All.l1 kq x3_1 x4_1 x5_1 t190 x7_2 x8_2 a0_0 a0_1 l0_2 = some r) ∧ Aside0 (kq ≤ k1) ∧ Aside0 (Kd.R Kd.bool 4 w' w.heap.size (fun k_ => some k_ ≠ (v191 : Value).ownBlock ∧ some k_ ≠ (v194 : Value).ownBlock) v188 x3_1) ∧ Aside0 (Kd.S (Kd.slice 4 Kd.bool) 32 w' w.heap.size (fun k_ => some k_ ≠ (v188 : Value).ownBlock ∧ some k_ ≠ (v191 : Value).ownBlock ∧ some k_ ≠ (v194 : Value).ownBlock) u4 x4_1) ∧ Aside0 (Kd.R Kd.bool 4 w' w.heap.size (fun k_ => some k_ ≠ (v188 : Value).ownBlock ∧ some k_ ≠ (v194 : Value).ownBlock) v191 t190) ∧ Aside0 (Kd.R Kd.bool 4 w' w.heap.size (fun k_ => some k_ ≠ (v188 : Value).ownBlock ∧ some k_ ≠ (v191 : Value).ownBlock) v194 x7_2) ∧ Aside0 (w'.heap[gb186]? = some (.cells #[.int .i64 a0_0, .int .i64 a0_1, (.slice A0_2 l0_2.length c0_2)] 24 (0, 0))) ∧ Aside0 (Below w.heap.size w w'))
      case atStart => exact ⟨(y193), (0), (by first | rfl | (simp; done) | (simp [*]; done)), H', ⟨Nat.le_refl _⟩, ⟨by (with_reducible repeat (first | apply Kd.R_alloc | apply Kd.R_drewN | apply Kd.R_drew)); exact Kd.R_mono HO_3.out (fun _ hk => ⟨hk.1.2, hk.2⟩)⟩, ⟨by (with_reducible repeat (first | apply Kd.S_alloc | apply Kd.S_drewN | apply Kd.S_drew)); exact Kd.S_mono HO_4.out (fun _ hk => ⟨hk.1.1, ⟨hk.1.2, hk.2⟩⟩)⟩, ⟨by (with_reducible repeat (first | apply Kd.R_alloc | apply Kd.R_drewN | apply Kd.R_drew)); exact Kd.R_mono HO192.out (fun _ hk => ⟨hk.1.2, hk.2⟩)⟩, ⟨by (with_reducible repeat (first | apply Kd.R_alloc | apply Kd.R_drewN | apply Kd.R_drew)); exact Kd.R_mono HO195.out (fun _ hk => ⟨hk.1.2, hk.2⟩)⟩, ⟨by (with_reducible repeat (first | refine blk_drewN ?_ _ | refine blk_drew ?_ | refine blk_alloc ?_ _)); exact BK186.out⟩, ⟨by repeat (first | (with_reducible first | exact HB.out | apply below_alloc | apply pw_below_drewN | apply below_drew1 | refine below_set ?_ GE186.out) | exact HB.out)⟩⟩
      case round =>
       clear H'
       try clear c2
       try clear p2
       try clear c3
       try clear c6
       try clear c6b0
       try clear c8
       try clear c8b0
       try clear c8b1
       try clear c9
       try clear c9b0
       try clear c9b1
       try clear hcz10_0
       try clear hcz10_1
       try clear hcz10_2
       try clear hcz12_0
       try clear hcz12_1
       try clear hcz12_2
       try clear hcz4_0
       try clear hcz4_1
       try clear hcz4_2
       try clear hfz10_0
       try clear hfz10_1
       try clear hfz10_2
       try clear hfz12_0
       try clear hfz12_1
       try clear hfz12_2
       try clear hfz4_0
       try clear hfz4_1
       try clear hfz4_2
       try clear p2
       obtain ⟨x7_2, x8_2, rfl, HA, HK2, HO_3, HO_4, HO_6, HO_7, BK186, HB⟩ := hrel
       cases gk with
       | zero => exact absurd HA.out (by simp [davitref08_All.l1])
       | succ k2 =>
        have H := HA.out
        clear HA
        simp only [davitref08_All.l1] at H
        by_cases c15 : x8_2 < (l0_2.length : Int)
        ·rw [if_pos c15] at H
         have c15b0 : decide (x8_2 < (l0_2.length : Int)) = true := decide_eq_true c15
         clear c15
         by_cases c16 : 0 ≤ x8_2
         ·rw [if_pos c16] at H
          have c16b0 : decide (0 ≤ x8_2) = true := decide_eq_true c16
          clear c16
          by_cases c17 : x8_2 < (x3_1.length : Int)
          ·rw [if_pos c17] at H
           have c17b0 : decide (x8_2 < (x3_1.length : Int)) = true := decide_eq_true c17
           clear c17
           obtain ⟨bq18, hbq18⟩ : ∃ b_ : Bool, b_ = (rdOf false x3_1 x8_2) := ⟨_, rfl⟩
           replace H : (if bq18 = true then (if x5_1 = x8_2 then (if x8_2 < (x7_2.length : Int) then (davitref08_All.l1 k2 x3_1 x4_1 x5_1 t190 (x7_2.set (x8_2 : Int).toNat true) (wrap64 (x8_2 + 1)) a0_0 a0_1 l0_2) else (none)) else (if x8_2 < (t190.length : Int) then (if x8_2 < (x7_2.length : Int) then (davitref08_All.l1 k2 x3_1 x4_1 x5_1 t190 (x7_2.set (x8_2 : Int).toNat (!(rdOf false t190 x8_2))) (wrap64 (x8_2 + 1)) a0_0 a0_1 l0_2) else (none)) else (none))) else (if x8_2 < (x7_2.length : Int) then (davitref08_All.l1 k2 x3_1 x4_1 x5_1 t190 (x7_2.set (x8_2 : Int).toNat false) (wrap64 (x8_2 + 1)) a0_0 a0_1 l0_2) else (none))) = some r := by rw [← hbq18] at H; exact H
           have Nbq18 := Aside0.mk hbq18
           clear hbq18
           by_cases c19 : bq18 = true
           ·subst c19
            have H1 : (if x5_1 = x8_2 then (if x8_2 < (x7_2.length : Int) then (davitref08_All.l1 k2 x3_1 x4_1 x5_1 t190 (x7_2.set (x8_2 : Int).toNat true) (wrap64 (x8_2 + 1)) a0_0 a0_1 l0_2) else (none)) else (if x8_2 < (t190.length : Int) then (if x8_2 < (x7_2.length : Int) then (davitref08_All.l1 k2 x3_1 x4_1 x5_1 t190 (x7_2.set (x8_2 : Int).toNat (!(rdOf false t190 x8_2))) (wrap64 (x8_2 + 1)) a0_0 a0_1 l0_2) else (none)) else (none))) = some r := by rw [if_pos rfl] at H; exact H
            clear H
            have H := H1
            clear H1
            by_cases c20 : x5_1 = x8_2
            ·rw [if_pos c20] at H
             have c20b0 : (x5_1 == x8_2) = true := beq_iff_eq.mpr c20
             have c20b1 : (x5_1 != x8_2) = false := bne_eq_false_iff_eq.mpr c20
             clear c20
             by_cases c21 : x8_2 < (x7_2.length : Int)
             ·rw [if_pos c21] at H
              have c21b0 : decide (x8_2 < (x7_2.length : Int)) = true := decide_eq_true c21
              clear c21
              obtain ⟨y197, hy197⟩ : ∃ y_ : List Bool, y_ = (x7_2.set (x8_2 : Int).toNat true) := ⟨_, rfl⟩
              replace H : (davitref08_All.l1 k2 x3_1 x4_1 x5_1 t190 y197 (wrap64 (x8_2 + 1)) a0_0 a0_1 l0_2) = some r := by first | (rw [hy197]; with_reducible exact H) | (have H2_ := (Option.bind_some _ _).symm.trans H; rw [hy197]; with_reducible exact H2_) | (have H2_ := (Option.bind_some _ _).symm.trans H; with_reducible exact H2_) | with_reducible exact H | (rw [hy197]; exact H) | exact H
              have Ny197 := Aside0.mk hy197
              clear hy197
              have H' := Aside0.mk H
              clear H
              have hcz23_0 : wr.cell? ⟨gb186, 0, none⟩ = some (.int .i64 a0_0) := (blk_cell BK186.out 0).trans rfl
              have hcz23_1 : wr.cell? ⟨gb186, 1, none⟩ = some (.int .i64 a0_1) := (blk_cell BK186.out 1).trans rfl
              have hcz23_2 : wr.cell? ⟨gb186, 2, none⟩ = some (.slice A0_2 l0_2.length c0_2) := (blk_cell BK186.out 2).trans rfl
              have hfz23_0 := blk_frozen BK186.out 0
              have hfz23_1 := blk_frozen BK186.out 1
              have hfz23_2 := blk_frozen BK186.out 2
              obtain ⟨Ao24, co24, eo24⟩ := Kd.R_slice HO_3.out
              subst eo24
              have p196 : 0 ≤ (x8_2 : Int) := of_decide_eq_true (by first | (with_reducible assumption) | assumption)
              have q196 : x8_2 < (x3_1.length : Int) := of_decide_eq_true (by first | (with_reducible assumption) | assumption)
              obtain ⟨ad196, e196, hx196_0⟩ := Kd.at_bool (Kd.R_reads' HO_3.out).2.2 x8_2 p196 q196
              (try rw [← Nbq18.out] at hx196_0)
              cases e196
              replace p196 := eq_true p196
              replace q196 := eq_true q196
              have p22 : 0 ≤ (x8_2 : Int) := of_decide_eq_true (by first | (with_reducible assumption) | assumption)
              have q22 : (x8_2 : Int) < ((x7_2.length : Int) : Int) := of_decide_eq_true (by first | (with_reducible assumption) | assumption)
              obtain ⟨go22, co22, eo22, gb22, gl22, cl22, HG22⟩ := Kd.R_form HO_7.out (by omega)
              (first | cases eo22 | (injection eo22 with ea_ en_ ec_; (first | subst ea_ | (injection ea_ with ea_; subst ea_)); subst ec_; clear en_))
              have GB22 := Aside0.mk gb22
              have GG22 := Aside0.mk HG22
              clear gb22 gl22 HG22
              obtain ⟨hx22_0, hf22_0⟩ := Kd.R_celln false HO_7.out (x8_2 : Int) p22 q22
              replace p22 := eq_true p22
              replace q22 := eq_true q22
              have HP25 := Kd.R_putg HO_7.out (x8_2 : Int) true
              go_wp2_with (first | ((with_reducible refine gate_store (t := 4) (p := 50) rfl ?_); refine store_event (t := 4) (p := 50) (v := ?vo_w26) (w1 := (wr.setCell ⟨go22, (x8_2 : Int).toNat, none⟩ (.bool true))) ?hg ?ho ?hn ?hr ?_; (case ho => rfl); (case hg => rfl); (case hn => rfl); (case hr => first | (go_simp; done) | (go_simp; rfl)); intro w26 hw; have hg : wr.grownBy w26 (some go22) := (by rw [hw]; exact HP25.2); have hp_ : Kd.R Kd.bool 4 w26 w.heap.size (fun k_ => some k_ ≠ (.slice (some ad196) x3_1.length co24 : Value).ownBlock ∧ some k_ ≠ (v191 : Value).ownBlock) (.slice (some ⟨go22, 0, none⟩) x7_2.length co22) y197 := (by rw [hw, Ny197.out]; exact HP25.1); clear HP25; have n0_ := Aside0.mk (Kd.R_after (v := (.slice (some ⟨go22, 0, none⟩) x7_2.length co22)) (v1 := (.slice (some ⟨go22, 0, none⟩) x7_2.length co22)) (ok := (fun k_ => some k_ ≠ (v191 : Value).ownBlock)) (by (with_reducible repeat (first | apply Kd.R_alloc | apply Kd.R_drewN | apply Kd.R_drew)); exact HO_3.out) hg (.inl rfl)); have n1_ := Aside0.mk (Kd.S_after (v := (.slice (some ⟨go22, 0, none⟩) x7_2.length co22)) (v1 := (.slice (some ⟨go22, 0, none⟩) x7_2.length co22)) (ok := (fun k_ => some k_ ≠ (.slice (some ad196) x3_1.length co24 : Value).ownBlock ∧ some k_ ≠ (v191 : Value).ownBlock)) (by (with_reducible repeat (first | apply Kd.S_alloc | apply Kd.S_drewN | apply Kd.S_drew)); exact Kd.S_mono HO_4.out (fun _ hk => ⟨⟨hk.1, hk.2.1⟩, hk.2.2⟩)) hg (.inl rfl)); have n2_ := Aside0.mk (Kd.R_after (v := (.slice (some ⟨go22, 0, none⟩) x7_2.length co22)) (v1 := (.slice (some ⟨go22, 0, none⟩) x7_2.length co22)) (ok := (fun k_ => some k_ ≠ (.slice (some ad196) x3_1.length co24 : Value).ownBlock)) (by (with_reducible repeat (first | apply Kd.R_alloc | apply Kd.R_drewN | apply Kd.R_drew)); exact HO_6.out) hg (.inl rfl)); have n3_ := Aside0.mk (hp_); have n4_ := Aside0.mk (blk_grown (g := gb186) (o := .cells #[.int .i64 a0_0, .int .i64 a0_1, .slice A0_2 l0_2.length c0_2] 24 (0, 0)) (by (with_reducible repeat (first | refine blk_drewN ?_ _ | refine blk_drew ?_ | refine blk_alloc ?_ _)); exact BK186.out) hg (Kd.R_ne HO_7.out BK186.out (by decide))); have n5_ := Aside0.mk ((by rw [hw]; exact below_set (HB.out) GB22.out : Below w.heap.size w w26)); clear HO_3; clear HO_4; clear HO_6; clear HO_7; clear BK186; clear HB; have HO_3 := n0_; have HO_4 := n1_; have HO_6 := n2_; have HO_7 := n3_; have BK186 := n4_; have HB := n5_; clear n0_ n1_ n2_ n3_ n4_ n5_; clear hg hw hp_))
              go_roundg k2
              case measure => have := HK1.out; have := HK2.out; omega
              case rel => exact ⟨(y197), (wrap64 (x8_2 + 1)), (by first | rfl | (simp; done) | (simp [*]; done)), H', ⟨by have := HK1.out; have := HK2.out; omega⟩, ⟨by (with_reducible repeat (first | apply Kd.R_alloc | apply Kd.R_drewN | apply Kd.R_drew)); exact HO_3.out⟩, ⟨by (with_reducible repeat (first | apply Kd.S_alloc | apply Kd.S_drewN | apply Kd.S_drew)); exact Kd.S_mono HO_4.out (fun _ hk => ⟨hk.1.1, ⟨hk.1.2, hk.2⟩⟩)⟩, ⟨by (with_reducible repeat (first | apply Kd.R_alloc | apply Kd.R_drewN | apply Kd.R_drew)); exact HO_6.out⟩, ⟨by (with_reducible repeat (first | apply Kd.R_alloc | apply Kd.R_drewN | apply Kd.R_drew)); exact HO_7.out⟩, ⟨by (with_reducible repeat (first | refine blk_drewN ?_ _ | refine blk_drew ?_ | refine blk_alloc ?_ _)); exact BK186.out⟩, ⟨by repeat (first | (with_reducible first | exact HB.out | apply below_alloc | apply pw_below_drewN | apply below_drew1 | refine below_set ?_ GE186.out) | exact HB.out)⟩⟩
             ·rw [if_neg c21] at H
              exact absurd H (by simp)
            ·rw [if_neg c20] at H
             have c20b0 : (x5_1 == x8_2) = false := beq_eq_false_iff_ne.mpr c20
             have c20b1 : (x5_1 != x8_2) = true := bne_iff_ne.mpr c20
             by_cases c27 : x8_2 < (t190.length : Int)
             ·rw [if_pos c27] at H
              have c27b0 : decide (x8_2 < (t190.length : Int)) = true := decide_eq_true c27
              clear c27
              by_cases c28 : x8_2 < (x7_2.length : Int)
              ·rw [if_pos c28] at H
               have c28b0 : decide (x8_2 < (x7_2.length : Int)) = true := decide_eq_true c28
               clear c28
               obtain ⟨y199, hy199⟩ : ∃ y_ : List Bool, y_ = (x7_2.set (x8_2 : Int).toNat (!(rdOf false t190 x8_2))) := ⟨_, rfl⟩
               replace H : (davitref08_All.l1 k2 x3_1 x4_1 x5_1 t190 y199 (wrap64 (x8_2 + 1)) a0_0 a0_1 l0_2) = some r := by first | (rw [hy199]; with_reducible exact H) | (have H2_ := (Option.bind_some _ _).symm.trans H; rw [hy199]; with_reducible exact H2_) | (have H2_ := (Option.bind_some _ _).symm.trans H; with_reducible exact H2_) | with_reducible exact H | (rw [hy199]; exact H) | exact H
               have Ny199 := Aside0.mk hy199
               clear hy199
               have H' := Aside0.mk H
               clear H
               have hcz30_0 : wr.cell? ⟨gb186, 0, none⟩ = some (.int .i64 a0_0) := (blk_cell BK186.out 0).trans rfl
               have hcz30_1 : wr.cell? ⟨gb186, 1, none⟩ = some (.int .i64 a0_1) := (blk_cell BK186.out 1).trans rfl
               have hcz30_2 : wr.cell? ⟨gb186, 2, none⟩ = some (.slice A0_2 l0_2.length c0_2) := (blk_cell BK186.out 2).trans rfl
               have hfz30_0 := blk_frozen BK186.out 0
               have hfz30_1 := blk_frozen BK186.out 1
               have hfz30_2 := blk_frozen BK186.out 2
               obtain ⟨Ao31, co31, eo31⟩ := Kd.R_slice HO_3.out
               subst eo31
               have p196 : 0 ≤ (x8_2 : Int) := of_decide_eq_true (by first | (with_reducible assumption) | assumption)
               have q196 : x8_2 < (x3_1.length : Int) := of_decide_eq_true (by first | (with_reducible assumption) | assumption)
               obtain ⟨ad196, e196, hx196_0⟩ := Kd.at_bool (Kd.R_reads' HO_3.out).2.2 x8_2 p196 q196
               (try rw [← Nbq18.out] at hx196_0)
               cases e196
               replace p196 := eq_true p196
               replace q196 := eq_true q196
               obtain ⟨Ao32, co32, eo32⟩ := Kd.R_slice HO_6.out
               subst eo32
               have p198 : 0 ≤ (x8_2 : Int) := of_decide_eq_true (by first | (with_reducible assumption) | assumption)
               have q198 : x8_2 < (t190.length : Int) := of_decide_eq_true (by first | (with_reducible assumption) | assumption)
               obtain ⟨ad198, e198, hx198_0⟩ := Kd.at_bool (Kd.R_reads' HO_6.out).2.2 x8_2 p198 q198
               (try rw [← Nbq18.out] at hx198_0)
               cases e198
               replace p198 := eq_true p198
               replace q198 := eq_true q198
               have p29 : 0 ≤ (x8_2 : Int) := of_decide_eq_true (by first | (with_reducible assumption) | assumption)
               have q29 : (x8_2 : Int) < ((x7_2.length : Int) : Int) := of_decide_eq_true (by first | (with_reducible assumption) | assumption)
               obtain ⟨go29, co29, eo29, gb29, gl29, cl29, HG29⟩ := Kd.R_form HO_7.out (by omega)
               (first | cases eo29 | (injection eo29 with ea_ en_ ec_; (first | subst ea_ | (injection ea_ with ea_; subst ea_)); subst ec_; clear en_))
               have GB29 := Aside0.mk gb29
               have GG29 := Aside0.mk HG29
               clear gb29 gl29 HG29
               obtain ⟨hx29_0, hf29_0⟩ := Kd.R_celln false HO_7.out (x8_2 : Int) p29 q29
               replace p29 := eq_true p29
               replace q29 := eq_true q29
               have HP33 := Kd.R_putg HO_7.out (x8_2 : Int) (!(rdOf false t190 x8_2))
               go_wp2_with (first | ((with_reducible refine gate_store (t := 4) (p := 50) rfl ?_); refine store_event (t := 4) (p := 50) (v := ?vo_w34) (w1 := (wr.setCell ⟨go29, (x8_2 : Int).toNat, none⟩ (.bool (!(rdOf false t190 x8_2))))) ?hg ?ho ?hn ?hr ?_; (case ho => rfl); (case hg => rfl); (case hn => rfl); (case hr => first | (go_simp; done) | (go_simp; rfl)); intro w34 hw; have hg : wr.grownBy w34 (some go29) := (by rw [hw]; exact HP33.2); have hp_ : Kd.R Kd.bool 4 w34 w.heap.size (fun k_ => some k_ ≠ (.slice (some ad196) x3_1.length co31 : Value).ownBlock ∧ some k_ ≠ (.slice (some ad198) t190.length co32 : Value).ownBlock) (.slice (some ⟨go29, 0, none⟩) x7_2.length co29) y199 := (by rw [hw, Ny199.out]; exact HP33.1); clear HP33; have n0_ := Aside0.mk (Kd.R_after (v := (.slice (some ⟨go29, 0, none⟩) x7_2.length co29)) (v1 := (.slice (some ⟨go29, 0, none⟩) x7_2.length co29)) (ok := (fun k_ => some k_ ≠ (.slice (some ad198) t190.length co32 : Value).ownBlock)) (by (with_reducible repeat (first | apply Kd.R_alloc | apply Kd.R_drewN | apply Kd.R_drew)); exact HO_3.out) hg (.inl rfl)); have n1_ := Aside0.mk (Kd.S_after (v := (.slice (some ⟨go29, 0, none⟩) x7_2.length co29)) (v1 := (.slice (some ⟨go29, 0, none⟩) x7_2.length co29)) (ok := (fun k_ => some k_ ≠ (.slice (some ad196) x3_1.length co31 : Value).ownBlock ∧ some k_ ≠ (.slice (some ad198) t190.length co32 : Value).ownBlock)) (by (with_reducible repeat (first | apply Kd.S_alloc | apply Kd.S_drewN | apply Kd.S_drew)); exact Kd.S_mono HO_4.out (fun _ hk => ⟨⟨hk.1, hk.2.1⟩, hk.2.2⟩)) hg (.inl rfl)); have n2_ := Aside0.mk (Kd.R_after (v := (.slice (some ⟨go29, 0, none⟩) x7_2.length co29)) (v1 := (.slice (some ⟨go29, 0, none⟩) x7_2.length co29)) (ok := (fun k_ => some k_ ≠ (.slice (some ad196) x3_1.length co31 : Value).ownBlock)) (by (with_reducible repeat (first | apply Kd.R_alloc | apply Kd.R_drewN | apply Kd.R_drew)); exact HO_6.out) hg (.inl rfl)); have n3_ := Aside0.mk (hp_); have n4_ := Aside0.mk (blk_grown (g := gb186) (o := .cells #[.int .i64 a0_0, .int .i64 a0_1, .slice A0_2 l0_2.length c0_2] 24 (0, 0)) (by (with_reducible repeat (first | refine blk_drewN ?_ _ | refine blk_drew ?_ | refine blk_alloc ?_ _)); exact BK186.out) hg (Kd.R_ne HO_7.out BK186.out (by decide))); have n5_ := Aside0.mk ((by rw [hw]; exact below_set (HB.out) GB29.out : Below w.heap.size w w34)); clear HO_3; clear HO_4; clear HO_6; clear HO_7; clear BK186; clear HB; have HO_3 := n0_; have HO_4 := n1_; have HO_6 := n2_; have HO_7 := n3_; have BK186 := n4_; have HB := n5_; clear n0_ n1_ n2_ n3_ n4_ n5_; clear hg hw hp_))
               go_roundg k2
               case measure => have := HK1.out; have := HK2.out; omega
               case rel => exact ⟨(y199), (wrap64 (x8_2 + 1)), (by first | rfl | (simp; done) | (simp [*]; done)), H', ⟨by have := HK1.out; have := HK2.out; omega⟩, ⟨by (with_reducible repeat (first | apply Kd.R_alloc | apply Kd.R_drewN | apply Kd.R_drew)); exact HO_3.out⟩, ⟨by (with_reducible repeat (first | apply Kd.S_alloc | apply Kd.S_drewN | apply Kd.S_drew)); exact Kd.S_mono HO_4.out (fun _ hk => ⟨hk.1.1, ⟨hk.1.2, hk.2⟩⟩)⟩, ⟨by (with_reducible repeat (first | apply Kd.R_alloc | apply Kd.R_drewN | apply Kd.R_drew)); exact HO_6.out⟩, ⟨by (with_reducible repeat (first | apply Kd.R_alloc | apply Kd.R_drewN | apply Kd.R_drew)); exact HO_7.out⟩, ⟨by (with_reducible repeat (first | refine blk_drewN ?_ _ | refine blk_drew ?_ | refine blk_alloc ?_ _)); exact BK186.out⟩, ⟨by repeat (first | (with_reducible first | exact HB.out | apply below_alloc | apply pw_below_drewN | apply below_drew1 | refine below_set ?_ GE186.out) | exact HB.out)⟩⟩
              ·rw [if_neg c28] at H
               exact absurd H (by simp)
             ·rw [if_neg c27] at H
              exact absurd H (by simp)
           ·replace c19 := Bool.eq_false_iff.mpr c19
            subst c19
            have H1 : (if x8_2 < (x7_2.length : Int) then (davitref08_All.l1 k2 x3_1 x4_1 x5_1 t190 (x7_2.set (x8_2 : Int).toNat false) (wrap64 (x8_2 + 1)) a0_0 a0_1 l0_2) else (none)) = some r := by rw [if_neg (show ¬ (false = true) by decide)] at H; exact H
            clear H
            have H := H1
            clear H1
            by_cases c35 : x8_2 < (x7_2.length : Int)
            ·rw [if_pos c35] at H
             have c35b0 : decide (x8_2 < (x7_2.length : Int)) = true := decide_eq_true c35
             clear c35
             obtain ⟨y200, hy200⟩ : ∃ y_ : List Bool, y_ = (x7_2.set (x8_2 : Int).toNat false) := ⟨_, rfl⟩
             replace H : (davitref08_All.l1 k2 x3_1 x4_1 x5_1 t190 y200 (wrap64 (x8_2 + 1)) a0_0 a0_1 l0_2) = some r := by first | (rw [hy200]; with_reducible exact H) | (have H2_ := (Option.bind_some _ _).symm.trans H; rw [hy200]; with_reducible exact H2_) | (have H2_ := (Option.bind_some _ _).symm.trans H; with_reducible exact H2_) | with_reducible exact H | (rw [hy200]; exact H) | exact H
             have Ny200 := Aside0.mk hy200
             clear hy200
             have H' := Aside0.mk H
             clear H
             have hcz37_0 : wr.cell? ⟨gb186, 0, none⟩ = some (.int .i64 a0_0) := (blk_cell BK186.out 0).trans rfl
             have hcz37_1 : wr.cell? ⟨gb186, 1, none⟩ = some (.int .i64 a0_1) := (blk_cell BK186.out 1).trans rfl
             have hcz37_2 : wr.cell? ⟨gb186, 2, none⟩ = some (.slice A0_2 l0_2.length c0_2) := (blk_cell BK186.out 2).trans rfl
             have hfz37_0 := blk_frozen BK186.out 0
             have hfz37_1 := blk_frozen BK186.out 1
             have hfz37_2 := blk_frozen BK186.out 2
             obtain ⟨Ao38, co38, eo38⟩ := Kd.R_slice HO_3.out
             subst eo38
             have p196 : 0 ≤ (x8_2 : Int) := of_decide_eq_true (by first | (with_reducible assumption) | assumption)
             have q196 : x8_2 < (x3_1.length : Int) := of_decide_eq_true (by first | (with_reducible assumption) | assumption)
             obtain ⟨ad196, e196, hx196_0⟩ := Kd.at_bool (Kd.R_reads' HO_3.out).2.2 x8_2 p196 q196
             (try rw [← Nbq18.out] at hx196_0)
             cases e196
             replace p196 := eq_true p196
             replace q196 := eq_true q196
             have p36 : 0 ≤ (x8_2 : Int) := of_decide_eq_true (by first | (with_reducible assumption) | assumption)
             have q36 : (x8_2 : Int) < ((x7_2.length : Int) : Int) := of_decide_eq_true (by first | (with_reducible assumption) | assumption)
             obtain ⟨go36, co36, eo36, gb36, gl36, cl36, HG36⟩ := Kd.R_form HO_7.out (by omega)
             (first | cases eo36 | (injection eo36 with ea_ en_ ec_; (first | subst ea_ | (injection ea_ with ea_; subst ea_)); subst ec_; clear en_))
             have GB36 := Aside0.mk gb36
             have GG36 := Aside0.mk HG36
             clear gb36 gl36 HG36
             obtain ⟨hx36_0, hf36_0⟩ := Kd.R_celln false HO_7.out (x8_2 : Int) p36 q36
             replace p36 := eq_true p36
             replace q36 := eq_true q36
             have HP39 := Kd.R_putg HO_7.out (x8_2 : Int) false
             go_wp2_with (first | ((with_reducible refine gate_store (t := 4) (p := 50) rfl ?_); refine store_event (t := 4) (p := 50) (v := ?vo_w40) (w1 := (wr.setCell ⟨go36, (x8_2 : Int).toNat, none⟩ (.bool false))) ?hg ?ho ?hn ?hr ?_; (case ho => rfl); (case hg => rfl); (case hn => rfl); (case hr => first | (go_simp; done) | (go_simp; rfl)); intro w40 hw; have hg : wr.grownBy w40 (some go36) := (by rw [hw]; exact HP39.2); have hp_ : Kd.R Kd.bool 4 w40 w.heap.size (fun k_ => some k_ ≠ (.slice (some ad196) x3_1.length co38 : Value).ownBlock ∧ some k_ ≠ (v191 : Value).ownBlock) (.slice (some ⟨go36, 0, none⟩) x7_2.length co36) y200 := (by rw [hw, Ny200.out]; exact HP39.1); clear HP39; have n0_ := Aside0.mk (Kd.R_after (v := (.slice (some ⟨go36, 0, none⟩) x7_2.length co36)) (v1 := (.slice (some ⟨go36, 0, none⟩) x7_2.length co36)) (ok := (fun k_ => some k_ ≠ (v191 : Value).ownBlock)) (by (with_reducible repeat (first | apply Kd.R_alloc | apply Kd.R_drewN | apply Kd.R_drew)); exact HO_3.out) hg (.inl rfl)); have n1_ := Aside0.mk (Kd.S_after (v := (.slice (some ⟨go36, 0, none⟩) x7_2.length co36)) (v1 := (.slice (some ⟨go36, 0, none⟩) x7_2.length co36)) (ok := (fun k_ => some k_ ≠ (.slice (some ad196) x3_1.length co38 : Value).ownBlock ∧ some k_ ≠ (v191 : Value).ownBlock)) (by (with_reducible repeat (first | apply Kd.S_alloc | apply Kd.S_drewN | apply Kd.S_drew)); exact Kd.S_mono HO_4.out (fun _ hk => ⟨⟨hk.1, hk.2.1⟩, hk.2.2⟩)) hg (.inl rfl)); have n2_ := Aside0.mk (Kd.R_after (v := (.slice (some ⟨go36, 0, none⟩) x7_2.length co36)) (v1 := (.slice (some ⟨go36, 0, none⟩) x7_2.length co36)) (ok := (fun k_ => some k_ ≠ (.slice (some ad196) x3_1.length co38 : Value).ownBlock)) (by (with_reducible repeat (first | apply Kd.R_alloc | apply Kd.R_drewN | apply Kd.R_drew)); exact HO_6.out) hg (.inl rfl)); have n3_ := Aside0.mk (hp_); have n4_ := Aside0.mk (blk_grown (g := gb186) (o := .cells #[.int .i64 a0_0, .int .i64 a0_1, .slice A0_2 l0_2.length c0_2] 24 (0, 0)) (by (with_reducible repeat (first | refine blk_drewN ?_ _ | refine blk_drew ?_ | refine blk_alloc ?_ _)); exact BK186.out) hg (Kd.R_ne HO_7.out BK186.out (by decide))); have n5_ := Aside0.mk ((by rw [hw]; exact below_set (HB.out) GB36.out : Below w.heap.size w w40)); clear HO_3; clear HO_4; clear HO_6; clear HO_7; clear BK186; clear HB; have HO_3 := n0_; have HO_4 := n1_; have HO_6 := n2_; have HO_7 := n3_; have BK186 := n4_; have HB := n5_; clear n0_ n1_ n2_ n3_ n4_ n5_; clear hg hw hp_))
             go_roundg k2
             case measure => have := HK1.out; have := HK2.out; omega
             case rel => exact ⟨(y200), (wrap64 (x8_2 + 1)), (by first | rfl | (simp; done) | (simp [*]; done)), H', ⟨by have := HK1.out; have := HK2.out; omega⟩, ⟨by (with_reducible repeat (first | apply Kd.R_alloc | apply Kd.R_drewN | apply Kd.R_drew)); exact HO_3.out⟩, ⟨by (with_reducible repeat (first | apply Kd.S_alloc | apply Kd.S_drewN | apply Kd.S_drew)); exact Kd.S_mono HO_4.out (fun _ hk => ⟨hk.1.1, ⟨hk.1.2, hk.2⟩⟩)⟩, ⟨by (with_reducible repeat (first | apply Kd.R_alloc | apply Kd.R_drewN | apply Kd.R_drew)); exact HO_6.out⟩, ⟨by (with_reducible repeat (first | apply Kd.R_alloc | apply Kd.R_drewN | apply Kd.R_drew)); exact HO_7.out⟩, ⟨by (with_reducible repeat (first | refine blk_drewN ?_ _ | refine blk_drew ?_ | refine blk_alloc ?_ _)); exact BK186.out⟩, ⟨by repeat (first | (with_reducible first | exact HB.out | apply below_alloc | apply pw_below_drewN | apply below_drew1 | refine below_set ?_ GE186.out) | exact HB.out)⟩⟩
            ·rw [if_neg c35] at H
             exact absurd H (by simp)
          ·rw [if_neg c17] at H
           exact absurd H (by simp)
         ·rw [if_neg c16] at H
          exact absurd H (by simp)
        ·rw [if_neg c15] at H
         have c15b0 : decide (x8_2 < (l0_2.length : Int)) = false := decide_eq_false c15
         clear c15
         by_cases c41 : x4_1.length < 5864062014805
         ·rw [if_pos c41] at H
          have LMc41 := Aside0.mk c41
          clear c41
          obtain ⟨y201, hy201⟩ : ∃ y_ : List (List Bool), y_ = (x4_1 ++ [x7_2]) := ⟨_, rfl⟩
          replace H : (davitref08_All.l0 k2 x3_1 y201 (wrap64 (x5_1 + 1)) a0_0 a0_1 l0_2) = some r := by first | (rw [hy201]; with_reducible exact H) | (have H2_ := (Option.bind_some _ _).symm.trans H; rw [hy201]; with_reducible exact H2_) | (have H2_ := (Option.bind_some _ _).symm.trans H; with_reducible exact H2_) | with_reducible exact H | (rw [hy201]; exact H) | exact H
          have Ny201 := Aside0.mk hy201
          clear hy201
          have H' := Aside0.mk H
          clear H
          have hcz42_0 : wr.cell? ⟨gb186, 0, none⟩ = some (.int .i64 a0_0) := (blk_cell BK186.out 0).trans rfl
          have hcz42_1 : wr.cell? ⟨gb186, 1, none⟩ = some (.int .i64 a0_1) := (blk_cell BK186.out 1).trans rfl
          have hcz42_2 : wr.cell? ⟨gb186, 2, none⟩ = some (.slice A0_2 l0_2.length c0_2) := (blk_cell BK186.out 2).trans rfl
          have hfz42_0 := blk_frozen BK186.out 0
          have hfz42_1 := blk_frozen BK186.out 1
          have hfz42_2 := blk_frozen BK186.out 2
          obtain ⟨Ao44, co44, eo44⟩ := Kd.R_slice HO_7.out
          subst eo44
          go_wp2_with (first | ((with_reducible refine gate_builtin (b := .append) (xs := #[.tmp 51, .tmp 53]) rfl ?_); at_builtin; refine Kd.S_append (Kd.slice 4 Kd.bool) (w0 := w) w.heap.size rfl (.tmp 51) (.tmp 53) 56 32 (.slice none 0 0) 24 rfl Try.underlying56 info32 rfl (by decide) (by omega) u4 x4_1 x7_2 [.slice Ao44 x7_2.length co44] (fun k_ => some k_ ≠ (v188 : Value).ownBlock ∧ some k_ ≠ (v191 : Value).ownBlock) (fun k_ => some k_ = (.slice Ao44 x7_2.length co44 : Value).ownBlock) rfl rfl ?aP (fun k_ hk_ => ((Kd.R_mono (ok' := fun k_ => ((fun k_ => some k_ ≠ (v188 : Value).ownBlock ∧ some k_ ≠ (v191 : Value).ownBlock)) k_ ∧ some k_ ≠ (u4 : Value).ownBlock) (Kd.R_apart' (HO_7.out) (Kd.S_typed HO_4.out) (by decide)) (fun k_ hk => ⟨⟨hk.1.1, hk.1.2⟩, hk.2⟩))).1 k_ hk_.symm) ?aF ?aO ?aB ?aS ?aL ?_; (case aP => exact Kd.M_row (Kd.R_mono (Kd.R_tight rfl (Kd.R_mono (ok' := fun k_ => ((fun k_ => some k_ ≠ (v188 : Value).ownBlock ∧ some k_ ≠ (v191 : Value).ownBlock)) k_ ∧ some k_ ≠ (u4 : Value).ownBlock) (Kd.R_apart' (HO_7.out) (Kd.S_typed HO_4.out) (by decide)) (fun k_ hk => ⟨⟨hk.1.1, hk.1.2⟩, hk.2⟩))) (fun _ h_ => h_))); (case aB => exact (by repeat (first | (with_reducible first | exact HB.out | apply below_alloc | apply pw_below_drewN | apply below_drew1 | refine below_set ?_ GE186.out) | exact HB.out))); (case aF => exact (fun k_ hk => ⟨Kd.fresh' (Kd.R_lt (by (with_reducible repeat (first | apply Kd.R_alloc | apply Kd.R_drewN | apply Kd.R_drew)); exact HO_3.out)) k_ hk, Kd.fresh' (Kd.R_lt (by (with_reducible repeat (first | apply Kd.R_alloc | apply Kd.R_drewN | apply Kd.R_drew)); exact HO_6.out)) k_ hk⟩)); (case aO => exact (by (with_reducible repeat (first | apply Kd.S_alloc | apply Kd.S_drewN | apply Kd.S_drew)); exact Kd.S_mono HO_4.out (fun k_ hk => ⟨⟨hk.1, hk.2.1⟩, fun e_ => hk.2.2 e_⟩))); (case aS => exact (below_size (by repeat (first | (with_reducible first | exact HB.out | apply below_alloc | apply pw_below_drewN | apply below_drew1 | refine below_set ?_ GE186.out) | exact HB.out)))); (case aL => have := LMc41.out; omega); intro v202 w43 ho hb hg hat; rw [← Ny201.out] at ho; have n0_ := Aside0.mk (Kd.R_over' (by (with_reducible repeat (first | apply Kd.R_alloc | apply Kd.R_drewN | apply Kd.R_drew)); exact HO_3.out) (Kd.S_typed (by (with_reducible repeat (first | apply Kd.S_alloc | apply Kd.S_drewN | apply Kd.S_drew)); exact HO_4.out)) (by decide) hg); have n1_ := Aside0.mk (Kd.R_over' (by (with_reducible repeat (first | apply Kd.R_alloc | apply Kd.R_drewN | apply Kd.R_drew)); exact HO_6.out) (Kd.S_typed (by (with_reducible repeat (first | apply Kd.S_alloc | apply Kd.S_drewN | apply Kd.S_drew)); exact HO_4.out)) (by decide) hg); have n2_ := Aside0.mk (blk_grown (g := gb186) (o := .cells #[.int .i64 a0_0, .int .i64 a0_1, .slice A0_2 l0_2.length c0_2] 24 (0, 0)) (by (with_reducible repeat (first | refine blk_drewN ?_ _ | refine blk_drew ?_ | refine blk_alloc ?_ _)); exact BK186.out) hg (Kd.S_ne HO_4.out BK186.out (by decide))); have n3_ := Aside0.mk (hb); have n4_ := Aside0.mk (ho); clear HO_3; clear HO_6; clear BK186; clear HB; clear HO_4; clear HO_7; have HO_3 := n0_; have HO_6 := n1_; have BK186 := n2_; have HB := n3_; have HO203 := n4_; clear n0_ n1_ n2_ n3_ n4_; clear ho hb hg hat))
          go_roundg k2
          case measure => have := HK1.out; have := HK2.out; omega
          case rel => exact ⟨(x3_1), (y201), (wrap64 (x5_1 + 1)), (by first | rfl | (simp; done) | (simp [*]; done)), H', ⟨by have := HK1.out; have := HK2.out; omega⟩, ⟨by (with_reducible repeat (first | apply Kd.R_alloc | apply Kd.R_drewN | apply Kd.R_drew)); exact Kd.R_mono HO_3.out (fun _ hk => trivial)⟩, ⟨by (with_reducible repeat (first | apply Kd.S_alloc | apply Kd.S_drewN | apply Kd.S_drew)); exact Kd.S_mono HO203.out (fun _ hk => hk.1)⟩, ⟨by (with_reducible repeat (first | refine blk_drewN ?_ _ | refine blk_drew ?_ | refine blk_alloc ?_ _)); exact BK186.out⟩, ⟨by repeat (first | (with_reducible first | exact HB.out | apply below_alloc | apply pw_below_drewN | apply below_drew1 | refine below_set ?_ GE186.out) | exact HB.out)⟩⟩
         ·rw [if_neg c41] at H
          exact absurd H (by simp)
     ·rw [if_neg c9] at H
      exact absurd H (by simp)
    ·rw [if_neg c8] at H
     exact absurd H (by simp)
   ·rw [if_neg c6] at H
    have c6b0 : decide (x5_1 < (l0_2.length : Int)) = false := decide_eq_false c6
    clear c6
    obtain rfl := Option.some.inj H
    have hcz45_0 : wr.cell? ⟨gb186, 0, none⟩ = some (.int .i64 a0_0) := (blk_cell BK186.out 0).trans rfl
    have hcz45_1 : wr.cell? ⟨gb186, 1, none⟩ = some (.int .i64 a0_1) := (blk_cell BK186.out 1).trans rfl
    have hcz45_2 : wr.cell? ⟨gb186, 2, none⟩ = some (.slice A0_2 l0_2.length c0_2) := (blk_cell BK186.out 2).trans rfl
    have hfz45_0 := blk_frozen BK186.out 0
    have hfz45_1 := blk_frozen BK186.out 1
    have hfz45_2 := blk_frozen BK186.out 2
    go_wp2
    go_ret
    exact ⟨_, by first | rfl | (simp [errW_none, errW_some] <;> rfl) | (simp [*, errW_none, errW_some] <;> rfl), by (with_reducible repeat (first | apply Kd.S_alloc | apply Kd.S_drewN | apply Kd.S_drew)); exact Kd.S_mono HO_4.out (fun _ hk => trivial), by repeat (first | (with_reducible first | exact HB.out | apply below_alloc | apply pw_below_drewN | apply below_drew1 | refine below_set ?_ GE186.out) | exact HB.out)⟩
end
end Go.Proofs.Ytilopoegoddggaa.X
namespace Go.Proofs.Ytilopoegoddggaa.X
open Go.RowKit Go.Proofs.YtilopoegoddggaaW.PrintWords Go.Proofs.YtilopoegoddggaaW.PrintLast Go.Proofs.YtilopoegoddggaaW.PrintMore
open Go.Proofs.Ytilopoegoddggaa.G
set_option linter.all false
theorem refnext_l0 (a0 a1 : Int) (bs : List S50) (l : List Int) (hl : l.length ≤ 3) : ∀ (d : Nat) (i : Int) (out : List Int), 0 ≤ i → i + d = l.length → out.length ≤ i.toNat →
  Evt (fun k => davitref07_Next.l0 k l out i a0 a1 bs) (out ++ (l.drop i.toNat).filter fun k => isB bs.length k)
 | 0, i, out, h0, h1, h2 => by
  refine Evt.succ ?_
  simp only [davitref07_Next.l0, if_neg (show ¬ i < (l.length : Int) by omega)]
  rw [List.drop_eq_nil_of_le (by omega), List.filter_nil, List.append_nil]
  exact Evt.pure _
 | d + 1, i, out, h0, h1, h2 => by
  have hlt : i < (l.length : Int) := by omega
  rw [rd_get h0 hlt]
  refine Evt.succ ?_
  simp only [davitref07_Next.l0, if_pos hlt, if_pos h0, wrap64_small (i + 1) (by omega) (by omega), if_pos (show out.length < 17592186044416 by omega)]
  by_cases e1 : rd l i ≥ 0
  ·by_cases e2 : rd l i < (bs.length : Int)
   ·simp only [if_pos e1, if_pos e2]
    have := refnext_l0 a0 a1 bs l hl d (i + 1) (out ++ [rd l i]) (by omega) (by omega) (by simp; omega)
    rw [List.filter_cons, if_pos ((isB_iff _ _).2 ⟨e1, e2⟩)]
    rw [List.append_assoc] at this
    exact this
   ·simp only [if_pos e1, if_neg e2]
    have := refnext_l0 a0 a1 bs l hl d (i + 1) out (by omega) (by omega) (by omega)
    rw [List.filter_cons, if_neg (fun h => e2 ((isB_iff _ _).1 h).2)]
    exact this
  ·simp only [if_neg e1]
   have := refnext_l0 a0 a1 bs l hl d (i + 1) out (by omega) (by omega) (by omega)
   rw [List.filter_cons, if_neg (fun h => e1 ((isB_iff _ _).1 h).1)]
   exact this
theorem refnext_ev (a0 a1 : Int) (bs : List S50) (n : Int) : Evt (fun k => davitref07_Next.f k a0 a1 bs n) (nextL bs n) := by
 have hoff : isB bs.length n = false → Evt (fun k => davitref07_Next.j0 k n true a0 a1 bs) (nextL bs n) := fun h => by
  refine Evt.succ ?_
  simp only [davitref07_Next.j0, if_pos, nextL, h, if_neg Bool.false_ne_true]
  exact Evt.pure _
 unfold davitref07_Next.f
 by_cases h1 : n < 0
 ·simp only [if_pos h1]
  exact hoff (by simp [isB]; omega)
 ·by_cases h2 : n ≥ (bs.length : Int)
  ·simp only [if_neg h1, decide_eq_true h2]
   exact hoff (by simp [isB]; omega)
  ·have hb : isB bs.length n = true := (isB_iff _ _).2 ⟨by omega, by omega⟩
   simp only [if_neg h1, decide_eq_false h2, nextL, hb, if_pos]
   have key : ∀ l : List Int, l = allL (rd_T50 bs n) → Evt (fun k => davitref07_Next.l0 k l [] 0 a0 a1 bs) ((allL (rd_T50 bs n)).filter fun k => isB bs.length k) := fun l e => by
    subst e
    have := refnext_l0 a0 a1 bs _ (allL_len (rd_T50 bs n)) _ 0 [] (by omega) (Int.zero_add _) (by simp)
    simpa using this
   refine Evt.succ ?_
   simp only [davitref07_Next.j0, if_neg Bool.false_ne_true, if_pos (show 0 ≤ n by omega), if_pos (show n < (bs.length : Int) by omega)]
   by_cases k2 : (rd_T50 bs n).f3.f0 = 2
   ·simp only [if_pos k2]
    refine Evt.succ ?_
    simp only [davitref07_Next.j1, if_pos, List.length_nil, if_pos (show 0 < 17592186044416 by omega)]
    refine Evt.succ ?_
    simp only [davitref07_Next.j2, k2, if_neg (show ¬ (2 : Int) = 3 by omega)]
    refine Evt.succ ?_
    simp only [davitref07_Next.j3, if_neg (show ¬ (2 : Int) = 4 by omega)]
    refine Evt.succ ?_
    simp only [davitref07_Next.j4]
    exact key _ (by simp [allL, goalsL, k2])
   ·by_cases k3 : (rd_T50 bs n).f3.f0 = 3
    ·simp only [if_neg k2, if_pos k3]
     refine Evt.succ ?_
     simp only [davitref07_Next.j1, if_pos, List.length_nil, if_pos (show 0 < 17592186044416 by omega)]
     refine Evt.succ ?_
     simp only [davitref07_Next.j2, k3, if_pos]
     simp only [List.nil_append, List.length_cons, List.length_nil, if_pos (show 0 + 1 < 17592186044416 by omega)]
     refine Evt.succ ?_
     simp only [davitref07_Next.j3, if_neg (show ¬ (3 : Int) = 4 by omega)]
     refine Evt.succ ?_
     simp only [davitref07_Next.j4]
     exact key _ (by simp [allL, goalsL, k3])
    ·simp only [if_neg k2, if_neg k3]
     by_cases k4 : (rd_T50 bs n).f3.f0 = 4
     ·simp only [k4]
      refine Evt.succ ?_
      simp only [davitref07_Next.j1, beq_self_eq_true, if_pos, List.length_nil, if_pos (show 0 < 17592186044416 by omega)]
      refine Evt.succ ?_
      simp only [davitref07_Next.j2, if_neg (show ¬ (4 : Int) = 3 by omega)]
      refine Evt.succ ?_
      simp only [davitref07_Next.j3, if_pos, List.nil_append, List.length_cons, List.length_nil, if_pos (show 0 + 1 < 17592186044416 by omega)]
      refine Evt.succ ?_
      simp only [davitref07_Next.j4]
      exact key _ (by simp [allL, goalsL, k4])
     ·refine Evt.succ ?_
      simp only [davitref07_Next.j1, show ((rd_T50 bs n).f3.f0 == 4) = false by simp [k4], if_neg Bool.false_ne_true]
      refine Evt.succ ?_
      simp only [davitref07_Next.j2, if_neg k3]
      refine Evt.succ ?_
      simp only [davitref07_Next.j3, if_neg k4]
      refine Evt.succ ?_
      simp only [davitref07_Next.j4]
      exact key _ (by simp [allL, goalsL, k2, k3, k4])
open Classical in
noncomputable def lst (P : Int → Prop) (N : Nat) : List Bool := (upTo N).map fun i => decide (P i)
theorem lst_len (P : Int → Prop) (N : Nat) : (lst P N).length = N := by simp [lst, upTo_len]
theorem upTo_get {N : Nat} {i : Nat} (h : i < N) : (upTo N)[i]? = some (i : Int) := by
 simp [upTo, List.getElem?_map, List.getElem?_range h]
open Classical in
theorem lst_rd (P : Int → Prop) {N : Nat} {i : Int} (h0 : 0 ≤ i) (h1 : i < N) : rdOf false (lst P N) i = decide (P i) := by
 unfold rdOf lst
 rw [List.getD_eq_getElem?_getD, List.getElem?_map, upTo_get (show i.toNat < N by omega)]
 simp only [Option.map_some, Option.getD_some]
 rw [show ((i.toNat : Nat) : Int) = i by omega]
open Classical in
theorem lst_eq {P : Int → Prop} {N : Nat} {s : List Bool} (hl : s.length = N) (h : ∀ i : Int, 0 ≤ i → i < N → (rdOf false s i = true ↔ P i)) : s = lst P N := by
 refine List.ext_getElem (by rw [hl, lst_len]) fun j h1 h2 => ?_
 have e1 : rdOf false s (j : Int) = s[j] := by unfold rdOf; simp [List.getD_eq_getElem?_getD, List.getElem?_eq_getElem h1]
 have e2 : rdOf false (lst P N) (j : Int) = (lst P N)[j] := by unfold rdOf; simp [List.getD_eq_getElem?_getD, List.getElem?_eq_getElem h2]
 have := h j (by omega) (by omega)
 rw [← e1, ← e2, lst_rd P (by omega) (by omega)]
 by_cases hp : P j
 ·rw [this.2 hp, decide_eq_true hp]
 ·rw [decide_eq_false hp]
  cases hb : rdOf false s (j : Int) with
  | false => rfl
  | true => exact absurd (this.1 hb) hp
section
variable {bs : List S50} {no : Int} (a0 a1 : Int)
structure Snd (bs : List S50) (P : Int → Prop) (s : List Bool) : Prop where
 len : s.length = bs.length
 snd : ∀ i : Int, 0 ≤ i → i < bs.length → rdOf false s i = true → P i
theorem Snd.set {P : Int → Prop} {s : List Bool} (h : Snd bs P s) {b : Int} (h0 : 0 ≤ b) (h1 : b < bs.length) (hp : P b) : Snd bs P (s.set b.toNat true) := by
 refine ⟨by rw [List.length_set]; exact h.len, fun i a c hi => ?_⟩
 rw [rdOf_set s b i true h0 (by have := h.len; omega) a] at hi
 by_cases e : i = b
 ·exact e ▸ hp
 ·rw [if_neg e] at hi; exact h.snd i a c hi
abbrev RW (bs : List S50) (no : Int) : Int → Prop := Rch bs.length (nextL bs) no
theorem without_l2 (hl : bs.length ≤ 1000) (R : List Bool) (c0 : Nat) (i : Int) (hi : 0 ≤ i) (hi1 : i < bs.length)
  (K : ∀ s more, Snd bs (RW bs no) s → rdOf false s 0 = true → (more = false → ∀ j : Int, 0 ≤ j → j < i + 1 → rdOf false s j = true → ∀ b ∈ nextL bs j, b ≠ no → rdOf false s b = true) → s.count false ≤ c0 → (more = true → s.count false < c0) → Evt (fun k => davitref07_Without.l1 k no s more (i + 1) a0 a1 bs) R) :
  ∀ (d : Nat) (p : Int) (s : List Bool) (more : Bool), 0 ≤ p → p + d = (nextL bs i).length → Snd bs (RW bs no) s → rdOf false s 0 = true →
   (more = false → ∀ j : Int, 0 ≤ j → j < i → rdOf false s j = true → ∀ b ∈ nextL bs j, b ≠ no → rdOf false s b = true) → (more = false → rdOf false s i = true → ∀ b ∈ (nextL bs i).take p.toNat, b ≠ no → rdOf false s b = true) → s.count false ≤ c0 → (more = true → s.count false < c0) →
   Evt (fun k => davitref07_Without.l2 k no s more i (nextL bs i) p a0 a1 bs) R
 | 0, p, s, more, h0, h1, hs, hz, hc, ht, hn, hm => by
  refine Evt.succ ?_
  simp only [davitref07_Without.l2, if_neg (show ¬ p < ((nextL bs i).length : Int) by omega), wrap64_small (i + 1) (by omega) (by omega)]
  refine K s more hs hz (fun e j j0 j1 hj b hb hbn => ?_) hn hm
  by_cases e' : j = i
  ·subst e'
   exact ht e hj b (by rw [List.take_of_length_le (by omega)]; exact hb) hbn
  ·exact hc e j j0 (by omega) hj b hb hbn
 | d + 1, p, s, more, h0, h1, hs, hz, hc, ht, hn, hm => by
  have hlt : p < ((nextL bs i).length : Int) := by omega
  have h3 := next_len bs i
  have hw := wrap64_small (p + 1) (by omega) (by omega)
  have hlen := hs.len
  have hmem := rd_mem h0 hlt
  have hv := (next_edges bs _ _ hmem).2
  have htk : (nextL bs i).take (p + 1).toNat = (nextL bs i).take p.toNat ++ [rd (nextL bs i) p] := by
   rw [show (p + 1).toNat = p.toNat + 1 by omega]
   exact take_one _ _ 0 (by omega)
  refine Evt.succ ?_
  cases hsi : rdOf false s i with
  | false =>
   simp only [davitref07_Without.l2, if_pos hlt, if_pos hi, if_pos (show i < (s.length : Int) by omega), hsi, if_neg Bool.false_ne_true, hw]
   exact without_l2 hl R c0 i hi hi1 K d (p + 1) s more (by omega) (by omega) hs hz hc (fun e h => by rw [hsi] at h; cases h) hn hm
  | true =>
   simp only [davitref07_Without.l2, if_pos hlt, if_pos hi, if_pos (show i < (s.length : Int) by omega), hsi, if_pos, if_pos h0, hw]
   by_cases e1 : rd (nextL bs i) p = no
   ·simp only [if_pos e1]
    exact without_l2 hl R c0 i hi hi1 K d (p + 1) s more (by omega) (by omega) hs hz hc (fun e h b hb hbn => by
     rw [htk] at hb
     rcases List.mem_append.1 hb with hb | hb
     ·exact ht e h b hb hbn
     ·exact absurd ((List.mem_singleton.1 hb).trans e1) hbn) hn hm
   ·simp only [if_neg e1, if_pos hv.1, if_pos (show rd (nextL bs i) p < (s.length : Int) by omega)]
    cases hsb : rdOf false s (rd (nextL bs i) p) with
    | true =>
     simp only [if_pos]
     exact without_l2 hl R c0 i hi hi1 K d (p + 1) s more (by omega) (by omega) hs hz hc (fun e h b hb hbn => by
      rw [htk] at hb
      rcases List.mem_append.1 hb with hb | hb
      ·exact ht e h b hb hbn
      ·rw [List.mem_singleton.1 hb]; exact hsb) hn hm
    | false =>
     simp only [if_neg Bool.false_ne_true]
     have hcn := count_unseen s _ hv.1 (by omega) hsb
     refine without_l2 hl R c0 i hi hi1 K d (p + 1) _ true (by omega) (by omega) (hs.set hv.1 hv.2 (.step (hs.snd i hi hi1 hsi) hmem e1)) ?_ (by simp) (by simp) (by omega) (fun _ => by omega)
     rw [rdOf_set s _ 0 true hv.1 (by omega) (by omega)]
     split
     ·rfl
     ·exact hz
theorem without_l1 (hl : bs.length ≤ 1000) (R : List Bool) (c0 : Nat)
  (K : ∀ s more, Snd bs (RW bs no) s → rdOf false s 0 = true → (more = false → ∀ j : Int, 0 ≤ j → j < bs.length → rdOf false s j = true → ∀ b ∈ nextL bs j, b ≠ no → rdOf false s b = true) → (more = true → s.count false < c0) → Evt (fun k => davitref07_Without.l0 k no s more a0 a1 bs) R) :
  ∀ (d : Nat) (i : Int) (s : List Bool) (more : Bool), 0 ≤ i → i + d = bs.length → Snd bs (RW bs no) s → rdOf false s 0 = true →
   (more = false → ∀ j : Int, 0 ≤ j → j < i → rdOf false s j = true → ∀ b ∈ nextL bs j, b ≠ no → rdOf false s b = true) → s.count false ≤ c0 → (more = true → s.count false < c0) →
   Evt (fun k => davitref07_Without.l1 k no s more i a0 a1 bs) R
 | 0, i, s, more, h0, h1, hs, hz, hc, hn, hm => by
  have hlen := hs.len
  refine Evt.succ ?_
  simp only [davitref07_Without.l1, if_neg (show ¬ i < (s.length : Int) by omega)]
  exact K s more hs hz (fun e j j0 j1 => hc e j j0 (by omega)) hm
 | d + 1, i, s, more, h0, h1, hs, hz, hc, hn, hm => by
  have hlen := hs.len
  refine Evt.succ ?_
  simp only [davitref07_Without.l1, if_pos (show i < (s.length : Int) by omega)]
  refine Evt.bind (refnext_ev a0 a1 bs i) ?_
  exact without_l2 a0 a1 hl R c0 i h0 (by omega) (fun s' more' q1 q2 q3 q4 q5 => without_l1 hl R c0 K d (i + 1) s' more' (by omega) (by omega) q1 q2 q3 q4 q5) _ 0 s more (by omega) (by rw [Int.zero_add]) hs hz hc (by simp) hn hm
theorem without_l0 (hl : bs.length ≤ 1000) : ∀ (c : Nat) (s : List Bool), Snd bs (RW bs no) s → rdOf false s 0 = true → s.count false ≤ c → Evt (fun k => davitref07_Without.l0 k no s true a0 a1 bs) (lst (RW bs no) bs.length) := by
 intro c
 induction c using Nat.strongRecOn with
 | ind c ih =>
  intro s hs hz hc
  refine Evt.succ ?_
  simp only [davitref07_Without.l0, if_pos]
  refine without_l1 a0 a1 hl _ c (fun s' more' q1 q2 q3 q4 => ?_) bs.length 0 s false (by omega) (by omega) hs hz (fun _ j j0 j1 => by omega) hc (by simp)
  cases more' with
  | true => exact ih _ (q4 rfl) s' q1 q2 (Nat.le_refl _)
  | false =>
   refine Evt.succ ?_
   simp only [davitref07_Without.l0, if_neg Bool.false_ne_true]
   rw [show s' = lst (RW bs no) bs.length from lst_eq q1.len fun i i0 i1 => ⟨q1.snd i i0 i1, fun h => ?_⟩]
   ·exact Evt.pure _
   ·induction h with
    | zero _ _ => exact q2
    | step ha hb hne ihh =>
     have hv := next_edges bs _ _ hb
     exact q3 rfl _ hv.1.1 hv.1.2 (ihh hv.1.1 hv.1.2) _ hb hne
theorem without_ev (hl : bs.length ≤ 1000) (no : Int) : Evt (fun k => davitref07_Without.f k a0 a1 bs no) (lst (RW bs no) bs.length) := by
 unfold davitref07_Without.f
 simp only [if_pos (show 0 ≤ (bs.length : Int) by omega), Int.toNat_natCast, if_pos (show bs.length ≤ 281474976710656 by omega), Option.bind_some, List.length_replicate]
 have hrep : ∀ i : Int, rdOf false (List.replicate bs.length false) i = false := by
  intro m
  unfold rdOf
  rw [List.getD_eq_getElem?_getD]
  by_cases h : m.toNat < bs.length
  ·rw [List.getElem?_replicate, if_pos h]; rfl
  ·rw [List.getElem?_replicate, if_neg h]; rfl
 have hoff : (∀ i, ¬ RW bs no i) → Evt (fun k => davitref07_Without.j0 k no (List.replicate bs.length false) true a0 a1 bs) (lst (RW bs no) bs.length) := fun h => by
  refine Evt.succ ?_
  simp only [davitref07_Without.j0, if_pos]
  rw [show List.replicate bs.length false = lst (RW bs no) bs.length from lst_eq (by simp) fun i i0 i1 => by rw [hrep i]; simp [h i]]
  exact Evt.pure _
 by_cases h0 : bs.length = 0
 ·simp only [if_pos (show (bs.length : Int) = 0 by omega)]
  exact hoff fun i h => by have := h.inV (next_edges bs); omega
 ·simp only [if_neg (show ¬ (bs.length : Int) = 0 by omega)]
  by_cases e : no = 0
  ·simp only [show (no == 0) = true by simp [e]]
   exact hoff fun i h => by subst e; exact no_rch0 h
  ·simp only [show (no == 0) = false by simp [e]]
   refine Evt.succ ?_
   simp only [davitref07_Without.j0, if_neg Bool.false_ne_true, List.length_replicate, if_pos (show 0 < (bs.length : Int) by omega)]
   refine without_l0 a0 a1 hl _ _ (Snd.set ⟨by simp, fun i _ _ h => by rw [hrep i] at h; cases h⟩ (by omega) (by omega) (.zero (by omega) (fun h => e h.symm))) ?_ (Nat.le_refl _)
   have := rdOf_set (List.replicate bs.length false) 0 0 true (by omega) (by simp; omega) (by omega)
   rw [this, if_pos rfl]
theorem refreached_ev (hl : bs.length ≤ 1000) : Evt (fun k => davitref07_Reached.f k a0 a1 bs) (lst (RR bs) bs.length) := by
 unfold davitref07_Reached.f
 exact Evt.bind (without_ev a0 a1 hl (-1)) (Evt.pure _)
end
end Go.Proofs.Ytilopoegoddggaa.X
namespace Go.Proofs.Ytilopoegoddggaa.X
open Go.RowKit Go.Proofs.YtilopoegoddggaaW.PrintWords Go.Proofs.YtilopoegoddggaaW.PrintLast Go.Proofs.YtilopoegoddggaaW.PrintMore
open Go.Proofs.Ytilopoegoddggaa.G
open Classical
set_option linter.all false
noncomputable def allT (bs : List S50) : List (List Bool) := (upTo bs.length).map fun a => lst (DD bs a) bs.length
theorem allT_len (bs : List S50) : (allT bs).length = bs.length := by simp [allT, upTo_len]
theorem allT_rd (bs : List S50) {a : Int} (h0 : 0 ≤ a) (h1 : a < bs.length) : rd_L12 (allT bs) a = lst (DD bs a) bs.length := by
 unfold rd_L12 allT
 rw [List.getD_eq_getElem?_getD, List.getElem?_map, upTo_get (show a.toNat < bs.length by omega)]
 simp only [Option.map_some, Option.getD_some]
 rw [show ((a.toNat : Nat) : Int) = a by omega]
section
variable {bs : List S50} (a0 a1 : Int)
theorem rep_rd (n : Nat) (m : Int) : rdOf false (List.replicate n false) m = false := by
 unfold rdOf
 rw [List.getD_eq_getElem?_getD]
 by_cases h : m.toNat < n
 ·rw [List.getElem?_replicate, if_pos h]; rfl
 ·rw [List.getElem?_replicate, if_neg h]; rfl
theorem all_l1 (hl : bs.length ≤ 1000) (R : List (List Bool)) (out : List (List Bool)) (ho : out.length ≤ 1000) (a : Int) (ha : 0 ≤ a ∧ a < bs.length)
  (K : Evt (fun k => davitref08_All.l0 k (lst (RR bs) bs.length) (out ++ [lst (DD bs a) bs.length]) (a + 1) a0 a1 bs) R) :
  ∀ (d : Nat) (i : Int) (row : List Bool), 0 ≤ i → i + d = bs.length → row.length = bs.length → (∀ j : Int, 0 ≤ j → j < i → (rdOf false row j = true ↔ DD bs a j)) →
   Evt (fun k => davitref08_All.l1 k (lst (RR bs) bs.length) out a (lst (RW bs a) bs.length) row i a0 a1 bs) R
 | 0, i, row, h0, h1, hr, hj => by
  refine Evt.succ ?_
  simp only [davitref08_All.l1, if_neg (show ¬ i < (bs.length : Int) by omega), if_pos (show out.length < 5864062014805 by omega), wrap64_small (a + 1) (by omega) (by omega)]
  rw [show row = lst (DD bs a) bs.length from lst_eq hr fun j j0 j1 => hj j j0 (by omega)]
  exact K
 | d + 1, i, row, h0, h1, hr, hj => by
  have hi : i < (bs.length : Int) := by omega
  refine Evt.succ ?_
  have step : ∀ b : Bool, (b = true ↔ DD bs a i) → Evt (fun k => davitref08_All.l1 k (lst (RR bs) bs.length) out a (lst (RW bs a) bs.length) (row.set i.toNat b) (i + 1) a0 a1 bs) R := fun b hb => by
   refine all_l1 hl R out ho a ha K d (i + 1) _ (by omega) (by omega) (by rw [List.length_set]; exact hr) fun j j0 j1 => ?_
   rw [rdOf_set row i j b h0 (by omega) j0]
   by_cases e : j = i
   ·rw [if_pos e, e]; exact hb
   ·rw [if_neg e]; exact hj j j0 (by omega)
  simp only [davitref08_All.l1, if_pos hi, if_pos h0, lst_len, hr, lst_rd (RR bs) h0 hi, lst_rd (RW bs a) h0 hi, wrap64_small (i + 1) (by omega) (by omega)]
  by_cases hR : RR bs i
  ·simp only [decide_eq_true hR, if_pos]
   by_cases e : a = i
   ·simp only [if_pos e]
    exact step true ⟨fun _ => by rw [e]; exact Dom.refl (next_edges bs) hR, fun _ => rfl⟩
   ·simp only [if_neg e]
    refine step _ ?_
    by_cases hw : RW bs a i
    ·rw [decide_eq_true hw]
     exact ⟨fun h => (by simp at h), fun h => absurd hw (h.2.2.resolve_left e)⟩
    ·rw [decide_eq_false hw]
     exact ⟨fun _ => ⟨hR, by omega, .inr hw⟩, fun _ => rfl⟩
  ·simp only [decide_eq_false hR, if_neg Bool.false_ne_true]
   exact step false ⟨fun h => (by cases h), fun h => absurd h.1 hR⟩
theorem all_l0 (hl : bs.length ≤ 1000) : ∀ (d : Nat) (a : Int), 0 ≤ a → a + d = bs.length → Evt (fun k => davitref08_All.l0 k (lst (RR bs) bs.length) ((upTo a.toNat).map fun a => lst (DD bs a) bs.length) a a0 a1 bs) (allT bs)
 | 0, a, h0, h1 => by
  refine Evt.succ ?_
  simp only [davitref08_All.l0, if_neg (show ¬ a < (bs.length : Int) by omega)]
  rw [show a.toNat = bs.length by omega]
  exact Evt.pure _
 | d + 1, a, h0, h1 => by
  have ha : a < (bs.length : Int) := by omega
  refine Evt.succ ?_
  simp only [davitref08_All.l0, if_pos ha]
  refine Evt.bind (without_ev a0 a1 hl a) ?_
  simp only [if_pos (show 0 ≤ (bs.length : Int) by omega), Int.toNat_natCast, if_pos (show bs.length ≤ 281474976710656 by omega)]
  refine all_l1 a0 a1 hl _ _ (by simp [upTo_len]; omega) a ⟨h0, ha⟩ ?_ bs.length 0 _ (by omega) (by omega) (by simp) (fun j j0 j1 => by omega)
  have := all_l0 hl d (a + 1) (by omega) (by omega)
  rw [show (a + 1).toNat = a.toNat + 1 by omega, upTo_succ, List.map_append, List.map_cons, List.map_nil, show ((a.toNat : Nat) : Int) = a by omega] at this
  exact this
theorem refall_ev (hl : bs.length ≤ 1000) : Evt (fun k => davitref08_All.f k a0 a1 bs) (allT bs) := by
 unfold davitref08_All.f
 exact Evt.bind (refreached_ev a0 a1 hl) (all_l0 a0 a1 hl bs.length 0 (by omega) (by omega))
end
end Go.Proofs.Ytilopoegoddggaa.X
namespace Go.Proofs.Ytilopoegoddggaa.X
open Go.RowKit Go.Proofs.YtilopoegoddggaaW.PrintWords Go.Proofs.YtilopoegoddggaaW.PrintLast Go.Proofs.YtilopoegoddggaaW.PrintMore
open Go.Proofs.Ytilopoegoddggaa.G
open Classical
set_option linter.all false
theorem strict_ext : ∀ (l l' : List Int), l.Pairwise (· < ·) → l'.Pairwise (· < ·) → (∀ x, x ∈ l ↔ x ∈ l') → l = l'
 | [], [], _, _, _ => rfl
 | [], y :: l', _, _, h => absurd ((h y).2 (List.mem_cons_self ..)) (by simp)
 | x :: l, [], _, _, h => absurd ((h x).1 (List.mem_cons_self ..)) (by simp)
 | x :: l, y :: l', h1, h2, h => by
  obtain ⟨a1, a2⟩ := List.pairwise_cons.1 h1
  obtain ⟨b1, b2⟩ := List.pairwise_cons.1 h2
  have e : x = y := by
   rcases List.mem_cons.1 ((h x).1 (List.mem_cons_self ..)) with e | e
   ·exact e
   ·rcases List.mem_cons.1 ((h y).2 (List.mem_cons_self ..)) with e' | e'
    ·exact e'.symm
    ·have := a1 y e'; have := b1 x e; omega
  subst e
  congr 1
  refine strict_ext l l' a2 b2 fun z => ⟨fun hz => ?_, fun hz => ?_⟩
  ·rcases List.mem_cons.1 ((h z).1 (List.mem_cons_of_mem _ hz)) with e | e
   ·have := a1 z hz; omega
   ·exact e
  ·rcases List.mem_cons.1 ((h z).2 (List.mem_cons_of_mem _ hz)) with e | e
   ·have := b1 z hz; omega
   ·exact e
theorem upTo_strict : ∀ n, (upTo n).Pairwise (· < ·)
 | 0 => by simp [upTo]
 | n + 1 => by
  rw [upTo_succ]
  refine List.pairwise_append.2 ⟨upTo_strict n, by simp, fun a ha b hb => ?_⟩
  rw [List.mem_singleton.1 hb]
  exact (mem_upTo.1 ha).2
section
variable {bs : List S50} (a0 a1 : Int)
end
end Go.Proofs.Ytilopoegoddggaa.X
namespace Go.Proofs.Ytilopoegoddggaa.X
open Go.RowKit Go.Proofs.YtilopoegoddggaaW.PrintWords Go.Proofs.YtilopoegoddggaaW.PrintLast Go.Proofs.YtilopoegoddggaaW.PrintMore
open Go.Proofs.Ytilopoegoddggaa.G
open Classical
set_option linter.all false
theorem Evt.at {α : Type} {g : Nat → Option α} {r q : α} (h : Evt g r) (hm : ∀ k, LeO (g k) (g (k + 1))) {k : Nat} (hq : g k = some q) : r = q := by
 obtain ⟨K, hK⟩ := h
 have h1 := more_rounds hm k (K - k) q hq
 by_cases hk : K ≤ k
 ·rw [hK k hk] at hq; exact Option.some.inj hq
 ·rw [hK (k + (K - k)) (by omega)] at h1
  exact Option.some.inj h1
end Go.Proofs.Ytilopoegoddggaa.X
namespace Go.Proofs.Ytilopoegoddggaa.X
open Go.RowKit Go.Proofs.YtilopoegoddggaaW.PrintWords Go.Proofs.YtilopoegoddggaaW.PrintLast Go.Proofs.YtilopoegoddggaaW.PrintMore
open Go.Proofs.Ytilopoegoddggaa.G
open Classical
set_option linter.all false
inductive Cm (bs : List S50) (no tg : Int) : Int → Prop
 | here : tg ≠ no → Cm bs no tg tg
 | step {k l : Int} : Cm bs no tg l → l ∈ nextL bs k → k ≠ no → Cm bs no tg k
def Back (bs : List S50) (h n : Int) : Prop := DD bs h n ∧ h ∈ nextL bs n
def HasL (bs : List S50) (h : Int) : Prop := ∃ n, Back bs h n
def InL (bs : List S50) (h k : Int) : Prop := k = h ∨ (DD bs h k ∧ ∃ n, Back bs h n ∧ Cm bs h n k)
noncomputable def loopB (bs : List S50) (h : Int) : List Int := (upTo bs.length).filter fun k => decide (InL bs h k)
noncomputable def loopsL (bs : List S50) (m : Nat) : List S40 := ((upTo m).filter fun h => decide (HasL bs h)).map fun h => ⟨h, loopB bs h⟩
section
variable {bs : List S50}
theorem Cm.ne {no tg k : Int} (h : Cm bs no tg k) : k ≠ no := by
 cases h with
 | here h => exact h
 | step _ _ h => exact h
theorem Cm.dom {h n k : Int} (hc : Cm bs h n k) (hd : DD bs h n) (hk : RR bs k) : DD bs h k := by
 induction hc with
 | here _ => exact hd
 | step hc hs hne ih =>
  rename_i k l
  have hl : RR bs l := hk.next (next_edges bs) hs
  exact (ih hl).pred (next_edges bs) (fun e => hc.ne e.symm) hs hk
noncomputable def backsL (bs : List S50) (h : Int) : List Int := (predsL bs h).filter fun n => decide (DD bs h n)
theorem mem_backs {h n : Int} : n ∈ backsL bs h ↔ Back bs h n := by
 unfold backsL Back
 rw [List.mem_filter, mem_preds, decide_eq_true_eq]
 exact and_comm
variable (a0 a1 : Int)
theorem filterO_mono {f g : Int → Option Bool} (h : ∀ x, LeO (f x) (g x)) : ∀ l, LeO (filterO f l) (filterO g l)
 | [] => LeO.refl _
 | x :: l => by
  rw [filterO, filterO]
  exact LeO.bind (h x) fun b => LeO.map _ (filterO_mono h l)
theorem filterO_ev (hl : bs.length ≤ 1000) (h : Int) : ∀ l : List Int, Evt (fun k => filterO (fun x => dom_Is.f k a0 a1 bs h x) l) (l.filter fun n => decide (DD bs h n))
 | [] => Evt.pure _
 | x :: l => by
  simp only [filterO]
  refine Evt.bind (is_ev a0 a1 bs hl h x) ?_
  obtain ⟨K, hK⟩ := filterO_ev hl h l
  refine ⟨K, fun k hk => ?_⟩
  have := hK k hk
  simp only [this, Option.map_some, List.filter_cons]
theorem backs_ev (hl : bs.length ≤ 1000) (h : Int) : loop_backs.f a0 a1 bs h = some (backsL bs h) := by
 unfold loop_backs.f
 refine anyK_ev ?_ fun k => ?_
 ·unfold backsO
  exact Evt.bind (before_ev a0 a1 bs h (by omega)) (filterO_ev a0 a1 hl h _)
 ·unfold backsO
  exact LeO.bind (flow_Before.mono _ _ _ _ k) fun ps => filterO_mono (fun x => dom_Is.mono _ _ _ _ _ k) ps
def Out (bs : List S50) (S : List Int) : Nat := ((upTo bs.length).map fun x => if x ∈ S then 0 else 1).sum
theorem out_le (S : List Int) : Out bs S ≤ bs.length := by
 have := sum_le (fun x => if x ∈ S then 0 else 1) (fun _ => 1) (upTo bs.length) (fun x _ => by split <;> omega)
 unfold Out
 have e : ((upTo bs.length).map fun _ => 1).sum = bs.length := by
  rw [List.map_const', upTo_len]; simp
 omega
theorem out_add {S : List Int} {n : Int} (hv : 0 ≤ n ∧ n < bs.length) (hn : n ∉ S) : Out bs (n :: S) < Out bs S := by
 refine sum_lt _ _ (upTo bs.length) n (fun x _ => ?_) (mem_upTo.2 hv) ?_
 ·by_cases hx : x ∈ S
  ·rw [if_pos (List.mem_cons_of_mem _ hx), if_pos hx]; exact Nat.le_refl _
  ·rw [if_neg hx]; split <;> omega
 ·rw [if_pos (List.mem_cons_self ..), if_neg hn]; omega
theorem addO_mono {f g : Int → Option Bool} (h : ∀ x, LeO (f x) (g x)) : ∀ ps t, LeO (addO f ps t) (addO g ps t)
 | [], _ => LeO.refl _
 | x :: ps, t => by
  rw [addO, addO]
  exact LeO.bind (h x) fun b => LeO.ite (LeO.ite (addO_mono h ps _) (LeO.refl _)) (addO_mono h ps _)
theorem addO_ev (hl : bs.length ≤ 1000) (h : Int) : ∀ (ps t : List Int), t.length + ps.length ≤ 1000000 → Evt (fun k => addO (fun x => dom_Is.f k a0 a1 bs h x) ps t) (t ++ ps.filter fun n => decide (DD bs h n))
 | [], t, _ => by rw [List.filter_nil, List.append_nil]; exact Evt.pure _
 | x :: ps, t, ht => by
  simp only [addO]
  rw [List.length_cons] at ht
  refine Evt.bind (is_ev a0 a1 bs hl h x) ?_
  by_cases hd : DD bs h x
  ·simp only [decide_eq_true hd, if_pos, if_pos (show t.length < 1000000 by omega)]
   have := addO_ev hl h ps (t ++ [x]) (by simp; omega)
   rw [List.append_assoc] at this
   rw [List.filter_cons, if_pos (decide_eq_true hd)]
   exact this
  ·simp only [decide_eq_false hd, if_neg Bool.false_ne_true]
   rw [List.filter_cons, if_neg (by simp [hd])]
   exact addO_ev hl h ps t (by omega)
structure WL (bs : List S50) (h : Int) (S todo : List Int) : Prop where
 head : h ∈ S
 snd : ∀ x, x ∈ S ∨ x ∈ todo → InL bs h x
 inV : ∀ x ∈ todo, 0 ≤ x ∧ x < bs.length
 backs : ∀ n, Back bs h n → n ∈ S ∨ n ∈ todo
 cl : ∀ x ∈ S, x ≠ h → ∀ p, x ∈ nextL bs p → DD bs h p → p ∈ S ∨ p ∈ todo
theorem WL.done {h : Int} {S : List Int} (W : WL bs h S []) (x : Int) : x ∈ S ↔ InL bs h x := by
 refine ⟨fun hx => W.snd x (.inl hx), fun hx => ?_⟩
 rcases hx with rfl | ⟨hd, n, hb, hc⟩
 ·exact W.head
 ·induction hc with
  | here _ => exact (W.backs n hb).resolve_right (by simp)
  | step hc hs hne ih =>
   rename_i k l
   have hl : RR bs l := hd.1.next (next_edges bs) hs
   have := ih (hc.dom hb.1 hl)
   exact (W.cl l this hc.ne k hs hd).resolve_right (by simp)
theorem go_ok (hl : bs.length ≤ 100) (h : Int) : ∀ (m : Nat) (S todo : List Int), m ≤ 500000 → Out bs S * (bs.length + 1) + todo.length ≤ m → S.length + Out bs S ≤ bs.length + 1 → WL bs h S todo →
  ∃ S', (∃ K, ∀ k j, K ≤ k → K ≤ j → goO a0 a1 bs h k j S todo = some S') ∧ ∀ x, x ∈ S' ↔ InL bs h x := by
 intro m
 induction m with
 | zero =>
  intro S todo hmm hm hS W
  have : todo = [] := List.eq_nil_of_length_eq_zero (by omega)
  subst this
  refine ⟨S, ⟨1, fun k j _ hj => ?_⟩, W.done⟩
  obtain ⟨j', rfl⟩ : ∃ j', j = j' + 1 := ⟨j - 1, by omega⟩
  rw [goO]
 | succ m ih =>
  intro S todo hmm hm hS W
  cases todo with
  | nil =>
   refine ⟨S, ⟨1, fun k j _ hj => ?_⟩, W.done⟩
   obtain ⟨j', rfl⟩ : ∃ j', j = j' + 1 := ⟨j - 1, by omega⟩
   rw [goO]
  | cons n todo =>
   have hv := W.inV n (List.mem_cons_self ..)
   have hc : wfI n ∧ S.length < 1000000 := ⟨⟨by omega, by omega⟩, by omega⟩
   rw [List.length_cons] at hm
   by_cases hn : n ∈ S
   ·obtain ⟨S', ⟨K, hK⟩, h2⟩ := ih S todo (by omega) (by omega) hS ⟨W.head, fun x hx => W.snd x (hx.imp id (List.mem_cons_of_mem _)), fun x hx => W.inV x (List.mem_cons_of_mem _ hx),
     fun x hx => (W.backs x hx).elim .inl fun hx => (List.mem_cons.1 hx).elim (fun e => .inl (e ▸ hn)) .inr, fun x hx hne p hp hd => (W.cl x hx hne p hp hd).elim .inl fun hx => (List.mem_cons.1 hx).elim (fun e => .inl (e ▸ hn)) .inr⟩
    refine ⟨S', ⟨K + 1, fun k j hk hj => ?_⟩, h2⟩
    obtain ⟨j', rfl⟩ : ∃ j', j = j' + 1 := ⟨j - 1, by omega⟩
    rw [goO, if_pos hc, if_pos hn]
    exact hK k j' (by omega) (by omega)
   ·have hnh : n ≠ h := fun e => hn (e ▸ W.head)
    have hin := W.snd n (.inr (List.mem_cons_self ..))
    obtain ⟨hdn, n0, hb0, hc0⟩ := hin.resolve_left hnh
    have ho := out_add hv hn
    have hol := out_le (bs := bs) S
    have hpl := preds_len bs n
    have hmul : Out bs (n :: S) * (bs.length + 1) + (bs.length + 1) ≤ Out bs S * (bs.length + 1) := by
     have := Nat.mul_le_mul_right (bs.length + 1) (show Out bs (n :: S) + 1 ≤ Out bs S from ho)
     rw [Nat.add_mul, Nat.one_mul] at this
     exact this
    have hfl : ((predsL bs n).filter fun x => decide (DD bs h x)).length ≤ bs.length := Nat.le_trans (List.length_filter_le _ _) hpl
    have htl : todo.length ≤ 500000 := by omega
    have W2 : WL bs h (n :: S) (todo ++ (predsL bs n).filter fun x => decide (DD bs h x)) := by
     refine ⟨List.mem_cons_of_mem _ W.head, fun x hx => ?_, fun x hx => ?_, fun x hx => ?_, fun x hx hne p hp hd => ?_⟩
     ·rcases hx with hx | hx
      ·rcases List.mem_cons.1 hx with rfl | hx
       ·exact hin
       ·exact W.snd x (.inl hx)
      ·rcases List.mem_append.1 hx with hx | hx
       ·exact W.snd x (.inr (List.mem_cons_of_mem _ hx))
       ·obtain ⟨q1, q2⟩ := List.mem_filter.1 hx
        have hd : DD bs h x := of_decide_eq_true q2
        by_cases e : x = h
        ·exact .inl e
        ·exact .inr ⟨hd, n0, hb0, .step hc0 (mem_preds.1 q1) e⟩
     ·rcases List.mem_append.1 hx with hx | hx
      ·exact W.inV x (List.mem_cons_of_mem _ hx)
      ·exact (next_edges bs _ _ (mem_preds.1 (List.mem_filter.1 hx).1)).1
     ·rcases W.backs x hx with h | h
      ·exact .inl (List.mem_cons_of_mem _ h)
      ·rcases List.mem_cons.1 h with rfl | h
       ·exact .inl (List.mem_cons_self ..)
       ·exact .inr (List.mem_append_left _ h)
     ·rcases List.mem_cons.1 hx with rfl | hx
      ·exact .inr (List.mem_append_right _ (List.mem_filter.2 ⟨mem_preds.2 hp, decide_eq_true hd⟩))
      ·rcases W.cl x hx hne p hp hd with h | h
       ·exact .inl (List.mem_cons_of_mem _ h)
       ·rcases List.mem_cons.1 h with rfl | h
        ·exact .inl (List.mem_cons_self ..)
        ·exact .inr (List.mem_append_left _ h)
    obtain ⟨S', ⟨K, hK⟩, h2⟩ := ih (n :: S) (todo ++ (predsL bs n).filter fun x => decide (DD bs h x)) (by omega) (by rw [List.length_append]; omega) (by rw [List.length_cons]; omega) W2
    obtain ⟨K1, h1⟩ := before_ev a0 a1 bs n (by omega)
    obtain ⟨K2, h3⟩ := addO_ev a0 a1 (by omega : bs.length ≤ 1000) h (predsL bs n) todo (by omega)
    refine ⟨S', ⟨K + K1 + K2 + 1, fun k j hk hj => ?_⟩, h2⟩
    obtain ⟨j', rfl⟩ : ∃ j', j = j' + 1 := ⟨j - 1, by omega⟩
    have e1 : flow_Before.f k a0 a1 bs n = some (predsL bs n) := h1 k (by omega)
    have e2 : addO (fun x => dom_Is.f k a0 a1 bs h x) (predsL bs n) todo = _ := h3 k (by omega)
    rw [goO, if_pos hc, if_neg hn, e1, Option.bind_some, e2, Option.bind_some]
    exact hK k j' (by omega) (by omega)
theorem goO_mono (bs : List S50) (h : Int) (k : Nat) : ∀ j S t, LeO (goO a0 a1 bs h k j S t) (goO a0 a1 bs h (k + 1) (j + 1) S t)
 | 0, _, _ => LeO.none _
 | j + 1, S, [] => by rw [goO, goO]; exact LeO.refl _
 | j + 1, S, n :: r => by
  rw [goO, goO]
  exact LeO.ite (LeO.ite (goO_mono bs h k j S r) (LeO.bind (flow_Before.mono _ _ _ _ k) fun ps => LeO.bind (addO_mono (fun x => dom_Is.mono _ _ _ _ _ k) ps r) fun t => goO_mono bs h k j _ t)) (LeO.refl _)
theorem body_ev (hl : bs.length ≤ 100) (h : Int) (hv : 0 ≤ h ∧ h < bs.length) : loop_body.f a0 a1 bs h (backsL bs h) = some (loopB bs h) := by
 have hlen : (backsL bs h).length ≤ bs.length := Nat.le_trans (List.length_filter_le _ _) (preds_len bs h)
 have hout := out_le (bs := bs) [h]
 have ho1 : Out bs [h] < bs.length := by
  have h1 := out_add (bs := bs) (S := []) hv (by simp)
  have h2 := out_le (bs := bs) []
  omega
 have hm : Out bs [h] * (bs.length + 1) ≤ 100 * 101 := Nat.mul_le_mul (by omega) (by omega)
 have W2 : WL bs h [h] (backsL bs h) := by
  refine ⟨by simp, fun x hx => ?_, fun x hx => ?_, fun n hn => .inr (mem_backs.2 hn), fun x hx hne => absurd (List.mem_singleton.1 hx) hne⟩
  ·rcases hx with hx | hx
   ·exact .inl (List.mem_singleton.1 hx)
   ·have hb := mem_backs.1 hx
    by_cases e : x = h
    ·exact .inl e
    ·exact .inr ⟨hb.1, x, hb, .here e⟩
  ·exact (next_edges bs _ _ (mem_backs.1 hx).2).1
 obtain ⟨S', ⟨K, hK⟩, hS⟩ := go_ok a0 a1 hl h (Out bs [h] * (bs.length + 1) + (backsL bs h).length) [h] (backsL bs h) (by omega) (Nat.le_refl _) (by simp; omega) W2
 unfold loop_body.f
 refine anyK_ev ⟨K, fun k hk => ?_⟩ fun k => ?_
 ·unfold bodyO
  rw [if_pos ⟨⟨by omega, by omega⟩, by omega⟩, hK k k hk hk, Option.map_some]
  congr 1
  unfold pick loopB upTo
  exact List.filter_congr fun x _ => decide_eq_decide.2 (hS x)
 ·unfold bodyO
  exact LeO.ite (LeO.map _ (goO_mono a0 a1 bs h k k _ _)) (LeO.refl _)
theorem loopsL_succ (m : Nat) : loopsL bs (m + 1) = loopsL bs m ++ (if HasL bs m then [⟨(m : Int), loopB bs m⟩] else []) := by
 unfold loopsL
 rw [upTo_succ, List.filter_append, List.map_append]
 congr 1
 by_cases h : HasL bs m <;> simp [h]
theorem loopsL_len (m : Nat) : (loopsL bs m).length ≤ m := by
 unfold loopsL
 rw [List.length_map]
 exact Nat.le_trans (List.length_filter_le _ _) (by rw [upTo_len]; exact Nat.le_refl _)
theorem loopB_len (h : Int) : (loopB bs h).length ≤ bs.length := Nat.le_trans (List.length_filter_le _ _) (by rw [upTo_len]; exact Nat.le_refl _)
theorem all_l0' (hl : bs.length ≤ 100) : ∀ (d : Nat) (i : Int), 0 ≤ i → i + d = bs.length → Evt (fun k => loop_All.l0 k (loopsL bs i.toNat) bs.length i a0 a1 bs) (loopsL bs bs.length)
 | 0, i, h0, h1 => by
  refine Evt.succ ?_
  simp only [loop_All.l0, if_neg (show ¬ i < (bs.length : Int) by omega)]
  rw [show i.toNat = bs.length by omega]
  exact Evt.pure _
 | d + 1, i, h0, h1 => by
  have hi : i < (bs.length : Int) := by omega
  have hlen := loopsL_len (bs := bs) i.toNat
  have ih := all_l0' hl d (i + 1) (by omega) (by omega)
  rw [show (i + 1).toNat = i.toNat + 1 by omega, loopsL_succ, show ((i.toNat : Nat) : Int) = i by omega] at ih
  refine Evt.succ ?_
  simp only [loop_All.l0, if_pos hi, backs_ev a0 a1 (by omega : bs.length ≤ 1000) i, Option.bind_some, wrap64_small (i + 1) (by omega) (by omega), if_pos (show (loopsL bs i.toNat).length < 4398046511104 by omega)]
  by_cases hh : HasL bs i
  ·obtain ⟨n, hn⟩ := hh
   have hpos : ((backsL bs i).length : Int) > 0 := by
    have := List.length_pos_of_mem (mem_backs.2 hn)
    omega
   rw [if_pos (show HasL bs i from ⟨n, hn⟩)] at ih
   simp only [if_pos hpos, body_ev a0 a1 hl i ⟨h0, hi⟩, Option.bind_some]
   exact ih
  ·have hz : backsL bs i = [] := List.eq_nil_iff_forall_not_mem.2 fun n hn => hh ⟨n, mem_backs.1 hn⟩
   rw [if_neg hh, List.append_nil] at ih
   simp only [hz, List.length_nil, if_neg (show ¬ (((0 : Nat) : Int) > 0) by omega)]
   exact ih
theorem all_ev (hl : bs.length ≤ 100) : Evt (fun k => loop_All.f k a0 a1 bs) (loopsL bs bs.length) := by
 unfold loop_All.f
 exact all_l0' a0 a1 hl bs.length 0 (by omega) (by omega)
def deepL (n : Int) (L : List S40) : Nat := (L.filter fun l => decide (n ∈ l.f1)).length
theorem rd40 {L : List S40} {i : Int} (h0 : 0 ≤ i) (h1 : i < (L.length : Int)) : L.take (i + 1).toNat = L.take i.toNat ++ [rd_T40 L i] := by
 rw [show (i + 1).toNat = i.toNat + 1 by omega]
 exact take_one _ _ z40 (by omega)
theorem rd40_mem {L : List S40} {i : Int} (h0 : 0 ≤ i) (h1 : i < (L.length : Int)) : rd_T40 L i ∈ L := by
 have h : i.toNat < L.length := by omega
 unfold rd_T40
 rw [List.getD_eq_getElem?_getD, List.getElem?_eq_getElem h]
 exact List.getElem_mem h
theorem deepL_step (n : Int) {L : List S40} {i : Int} (h0 : 0 ≤ i) (h1 : i < (L.length : Int)) : deepL n (L.take (i + 1).toNat) = deepL n (L.take i.toNat) + if n ∈ (rd_T40 L i).f1 then 1 else 0 := by
 rw [rd40 h0 h1]
 unfold deepL
 rw [List.filter_append, List.length_append]
 congr 1
 by_cases h : n ∈ (rd_T40 L i).f1 <;> simp [h]
theorem deepL_len (n : Int) (L : List S40) : deepL n L ≤ L.length := List.length_filter_le _ _
theorem deep_l0 (n : Int) (L : List S40) (hL : L.length ≤ 1000) (hb : ∀ l ∈ L, l.f1.length ≤ 1000) : ∀ (d : Nat) (i : Int), 0 ≤ i → i + d = L.length → Evt (fun k => loop_Deep.l0 k n (deepL n (L.take i.toNat)) L L.length i) (deepL n L : Int)
 | 0, i, h0, h1 => by
  refine Evt.succ ?_
  simp only [loop_Deep.l0, if_neg (show ¬ i < (L.length : Int) by omega)]
  rw [List.take_of_length_le (by omega)]
  exact Evt.pure _
 | d + 1, i, h0, h1 => by
  have hi : i < (L.length : Int) := by omega
  have ih := deep_l0 n L hL hb d (i + 1) (by omega) (by omega)
  rw [deepL_step n h0 hi] at ih
  have hdl := deepL_len n (L.take i.toNat)
  rw [List.length_take] at hdl
  refine Evt.succ ?_
  simp only [loop_Deep.l0, if_pos hi, if_pos h0, wrap64_small (i + 1) (by omega) (by omega), wrap64_small ((deepL n (L.take i.toNat) : Int) + 1) (by omega) (by omega)]
  refine Evt.bind (contains_ev _ _ (by have := hb _ (rd40_mem h0 hi); omega)) ?_
  by_cases h : n ∈ (rd_T40 L i).f1
  ·simp only [decide_eq_true h, if_pos]
   rw [if_pos h] at ih
   exact ih
  ·simp only [decide_eq_false h, if_neg Bool.false_ne_true]
   rw [if_neg h] at ih
   exact ih
theorem loops_blocks (m : Nat) : ∀ l ∈ loopsL bs m, l.f1.length ≤ bs.length := by
 intro l hl
 unfold loopsL at hl
 obtain ⟨h, _, rfl⟩ := List.mem_map.1 hl
 exact loopB_len h
theorem deep_ev (hl : bs.length ≤ 100) (n : Int) : Evt (fun k => loop_Deep.f k a0 a1 bs n) (deepL n (loopsL bs bs.length) : Int) := by
 unfold loop_Deep.f
 refine Evt.bind (all_ev a0 a1 hl) ?_
 have := deep_l0 n (loopsL bs bs.length) (by have := loopsL_len (bs := bs) bs.length; omega) (fun l h => by have := loops_blocks (bs := bs) bs.length l h; omega) (loopsL bs bs.length).length 0 (by omega) (by omega)
 exact this
end
end Go.Proofs.Ytilopoegoddggaa.X
namespace Go.Proofs.Ytilopoegoddggaa.X
open Go.RowKit Go.Proofs.YtilopoegoddggaaW.PrintWords Go.Proofs.YtilopoegoddggaaW.PrintLast Go.Proofs.YtilopoegoddggaaW.PrintMore
attribute [local go_sem] max2_int min2_int max_two min_two max_three min_three max_four min_four
set_option linter.all false
noncomputable section
mutual
def davitref09_comes.l0 : Nat → Int → List Bool → Bool → Int → Int → List (S50) → Option (List Bool)
 | 0, _, _, _, _, _, _ => none
 | k + 1, x2, x7, x8, x368000, x368001, x368002 => if x8 = true then (davitref09_comes.l1 k x2 x7 false 0 x368000 x368001 x368002) else (some x7)
def davitref09_comes.l1 : Nat → Int → List Bool → Bool → Int → Int → Int → List (S50) → Option (List Bool)
 | 0, _, _, _, _, _, _, _ => none
 | k + 1, x2, x7, x8, x9, x368000, x368001, x368002 => if x9 < (x7.length : Int) then (if 0 ≤ x9 then (if rdOf false x7 x9 = true then (davitref09_comes.j2 k x2 x7 x8 x9 true x368000 x368001 x368002) else (davitref09_comes.j2 k x2 x7 x8 x9 (x9 == x2) x368000 x368001 x368002)) else (none)) else (davitref09_comes.l0 k x2 x7 x8 x368000 x368001 x368002)
def davitref09_comes.j2 : Nat → Int → List Bool → Bool → Int → Bool → Int → Int → List (S50) → Option (List Bool)
 | 0, _, _, _, _, _, _, _, _ => none
 | k + 1, x2, x7, x8, x9, x38, x368000, x368001, x368002 => if x38 = true then (davitref09_comes.l1 k x2 x7 x8 (wrap64 (x9 + 1)) x368000 x368001 x368002) else ((davitref07_Next.f k x368000 x368001 x368002 x9).bind fun t373 => (davitref09_comes.l2 k x2 x7 x8 x9 t373 0 x368000 x368001 x368002))
def davitref09_comes.l2 : Nat → Int → List Bool → Bool → Int → List Int → Int → Int → Int → List (S50) → Option (List Bool)
 | 0, _, _, _, _, _, _, _, _, _ => none
 | k + 1, x2, x7, x8, x9, x10, x11, x368000, x368001, x368002 => if x11 < (x10.length : Int) then (if 0 ≤ x11 then (if 0 ≤ (rd x10 x11) then (if (rd x10 x11) < (x7.length : Int) then (if rdOf false x7 (rd x10 x11) = true then (if 0 ≤ x9 then (if x9 < (x7.length : Int) then (davitref09_comes.l2 k x2 (x7.set (x9 : Int).toNat true) true x9 x10 (wrap64 (x11 + 1)) x368000 x368001 x368002) else (none)) else (none)) else (davitref09_comes.l2 k x2 x7 x8 x9 x10 (wrap64 (x11 + 1)) x368000 x368001 x368002)) else (none)) else (none)) else (none)) else (davitref09_comes.l1 k x2 x7 x8 (wrap64 (x9 + 1)) x368000 x368001 x368002)
end
def davitref09_comes.f (k : Nat) (a0_0 : Int) (a0_1 : Int) (l0_2 : List (S50)) (a1 : Int) (a2 : Int) : Option (List Bool) := if 0 ≤ (l0_2.length : Int) then (if ((l0_2.length : Int) : Int).toNat ≤ 281474976710656 then ((some (List.replicate ((l0_2.length : Int) : Int).toNat false : List Bool)).bind fun y368 => (if a1 = a2 then (some y368) else (if 0 ≤ a1 then (if a1 < (y368.length : Int) then (davitref09_comes.l0 k a2 (y368.set (a1 : Int).toNat true) true a0_0 a0_1 l0_2) else (none)) else (none)))) else (none)) else (none)
theorem davitref09_comes.mono_l : ∀ k, (∀ y0 y1 y2 y3 y4 y5, LeO (davitref09_comes.l0 k y0 y1 y2 y3 y4 y5) (davitref09_comes.l0 (k + 1) y0 y1 y2 y3 y4 y5)) ∧ (∀ y0 y1 y2 y3 y4 y5 y6, LeO (davitref09_comes.l1 k y0 y1 y2 y3 y4 y5 y6) (davitref09_comes.l1 (k + 1) y0 y1 y2 y3 y4 y5 y6)) ∧ (∀ y0 y1 y2 y3 y4 y5 y6 y7, LeO (davitref09_comes.j2 k y0 y1 y2 y3 y4 y5 y6 y7) (davitref09_comes.j2 (k + 1) y0 y1 y2 y3 y4 y5 y6 y7)) ∧ (∀ y0 y1 y2 y3 y4 y5 y6 y7 y8, LeO (davitref09_comes.l2 k y0 y1 y2 y3 y4 y5 y6 y7 y8) (davitref09_comes.l2 (k + 1) y0 y1 y2 y3 y4 y5 y6 y7 y8))
 | 0 => ⟨fun _ _ _ _ _ _ r h => by simp [davitref09_comes.l0] at h, fun _ _ _ _ _ _ _ r h => by simp [davitref09_comes.l1] at h, fun _ _ _ _ _ _ _ _ r h => by simp [davitref09_comes.j2] at h, fun _ _ _ _ _ _ _ _ _ r h => by simp [davitref09_comes.l2] at h⟩
 | k + 1 => by
  obtain ⟨ih0, ih1, ih2, ih3⟩ := davitref09_comes.mono_l k
  refine ⟨?_, ?_, ?_, ?_⟩
  ·intro y0 y1 y2 y3 y4 y5
   unfold davitref09_comes.l0
   repeat' first
   | (with_reducible exact ih0 _ _ _ _ _ _)
   | (with_reducible exact ih1 _ _ _ _ _ _ _)
   | (with_reducible exact ih2 _ _ _ _ _ _ _ _)
   | (with_reducible exact ih3 _ _ _ _ _ _ _ _ _)
   | (with_reducible exact davitref07_Next.mono _ _ _ _ _)
   | (with_reducible exact LeO.refl _)
   | (with_reducible exact LeO.none _)
   | (with_reducible refine LeO.ite ?_ ?_)
   | (with_reducible refine LeO.bind ?_ (fun _ => ?_))
   | exact ih0 _ _ _ _ _ _
   | exact ih1 _ _ _ _ _ _ _
   | exact ih2 _ _ _ _ _ _ _ _
   | exact ih3 _ _ _ _ _ _ _ _ _
   | exact davitref07_Next.mono _ _ _ _ _
   | exact LeO.none _
   | refine LeO.ite ?_ ?_
   | refine LeO.bind ?_ (fun _ => ?_)
  ·intro y0 y1 y2 y3 y4 y5 y6
   unfold davitref09_comes.l1
   repeat' first
   | (with_reducible exact ih0 _ _ _ _ _ _)
   | (with_reducible exact ih1 _ _ _ _ _ _ _)
   | (with_reducible exact ih2 _ _ _ _ _ _ _ _)
   | (with_reducible exact ih3 _ _ _ _ _ _ _ _ _)
   | (with_reducible exact davitref07_Next.mono _ _ _ _ _)
   | (with_reducible exact LeO.refl _)
   | (with_reducible exact LeO.none _)
   | (with_reducible refine LeO.ite ?_ ?_)
   | (with_reducible refine LeO.bind ?_ (fun _ => ?_))
   | exact ih0 _ _ _ _ _ _
   | exact ih1 _ _ _ _ _ _ _
   | exact ih2 _ _ _ _ _ _ _ _
   | exact ih3 _ _ _ _ _ _ _ _ _
   | exact davitref07_Next.mono _ _ _ _ _
   | exact LeO.none _
   | refine LeO.ite ?_ ?_
   | refine LeO.bind ?_ (fun _ => ?_)
  ·intro y0 y1 y2 y3 y4 y5 y6 y7
   unfold davitref09_comes.j2
   repeat' first
   | (with_reducible exact ih0 _ _ _ _ _ _)
   | (with_reducible exact ih1 _ _ _ _ _ _ _)
   | (with_reducible exact ih2 _ _ _ _ _ _ _ _)
   | (with_reducible exact ih3 _ _ _ _ _ _ _ _ _)
   | (with_reducible exact davitref07_Next.mono _ _ _ _ _)
   | (with_reducible exact LeO.refl _)
   | (with_reducible exact LeO.none _)
   | (with_reducible refine LeO.ite ?_ ?_)
   | (with_reducible refine LeO.bind ?_ (fun _ => ?_))
   | exact ih0 _ _ _ _ _ _
   | exact ih1 _ _ _ _ _ _ _
   | exact ih2 _ _ _ _ _ _ _ _
   | exact ih3 _ _ _ _ _ _ _ _ _
   | exact davitref07_Next.mono _ _ _ _ _
   | exact LeO.none _
   | refine LeO.ite ?_ ?_
   | refine LeO.bind ?_ (fun _ => ?_)
  ·intro y0 y1 y2 y3 y4 y5 y6 y7 y8
   unfold davitref09_comes.l2
   repeat' first
   | (with_reducible exact ih0 _ _ _ _ _ _)
   | (with_reducible exact ih1 _ _ _ _ _ _ _)
   | (with_reducible exact ih2 _ _ _ _ _ _ _ _)
   | (with_reducible exact ih3 _ _ _ _ _ _ _ _ _)
   | (with_reducible exact davitref07_Next.mono _ _ _ _ _)
   | (with_reducible exact LeO.refl _)
   | (with_reducible exact LeO.none _)
   | (with_reducible refine LeO.ite ?_ ?_)
   | (with_reducible refine LeO.bind ?_ (fun _ => ?_))
   | exact ih0 _ _ _ _ _ _
   | exact ih1 _ _ _ _ _ _ _
   | exact ih2 _ _ _ _ _ _ _ _
   | exact ih3 _ _ _ _ _ _ _ _ _
   | exact davitref07_Next.mono _ _ _ _ _
   | exact LeO.none _
   | refine LeO.ite ?_ ?_
   | refine LeO.bind ?_ (fun _ => ?_)
theorem davitref09_comes.mono : ∀ a0 a1 a2 a3 a4 k, LeO (davitref09_comes.f k a0 a1 a2 a3 a4) (davitref09_comes.f (k + 1) a0 a1 a2 a3 a4) := by
 intro a0 a1 a2 a3 a4 k
 obtain ⟨ih0, ih1, ih2, ih3⟩ := davitref09_comes.mono_l k
 unfold davitref09_comes.f
 repeat' first
   | (with_reducible exact ih0 _ _ _ _ _ _)
   | (with_reducible exact ih1 _ _ _ _ _ _ _)
   | (with_reducible exact ih2 _ _ _ _ _ _ _ _)
   | (with_reducible exact ih3 _ _ _ _ _ _ _ _ _)
   | (with_reducible exact davitref07_Next.mono _ _ _ _ _)
   | (with_reducible exact LeO.refl _)
   | (with_reducible exact LeO.none _)
   | (with_reducible refine LeO.ite ?_ ?_)
   | (with_reducible refine LeO.bind ?_ (fun _ => ?_))
   | exact ih0 _ _ _ _ _ _
   | exact ih1 _ _ _ _ _ _ _
   | exact ih2 _ _ _ _ _ _ _ _
   | exact ih3 _ _ _ _ _ _ _ _ _
   | exact davitref07_Next.mono _ _ _ _ _
   | exact LeO.none _
   | refine LeO.ite ?_ ?_
   | refine LeO.bind ?_ (fun _ => ?_)
set_option maxHeartbeats 8000000 in
set_option maxRecDepth 100000 in
theorem davitref09_comes.calls (k : Nat) (a0_0 : Int) (a0_1 : Int) (A0_2 : Option Addr) (c0_2 : Nat) (l0_2 : List (S50)) (a1 : Int) (a2 : Int) (r : List Bool) (w : World) (hr0_2 : Kd.C k50 w A0_2 l0_2.length l0_2) (hc0_2 : l0_2.length ≤ c0_2) (h : davitref09_comes.f k a0_0 a0_1 l0_2 a1 a2 = some r) :
  Calls Try.prog 42 #[.agg #[.int .i64 a0_0, .int .i64 a0_1, .slice A0_2 l0_2.length c0_2], .int .i64 a1, .int .i64 a2] w fun e w' => ∃ v0_ : Value, e = .returned (v0_) ∧ Kd.R Kd.bool 4 w' w.heap.size (fun _ => True) v0_ r ∧ Below w.heap.size w w' := by
 have hu24 := Try.underlying24
 have HR0_2 := Aside0.mk hr0_2
 have HC0_2 := Aside0.mk hc0_2
 clear hr0_2 hc0_2
 have HB := Aside0.mk (Below.refl w.heap.size w)
 have H : (if 0 ≤ (l0_2.length : Int) then (if ((l0_2.length : Int) : Int).toNat ≤ 281474976710656 then ((some (List.replicate ((l0_2.length : Int) : Int).toNat false : List Bool)).bind fun y368 => (if a1 = a2 then (some y368) else (if 0 ≤ a1 then (if a1 < (y368.length : Int) then (davitref09_comes.l0 k a2 (y368.set (a1 : Int).toNat true) true a0_0 a0_1 l0_2) else (none)) else (none)))) else (none)) else (none)) = some r := h
 clear h
 by_cases c4 : 0 ≤ (l0_2.length : Int)
 ·rw [if_pos c4] at H
  have c4b0 := eq_true c4
  have c4b1 : decide (0 ≤ (l0_2.length : Int)) = true := decide_eq_true c4
  clear c4
  by_cases c5 : ((l0_2.length : Int) : Int).toNat ≤ 281474976710656
  ·rw [if_pos c5] at H
   have c5b0 := eq_true c5
   have c5b1 : decide (((l0_2.length : Int) : Int).toNat ≤ 281474976710656) = true := decide_eq_true c5
   clear c5
   obtain ⟨y368, hy368⟩ : ∃ y_ : List Bool, y_ = (List.replicate ((l0_2.length : Int) : Int).toNat false) := ⟨_, rfl⟩
   replace H : (if a1 = a2 then (some y368) else (if 0 ≤ a1 then (if a1 < (y368.length : Int) then (davitref09_comes.l0 k a2 (y368.set (a1 : Int).toNat true) true a0_0 a0_1 l0_2) else (none)) else (none))) = some r := by first | (rw [hy368]; with_reducible exact H) | (have H2_ := (Option.bind_some _ _).symm.trans H; rw [hy368]; with_reducible exact H2_) | (have H2_ := (Option.bind_some _ _).symm.trans H; with_reducible exact H2_) | with_reducible exact H | (rw [hy368]; exact H) | exact H
   have Ny368 := Aside0.mk hy368
   clear hy368
   by_cases c6 : a1 = a2
   ·rw [if_pos c6] at H
    have c6b0 : (a1 == a2) = true := beq_iff_eq.mpr c6
    have c6b1 : (a1 != a2) = false := bne_eq_false_iff_eq.mpr c6
    clear c6
    obtain rfl := Option.some.inj H
    go_enter Try.func42, Try.ntmps42
    go_wp2_with (first | ((with_reducible refine gate_dst (N := 3) rfl ?_); refine box_event ?hg (N := 3) ?hd (cs := #[.int .i64 a0_0, .int .i64 a0_1, .slice A0_2 l0_2.length c0_2]) (t := 24) ?hr ?_; (case hd => rfl); (case hg => rfl); (case hr => first | (go_simp; done) | (go_simp; rfl)); intro gb367 hg w7 hbox hb; have n0_ := Aside0.mk (below_step (by repeat (first | (with_reducible first | exact HB.out | apply below_alloc | apply pw_below_drewN | apply below_drew1) | exact HB.out)) hb); have n1_ := Aside0.mk (hbox); have n2_ := Aside0.mk ((by rw [hg]; exact (below_size (by repeat (first | (with_reducible first | exact HB.out | apply below_alloc | apply pw_below_drewN | apply below_drew1) | exact HB.out))) : w.heap.size ≤ gb367)); have n3_ := Aside0.mk ((by rw [hg]; exact (below_size (by repeat (first | (with_reducible first | exact HB.out | apply below_alloc | apply pw_below_drewN | apply below_drew1) | exact HB.out))) : w.heap.size ≤ gb367)); clear HB; have HB := n0_; have BK367 := n1_; have GW367 := n2_; have GE367 := n3_; clear n0_ n1_ n2_ n3_; clear hb hbox hg; have hcz8_0 : w7.cell? ⟨gb367, 0, none⟩ = some (.int .i64 a0_0) := (blk_cell BK367.out 0).trans rfl; have hcz8_1 : w7.cell? ⟨gb367, 1, none⟩ = some (.int .i64 a0_1) := (blk_cell BK367.out 1).trans rfl; have hcz8_2 : w7.cell? ⟨gb367, 2, none⟩ = some (.slice A0_2 l0_2.length c0_2) := (blk_cell BK367.out 2).trans rfl; have hfz8_0 := blk_frozen BK367.out 0; have hfz8_1 := blk_frozen BK367.out 1; have hfz8_2 := blk_frozen BK367.out 2) | ((with_reducible refine gate_dst (N := 15) rfl ?_); refine Kd.R_make Kd.bool _ 4 rfl (N := 15) rfl 32 _ _ rfl (l0_2.length : Int) rfl rfl Try.underlying32 (.bool false) 1 info4 rfl (by decide) (by omega) false (ok := fun _ => True) (okp := fun _ => True) rfl (fun _ hk => hk) trivial (of_decide_eq_true (by first | (with_reducible assumption) | assumption)) (Nat.le_trans (Nat.mul_le_mul_right _ (of_decide_eq_true (by first | (with_reducible assumption) | assumption) : (l0_2.length : Int).toNat ≤ 281474976710656)) (by omega)) (Below.refl _ _) (Nat.le_refl _) ?_; intro v369 w9 ho10 hb hg_ hnew_; clear hg_ hnew_; (first | rw [← Ny368.out] at ho10 | (simp only [Int.reduceToNat] at ho10; rw [← Ny368.out] at ho10)); have n0_ := Aside0.mk (Kd.R_lower ho10 (below_size (by repeat (first | (with_reducible first | exact HB.out | apply below_alloc | apply pw_below_drewN | apply below_drew1 | refine below_set ?_ GE367.out) | exact HB.out)))); have n1_ := Aside0.mk (blk_below (g := gb367) (o := .cells #[.int .i64 a0_0, .int .i64 a0_1, .slice A0_2 l0_2.length c0_2] 24 (0, 0)) (by (with_reducible repeat (first | refine blk_drewN ?_ _ | refine blk_drew ?_ | refine blk_alloc ?_ _)); exact BK367.out) hb); have n2_ := Aside0.mk (below_step (by repeat (first | (with_reducible first | exact HB.out | apply below_alloc | apply pw_below_drewN | apply below_drew1 | refine below_set ?_ GE367.out) | exact HB.out)) hb); clear BK367; clear HB; have HO370 := n0_; have BK367 := n1_; have HB := n2_; clear n0_ n1_ n2_; clear hb ho10))
    go_ret
    exact ⟨_, by first | rfl | (simp [errW_none, errW_some] <;> rfl) | (simp [*, errW_none, errW_some] <;> rfl), by (with_reducible repeat (first | apply Kd.R_alloc | apply Kd.R_drewN | apply Kd.R_drew)); exact HO370.out, by repeat (first | (with_reducible first | exact HB.out | apply below_alloc | apply pw_below_drewN | apply below_drew1 | refine below_set ?_ GE367.out) | exact HB.out)⟩
   ·rw [if_neg c6] at H
    have c6b0 : (a1 == a2) = false := beq_eq_false_iff_ne.mpr c6
    have c6b1 : (a1 != a2) = true := bne_iff_ne.mpr c6
    by_cases c11 : 0 ≤ a1
    ·rw [if_pos c11] at H
     have c11b0 : decide (0 ≤ a1) = true := decide_eq_true c11
     clear c11
     by_cases c12 : a1 < (y368.length : Int)
     ·rw [if_pos c12] at H
      have c12b0 : decide (a1 < (y368.length : Int)) = true := decide_eq_true c12
      clear c12
      obtain ⟨y371, hy371⟩ : ∃ y_ : List Bool, y_ = (y368.set (a1 : Int).toNat true) := ⟨_, rfl⟩
      replace H : (davitref09_comes.l0 k a2 y371 true a0_0 a0_1 l0_2) = some r := by first | (rw [hy371]; with_reducible exact H) | (have H2_ := (Option.bind_some _ _).symm.trans H; rw [hy371]; with_reducible exact H2_) | (have H2_ := (Option.bind_some _ _).symm.trans H; with_reducible exact H2_) | with_reducible exact H | (rw [hy371]; exact H) | exact H
      have Ny371 := Aside0.mk hy371
      clear hy371
      have H' := Aside0.mk H
      clear H
      go_enter Try.func42, Try.ntmps42
      go_wp2_with (first | ((with_reducible refine gate_dst (N := 3) rfl ?_); refine box_event ?hg (N := 3) ?hd (cs := #[.int .i64 a0_0, .int .i64 a0_1, .slice A0_2 l0_2.length c0_2]) (t := 24) ?hr ?_; (case hd => rfl); (case hg => rfl); (case hr => first | (go_simp; done) | (go_simp; rfl)); intro gb367 hg w14 hbox hb; have n0_ := Aside0.mk (below_step (by repeat (first | (with_reducible first | exact HB.out | apply below_alloc | apply pw_below_drewN | apply below_drew1) | exact HB.out)) hb); have n1_ := Aside0.mk (hbox); have n2_ := Aside0.mk ((by rw [hg]; exact (below_size (by repeat (first | (with_reducible first | exact HB.out | apply below_alloc | apply pw_below_drewN | apply below_drew1) | exact HB.out))) : w.heap.size ≤ gb367)); have n3_ := Aside0.mk ((by rw [hg]; exact (below_size (by repeat (first | (with_reducible first | exact HB.out | apply below_alloc | apply pw_below_drewN | apply below_drew1) | exact HB.out))) : w.heap.size ≤ gb367)); clear HB; have HB := n0_; have BK367 := n1_; have GW367 := n2_; have GE367 := n3_; clear n0_ n1_ n2_ n3_; clear hb hbox hg; have hcz15_0 : w14.cell? ⟨gb367, 0, none⟩ = some (.int .i64 a0_0) := (blk_cell BK367.out 0).trans rfl; have hcz15_1 : w14.cell? ⟨gb367, 1, none⟩ = some (.int .i64 a0_1) := (blk_cell BK367.out 1).trans rfl; have hcz15_2 : w14.cell? ⟨gb367, 2, none⟩ = some (.slice A0_2 l0_2.length c0_2) := (blk_cell BK367.out 2).trans rfl; have hfz15_0 := blk_frozen BK367.out 0; have hfz15_1 := blk_frozen BK367.out 1; have hfz15_2 := blk_frozen BK367.out 2) | ((with_reducible refine gate_dst (N := 15) rfl ?_); refine Kd.R_make Kd.bool _ 4 rfl (N := 15) rfl 32 _ _ rfl (l0_2.length : Int) rfl rfl Try.underlying32 (.bool false) 1 info4 rfl (by decide) (by omega) false (ok := fun _ => True) (okp := fun _ => True) rfl (fun _ hk => hk) trivial (of_decide_eq_true (by first | (with_reducible assumption) | assumption)) (Nat.le_trans (Nat.mul_le_mul_right _ (of_decide_eq_true (by first | (with_reducible assumption) | assumption) : (l0_2.length : Int).toNat ≤ 281474976710656)) (by omega)) (Below.refl _ _) (Nat.le_refl _) ?_; intro v369 w16 ho17 hb hg_ hnew_; clear hg_ hnew_; (first | rw [← Ny368.out] at ho17 | (simp only [Int.reduceToNat] at ho17; rw [← Ny368.out] at ho17)); have n0_ := Aside0.mk (Kd.R_lower ho17 (below_size (by repeat (first | (with_reducible first | exact HB.out | apply below_alloc | apply pw_below_drewN | apply below_drew1 | refine below_set ?_ GE367.out) | exact HB.out)))); have n1_ := Aside0.mk (blk_below (g := gb367) (o := .cells #[.int .i64 a0_0, .int .i64 a0_1, .slice A0_2 l0_2.length c0_2] 24 (0, 0)) (by (with_reducible repeat (first | refine blk_drewN ?_ _ | refine blk_drew ?_ | refine blk_alloc ?_ _)); exact BK367.out) hb); have n2_ := Aside0.mk (below_step (by repeat (first | (with_reducible first | exact HB.out | apply below_alloc | apply pw_below_drewN | apply below_drew1 | refine below_set ?_ GE367.out) | exact HB.out)) hb); clear BK367; clear HB; have HO370 := n0_; have BK367 := n1_; have HB := n2_; clear n0_ n1_ n2_; clear hb ho17; have p13 : 0 ≤ (a1 : Int) := of_decide_eq_true (by first | (with_reducible assumption) | assumption); have q13 : (a1 : Int) < ((y368.length : Int) : Int) := of_decide_eq_true (by first | (with_reducible assumption) | assumption); obtain ⟨go13, co13, eo13, gb13, gl13, cl13, HG13⟩ := Kd.R_form HO370.out (by omega); (first | cases eo13 | (injection eo13 with ea_ en_ ec_; (first | subst ea_ | (injection ea_ with ea_; subst ea_)); subst ec_; clear en_)); have GB13 := Aside0.mk gb13; have GG13 := Aside0.mk HG13; clear gb13 gl13 HG13; obtain ⟨hx13_0, hf13_0⟩ := Kd.R_celln false HO370.out (a1 : Int) p13 q13; replace p13 := eq_true p13; replace q13 := eq_true q13; obtain ⟨hy18_, hz18_⟩ := Kd.R_celln false HO370.out (a1 : Int) (of_decide_eq_true (by first | (with_reducible assumption) | assumption)) (of_decide_eq_true (by first | (with_reducible assumption) | assumption)); have HP18 := Kd.R_putg HO370.out (a1 : Int) true) | ((with_reducible refine gate_store (t := 4) (p := 22) rfl ?_); refine store_event (t := 4) (p := 22) (v := ?vo_w19) (w1 := (w16.setCell ⟨go13, (a1 : Int).toNat, none⟩ (.bool true))) ?hg ?ho ?hn ?hr ?_; (case ho => rfl); (case hg => rfl); (case hn => rfl); (case hr => first | (go_simp; done) | (go_simp; rfl)); intro w19 hw; have hg : w16.grownBy w19 (some go13) := (by rw [hw]; exact HP18.2); have hp_ : Kd.R Kd.bool 4 w19 w.heap.size (fun _ => True) (.slice (some ⟨go13, 0, none⟩) y368.length co13) y371 := (by rw [hw, Ny371.out]; exact HP18.1); clear HP18; have n0_ := Aside0.mk (blk_grown (g := gb367) (o := .cells #[.int .i64 a0_0, .int .i64 a0_1, .slice A0_2 l0_2.length c0_2] 24 (0, 0)) (by (with_reducible repeat (first | refine blk_drewN ?_ _ | refine blk_drew ?_ | refine blk_alloc ?_ _)); exact BK367.out) hg (Kd.R_ne HO370.out BK367.out (by decide))); have n1_ := Aside0.mk (hp_); have n2_ := Aside0.mk ((by rw [hw]; exact below_set (HB.out) GB13.out : Below w.heap.size w w19)); clear BK367; clear HO370; clear HB; have BK367 := n0_; have HO370 := n1_; have HB := n2_; clear n0_ n1_ n2_; clear hg hw hp_))
      go_loopg [8] k (fun kq v8 w' => ∃ (x7_1 : List Bool) (x8_1 : Bool), v8 = .bool x8_1 ∧ Aside0 (davitref09_comes.l0 kq a2 x7_1 x8_1 a0_0 a0_1 l0_2 = some r) ∧ Aside0 (kq ≤ k) ∧ Aside0 (Kd.R Kd.bool 4 w' w.heap.size (fun _ => True) (.slice (some ⟨go13, 0, none⟩) y368.length co13) x7_1) ∧ Aside0 (w'.heap[gb367]? = some (.cells #[.int .i64 a0_0, .int .i64 a0_1, (.slice A0_2 l0_2.length c0_2)] 24 (0, 0))) ∧ Aside0 (Below w.heap.size w w'))
      case atStart => exact ⟨(y371), (true), (by first | rfl | (simp; done) | (simp [*]; done)), H', ⟨Nat.le_refl _⟩, ⟨by (with_reducible repeat (first | apply Kd.R_alloc | apply Kd.R_drewN | apply Kd.R_drew)); exact HO370.out⟩, ⟨by (with_reducible repeat (first | refine blk_drewN ?_ _ | refine blk_drew ?_ | refine blk_alloc ?_ _)); exact BK367.out⟩, ⟨by repeat (first | (with_reducible first | exact HB.out | apply below_alloc | apply pw_below_drewN | apply below_drew1 | refine below_set ?_ GE367.out) | exact HB.out)⟩⟩
      case round =>
       clear H'
       try clear c1
       try clear p1
       try clear q1
       try clear hx1
       try clear p2
       try clear c4
       try clear c4b0
       try clear c4b1
       try clear c5
       try clear c5b0
       try clear c5b1
       try clear c6
       try clear c6b0
       try clear c6b1
       try clear c11
       try clear c11b0
       try clear c12
       try clear c12b0
       try clear p13
       try clear q13
       try clear hx13
       try clear hf13
       try clear hcz15_0
       try clear hcz15_1
       try clear hcz15_2
       try clear hcz8_0
       try clear hcz8_1
       try clear hcz8_2
       try clear hfz15_0
       try clear hfz15_1
       try clear hfz15_2
       try clear hfz8_0
       try clear hfz8_1
       try clear hfz8_2
       try clear hx13_0
       try clear p13
       try clear q13
       obtain ⟨x7_1, x8_1, rfl, HA, HK1, HO_7, BK367, HB⟩ := hrel
       have hl7_1 := (Kd.R_reads' HO_7.out).1
       rw [hl7_1] at HO_7
       (try simp only [hl7_1])
       (try simp only [hl7_1] at BK367)
       cases gk with
       | zero => exact absurd HA.out (by simp [davitref09_comes.l0])
       | succ k1 =>
        have H := HA.out
        clear HA
        simp only [davitref09_comes.l0] at H
        by_cases c20 : x8_1 = true
        ·subst c20
         have H1 : (davitref09_comes.l1 k1 a2 x7_1 false 0 a0_0 a0_1 l0_2) = some r := by rw [if_pos rfl] at H; exact H
         clear H
         have H := H1
         clear H1
         have H' := Aside0.mk H
         clear H
         go_wp2
         go_loopg [8, 9] k1 (fun kq v8 v9 w' => ∃ (x7_2 : List Bool) (x8_2 : Bool) (x9_2 : Int), v8 = .bool x8_2 ∧ v9 = .int .i64 x9_2 ∧ Aside0 (davitref09_comes.l1 kq a2 x7_2 x8_2 x9_2 a0_0 a0_1 l0_2 = some r) ∧ Aside0 (kq ≤ k1) ∧ Aside0 (Kd.R Kd.bool 4 w' w.heap.size (fun _ => True) (.slice (some ⟨go13, 0, none⟩) x7_1.length co13) x7_2) ∧ Aside0 (w'.heap[gb367]? = some (.cells #[.int .i64 a0_0, .int .i64 a0_1, (.slice A0_2 l0_2.length c0_2)] 24 (0, 0))) ∧ Aside0 (Below w.heap.size w w'))
         case atStart => exact ⟨(x7_1), (false), (0), (by first | rfl | (simp; done) | (simp [*]; done)), (by first | rfl | (simp; done) | (simp [*]; done)), H', ⟨Nat.le_refl _⟩, ⟨by (try simp only [hl7_1]); (with_reducible repeat (first | apply Kd.R_alloc | apply Kd.R_drewN | apply Kd.R_drew)); exact HO_7.out⟩, ⟨by (try simp only [hl7_1]); (with_reducible repeat (first | refine blk_drewN ?_ _ | refine blk_drew ?_ | refine blk_alloc ?_ _)); exact BK367.out⟩, ⟨by repeat (first | (with_reducible first | exact HB.out | apply below_alloc | apply pw_below_drewN | apply below_drew1 | refine below_set ?_ GE367.out) | exact HB.out)⟩⟩
         case round =>
          clear H'
          try clear c1
          try clear p1
          try clear q1
          try clear hx1
          try clear c2
          try clear p2
          try clear c4
          try clear c4b0
          try clear c4b1
          try clear c5
          try clear c5b0
          try clear c5b1
          try clear c6
          try clear c6b0
          try clear c6b1
          try clear c11
          try clear c11b0
          try clear c12
          try clear c12b0
          try clear p13
          try clear q13
          try clear hx13
          try clear hf13
          try clear c20
          try clear hcz15_0
          try clear hcz15_1
          try clear hcz15_2
          try clear hcz8_0
          try clear hcz8_1
          try clear hcz8_2
          try clear hfz15_0
          try clear hfz15_1
          try clear hfz15_2
          try clear hfz8_0
          try clear hfz8_1
          try clear hfz8_2
          try clear hx13_0
          try clear p1
          try clear p13
          try clear p2
          try clear q1
          try clear q13
          obtain ⟨x7_2, x8_2, x9_2, rfl, rfl, HA, HK2, HO_7, BK367, HB⟩ := hrel
          have hl7_2 := (Kd.R_reads' HO_7.out).1
          rw [hl7_2] at HO_7
          (try simp only [hl7_2])
          (try simp only [hl7_2] at BK367)
          cases gk with
          | zero => exact absurd HA.out (by simp [davitref09_comes.l1])
          | succ k2 =>
           have H := HA.out
           clear HA
           simp only [davitref09_comes.l1] at H
           by_cases c21 : x9_2 < (x7_2.length : Int)
           ·rw [if_pos c21] at H
            have c21b0 : decide (x9_2 < (x7_2.length : Int)) = true := decide_eq_true c21
            clear c21
            have HC22 := Aside0.mk H
            clear H
            go_upto_region 11 with (fail)
            go_cut [38] (fun v38 wc => ∃ (kq : Nat) (x38_21 : Bool), v38 = .bool x38_21 ∧ Aside0 (davitref09_comes.j2 kq a2 x7_2 x8_2 x9_2 x38_21 a0_0 a0_1 l0_2 = some r) ∧ Aside0 (kq ≤ k2) ∧ Aside0 (Kd.R Kd.bool 4 wc w.heap.size (fun _ => True) (.slice (some ⟨go13, 0, none⟩) x7_2.length co13) x7_2) ∧ Aside0 (wc.heap[gb367]? = some (.cells #[.int .i64 a0_0, .int .i64 a0_1, (.slice A0_2 l0_2.length c0_2)] 24 (0, 0))) ∧ Aside0 (Below w.heap.size w wc))
            case first =>
             have H := HC22.out
             clear HC22
             by_cases c23 : 0 ≤ x9_2
             ·rw [if_pos c23] at H
              have c23b0 : decide (0 ≤ x9_2) = true := decide_eq_true c23
              clear c23
              (first | rw [c23b0] | (simp only [i64_w, i32_w]; rw [c23b0]) | skip)
              obtain ⟨bq24, hbq24⟩ : ∃ b_ : Bool, b_ = (rdOf false x7_2 x9_2) := ⟨_, rfl⟩
              replace H : (if bq24 = true then (davitref09_comes.j2 k2 a2 x7_2 x8_2 x9_2 true a0_0 a0_1 l0_2) else (davitref09_comes.j2 k2 a2 x7_2 x8_2 x9_2 (x9_2 == a2) a0_0 a0_1 l0_2)) = some r := by rw [← hbq24] at H; exact H
              have Nbq24 := Aside0.mk hbq24
              clear hbq24
              by_cases c25 : bq24 = true
              ·subst c25
               have H1 : (davitref09_comes.j2 k2 a2 x7_2 x8_2 x9_2 true a0_0 a0_1 l0_2) = some r := by rw [if_pos rfl] at H; exact H
               clear H
               have H := H1
               clear H1
               have H' := Aside0.mk H
               clear H
               have p372 : 0 ≤ (x9_2 : Int) := of_decide_eq_true (by first | (with_reducible assumption) | assumption)
               have q372 : x9_2 < (x7_2.length : Int) := of_decide_eq_true (by first | (with_reducible assumption) | assumption)
               obtain ⟨ad372, e372, hx372_0⟩ := Kd.at_bool (Kd.R_reads' HO_7.out).2.2 x9_2 p372 q372
               (try rw [← Nbq24.out] at hx372_0)
               obtain rfl : (⟨go13, 0, none⟩ : Addr) = ad372 := (by injection e372)
               (first | simp only [add_plain] at hx372_0 | simp only [add_at] at hx372_0 | simp only [Addr.add, Nat.zero_add] at hx372_0 | skip)
               replace p372 := eq_true p372
               replace q372 := eq_true q372
               go_wp2
               go_meet
               case rel => exact ⟨_, (true), (by first | rfl | (simp; done) | (simp [*]; done)), H', ⟨by have := HK1.out; have := HK2.out; first | omega | exact Nat.le_refl _⟩, ⟨by (try simp only [hl7_1]); (try simp only [hl7_2]); (with_reducible repeat (first | apply Kd.R_alloc | apply Kd.R_drewN | apply Kd.R_drew)); exact HO_7.out⟩, ⟨by (try simp only [hl7_1]); (try simp only [hl7_2]); (with_reducible repeat (first | refine blk_drewN ?_ _ | refine blk_drew ?_ | refine blk_alloc ?_ _)); exact BK367.out⟩, ⟨by repeat (first | (with_reducible first | exact HB.out | apply below_alloc | apply pw_below_drewN | apply below_drew1 | refine below_set ?_ GE367.out) | exact HB.out)⟩⟩
              ·replace c25 := Bool.eq_false_iff.mpr c25
               subst c25
               have H1 : (davitref09_comes.j2 k2 a2 x7_2 x8_2 x9_2 (x9_2 == a2) a0_0 a0_1 l0_2) = some r := by rw [if_neg (show ¬ (false = true) by decide)] at H; exact H
               clear H
               have H := H1
               clear H1
               have H' := Aside0.mk H
               clear H
               have p372 : 0 ≤ (x9_2 : Int) := of_decide_eq_true (by first | (with_reducible assumption) | assumption)
               have q372 : x9_2 < (x7_2.length : Int) := of_decide_eq_true (by first | (with_reducible assumption) | assumption)
               obtain ⟨ad372, e372, hx372_0⟩ := Kd.at_bool (Kd.R_reads' HO_7.out).2.2 x9_2 p372 q372
               (try rw [← Nbq24.out] at hx372_0)
               obtain rfl : (⟨go13, 0, none⟩ : Addr) = ad372 := (by injection e372)
               (first | simp only [add_plain] at hx372_0 | simp only [add_at] at hx372_0 | simp only [Addr.add, Nat.zero_add] at hx372_0 | skip)
               replace p372 := eq_true p372
               replace q372 := eq_true q372
               go_wp2
               go_meet
               case rel => exact ⟨_, ((x9_2 == a2)), (by first | rfl | (simp; done) | (simp [*]; done)), H', ⟨by have := HK1.out; have := HK2.out; first | omega | exact Nat.le_refl _⟩, ⟨by (try simp only [hl7_1]); (try simp only [hl7_2]); (with_reducible repeat (first | apply Kd.R_alloc | apply Kd.R_drewN | apply Kd.R_drew)); exact HO_7.out⟩, ⟨by (try simp only [hl7_1]); (try simp only [hl7_2]); (with_reducible repeat (first | refine blk_drewN ?_ _ | refine blk_drew ?_ | refine blk_alloc ?_ _)); exact BK367.out⟩, ⟨by repeat (first | (with_reducible first | exact HB.out | apply below_alloc | apply pw_below_drewN | apply below_drew1 | refine below_set ?_ GE367.out) | exact HB.out)⟩⟩
             ·rw [if_neg c23] at H
              exact absurd H (by simp)
            case rest =>
             clear HC22
             try clear c1
             try clear p1
             try clear q1
             try clear hx1
             try clear c2
             try clear p2
             try clear q2
             try clear p3
             try clear q3
             try clear hx3
             try clear c4
             try clear c4b0
             try clear c4b1
             try clear c5
             try clear c5b0
             try clear c5b1
             try clear c6
             try clear c6b0
             try clear c6b1
             try clear c11
             try clear c11b0
             try clear c12
             try clear c12b0
             try clear p13
             try clear q13
             try clear hx13
             try clear hf13
             try clear c20
             try clear c21
             try clear c21b0
             try clear c23
             try clear c23b0
             try clear q24
             try clear c25
             try clear hcz15_0
             try clear hcz15_1
             try clear hcz15_2
             try clear hcz8_0
             try clear hcz8_1
             try clear hcz8_2
             try clear hfz15_0
             try clear hfz15_1
             try clear hfz15_2
             try clear hfz8_0
             try clear hfz8_1
             try clear hfz8_2
             try clear hx13_0
             try clear hx372_0
             try clear p1
             try clear p13
             try clear p2
             try clear p372
             try clear q1
             try clear q13
             try clear q372
             obtain ⟨kq, x38_21, rfl, HA, HJ21, HO_7, BK367, HB⟩ := hcut
             cases kq with
             | zero => exact absurd HA.out (by simp [davitref09_comes.j2])
             | succ kj21 =>
              have H := HA.out
              clear HA
              simp only [davitref09_comes.j2] at H
              by_cases c26 : x38_21 = true
              ·subst c26
               have H1 : (davitref09_comes.l1 kj21 a2 x7_2 x8_2 (wrap64 (x9_2 + 1)) a0_0 a0_1 l0_2) = some r := by rw [if_pos rfl] at H; exact H
               clear H
               have H := H1
               clear H1
               have H' := Aside0.mk H
               clear H
               go_wp2
               (try simp only [← hl7_2])
               go_roundg kj21
               case measure => have := HK1.out; have := HK2.out; have := HJ21.out; omega
               case rel => exact ⟨(x7_2), (x8_2), (wrap64 (x9_2 + 1)), (by first | rfl | (simp; done) | (simp [*]; done)), (by first | rfl | (simp; done) | (simp [*]; done)), H', ⟨by have := HK1.out; have := HK2.out; have := HJ21.out; omega⟩, ⟨by (try simp only [hl7_1]); (try simp only [hl7_2]); (with_reducible repeat (first | apply Kd.R_alloc | apply Kd.R_drewN | apply Kd.R_drew)); exact HO_7.out⟩, ⟨by (try simp only [hl7_1]); (try simp only [hl7_2]); (with_reducible repeat (first | refine blk_drewN ?_ _ | refine blk_drew ?_ | refine blk_alloc ?_ _)); exact BK367.out⟩, ⟨by repeat (first | (with_reducible first | exact HB.out | apply below_alloc | apply pw_below_drewN | apply below_drew1 | refine below_set ?_ GE367.out) | exact HB.out)⟩⟩
              ·replace c26 := Bool.eq_false_iff.mpr c26
               subst c26
               have H1 : ((davitref07_Next.f kj21 a0_0 a0_1 l0_2 x9_2).bind fun t373 => (davitref09_comes.l2 kj21 a2 x7_2 x8_2 x9_2 t373 0 a0_0 a0_1 l0_2)) = some r := by rw [if_neg (show ¬ (false = true) by decide)] at H; exact H
               clear H
               have H := H1
               clear H1
               replace H := Option.bind_eq_some_iff.mp H
               obtain ⟨t373, A270, H⟩ := H
               replace H : (davitref09_comes.l2 kj21 a2 x7_2 x8_2 x9_2 t373 0 a0_0 a0_1 l0_2) = some r := H
               have A27 := Aside0.mk A270
               clear A270
               have H' := Aside0.mk H
               clear H
               have hcz28_0 : wc.cell? ⟨gb367, 0, none⟩ = some (.int .i64 a0_0) := (blk_cell BK367.out 0).trans rfl
               have hcz28_1 : wc.cell? ⟨gb367, 1, none⟩ = some (.int .i64 a0_1) := (blk_cell BK367.out 1).trans rfl
               have hcz28_2 : wc.cell? ⟨gb367, 2, none⟩ = some (.slice A0_2 l0_2.length c0_2) := (blk_cell BK367.out 2).trans rfl
               have hfz28_0 := blk_frozen BK367.out 0
               have hfz28_1 := blk_frozen BK367.out 1
               have hfz28_2 := blk_frozen BK367.out 2
               go_wp2_with (first | ((with_reducible refine gate_callee (f := 33) rfl ?_); refine goesL_ (some 41) rfl rfl Try.func33 (by kernel_rfl) rfl #[.agg #[.int .i64 a0_0, .int .i64 a0_1, .slice A0_2 l0_2.length c0_2], .int .i64 x9_2] rfl (by (try simp only [List.map_toArray, List.map_cons, List.map_nil]); first | done | rfl | (simp only [List.length_drop, List.length_take]; rfl)) ?_; (with_reducible refine (davitref07_Next.calls kj21 a0_0 a0_1 _ _ l0_2 x9_2 t373 _ ?side1 ?side2 A27.out).mono ?_); (case side1 => repeat (first | exact (Kd.C_below HR0_2.out HB.out) | (with_reducible refine Kd.C_alloc ?_ _) | (with_reducible refine Kd.C_drewN ?_ _) | (with_reducible refine Kd.C_drew ?_))); (case side2 => exact HC0_2.out); rintro e w29 ⟨v374, rfl, ho0, hb⟩; refine ⟨_, rfl, ?_⟩; have n0_ := Aside0.mk (Kd.R_below (by (with_reducible repeat (first | apply Kd.R_alloc | apply Kd.R_drewN | apply Kd.R_drew)); exact HO_7.out) hb); have n1_ := Aside0.mk (Kd.R_lower ho0 (below_size (by repeat (first | (with_reducible first | exact HB.out | apply below_alloc | apply pw_below_drewN | apply below_drew1 | refine below_set ?_ GE367.out) | exact HB.out)))); have n2_ := Aside0.mk (blk_below (g := gb367) (o := .cells #[.int .i64 a0_0, .int .i64 a0_1, .slice A0_2 l0_2.length c0_2] 24 (0, 0)) (by (with_reducible repeat (first | refine blk_drewN ?_ _ | refine blk_drew ?_ | refine blk_alloc ?_ _)); exact BK367.out) hb); have n3_ := Aside0.mk (below_step (by repeat (first | (with_reducible first | exact HB.out | apply below_alloc | apply pw_below_drewN | apply below_drew1 | refine below_set ?_ GE367.out) | exact HB.out)) hb); clear HO_7; clear BK367; clear HB; have HO_7 := n0_; have HO375 := n1_; have BK367 := n2_; have HB := n3_; clear n0_ n1_ n2_ n3_; (try clear hb); (try clear hb2); (try clear hk); (try clear hi); (try clear ho0)))
               go_loopg [8, 11] kj21 (fun kq v8 v11 w' => ∃ (x7_4 : List Bool) (x8_4 : Bool) (x11_4 : Int), v8 = .bool x8_4 ∧ v11 = .int .i64 x11_4 ∧ Aside0 (davitref09_comes.l2 kq a2 x7_4 x8_4 x9_2 t373 x11_4 a0_0 a0_1 l0_2 = some r) ∧ Aside0 (kq ≤ kj21) ∧ Aside0 (Kd.R Kd.bool 4 w' w.heap.size (fun _ => True) (.slice (some ⟨go13, 0, none⟩) x7_2.length co13) x7_4) ∧ Aside0 (Kd.R (Kd.int .i64) 3 w' w.heap.size (fun _ => True) v374 t373) ∧ Aside0 (w'.heap[gb367]? = some (.cells #[.int .i64 a0_0, .int .i64 a0_1, (.slice A0_2 l0_2.length c0_2)] 24 (0, 0))) ∧ Aside0 (Below w.heap.size w w'))
               case atStart => exact ⟨(x7_2), (x8_2), (0), (by first | rfl | (simp; done) | (simp [*]; done)), (by first | rfl | (simp; done) | (simp [*]; done)), H', ⟨Nat.le_refl _⟩, ⟨by (try simp only [hl7_1]); (try simp only [hl7_2]); (with_reducible repeat (first | apply Kd.R_alloc | apply Kd.R_drewN | apply Kd.R_drew)); exact HO_7.out⟩, ⟨by (try simp only [hl7_1]); (try simp only [hl7_2]); (with_reducible repeat (first | apply Kd.R_alloc | apply Kd.R_drewN | apply Kd.R_drew)); exact HO375.out⟩, ⟨by (try simp only [hl7_1]); (try simp only [hl7_2]); (with_reducible repeat (first | refine blk_drewN ?_ _ | refine blk_drew ?_ | refine blk_alloc ?_ _)); exact BK367.out⟩, ⟨by repeat (first | (with_reducible first | exact HB.out | apply below_alloc | apply pw_below_drewN | apply below_drew1 | refine below_set ?_ GE367.out) | exact HB.out)⟩⟩
               case round =>
                clear H'
                try clear c1
                try clear p1
                try clear q1
                try clear hx1
                try clear c2
                try clear p2
                try clear q2
                try clear c3
                try clear p3
                try clear q3
                try clear hx3
                try clear c4
                try clear c4b0
                try clear c4b1
                try clear c5
                try clear c5b0
                try clear c5b1
                try clear c6
                try clear c6b0
                try clear c6b1
                try clear p6
                try clear c11
                try clear c11b0
                try clear c12
                try clear c12b0
                try clear p13
                try clear q13
                try clear hx13
                try clear hf13
                try clear c20
                try clear c21
                try clear c21b0
                try clear c23
                try clear c23b0
                try clear q24
                try clear c25
                try clear c26
                try clear hcz15_0
                try clear hcz15_1
                try clear hcz15_2
                try clear hcz28_0
                try clear hcz28_1
                try clear hcz28_2
                try clear hcz8_0
                try clear hcz8_1
                try clear hcz8_2
                try clear hfz15_0
                try clear hfz15_1
                try clear hfz15_2
                try clear hfz28_0
                try clear hfz28_1
                try clear hfz28_2
                try clear hfz8_0
                try clear hfz8_1
                try clear hfz8_2
                try clear hx13_0
                try clear hx372_0
                try clear p1
                try clear p13
                try clear p2
                try clear p3
                try clear p372
                try clear q1
                try clear q13
                try clear q2
                try clear q24
                try clear q3
                try clear q372
                obtain ⟨x7_4, x8_4, x11_4, rfl, rfl, HA, HK4, HO_7, HO_10, BK367, HB⟩ := hrel
                have hl7_4 := (Kd.R_reads' HO_7.out).1
                rw [hl7_4] at HO_7
                (try simp only [hl7_4])
                (try simp only [hl7_4] at BK367)
                (try simp only [hl7_4] at HO_10)
                cases gk with
                | zero => exact absurd HA.out (by simp [davitref09_comes.l2])
                | succ k4 =>
                 have H := HA.out
                 clear HA
                 simp only [davitref09_comes.l2] at H
                 by_cases c30 : x11_4 < (t373.length : Int)
                 ·rw [if_pos c30] at H
                  have c30b0 : decide (x11_4 < (t373.length : Int)) = true := decide_eq_true c30
                  clear c30
                  by_cases c31 : 0 ≤ x11_4
                  ·rw [if_pos c31] at H
                   have c31b0 : decide (0 ≤ x11_4) = true := decide_eq_true c31
                   clear c31
                   by_cases c32 : 0 ≤ (rd t373 x11_4)
                   ·rw [if_pos c32] at H
                    have c32b0 : decide (0 ≤ (rd t373 x11_4)) = true := decide_eq_true c32
                    clear c32
                    by_cases c33 : (rd t373 x11_4) < (x7_4.length : Int)
                    ·rw [if_pos c33] at H
                     have c33b0 : decide ((rd t373 x11_4) < (x7_4.length : Int)) = true := decide_eq_true c33
                     clear c33
                     obtain ⟨bq34, hbq34⟩ : ∃ b_ : Bool, b_ = (rdOf false x7_4 (rd t373 x11_4)) := ⟨_, rfl⟩
                     replace H : (if bq34 = true then (if 0 ≤ x9_2 then (if x9_2 < (x7_4.length : Int) then (davitref09_comes.l2 k4 a2 (x7_4.set (x9_2 : Int).toNat true) true x9_2 t373 (wrap64 (x11_4 + 1)) a0_0 a0_1 l0_2) else (none)) else (none)) else (davitref09_comes.l2 k4 a2 x7_4 x8_4 x9_2 t373 (wrap64 (x11_4 + 1)) a0_0 a0_1 l0_2)) = some r := by rw [← hbq34] at H; exact H
                     have Nbq34 := Aside0.mk hbq34
                     clear hbq34
                     by_cases c35 : bq34 = true
                     ·subst c35
                      have H1 : (if 0 ≤ x9_2 then (if x9_2 < (x7_4.length : Int) then (davitref09_comes.l2 k4 a2 (x7_4.set (x9_2 : Int).toNat true) true x9_2 t373 (wrap64 (x11_4 + 1)) a0_0 a0_1 l0_2) else (none)) else (none)) = some r := by rw [if_pos rfl] at H; exact H
                      clear H
                      have H := H1
                      clear H1
                      by_cases c36 : 0 ≤ x9_2
                      ·rw [if_pos c36] at H
                       have c36b0 : decide (0 ≤ x9_2) = true := decide_eq_true c36
                       clear c36
                       by_cases c37 : x9_2 < (x7_4.length : Int)
                       ·rw [if_pos c37] at H
                        have c37b0 : decide (x9_2 < (x7_4.length : Int)) = true := decide_eq_true c37
                        clear c37
                        obtain ⟨y378, hy378⟩ : ∃ y_ : List Bool, y_ = (x7_4.set (x9_2 : Int).toNat true) := ⟨_, rfl⟩
                        replace H : (davitref09_comes.l2 k4 a2 y378 true x9_2 t373 (wrap64 (x11_4 + 1)) a0_0 a0_1 l0_2) = some r := by first | (rw [hy378]; with_reducible exact H) | (have H2_ := (Option.bind_some _ _).symm.trans H; rw [hy378]; with_reducible exact H2_) | (have H2_ := (Option.bind_some _ _).symm.trans H; with_reducible exact H2_) | with_reducible exact H | (rw [hy378]; exact H) | exact H
                        have Ny378 := Aside0.mk hy378
                        clear hy378
                        have H' := Aside0.mk H
                        clear H
                        obtain ⟨Ao39, co39, eo39⟩ := Kd.R_slice HO_10.out
                        subst eo39
                        have p376 : 0 ≤ (x11_4 : Int) := of_decide_eq_true (by first | (with_reducible assumption) | assumption)
                        have q376 : x11_4 < (t373.length : Int) := of_decide_eq_true (by first | (with_reducible assumption) | assumption)
                        obtain ⟨ad376, e376, hx376_0⟩ := Kd.at_int (Kd.R_reads' HO_10.out).2.2 x11_4 p376 q376
                        cases e376
                        replace p376 := eq_true p376
                        replace q376 := eq_true q376
                        have p377 : 0 ≤ ((rd t373 x11_4) : Int) := of_decide_eq_true (by first | (with_reducible assumption) | assumption)
                        have q377 : (rd t373 x11_4) < (x7_4.length : Int) := of_decide_eq_true (by first | (with_reducible assumption) | assumption)
                        obtain ⟨ad377, e377, hx377_0⟩ := Kd.at_bool (Kd.R_reads' HO_7.out).2.2 (rd t373 x11_4) p377 q377
                        (try rw [← Nbq34.out] at hx377_0)
                        obtain rfl : (⟨go13, 0, none⟩ : Addr) = ad377 := (by injection e377)
                        (first | simp only [add_plain] at hx377_0 | simp only [add_at] at hx377_0 | simp only [Addr.add, Nat.zero_add] at hx377_0 | skip)
                        replace p377 := eq_true p377
                        replace q377 := eq_true q377
                        have p38 : 0 ≤ (x9_2 : Int) := of_decide_eq_true (by first | (with_reducible assumption) | assumption)
                        have q38 : (x9_2 : Int) < ((x7_4.length : Int) : Int) := of_decide_eq_true (by first | (with_reducible assumption) | assumption)
                        obtain ⟨hx38_0, hf38_0⟩ := Kd.R_celln false HO_7.out (x9_2 : Int) p38 q38
                        replace p38 := eq_true p38
                        replace q38 := eq_true q38
                        have HP40 := Kd.R_putg HO_7.out (x9_2 : Int) true
                        go_wp2_with (first | ((with_reducible refine gate_store (t := 4) (p := 57) rfl ?_); refine store_event (t := 4) (p := 57) (v := ?vo_w41) (w1 := (wr.setCell ⟨go13, (x9_2 : Int).toNat, none⟩ (.bool true))) ?hg ?ho ?hn ?hr ?_; (case ho => rfl); (case hg => rfl); (case hn => rfl); (case hr => first | (go_simp; done) | (go_simp; rfl)); intro w41 hw; have hg : wr.grownBy w41 (some go13) := (by rw [hw]; exact HP40.2); have hp_ : Kd.R Kd.bool 4 w41 w.heap.size (fun _ => True) (.slice (some ⟨go13, 0, none⟩) x7_4.length co13) y378 := (by rw [hw, Ny378.out]; exact HP40.1); clear HP40; have n0_ := Aside0.mk (hp_); have n1_ := Aside0.mk (Kd.R_over' (v := (.slice (some ⟨go13, 0, none⟩) x7_4.length co13)) (by (with_reducible repeat (first | apply Kd.R_alloc | apply Kd.R_drewN | apply Kd.R_drew)); exact HO_10.out) (Kd.R_typed HO_7.out) (by decide) hg); have n2_ := Aside0.mk (blk_grown (g := gb367) (o := .cells #[.int .i64 a0_0, .int .i64 a0_1, .slice A0_2 l0_2.length c0_2] 24 (0, 0)) (by (with_reducible repeat (first | refine blk_drewN ?_ _ | refine blk_drew ?_ | refine blk_alloc ?_ _)); exact BK367.out) hg (Kd.R_ne HO_7.out BK367.out (by decide))); have n3_ := Aside0.mk ((by rw [hw]; exact below_set (HB.out) GB13.out : Below w.heap.size w w41)); clear HO_7; clear HO_10; clear BK367; clear HB; have HO_7 := n0_; have HO_10 := n1_; have BK367 := n2_; have HB := n3_; clear n0_ n1_ n2_ n3_; clear hg hw hp_))
                        (try simp only [← hl7_4])
                        go_roundg k4
                        case measure => have := HK1.out; have := HK2.out; have := HJ21.out; have := HK4.out; omega
                        case rel => exact ⟨(y378), (true), (wrap64 (x11_4 + 1)), (by first | rfl | (simp; done) | (simp [*]; done)), (by first | rfl | (simp; done) | (simp [*]; done)), H', ⟨by have := HK1.out; have := HK2.out; have := HJ21.out; have := HK4.out; omega⟩, ⟨by (try simp only [hl7_1]); (try simp only [hl7_2]); (try simp only [hl7_4]); (with_reducible repeat (first | apply Kd.R_alloc | apply Kd.R_drewN | apply Kd.R_drew)); exact HO_7.out⟩, ⟨by (try simp only [hl7_1]); (try simp only [hl7_2]); (try simp only [hl7_4]); (with_reducible repeat (first | apply Kd.R_alloc | apply Kd.R_drewN | apply Kd.R_drew)); exact HO_10.out⟩, ⟨by (try simp only [hl7_1]); (try simp only [hl7_2]); (try simp only [hl7_4]); (with_reducible repeat (first | refine blk_drewN ?_ _ | refine blk_drew ?_ | refine blk_alloc ?_ _)); exact BK367.out⟩, ⟨by repeat (first | (with_reducible first | exact HB.out | apply below_alloc | apply pw_below_drewN | apply below_drew1 | refine below_set ?_ GE367.out) | exact HB.out)⟩⟩
                       ·rw [if_neg c37] at H
                        exact absurd H (by simp)
                      ·rw [if_neg c36] at H
                       exact absurd H (by simp)
                     ·replace c35 := Bool.eq_false_iff.mpr c35
                      subst c35
                      have H1 : (davitref09_comes.l2 k4 a2 x7_4 x8_4 x9_2 t373 (wrap64 (x11_4 + 1)) a0_0 a0_1 l0_2) = some r := by rw [if_neg (show ¬ (false = true) by decide)] at H; exact H
                      clear H
                      have H := H1
                      clear H1
                      have H' := Aside0.mk H
                      clear H
                      obtain ⟨Ao42, co42, eo42⟩ := Kd.R_slice HO_10.out
                      subst eo42
                      have p376 : 0 ≤ (x11_4 : Int) := of_decide_eq_true (by first | (with_reducible assumption) | assumption)
                      have q376 : x11_4 < (t373.length : Int) := of_decide_eq_true (by first | (with_reducible assumption) | assumption)
                      obtain ⟨ad376, e376, hx376_0⟩ := Kd.at_int (Kd.R_reads' HO_10.out).2.2 x11_4 p376 q376
                      cases e376
                      replace p376 := eq_true p376
                      replace q376 := eq_true q376
                      have p377 : 0 ≤ ((rd t373 x11_4) : Int) := of_decide_eq_true (by first | (with_reducible assumption) | assumption)
                      have q377 : (rd t373 x11_4) < (x7_4.length : Int) := of_decide_eq_true (by first | (with_reducible assumption) | assumption)
                      obtain ⟨ad377, e377, hx377_0⟩ := Kd.at_bool (Kd.R_reads' HO_7.out).2.2 (rd t373 x11_4) p377 q377
                      (try rw [← Nbq34.out] at hx377_0)
                      obtain rfl : (⟨go13, 0, none⟩ : Addr) = ad377 := (by injection e377)
                      (first | simp only [add_plain] at hx377_0 | simp only [add_at] at hx377_0 | simp only [Addr.add, Nat.zero_add] at hx377_0 | skip)
                      replace p377 := eq_true p377
                      replace q377 := eq_true q377
                      go_wp2
                      (try simp only [← hl7_4])
                      go_roundg k4
                      case measure => have := HK1.out; have := HK2.out; have := HJ21.out; have := HK4.out; omega
                      case rel => exact ⟨(x7_4), (x8_4), (wrap64 (x11_4 + 1)), (by first | rfl | (simp; done) | (simp [*]; done)), (by first | rfl | (simp; done) | (simp [*]; done)), H', ⟨by have := HK1.out; have := HK2.out; have := HJ21.out; have := HK4.out; omega⟩, ⟨by (try simp only [hl7_1]); (try simp only [hl7_2]); (try simp only [hl7_4]); (with_reducible repeat (first | apply Kd.R_alloc | apply Kd.R_drewN | apply Kd.R_drew)); exact HO_7.out⟩, ⟨by (try simp only [hl7_1]); (try simp only [hl7_2]); (try simp only [hl7_4]); (with_reducible repeat (first | apply Kd.R_alloc | apply Kd.R_drewN | apply Kd.R_drew)); exact HO_10.out⟩, ⟨by (try simp only [hl7_1]); (try simp only [hl7_2]); (try simp only [hl7_4]); (with_reducible repeat (first | refine blk_drewN ?_ _ | refine blk_drew ?_ | refine blk_alloc ?_ _)); exact BK367.out⟩, ⟨by repeat (first | (with_reducible first | exact HB.out | apply below_alloc | apply pw_below_drewN | apply below_drew1 | refine below_set ?_ GE367.out) | exact HB.out)⟩⟩
                    ·rw [if_neg c33] at H
                     exact absurd H (by simp)
                   ·rw [if_neg c32] at H
                    exact absurd H (by simp)
                  ·rw [if_neg c31] at H
                   exact absurd H (by simp)
                 ·rw [if_neg c30] at H
                  have c30b0 : decide (x11_4 < (t373.length : Int)) = false := decide_eq_false c30
                  clear c30
                  have H' := Aside0.mk H
                  clear H
                  obtain ⟨Ao43, co43, eo43⟩ := Kd.R_slice HO_10.out
                  subst eo43
                  go_wp2
                  (try simp only [← hl7_2, ← hl7_4])
                  go_roundg k4
                  case measure => have := HK1.out; have := HK2.out; have := HJ21.out; have := HK4.out; omega
                  case rel => exact ⟨(x7_4), (x8_4), (wrap64 (x9_2 + 1)), (by first | rfl | (simp; done) | (simp [*]; done)), (by first | rfl | (simp; done) | (simp [*]; done)), H', ⟨by have := HK1.out; have := HK2.out; have := HJ21.out; have := HK4.out; omega⟩, ⟨by (try simp only [hl7_1]); (try simp only [hl7_2]); (try simp only [hl7_4]); (with_reducible repeat (first | apply Kd.R_alloc | apply Kd.R_drewN | apply Kd.R_drew)); exact HO_7.out⟩, ⟨by (try simp only [hl7_1]); (try simp only [hl7_2]); (try simp only [hl7_4]); (with_reducible repeat (first | refine blk_drewN ?_ _ | refine blk_drew ?_ | refine blk_alloc ?_ _)); exact BK367.out⟩, ⟨by repeat (first | (with_reducible first | exact HB.out | apply below_alloc | apply pw_below_drewN | apply below_drew1 | refine below_set ?_ GE367.out) | exact HB.out)⟩⟩
           ·rw [if_neg c21] at H
            have c21b0 : decide (x9_2 < (x7_2.length : Int)) = false := decide_eq_false c21
            clear c21
            have H' := Aside0.mk H
            clear H
            go_wp2
            (try simp only [← hl7_1, ← hl7_2])
            go_roundg k2
            case measure => have := HK1.out; have := HK2.out; omega
            case rel => exact ⟨(x7_2), (x8_2), (by first | rfl | (simp; done) | (simp [*]; done)), H', ⟨by have := HK1.out; have := HK2.out; omega⟩, ⟨by (try simp only [hl7_1]); (try simp only [hl7_2]); (with_reducible repeat (first | apply Kd.R_alloc | apply Kd.R_drewN | apply Kd.R_drew)); exact HO_7.out⟩, ⟨by (try simp only [hl7_1]); (try simp only [hl7_2]); (with_reducible repeat (first | refine blk_drewN ?_ _ | refine blk_drew ?_ | refine blk_alloc ?_ _)); exact BK367.out⟩, ⟨by repeat (first | (with_reducible first | exact HB.out | apply below_alloc | apply pw_below_drewN | apply below_drew1 | refine below_set ?_ GE367.out) | exact HB.out)⟩⟩
        ·replace c20 := Bool.eq_false_iff.mpr c20
         subst c20
         have H1 : (some x7_1) = some r := by rw [if_neg (show ¬ (false = true) by decide)] at H; exact H
         clear H
         have H := H1
         clear H1
         obtain rfl := Option.some.inj H
         go_wp2
         go_ret
         exact ⟨_, by first | rfl | (simp [errW_none, errW_some] <;> rfl) | (simp [*, errW_none, errW_some] <;> rfl), by (with_reducible repeat (first | apply Kd.R_alloc | apply Kd.R_drewN | apply Kd.R_drew)); exact HO_7.out, by repeat (first | (with_reducible first | exact HB.out | apply below_alloc | apply pw_below_drewN | apply below_drew1 | refine below_set ?_ GE367.out) | exact HB.out)⟩
     ·rw [if_neg c12] at H
      exact absurd H (by simp)
    ·rw [if_neg c11] at H
     exact absurd H (by simp)
  ·rw [if_neg c5] at H
   exact absurd H (by simp)
 ·rw [if_neg c4] at H
  exact absurd H (by simp)
end
end Go.Proofs.Ytilopoegoddggaa.X
