/- Part 14 of the proof of the statement ShapeCopies: the words of the walks, the walks through the functions that it reaches, and the plain laws of what they compute. -/
import Derived.Test.YtbfialebaoeicaaMShapeCopies12
import Derived.RangeFuncBox
import Derived.RangeFuncWrites
import Derived.RangeFuncLeaves
import Derived.Maps.AppendAt
import Derived.Shelf.Abstract
import Derived.WalkKit
import Derived.OwnWalkIn
import Derived.TacticsInMore
import Derived.LoopNIn
import Derived.LoopIn
import Derived.RegionTactic
import Derived.ChangeAlike
import Derived.Deep.QuietTactic
import Derived.BigQuiet
import Derived.Lib.SliceRun
namespace Go.Proofs.Ytbfialebaoeicaa.X
open Go.RowKit Go.Shelf Go.Proofs.YtbfialebaoeicaaW.PrintWords Go.Proofs.YtbfialebaoeicaaW.PrintLast Go.Proofs.YtbfialebaoeicaaW.PrintMore
set_option linter.all false
attribute [local go_sem] Oper.semAt_some
theorem take_up (zs : List Int) (k : Nat) (h : k < zs.length) : zs.take (k + 1) = zs.take k ++ [zs[k]?.getD 0] := by
 rw [List.take_succ_eq_append_getElem h, List.getElem?_eq_getElem h]
 rfl
set_option maxRecDepth 100000 in
set_option maxHeartbeats 4000000 in
theorem vals1_in (F : Fence) (n : Nat) (h7 : F.fn 121) (hro : F.round = none) (hn : 1 ≤ n) (l Bs n₀ : Nat) (ad : Addr) (cap : Nat) (zs : List Int) (hreach : zs.length ≤ 1000000) (hb : ∀ j, j < zs.length → (ad.add j).block < n₀) (J Jx : List Int → World → Prop)
  (hY : ∀ pre x W, J pre W → pre.length < zs.length → YieldAt F (n - 1) Try.prog l #[.int .u16 x] W fun e W' =>
   (e = .returned (.bool true) ∧ J (pre ++ [x]) W' ∧ Below n₀ W W') ∨ (e = .returned (.bool false) ∧ Jx (pre ++ [x]) W'))
  (W : World) (hBs : W.cell? ⟨Bs, 0, none⟩ = some (.slice (some ad) zs.length cap)) (hc : ∀ j, j < zs.length → W.cell? (ad.add j) = some (.int .u16 (zs[j]?.getD 0))) (h0 : J [] W) :
  CallsIn F n Try.prog 121 #[.func (.yield l) #[] #[], .pointer (some ⟨Bs, 0, none⟩)] W fun e W' => (∃ v, e = .returned v) ∧
   ((∃ ys, ys = zs ∧ J ys W') ∨ (∃ pre, pre <+: zs ∧ Jx pre W')) := by
 have hz := hreach
 refine callsIn_of_wp Try.func121 rfl h7 ?_ hro
 simp only [Try.ntmps121, List.size_toArray, List.length_cons, List.length_nil, Nat.reduceAdd, Nat.reduceSub, Array.replicate_succ, Array.replicate_zero, List.push_toArray, List.append_toArray, List.nil_append, List.cons_append]
 gi_wp2
 gi_loopw [7] (fun i wr => ∃ k : Nat, k ≤ zs.length ∧ i = .int .i64 k ∧ J (zs.take k) wr ∧ Below n₀ W wr)
  (fun i _ => zs.length - (intOf i).toNat)
 case atStart => exact ⟨0, Nat.zero_le _, rfl, h0, Below.refl _ _⟩
 case round =>
  obtain ⟨k, hk, rfl, hJs, hnx⟩ := hrel
  have hcx : k < zs.length → wr.cell? (ad.add k) = some (.int .u16 (zs[k]?.getD 0)) := fun h => (hnx.cell (p := ad.add k) (hb k h)).trans (hc k h)
  by_cases hlt : k < zs.length
  ·have hcx' := hcx hlt
   obtain ⟨u, hu⟩ : ∃ u, u = zs[k]?.getD 0 := ⟨_, rfl⟩
   rw [← hu] at hcx'
   have HU := Aside0.mk (show zs.take (k + 1) = zs.take k ++ [u] by rw [hu]; exact take_up zs k hlt)
   obtain ⟨fn, tmps, assign, body, hy, hR⟩ := hY _ u wr hJs (by rw [List.length_take]; omega)
   clear hu hcx
   gi_wp2
   refine hR.mono ?_
   rintro e W3 (⟨rfl, hJ3, hk3⟩ | ⟨rfl, hJx3⟩)
   ·gi_wp2
    go_roundw
    case rel => exact ⟨k + 1, by omega, by first | (simp; done) | (rw [show (wrap64 ((k : Int) + 1)) = ((k + 1 : Nat) : Int) by unfold wrap64; omega]), by rw [HU.out]; exact hJ3, hnx.trans hk3⟩
    case measure => simp [intOf]; omega
   ·gi_wp2
    refine bodyPost_ret (results_none rfl _ _ _) rfl ?_
    exact ⟨⟨_, rfl⟩, .inr ⟨_, by rw [← HU.out]; exact List.take_prefix _ _, hJx3⟩⟩
  ·obtain rfl : k = zs.length := by omega
   gi_wp2
   go_end0
   exact ⟨⟨_, rfl⟩, .inl ⟨_, rfl, by rwa [List.take_length] at hJs⟩⟩
set_option maxRecDepth 100000 in
set_option maxHeartbeats 4000000 in
theorem vals1_nil_in (F : Fence) (n : Nat) (h7 : F.fn 121) (hro : F.round = none) (l Bs : Nat) (J : List Int → World → Prop) (W : World) (cap : Nat) (hBs : W.cell? ⟨Bs, 0, none⟩ = some (.slice none 0 cap)) (h0 : J [] W) :
  CallsIn F n Try.prog 121 #[.func (.yield l) #[] #[], .pointer (some ⟨Bs, 0, none⟩)] W fun e W' => (∃ v, e = .returned v) ∧ J [] W' := by
 refine callsIn_of_wp Try.func121 rfl h7 ?_ hro
 simp only [Try.ntmps121, List.size_toArray, List.length_cons, List.length_nil, Nat.reduceAdd, Nat.reduceSub, Array.replicate_succ, Array.replicate_zero, List.push_toArray, List.append_toArray, List.nil_append, List.cons_append]
 gi_wp2
 gi_loopw [7] (fun i wr => i = .int .i64 0 ∧ J [] wr) (fun _ _ => 0)
 case atStart => exact ⟨rfl, h0⟩
 case round =>
  obtain ⟨rfl, hJs⟩ := hrel
  gi_wp2
  go_end0
  exact ⟨⟨_, rfl⟩, hJs⟩
theorem vals_c (a : Option Addr) (len cap : Nat) (w : World) :
  Calls Try.prog 103 #[.slice a len cap] w fun e w' => e = .returned (.func (.func 121) #[] #[.pointer (some ⟨w.heap.size, 0, none⟩)]) ∧ w' = w.alloc (.cells #[.slice a len cap] 33) := by
 go_enter Try.func103, Try.ntmps103
 go_wp2
 go_ret
 exact ⟨rfl, rfl⟩
theorem vals_stops (F : Fence) (n : Nat) (h7 : F.fn 121) (hro : F.round = none) (hn : 1 ≤ n) (Bs n₀ : Nat) (A : Option Addr) (cap : Nat) (zs : List Int) (hreach : zs.length ≤ 1000000) (w : World) (hBs : Bs < w.heap.size) (hn₀ : n₀ ≤ w.heap.size)
  (hc : w.cell? ⟨Bs, 0, none⟩ = some (.slice A zs.length cap)) (hI : zs ≠ [] → ∃ ad, A = some ad ∧ ∀ j, j < zs.length → (ad.add j).block < n₀ ∧ w.cell? (ad.add j) = some (.int .u16 (zs[j]?.getD 0))) (hA : zs = [] → True) :
  SeqStopsK F n Try.prog 121 #[.pointer (some ⟨Bs, 0, none⟩)] (fun x : Int => #[Value.int .u16 x]) (Below n₀) (fun ys => ys = zs) (fun pre => pre <+: zs) zs.length w := fun l J Jx W hW _ _ hY h0 => by
 have hc' := (hW.cell (p := ⟨Bs, 0, none⟩) hBs).trans hc
 by_cases hz : zs = []
 ·subst hz
  cases A with
  | none => exact (vals1_nil_in F n h7 hro l Bs J W cap hc' h0).mono fun e W' ⟨he, hj⟩ => ⟨he, .inl ⟨_, rfl, hj⟩⟩
  | some ad => exact (vals1_in F n h7 hro hn l Bs n₀ ad cap [] hreach (fun j hj => absurd hj (Nat.not_lt_zero j)) J Jx hY W hc' (fun j hj => absurd hj (Nat.not_lt_zero j)) h0).mono fun e W' ⟨he, hh⟩ => ⟨he, hh⟩
 ·obtain ⟨ad, rfl, hcs⟩ := hI hz
  exact vals1_in F n h7 hro hn l Bs n₀ ad cap zs hreach (fun j hj => (hcs j hj).1) J Jx hY W hc' (fun j hj => (hW.cell (p := ad.add j) (Nat.lt_of_lt_of_le (hcs j hj).1 hn₀)).trans (hcs j hj).2) h0
theorem info_u16 : (Try.prog.info? 44).map (fun i => (i.zero, i.size, i.bytes)) = some (some (.int .u16 0), 1, 2) := by kernel_rfl
set_option maxRecDepth 100000 in
set_option maxHeartbeats 4000000 in
theorem appseq_in (F : Fence) (n : Nat) (h3 : F.fn 126) (h5 : F.fn 121) (hro : F.round = none) (hn : 3 ≤ n) (Bs : Nat) (A : Option Addr) (cap : Nat) (zs : List Int) (hreach : zs.length ≤ 1000000) (w : World) (hBs : Bs < w.heap.size) (hbx : w.cell? ⟨Bs, 0, none⟩ = some (.slice A zs.length cap))
  (hI : zs ≠ [] → ∃ ad, A = some ad ∧ ∀ j, j < zs.length → (ad.add j).block < w.heap.size ∧ w.cell? (ad.add j) = some (.int .u16 (zs[j]?.getD 0))) :
  CallsIn F n Try.prog 126 #[.slice none 0 0, .func (.func 121) #[] #[.pointer (some ⟨Bs, 0, none⟩)]] w fun e W' => ∃ v, e = .returned v ∧ W'.ownsRow w.heap.size 44 1 v zs.length (zs.map (Value.int .u16)) ∧ Below w.heap.size w W' := by
 have h1 : 1 ≤ n := by omega
 obtain ⟨i0, hi, hz0, hz1, hz2⟩ := info_parts info_u16
 refine callsIn_of_wp_marks Try.func126 rfl h3 ?_ hro
 simp only [Try.ntmps126, List.size_toArray, List.length_cons, List.length_nil, Nat.reduceAdd, Nat.reduceSub, Array.replicate_succ, Array.replicate_zero, List.push_toArray, List.append_toArray, List.nil_append, List.cons_append]
 gi_wp2
 have bO := Boxed.new w 33 (.slice none 0 0)
 have hB0 : Below w.heap.size w (w.alloc (.cells #[.slice none 0 0] 33)) := (Below.refl _ w).alloc (Nat.le_refl _) _
 have hI0 : zs ≠ [] → ∃ ad, A = some ad ∧ ∀ j, j < zs.length → (ad.add j).block < w.heap.size ∧ (w.alloc (.cells #[.slice none 0 0] 33)).cell? (ad.add j) = some (.int .u16 (zs[j]?.getD 0)) := fun hz => by
  obtain ⟨ad, e, h⟩ := hI hz
  exact ⟨ad, e, fun j hj => ⟨(h j hj).1, (hB0.cell (p := ad.add j) (h j hj).1).trans (h j hj).2⟩⟩
 refine wpIn_rangeFunc_ownG hro h1 (gf := 121) (lb := #[.pointer (some ⟨Bs, 0, none⟩)]) rfl h5 (enters_of Try.func121 (by kernel_rfl) rfl)
  (vals_stops F (n - 1) h5 hro (by omega) Bs w.heap.size A cap zs hreach _ (by simp; omega) (by simp) ((hB0.cell (p := ⟨Bs, 0, none⟩) hBs).trans hbx) hI0 (fun _ => trivial)) belowK_t (belowK_b (by simp)) (Below.refl _ _) (fun _ => rfl)
  (fun pre W => (∃ v, Boxed W w.heap.size 33 v ∧ W.ownsRow w.heap.size 44 1 v pre.length (pre.map (Value.int .u16)) ∧ True) ∧ Below w.heap.size w W)
  (fun _ _ _ => False)
  (OwnFrom.and (Own.from (holdsRow_own w.heap.size w.heap.size 33 44 1 (fun (pre : List Int) => pre.length) (fun pre => pre.map (Value.int .u16)) (fun _ _ => True)) _) (ownFrom_below (Nat.le_refl _) (by simp)))
  (fun _ _ _ _ _ hs _ _ => hs)
  ⟨⟨_, bO, World.ownsRow_nil _ _ _ _, trivial⟩, hB0⟩
  (fun x => { tmps := #[.slice none 0 0, .func (.func 121) #[] #[.pointer (some ⟨Bs, 0, none⟩)], .pointer (some ⟨w.heap.size, 0, none⟩), undef, .slice none 0 0, .int .u16 x, .func (.func 121) #[] #[.pointer (some ⟨Bs, 0, none⟩)], .int .u16 x, undef, undef, undef, undef, undef], defers := [] }) ?assign ?body ?done ?stop
 case assign =>
  intro l x W K hK
  gi_wp2
  exact hK
 case body =>
  rintro l pre x W ⟨⟨v, hv, hrow, _⟩, hB⟩ hlt
  have hc := hv.cell
  gi_wp2_with (gi_at_builtin; refine wpListIn_append_own _ rfl _ _ 33 rfl w.heap.size 44 i0 (.int .u16 0) 1 2 Try.underlying33 hi hz0 hz1 hz2 rfl (by decide) _ _ _ rfl (hrow.alloc _) ⟨W.heap.size, 0, none⟩ 1 1 [.int .u16 x] rfl rfl (cell_one_new _ _ _) (by simp [Value.oneCell']) (by unfold maxLen; omega) (by omega) (by have := hB.size; simp; omega) ?_; intro v' w1 hown' hgrow _; obtain ⟨g', cap', rfl⟩ := ownsRow_succ hown'; obtain ⟨hv1, hv2, hr2, hk2, hb2⟩ := hv.appended (by decide) hrow hB.size (Nat.le_refl _) hown' hgrow; have hc1 := hv1.cell; have hf1 := hv1.frozen)
  exact ⟨hk2.from _, hb2, ⟨_, hv2, by simpa using hr2, trivial⟩, hB.trans hb2⟩
 case done =>
  rintro D ys W hD rfl ⟨⟨v, hv, hrow, _⟩, hB⟩ hK
  have hc := hv.cell
  gi_wp2
  refine ⟨by simp, .inl ⟨_, _, rfl, run_takeDeferred hK, ?_⟩⟩
  exact ⟨_, results_tmp rfl _ _ _, v, rfl, ownsRow_putObj hrow _ hK rfl, hB.trans (belowK_b (w := w) (Nat.le_refl _) W D _ _ (by simp at hD; omega) hK rfl rfl)⟩
 case stop =>
  rintro D c pre W _ _ h _
  exact h.elim
set_option maxHeartbeats 4000000 in
theorem collect_c (Bs : Nat) (A : Option Addr) (cap : Nat) (zs : List Int) (hreach : zs.length ≤ 1000000) (w : World) (hBs : Bs < w.heap.size) (hbx : w.cell? ⟨Bs, 0, none⟩ = some (.slice A zs.length cap))
  (hI : zs ≠ [] → ∃ ad, A = some ad ∧ ∀ j, j < zs.length → (ad.add j).block < w.heap.size ∧ w.cell? (ad.add j) = some (.int .u16 (zs[j]?.getD 0))) :
  Calls Try.prog 119 #[.func (.func 121) #[] #[.pointer (some ⟨Bs, 0, none⟩)]] w fun e W' => ∃ v, e = .returned v ∧ W'.ownsRow w.heap.size 44 1 v zs.length (zs.map (Value.int .u16)) ∧ Below w.heap.size w W' := by
 have h := callsIn_wide.1 (appseq_in Fence.wide 3 trivial trivial rfl (by omega) Bs A cap zs hreach w hBs hbx hI)
 have H := Aside0.mk h
 clear h hreach hBs hbx hI
 go_enter Try.func119, Try.ntmps119
 go_wp2_with (go_at_call 126; (with_reducible refine H.out.mono ?_); rintro e w' ⟨v, rfl, hr, hb⟩; have HR := Aside0.mk hr; have HB := Aside0.mk hb; clear hr hb)
 go_ret
 exact ⟨_, rfl, HR.out, HB.out⟩
end Go.Proofs.Ytbfialebaoeicaa.X
namespace Go.Proofs.Ytbfialebaoeicaa.X
open Go.RowKit Go.Proofs.YtbfialebaoeicaaW.PrintWords Go.Proofs.YtbfialebaoeicaaW.PrintLast Go.Proofs.YtbfialebaoeicaaW.PrintMore
set_option linter.all false
theorem sortx_c (base g n cap : Nat) (w : World) (xs : List Int) (h : RU w base g n cap xs) (hn : n ≤ 49) (hb : base ≤ w.heap.size) :
  Calls Try.prog 120 #[.slice (some ⟨g, 0, none⟩) n cap] w fun e w' => e = .returned (.tuple #[]) ∧ (∃ ys, RU w' base g n cap ys ∧ ys.length = n ∧ (n ≤ 12 → ys.Perm xs ∧ SRT ys 0 n)) ∧ Below base w w' := by
 by_cases h12 : n ≤ 12
 ·refine (sort12_c base g n cap w xs h h12).mono ?_
  rintro e w' ⟨rfl, ys, hp, hs⟩
  exact ⟨rfl, ⟨ys, hp.1, hp.length, fun _ => ⟨hp.2.2, hs⟩⟩, hp.SD.below hb⟩
 ·refine (sort_c base g n cap w xs h hn).mono ?_
  rintro e w' ⟨rfl, hsd⟩
  obtain ⟨ys, hy⟩ := hsd.1
  exact ⟨rfl, ⟨ys, hy, (Kd.R_reads' hy).1.symm, fun h => absurd h h12⟩, hsd.below hb⟩
set_option maxHeartbeats 16000000 in
set_option maxRecDepth 100000 in
theorem ins0_c (w : World) : Calls Try.prog 130 #[.slice none 0 0, .int .i64 0, .int .i64 0] w fun e w' => e = .returned (.tuple #[]) ∧ w' = w := by
 go_enter Try.func130, Try.ntmps130
 go_wp2
 go_loopg [6] 10 (fun gg s6 wr => s6 = .int .i64 1 ∧ wr = w)
 case atStart => exact ⟨rfl, rfl⟩
 case round =>
  obtain ⟨rfl, hw⟩ := hrel
  subst hw
  go_wp2
  first | go_end0 | ((try simp only [Exit.inBlock, Exit.then]); refine bodyPost_ret (results_none rfl _ _ _) rfl ?_)
  exact ⟨rfl, rfl⟩
set_option maxHeartbeats 16000000 in
set_option maxRecDepth 100000 in
theorem pdq0_c (l : Int) (w : World) : Calls Try.prog 127 #[.slice none 0 0, .int .i64 0, .int .i64 0, .int .i64 l] w fun e w' => e = .returned (.tuple #[]) ∧ w' = w := by
 go_enter Try.func127, Try.ntmps127
 go_wp2
 go_loopg [1, 2, 3, 8, 9] 10 (fun gg s1 s2 s3 s8 s9 wr => s1 = .int .i64 0 ∧ s2 = .int .i64 0 ∧ s3 = .int .i64 l ∧ s8 = .bool true ∧ s9 = .bool true ∧ wr = w)
 case atStart => exact ⟨rfl, rfl, rfl, rfl, rfl, rfl⟩
 case round =>
  obtain ⟨rfl, rfl, rfl, rfl, rfl, hw⟩ := hrel
  subst hw
  go_wp2_with (go_at_call 130; (with_reducible refine (ins0_c _).mono ?_); rintro e w6 ⟨rfl, rfl⟩)
  go_wp2
  first | go_end0 | ((try simp only [Exit.inBlock, Exit.then]); refine bodyPost_ret (results_none rfl _ _ _) rfl ?_)
  exact ⟨rfl, rfl⟩
set_option maxHeartbeats 16000000 in
set_option maxRecDepth 100000 in
theorem sort0_c (w : World) : Calls Try.prog 120 #[.slice none 0 0] w fun e w' => e = .returned (.tuple #[]) ∧ w' = w := by
 go_enter Try.func120, Try.ntmps120
 go_wp2_with first | (go_at_call 128; (with_reducible refine (Try.bits_Len 0 _ (by omega) (by omega)).mono ?_); rintro e w6 ⟨rfl, rfl⟩; go_simp) | (go_at_call 127; (with_reducible refine (pdq0_c _ _).mono ?_); rintro e w6 ⟨rfl, rfl⟩)
 go_wp2
 first | go_end0 | ((try simp only [Exit.inBlock, Exit.then]); refine bodyPost_ret (results_none rfl _ _ _) rfl ?_)
 exact ⟨rfl, rfl⟩
def Sd (base : Nat) (W : World) (v : Value) (zs : List Int) : Prop :=
 (v = .slice none 0 0 ∧ zs = []) ∨ ∃ g cap ys, v = .slice (some ⟨g, 0, none⟩) zs.length cap ∧ RU W base g zs.length cap ys ∧ zs.length ≤ cap ∧ cap ≤ maxLen ∧ (zs.length ≤ 12 → ys.Perm zs ∧ SRT ys 0 zs.length)
theorem Sd_of {base : Nat} {W : World} {v : Value} {zs : List Int} (h : W.ownsRow base 44 1 v zs.length (zs.map (Value.int .u16))) :
  (v = .slice none 0 0 ∧ zs = []) ∨ ∃ g cap, v = .slice (some ⟨g, 0, none⟩) zs.length cap ∧ RU W base g zs.length cap zs ∧ zs.length ≤ cap ∧ cap ≤ maxLen := by
 have hr : Kd.R (Kd.int .u16) 44 W base (fun _ => True) v zs := Kd.R_of_own h (fun _ _ => trivial)
 rcases h.2 with ⟨rfl, h0⟩ | ⟨g, cap, cur, rfl, _, _, h1, h2, _⟩
 ·exact .inl ⟨rfl, List.eq_nil_of_length_eq_zero h0⟩
 ·exact .inr ⟨g, cap, rfl, hr, h1, h2⟩
set_option maxHeartbeats 16000000 in
set_option maxRecDepth 100000 in
theorem sorted_c (Bs : Nat) (A : Option Addr) (cap : Nat) (zs : List Int) (hreach : zs.length ≤ 1000000) (w : World) (hBs : Bs < w.heap.size) (hbx : w.cell? ⟨Bs, 0, none⟩ = some (.slice A zs.length cap))
  (hI : zs ≠ [] → ∃ ad, A = some ad ∧ ∀ j, j < zs.length → (ad.add j).block < w.heap.size ∧ w.cell? (ad.add j) = some (.int .u16 (zs[j]?.getD 0))) (hz : zs.length ≤ 49) :
  Calls Try.prog 102 #[.func (.func 121) #[] #[.pointer (some ⟨Bs, 0, none⟩)]] w fun e W' => ∃ v, e = .returned v ∧ Sd w.heap.size W' v zs ∧ Below w.heap.size w W' := by
 have H := Aside0.mk (collect_c Bs A cap zs hreach w hBs hbx hI)
 have HZ := Aside0.mk hz
 clear hreach hBs hbx hI hz
 go_enter Try.func102, Try.ntmps102
 go_wp2_with first | (go_at_call 119; (with_reducible refine H.out.mono ?_); rintro e w' ⟨v, rfl, hr, hb⟩; have HR := Aside0.mk (Sd_of hr); have HB := Aside0.mk hb; clear hr hb H)
 rcases HR.out with ⟨rfl, hz⟩ | ⟨g, cp, rfl, hr, h1, h2⟩
 ·have HZZ := Aside0.mk hz
  clear HR hz
  go_wp2_with (go_at_call 120; (with_reducible refine (sort0_c _).mono ?_); rintro e w6 ⟨rfl, rfl⟩)
  go_wp2
  go_ret
  exact ⟨_, rfl, .inl ⟨rfl, HZZ.out⟩, HB.out⟩
 ·have HRR := Aside0.mk hr
  have HC := Aside0.mk (And.intro h1 h2)
  clear HR hr h1 h2
  go_wp2_with (go_at_call 120; (with_reducible refine (sortx_c w.heap.size g zs.length cp _ zs HRR.out HZ.out HB.out.size).mono ?_); rintro e w6 ⟨rfl, hys, hbl⟩; have HY := Aside0.mk hys; have HL := Aside0.mk hbl; clear hys hbl)
  go_wp2
  go_ret
  obtain ⟨ys, hy, hyl, hyx⟩ := HY.out
  exact ⟨_, rfl, .inr ⟨g, cp, ys, rfl, hy, HC.out.1, HC.out.2, hyx⟩, HB.out.trans HL.out⟩
end Go.Proofs.Ytbfialebaoeicaa.X
namespace Go.Proofs.Ytbfialebaoeicaa.X
open Go.RowKit Go.Proofs.YtbfialebaoeicaaW.PrintWords Go.Proofs.YtbfialebaoeicaaW.PrintLast Go.Proofs.YtbfialebaoeicaaW.PrintMore
set_option linter.all false
theorem SD.zeros {base g n cap : Nat} {w : World} : ∀ (m o : Nat) (W : World), SD base g n cap w W → SD base g n cap w (W.setCells g o (List.replicate m (.int .u16 0)))
 | 0, _, _, h => h
 | m + 1, o, W, h => SD.zeros m (o + 1) _ (h.set (o : Int) 0)
theorem SD.cellS {base g n cap : Nat} {w W : World} (h : SD base g n cap w W) (o : Nat) (h1 : o < n) : ∃ u : Int, W.cell? ⟨g, o, none⟩ = some (.int .u16 u) ∧ W.frozen? ⟨g, o, none⟩ = false := by
 have := h.cell (o : Int) (by omega) (by omega)
 simpa using this
def NoAdj (xs : List Int) : Prop := ∀ j : Nat, j + 1 < xs.length → xs.getD j 0 ≠ xs.getD (j + 1) 0
set_option maxHeartbeats 16000000 in
set_option maxRecDepth 100000 in
theorem cmp_c (base g n cap : Nat) (w : World) (xs : List Int) (h : RU w base g n cap xs) (hn : n ≤ 1000000) (hc : n ≤ cap) (hc2 : cap ≤ 9223372036854775807) :
  Calls Try.prog 105 #[.slice (some ⟨g, 0, none⟩) n cap] w fun e w' => (∃ k : Nat, e = .returned (.slice (some ⟨g, 0, none⟩) k cap) ∧ (k = n ↔ NoAdj xs)) ∧ w.grownBy w' (some g) := by
 have HP := Aside0.mk (RP.refl h)
 have HA := Aside0.mk (show (n : Int) ≤ 1000000 ∧ n ≤ cap ∧ (cap : Int) ≤ 9223372036854775807 from ⟨by omega, hc, by omega⟩)
 clear h hn hc hc2
 by_cases hq : (n : Int) < 2
 ·have q1 : decide ((n : Int) < 2) = true := decide_eq_true hq
  have HQ := Aside0.mk hq
  clear hq
  go_enter Try.func105, Try.ntmps105
  go_wp2
  go_ret
  have hl := HP.out.length
  have hq := HQ.out
  exact ⟨⟨_, rfl, ⟨fun _ j hj => by omega, fun _ => rfl⟩⟩, HP.out.2.1⟩
 have q1 : decide ((n : Int) < 2) = false := decide_eq_false hq
 have HQ := Aside0.mk (show 2 ≤ (n : Int) by omega)
 clear hq
 go_enter Try.func105, Try.ntmps105
 go_wp2
 go_loopg [3] 2000000 (fun gg s3 wr => ∃ k : Int, s3 = .int .i64 k ∧ Aside0 (1 ≤ k ∧ k ≤ n ∧ n - k < gg) ∧ Aside0 (RP base g n cap w wr xs xs) ∧ Aside0 (∀ j : Nat, (j : Int) + 1 < k → xs.getD j 0 ≠ xs.getD (j + 1) 0))
 case atStart => exact ⟨_, rfl, ⟨by have h1_ := HA.out; have h2_ := HQ.out; omega⟩, HP, ⟨fun j hj => by omega⟩⟩
 case round =>
  clear HP
  obtain ⟨k, rfl, HK, HP, HN⟩ := hrel
  by_cases hlt : k < n
  rotate_left
  ·have hd : decide (k < (n : Int)) = false := decide_eq_false hlt
   have HC := Aside0.mk hlt
   clear hlt
   go_wp2
   go_ret
   have hl := HP.out.length
   exact ⟨⟨_, rfl, ⟨fun _ j hj => HN.out j (by have h1_ := HC.out; omega), fun _ => rfl⟩⟩, HP.out.2.1⟩
  have hd : decide (k < (n : Int)) = true := decide_eq_true hlt
  have HC := Aside0.mk hlt
  clear hlt
  have y0 : IntKind.i64.wrap (k - 1) = k - 1 := by rw [i64_w]; exact wrap_in _ (by have h1_ := HA.out; have h2_ := HK.out; have h3_ := HC.out; omega) (by have h1_ := HA.out; have h2_ := HK.out; have h3_ := HC.out; omega)
  have yw0 : wrap64 (k - 1) = k - 1 := wrap_in _ (by have h1_ := HA.out; have h2_ := HK.out; have h3_ := HC.out; omega) (by have h1_ := HA.out; have h2_ := HK.out; have h3_ := HC.out; omega)
  have y1 : IntKind.i64.wrap (k + 1) = k + 1 := by rw [i64_w]; exact wrap_in _ (by have h1_ := HA.out; have h2_ := HK.out; have h3_ := HC.out; omega) (by have h1_ := HA.out; have h2_ := HK.out; have h3_ := HC.out; omega)
  have yw1 : wrap64 (k + 1) = k + 1 := wrap_in _ (by have h1_ := HA.out; have h2_ := HK.out; have h3_ := HC.out; omega) (by have h1_ := HA.out; have h2_ := HK.out; have h3_ := HC.out; omega)
  obtain ⟨c, hc⟩ : ∃ c, c = k - 1 := ⟨_, rfl⟩
  have HCC := Aside0.mk (show c = k - 1 ∧ 0 ≤ c by have h1_ := HA.out; have h2_ := HK.out; have h3_ := HC.out; omega)
  have hcc : k - 1 = c := hc.symm
  replace y0 := y0.trans hcc
  replace yw0 := yw0.trans hcc
  clear hc hcc
  have b0 : (0 ≤ k) = True := eq_true (by have h1_ := HA.out; have h2_ := HK.out; have h3_ := HC.out; omega)
  have b1 : (0 ≤ c) = True := eq_true (by have h4_ := HCC.out; omega)
  have b1u : (c < (n : Int)) = True := eq_true (by have h1_ := HA.out; have h2_ := HK.out; have h3_ := HC.out; have h4_ := HCC.out; omega)
  go_upto_region 6 with (fail)
  go_cut [25] (fun v wc => ∃ bb : Bool, v = .bool bb ∧ Aside0 (bb = true ↔ xs.getD c.toNat 0 = xs.getD (c.toNat + 1) 0) ∧ Aside0 (RP base g n cap w wc xs xs))
  case first =>
   have b0u : (k < (n : Int)) = True := eq_true HC.out
   obtain ⟨u0, hc0, hf0, e0⟩ := HP.out.cell k (of_eq_true b0) (of_eq_true b0u)
   obtain ⟨u1, hc1, hf1, e1⟩ := HP.out.cell c (of_eq_true b1) (of_eq_true b1u)
   have E0 := Aside0.mk e0
   have E1 := Aside0.mk e1
   clear e0 e1
   go_quiet (fail)
   go_wp2
   all_goals go_meet
   have hk : k.toNat = c.toNat + 1 := by have h4_ := HCC.out; omega
   exact ⟨_, rfl, ⟨by rw [← hk, E0.out, E1.out]; exact ⟨fun h => (by simpa using h : u0 = u1).symm, fun h => by subst h; simp⟩⟩, ⟨HP.out.drewN _⟩⟩
  case rest =>
   clear HP
   obtain ⟨bb, rfl, HB, HP⟩ := hcut
   cases bb with
   | false =>
    go_wp2
    go_roundg ((n : Int) - k).toNat
    case measure => have h2_ := HK.out; have h3_ := HC.out; omega
    case rel => exact ⟨k + 1, rfl, ⟨by have h2_ := HK.out; have h3_ := HC.out; omega⟩, HP, ⟨fun j hj => by rcases (by have h4_ := HCC.out; omega : (j : Int) + 1 < k ∨ j = c.toNat) with h | h; (exact HN.out j h); (subst h; intro e; have := HB.out.2 e; cases this)⟩⟩
   | true =>
    have HNA := Aside0.mk (show ¬ NoAdj xs from fun hna => hna c.toNat (by have hl := HP.out.length; have h4_ := HCC.out; have h3_ := HC.out; omega) (HB.out.1 rfl))
    have HD := Aside0.mk HP.out.SD
    clear HP HB HN
    go_upto_region 7 with (fail)
    go_cut [4] (fun v wc => ∃ m mc : Nat, v = .slice (some ⟨g, k.toNat, none⟩) m mc ∧ Aside0 ((m : Int) + k = n ∧ (mc : Int) + k = cap) ∧ Aside0 (SD base g n cap w wc))
    case first =>
     have b2 : (k ≤ (n : Int)) = True := eq_true (by have h1_ := HA.out; have h2_ := HK.out; have h3_ := HC.out; omega)
     go_wp2
     all_goals first | (exfalso; have h1_ := HA.out; have h2_ := HK.out; have h3_ := HC.out; omega) | (go_meet; exact ⟨_, _, rfl, ⟨by have h1_ := HA.out; have h2_ := HK.out; have h3_ := HC.out; omega⟩, HD⟩)
    case rest =>
     clear HD
     obtain ⟨m, mc, rfl, HM, HD⟩ := hcut
     go_wp2
     go_loopg [3, 5] 2000000 (fun gg s3 s5 wr => ∃ i j : Int, s3 = .int .i64 i ∧ s5 = .int .i64 j ∧ Aside0 (1 ≤ j ∧ j ≤ m ∧ k ≤ i ∧ i ≤ k + j - 1 ∧ m - j < gg) ∧ Aside0 (SD base g n cap w wr))
     case atStart => exact ⟨_, _, rfl, rfl, ⟨by have h1_ := HA.out; have h2_ := HK.out; have h3_ := HC.out; have h4_ := HM.out; omega⟩, HD⟩
     case round =>
      clear HD
      obtain ⟨i, j, rfl, rfl, HI, HD⟩ := hrel
      by_cases hlt : j < m
      rotate_left
      ·have hd3 : decide (j < (m : Int)) = false := decide_eq_false hlt
       clear hlt
       have b3 : (0 ≤ i) = True := eq_true (by have h1_ := HA.out; have h2_ := HK.out; have h3_ := HC.out; have h4_ := HM.out; have h5_ := HI.out; omega)
       have b4 : (i ≤ (n : Int)) = True := eq_true (by have h1_ := HA.out; have h2_ := HK.out; have h3_ := HC.out; have h4_ := HM.out; have h5_ := HI.out; omega)
       have b5 : (i ≤ (cap : Int)) = True := eq_true (by have h1_ := HA.out; have h2_ := HK.out; have h3_ := HC.out; have h4_ := HM.out; have h5_ := HI.out; omega)
       have hcl : ∀ ty, (Builtin.clear_ #[33] ty #[.slice (some ⟨g, i.toNat, none⟩) (n - i.toNat) (cap - i.toNat)]).run Try.prog wr = .ok (.tuple #[]) (wr.setCells g i.toNat (List.replicate (n - i.toNat) (.int .u16 0))) :=
        fun ty => Lib.run_clear_slice wr _ _ ty _ Try.underlying33 Try.zeroValue44 rfl rfl g i.toNat _ _ (by have h1_ := HA.out; have h2_ := HK.out; have h3_ := HC.out; have h4_ := HM.out; have h5_ := HI.out; omega) (fun t ht => by obtain ⟨u, hu, _⟩ := HD.out.cellS (i.toNat + t) (by omega); rw [hu]; rfl) (fun t ht => by obtain ⟨u, _, hf⟩ := HD.out.cellS (i.toNat + t) (by omega); exact hf)
       go_wp2
       all_goals first | (exfalso; have h1_ := HA.out; have h2_ := HK.out; have h3_ := HC.out; have h4_ := HM.out; have h5_ := HI.out; omega) | (go_ret; exact ⟨⟨_, rfl, ⟨fun e => absurd e (by have h1_ := HA.out; have h2_ := HK.out; have h3_ := HC.out; have h4_ := HM.out; have h5_ := HI.out; omega), fun e => absurd e HNA.out⟩⟩, (SD.zeros _ _ _ HD.out).2⟩)
      have hd3 : decide (j < (m : Int)) = true := decide_eq_true hlt
      have HJ := Aside0.mk hlt
      clear hlt
      have z0 : IntKind.i64.wrap (j - 1) = j - 1 := by rw [i64_w]; exact wrap_in _ (by have h1_ := HA.out; have h2_ := HK.out; have h3_ := HC.out; have h4_ := HM.out; have h5_ := HI.out; have h6_ := HJ.out; omega) (by have h1_ := HA.out; have h2_ := HK.out; have h3_ := HC.out; have h4_ := HM.out; have h5_ := HI.out; have h6_ := HJ.out; omega)
      have zw0 : wrap64 (j - 1) = j - 1 := wrap_in _ (by have h1_ := HA.out; have h2_ := HK.out; have h3_ := HC.out; have h4_ := HM.out; have h5_ := HI.out; have h6_ := HJ.out; omega) (by have h1_ := HA.out; have h2_ := HK.out; have h3_ := HC.out; have h4_ := HM.out; have h5_ := HI.out; have h6_ := HJ.out; omega)
      have z1 : IntKind.i64.wrap (j + 1) = j + 1 := by rw [i64_w]; exact wrap_in _ (by have h1_ := HA.out; have h2_ := HK.out; have h3_ := HC.out; have h4_ := HM.out; have h5_ := HI.out; have h6_ := HJ.out; omega) (by have h1_ := HA.out; have h2_ := HK.out; have h3_ := HC.out; have h4_ := HM.out; have h5_ := HI.out; have h6_ := HJ.out; omega)
      have zw1 : wrap64 (j + 1) = j + 1 := wrap_in _ (by have h1_ := HA.out; have h2_ := HK.out; have h3_ := HC.out; have h4_ := HM.out; have h5_ := HI.out; have h6_ := HJ.out; omega) (by have h1_ := HA.out; have h2_ := HK.out; have h3_ := HC.out; have h4_ := HM.out; have h5_ := HI.out; have h6_ := HJ.out; omega)
      have z2 : IntKind.i64.wrap (i + 1) = i + 1 := by rw [i64_w]; exact wrap_in _ (by have h1_ := HA.out; have h2_ := HK.out; have h3_ := HC.out; have h4_ := HM.out; have h5_ := HI.out; have h6_ := HJ.out; omega) (by have h1_ := HA.out; have h2_ := HK.out; have h3_ := HC.out; have h4_ := HM.out; have h5_ := HI.out; have h6_ := HJ.out; omega)
      have zw2 : wrap64 (i + 1) = i + 1 := wrap_in _ (by have h1_ := HA.out; have h2_ := HK.out; have h3_ := HC.out; have h4_ := HM.out; have h5_ := HI.out; have h6_ := HJ.out; omega) (by have h1_ := HA.out; have h2_ := HK.out; have h3_ := HC.out; have h4_ := HM.out; have h5_ := HI.out; have h6_ := HJ.out; omega)
      obtain ⟨d, hdd⟩ : ∃ d, d = j - 1 := ⟨_, rfl⟩
      have HDD := Aside0.mk (show d = j - 1 ∧ 0 ≤ d by have h1_ := HA.out; have h2_ := HK.out; have h3_ := HC.out; have h4_ := HM.out; have h5_ := HI.out; have h6_ := HJ.out; omega)
      have hdc : j - 1 = d := hdd.symm
      replace z0 := z0.trans hdc
      replace zw0 := zw0.trans hdc
      clear hdd hdc
      have c0 : (0 ≤ j) = True := eq_true (by have h1_ := HA.out; have h2_ := HK.out; have h3_ := HC.out; have h4_ := HM.out; have h5_ := HI.out; have h6_ := HJ.out; omega)
      have c0u : (j < (m : Int)) = True := eq_true HJ.out
      have c1 : (0 ≤ d) = True := eq_true (by have h7_ := HDD.out; omega)
      have c1u : (d < (m : Int)) = True := eq_true (by have h1_ := HA.out; have h2_ := HK.out; have h3_ := HC.out; have h4_ := HM.out; have h5_ := HI.out; have h6_ := HJ.out; have h7_ := HDD.out; omega)
      go_upto_region 11 with (fail)
      go_cut [44] (fun v wc => ∃ bb : Bool, v = .bool bb ∧ Aside0 (SD base g n cap w wc))
      case first =>
       obtain ⟨u0, hc0, hf0⟩ := HD.out.cellS (k.toNat + j.toNat) (by have h1_ := HA.out; have h2_ := HK.out; have h3_ := HC.out; have h4_ := HM.out; have h5_ := HI.out; have h6_ := HJ.out; omega)
       obtain ⟨u1, hc1, hf1⟩ := HD.out.cellS (k.toNat + d.toNat) (by have h1_ := HA.out; have h2_ := HK.out; have h3_ := HC.out; have h4_ := HM.out; have h5_ := HI.out; have h6_ := HJ.out; have h7_ := HDD.out; omega)
       go_quiet (fail)
       go_wp2
       all_goals go_meet
       all_goals exact ⟨_, rfl, ⟨HD.out.drewN _⟩⟩
      case rest =>
       clear HD
       obtain ⟨bb, rfl, HD⟩ := hcut
       cases bb with
       | false =>
        go_wp2
        go_roundg ((m : Int) - j).toNat
        case measure => have h2_ := HI.out; have h3_ := HJ.out; omega
        case rel => exact ⟨i, j + 1, rfl, rfl, ⟨by have h2_ := HI.out; have h3_ := HJ.out; omega⟩, HD⟩
       | true =>
        obtain ⟨u0, hc0, hf0⟩ := HD.out.cellS (k.toNat + j.toNat) (by have h1_ := HA.out; have h2_ := HK.out; have h3_ := HC.out; have h4_ := HM.out; have h5_ := HI.out; have h6_ := HJ.out; omega)
        have b3 : (0 ≤ i) = True := eq_true (by have h1_ := HA.out; have h2_ := HK.out; have h3_ := HC.out; have h4_ := HM.out; have h5_ := HI.out; have h6_ := HJ.out; omega)
        have b4 : (i < (n : Int)) = True := eq_true (by have h1_ := HA.out; have h2_ := HK.out; have h3_ := HC.out; have h4_ := HM.out; have h5_ := HI.out; have h6_ := HJ.out; omega)
        obtain ⟨u1, hc1, hf1⟩ := HD.out.cell i (of_eq_true b3) (of_eq_true b4)
        go_wp2
        go_roundg ((m : Int) - j).toNat
        case measure => have h2_ := HI.out; have h3_ := HJ.out; omega
        case rel => exact ⟨i + 1, j + 1, rfl, rfl, ⟨by have h2_ := HI.out; have h3_ := HJ.out; omega⟩, ⟨by first | exact HD.out.set i u0 | exact (HD.out.set i u0).drew⟩⟩
end Go.Proofs.Ytbfialebaoeicaa.X
