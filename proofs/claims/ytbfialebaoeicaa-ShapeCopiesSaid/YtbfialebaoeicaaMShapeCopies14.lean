/- Part 15 of the proof of the statement ShapeCopies: the words of the walks, the walks through the functions that it reaches, and the plain laws of what they compute. -/
import Derived.Test.YtbfialebaoeicaaMShapeCopies13
import Derived.Deep.RegionHeld3
import Derived.Deep.RegionWith
import Derived.BigQuiet
import Derived.RegionTactic
import Derived.ChangeAlike
import Derived.Deep.QuietTactic
namespace Go.Proofs.Ytbfialebaoeicaa.X
open Go.RowKit Go.Proofs.YtbfialebaoeicaaW.PrintWords Go.Proofs.YtbfialebaoeicaaW.PrintLast Go.Proofs.YtbfialebaoeicaaW.PrintMore
set_option linter.all false
theorem noadj_nodup {ys zs : List Int} (hp : ys.Perm zs) (hs : SRT ys 0 zs.length) : NoAdj ys ↔ zs.Nodup := by
 rw [← hp.nodup_iff]
 have hl := hp.length_eq
 have hg : ∀ (i : Nat) (h : i < ys.length), ys.getD i 0 = ys[i] := fun i h => by simp [List.getD_eq_getElem?_getD, h]
 constructor
 ·intro h
  rw [List.Nodup, List.pairwise_iff_getElem]
  intro i j hi hj hij e
  have a1 := h i (by omega)
  have a2 := hs i (i + 1) (by omega) (by omega) (by omega)
  by_cases e2 : j = i + 1
  ·subst e2
   rw [hg i hi, hg _ hj] at a1
   exact a1 e
  ·have a3 := hs (i + 1) j (by omega) (by omega) (by omega)
   rw [hg j hj, ← e, ← hg i hi] at a3
   omega
 ·intro h j hj e
  rw [List.Nodup, List.pairwise_iff_getElem] at h
  rw [hg j (by omega), hg _ hj] at e
  exact h j (j + 1) (by omega) hj (by omega) e
theorem cell_lt {w : World} {a : Addr} {v : Value} (h : w.cell? a = some v) : a.block < w.heap.size := by
 rcases Nat.lt_or_ge a.block w.heap.size with h1 | h1
 ·exact h1
 ·simp [World.cell?, Array.getElem?_eq_none h1] at h
theorem rows_in {w : World} {A : Option Addr} {zs : List Int} (h : Kd.C (Kd.int .u16) w A zs.length zs) : zs ≠ [] → ∃ ad, A = some ad ∧ ∀ j, j < zs.length → (ad.add j).block < w.heap.size ∧ w.cell? (ad.add j) = some (.int .u16 (zs[j]?.getD 0)) := by
 intro hz
 have h0 : 0 < zs.length := List.length_pos_iff.2 hz
 obtain ⟨ad, e, _⟩ := Kd.at_int h 0 (by omega) (by omega)
 refine ⟨ad, e, fun j hj => ?_⟩
 obtain ⟨ad', e', hc⟩ := Kd.at_int h (j : Int) (by omega) (by omega)
 rw [e] at e'
 cases e'
 have hc' : w.cell? (ad.add j) = some (.int .u16 (zs[j]?.getD 0)) := by
  have := hc
  simp only [Int.toNat_natCast, rd, List.getD_eq_getElem?_getD] at this
  exact this
 exact ⟨cell_lt hc', hc'⟩
theorem nilu_C {w : World} : Kd.C (Kd.int .u16) w none ([] : List Int).length [] := ⟨rfl, by decide, fun h => by simp at h⟩
theorem pad_zero (b : S35) : padE b ⟨0, [], false, false⟩ = ((b.f0 == 0) && ((b.f1.length : Int) == 0) && !b.f2 && !b.f3) := by
 obtain ⟨x, l, q, r⟩ := b
 have hl : (l == []) = ((l.length : Int) == 0) := by
  cases l with
  | nil => rfl
  | cons a l =>
   have : ((a :: l : List Int).length : Int) ≠ 0 := by rw [List.length_cons]; omega
   rw [beq_eq_false_iff_ne.2 this]
   rfl
 show ((x == 0) && (l == []) && (q == false) && (r == false)) = _
 rw [hl]
 cases q <;> cases r <;> rfl
set_option maxHeartbeats 16000000 in
set_option maxRecDepth 100000 in
theorem cmp0_c (w : World) : Calls Try.prog 105 #[.slice none 0 0] w fun e w' => e = .returned (.slice none 0 0) ∧ w' = w := by
 go_enter Try.func105, Try.ntmps105
 go_wp2
 go_ret
 exact ⟨rfl, rfl⟩
theorem sd_open {base : Nat} {wc : World} {v : Value} {zs : List Int} (h : Sd base wc v zs) (hb : base ≤ wc.heap.size) : ∃ A cp, v = .slice A zs.length cp ∧ (zs.length ≤ 8 → ∀ W, Below wc.heap.size wc W →
  Calls Try.prog 105 #[.slice A zs.length cp] W fun e w' => (∃ (k : Nat) (A' : Option Addr) (c' : Nat), e = .returned (.slice A' k c') ∧ ((k : Int) = zs.length ↔ zs.Nodup)) ∧ Below base W w') := by
 rcases h with ⟨rfl, rfl⟩ | ⟨g, cp, ys, rfl, hy, hc1, hc2, hyx⟩
 ·refine ⟨none, 0, rfl, fun _ W hW => (cmp0_c W).mono ?_⟩
  rintro e w' ⟨rfl, rfl⟩
  exact ⟨⟨0, none, 0, rfl, by simp⟩, Below.refl _ _⟩
 ·refine ⟨some ⟨g, 0, none⟩, cp, rfl, fun h8 W hW => ?_⟩
  have hy' : RU W base g zs.length cp ys := Kd.R_below hy hW
  refine (cmp_c base g zs.length cp W ys hy' (by omega) hc1 (by simpa [maxLen] using hc2)).mono ?_
  rintro e w' ⟨⟨k, rfl, hk⟩, hg⟩
  have hx := hyx (by omega)
  refine ⟨⟨k, _, _, rfl, ?_⟩, ?_⟩
  ·rw [← noadj_nodup hx.1 hx.2, ← hk]
   omega
  ·have hs := hW.size
   have hbl := Kd.R_base hy g rfl
   exact ⟨hg.os, hg.tape, hg.output, hg.size, fun i hi => hg.block i (by omega) (fun e => by injection e with e; omega)⟩
set_option maxHeartbeats 16000000 in
set_option maxRecDepth 100000 in
theorem pad_l (m : List S27) (A0 : Option Addr) (c0 : Nat) (f : S27) (A1 : Option Addr) (c1 : Nat) (b : S41) (A4 : Option Addr) (c4 : Nat) (A5 : Option Addr) (c5 : Nat) (A6 : Option Addr) (c6 : Nat) (w : World) (hl : Kd.C (Kd.int .u16) w A4 b.f1.f1.length b.f1.f1) (hb : b.f1.f1.length ≤ 20) :
  Calls Try.prog 83 #[.agg #[.slice A0 m.length c0, .int .i64 f.f0, .int .i64 f.f1, .slice A1 f.f2.length c1], .agg #[.bool b.f0, .int .i64 b.f1.f0, .slice A4 b.f1.f1.length c4, .bool b.f1.f2, .bool b.f1.f3, .slice A5 b.f2.length c5, .int .i64 b.f3.f0, .int .i64 b.f3.f1, .int .i64 b.f3.f2, .int .i64 b.f3.f3, .slice A6 b.f3.f4.length c6, .int .i64 b.f3.f5, .int .i64 b.f3.f6, .int .i64 b.f3.f7]] w fun e w' => e = .returned (.bool (padR f.f1 b)) ∧ Below w.heap.size w w' := by
 have HL := Aside0.mk hl
 have HN := Aside0.mk hb
 clear hl hb
 have hu24 := Try.underlying24
 have hu27 := Try.underlying27
 have hu87 := Try.underlying87
 have hu35 := Try.underlying35
 have hu41 := Try.underlying41
 go_enter Try.func83, Try.ntmps83
 go_upto_region 1 with (first | ((with_reducible refine gate_dst (N := 2) rfl ?_); refine box_event ?hg (N := 2) ?hd (cs := #[.slice A0 m.length c0, .int .i64 f.f0, .int .i64 f.f1, .slice A1 f.f2.length c1]) (t := 87) ?hr ?_; (case hd => rfl); (case hg => rfl); (case hr => first | (go_simp; done) | (go_simp; rfl)); intro g2 hg w2 hbox hb; have HB := Aside0.mk hb; have X2 := Aside0.mk hbox; clear hbox hb hg) | ((with_reducible refine gate_dst (N := 3) rfl ?_); refine box_event ?hg (N := 3) ?hd (cs := #[.bool b.f0, .int .i64 b.f1.f0, .slice A4 b.f1.f1.length c4, .bool b.f1.f2, .bool b.f1.f3, .slice A5 b.f2.length c5, .int .i64 b.f3.f0, .int .i64 b.f3.f1, .int .i64 b.f3.f2, .int .i64 b.f3.f3, .slice A6 b.f3.f4.length c6, .int .i64 b.f3.f5, .int .i64 b.f3.f6, .int .i64 b.f3.f7]) (t := 41) ?hr ?_; (case hd => rfl); (case hg => rfl); (case hr => first | (go_simp; done) | (go_simp; rfl)); intro g3 hg w3 hbox hb; replace HB := Aside0.mk (below_step HB.out hb); replace X2 := Aside0.mk (blk_below X2.out hb); have X3 := Aside0.mk hbox; clear hbox hb hg; obtain ⟨h0, h1, h2, h3, h4⟩ := cl5 X3.out))
 go_cut [5] (fun v5 wc => ∃ g4 : Nat, v5 = .pointer (some ⟨g4, 0, none⟩) ∧ Aside0 (Below w.heap.size w wc) ∧ Aside0 (wc.heap[g2]? = some (.cells #[.slice A0 m.length c0, .int .i64 f.f0, .int .i64 f.f1, .slice A1 f.f2.length c1] 87 (0, 0))) ∧ Aside0 (wc.heap[g3]? = some (.cells #[.bool b.f0, .int .i64 b.f1.f0, .slice A4 b.f1.f1.length c4, .bool b.f1.f2, .bool b.f1.f3, .slice A5 b.f2.length c5, .int .i64 b.f3.f0, .int .i64 b.f3.f1, .int .i64 b.f3.f2, .int .i64 b.f3.f3, .slice A6 b.f3.f4.length c6, .int .i64 b.f3.f5, .int .i64 b.f3.f6, .int .i64 b.f3.f7] 41 (0, 0))) ∧ Aside0 (wc.heap[g4]? = some (.cells #[.int .i64 b.f1.f0, .slice A4 b.f1.f1.length c4, .bool b.f1.f2, .bool b.f1.f3] 35 (0, 0))))
 case first => go_wp2; go_meet; exact ⟨_, rfl, ⟨below_alloc HB.out _⟩, ⟨blk_alloc X2.out _⟩, ⟨blk_alloc X3.out _⟩, ⟨blk_new _ _⟩⟩
 case rest =>
  clear HB X2 X3 h0 h1 h2 h3 h4
  obtain ⟨g4, rfl, HB, X2, X3, X4⟩ := hcut
  have h0 := (blk_cell X3.out 0).trans rfl
  obtain ⟨i0, i1, i2, i3⟩ := cl4 X2.out
  obtain ⟨k0, k1, k2, k3⟩ := cl4 X4.out
  cases hb0 : b.f0 with
  | false =>
   rw [hb0] at h0
   go_wp2_with (go_at_call 92; refine (spad_c b.f1 A4 c4 (⟨0, [], false, false⟩ : S35) none 0 _ (Kd.C_below HL.out HB.out) nilu_C (by have := HN.out; omega)).mono ?_; rintro e w7 ⟨rfl, hb⟩; have HB7 := Aside0.mk (HB.out.trans (hb.mono HB.out.size)); clear hb)
   go_ret
   exact ⟨ret_b (by rw [pad_zero]; unfold padR; rw [if_neg (by rw [hb0]; decide)]), HB7.out⟩
  | true =>
   rw [hb0] at h0
   go_upto_region 4 with (fail)
   go_cut [6] (fun v6 wc => Aside0 (∃ base, (Sd base wc v6 b.f1.f1 ∧ base ≤ wc.heap.size) ∧ g2 < base ∧ g4 < base ∧ w.heap.size ≤ base) ∧ Aside0 (Below w.heap.size w wc) ∧ Aside0 (wc.heap[g2]? = some (.cells #[.slice A0 m.length c0, .int .i64 f.f0, .int .i64 f.f1, .slice A1 f.f2.length c1] 87 (0, 0))) ∧ Aside0 (wc.heap[g3]? = some (.cells #[.bool b.f0, .int .i64 b.f1.f0, .slice A4 b.f1.f1.length c4, .bool b.f1.f2, .bool b.f1.f3, .slice A5 b.f2.length c5, .int .i64 b.f3.f0, .int .i64 b.f3.f1, .int .i64 b.f3.f2, .int .i64 b.f3.f3, .slice A6 b.f3.f4.length c6, .int .i64 b.f3.f5, .int .i64 b.f3.f6, .int .i64 b.f3.f7] 41 (0, 0))) ∧ Aside0 (wc.heap[g4]? = some (.cells #[.int .i64 b.f1.f0, .slice A4 b.f1.f1.length c4, .bool b.f1.f2, .bool b.f1.f3] 35 (0, 0))))
   case first =>
    go_wp2_with (go_at_call 103; (with_reducible refine (vals_c A4 b.f1.f1.length c4 _).mono ?_); rintro e w5 ⟨rfl, hw⟩; have HB5 := Aside0.mk (show Below w.heap.size w w5 by rw [hw]; exact below_alloc HB.out _); have Y2 := Aside0.mk (show w5.heap[g2]? = some (.cells #[.slice A0 m.length c0, .int .i64 f.f0, .int .i64 f.f1, .slice A1 f.f2.length c1] 87 (0, 0)) by rw [hw]; exact blk_alloc X2.out _); have Y3 := Aside0.mk (show w5.heap[g3]? = some (.cells #[.bool b.f0, .int .i64 b.f1.f0, .slice A4 b.f1.f1.length c4, .bool b.f1.f2, .bool b.f1.f3, .slice A5 b.f2.length c5, .int .i64 b.f3.f0, .int .i64 b.f3.f1, .int .i64 b.f3.f2, .int .i64 b.f3.f3, .slice A6 b.f3.f4.length c6, .int .i64 b.f3.f5, .int .i64 b.f3.f6, .int .i64 b.f3.f7] 41 (0, 0)) by rw [hw]; exact blk_alloc X3.out _); have Y4 := Aside0.mk (show w5.heap[g4]? = some (.cells #[.int .i64 b.f1.f0, .slice A4 b.f1.f1.length c4, .bool b.f1.f2, .bool b.f1.f3] 35 (0, 0)) by rw [hw]; exact blk_alloc X4.out _); have BX := Aside0.mk (show w5.heap[wc.heap.size]? = some (.cells #[.slice A4 b.f1.f1.length c4] 33 (0, 0)) by rw [hw]; exact blk_new _ _); clear hw)
    go_wp2_with (go_at_call 102; go_loud ((with_reducible refine (sorted_c wc.heap.size A4 c4 b.f1.f1 (by have := HN.out; omega) _ (blk_lt BX.out) ((blk_cell BX.out 0).trans rfl) (rows_in (Kd.C_below HL.out HB5.out)) (by have := HN.out; omega)).mono ?_); rintro e w6 ⟨v, rfl, hsd, hb⟩; have HSD := Aside0.mk hsd; have HB6 := Aside0.mk hb; clear hsd hb))
    go_meet
    exact ⟨⟨_, ⟨HSD.out, HB6.out.size⟩, blk_lt Y2.out, blk_lt Y4.out, HB5.out.size⟩, ⟨HB5.out.trans (HB6.out.mono HB5.out.size)⟩, ⟨blk_below Y2.out HB6.out⟩, ⟨blk_below Y3.out HB6.out⟩, ⟨blk_below Y4.out HB6.out⟩⟩
   case rest =>
    clear HB X2 X3 X4 h0 i0 i1 i2 i3 k0 k1 k2 k3
    obtain ⟨HSD, HB, X2, X3, X4⟩ := hcut
    obtain ⟨i0, i1, i2, i3⟩ := cl4 X2.out
    obtain ⟨k0, k1, k2, k3⟩ := cl4 X4.out
    have HSP := Aside0.mk (show padR f.f1 b = (decide (b.f1.f1.length ≤ 8) && decide b.f1.f1.Nodup && win b.f1.f0 f.f1 && (decide (0 < b.f1.f1.length) || b.f1.f2 || b.f1.f3)) by unfold padR; rw [if_pos hb0])
    clear hb0
    obtain ⟨base, hsd, hg2, hg4, hbs⟩ := HSD.out
    clear HSD
    obtain ⟨A9, c9, rfl, hcm⟩ := sd_open hsd.1 hsd.2
    have HCM := Aside0.mk hcm
    have HG := Aside0.mk (show g2 < base ∧ g4 < base ∧ w.heap.size ≤ base from ⟨hg2, hg4, hbs⟩)
    clear hsd hcm hg2 hg4 hbs
    go_wp2
    refine start_ (S := (fun W : World => Below w.heap.size w W ∧ W.heap[g2]? = some (.cells #[.slice A0 m.length c0, .int .i64 f.f0, .int .i64 f.f1, .slice A1 f.f2.length c1] 87 (0, 0)) ∧ W.heap[g4]? = some (.cells #[.int .i64 b.f1.f0, .slice A4 b.f1.f1.length c4, .bool b.f1.f2, .bool b.f1.f3] 35 (0, 0)))) (ds := []) #[bF,bF,bF,bF,bF,bF,bF,bF,bF,bF,bF,bF,bF,bF,bF,bF,bF,bF,bF,bF,bF,bF,bF,bF,bF,bF,bF,bF,bF,bF,bF,bF,bF] (by kernel_rfl) (by rfl) (by rfl) ⟨below_drew HB.out, blk_drew X2.out, blk_drew X4.out⟩ (fun hS => ?_)
    refine take_ (i := 0) (N := some 19) (v := .agg #[.slice A0 m.length c0, .int .i64 f.f0, .int .i64 f.f1, .slice A1 f.f2.length c1]) (a' := ?ax1) #[bT,bF,bF,bF,bF,bF,bF,bF,bF,bF,bF,bF,bF,bF,bF,bF,bF,bF,bF,bF,bF,bF,bF,bF,bF,bF,bF,bF,bF,bF,bF,bF,bF] rfl rfl (by kernel_rfl) (fun _ _ _ h => h) (Or.inl ⟨by rfl, ?yy1⟩) hS ?ha1 ?hh1
    case yy1 => intro W hW; obtain ⟨i0, i1, i2, i3⟩ := cl4 hW.2.1; obtain ⟨k0, k1, k2, k3⟩ := cl4 hW.2.2; go_simp; done
    case ha1 => try simp only [Act.put, sA_, sZ_, sS_]; exact rfl
    refine take_ (i := 1) (N := some 20) (v := .pointer (some ⟨g4, 0, none⟩)) (a' := ?ax2) #[bT,bT,bF,bF,bF,bF,bF,bF,bF,bF,bF,bF,bF,bF,bF,bF,bF,bF,bF,bF,bF,bF,bF,bF,bF,bF,bF,bF,bF,bF,bF,bF,bF] rfl rfl (by kernel_rfl) (fun _ _ _ h => h) (Or.inl ⟨by rfl, ?yy2⟩) hS ?ha2 ?hh2
    case yy2 => intro W hW; obtain ⟨i0, i1, i2, i3⟩ := cl4 hW.2.1; obtain ⟨k0, k1, k2, k3⟩ := cl4 hW.2.2; go_simp; done
    case ha2 => try simp only [Act.put, sA_, sZ_, sS_]; exact rfl
    refine take_ (i := 2) (N := some 21) (v := .int .i64 b.f1.f0) (a' := ?ax3) #[bT,bT,bT,bF,bF,bF,bF,bF,bF,bF,bF,bF,bF,bF,bF,bF,bF,bF,bF,bF,bF,bF,bF,bF,bF,bF,bF,bF,bF,bF,bF,bF,bF] rfl rfl (by kernel_rfl) (fun _ _ _ h => h) (Or.inl ⟨by rfl, ?yy3⟩) hS ?ha3 ?hh3
    case yy3 => intro W hW; obtain ⟨i0, i1, i2, i3⟩ := cl4 hW.2.1; obtain ⟨k0, k1, k2, k3⟩ := cl4 hW.2.2; go_simp; done
    case ha3 => try simp only [Act.put, sA_, sZ_, sS_]; exact rfl
    refine one_ (i := 3) (N := some 22) #[bT,bT,bT,bT,bF,bF,bF,bF,bF,bF,bF,bF,bF,bF,bF,bF,bF,bF,bF,bF,bF,bF,bF,bF,bF,bF,bF,bF,bF,bF,bF,bF,bF] rfl rfl (by kernel_rfl) (by decide) (fun K hK => ?_)
    refine goes_ Try.func104 (by kernel_rfl) rfl #[.agg #[.slice A0 m.length c0, .int .i64 f.f0, .int .i64 f.f1, .slice A1 f.f2.length c1], .int .i64 b.f1.f0] (by rfl) rfl rfl (by simp only [List.map_toArray, List.map_cons, List.map_nil]; rfl) ?_
    with_reducible refine (place_c m A0 c0 f A1 c1 b.f1.f0 _).mono ?_
    rintro e w6 ⟨rfl, hb⟩
    refine ⟨_, rfl, ?_⟩
    have hS' := And.intro (hS.1.trans (hb.mono hS.1.size)) (And.intro (blk_below hS.2.1 hb) (blk_below hS.2.2 hb))
    have HB6 := Aside0.mk hb
    clear hb
    refine hK _ _ hS' (fun hS => ?_)
    clear hK K
    try simp only [Act.put, sA_, sZ_, sS_]
    generalize hww : win b.f1.f0 f.f1 = ww at *
    cases ww with
    | false =>
     refine take_ (i := 4) (N := some 23) (v := .bool false) (a' := ?ax4) #[bT,bT,bT,bT,bT,bF,bF,bF,bF,bF,bF,bF,bF,bF,bF,bF,bF,bF,bF,bF,bF,bF,bF,bF,bF,bF,bF,bF,bF,bF,bF,bF,bF] rfl rfl (by kernel_rfl) (fun _ _ _ h => h) (Or.inl ⟨by rfl, ?yy4⟩) hS ?ha4 ?hh4
     case yy4 => intro W hW; obtain ⟨i0, i1, i2, i3⟩ := cl4 hW.2.1; obtain ⟨k0, k1, k2, k3⟩ := cl4 hW.2.2; go_simp; done
     case ha4 => try simp only [Act.put, sA_, sZ_, sS_]; exact rfl
     refine take_ (i := 5) (N := some 24) (v := undef) (a' := ?ax5) #[bT,bT,bT,bT,bT,bT,bF,bF,bF,bF,bF,bF,bF,bF,bF,bF,bF,bF,bF,bF,bF,bF,bF,bF,bF,bF,bF,bF,bF,bF,bF,bF,bF] rfl rfl (by kernel_rfl) (fun _ _ _ h => h) (Or.inr ⟨by rfl, rfl⟩) hS ?ha5 ?hh5
     case ha5 => try simp only [Act.put, sA_, sZ_, sS_]; exact rfl
     refine take_ (i := 6) (N := some 25) (v := undef) (a' := ?ax6) #[bT,bT,bT,bT,bT,bT,bT,bF,bF,bF,bF,bF,bF,bF,bF,bF,bF,bF,bF,bF,bF,bF,bF,bF,bF,bF,bF,bF,bF,bF,bF,bF,bF] rfl rfl (by kernel_rfl) (fun _ _ _ h => h) (Or.inr ⟨by rfl, rfl⟩) hS ?ha6 ?hh6
     case ha6 => try simp only [Act.put, sA_, sZ_, sS_]; exact rfl
     refine take_ (i := 7) (N := some 26) (v := undef) (a' := ?ax7) #[bT,bT,bT,bT,bT,bT,bT,bT,bF,bF,bF,bF,bF,bF,bF,bF,bF,bF,bF,bF,bF,bF,bF,bF,bF,bF,bF,bF,bF,bF,bF,bF,bF] rfl rfl (by kernel_rfl) (fun _ _ _ h => h) (Or.inr ⟨by rfl, rfl⟩) hS ?ha7 ?hh7
     case ha7 => try simp only [Act.put, sA_, sZ_, sS_]; exact rfl
     refine take_ (i := 8) (N := some 27) (v := .bool false) (a' := ?ax8) #[bT,bT,bT,bT,bT,bT,bT,bT,bT,bF,bF,bF,bF,bF,bF,bF,bF,bF,bF,bF,bF,bF,bF,bF,bF,bF,bF,bF,bF,bF,bF,bF,bF] rfl rfl (by kernel_rfl) (fun _ _ _ h => h) (Or.inl ⟨by rfl, ?yy8⟩) hS ?ha8 ?hh8
     case yy8 => intro W hW; obtain ⟨i0, i1, i2, i3⟩ := cl4 hW.2.1; obtain ⟨k0, k1, k2, k3⟩ := cl4 hW.2.2; go_simp; done
     case ha8 => try simp only [Act.put, sA_, sZ_, sS_]; exact rfl
     refine take_ (i := 9) (N := some 28) (v := .bool false) (a' := ?ax9) #[bT,bT,bT,bT,bT,bT,bT,bT,bT,bT,bF,bF,bF,bF,bF,bF,bF,bF,bF,bF,bF,bF,bF,bF,bF,bF,bF,bF,bF,bF,bF,bF,bF] rfl rfl (by kernel_rfl) (fun _ _ _ h => h) (Or.inl ⟨by rfl, ?yy9⟩) hS ?ha9 ?hh9
     case yy9 => intro W hW; obtain ⟨i0, i1, i2, i3⟩ := cl4 hW.2.1; obtain ⟨k0, k1, k2, k3⟩ := cl4 hW.2.2; go_simp; done
     case ha9 => try simp only [Act.put, sA_, sZ_, sS_]; exact rfl
     refine take_ (i := 10) (N := some 29) (v := undef) (a' := ?ax10) #[bT,bT,bT,bT,bT,bT,bT,bT,bT,bT,bT,bF,bF,bF,bF,bF,bF,bF,bF,bF,bF,bF,bF,bF,bF,bF,bF,bF,bF,bF,bF,bF,bF] rfl rfl (by kernel_rfl) (fun _ _ _ h => h) (Or.inr ⟨by rfl, rfl⟩) hS ?ha10 ?hh10
     case ha10 => try simp only [Act.put, sA_, sZ_, sS_]; exact rfl
     refine take_ (i := 11) (N := some 30) (v := undef) (a' := ?ax11) #[bT,bT,bT,bT,bT,bT,bT,bT,bT,bT,bT,bT,bF,bF,bF,bF,bF,bF,bF,bF,bF,bF,bF,bF,bF,bF,bF,bF,bF,bF,bF,bF,bF] rfl rfl (by kernel_rfl) (fun _ _ _ h => h) (Or.inr ⟨by rfl, rfl⟩) hS ?ha11 ?hh11
     case ha11 => try simp only [Act.put, sA_, sZ_, sS_]; exact rfl
     refine take_ (i := 12) (N := some 31) (v := undef) (a' := ?ax12) #[bT,bT,bT,bT,bT,bT,bT,bT,bT,bT,bT,bT,bT,bF,bF,bF,bF,bF,bF,bF,bF,bF,bF,bF,bF,bF,bF,bF,bF,bF,bF,bF,bF] rfl rfl (by kernel_rfl) (fun _ _ _ h => h) (Or.inr ⟨by rfl, rfl⟩) hS ?ha12 ?hh12
     case ha12 => try simp only [Act.put, sA_, sZ_, sS_]; exact rfl
     refine take_ (i := 13) (N := some 32) (v := undef) (a' := ?ax13) #[bT,bT,bT,bT,bT,bT,bT,bT,bT,bT,bT,bT,bT,bT,bF,bF,bF,bF,bF,bF,bF,bF,bF,bF,bF,bF,bF,bF,bF,bF,bF,bF,bF] rfl rfl (by kernel_rfl) (fun _ _ _ h => h) (Or.inr ⟨by rfl, rfl⟩) hS ?ha13 ?hh13
     case ha13 => try simp only [Act.put, sA_, sZ_, sS_]; exact rfl
     refine take_ (i := 14) (N := some 33) (v := undef) (a' := ?ax14) #[bT,bT,bT,bT,bT,bT,bT,bT,bT,bT,bT,bT,bT,bT,bT,bF,bF,bF,bF,bF,bF,bF,bF,bF,bF,bF,bF,bF,bF,bF,bF,bF,bF] rfl rfl (by kernel_rfl) (fun _ _ _ h => h) (Or.inr ⟨by rfl, rfl⟩) hS ?ha14 ?hh14
     case ha14 => try simp only [Act.put, sA_, sZ_, sS_]; exact rfl
     refine take_ (i := 15) (N := some 34) (v := undef) (a' := ?ax15) #[bT,bT,bT,bT,bT,bT,bT,bT,bT,bT,bT,bT,bT,bT,bT,bT,bF,bF,bF,bF,bF,bF,bF,bF,bF,bF,bF,bF,bF,bF,bF,bF,bF] rfl rfl (by kernel_rfl) (fun _ _ _ h => h) (Or.inr ⟨by rfl, rfl⟩) hS ?ha15 ?hh15
     case ha15 => try simp only [Act.put, sA_, sZ_, sS_]; exact rfl
     refine take_ (i := 16) (N := some 35) (v := undef) (a' := ?ax16) #[bT,bT,bT,bT,bT,bT,bT,bT,bT,bT,bT,bT,bT,bT,bT,bT,bT,bF,bF,bF,bF,bF,bF,bF,bF,bF,bF,bF,bF,bF,bF,bF,bF] rfl rfl (by kernel_rfl) (fun _ _ _ h => h) (Or.inr ⟨by rfl, rfl⟩) hS ?ha16 ?hh16
     case ha16 => try simp only [Act.put, sA_, sZ_, sS_]; exact rfl
     refine take_ (i := 17) (N := some 36) (v := .bool false) (a' := ?ax17) #[bT,bT,bT,bT,bT,bT,bT,bT,bT,bT,bT,bT,bT,bT,bT,bT,bT,bT,bF,bF,bF,bF,bF,bF,bF,bF,bF,bF,bF,bF,bF,bF,bF] rfl rfl (by kernel_rfl) (fun _ _ _ h => h) (Or.inl ⟨by rfl, ?yy17⟩) hS ?ha17 ?hh17
     case yy17 => intro W hW; obtain ⟨i0, i1, i2, i3⟩ := cl4 hW.2.1; obtain ⟨k0, k1, k2, k3⟩ := cl4 hW.2.2; go_simp; done
     case ha17 => try simp only [Act.put, sA_, sZ_, sS_]; exact rfl
     refine take_ (i := 18) (N := some 37) (v := .bool false) (a' := ?ax18) #[bT,bT,bT,bT,bT,bT,bT,bT,bT,bT,bT,bT,bT,bT,bT,bT,bT,bT,bT,bF,bF,bF,bF,bF,bF,bF,bF,bF,bF,bF,bF,bF,bF] rfl rfl (by kernel_rfl) (fun _ _ _ h => h) (Or.inl ⟨by rfl, ?yy18⟩) hS ?ha18 ?hh18
     case yy18 => intro W hW; obtain ⟨i0, i1, i2, i3⟩ := cl4 hW.2.1; obtain ⟨k0, k1, k2, k3⟩ := cl4 hW.2.2; go_simp; done
     case ha18 => try simp only [Act.put, sA_, sZ_, sS_]; exact rfl
     refine take_ (i := 19) (N := some 38) (v := undef) (a' := ?ax19) #[bT,bT,bT,bT,bT,bT,bT,bT,bT,bT,bT,bT,bT,bT,bT,bT,bT,bT,bT,bT,bF,bF,bF,bF,bF,bF,bF,bF,bF,bF,bF,bF,bF] rfl rfl (by kernel_rfl) (fun _ _ _ h => h) (Or.inr ⟨by rfl, rfl⟩) hS ?ha19 ?hh19
     case ha19 => try simp only [Act.put, sA_, sZ_, sS_]; exact rfl
     refine take_ (i := 20) (N := some 39) (v := undef) (a' := ?ax20) #[bT,bT,bT,bT,bT,bT,bT,bT,bT,bT,bT,bT,bT,bT,bT,bT,bT,bT,bT,bT,bT,bF,bF,bF,bF,bF,bF,bF,bF,bF,bF,bF,bF] rfl rfl (by kernel_rfl) (fun _ _ _ h => h) (Or.inr ⟨by rfl, rfl⟩) hS ?ha20 ?hh20
     case ha20 => try simp only [Act.put, sA_, sZ_, sS_]; exact rfl
     refine take_ (i := 21) (N := some 40) (v := undef) (a' := ?ax21) #[bT,bT,bT,bT,bT,bT,bT,bT,bT,bT,bT,bT,bT,bT,bT,bT,bT,bT,bT,bT,bT,bT,bF,bF,bF,bF,bF,bF,bF,bF,bF,bF,bF] rfl rfl (by kernel_rfl) (fun _ _ _ h => h) (Or.inr ⟨by rfl, rfl⟩) hS ?ha21 ?hh21
     case ha21 => try simp only [Act.put, sA_, sZ_, sS_]; exact rfl
     refine take_ (i := 22) (N := some 41) (v := undef) (a' := ?ax22) #[bT,bT,bT,bT,bT,bT,bT,bT,bT,bT,bT,bT,bT,bT,bT,bT,bT,bT,bT,bT,bT,bT,bT,bF,bF,bF,bF,bF,bF,bF,bF,bF,bF] rfl rfl (by kernel_rfl) (fun _ _ _ h => h) (Or.inr ⟨by rfl, rfl⟩) hS ?ha22 ?hh22
     case ha22 => try simp only [Act.put, sA_, sZ_, sS_]; exact rfl
     refine take_ (i := 23) (N := some 42) (v := undef) (a' := ?ax23) #[bT,bT,bT,bT,bT,bT,bT,bT,bT,bT,bT,bT,bT,bT,bT,bT,bT,bT,bT,bT,bT,bT,bT,bT,bF,bF,bF,bF,bF,bF,bF,bF,bF] rfl rfl (by kernel_rfl) (fun _ _ _ h => h) (Or.inr ⟨by rfl, rfl⟩) hS ?ha23 ?hh23
     case ha23 => try simp only [Act.put, sA_, sZ_, sS_]; exact rfl
     refine take_ (i := 24) (N := some 43) (v := undef) (a' := ?ax24) #[bT,bT,bT,bT,bT,bT,bT,bT,bT,bT,bT,bT,bT,bT,bT,bT,bT,bT,bT,bT,bT,bT,bT,bT,bT,bF,bF,bF,bF,bF,bF,bF,bF] rfl rfl (by kernel_rfl) (fun _ _ _ h => h) (Or.inr ⟨by rfl, rfl⟩) hS ?ha24 ?hh24
     case ha24 => try simp only [Act.put, sA_, sZ_, sS_]; exact rfl
     refine take_ (i := 25) (N := some 44) (v := undef) (a' := ?ax25) #[bT,bT,bT,bT,bT,bT,bT,bT,bT,bT,bT,bT,bT,bT,bT,bT,bT,bT,bT,bT,bT,bT,bT,bT,bT,bT,bF,bF,bF,bF,bF,bF,bF] rfl rfl (by kernel_rfl) (fun _ _ _ h => h) (Or.inr ⟨by rfl, rfl⟩) hS ?ha25 ?hh25
     case ha25 => try simp only [Act.put, sA_, sZ_, sS_]; exact rfl
     refine take_ (i := 26) (N := some 45) (v := undef) (a' := ?ax26) #[bT,bT,bT,bT,bT,bT,bT,bT,bT,bT,bT,bT,bT,bT,bT,bT,bT,bT,bT,bT,bT,bT,bT,bT,bT,bT,bT,bF,bF,bF,bF,bF,bF] rfl rfl (by kernel_rfl) (fun _ _ _ h => h) (Or.inr ⟨by rfl, rfl⟩) hS ?ha26 ?hh26
     case ha26 => try simp only [Act.put, sA_, sZ_, sS_]; exact rfl
     refine take_ (i := 27) (N := some 46) (v := undef) (a' := ?ax27) #[bT,bT,bT,bT,bT,bT,bT,bT,bT,bT,bT,bT,bT,bT,bT,bT,bT,bT,bT,bT,bT,bT,bT,bT,bT,bT,bT,bT,bF,bF,bF,bF,bF] rfl rfl (by kernel_rfl) (fun _ _ _ h => h) (Or.inr ⟨by rfl, rfl⟩) hS ?ha27 ?hh27
     case ha27 => try simp only [Act.put, sA_, sZ_, sS_]; exact rfl
     refine take_ (i := 28) (N := some 47) (v := undef) (a' := ?ax28) #[bT,bT,bT,bT,bT,bT,bT,bT,bT,bT,bT,bT,bT,bT,bT,bT,bT,bT,bT,bT,bT,bT,bT,bT,bT,bT,bT,bT,bT,bF,bF,bF,bF] rfl rfl (by kernel_rfl) (fun _ _ _ h => h) (Or.inr ⟨by rfl, rfl⟩) hS ?ha28 ?hh28
     case ha28 => try simp only [Act.put, sA_, sZ_, sS_]; exact rfl
     refine take_ (i := 29) (N := some 48) (v := undef) (a' := ?ax29) #[bT,bT,bT,bT,bT,bT,bT,bT,bT,bT,bT,bT,bT,bT,bT,bT,bT,bT,bT,bT,bT,bT,bT,bT,bT,bT,bT,bT,bT,bT,bF,bF,bF] rfl rfl (by kernel_rfl) (fun _ _ _ h => h) (Or.inr ⟨by rfl, rfl⟩) hS ?ha29 ?hh29
     case ha29 => try simp only [Act.put, sA_, sZ_, sS_]; exact rfl
     refine take_ (i := 30) (N := some 49) (v := undef) (a' := ?ax30) #[bT,bT,bT,bT,bT,bT,bT,bT,bT,bT,bT,bT,bT,bT,bT,bT,bT,bT,bT,bT,bT,bT,bT,bT,bT,bT,bT,bT,bT,bT,bT,bF,bF] rfl rfl (by kernel_rfl) (fun _ _ _ h => h) (Or.inr ⟨by rfl, rfl⟩) hS ?ha30 ?hh30
     case ha30 => try simp only [Act.put, sA_, sZ_, sS_]; exact rfl
     refine take_ (i := 31) (N := some 50) (v := .bool false) (a' := ?ax31) #[bT,bT,bT,bT,bT,bT,bT,bT,bT,bT,bT,bT,bT,bT,bT,bT,bT,bT,bT,bT,bT,bT,bT,bT,bT,bT,bT,bT,bT,bT,bT,bT,bF] rfl rfl (by kernel_rfl) (fun _ _ _ h => h) (Or.inl ⟨by rfl, ?yy31⟩) hS ?ha31 ?hh31
     case yy31 => intro W hW; obtain ⟨i0, i1, i2, i3⟩ := cl4 hW.2.1; obtain ⟨k0, k1, k2, k3⟩ := cl4 hW.2.2; go_simp; done
     case ha31 => try simp only [Act.put, sA_, sZ_, sS_]; exact rfl
     refine take_ (i := 32) (N := some 4) (v := .bool false) (a' := ?ax32) #[bT,bT,bT,bT,bT,bT,bT,bT,bT,bT,bT,bT,bT,bT,bT,bT,bT,bT,bT,bT,bT,bT,bT,bT,bT,bT,bT,bT,bT,bT,bT,bT,bT] rfl rfl (by kernel_rfl) (fun _ _ _ h => h) (Or.inl ⟨by rfl, ?yy32⟩) hS ?ha32 ?hh32
     case yy32 => intro W hW; obtain ⟨i0, i1, i2, i3⟩ := cl4 hW.2.1; obtain ⟨k0, k1, k2, k3⟩ := cl4 hW.2.2; go_simp; done
     case ha32 => try simp only [Act.put, sA_, sZ_, sS_]; exact rfl
     refine done_ (by kernel_rfl) ?_
     go_wp2
     go_ret
     exact ⟨ret_b (by rw [HSP.out, Bool.and_false, Bool.false_and]), hS.1⟩
    | true =>
     refine take_ (i := 4) (N := some 23) (v := .bool true) (a' := ?ax33) #[bT,bT,bT,bT,bT,bF,bF,bF,bF,bF,bF,bF,bF,bF,bF,bF,bF,bF,bF,bF,bF,bF,bF,bF,bF,bF,bF,bF,bF,bF,bF,bF,bF] rfl rfl (by kernel_rfl) (fun _ _ _ h => h) (Or.inl ⟨by rfl, ?yy33⟩) hS ?ha33 ?hh33
     case yy33 => intro W hW; obtain ⟨i0, i1, i2, i3⟩ := cl4 hW.2.1; obtain ⟨k0, k1, k2, k3⟩ := cl4 hW.2.2; go_simp; done
     case ha33 => try simp only [Act.put, sA_, sZ_, sS_]; exact rfl
     refine take_ (i := 5) (N := some 24) (v := .slice A9 b.f1.f1.length c9) (a' := ?ax34) #[bT,bT,bT,bT,bT,bT,bF,bF,bF,bF,bF,bF,bF,bF,bF,bF,bF,bF,bF,bF,bF,bF,bF,bF,bF,bF,bF,bF,bF,bF,bF,bF,bF] rfl rfl (by kernel_rfl) (fun _ _ _ h => h) (Or.inl ⟨by rfl, ?yy34⟩) hS ?ha34 ?hh34
     case yy34 => intro W hW; obtain ⟨i0, i1, i2, i3⟩ := cl4 hW.2.1; obtain ⟨k0, k1, k2, k3⟩ := cl4 hW.2.2; go_simp; done
     case ha34 => try simp only [Act.put, sA_, sZ_, sS_]; exact rfl
     refine take_ (i := 6) (N := some 25) (v := .int .i64 b.f1.f1.length) (a' := ?ax35) #[bT,bT,bT,bT,bT,bT,bT,bF,bF,bF,bF,bF,bF,bF,bF,bF,bF,bF,bF,bF,bF,bF,bF,bF,bF,bF,bF,bF,bF,bF,bF,bF,bF] rfl rfl (by kernel_rfl) (fun _ _ _ h => h) (Or.inl ⟨by rfl, ?yy35⟩) hS ?ha35 ?hh35
     case yy35 => intro W hW; obtain ⟨i0, i1, i2, i3⟩ := cl4 hW.2.1; obtain ⟨k0, k1, k2, k3⟩ := cl4 hW.2.2; go_simp; done
     case ha35 => try simp only [Act.put, sA_, sZ_, sS_]; exact rfl
     refine take_ (i := 7) (N := some 26) (v := .bool (decide ((b.f1.f1.length : Int) ≤ 8))) (a' := ?ax36) #[bT,bT,bT,bT,bT,bT,bT,bT,bF,bF,bF,bF,bF,bF,bF,bF,bF,bF,bF,bF,bF,bF,bF,bF,bF,bF,bF,bF,bF,bF,bF,bF,bF] rfl rfl (by kernel_rfl) (fun _ _ _ h => h) (Or.inl ⟨by rfl, ?yy36⟩) hS ?ha36 ?hh36
     case yy36 => intro W hW; obtain ⟨i0, i1, i2, i3⟩ := cl4 hW.2.1; obtain ⟨k0, k1, k2, k3⟩ := cl4 hW.2.2; go_simp; done
     case ha36 => try simp only [Act.put, sA_, sZ_, sS_]; exact rfl
     have HB7 := Aside0.mk (show Below wc.heap.size wc w6 from ⟨HB6.out.os, HB6.out.tape, HB6.out.output, HB6.out.size, HB6.out.block⟩)
     by_cases h8 : (b.f1.f1.length : Int) ≤ 8
     rotate_left
     ·rw [decide_eq_false h8]
      refine take_ (i := 8) (N := some 27) (v := .bool false) (a' := ?ax37) #[bT,bT,bT,bT,bT,bT,bT,bT,bT,bF,bF,bF,bF,bF,bF,bF,bF,bF,bF,bF,bF,bF,bF,bF,bF,bF,bF,bF,bF,bF,bF,bF,bF] rfl rfl (by kernel_rfl) (fun _ _ _ h => h) (Or.inl ⟨by rfl, ?yy37⟩) hS ?ha37 ?hh37
      case yy37 => intro W hW; obtain ⟨i0, i1, i2, i3⟩ := cl4 hW.2.1; obtain ⟨k0, k1, k2, k3⟩ := cl4 hW.2.2; go_simp; done
      case ha37 => try simp only [Act.put, sA_, sZ_, sS_]; exact rfl
      refine take_ (i := 9) (N := some 28) (v := .bool false) (a' := ?ax38) #[bT,bT,bT,bT,bT,bT,bT,bT,bT,bT,bF,bF,bF,bF,bF,bF,bF,bF,bF,bF,bF,bF,bF,bF,bF,bF,bF,bF,bF,bF,bF,bF,bF] rfl rfl (by kernel_rfl) (fun _ _ _ h => h) (Or.inl ⟨by rfl, ?yy38⟩) hS ?ha38 ?hh38
      case yy38 => intro W hW; obtain ⟨i0, i1, i2, i3⟩ := cl4 hW.2.1; obtain ⟨k0, k1, k2, k3⟩ := cl4 hW.2.2; go_simp; done
      case ha38 => try simp only [Act.put, sA_, sZ_, sS_]; exact rfl
      refine take_ (i := 10) (N := some 29) (v := undef) (a' := ?ax39) #[bT,bT,bT,bT,bT,bT,bT,bT,bT,bT,bT,bF,bF,bF,bF,bF,bF,bF,bF,bF,bF,bF,bF,bF,bF,bF,bF,bF,bF,bF,bF,bF,bF] rfl rfl (by kernel_rfl) (fun _ _ _ h => h) (Or.inr ⟨by rfl, rfl⟩) hS ?ha39 ?hh39
      case ha39 => try simp only [Act.put, sA_, sZ_, sS_]; exact rfl
      refine take_ (i := 11) (N := some 30) (v := undef) (a' := ?ax40) #[bT,bT,bT,bT,bT,bT,bT,bT,bT,bT,bT,bT,bF,bF,bF,bF,bF,bF,bF,bF,bF,bF,bF,bF,bF,bF,bF,bF,bF,bF,bF,bF,bF] rfl rfl (by kernel_rfl) (fun _ _ _ h => h) (Or.inr ⟨by rfl, rfl⟩) hS ?ha40 ?hh40
      case ha40 => try simp only [Act.put, sA_, sZ_, sS_]; exact rfl
      refine take_ (i := 12) (N := some 31) (v := undef) (a' := ?ax41) #[bT,bT,bT,bT,bT,bT,bT,bT,bT,bT,bT,bT,bT,bF,bF,bF,bF,bF,bF,bF,bF,bF,bF,bF,bF,bF,bF,bF,bF,bF,bF,bF,bF] rfl rfl (by kernel_rfl) (fun _ _ _ h => h) (Or.inr ⟨by rfl, rfl⟩) hS ?ha41 ?hh41
      case ha41 => try simp only [Act.put, sA_, sZ_, sS_]; exact rfl
      refine take_ (i := 13) (N := some 32) (v := undef) (a' := ?ax42) #[bT,bT,bT,bT,bT,bT,bT,bT,bT,bT,bT,bT,bT,bT,bF,bF,bF,bF,bF,bF,bF,bF,bF,bF,bF,bF,bF,bF,bF,bF,bF,bF,bF] rfl rfl (by kernel_rfl) (fun _ _ _ h => h) (Or.inr ⟨by rfl, rfl⟩) hS ?ha42 ?hh42
      case ha42 => try simp only [Act.put, sA_, sZ_, sS_]; exact rfl
      refine take_ (i := 14) (N := some 33) (v := undef) (a' := ?ax43) #[bT,bT,bT,bT,bT,bT,bT,bT,bT,bT,bT,bT,bT,bT,bT,bF,bF,bF,bF,bF,bF,bF,bF,bF,bF,bF,bF,bF,bF,bF,bF,bF,bF] rfl rfl (by kernel_rfl) (fun _ _ _ h => h) (Or.inr ⟨by rfl, rfl⟩) hS ?ha43 ?hh43
      case ha43 => try simp only [Act.put, sA_, sZ_, sS_]; exact rfl
      refine take_ (i := 15) (N := some 34) (v := undef) (a' := ?ax44) #[bT,bT,bT,bT,bT,bT,bT,bT,bT,bT,bT,bT,bT,bT,bT,bT,bF,bF,bF,bF,bF,bF,bF,bF,bF,bF,bF,bF,bF,bF,bF,bF,bF] rfl rfl (by kernel_rfl) (fun _ _ _ h => h) (Or.inr ⟨by rfl, rfl⟩) hS ?ha44 ?hh44
      case ha44 => try simp only [Act.put, sA_, sZ_, sS_]; exact rfl
      refine take_ (i := 16) (N := some 35) (v := undef) (a' := ?ax45) #[bT,bT,bT,bT,bT,bT,bT,bT,bT,bT,bT,bT,bT,bT,bT,bT,bT,bF,bF,bF,bF,bF,bF,bF,bF,bF,bF,bF,bF,bF,bF,bF,bF] rfl rfl (by kernel_rfl) (fun _ _ _ h => h) (Or.inr ⟨by rfl, rfl⟩) hS ?ha45 ?hh45
      case ha45 => try simp only [Act.put, sA_, sZ_, sS_]; exact rfl
      refine take_ (i := 17) (N := some 36) (v := .bool false) (a' := ?ax46) #[bT,bT,bT,bT,bT,bT,bT,bT,bT,bT,bT,bT,bT,bT,bT,bT,bT,bT,bF,bF,bF,bF,bF,bF,bF,bF,bF,bF,bF,bF,bF,bF,bF] rfl rfl (by kernel_rfl) (fun _ _ _ h => h) (Or.inl ⟨by rfl, ?yy46⟩) hS ?ha46 ?hh46
      case yy46 => intro W hW; obtain ⟨i0, i1, i2, i3⟩ := cl4 hW.2.1; obtain ⟨k0, k1, k2, k3⟩ := cl4 hW.2.2; go_simp; done
      case ha46 => try simp only [Act.put, sA_, sZ_, sS_]; exact rfl
      refine take_ (i := 18) (N := some 37) (v := .bool false) (a' := ?ax47) #[bT,bT,bT,bT,bT,bT,bT,bT,bT,bT,bT,bT,bT,bT,bT,bT,bT,bT,bT,bF,bF,bF,bF,bF,bF,bF,bF,bF,bF,bF,bF,bF,bF] rfl rfl (by kernel_rfl) (fun _ _ _ h => h) (Or.inl ⟨by rfl, ?yy47⟩) hS ?ha47 ?hh47
      case yy47 => intro W hW; obtain ⟨i0, i1, i2, i3⟩ := cl4 hW.2.1; obtain ⟨k0, k1, k2, k3⟩ := cl4 hW.2.2; go_simp; done
      case ha47 => try simp only [Act.put, sA_, sZ_, sS_]; exact rfl
      refine take_ (i := 19) (N := some 38) (v := undef) (a' := ?ax48) #[bT,bT,bT,bT,bT,bT,bT,bT,bT,bT,bT,bT,bT,bT,bT,bT,bT,bT,bT,bT,bF,bF,bF,bF,bF,bF,bF,bF,bF,bF,bF,bF,bF] rfl rfl (by kernel_rfl) (fun _ _ _ h => h) (Or.inr ⟨by rfl, rfl⟩) hS ?ha48 ?hh48
      case ha48 => try simp only [Act.put, sA_, sZ_, sS_]; exact rfl
      refine take_ (i := 20) (N := some 39) (v := undef) (a' := ?ax49) #[bT,bT,bT,bT,bT,bT,bT,bT,bT,bT,bT,bT,bT,bT,bT,bT,bT,bT,bT,bT,bT,bF,bF,bF,bF,bF,bF,bF,bF,bF,bF,bF,bF] rfl rfl (by kernel_rfl) (fun _ _ _ h => h) (Or.inr ⟨by rfl, rfl⟩) hS ?ha49 ?hh49
      case ha49 => try simp only [Act.put, sA_, sZ_, sS_]; exact rfl
      refine take_ (i := 21) (N := some 40) (v := undef) (a' := ?ax50) #[bT,bT,bT,bT,bT,bT,bT,bT,bT,bT,bT,bT,bT,bT,bT,bT,bT,bT,bT,bT,bT,bT,bF,bF,bF,bF,bF,bF,bF,bF,bF,bF,bF] rfl rfl (by kernel_rfl) (fun _ _ _ h => h) (Or.inr ⟨by rfl, rfl⟩) hS ?ha50 ?hh50
      case ha50 => try simp only [Act.put, sA_, sZ_, sS_]; exact rfl
      refine take_ (i := 22) (N := some 41) (v := undef) (a' := ?ax51) #[bT,bT,bT,bT,bT,bT,bT,bT,bT,bT,bT,bT,bT,bT,bT,bT,bT,bT,bT,bT,bT,bT,bT,bF,bF,bF,bF,bF,bF,bF,bF,bF,bF] rfl rfl (by kernel_rfl) (fun _ _ _ h => h) (Or.inr ⟨by rfl, rfl⟩) hS ?ha51 ?hh51
      case ha51 => try simp only [Act.put, sA_, sZ_, sS_]; exact rfl
      refine take_ (i := 23) (N := some 42) (v := undef) (a' := ?ax52) #[bT,bT,bT,bT,bT,bT,bT,bT,bT,bT,bT,bT,bT,bT,bT,bT,bT,bT,bT,bT,bT,bT,bT,bT,bF,bF,bF,bF,bF,bF,bF,bF,bF] rfl rfl (by kernel_rfl) (fun _ _ _ h => h) (Or.inr ⟨by rfl, rfl⟩) hS ?ha52 ?hh52
      case ha52 => try simp only [Act.put, sA_, sZ_, sS_]; exact rfl
      refine take_ (i := 24) (N := some 43) (v := undef) (a' := ?ax53) #[bT,bT,bT,bT,bT,bT,bT,bT,bT,bT,bT,bT,bT,bT,bT,bT,bT,bT,bT,bT,bT,bT,bT,bT,bT,bF,bF,bF,bF,bF,bF,bF,bF] rfl rfl (by kernel_rfl) (fun _ _ _ h => h) (Or.inr ⟨by rfl, rfl⟩) hS ?ha53 ?hh53
      case ha53 => try simp only [Act.put, sA_, sZ_, sS_]; exact rfl
      refine take_ (i := 25) (N := some 44) (v := undef) (a' := ?ax54) #[bT,bT,bT,bT,bT,bT,bT,bT,bT,bT,bT,bT,bT,bT,bT,bT,bT,bT,bT,bT,bT,bT,bT,bT,bT,bT,bF,bF,bF,bF,bF,bF,bF] rfl rfl (by kernel_rfl) (fun _ _ _ h => h) (Or.inr ⟨by rfl, rfl⟩) hS ?ha54 ?hh54
      case ha54 => try simp only [Act.put, sA_, sZ_, sS_]; exact rfl
      refine take_ (i := 26) (N := some 45) (v := undef) (a' := ?ax55) #[bT,bT,bT,bT,bT,bT,bT,bT,bT,bT,bT,bT,bT,bT,bT,bT,bT,bT,bT,bT,bT,bT,bT,bT,bT,bT,bT,bF,bF,bF,bF,bF,bF] rfl rfl (by kernel_rfl) (fun _ _ _ h => h) (Or.inr ⟨by rfl, rfl⟩) hS ?ha55 ?hh55
      case ha55 => try simp only [Act.put, sA_, sZ_, sS_]; exact rfl
      refine take_ (i := 27) (N := some 46) (v := undef) (a' := ?ax56) #[bT,bT,bT,bT,bT,bT,bT,bT,bT,bT,bT,bT,bT,bT,bT,bT,bT,bT,bT,bT,bT,bT,bT,bT,bT,bT,bT,bT,bF,bF,bF,bF,bF] rfl rfl (by kernel_rfl) (fun _ _ _ h => h) (Or.inr ⟨by rfl, rfl⟩) hS ?ha56 ?hh56
      case ha56 => try simp only [Act.put, sA_, sZ_, sS_]; exact rfl
      refine take_ (i := 28) (N := some 47) (v := undef) (a' := ?ax57) #[bT,bT,bT,bT,bT,bT,bT,bT,bT,bT,bT,bT,bT,bT,bT,bT,bT,bT,bT,bT,bT,bT,bT,bT,bT,bT,bT,bT,bT,bF,bF,bF,bF] rfl rfl (by kernel_rfl) (fun _ _ _ h => h) (Or.inr ⟨by rfl, rfl⟩) hS ?ha57 ?hh57
      case ha57 => try simp only [Act.put, sA_, sZ_, sS_]; exact rfl
      refine take_ (i := 29) (N := some 48) (v := undef) (a' := ?ax58) #[bT,bT,bT,bT,bT,bT,bT,bT,bT,bT,bT,bT,bT,bT,bT,bT,bT,bT,bT,bT,bT,bT,bT,bT,bT,bT,bT,bT,bT,bT,bF,bF,bF] rfl rfl (by kernel_rfl) (fun _ _ _ h => h) (Or.inr ⟨by rfl, rfl⟩) hS ?ha58 ?hh58
      case ha58 => try simp only [Act.put, sA_, sZ_, sS_]; exact rfl
      refine take_ (i := 30) (N := some 49) (v := undef) (a' := ?ax59) #[bT,bT,bT,bT,bT,bT,bT,bT,bT,bT,bT,bT,bT,bT,bT,bT,bT,bT,bT,bT,bT,bT,bT,bT,bT,bT,bT,bT,bT,bT,bT,bF,bF] rfl rfl (by kernel_rfl) (fun _ _ _ h => h) (Or.inr ⟨by rfl, rfl⟩) hS ?ha59 ?hh59
      case ha59 => try simp only [Act.put, sA_, sZ_, sS_]; exact rfl
      refine take_ (i := 31) (N := some 50) (v := .bool false) (a' := ?ax60) #[bT,bT,bT,bT,bT,bT,bT,bT,bT,bT,bT,bT,bT,bT,bT,bT,bT,bT,bT,bT,bT,bT,bT,bT,bT,bT,bT,bT,bT,bT,bT,bT,bF] rfl rfl (by kernel_rfl) (fun _ _ _ h => h) (Or.inl ⟨by rfl, ?yy60⟩) hS ?ha60 ?hh60
      case yy60 => intro W hW; obtain ⟨i0, i1, i2, i3⟩ := cl4 hW.2.1; obtain ⟨k0, k1, k2, k3⟩ := cl4 hW.2.2; go_simp; done
      case ha60 => try simp only [Act.put, sA_, sZ_, sS_]; exact rfl
      refine take_ (i := 32) (N := some 4) (v := .bool false) (a' := ?ax61) #[bT,bT,bT,bT,bT,bT,bT,bT,bT,bT,bT,bT,bT,bT,bT,bT,bT,bT,bT,bT,bT,bT,bT,bT,bT,bT,bT,bT,bT,bT,bT,bT,bT] rfl rfl (by kernel_rfl) (fun _ _ _ h => h) (Or.inl ⟨by rfl, ?yy61⟩) hS ?ha61 ?hh61
      case yy61 => intro W hW; obtain ⟨i0, i1, i2, i3⟩ := cl4 hW.2.1; obtain ⟨k0, k1, k2, k3⟩ := cl4 hW.2.2; go_simp; done
      case ha61 => try simp only [Act.put, sA_, sZ_, sS_]; exact rfl
      refine done_ (by kernel_rfl) ?_
      go_wp2
      go_ret
      exact ⟨ret_b (by rw [HSP.out, decide_eq_false (show ¬ b.f1.f1.length ≤ 8 by omega)]; rfl), hS.1⟩
     ·rw [decide_eq_true h8]
      refine take_ (i := 8) (N := some 27) (v := .bool true) (a' := ?ax62) #[bT,bT,bT,bT,bT,bT,bT,bT,bT,bF,bF,bF,bF,bF,bF,bF,bF,bF,bF,bF,bF,bF,bF,bF,bF,bF,bF,bF,bF,bF,bF,bF,bF] rfl rfl (by kernel_rfl) (fun _ _ _ h => h) (Or.inl ⟨by rfl, ?yy62⟩) hS ?ha62 ?hh62
      case yy62 => intro W hW; obtain ⟨i0, i1, i2, i3⟩ := cl4 hW.2.1; obtain ⟨k0, k1, k2, k3⟩ := cl4 hW.2.2; go_simp; done
      case ha62 => try simp only [Act.put, sA_, sZ_, sS_]; exact rfl
      refine take_ (i := 9) (N := some 28) (v := .bool true) (a' := ?ax63) #[bT,bT,bT,bT,bT,bT,bT,bT,bT,bT,bF,bF,bF,bF,bF,bF,bF,bF,bF,bF,bF,bF,bF,bF,bF,bF,bF,bF,bF,bF,bF,bF,bF] rfl rfl (by kernel_rfl) (fun _ _ _ h => h) (Or.inl ⟨by rfl, ?yy63⟩) hS ?ha63 ?hh63
      case yy63 => intro W hW; obtain ⟨i0, i1, i2, i3⟩ := cl4 hW.2.1; obtain ⟨k0, k1, k2, k3⟩ := cl4 hW.2.2; go_simp; done
      case ha63 => try simp only [Act.put, sA_, sZ_, sS_]; exact rfl
      refine take_ (i := 10) (N := some 29) (v := .slice A9 b.f1.f1.length c9) (a' := ?ax64) #[bT,bT,bT,bT,bT,bT,bT,bT,bT,bT,bT,bF,bF,bF,bF,bF,bF,bF,bF,bF,bF,bF,bF,bF,bF,bF,bF,bF,bF,bF,bF,bF,bF] rfl rfl (by kernel_rfl) (fun _ _ _ h => h) (Or.inl ⟨by rfl, ?yy64⟩) hS ?ha64 ?hh64
      case yy64 => intro W hW; obtain ⟨i0, i1, i2, i3⟩ := cl4 hW.2.1; obtain ⟨k0, k1, k2, k3⟩ := cl4 hW.2.2; go_simp; done
      case ha64 => try simp only [Act.put, sA_, sZ_, sS_]; exact rfl
      refine take_ (i := 13) (N := some 32) (v := .pointer (some ⟨g4, 1, none⟩)) (a' := ?ax65) #[bT,bT,bT,bT,bT,bT,bT,bT,bT,bT,bT,bF,bF,bT,bF,bF,bF,bF,bF,bF,bF,bF,bF,bF,bF,bF,bF,bF,bF,bF,bF,bF,bF] rfl rfl (by kernel_rfl) (fun _ _ _ h => h) (Or.inl ⟨by rfl, ?yy65⟩) hS ?ha65 ?hh65
      case yy65 => intro W hW; obtain ⟨i0, i1, i2, i3⟩ := cl4 hW.2.1; obtain ⟨k0, k1, k2, k3⟩ := cl4 hW.2.2; go_simp; done
      case ha65 => try simp only [Act.put, sA_, sZ_, sS_]; exact rfl
      refine take_ (i := 14) (N := some 33) (v := .slice A4 b.f1.f1.length c4) (a' := ?ax66) #[bT,bT,bT,bT,bT,bT,bT,bT,bT,bT,bT,bF,bF,bT,bT,bF,bF,bF,bF,bF,bF,bF,bF,bF,bF,bF,bF,bF,bF,bF,bF,bF,bF] rfl rfl (by kernel_rfl) (fun _ _ _ h => h) (Or.inl ⟨by rfl, ?yy66⟩) hS ?ha66 ?hh66
      case yy66 => intro W hW; obtain ⟨i0, i1, i2, i3⟩ := cl4 hW.2.1; obtain ⟨k0, k1, k2, k3⟩ := cl4 hW.2.2; go_simp; done
      case ha66 => try simp only [Act.put, sA_, sZ_, sS_]; exact rfl
      refine take_ (i := 15) (N := some 34) (v := .int .i64 b.f1.f1.length) (a' := ?ax67) #[bT,bT,bT,bT,bT,bT,bT,bT,bT,bT,bT,bF,bF,bT,bT,bT,bF,bF,bF,bF,bF,bF,bF,bF,bF,bF,bF,bF,bF,bF,bF,bF,bF] rfl rfl (by kernel_rfl) (fun _ _ _ h => h) (Or.inl ⟨by rfl, ?yy67⟩) hS ?ha67 ?hh67
      case yy67 => intro W hW; obtain ⟨i0, i1, i2, i3⟩ := cl4 hW.2.1; obtain ⟨k0, k1, k2, k3⟩ := cl4 hW.2.2; go_simp; done
      case ha67 => try simp only [Act.put, sA_, sZ_, sS_]; exact rfl
      refine one_ (i := 11) (N := some 30) #[bT,bT,bT,bT,bT,bT,bT,bT,bT,bT,bT,bT,bF,bT,bT,bT,bF,bF,bF,bF,bF,bF,bF,bF,bF,bF,bF,bF,bF,bF,bF,bF,bF] rfl rfl (by kernel_rfl) (by decide) (fun K hK => ?_)
      refine goes_ Try.func105 (by kernel_rfl) rfl #[.slice A9 b.f1.f1.length c9] (by rfl) rfl rfl (by simp only [List.map_toArray, List.map_cons, List.map_nil]; rfl) ?_
      with_reducible refine (HCM.out (by omega) _ HB7.out).mono ?_
      rintro e w7 ⟨⟨k, A8, c8, rfl, hk⟩, hb⟩
      refine ⟨_, rfl, ?_⟩
      have hS' := And.intro (hS.1.trans (hb.mono HG.out.2.2)) (And.intro ((hb.block g2 HG.out.1).trans hS.2.1) ((hb.block g4 HG.out.2.1).trans hS.2.2))
      have HK := Aside0.mk hk
      clear hb hk
      refine hK _ _ hS' (fun hS => ?_)
      clear hK K
      try simp only [Act.put, sA_, sZ_, sS_]
      refine take_ (i := 12) (N := some 31) (v := .int .i64 (k : Int)) (a' := ?ax68) #[bT,bT,bT,bT,bT,bT,bT,bT,bT,bT,bT,bT,bT,bT,bT,bT,bF,bF,bF,bF,bF,bF,bF,bF,bF,bF,bF,bF,bF,bF,bF,bF,bF] rfl rfl (by kernel_rfl) (fun _ _ _ h => h) (Or.inl ⟨by rfl, ?yy68⟩) hS ?ha68 ?hh68
      case yy68 => intro W hW; obtain ⟨i0, i1, i2, i3⟩ := cl4 hW.2.1; obtain ⟨k0, k1, k2, k3⟩ := cl4 hW.2.2; go_simp; done
      case ha68 => try simp only [Act.put, sA_, sZ_, sS_]; exact rfl
      refine take_ (i := 16) (N := some 35) (v := .bool ((k : Int) == (b.f1.f1.length : Int))) (a' := ?ax69) #[bT,bT,bT,bT,bT,bT,bT,bT,bT,bT,bT,bT,bT,bT,bT,bT,bT,bF,bF,bF,bF,bF,bF,bF,bF,bF,bF,bF,bF,bF,bF,bF,bF] rfl rfl (by kernel_rfl) (fun _ _ _ h => h) (Or.inl ⟨by rfl, ?yy69⟩) hS ?ha69 ?hh69
      case yy69 => intro W hW; obtain ⟨i0, i1, i2, i3⟩ := cl4 hW.2.1; obtain ⟨k0, k1, k2, k3⟩ := cl4 hW.2.2; go_simp; done
      case ha69 => try simp only [Act.put, sA_, sZ_, sS_]; exact rfl
      by_cases hkk : (k : Int) = (b.f1.f1.length : Int)
      rotate_left
      ·rw [show ((k : Int) == (b.f1.f1.length : Int)) = false from beq_eq_false_iff_ne.2 hkk]
       refine take_ (i := 17) (N := some 36) (v := .bool false) (a' := ?ax70) #[bT,bT,bT,bT,bT,bT,bT,bT,bT,bT,bT,bT,bT,bT,bT,bT,bT,bT,bF,bF,bF,bF,bF,bF,bF,bF,bF,bF,bF,bF,bF,bF,bF] rfl rfl (by kernel_rfl) (fun _ _ _ h => h) (Or.inl ⟨by rfl, ?yy70⟩) hS ?ha70 ?hh70
       case yy70 => intro W hW; obtain ⟨i0, i1, i2, i3⟩ := cl4 hW.2.1; obtain ⟨k0, k1, k2, k3⟩ := cl4 hW.2.2; go_simp; done
       case ha70 => try simp only [Act.put, sA_, sZ_, sS_]; exact rfl
       refine take_ (i := 18) (N := some 37) (v := .bool false) (a' := ?ax71) #[bT,bT,bT,bT,bT,bT,bT,bT,bT,bT,bT,bT,bT,bT,bT,bT,bT,bT,bT,bF,bF,bF,bF,bF,bF,bF,bF,bF,bF,bF,bF,bF,bF] rfl rfl (by kernel_rfl) (fun _ _ _ h => h) (Or.inl ⟨by rfl, ?yy71⟩) hS ?ha71 ?hh71
       case yy71 => intro W hW; obtain ⟨i0, i1, i2, i3⟩ := cl4 hW.2.1; obtain ⟨k0, k1, k2, k3⟩ := cl4 hW.2.2; go_simp; done
       case ha71 => try simp only [Act.put, sA_, sZ_, sS_]; exact rfl
       refine take_ (i := 19) (N := some 38) (v := undef) (a' := ?ax72) #[bT,bT,bT,bT,bT,bT,bT,bT,bT,bT,bT,bT,bT,bT,bT,bT,bT,bT,bT,bT,bF,bF,bF,bF,bF,bF,bF,bF,bF,bF,bF,bF,bF] rfl rfl (by kernel_rfl) (fun _ _ _ h => h) (Or.inr ⟨by rfl, rfl⟩) hS ?ha72 ?hh72
       case ha72 => try simp only [Act.put, sA_, sZ_, sS_]; exact rfl
       refine take_ (i := 20) (N := some 39) (v := undef) (a' := ?ax73) #[bT,bT,bT,bT,bT,bT,bT,bT,bT,bT,bT,bT,bT,bT,bT,bT,bT,bT,bT,bT,bT,bF,bF,bF,bF,bF,bF,bF,bF,bF,bF,bF,bF] rfl rfl (by kernel_rfl) (fun _ _ _ h => h) (Or.inr ⟨by rfl, rfl⟩) hS ?ha73 ?hh73
       case ha73 => try simp only [Act.put, sA_, sZ_, sS_]; exact rfl
       refine take_ (i := 21) (N := some 40) (v := undef) (a' := ?ax74) #[bT,bT,bT,bT,bT,bT,bT,bT,bT,bT,bT,bT,bT,bT,bT,bT,bT,bT,bT,bT,bT,bT,bF,bF,bF,bF,bF,bF,bF,bF,bF,bF,bF] rfl rfl (by kernel_rfl) (fun _ _ _ h => h) (Or.inr ⟨by rfl, rfl⟩) hS ?ha74 ?hh74
       case ha74 => try simp only [Act.put, sA_, sZ_, sS_]; exact rfl
       refine take_ (i := 22) (N := some 41) (v := undef) (a' := ?ax75) #[bT,bT,bT,bT,bT,bT,bT,bT,bT,bT,bT,bT,bT,bT,bT,bT,bT,bT,bT,bT,bT,bT,bT,bF,bF,bF,bF,bF,bF,bF,bF,bF,bF] rfl rfl (by kernel_rfl) (fun _ _ _ h => h) (Or.inr ⟨by rfl, rfl⟩) hS ?ha75 ?hh75
       case ha75 => try simp only [Act.put, sA_, sZ_, sS_]; exact rfl
       refine take_ (i := 23) (N := some 42) (v := undef) (a' := ?ax76) #[bT,bT,bT,bT,bT,bT,bT,bT,bT,bT,bT,bT,bT,bT,bT,bT,bT,bT,bT,bT,bT,bT,bT,bT,bF,bF,bF,bF,bF,bF,bF,bF,bF] rfl rfl (by kernel_rfl) (fun _ _ _ h => h) (Or.inr ⟨by rfl, rfl⟩) hS ?ha76 ?hh76
       case ha76 => try simp only [Act.put, sA_, sZ_, sS_]; exact rfl
       refine take_ (i := 24) (N := some 43) (v := undef) (a' := ?ax77) #[bT,bT,bT,bT,bT,bT,bT,bT,bT,bT,bT,bT,bT,bT,bT,bT,bT,bT,bT,bT,bT,bT,bT,bT,bT,bF,bF,bF,bF,bF,bF,bF,bF] rfl rfl (by kernel_rfl) (fun _ _ _ h => h) (Or.inr ⟨by rfl, rfl⟩) hS ?ha77 ?hh77
       case ha77 => try simp only [Act.put, sA_, sZ_, sS_]; exact rfl
       refine take_ (i := 25) (N := some 44) (v := undef) (a' := ?ax78) #[bT,bT,bT,bT,bT,bT,bT,bT,bT,bT,bT,bT,bT,bT,bT,bT,bT,bT,bT,bT,bT,bT,bT,bT,bT,bT,bF,bF,bF,bF,bF,bF,bF] rfl rfl (by kernel_rfl) (fun _ _ _ h => h) (Or.inr ⟨by rfl, rfl⟩) hS ?ha78 ?hh78
       case ha78 => try simp only [Act.put, sA_, sZ_, sS_]; exact rfl
       refine take_ (i := 26) (N := some 45) (v := undef) (a' := ?ax79) #[bT,bT,bT,bT,bT,bT,bT,bT,bT,bT,bT,bT,bT,bT,bT,bT,bT,bT,bT,bT,bT,bT,bT,bT,bT,bT,bT,bF,bF,bF,bF,bF,bF] rfl rfl (by kernel_rfl) (fun _ _ _ h => h) (Or.inr ⟨by rfl, rfl⟩) hS ?ha79 ?hh79
       case ha79 => try simp only [Act.put, sA_, sZ_, sS_]; exact rfl
       refine take_ (i := 27) (N := some 46) (v := undef) (a' := ?ax80) #[bT,bT,bT,bT,bT,bT,bT,bT,bT,bT,bT,bT,bT,bT,bT,bT,bT,bT,bT,bT,bT,bT,bT,bT,bT,bT,bT,bT,bF,bF,bF,bF,bF] rfl rfl (by kernel_rfl) (fun _ _ _ h => h) (Or.inr ⟨by rfl, rfl⟩) hS ?ha80 ?hh80
       case ha80 => try simp only [Act.put, sA_, sZ_, sS_]; exact rfl
       refine take_ (i := 28) (N := some 47) (v := undef) (a' := ?ax81) #[bT,bT,bT,bT,bT,bT,bT,bT,bT,bT,bT,bT,bT,bT,bT,bT,bT,bT,bT,bT,bT,bT,bT,bT,bT,bT,bT,bT,bT,bF,bF,bF,bF] rfl rfl (by kernel_rfl) (fun _ _ _ h => h) (Or.inr ⟨by rfl, rfl⟩) hS ?ha81 ?hh81
       case ha81 => try simp only [Act.put, sA_, sZ_, sS_]; exact rfl
       refine take_ (i := 29) (N := some 48) (v := undef) (a' := ?ax82) #[bT,bT,bT,bT,bT,bT,bT,bT,bT,bT,bT,bT,bT,bT,bT,bT,bT,bT,bT,bT,bT,bT,bT,bT,bT,bT,bT,bT,bT,bT,bF,bF,bF] rfl rfl (by kernel_rfl) (fun _ _ _ h => h) (Or.inr ⟨by rfl, rfl⟩) hS ?ha82 ?hh82
       case ha82 => try simp only [Act.put, sA_, sZ_, sS_]; exact rfl
       refine take_ (i := 30) (N := some 49) (v := undef) (a' := ?ax83) #[bT,bT,bT,bT,bT,bT,bT,bT,bT,bT,bT,bT,bT,bT,bT,bT,bT,bT,bT,bT,bT,bT,bT,bT,bT,bT,bT,bT,bT,bT,bT,bF,bF] rfl rfl (by kernel_rfl) (fun _ _ _ h => h) (Or.inr ⟨by rfl, rfl⟩) hS ?ha83 ?hh83
       case ha83 => try simp only [Act.put, sA_, sZ_, sS_]; exact rfl
       refine take_ (i := 31) (N := some 50) (v := .bool false) (a' := ?ax84) #[bT,bT,bT,bT,bT,bT,bT,bT,bT,bT,bT,bT,bT,bT,bT,bT,bT,bT,bT,bT,bT,bT,bT,bT,bT,bT,bT,bT,bT,bT,bT,bT,bF] rfl rfl (by kernel_rfl) (fun _ _ _ h => h) (Or.inl ⟨by rfl, ?yy84⟩) hS ?ha84 ?hh84
       case yy84 => intro W hW; obtain ⟨i0, i1, i2, i3⟩ := cl4 hW.2.1; obtain ⟨k0, k1, k2, k3⟩ := cl4 hW.2.2; go_simp; done
       case ha84 => try simp only [Act.put, sA_, sZ_, sS_]; exact rfl
       refine take_ (i := 32) (N := some 4) (v := .bool false) (a' := ?ax85) #[bT,bT,bT,bT,bT,bT,bT,bT,bT,bT,bT,bT,bT,bT,bT,bT,bT,bT,bT,bT,bT,bT,bT,bT,bT,bT,bT,bT,bT,bT,bT,bT,bT] rfl rfl (by kernel_rfl) (fun _ _ _ h => h) (Or.inl ⟨by rfl, ?yy85⟩) hS ?ha85 ?hh85
       case yy85 => intro W hW; obtain ⟨i0, i1, i2, i3⟩ := cl4 hW.2.1; obtain ⟨k0, k1, k2, k3⟩ := cl4 hW.2.2; go_simp; done
       case ha85 => try simp only [Act.put, sA_, sZ_, sS_]; exact rfl
       refine done_ (by kernel_rfl) ?_
       go_wp2
       go_ret
       exact ⟨ret_b (by rw [HSP.out, decide_eq_false (show ¬ b.f1.f1.Nodup from fun h => hkk (HK.out.2 h)), Bool.and_false, Bool.false_and, Bool.false_and]), hS.1⟩
      ·rw [show ((k : Int) == (b.f1.f1.length : Int)) = true from beq_iff_eq.2 hkk]
       have HSQ := Aside0.mk (show padR f.f1 b = (decide (0 < b.f1.f1.length) || b.f1.f2 || b.f1.f3) by rw [HSP.out, decide_eq_true (show b.f1.f1.length ≤ 8 by omega), decide_eq_true (HK.out.1 hkk)]; rfl)
       clear HSP
       refine take_ (i := 17) (N := some 36) (v := .bool true) (a' := ?ax86) #[bT,bT,bT,bT,bT,bT,bT,bT,bT,bT,bT,bT,bT,bT,bT,bT,bT,bT,bF,bF,bF,bF,bF,bF,bF,bF,bF,bF,bF,bF,bF,bF,bF] rfl rfl (by kernel_rfl) (fun _ _ _ h => h) (Or.inl ⟨by rfl, ?yy86⟩) hS ?ha86 ?hh86
       case yy86 => intro W hW; obtain ⟨i0, i1, i2, i3⟩ := cl4 hW.2.1; obtain ⟨k0, k1, k2, k3⟩ := cl4 hW.2.2; go_simp; done
       case ha86 => try simp only [Act.put, sA_, sZ_, sS_]; exact rfl
       refine take_ (i := 18) (N := some 37) (v := .bool true) (a' := ?ax87) #[bT,bT,bT,bT,bT,bT,bT,bT,bT,bT,bT,bT,bT,bT,bT,bT,bT,bT,bT,bF,bF,bF,bF,bF,bF,bF,bF,bF,bF,bF,bF,bF,bF] rfl rfl (by kernel_rfl) (fun _ _ _ h => h) (Or.inl ⟨by rfl, ?yy87⟩) hS ?ha87 ?hh87
       case yy87 => intro W hW; obtain ⟨i0, i1, i2, i3⟩ := cl4 hW.2.1; obtain ⟨k0, k1, k2, k3⟩ := cl4 hW.2.2; go_simp; done
       case ha87 => try simp only [Act.put, sA_, sZ_, sS_]; exact rfl
       refine take_ (i := 19) (N := some 38) (v := .pointer (some ⟨g4, 2, none⟩)) (a' := ?ax88) #[bT,bT,bT,bT,bT,bT,bT,bT,bT,bT,bT,bT,bT,bT,bT,bT,bT,bT,bT,bT,bF,bF,bF,bF,bF,bF,bF,bF,bF,bF,bF,bF,bF] rfl rfl (by kernel_rfl) (fun _ _ _ h => h) (Or.inl ⟨by rfl, ?yy88⟩) hS ?ha88 ?hh88
       case yy88 => intro W hW; obtain ⟨i0, i1, i2, i3⟩ := cl4 hW.2.1; obtain ⟨k0, k1, k2, k3⟩ := cl4 hW.2.2; go_simp; done
       case ha88 => try simp only [Act.put, sA_, sZ_, sS_]; exact rfl
       refine take_ (i := 20) (N := some 39) (v := .bool b.f1.f2) (a' := ?ax89) #[bT,bT,bT,bT,bT,bT,bT,bT,bT,bT,bT,bT,bT,bT,bT,bT,bT,bT,bT,bT,bT,bF,bF,bF,bF,bF,bF,bF,bF,bF,bF,bF,bF] rfl rfl (by kernel_rfl) (fun _ _ _ h => h) (Or.inl ⟨by rfl, ?yy89⟩) hS ?ha89 ?hh89
       case yy89 => intro W hW; obtain ⟨i0, i1, i2, i3⟩ := cl4 hW.2.1; obtain ⟨k0, k1, k2, k3⟩ := cl4 hW.2.2; go_simp; done
       case ha89 => try simp only [Act.put, sA_, sZ_, sS_]; exact rfl
       refine take_ (i := 21) (N := some 40) (v := .bool b.f1.f2) (a' := ?ax90) #[bT,bT,bT,bT,bT,bT,bT,bT,bT,bT,bT,bT,bT,bT,bT,bT,bT,bT,bT,bT,bT,bT,bF,bF,bF,bF,bF,bF,bF,bF,bF,bF,bF] rfl rfl (by kernel_rfl) (fun _ _ _ h => h) (Or.inl ⟨by rfl, ?yy90⟩) hS ?ha90 ?hh90
       case yy90 => intro W hW; obtain ⟨i0, i1, i2, i3⟩ := cl4 hW.2.1; obtain ⟨k0, k1, k2, k3⟩ := cl4 hW.2.2; go_simp; done
       case ha90 => try simp only [Act.put, sA_, sZ_, sS_]; exact rfl
       generalize hf2 : b.f1.f2 = f2 at *
       cases f2 with
       | true =>
        refine take_ (i := 22) (N := some 41) (v := undef) (a' := ?ax91) #[bT,bT,bT,bT,bT,bT,bT,bT,bT,bT,bT,bT,bT,bT,bT,bT,bT,bT,bT,bT,bT,bT,bT,bF,bF,bF,bF,bF,bF,bF,bF,bF,bF] rfl rfl (by kernel_rfl) (fun _ _ _ h => h) (Or.inr ⟨by rfl, rfl⟩) hS ?ha91 ?hh91
        case ha91 => try simp only [Act.put, sA_, sZ_, sS_]; exact rfl
        refine take_ (i := 23) (N := some 42) (v := undef) (a' := ?ax92) #[bT,bT,bT,bT,bT,bT,bT,bT,bT,bT,bT,bT,bT,bT,bT,bT,bT,bT,bT,bT,bT,bT,bT,bT,bF,bF,bF,bF,bF,bF,bF,bF,bF] rfl rfl (by kernel_rfl) (fun _ _ _ h => h) (Or.inr ⟨by rfl, rfl⟩) hS ?ha92 ?hh92
        case ha92 => try simp only [Act.put, sA_, sZ_, sS_]; exact rfl
        refine take_ (i := 24) (N := some 43) (v := .bool true) (a' := ?ax93) #[bT,bT,bT,bT,bT,bT,bT,bT,bT,bT,bT,bT,bT,bT,bT,bT,bT,bT,bT,bT,bT,bT,bT,bT,bT,bF,bF,bF,bF,bF,bF,bF,bF] rfl rfl (by kernel_rfl) (fun _ _ _ h => h) (Or.inl ⟨by rfl, ?yy93⟩) hS ?ha93 ?hh93
        case yy93 => intro W hW; obtain ⟨i0, i1, i2, i3⟩ := cl4 hW.2.1; obtain ⟨k0, k1, k2, k3⟩ := cl4 hW.2.2; go_simp; done
        case ha93 => try simp only [Act.put, sA_, sZ_, sS_]; exact rfl
        refine take_ (i := 25) (N := some 44) (v := .bool true) (a' := ?ax94) #[bT,bT,bT,bT,bT,bT,bT,bT,bT,bT,bT,bT,bT,bT,bT,bT,bT,bT,bT,bT,bT,bT,bT,bT,bT,bT,bF,bF,bF,bF,bF,bF,bF] rfl rfl (by kernel_rfl) (fun _ _ _ h => h) (Or.inl ⟨by rfl, ?yy94⟩) hS ?ha94 ?hh94
        case yy94 => intro W hW; obtain ⟨i0, i1, i2, i3⟩ := cl4 hW.2.1; obtain ⟨k0, k1, k2, k3⟩ := cl4 hW.2.2; go_simp; done
        case ha94 => try simp only [Act.put, sA_, sZ_, sS_]; exact rfl
        refine take_ (i := 26) (N := some 45) (v := undef) (a' := ?ax95) #[bT,bT,bT,bT,bT,bT,bT,bT,bT,bT,bT,bT,bT,bT,bT,bT,bT,bT,bT,bT,bT,bT,bT,bT,bT,bT,bT,bF,bF,bF,bF,bF,bF] rfl rfl (by kernel_rfl) (fun _ _ _ h => h) (Or.inr ⟨by rfl, rfl⟩) hS ?ha95 ?hh95
        case ha95 => try simp only [Act.put, sA_, sZ_, sS_]; exact rfl
        refine take_ (i := 27) (N := some 46) (v := undef) (a' := ?ax96) #[bT,bT,bT,bT,bT,bT,bT,bT,bT,bT,bT,bT,bT,bT,bT,bT,bT,bT,bT,bT,bT,bT,bT,bT,bT,bT,bT,bT,bF,bF,bF,bF,bF] rfl rfl (by kernel_rfl) (fun _ _ _ h => h) (Or.inr ⟨by rfl, rfl⟩) hS ?ha96 ?hh96
        case ha96 => try simp only [Act.put, sA_, sZ_, sS_]; exact rfl
        refine take_ (i := 28) (N := some 47) (v := undef) (a' := ?ax97) #[bT,bT,bT,bT,bT,bT,bT,bT,bT,bT,bT,bT,bT,bT,bT,bT,bT,bT,bT,bT,bT,bT,bT,bT,bT,bT,bT,bT,bT,bF,bF,bF,bF] rfl rfl (by kernel_rfl) (fun _ _ _ h => h) (Or.inr ⟨by rfl, rfl⟩) hS ?ha97 ?hh97
        case ha97 => try simp only [Act.put, sA_, sZ_, sS_]; exact rfl
        refine take_ (i := 29) (N := some 48) (v := undef) (a' := ?ax98) #[bT,bT,bT,bT,bT,bT,bT,bT,bT,bT,bT,bT,bT,bT,bT,bT,bT,bT,bT,bT,bT,bT,bT,bT,bT,bT,bT,bT,bT,bT,bF,bF,bF] rfl rfl (by kernel_rfl) (fun _ _ _ h => h) (Or.inr ⟨by rfl, rfl⟩) hS ?ha98 ?hh98
        case ha98 => try simp only [Act.put, sA_, sZ_, sS_]; exact rfl
        refine take_ (i := 30) (N := some 49) (v := .bool true) (a' := ?ax99) #[bT,bT,bT,bT,bT,bT,bT,bT,bT,bT,bT,bT,bT,bT,bT,bT,bT,bT,bT,bT,bT,bT,bT,bT,bT,bT,bT,bT,bT,bT,bT,bF,bF] rfl rfl (by kernel_rfl) (fun _ _ _ h => h) (Or.inl ⟨by rfl, ?yy99⟩) hS ?ha99 ?hh99
        case yy99 => intro W hW; obtain ⟨i0, i1, i2, i3⟩ := cl4 hW.2.1; obtain ⟨k0, k1, k2, k3⟩ := cl4 hW.2.2; go_simp; done
        case ha99 => try simp only [Act.put, sA_, sZ_, sS_]; exact rfl
        refine take_ (i := 31) (N := some 50) (v := .bool true) (a' := ?ax100) #[bT,bT,bT,bT,bT,bT,bT,bT,bT,bT,bT,bT,bT,bT,bT,bT,bT,bT,bT,bT,bT,bT,bT,bT,bT,bT,bT,bT,bT,bT,bT,bT,bF] rfl rfl (by kernel_rfl) (fun _ _ _ h => h) (Or.inl ⟨by rfl, ?yy100⟩) hS ?ha100 ?hh100
        case yy100 => intro W hW; obtain ⟨i0, i1, i2, i3⟩ := cl4 hW.2.1; obtain ⟨k0, k1, k2, k3⟩ := cl4 hW.2.2; go_simp; done
        case ha100 => try simp only [Act.put, sA_, sZ_, sS_]; exact rfl
        refine take_ (i := 32) (N := some 4) (v := .bool true) (a' := ?ax101) #[bT,bT,bT,bT,bT,bT,bT,bT,bT,bT,bT,bT,bT,bT,bT,bT,bT,bT,bT,bT,bT,bT,bT,bT,bT,bT,bT,bT,bT,bT,bT,bT,bT] rfl rfl (by kernel_rfl) (fun _ _ _ h => h) (Or.inl ⟨by rfl, ?yy101⟩) hS ?ha101 ?hh101
        case yy101 => intro W hW; obtain ⟨i0, i1, i2, i3⟩ := cl4 hW.2.1; obtain ⟨k0, k1, k2, k3⟩ := cl4 hW.2.2; go_simp; done
        case ha101 => try simp only [Act.put, sA_, sZ_, sS_]; exact rfl
        refine done_ (by kernel_rfl) ?_
        go_wp2
        go_ret
        exact ⟨ret_b (by rw [HSQ.out, Bool.or_true, Bool.true_or]), hS.1⟩
       | false =>
        refine take_ (i := 22) (N := some 41) (v := .pointer (some ⟨g4, 3, none⟩)) (a' := ?ax102) #[bT,bT,bT,bT,bT,bT,bT,bT,bT,bT,bT,bT,bT,bT,bT,bT,bT,bT,bT,bT,bT,bT,bT,bF,bF,bF,bF,bF,bF,bF,bF,bF,bF] rfl rfl (by kernel_rfl) (fun _ _ _ h => h) (Or.inl ⟨by rfl, ?yy102⟩) hS ?ha102 ?hh102
        case yy102 => intro W hW; obtain ⟨i0, i1, i2, i3⟩ := cl4 hW.2.1; obtain ⟨k0, k1, k2, k3⟩ := cl4 hW.2.2; go_simp; done
        case ha102 => try simp only [Act.put, sA_, sZ_, sS_]; exact rfl
        refine take_ (i := 23) (N := some 42) (v := .bool b.f1.f3) (a' := ?ax103) #[bT,bT,bT,bT,bT,bT,bT,bT,bT,bT,bT,bT,bT,bT,bT,bT,bT,bT,bT,bT,bT,bT,bT,bT,bF,bF,bF,bF,bF,bF,bF,bF,bF] rfl rfl (by kernel_rfl) (fun _ _ _ h => h) (Or.inl ⟨by rfl, ?yy103⟩) hS ?ha103 ?hh103
        case yy103 => intro W hW; obtain ⟨i0, i1, i2, i3⟩ := cl4 hW.2.1; obtain ⟨k0, k1, k2, k3⟩ := cl4 hW.2.2; go_simp; done
        case ha103 => try simp only [Act.put, sA_, sZ_, sS_]; exact rfl
        refine take_ (i := 24) (N := some 43) (v := .bool b.f1.f3) (a' := ?ax104) #[bT,bT,bT,bT,bT,bT,bT,bT,bT,bT,bT,bT,bT,bT,bT,bT,bT,bT,bT,bT,bT,bT,bT,bT,bT,bF,bF,bF,bF,bF,bF,bF,bF] rfl rfl (by kernel_rfl) (fun _ _ _ h => h) (Or.inl ⟨by rfl, ?yy104⟩) hS ?ha104 ?hh104
        case yy104 => intro W hW; obtain ⟨i0, i1, i2, i3⟩ := cl4 hW.2.1; obtain ⟨k0, k1, k2, k3⟩ := cl4 hW.2.2; go_simp; done
        case ha104 => try simp only [Act.put, sA_, sZ_, sS_]; exact rfl
        generalize hf3 : b.f1.f3 = f3 at *
        cases f3 with
        | true =>
         refine take_ (i := 25) (N := some 44) (v := .bool true) (a' := ?ax105) #[bT,bT,bT,bT,bT,bT,bT,bT,bT,bT,bT,bT,bT,bT,bT,bT,bT,bT,bT,bT,bT,bT,bT,bT,bT,bT,bF,bF,bF,bF,bF,bF,bF] rfl rfl (by kernel_rfl) (fun _ _ _ h => h) (Or.inl ⟨by rfl, ?yy105⟩) hS ?ha105 ?hh105
         case yy105 => intro W hW; obtain ⟨i0, i1, i2, i3⟩ := cl4 hW.2.1; obtain ⟨k0, k1, k2, k3⟩ := cl4 hW.2.2; go_simp; done
         case ha105 => try simp only [Act.put, sA_, sZ_, sS_]; exact rfl
         refine take_ (i := 26) (N := some 45) (v := undef) (a' := ?ax106) #[bT,bT,bT,bT,bT,bT,bT,bT,bT,bT,bT,bT,bT,bT,bT,bT,bT,bT,bT,bT,bT,bT,bT,bT,bT,bT,bT,bF,bF,bF,bF,bF,bF] rfl rfl (by kernel_rfl) (fun _ _ _ h => h) (Or.inr ⟨by rfl, rfl⟩) hS ?ha106 ?hh106
         case ha106 => try simp only [Act.put, sA_, sZ_, sS_]; exact rfl
         refine take_ (i := 27) (N := some 46) (v := undef) (a' := ?ax107) #[bT,bT,bT,bT,bT,bT,bT,bT,bT,bT,bT,bT,bT,bT,bT,bT,bT,bT,bT,bT,bT,bT,bT,bT,bT,bT,bT,bT,bF,bF,bF,bF,bF] rfl rfl (by kernel_rfl) (fun _ _ _ h => h) (Or.inr ⟨by rfl, rfl⟩) hS ?ha107 ?hh107
         case ha107 => try simp only [Act.put, sA_, sZ_, sS_]; exact rfl
         refine take_ (i := 28) (N := some 47) (v := undef) (a' := ?ax108) #[bT,bT,bT,bT,bT,bT,bT,bT,bT,bT,bT,bT,bT,bT,bT,bT,bT,bT,bT,bT,bT,bT,bT,bT,bT,bT,bT,bT,bT,bF,bF,bF,bF] rfl rfl (by kernel_rfl) (fun _ _ _ h => h) (Or.inr ⟨by rfl, rfl⟩) hS ?ha108 ?hh108
         case ha108 => try simp only [Act.put, sA_, sZ_, sS_]; exact rfl
         refine take_ (i := 29) (N := some 48) (v := undef) (a' := ?ax109) #[bT,bT,bT,bT,bT,bT,bT,bT,bT,bT,bT,bT,bT,bT,bT,bT,bT,bT,bT,bT,bT,bT,bT,bT,bT,bT,bT,bT,bT,bT,bF,bF,bF] rfl rfl (by kernel_rfl) (fun _ _ _ h => h) (Or.inr ⟨by rfl, rfl⟩) hS ?ha109 ?hh109
         case ha109 => try simp only [Act.put, sA_, sZ_, sS_]; exact rfl
         refine take_ (i := 30) (N := some 49) (v := .bool true) (a' := ?ax110) #[bT,bT,bT,bT,bT,bT,bT,bT,bT,bT,bT,bT,bT,bT,bT,bT,bT,bT,bT,bT,bT,bT,bT,bT,bT,bT,bT,bT,bT,bT,bT,bF,bF] rfl rfl (by kernel_rfl) (fun _ _ _ h => h) (Or.inl ⟨by rfl, ?yy110⟩) hS ?ha110 ?hh110
         case yy110 => intro W hW; obtain ⟨i0, i1, i2, i3⟩ := cl4 hW.2.1; obtain ⟨k0, k1, k2, k3⟩ := cl4 hW.2.2; go_simp; done
         case ha110 => try simp only [Act.put, sA_, sZ_, sS_]; exact rfl
         refine take_ (i := 31) (N := some 50) (v := .bool true) (a' := ?ax111) #[bT,bT,bT,bT,bT,bT,bT,bT,bT,bT,bT,bT,bT,bT,bT,bT,bT,bT,bT,bT,bT,bT,bT,bT,bT,bT,bT,bT,bT,bT,bT,bT,bF] rfl rfl (by kernel_rfl) (fun _ _ _ h => h) (Or.inl ⟨by rfl, ?yy111⟩) hS ?ha111 ?hh111
         case yy111 => intro W hW; obtain ⟨i0, i1, i2, i3⟩ := cl4 hW.2.1; obtain ⟨k0, k1, k2, k3⟩ := cl4 hW.2.2; go_simp; done
         case ha111 => try simp only [Act.put, sA_, sZ_, sS_]; exact rfl
         refine take_ (i := 32) (N := some 4) (v := .bool true) (a' := ?ax112) #[bT,bT,bT,bT,bT,bT,bT,bT,bT,bT,bT,bT,bT,bT,bT,bT,bT,bT,bT,bT,bT,bT,bT,bT,bT,bT,bT,bT,bT,bT,bT,bT,bT] rfl rfl (by kernel_rfl) (fun _ _ _ h => h) (Or.inl ⟨by rfl, ?yy112⟩) hS ?ha112 ?hh112
         case yy112 => intro W hW; obtain ⟨i0, i1, i2, i3⟩ := cl4 hW.2.1; obtain ⟨k0, k1, k2, k3⟩ := cl4 hW.2.2; go_simp; done
         case ha112 => try simp only [Act.put, sA_, sZ_, sS_]; exact rfl
         refine done_ (by kernel_rfl) ?_
         go_wp2
         go_ret
         exact ⟨ret_b (by rw [HSQ.out, Bool.or_true]), hS.1⟩
        | false =>
         refine take_ (i := 25) (N := some 44) (v := .bool false) (a' := ?ax113) #[bT,bT,bT,bT,bT,bT,bT,bT,bT,bT,bT,bT,bT,bT,bT,bT,bT,bT,bT,bT,bT,bT,bT,bT,bT,bT,bF,bF,bF,bF,bF,bF,bF] rfl rfl (by kernel_rfl) (fun _ _ _ h => h) (Or.inl ⟨by rfl, ?yy113⟩) hS ?ha113 ?hh113
         case yy113 => intro W hW; obtain ⟨i0, i1, i2, i3⟩ := cl4 hW.2.1; obtain ⟨k0, k1, k2, k3⟩ := cl4 hW.2.2; go_simp; done
         case ha113 => try simp only [Act.put, sA_, sZ_, sS_]; exact rfl
         refine take_ (i := 26) (N := some 45) (v := .pointer (some ⟨g4, 1, none⟩)) (a' := ?ax114) #[bT,bT,bT,bT,bT,bT,bT,bT,bT,bT,bT,bT,bT,bT,bT,bT,bT,bT,bT,bT,bT,bT,bT,bT,bT,bT,bT,bF,bF,bF,bF,bF,bF] rfl rfl (by kernel_rfl) (fun _ _ _ h => h) (Or.inl ⟨by rfl, ?yy114⟩) hS ?ha114 ?hh114
         case yy114 => intro W hW; obtain ⟨i0, i1, i2, i3⟩ := cl4 hW.2.1; obtain ⟨k0, k1, k2, k3⟩ := cl4 hW.2.2; go_simp; done
         case ha114 => try simp only [Act.put, sA_, sZ_, sS_]; exact rfl
         refine take_ (i := 27) (N := some 46) (v := .slice A4 b.f1.f1.length c4) (a' := ?ax115) #[bT,bT,bT,bT,bT,bT,bT,bT,bT,bT,bT,bT,bT,bT,bT,bT,bT,bT,bT,bT,bT,bT,bT,bT,bT,bT,bT,bT,bF,bF,bF,bF,bF] rfl rfl (by kernel_rfl) (fun _ _ _ h => h) (Or.inl ⟨by rfl, ?yy115⟩) hS ?ha115 ?hh115
         case yy115 => intro W hW; obtain ⟨i0, i1, i2, i3⟩ := cl4 hW.2.1; obtain ⟨k0, k1, k2, k3⟩ := cl4 hW.2.2; go_simp; done
         case ha115 => try simp only [Act.put, sA_, sZ_, sS_]; exact rfl
         refine take_ (i := 28) (N := some 47) (v := .int .i64 b.f1.f1.length) (a' := ?ax116) #[bT,bT,bT,bT,bT,bT,bT,bT,bT,bT,bT,bT,bT,bT,bT,bT,bT,bT,bT,bT,bT,bT,bT,bT,bT,bT,bT,bT,bT,bF,bF,bF,bF] rfl rfl (by kernel_rfl) (fun _ _ _ h => h) (Or.inl ⟨by rfl, ?yy116⟩) hS ?ha116 ?hh116
         case yy116 => intro W hW; obtain ⟨i0, i1, i2, i3⟩ := cl4 hW.2.1; obtain ⟨k0, k1, k2, k3⟩ := cl4 hW.2.2; go_simp; done
         case ha116 => try simp only [Act.put, sA_, sZ_, sS_]; exact rfl
         refine take_ (i := 29) (N := some 48) (v := .bool (decide (0 < (b.f1.f1.length : Int)))) (a' := ?ax117) #[bT,bT,bT,bT,bT,bT,bT,bT,bT,bT,bT,bT,bT,bT,bT,bT,bT,bT,bT,bT,bT,bT,bT,bT,bT,bT,bT,bT,bT,bT,bF,bF,bF] rfl rfl (by kernel_rfl) (fun _ _ _ h => h) (Or.inl ⟨by rfl, ?yy117⟩) hS ?ha117 ?hh117
         case yy117 => intro W hW; obtain ⟨i0, i1, i2, i3⟩ := cl4 hW.2.1; obtain ⟨k0, k1, k2, k3⟩ := cl4 hW.2.2; go_simp; done
         case ha117 => try simp only [Act.put, sA_, sZ_, sS_]; exact rfl
         refine take_ (i := 30) (N := some 49) (v := .bool (decide (0 < (b.f1.f1.length : Int)))) (a' := ?ax118) #[bT,bT,bT,bT,bT,bT,bT,bT,bT,bT,bT,bT,bT,bT,bT,bT,bT,bT,bT,bT,bT,bT,bT,bT,bT,bT,bT,bT,bT,bT,bT,bF,bF] rfl rfl (by kernel_rfl) (fun _ _ _ h => h) (Or.inl ⟨by rfl, ?yy118⟩) hS ?ha118 ?hh118
         case yy118 => intro W hW; obtain ⟨i0, i1, i2, i3⟩ := cl4 hW.2.1; obtain ⟨k0, k1, k2, k3⟩ := cl4 hW.2.2; go_simp; done
         case ha118 => try simp only [Act.put, sA_, sZ_, sS_]; exact rfl
         refine take_ (i := 31) (N := some 50) (v := .bool (decide (0 < (b.f1.f1.length : Int)))) (a' := ?ax119) #[bT,bT,bT,bT,bT,bT,bT,bT,bT,bT,bT,bT,bT,bT,bT,bT,bT,bT,bT,bT,bT,bT,bT,bT,bT,bT,bT,bT,bT,bT,bT,bT,bF] rfl rfl (by kernel_rfl) (fun _ _ _ h => h) (Or.inl ⟨by rfl, ?yy119⟩) hS ?ha119 ?hh119
         case yy119 => intro W hW; obtain ⟨i0, i1, i2, i3⟩ := cl4 hW.2.1; obtain ⟨k0, k1, k2, k3⟩ := cl4 hW.2.2; go_simp; done
         case ha119 => try simp only [Act.put, sA_, sZ_, sS_]; exact rfl
         refine take_ (i := 32) (N := some 4) (v := .bool (decide (0 < (b.f1.f1.length : Int)))) (a' := ?ax120) #[bT,bT,bT,bT,bT,bT,bT,bT,bT,bT,bT,bT,bT,bT,bT,bT,bT,bT,bT,bT,bT,bT,bT,bT,bT,bT,bT,bT,bT,bT,bT,bT,bT] rfl rfl (by kernel_rfl) (fun _ _ _ h => h) (Or.inl ⟨by rfl, ?yy120⟩) hS ?ha120 ?hh120
         case yy120 => intro W hW; obtain ⟨i0, i1, i2, i3⟩ := cl4 hW.2.1; obtain ⟨k0, k1, k2, k3⟩ := cl4 hW.2.2; go_simp; done
         case ha120 => try simp only [Act.put, sA_, sZ_, sS_]; exact rfl
         refine done_ (by kernel_rfl) ?_
         go_wp2
         go_ret
         exact ⟨ret_b (by rw [HSQ.out, Bool.or_false, Bool.or_false]; exact decide_eq_decide.2 (by omega)), hS.1⟩
end Go.Proofs.Ytbfialebaoeicaa.X
