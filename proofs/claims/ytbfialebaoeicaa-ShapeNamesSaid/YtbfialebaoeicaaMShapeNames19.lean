/- Part 20 of the proof of the statement ShapeNames: the words of the walks, the walks through the functions that it reaches, and the plain laws of what they compute. -/
import Derived.Test.YtbfialebaoeicaaMShapeNames18
import Derived.RegionTactic
import Derived.ChangeAlike
import Derived.Deep.QuietTactic
import Derived.BigQuiet
import Derived.Deep.MidRow
namespace Go.Proofs.Ytbfialebaoeicaa.X
open Go.RowKit Go.Proofs.YtbfialebaoeicaaW.PrintWords Go.Proofs.YtbfialebaoeicaaW.PrintLast Go.Proofs.YtbfialebaoeicaaW.PrintMore
set_option linter.all false
theorem infoBo : (Try.prog.info? 4).map (fun i => (i.zero, i.size, i.bytes)) = some (some (.bool false), 1, 1) := by kernel_rfl
set_option maxHeartbeats 16000000 in
set_option maxRecDepth 100000 in
theorem cleans0_c (f : S27) (A1 : Option Addr) (c1 : Nat) (w : World) (hC : Kd.C k41 w A1 f.f2.length f.f2) (hn : f.f2.length ≤ 1000000) (hl : ∀ b ∈ f.f2, b.f0 = false) :
  Calls Try.prog 20 #[.agg #[.int .i64 f.f0, .int .i64 f.f1, .slice A1 f.f2.length c1]] w fun e w' => (∃ A c, e = .returned (.slice A f.f2.length c)) ∧ Below w.heap.size w w' := by
 have HC := Aside0.mk hC
 have HN := Aside0.mk hn
 have HL := Aside0.mk hl
 clear hC hn hl
 have hu27 := Try.underlying27
 have hu41 := Try.underlying41
 have hu35 := Try.underlying35
 go_enter Try.func20, Try.ntmps20
 go_wp2_with (first | ((with_reducible refine gate_dst (N := 1) rfl ?_); refine box_event ?hg (N := 1) ?hd (cs := #[.int .i64 f.f0, .int .i64 f.f1, .slice A1 f.f2.length c1]) (t := 27) ?hr ?_; (case hd => rfl); (case hg => rfl); (case hr => first | (go_simp; done) | (go_simp; rfl)); intro g1 hg w1 hbox hb; have HLX1 := Aside0.mk (show w.heap.size ≤ g1 by rw [hg]; exact Nat.le_refl _); have HB := Aside0.mk hb; have X1 := Aside0.mk hbox; clear hbox hb hg; obtain ⟨h0, h1, h2⟩ := cl3 X1.out; obtain ⟨zh0, zh1, zh2⟩ := fz3 X1.out) | ((with_reducible refine gate_dst (N := 11) rfl ?_); refine Kd.R_make Kd.bool w1.heap.size 4 rfl (N := 11) rfl 31 (.tmp 10) (.tmp 10) rfl (f.f2.length : Int) rfl rfl Try.underlying31 _ _ infoBo rfl (Nat.succ_pos _) (by omega) false (ok := fun _ => True) (okp := fun _ => True) rfl (fun _ h => h) trivial (by omega) (by have := HN.out; simp; omega) (Below.refl _ _) (Nat.le_refl _) ?_; intro v11 w11 hr hb hg hnew; obtain ⟨AO, cO, he, hl_, _⟩ := Kd.R_reads hr; rw [List.length_replicate, Int.toNat_natCast] at he; subst he; clear h0 zh0 h1 zh1 h2 zh2; replace HB := Aside0.mk (below_step HB.out hb); replace X1 := Aside0.mk (blk_below X1.out hb); clear hr hb hg hnew hl_; obtain ⟨h0, h1, h2⟩ := cl3 X1.out; obtain ⟨zh0, zh1, zh2⟩ := fz3 X1.out))
 clear h0 zh0 h1 zh1 h2 zh2
 go_loopg [4, 15] 1000000 (fun gg s4 s wr => ∃ x : Int, s4 = .slice none 0 0 ∧ s = .int .i64 x ∧ Aside0 (0 ≤ x ∧ x ≤ f.f2.length ∧ (f.f2.length : Int) - x ≤ gg) ∧ Aside0 (Below w.heap.size w wr) ∧ Aside0 (wr.heap[g1]? = some (.cells #[.int .i64 f.f0, .int .i64 f.f1, .slice A1 f.f2.length c1] 27 (0, 0))))
 case atStart => exact ⟨0, rfl, rfl, ⟨by have := HN.out; omega⟩, HB, X1⟩
 case round =>
  clear HB X1
  obtain ⟨x, rfl, rfl, HX, HB, X1⟩ := hrel
  obtain ⟨h0, h1, h2⟩ := cl3 X1.out
  by_cases hlt : x < (f.f2.length : Int)
  rotate_left
  ·have hd : decide (x < (f.f2.length : Int)) = false := decide_eq_false hlt
   clear hlt
   go_wp2
   clear h0 h1 h2
   go_loopg [4] 1 (fun gg s wr => s = .slice none 0 0 ∧ Aside0 (Below w.heap.size w wr))
   case atStart => exact ⟨rfl, HB⟩
   case round =>
    clear HB X1
    obtain ⟨rfl, HB⟩ := hrel
    go_wp2
    go_ret
    exact ⟨⟨_, _, rfl⟩, HB.out⟩
  have hd : decide (x < (f.f2.length : Int)) = true := decide_eq_true hlt
  have HLT := Aside0.mk hlt
  clear hlt
  have p1 : (0 ≤ x) = True := eq_true HX.out.1
  have p2 : (x < (f.f2.length : Int)) = True := eq_true HLT.out
  obtain ⟨ad, A4, c4, A5, c5, A6, c6, e1, y0, y1, y2, y3, y4, y5, y6, y7, y8, y9, y10, y11, y12, y13, _⟩ := at_T41 (Kd.C_below HC.out HB.out) x HX.out.1 HLT.out
  subst e1
  rw [HL.out _ (show rd_T41 f.f2 x ∈ f.f2 from rd_mem' f.f2 z41 x HX.out.1 HLT.out)] at y0
  generalize rd_T41 f.f2 x = b at *
  go_upto_region 5 with (fail)
  go_cut [6, 15] from 15 to 31 (fun v6 v15 wc => ∃ g6 : Nat, v6 = .pointer (some ⟨g6, 0, none⟩) ∧ v15 = .int .i64 x ∧ Aside0 (Below w.heap.size w wc) ∧ Aside0 (wc.heap[g1]? = some (.cells #[.int .i64 f.f0, .int .i64 f.f1, .slice (some ad) f.f2.length c1] 27 (0, 0))) ∧ Aside0 (wc.heap[g6]? = some (.cells #[.bool false, .int .i64 b.f1.f0, .slice A4 b.f1.f1.length c4, .bool b.f1.f2, .bool b.f1.f3, .slice A5 b.f2.length c5, .int .i64 b.f3.f0, .int .i64 b.f3.f1, .int .i64 b.f3.f2, .int .i64 b.f3.f3, .slice A6 b.f3.f4.length c6, .int .i64 b.f3.f5, .int .i64 b.f3.f6, .int .i64 b.f3.f7] 41 (0, 0))))
  case first => go_wp2; go_meet; exact ⟨_, rfl, rfl, ⟨below_alloc HB.out _⟩, ⟨blk_alloc X1.out _⟩, ⟨blk_new _ _⟩⟩
  case rest =>
   clear y0 y1 y2 y3 y4 y5 y6 y7 y8 y9 y10 y11 y12 y13
   clear h0 h1 h2
   clear HB X1 p1 p2 hd
   obtain ⟨g6, rfl, rfl, HB, X1, X6⟩ := hcut
   obtain ⟨e0, e1, e2, e3, e4, e5, e6, e7, e8, e9, e10, e11, e12, e13⟩ := cl14 X6.out
   go_wp2
   have W1 := Aside0.mk (show wrap64 (x + 1) = x + 1 from wrap_in _ (by have := HX.out; omega) (by have := HLT.out; have := HN.out; omega))
   go_roundg ((f.f2.length : Int) - (x + 1)).toNat
   case measure => have h1_ := HX.out; have h2_ := HLT.out; omega
   case rel => exact ⟨x + 1, rfl, by first | (rw [W1.out]; done) | rfl | (simp only [W1.out]; done), ⟨by have := HX.out; have := HLT.out; omega⟩, HB, X1⟩
end Go.Proofs.Ytbfialebaoeicaa.X
namespace Go.Proofs.Ytbfialebaoeicaa.X
open Go.RowKit Go.Proofs.YtbfialebaoeicaaW.PrintWords Go.Proofs.YtbfialebaoeicaaW.PrintLast Go.Proofs.YtbfialebaoeicaaW.PrintMore
set_option linter.all false
theorem S_seg0 {α : Type} {d : Kd α} {e g n cap : Nat} {W : World} {base : Nat} {ok oki okp : Nat → Prop} {xs : List α} {i : Int} {c : List Value} (hH : Kd.H d e W base ok (.slice (some ⟨g, 0, none⟩) n cap) xs i oki c) (h0 : 0 ≤ i) (h1 : i < n) {u : Value} {j : Nat} (hj : j + 1 ≤ d.sz) {x' : α} (hM : d.M W base okp x' (c.take j ++ [u] ++ c.drop (j + 1))) (hokp : ∀ k, okp k → oki k) :
  Kd.S d e (W.setCell ⟨g, i.toNat * d.sz + j, none⟩ u) base ok (.slice (some ⟨g, 0, none⟩) n cap) (xs.set i.toNat x') := by
 have hH' : Kd.H d e W base (fun k => ok k ∧ ¬ (fun _ => False) k) (.slice (some ⟨g, 0, none⟩) n cap) xs i oki c := by
  rw [show (fun k => ok k ∧ ¬ (fun _ => False) k) = ok from funext fun k => by simp]
  exact hH
 exact (Kd.S_seg (d := d) (okg := fun _ => False) (seg := [u]) hH' h0 h1 hj hM (fun k hk => .inl (hokp k hk)) (fun _ hk => hk.elim)).1
theorem SM_reg {w : World} {base : Nat} {ok : Nat → Prop} {g0 n c : Nat} {m : List S27} (h : Kd.S sF 27 w base ok (.slice (some ⟨g0, 0, none⟩) n c) m) (x : Int) (h0 : 0 ≤ x) (h1 : x < (n : Int)) (r : Int) : w.cell? ⟨g0, x.toNat * 3 + 1, none⟩ = some (.int .i64 (rd_T27 m x).f1) ∧ w.frozen? ⟨g0, x.toNat * 3 + 1, none⟩ = false ∧
  Kd.S sF 27 (w.setCell ⟨g0, x.toNat * 3 + 1, none⟩ (.int .i64 r)) base ok (.slice (some ⟨g0, 0, none⟩) n c) (m.set x.toNat ⟨(rd_T27 m x).f0, r, (rd_T27 m x).f2⟩) := by
 obtain ⟨oki, c1, hcl, hM, hcc, hfr, hok, hH⟩ := Kd.S_elem h z27 x h0 h1
 obtain ⟨v2, rfl, hS⟩ := hM
 exact ⟨hcc 1 _ rfl, hfr 1, S_seg0 (d := sF) hH h0 h1 (j := 1) (by decide) ⟨v2, rfl, hS⟩ (fun _ h => h)⟩
theorem SM_block {w : World} {base : Nat} {ok : Nat → Prop} {g0 n c : Nat} {m : List S27} (h : Kd.S sF 27 w base ok (.slice (some ⟨g0, 0, none⟩) n c) m) (x y : Int) (h0 : 0 ≤ x) (h1 : x < (n : Int)) (h2 : 0 ≤ y) (h3 : y < ((rd_T27 m x).f2.length : Int)) {b : S41} (hb : (rd_T41 (rd_T27 m x).f2 y) = b) : ∃ (gb c2 : Nat),
  (w.cell? ⟨g0, x.toNat * 3 + 1, none⟩ = some (.int .i64 (rd_T27 m x).f1) ∧ w.cell? ⟨g0, x.toNat * 3 + 2, none⟩ = some (.slice (some ⟨gb, 0, none⟩) (rd_T27 m x).f2.length c2)) ∧ (base ≤ gb ∧ gb < w.heap.size ∧ ok gb) ∧
  (w.cell? ⟨gb, y.toNat * 14, none⟩ = some (.bool b.f0) ∧ w.cell? ⟨gb, y.toNat * 14 + 1, none⟩ = some (.int .i64 b.f1.f0) ∧ w.cell? ⟨gb, y.toNat * 14 + 3, none⟩ = some (.bool b.f1.f2) ∧ w.cell? ⟨gb, y.toNat * 14 + 4, none⟩ = some (.bool b.f1.f3) ∧ w.cell? ⟨gb, y.toNat * 14 + 6, none⟩ = some (.int .i64 b.f3.f0) ∧ w.cell? ⟨gb, y.toNat * 14 + 7, none⟩ = some (.int .i64 b.f3.f1) ∧ w.cell? ⟨gb, y.toNat * 14 + 8, none⟩ = some (.int .i64 b.f3.f2) ∧ w.cell? ⟨gb, y.toNat * 14 + 9, none⟩ = some (.int .i64 b.f3.f3) ∧ w.cell? ⟨gb, y.toNat * 14 + 11, none⟩ = some (.int .i64 b.f3.f5) ∧ w.cell? ⟨gb, y.toNat * 14 + 12, none⟩ = some (.int .i64 b.f3.f6) ∧ w.cell? ⟨gb, y.toNat * 14 + 13, none⟩ = some (.int .i64 b.f3.f7)) ∧ (∀ j, w.frozen? ⟨gb, y.toNat * 14 + j, none⟩ = false) ∧ (∀ v, Kd.S sF 27 (w.setCell ⟨gb, y.toNat * 14 + 11, none⟩ (.int .i64 v)) base ok (.slice (some ⟨g0, 0, none⟩) n c) (putB m x y (setTo b v))) ∧ (∀ v, Kd.S sF 27 (w.setCell ⟨gb, y.toNat * 14 + 9, none⟩ (.int .i64 v)) base ok (.slice (some ⟨g0, 0, none⟩) n c) (putB m x y (setF b v))) ∧ (∀ v, Kd.S sF 27 (w.setCell ⟨gb, y.toNat * 14 + 7, none⟩ (.int .i64 v)) base ok (.slice (some ⟨g0, 0, none⟩) n c) (putB m x y (setA b v))) ∧ (∀ v, Kd.S sF 27 (w.setCell ⟨gb, y.toNat * 14 + 1, none⟩ (.int .i64 v)) base ok (.slice (some ⟨g0, 0, none⟩) n c) (putB m x y (setDst b v))) := by
 obtain ⟨oki, c1, hcl, hM, hcc, hok, hH⟩ := Kd.S_lend h z27 x h0 h1
 obtain ⟨v2, rfl, hS⟩ := hM
 have hS' : Kd.S sB 41 w base oki v2 (rd_T27 m x).f2 := hS
 obtain ⟨gb, c2, rfl, hg0, hg1, _⟩ := Kd.S_form hS' (by omega)
 have hgk : oki gb := (Kd.S_R hS').1 gb rfl
 obtain ⟨okB, cB, hclB, hMB, hccB, hfrB, hokB, hHB⟩ := Kd.S_elem hS' z41 y h2 h3
 rw [show (rd_T27 m x).f2.getD y.toNat z41 = b from hb] at hMB
 obtain ⟨v4, v5, v10, t_, rfl, hR⟩ := hMB
 have key : ∀ (o : Nat) (u : Value) (b' : S41), o + 1 ≤ 14 → sB.M w base okB b' ((([.bool b.f0, .int .i64 b.f1.f0, v4, .bool b.f1.f2, .bool b.f1.f3, v5, .int .i64 b.f3.f0, .int .i64 b.f3.f1, .int .i64 b.f3.f2, .int .i64 b.f3.f3, v10, .int .i64 b.f3.f5, .int .i64 b.f3.f6, .int .i64 b.f3.f7] : List Value).take o ++ [u] ++ ([.bool b.f0, .int .i64 b.f1.f0, v4, .bool b.f1.f2, .bool b.f1.f3, v5, .int .i64 b.f3.f0, .int .i64 b.f3.f1, .int .i64 b.f3.f2, .int .i64 b.f3.f3, v10, .int .i64 b.f3.f5, .int .i64 b.f3.f6, .int .i64 b.f3.f7] : List Value).drop (o + 1))) → Kd.S sF 27 (w.setCell ⟨gb, y.toNat * 14 + o, none⟩ u) base ok (.slice (some ⟨g0, 0, none⟩) n c) (putB m x y b') := by
  intro o u b' ho hMn
  have hn := S_seg0 (d := sB) hHB h2 h3 (u := u) (j := o) ho (x' := b') hMn (fun _ h => h)
  have hH2 := Kd.H_step (w1 := w.setCell ⟨gb, y.toNat * 14 + o, none⟩ u) hH (fun k _ hk _ => Below.heap_setCell _ _ _ k (fun e => hk (e ▸ hgk)))
  exact Kd.H_back hH2 (x' := ⟨(rd_T27 m x).f0, (rd_T27 m x).f1, (rd_T27 m x).f2.set y.toNat b'⟩) (okp := oki) ⟨.slice (some ⟨gb, 0, none⟩) (rd_T27 m x).f2.length c2, rfl, hn⟩ (fun _ h => h)
 exact ⟨gb, c2, ⟨hcc 1 _ rfl, hcc 2 _ rfl⟩, ⟨hg0, hg1, (hok gb hgk).1⟩, ⟨hccB 0 _ rfl, hccB 1 _ rfl, hccB 3 _ rfl, hccB 4 _ rfl, hccB 6 _ rfl, hccB 7 _ rfl, hccB 8 _ rfl, hccB 9 _ rfl, hccB 11 _ rfl, hccB 12 _ rfl, hccB 13 _ rfl⟩, hfrB, fun v => key 11 _ (setTo b v) (by omega) ⟨v4, v5, v10, t_, rfl, hR⟩, fun v => key 9 _ (setF b v) (by omega) ⟨v4, v5, v10, t_, rfl, hR⟩, fun v => key 7 _ (setA b v) (by omega) ⟨v4, v5, v10, t_, rfl, hR⟩, fun v => key 1 _ (setDst b v) (by omega) ⟨v4, v5, v10, t_, rfl, hR⟩⟩
theorem bnd_put {m : List S27} (h : Bnd m) {x y : Int} {b b' : S41} (h0 : 0 ≤ x) (h1 : x < (m.length : Int)) (h2 : 0 ≤ y) (h3 : y < ((rd_T27 m x).f2.length : Int)) (hb : (rd_T41 (rd_T27 m x).f2 y) = b) (e1 : b'.f2 = b.f2) (e2 : b'.f1.f1 = b.f1.f1) (e3 : b'.f3.f4 = b.f3.f4) : Bnd (putB m x y b') := by
 have hF := h.f _ (show rd_T27 m x ∈ m from rd_mem' m z27 x h0 h1)
 have hbm : b ∈ (rd_T27 m x).f2 := by rw [← hb]; exact rd_mem' _ z41 y h2 h3
 have hset : ∀ b'' ∈ (rd_T27 m x).f2.set y.toNat b', b'' ∈ (rd_T27 m x).f2 ∨ b'' = b' := fun b'' hb'' => List.mem_or_eq_of_mem_set hb''
 refine ⟨by rw [putB_len]; exact h.nf, fun f hf => ?_⟩
 rcases List.mem_or_eq_of_mem_set (show f ∈ m.set x.toNat _ from hf) with hf | rfl
 ·exact h.f f hf
 ·refine ⟨by show ((rd_T27 m x).f2.set y.toNat b').length ≤ _; rw [List.length_set]; exact hF.nb, fun b'' hb'' => ?_, fun b'' hb'' => ?_, fun b'' hb'' => ?_, fun b'' hb'' => ?_⟩ <;> rcases hset b'' hb'' with hb'' | rfl
  ·exact hF.ni b'' hb''
  ·rw [e1]; exact hF.ni b hbm
  ·exact hF.nc b'' hb''
  ·rw [e2]; exact hF.nc b hbm
  ·exact hF.ne b'' hb''
  ·rw [e3]; exact hF.ne b hbm
  ·exact hF.na b'' hb''
  ·rw [e1]; exact hF.na b hbm
end Go.Proofs.Ytbfialebaoeicaa.X
namespace Go.Proofs.Ytbfialebaoeicaa.X
open Go.RowKit Go.Proofs.YtbfialebaoeicaaW.PrintWords Go.Proofs.YtbfialebaoeicaaW.PrintLast Go.Proofs.YtbfialebaoeicaaW.PrintMore
attribute [local go_sem] max2_int min2_int max_two min_two max_three min_three max_four min_four
set_option linter.all false
noncomputable section
def shape_Goals.j0 : Nat → Int → Bool → Bool → Int → List Int → Bool → Bool → List (S49) → Int → Int → Int → Int → List Int → Int → Int → Int → Option (List Int)
 | 0, _, _, _, _, _, _, _, _, _, _, _, _, _, _, _, _ => none
 | k + 1, x5, x6, x107000, x107001, x107002, x107003, x107004, x107005, x107006, x107007, x107008, x107009, x107010, x107011, x107012, x107013 => if x6 = true then (some (([x107011] : List Int))) else (if x5 = 3 then (some (([x107011, x107012] : List Int))) else (some ([] : List Int)))
def shape_Goals.f (k : Nat) (a0_0 : Bool) (a0_1 : Int) (l0_2 : List Int) (a0_3 : Bool) (a0_4 : Bool) (l0_5 : List (S49)) (a0_6 : Int) (a0_7 : Int) (a0_8 : Int) (a0_9 : Int) (l0_10 : List Int) (a0_11 : Int) (a0_12 : Int) (a0_13 : Int) : Option (List Int) := if a0_6 = 2 then (shape_Goals.j0 k a0_6 (a0_6 == 2) a0_0 a0_1 l0_2 a0_3 a0_4 l0_5 a0_6 a0_7 a0_8 a0_9 l0_10 a0_11 a0_12 a0_13) else (shape_Goals.j0 k a0_6 (a0_6 == 4) a0_0 a0_1 l0_2 a0_3 a0_4 l0_5 a0_6 a0_7 a0_8 a0_9 l0_10 a0_11 a0_12 a0_13)
theorem shape_Goals.mono_l : ∀ k, (∀ y0 y1 y2 y3 y4 y5 y6 y7 y8 y9 y10 y11 y12 y13 y14 y15, LeO (shape_Goals.j0 k y0 y1 y2 y3 y4 y5 y6 y7 y8 y9 y10 y11 y12 y13 y14 y15) (shape_Goals.j0 (k + 1) y0 y1 y2 y3 y4 y5 y6 y7 y8 y9 y10 y11 y12 y13 y14 y15))
 | 0 => fun _ _ _ _ _ _ _ _ _ _ _ _ _ _ _ _ r h => by simp [shape_Goals.j0] at h
 | k + 1 => by
  have ih0 := shape_Goals.mono_l k
  ·intro y0 y1 y2 y3 y4 y5 y6 y7 y8 y9 y10 y11 y12 y13 y14 y15
   unfold shape_Goals.j0
   repeat' first
   | (with_reducible exact ih0 _ _ _ _ _ _ _ _ _ _ _ _ _ _ _ _)
   | (with_reducible exact LeO.refl _)
   | (with_reducible exact LeO.none _)
   | (with_reducible refine LeO.ite ?_ ?_)
   | (with_reducible refine LeO.bind ?_ (fun _ => ?_))
   | exact ih0 _ _ _ _ _ _ _ _ _ _ _ _ _ _ _ _
   | exact LeO.none _
   | refine LeO.ite ?_ ?_
   | refine LeO.bind ?_ (fun _ => ?_)
theorem shape_Goals.mono : ∀ a0 a1 a2 a3 a4 a5 a6 a7 a8 a9 a10 a11 a12 a13 k, LeO (shape_Goals.f k a0 a1 a2 a3 a4 a5 a6 a7 a8 a9 a10 a11 a12 a13) (shape_Goals.f (k + 1) a0 a1 a2 a3 a4 a5 a6 a7 a8 a9 a10 a11 a12 a13) := by
 intro a0 a1 a2 a3 a4 a5 a6 a7 a8 a9 a10 a11 a12 a13 k
 have ih0 := shape_Goals.mono_l k
 unfold shape_Goals.f
 repeat' first
   | (with_reducible exact ih0 _ _ _ _ _ _ _ _ _ _ _ _ _ _ _ _)
   | (with_reducible exact LeO.refl _)
   | (with_reducible exact LeO.none _)
   | (with_reducible refine LeO.ite ?_ ?_)
   | (with_reducible refine LeO.bind ?_ (fun _ => ?_))
   | exact ih0 _ _ _ _ _ _ _ _ _ _ _ _ _ _ _ _
   | exact LeO.none _
   | refine LeO.ite ?_ ?_
   | refine LeO.bind ?_ (fun _ => ?_)
set_option maxHeartbeats 8000000 in
set_option maxRecDepth 100000 in
theorem shape_Goals.calls (k : Nat) (a0_0 : Bool) (a0_1 : Int) (A0_2 : Option Addr) (c0_2 : Nat) (l0_2 : List Int) (a0_3 : Bool) (a0_4 : Bool) (A0_5 : Option Addr) (c0_5 : Nat) (l0_5 : List (S49)) (a0_6 : Int) (a0_7 : Int) (a0_8 : Int) (a0_9 : Int) (A0_10 : Option Addr) (c0_10 : Nat) (l0_10 : List Int) (a0_11 : Int) (a0_12 : Int) (a0_13 : Int) (r : List Int) (w : World) (hr0_2 : Kd.C (Kd.int .u16) w A0_2 l0_2.length l0_2) (hc0_2 : l0_2.length ≤ c0_2) (hr0_5 : Kd.C k49 w A0_5 l0_5.length l0_5) (hc0_5 : l0_5.length ≤ c0_5) (hr0_10 : Kd.C (Kd.int .i64) w A0_10 l0_10.length l0_10) (hc0_10 : l0_10.length ≤ c0_10) (h : shape_Goals.f k a0_0 a0_1 l0_2 a0_3 a0_4 l0_5 a0_6 a0_7 a0_8 a0_9 l0_10 a0_11 a0_12 a0_13 = some r) :
  Calls Try.prog 23 #[.agg #[.bool a0_0, .int .i64 a0_1, .slice A0_2 l0_2.length c0_2, .bool a0_3, .bool a0_4, .slice A0_5 l0_5.length c0_5, .int .i64 a0_6, .int .i64 a0_7, .int .i64 a0_8, .int .i64 a0_9, .slice A0_10 l0_10.length c0_10, .int .i64 a0_11, .int .i64 a0_12, .int .i64 a0_13]] w fun e w' => ∃ v0_ : Value, e = .returned (v0_) ∧ Kd.R (Kd.int .i64) 3 w' w.heap.size (fun _ => True) v0_ r ∧ Below w.heap.size w w' := by
 have hu41 := Try.underlying41
 have HR0_2 := Aside0.mk hr0_2
 have HC0_2 := Aside0.mk hc0_2
 clear hr0_2 hc0_2
 have HR0_5 := Aside0.mk hr0_5
 have HC0_5 := Aside0.mk hc0_5
 clear hr0_5 hc0_5
 have HR0_10 := Aside0.mk hr0_10
 have HC0_10 := Aside0.mk hc0_10
 clear hr0_10 hc0_10
 have HB := Aside0.mk (Below.refl w.heap.size w)
 have H : (if a0_6 = 2 then (shape_Goals.j0 k a0_6 (a0_6 == 2) a0_0 a0_1 l0_2 a0_3 a0_4 l0_5 a0_6 a0_7 a0_8 a0_9 l0_10 a0_11 a0_12 a0_13) else (shape_Goals.j0 k a0_6 (a0_6 == 4) a0_0 a0_1 l0_2 a0_3 a0_4 l0_5 a0_6 a0_7 a0_8 a0_9 l0_10 a0_11 a0_12 a0_13)) = some r := h
 clear h
 have HC2 := Aside0.mk H
 clear H
 go_enter Try.func23, Try.ntmps23
 go_upto_if 6 with (first | ((with_reducible refine gate_dst (N := 1) rfl ?_); refine box_event ?hg (N := 1) ?hd (cs := #[.bool a0_0, .int .i64 a0_1, .slice A0_2 l0_2.length c0_2, .bool a0_3, .bool a0_4, .slice A0_5 l0_5.length c0_5, .int .i64 a0_6, .int .i64 a0_7, .int .i64 a0_8, .int .i64 a0_9, .slice A0_10 l0_10.length c0_10, .int .i64 a0_11, .int .i64 a0_12, .int .i64 a0_13]) (t := 41) ?hr ?_; (case hd => rfl); (case hg => rfl); (case hr => first | (go_simp; done) | (go_simp; rfl)); intro gb106 hg w3 hbox hb; have n0_ := Aside0.mk (below_step (by repeat (first | (with_reducible first | exact HB.out | apply below_alloc | apply pw_below_drewN | apply below_drew1) | exact HB.out)) hb); have n1_ := Aside0.mk (hbox); have n2_ := Aside0.mk ((by rw [hg]; exact (below_size (by repeat (first | (with_reducible first | exact HB.out | apply below_alloc | apply pw_below_drewN | apply below_drew1) | exact HB.out))) : w.heap.size ≤ gb106)); have n3_ := Aside0.mk ((by rw [hg]; exact (below_size (by repeat (first | (with_reducible first | exact HB.out | apply below_alloc | apply pw_below_drewN | apply below_drew1) | exact HB.out))) : w.heap.size ≤ gb106)); clear HB; have HB := n0_; have BK106 := n1_; have GW106 := n2_; have GE106 := n3_; clear n0_ n1_ n2_ n3_; clear hb hbox hg; have hcz4_0 : w3.cell? ⟨gb106, 0, none⟩ = some (.bool a0_0) := (blk_cell BK106.out 0).trans rfl; have hcz4_1 : w3.cell? ⟨gb106, 1, none⟩ = some (.int .i64 a0_1) := (blk_cell BK106.out 1).trans rfl; have hcz4_2 : w3.cell? ⟨gb106, 2, none⟩ = some (.slice A0_2 l0_2.length c0_2) := (blk_cell BK106.out 2).trans rfl; have hcz4_3 : w3.cell? ⟨gb106, 3, none⟩ = some (.bool a0_3) := (blk_cell BK106.out 3).trans rfl; have hcz4_4 : w3.cell? ⟨gb106, 4, none⟩ = some (.bool a0_4) := (blk_cell BK106.out 4).trans rfl; have hcz4_5 : w3.cell? ⟨gb106, 5, none⟩ = some (.slice A0_5 l0_5.length c0_5) := (blk_cell BK106.out 5).trans rfl; have hcz4_6 : w3.cell? ⟨gb106, 6, none⟩ = some (.int .i64 a0_6) := (blk_cell BK106.out 6).trans rfl; have hcz4_7 : w3.cell? ⟨gb106, 7, none⟩ = some (.int .i64 a0_7) := (blk_cell BK106.out 7).trans rfl; have hcz4_8 : w3.cell? ⟨gb106, 8, none⟩ = some (.int .i64 a0_8) := (blk_cell BK106.out 8).trans rfl; have hcz4_9 : w3.cell? ⟨gb106, 9, none⟩ = some (.int .i64 a0_9) := (blk_cell BK106.out 9).trans rfl; have hcz4_10 : w3.cell? ⟨gb106, 10, none⟩ = some (.slice A0_10 l0_10.length c0_10) := (blk_cell BK106.out 10).trans rfl; have hcz4_11 : w3.cell? ⟨gb106, 11, none⟩ = some (.int .i64 a0_11) := (blk_cell BK106.out 11).trans rfl; have hcz4_12 : w3.cell? ⟨gb106, 12, none⟩ = some (.int .i64 a0_12) := (blk_cell BK106.out 12).trans rfl; have hcz4_13 : w3.cell? ⟨gb106, 13, none⟩ = some (.int .i64 a0_13) := (blk_cell BK106.out 13).trans rfl; obtain ⟨hfz4_0, hfz4_1, hfz4_2, hfz4_3, hfz4_4, hfz4_5, hfz4_6, hfz4_7, hfz4_8, hfz4_9, hfz4_10, hfz4_11, hfz4_12, hfz4_13⟩ := fz14 BK106.out))
 (try simp only [Act.put, sA_, sZ_, sS_])
 go_cut [6] (fun v6 wc => ∃ (kq : Nat) (x6_1 : Bool), v6 = .bool x6_1 ∧ Aside0 (shape_Goals.j0 kq a0_6 x6_1 a0_0 a0_1 l0_2 a0_3 a0_4 l0_5 a0_6 a0_7 a0_8 a0_9 l0_10 a0_11 a0_12 a0_13 = some r) ∧ Aside0 (kq ≤ k) ∧ Aside0 (wc.heap[gb106]? = some (.cells #[.bool a0_0, .int .i64 a0_1, (.slice A0_2 l0_2.length c0_2), .bool a0_3, .bool a0_4, (.slice A0_5 l0_5.length c0_5), .int .i64 a0_6, .int .i64 a0_7, .int .i64 a0_8, .int .i64 a0_9, (.slice A0_10 l0_10.length c0_10), .int .i64 a0_11, .int .i64 a0_12, .int .i64 a0_13] 41 (0, 0))) ∧ Aside0 (Below w.heap.size w wc))
 case first =>
  have H := HC2.out
  clear HC2
  by_cases c5 : a0_6 = 2
  ·rw [if_pos c5] at H
   have c5b0 : (a0_6 == 2) = true := beq_iff_eq.mpr c5
   have c5b1 : (a0_6 != 2) = false := bne_eq_false_iff_eq.mpr c5
   clear c5
   (first | rw [c5b0] | (simp only [i64_w, i32_w]; rw [c5b0]) | skip)
   have H' := Aside0.mk H
   clear H
   go_wp2
   go_meet
   case rel => exact ⟨_, ((a0_6 == 2)), (by first | rfl | (simp; done) | (simp [*]; done)), H', ⟨by first | omega | exact Nat.le_refl _⟩, ⟨by (with_reducible repeat (first | refine blk_drewN ?_ _ | refine blk_drew ?_ | refine blk_alloc ?_ _)); exact BK106.out⟩, ⟨by repeat (first | (with_reducible first | exact HB.out | apply below_alloc | apply pw_below_drewN | apply below_drew1 | refine below_set ?_ GE106.out) | exact HB.out)⟩⟩
  ·rw [if_neg c5] at H
   have c5b0 : (a0_6 == 2) = false := beq_eq_false_iff_ne.mpr c5
   have c5b1 : (a0_6 != 2) = true := bne_iff_ne.mpr c5
   (first | rw [c5b0] | (simp only [i64_w, i32_w]; rw [c5b0]) | skip)
   have H' := Aside0.mk H
   clear H
   go_wp2
   go_meet
   case rel => exact ⟨_, ((a0_6 == 4)), (by first | rfl | (simp; done) | (simp [*]; done)), H', ⟨by first | omega | exact Nat.le_refl _⟩, ⟨by (with_reducible repeat (first | refine blk_drewN ?_ _ | refine blk_drew ?_ | refine blk_alloc ?_ _)); exact BK106.out⟩, ⟨by repeat (first | (with_reducible first | exact HB.out | apply below_alloc | apply pw_below_drewN | apply below_drew1 | refine below_set ?_ GE106.out) | exact HB.out)⟩⟩
 case rest =>
  clear HC2
  try clear c2
  try clear p2
  try clear c5
  try clear c5b0
  try clear c5b1
  try clear hcz4_0
  try clear hcz4_1
  try clear hcz4_10
  try clear hcz4_11
  try clear hcz4_12
  try clear hcz4_13
  try clear hcz4_2
  try clear hcz4_3
  try clear hcz4_4
  try clear hcz4_5
  try clear hcz4_6
  try clear hcz4_7
  try clear hcz4_8
  try clear hcz4_9
  try clear hfz4_0
  try clear hfz4_1
  try clear hfz4_10
  try clear hfz4_11
  try clear hfz4_12
  try clear hfz4_13
  try clear hfz4_2
  try clear hfz4_3
  try clear hfz4_4
  try clear hfz4_5
  try clear hfz4_6
  try clear hfz4_7
  try clear hfz4_8
  try clear hfz4_9
  obtain ⟨kq, x6_1, rfl, HA, HJ1, BK106, HB⟩ := hcut
  cases kq with
  | zero => exact absurd HA.out (by simp [shape_Goals.j0])
  | succ kj1 =>
   have H := HA.out
   clear HA
   simp only [shape_Goals.j0] at H
   by_cases c6 : x6_1 = true
   ·subst c6
    have H1 : (some (([a0_11] : List Int))) = some r := by rw [if_pos rfl] at H; exact H
    clear H
    have H := H1
    clear H1
    obtain ⟨y107, hy107⟩ : ∃ y_ : List Int, y_ = (([a0_11] : List Int)) := ⟨_, rfl⟩
    replace H : (some y107) = some r := by first | (rw [hy107]; with_reducible exact H) | (have H2_ := (Option.bind_some _ _).symm.trans H; rw [hy107]; with_reducible exact H2_) | (have H2_ := (Option.bind_some _ _).symm.trans H; with_reducible exact H2_) | with_reducible exact H | (rw [hy107]; exact H) | exact H
    have Ny107 := Aside0.mk hy107
    clear hy107
    obtain rfl := Option.some.inj H
    have hcz7_0 : wc.cell? ⟨gb106, 0, none⟩ = some (.bool a0_0) := (blk_cell BK106.out 0).trans rfl
    have hcz7_1 : wc.cell? ⟨gb106, 1, none⟩ = some (.int .i64 a0_1) := (blk_cell BK106.out 1).trans rfl
    have hcz7_2 : wc.cell? ⟨gb106, 2, none⟩ = some (.slice A0_2 l0_2.length c0_2) := (blk_cell BK106.out 2).trans rfl
    have hcz7_3 : wc.cell? ⟨gb106, 3, none⟩ = some (.bool a0_3) := (blk_cell BK106.out 3).trans rfl
    have hcz7_4 : wc.cell? ⟨gb106, 4, none⟩ = some (.bool a0_4) := (blk_cell BK106.out 4).trans rfl
    have hcz7_5 : wc.cell? ⟨gb106, 5, none⟩ = some (.slice A0_5 l0_5.length c0_5) := (blk_cell BK106.out 5).trans rfl
    have hcz7_6 : wc.cell? ⟨gb106, 6, none⟩ = some (.int .i64 a0_6) := (blk_cell BK106.out 6).trans rfl
    have hcz7_7 : wc.cell? ⟨gb106, 7, none⟩ = some (.int .i64 a0_7) := (blk_cell BK106.out 7).trans rfl
    have hcz7_8 : wc.cell? ⟨gb106, 8, none⟩ = some (.int .i64 a0_8) := (blk_cell BK106.out 8).trans rfl
    have hcz7_9 : wc.cell? ⟨gb106, 9, none⟩ = some (.int .i64 a0_9) := (blk_cell BK106.out 9).trans rfl
    have hcz7_10 : wc.cell? ⟨gb106, 10, none⟩ = some (.slice A0_10 l0_10.length c0_10) := (blk_cell BK106.out 10).trans rfl
    have hcz7_11 : wc.cell? ⟨gb106, 11, none⟩ = some (.int .i64 a0_11) := (blk_cell BK106.out 11).trans rfl
    have hcz7_12 : wc.cell? ⟨gb106, 12, none⟩ = some (.int .i64 a0_12) := (blk_cell BK106.out 12).trans rfl
    have hcz7_13 : wc.cell? ⟨gb106, 13, none⟩ = some (.int .i64 a0_13) := (blk_cell BK106.out 13).trans rfl
    obtain ⟨hfz7_0, hfz7_1, hfz7_2, hfz7_3, hfz7_4, hfz7_5, hfz7_6, hfz7_7, hfz7_8, hfz7_9, hfz7_10, hfz7_11, hfz7_12, hfz7_13⟩ := fz14 BK106.out
    go_wp2_with (first | ((with_reducible refine gate_dst (N := 12) rfl ?_); refine Kd.R_lit (Kd.int .i64) _ 3 ?hg (N := 12) ?hd (xs := ([a0_11] : List Int)) (inner := [.int .i64 a0_11]) (ok := fun _ => True) (okp := fun _ => True) ?hr ?hp (fun _ hk => hk) trivial (Below.refl _ _) (Nat.le_refl _) (by simp) ?_; (case hd => rfl); (case hg => rfl); (case hr => first | (go_simp; done) | (go_simp; rfl)); (case hp => exact (Reps.one (show Kd.M (Kd.int .i64) _ _ _ a0_11 [.int .i64 a0_11] from rfl) (Reps.none _ _))); intro v108 w8 ho9 hb hg_ hnew_; clear hg_ hnew_; (first | rw [← Ny107.out] at ho9 | (simp only [Int.reduceToNat] at ho9; rw [← Ny107.out] at ho9)); have n0_ := Aside0.mk (Kd.R_lower ho9 (below_size (by repeat (first | (with_reducible first | exact HB.out | apply below_alloc | apply pw_below_drewN | apply below_drew1 | refine below_set ?_ GE106.out) | exact HB.out)))); have n1_ := Aside0.mk (blk_below (g := gb106) (o := .cells #[.bool a0_0, .int .i64 a0_1, .slice A0_2 l0_2.length c0_2, .bool a0_3, .bool a0_4, .slice A0_5 l0_5.length c0_5, .int .i64 a0_6, .int .i64 a0_7, .int .i64 a0_8, .int .i64 a0_9, .slice A0_10 l0_10.length c0_10, .int .i64 a0_11, .int .i64 a0_12, .int .i64 a0_13] 41 (0, 0)) (by (with_reducible repeat (first | refine blk_drewN ?_ _ | refine blk_drew ?_ | refine blk_alloc ?_ _)); exact BK106.out) hb); have n2_ := Aside0.mk (below_step (by repeat (first | (with_reducible first | exact HB.out | apply below_alloc | apply pw_below_drewN | apply below_drew1 | refine below_set ?_ GE106.out) | exact HB.out)) hb); clear BK106; clear HB; have HO109 := n0_; have BK106 := n1_; have HB := n2_; clear n0_ n1_ n2_; clear hb ho9))
    go_ret
    exact ⟨_, by first | rfl | (simp [errW_none, errW_some] <;> rfl) | (simp [*, errW_none, errW_some] <;> rfl), by (with_reducible repeat (first | apply Kd.R_alloc | apply Kd.R_drewN | apply Kd.R_drew)); exact HO109.out, by repeat (first | (with_reducible first | exact HB.out | apply below_alloc | apply pw_below_drewN | apply below_drew1 | refine below_set ?_ GE106.out) | exact HB.out)⟩
   ·replace c6 := Bool.eq_false_iff.mpr c6
    subst c6
    have H1 : (if a0_6 = 3 then (some (([a0_11, a0_12] : List Int))) else (some ([] : List Int))) = some r := by rw [if_neg (show ¬ (false = true) by decide)] at H; exact H
    clear H
    have H := H1
    clear H1
    by_cases c10 : a0_6 = 3
    ·rw [if_pos c10] at H
     have c10b0 : (a0_6 == 3) = true := beq_iff_eq.mpr c10
     have c10b1 : (a0_6 != 3) = false := bne_eq_false_iff_eq.mpr c10
     clear c10
     obtain ⟨y110, hy110⟩ : ∃ y_ : List Int, y_ = (([a0_11, a0_12] : List Int)) := ⟨_, rfl⟩
     replace H : (some y110) = some r := by first | (rw [hy110]; with_reducible exact H) | (have H2_ := (Option.bind_some _ _).symm.trans H; rw [hy110]; with_reducible exact H2_) | (have H2_ := (Option.bind_some _ _).symm.trans H; with_reducible exact H2_) | with_reducible exact H | (rw [hy110]; exact H) | exact H
     have Ny110 := Aside0.mk hy110
     clear hy110
     obtain rfl := Option.some.inj H
     have hcz11_0 : wc.cell? ⟨gb106, 0, none⟩ = some (.bool a0_0) := (blk_cell BK106.out 0).trans rfl
     have hcz11_1 : wc.cell? ⟨gb106, 1, none⟩ = some (.int .i64 a0_1) := (blk_cell BK106.out 1).trans rfl
     have hcz11_2 : wc.cell? ⟨gb106, 2, none⟩ = some (.slice A0_2 l0_2.length c0_2) := (blk_cell BK106.out 2).trans rfl
     have hcz11_3 : wc.cell? ⟨gb106, 3, none⟩ = some (.bool a0_3) := (blk_cell BK106.out 3).trans rfl
     have hcz11_4 : wc.cell? ⟨gb106, 4, none⟩ = some (.bool a0_4) := (blk_cell BK106.out 4).trans rfl
     have hcz11_5 : wc.cell? ⟨gb106, 5, none⟩ = some (.slice A0_5 l0_5.length c0_5) := (blk_cell BK106.out 5).trans rfl
     have hcz11_6 : wc.cell? ⟨gb106, 6, none⟩ = some (.int .i64 a0_6) := (blk_cell BK106.out 6).trans rfl
     have hcz11_7 : wc.cell? ⟨gb106, 7, none⟩ = some (.int .i64 a0_7) := (blk_cell BK106.out 7).trans rfl
     have hcz11_8 : wc.cell? ⟨gb106, 8, none⟩ = some (.int .i64 a0_8) := (blk_cell BK106.out 8).trans rfl
     have hcz11_9 : wc.cell? ⟨gb106, 9, none⟩ = some (.int .i64 a0_9) := (blk_cell BK106.out 9).trans rfl
     have hcz11_10 : wc.cell? ⟨gb106, 10, none⟩ = some (.slice A0_10 l0_10.length c0_10) := (blk_cell BK106.out 10).trans rfl
     have hcz11_11 : wc.cell? ⟨gb106, 11, none⟩ = some (.int .i64 a0_11) := (blk_cell BK106.out 11).trans rfl
     have hcz11_12 : wc.cell? ⟨gb106, 12, none⟩ = some (.int .i64 a0_12) := (blk_cell BK106.out 12).trans rfl
     have hcz11_13 : wc.cell? ⟨gb106, 13, none⟩ = some (.int .i64 a0_13) := (blk_cell BK106.out 13).trans rfl
     obtain ⟨hfz11_0, hfz11_1, hfz11_2, hfz11_3, hfz11_4, hfz11_5, hfz11_6, hfz11_7, hfz11_8, hfz11_9, hfz11_10, hfz11_11, hfz11_12, hfz11_13⟩ := fz14 BK106.out
     go_wp2_with (first | ((with_reducible refine gate_dst (N := 21) rfl ?_); refine Kd.R_lit (Kd.int .i64) _ 3 ?hg (N := 21) ?hd (xs := ([a0_11, a0_12] : List Int)) (inner := [.int .i64 a0_11, .int .i64 a0_12]) (ok := fun _ => True) (okp := fun _ => True) ?hr ?hp (fun _ hk => hk) trivial (Below.refl _ _) (Nat.le_refl _) (by simp) ?_; (case hd => rfl); (case hg => rfl); (case hr => first | (go_simp; done) | (go_simp; rfl)); (case hp => exact (Reps.one (show Kd.M (Kd.int .i64) _ _ _ a0_11 [.int .i64 a0_11] from rfl) (Reps.one (show Kd.M (Kd.int .i64) _ _ _ a0_12 [.int .i64 a0_12] from rfl) (Reps.none _ _)))); intro v111 w12 ho13 hb hg_ hnew_; clear hg_ hnew_; (first | rw [← Ny110.out] at ho13 | (simp only [Int.reduceToNat] at ho13; rw [← Ny110.out] at ho13)); have n0_ := Aside0.mk (Kd.R_lower ho13 (below_size (by repeat (first | (with_reducible first | exact HB.out | apply below_alloc | apply pw_below_drewN | apply below_drew1 | refine below_set ?_ GE106.out) | exact HB.out)))); have n1_ := Aside0.mk (blk_below (g := gb106) (o := .cells #[.bool a0_0, .int .i64 a0_1, .slice A0_2 l0_2.length c0_2, .bool a0_3, .bool a0_4, .slice A0_5 l0_5.length c0_5, .int .i64 a0_6, .int .i64 a0_7, .int .i64 a0_8, .int .i64 a0_9, .slice A0_10 l0_10.length c0_10, .int .i64 a0_11, .int .i64 a0_12, .int .i64 a0_13] 41 (0, 0)) (by (with_reducible repeat (first | refine blk_drewN ?_ _ | refine blk_drew ?_ | refine blk_alloc ?_ _)); exact BK106.out) hb); have n2_ := Aside0.mk (below_step (by repeat (first | (with_reducible first | exact HB.out | apply below_alloc | apply pw_below_drewN | apply below_drew1 | refine below_set ?_ GE106.out) | exact HB.out)) hb); clear BK106; clear HB; have HO112 := n0_; have BK106 := n1_; have HB := n2_; clear n0_ n1_ n2_; clear hb ho13))
     go_ret
     exact ⟨_, by first | rfl | (simp [errW_none, errW_some] <;> rfl) | (simp [*, errW_none, errW_some] <;> rfl), by (with_reducible repeat (first | apply Kd.R_alloc | apply Kd.R_drewN | apply Kd.R_drew)); exact HO112.out, by repeat (first | (with_reducible first | exact HB.out | apply below_alloc | apply pw_below_drewN | apply below_drew1 | refine below_set ?_ GE106.out) | exact HB.out)⟩
    ·rw [if_neg c10] at H
     have c10b0 : (a0_6 == 3) = false := beq_eq_false_iff_ne.mpr c10
     have c10b1 : (a0_6 != 3) = true := bne_iff_ne.mpr c10
     obtain rfl := Option.some.inj H
     go_wp2
     go_ret
     exact ⟨_, by first | rfl | (simp [errW_none, errW_some] <;> rfl) | (simp [*, errW_none, errW_some] <;> rfl), by first | exact Kd.R_nil _ _ _ _ _ | exact Kd.N_nil _ _ _ _ _ | exact Kd.V_nil _ _ _ _ _ | exact Kd.Q_nil _ _ _ _ _ | exact Kd.S_nil _ _ _ _ _, by repeat (first | (with_reducible first | exact HB.out | apply below_alloc | apply pw_below_drewN | apply below_drew1 | refine below_set ?_ GE106.out) | exact HB.out)⟩
end
end Go.Proofs.Ytbfialebaoeicaa.X
namespace Go.Proofs.Ytbfialebaoeicaa.X
open Go.RowKit Go.Proofs.YtbfialebaoeicaaW.PrintWords Go.Proofs.YtbfialebaoeicaaW.PrintLast Go.Proofs.YtbfialebaoeicaaW.PrintMore
set_option linter.all false
def bRa : S41 := ⟨false, ⟨0, [], false, false⟩, [], ⟨1, 0, 0, 0, [], 0, 0, 0⟩⟩
def f2a : S27 := ⟨0, 1, [bRa]⟩
def m2a : List S27 := [f2a]
def n2a : List S27 := [⟨0, 0, [bRa]⟩]
theorem m2a_r : rightR m2a = true := by decide +kernel
theorem n2a_r : rightR n2a = false := by decide +kernel
theorem f2a_r : funcR m2a f2a = true := by decide +kernel
theorem n2a_e : eqL funcE n2a m2a = false := by decide +kernel
theorem C_uno {α : Type} (d : Kd α) {w : World} {g : Nat} {t : TypeId} (x : α) (cs : List Value) (hl : cs.length = d.sz) (hK : d.K w x cs) (h : w.heap[g]? = some (.cells cs.toArray t (0, 0))) : Kd.C d w (some ⟨g, 0, none⟩) 1 [x] := by
 refine ⟨rfl, by decide, fun _ => ⟨_, rfl, fun j p hj => ?_⟩⟩
 obtain rfl : j = 0 := by have := (List.getElem?_eq_some_iff.1 hj).1; simp at this; exact this
 simp at hj
 subst hj
 refine ⟨cs, hl, hK, fun i u hu => ?_⟩
 rw [Nat.zero_mul, Nat.zero_add, add_plain, blk_cell h i]
 simpa using hu
theorem C_none {α : Type} (d : Kd α) (w : World) : Kd.C d w none 0 ([] : List α) := Kd.C_nil d w
theorem bRa_C {w : World} {gb : Nat} (h : w.heap[gb]? = some (.cells #[.bool false, .int .i64 0, .slice none 0 0, .bool false, .bool false, .slice none 0 0, .int .i64 1, .int .i64 0, .int .i64 0, .int .i64 0, .slice none 0 0, .int .i64 0, .int .i64 0, .int .i64 0] 41 (0, 0))) : Kd.C k41 w (some ⟨gb, 0, none⟩) 1 [bRa] :=
 C_uno k41 bRa [.bool false, .int .i64 0, .slice none 0 0, .bool false, .bool false, .slice none 0 0, .int .i64 1, .int .i64 0, .int .i64 0, .int .i64 0, .slice none 0 0, .int .i64 0, .int .i64 0, .int .i64 0] rfl (k41_mk w bRa (A2 := none) (c2 := 0) (by decide) (C_none _ _) (A5 := none) (c5 := 0) (by decide) (C_none _ _) (A10 := none) (c10 := 0) (by decide) (C_none _ _)) h
theorem m2a_C {w : World} {gb gf : Nat} (h : w.heap[gb]? = some (.cells #[.bool false, .int .i64 0, .slice none 0 0, .bool false, .bool false, .slice none 0 0, .int .i64 1, .int .i64 0, .int .i64 0, .int .i64 0, .slice none 0 0, .int .i64 0, .int .i64 0, .int .i64 0] 41 (0, 0))) (h2 : w.heap[gf]? = some (.cells #[.int .i64 0, .int .i64 1, .slice (some ⟨gb, 0, none⟩) 1 1] 27 (0, 0))) : Kd.C k27 w (some ⟨gf, 0, none⟩) 1 m2a :=
 C_uno k27 f2a [.int .i64 0, .int .i64 1, .slice (some ⟨gb, 0, none⟩) 1 1] rfl (k27_mk w f2a (A2 := some ⟨gb, 0, none⟩) (c2 := 1) (by decide) (bRa_C h)) h2
theorem b1_is {b : S41} (h : b ∈ [bRa]) : b = bRa := by simpa using h
theorem f2a_B (r : Int) : BndF ⟨0, r, [bRa]⟩ := ⟨by show 1 ≤ 1000000; decide, fun b hb => (by rw [b1_is hb]; decide), fun b hb => (by rw [b1_is hb]; decide), fun b hb => (by rw [b1_is hb]; decide), fun b hb x hx => (by rw [b1_is hb] at hx; cases hx)⟩
theorem m2a_B : Bnd m2a := ⟨by decide, fun f hf => (by rw [show f = ⟨0, 1, [bRa]⟩ by simpa [m2a, f2a] using hf]; exact f2a_B 1)⟩
theorem n2a_B : Bnd n2a := ⟨by decide, fun f hf => (by rw [show f = ⟨0, 0, [bRa]⟩ by simpa [n2a] using hf]; exact f2a_B 0)⟩
theorem f2_is {f : S27} (h : f ∈ m2a) : f = ⟨0, 1, [bRa]⟩ := by simpa [m2a, f2a] using h
theorem m2a_BC : BC m2a := ⟨by decide, fun f hf => (by rw [f2_is hf]; decide), fun f hf b hb => (by rw [f2_is hf] at hb; rw [b1_is hb]; decide), fun f hf b hb => (by rw [f2_is hf] at hb; rw [b1_is hb]; decide), fun f hf b hb => (by rw [f2_is hf] at hb; rw [b1_is hb]; decide), fun f hf b hb x hx => (by rw [f2_is hf] at hb; rw [b1_is hb] at hx; cases hx)⟩
theorem goals2_c (w : World) : Calls Try.prog 23 #[.agg #[.bool false, .int .i64 0, .slice none 0 0, .bool false, .bool false, .slice none 0 0, .int .i64 3, .int .i64 0, .int .i64 0, .int .i64 0, .slice none 0 0, .int .i64 0, .int .i64 0, .int .i64 0]] w fun e w' => (∃ A c, e = .returned (.slice A 2 c)) ∧ Below w.heap.size w w' := by
 refine (shape_Goals.calls 1 false 0 none 0 [] false false none 0 [] 3 0 0 0 none 0 [] 0 0 0 [0, 0] w (C_none _ _) (by decide) (C_none _ _) (by decide) (C_none _ _) (by decide) rfl).mono ?_
 rintro e w' ⟨v, rfl, hr, hb⟩
 obtain ⟨A, c, rfl, _⟩ := Kd.R_reads hr
 exact ⟨⟨A, c, rfl⟩, hb⟩
theorem rightm_c (A : Option Addr) (c : Nat) (w : World) (h : Kd.C k27 w A 1 m2a) : Calls Try.prog 16 #[.agg #[.slice A 1 c]] w fun e w' => e = .returned (.bool true) ∧ Below w.heap.size w w' := by
 have h2 := right_l m2a A c w h m2a_B
 rw [m2a_r] at h2
 exact h2
theorem rightn_c (A : Option Addr) (c : Nat) (w : World) (h : Kd.C k27 w A 1 n2a) : Calls Try.prog 16 #[.agg #[.slice A 1 c]] w fun e w' => e = .returned (.bool false) ∧ Below w.heap.size w w' := by
 have h2 := right_l n2a A c w h n2a_B
 rw [n2a_r] at h2
 exact h2
theorem funcm_c (A : Option Addr) (c : Nat) (gb : Nat) (w : World) (h : Kd.C k27 w A 1 m2a) (hb : Kd.C k41 w (some ⟨gb, 0, none⟩) 1 [bRa]) : Calls Try.prog 18 #[.agg #[.slice A 1 c], .agg #[.int .i64 0, .int .i64 1, .slice (some ⟨gb, 0, none⟩) 1 1]] w fun e w' => e = .returned (.bool true) ∧ Below w.heap.size w w' := by
 have h2 := func_l m2a A c f2a (some ⟨gb, 0, none⟩) 1 w h hb (f2a_B 1)
 rw [f2a_r] at h2
 exact h2
theorem samen_c (A : Option Addr) (c : Nat) (A' : Option Addr) (c' : Nat) (w : World) (h : Kd.C k27 w A 1 n2a) (h' : Kd.C k27 w A' 1 m2a) : Calls Try.prog 25 #[.agg #[.slice A 1 c], .agg #[.slice A' 1 c']] w fun e w' => e = .returned (.bool false) ∧ Below w.heap.size w w' := by
 have h2 := same_c n2a A c m2a A' c' w h h' n2a_B
 rw [n2a_e] at h2
 exact h2
theorem cleans2_c (gb : Nat) (w : World) (hb : Kd.C k41 w (some ⟨gb, 0, none⟩) 1 [bRa]) : Calls Try.prog 20 #[.agg #[.int .i64 0, .int .i64 1, .slice (some ⟨gb, 0, none⟩) 1 1]] w fun e w' => (∃ A c, e = .returned (.slice A 1 c)) ∧ Below w.heap.size w w' :=
 cleans0_c f2a (some ⟨gb, 0, none⟩) 1 w hb (by decide) (fun b h => by rw [b1_is h]; rfl)
theorem copym_c (A : Option Addr) (w : World) (h : Kd.C k27 w A 1 m2a) : Calls Try.prog 24 #[.agg #[.slice A 1 1]] w fun e w' => (∃ g c, e = .returned (.agg #[.slice (some ⟨g, 0, none⟩) 1 c]) ∧ w.heap.size ≤ g ∧ g < w'.heap.size ∧ Kd.S sF 27 w' w.heap.size (fun _ => True) (.slice (some ⟨g, 0, none⟩) 1 c) m2a) ∧ Below w.heap.size w w' := by
 refine (copy_c m2a A 1 w h (by decide) m2a_BC).mono ?_
 rintro e w' ⟨⟨v, rfl, hs⟩, hb⟩
 obtain ⟨g, c, rfl, h0, h1, _⟩ := Kd.S_form (d := sF) hs (by decide)
 exact ⟨⟨g, c, rfl, h0, h1, hs⟩, hb⟩
set_option maxHeartbeats 16000000 in
set_option maxRecDepth 100000 in
theorem awake2_c (w : World) : Calls Try.prog 14 #[] w fun e w' => e = .returned (.bool true) ∧ Below w.heap.size w w' := by
 have hu24 := Try.underlying24
 have hu27 := Try.underlying27
 have hu41 := Try.underlying41
 have hu49 := Try.underlying49
 have hu35 := Try.underlying35
 have hu39 := Try.underlying39
 have HB := Aside0.mk (Below.refl w.heap.size w)
 go_enter Try.func14, Try.ntmps14
 go_upto_region 1 with (fail)
 go_cut [1] (fun v1 wc => ∃ g1 gf gb : Nat, v1 = .pointer (some ⟨g1, 0, none⟩) ∧ Aside0 (Below w.heap.size w wc) ∧ Aside0 (wc.heap[g1]? = some (.cells #[.slice (some ⟨gf, 0, none⟩) 1 1] 24 (0, 0))) ∧ Aside0 (wc.heap[gf]? = some (.cells #[.int .i64 0, .int .i64 1, .slice (some ⟨gb, 0, none⟩) 1 1] 27 (0, 0))) ∧ Aside0 (wc.heap[gb]? = some (.cells #[.bool false, .int .i64 0, .slice none 0 0, .bool false, .bool false, .slice none 0 0, .int .i64 1, .int .i64 0, .int .i64 0, .int .i64 0, .slice none 0 0, .int .i64 0, .int .i64 0, .int .i64 0] 41 (0, 0))))
 case first =>
  go_wp2
  go_meet
  exact ⟨_, w.heap.size + 1, w.heap.size, rfl, ⟨below_alloc (below_alloc (below_alloc HB.out _) _) _⟩, ⟨blk_new3 _ _ _ _⟩, ⟨blk_alloc (blk_new2 _ _ _) _⟩, ⟨blk_alloc (blk_alloc (blk_new _ _) _) _⟩⟩
 case rest =>
  clear HB
  obtain ⟨g1, gf, gb, rfl, HB, X1, XF, XB⟩ := hcut
  have m0 := (blk_cell X1.out 0).trans rfl
  go_upto_region 2 with (fail)
  go_cut [2] (fun v2 wc => ∃ g2 g0 c B0 : Nat, v2 = .pointer (some ⟨g2, 0, none⟩) ∧ Aside0 (Below w.heap.size w wc) ∧ Aside0 (wc.heap[g1]? = some (.cells #[.slice (some ⟨gf, 0, none⟩) 1 1] 24 (0, 0))) ∧ Aside0 (wc.heap[gf]? = some (.cells #[.int .i64 0, .int .i64 1, .slice (some ⟨gb, 0, none⟩) 1 1] 27 (0, 0))) ∧ Aside0 (wc.heap[gb]? = some (.cells #[.bool false, .int .i64 0, .slice none 0 0, .bool false, .bool false, .slice none 0 0, .int .i64 1, .int .i64 0, .int .i64 0, .int .i64 0, .slice none 0 0, .int .i64 0, .int .i64 0, .int .i64 0] 41 (0, 0))) ∧ Aside0 (wc.heap[g2]? = some (.cells #[.slice (some ⟨g0, 0, none⟩) 1 c] 24 (0, 0))) ∧ Aside0 (Kd.S sF 27 wc B0 (fun _ => True) (.slice (some ⟨g0, 0, none⟩) 1 c) m2a) ∧ Aside0 (w.heap.size ≤ g0 ∧ g1 ≠ g0 ∧ gf ≠ g0 ∧ gb ≠ g0 ∧ g2 ≠ g0))
  case first =>
   go_wp2_with (go_at_call 24; go_loud ((with_reducible refine (copym_c _ _ (m2a_C XB.out XF.out)).mono ?_); rintro e w6 ⟨⟨g0, c, rfl, hg0, hg1, hs⟩, hb⟩; have HS := Aside0.mk hs; have HB6 := Aside0.mk hb; have HG := Aside0.mk (And.intro hg0 hg1); clear hs hb hg0 hg1))
   go_meet
   exact ⟨_, g0, c, _, rfl, ⟨below_alloc (HB.out.trans (HB6.out.mono HB.out.size)) _⟩, ⟨blk_alloc (blk_below X1.out HB6.out) _⟩, ⟨blk_alloc (blk_below XF.out HB6.out) _⟩, ⟨blk_alloc (blk_below XB.out HB6.out) _⟩, ⟨blk_new _ _⟩, ⟨Kd.S_alloc HS.out _⟩, ⟨Nat.le_trans HB.out.size HG.out.1, Nat.ne_of_lt (Nat.lt_of_lt_of_le (blk_lt X1.out) HG.out.1), Nat.ne_of_lt (Nat.lt_of_lt_of_le (blk_lt XF.out) HG.out.1), Nat.ne_of_lt (Nat.lt_of_lt_of_le (blk_lt XB.out) HG.out.1), Nat.ne_of_gt HG.out.2⟩⟩
  case rest =>
   clear m0 HB X1 XF XB
   obtain ⟨g2, g0, c, B0, rfl, HB, X1, XF, XB, X2, HS, HG⟩ := hcut
   have m0 := (blk_cell X1.out 0).trans rfl
   have n0 := (blk_cell X2.out 0).trans rfl
   have hr := SM_reg HS.out 0 (by decide) (by decide) 0
   have hy : wc.cell? ⟨g0, 1, none⟩ = some (.int .i64 1) := hr.1
   have hz : wc.frozen? ⟨g0, 1, none⟩ = false := hr.2.1
   have HN := Aside0.mk (show Kd.S sF 27 (wc.setCell ⟨g0, 1, none⟩ (.int .i64 0)) B0 (fun _ => True) (.slice (some ⟨g0, 0, none⟩) 1 c) n2a from hr.2.2)
   clear hr
   go_upto_region 5 with (fail)
   go_cut [] (fun wc => Aside0 (Below w.heap.size w wc) ∧ Aside0 (wc.heap[g1]? = some (.cells #[.slice (some ⟨gf, 0, none⟩) 1 1] 24 (0, 0))) ∧ Aside0 (wc.heap[gf]? = some (.cells #[.int .i64 0, .int .i64 1, .slice (some ⟨gb, 0, none⟩) 1 1] 27 (0, 0))) ∧ Aside0 (wc.heap[gb]? = some (.cells #[.bool false, .int .i64 0, .slice none 0 0, .bool false, .bool false, .slice none 0 0, .int .i64 1, .int .i64 0, .int .i64 0, .int .i64 0, .slice none 0 0, .int .i64 0, .int .i64 0, .int .i64 0] 41 (0, 0))) ∧ Aside0 (wc.heap[g2]? = some (.cells #[.slice (some ⟨g0, 0, none⟩) 1 c] 24 (0, 0))) ∧ Aside0 (Kd.S sF 27 wc B0 (fun _ => True) (.slice (some ⟨g0, 0, none⟩) 1 c) n2a))
   case first =>
    go_wp2
    go_meet
    exact ⟨⟨below_set HB.out HG.out.1⟩, ⟨blk_far X1.out (p := ⟨g0, 1, none⟩) HG.out.2.1 _⟩, ⟨blk_far XF.out (p := ⟨g0, 1, none⟩) HG.out.2.2.1 _⟩, ⟨blk_far XB.out (p := ⟨g0, 1, none⟩) HG.out.2.2.2.1 _⟩, ⟨blk_far X2.out (p := ⟨g0, 1, none⟩) HG.out.2.2.2.2 _⟩, HN⟩
   case rest =>
    clear m0 n0 hy hz HB X1 XF XB X2 HS HN
    obtain ⟨HB, X1, XF, XB, X2, HS⟩ := hcut
    have HCM := Aside0.mk (m2a_C XB.out XF.out)
    have HCB := Aside0.mk (bRa_C XB.out)
    have HCN := Aside0.mk ((Kd.S_reads' (d := sF) HS.out).2.2)
    go_wp2
    refine start_ (S := (fun W : World => Below wc.heap.size wc W)) (ds := []) #[bF,bF,bF,bF,bF,bF,bF,bF,bF,bF,bF,bF,bF,bF,bF,bF,bF,bF,bF,bF,bF,bF,bF,bF,bF,bF,bF,bF,bF,bF,bF,bF,bF,bF,bF,bF,bF,bF] (by kernel_rfl) (by rfl) (by rfl) (below_drew (Below.refl _ _)) (fun hS => ?_)
    refine take_ (i := 0) (N := some 19) (v := .agg #[.slice (some ⟨gf, 0, none⟩) 1 1]) (a' := ?axaw1) #[bT,bF,bF,bF,bF,bF,bF,bF,bF,bF,bF,bF,bF,bF,bF,bF,bF,bF,bF,bF,bF,bF,bF,bF,bF,bF,bF,bF,bF,bF,bF,bF,bF,bF,bF,bF,bF,bF] rfl rfl (by kernel_rfl) (fun _ _ _ h => h) (Or.inl ⟨by rfl, ?yyaw1⟩) hS ?haaw1 ?hhaw1
    case yyaw1 => intro W hW; have m0 := (blk_cell (blk_below X1.out hW) 0).trans rfl; have n0 := (blk_cell (blk_below X2.out hW) 0).trans rfl; obtain ⟨f0, f1, f2⟩ := cl3 (blk_below XF.out hW); go_simp; done
    case haaw1 => try simp only [Act.put, sA_, sZ_, sS_]; exact rfl
    refine one_ (i := 1) (N := some 20) #[bT,bT,bF,bF,bF,bF,bF,bF,bF,bF,bF,bF,bF,bF,bF,bF,bF,bF,bF,bF,bF,bF,bF,bF,bF,bF,bF,bF,bF,bF,bF,bF,bF,bF,bF,bF,bF,bF] rfl rfl (by kernel_rfl) (by decide) (fun K hK => ?_)
    refine goes_ Try.func16 (by kernel_rfl) rfl #[.agg #[.slice (some ⟨gf, 0, none⟩) 1 1]] (by rfl) rfl rfl (by simp only [List.map_toArray, List.map_cons, List.map_nil]; rfl) ?_
    refine (rightm_c _ 1 _ (Kd.C_below HCM.out hS)).mono ?_
    rintro e w7 ⟨rfl, hb⟩
    refine ⟨_, rfl, ?_⟩
    have hS' := hS.trans (hb.mono hS.size)
    clear hb
    refine hK _ _ hS' (fun hS => ?_)
    clear hK K
    try simp only [Act.put, sA_, sZ_, sS_]
    refine take_ (i := 2) (N := some 21) (v := .bool true) (a' := ?axaw2) #[bT,bT,bT,bF,bF,bF,bF,bF,bF,bF,bF,bF,bF,bF,bF,bF,bF,bF,bF,bF,bF,bF,bF,bF,bF,bF,bF,bF,bF,bF,bF,bF,bF,bF,bF,bF,bF,bF] rfl rfl (by kernel_rfl) (fun _ _ _ h => h) (Or.inl ⟨by rfl, ?yyaw2⟩) hS ?haaw2 ?hhaw2
    case yyaw2 => intro W hW; have m0 := (blk_cell (blk_below X1.out hW) 0).trans rfl; have n0 := (blk_cell (blk_below X2.out hW) 0).trans rfl; obtain ⟨f0, f1, f2⟩ := cl3 (blk_below XF.out hW); go_simp; done
    case haaw2 => try simp only [Act.put, sA_, sZ_, sS_]; exact rfl
    refine take_ (i := 3) (N := some 22) (v := .agg #[.slice (some ⟨g0, 0, none⟩) 1 c]) (a' := ?axaw3) #[bT,bT,bT,bT,bF,bF,bF,bF,bF,bF,bF,bF,bF,bF,bF,bF,bF,bF,bF,bF,bF,bF,bF,bF,bF,bF,bF,bF,bF,bF,bF,bF,bF,bF,bF,bF,bF,bF] rfl rfl (by kernel_rfl) (fun _ _ _ h => h) (Or.inl ⟨by rfl, ?yyaw3⟩) hS ?haaw3 ?hhaw3
    case yyaw3 => intro W hW; have m0 := (blk_cell (blk_below X1.out hW) 0).trans rfl; have n0 := (blk_cell (blk_below X2.out hW) 0).trans rfl; obtain ⟨f0, f1, f2⟩ := cl3 (blk_below XF.out hW); go_simp; done
    case haaw3 => try simp only [Act.put, sA_, sZ_, sS_]; exact rfl
    refine one_ (i := 4) (N := some 23) #[bT,bT,bT,bT,bT,bF,bF,bF,bF,bF,bF,bF,bF,bF,bF,bF,bF,bF,bF,bF,bF,bF,bF,bF,bF,bF,bF,bF,bF,bF,bF,bF,bF,bF,bF,bF,bF,bF] rfl rfl (by kernel_rfl) (by decide) (fun K hK => ?_)
    refine goes_ Try.func16 (by kernel_rfl) rfl #[.agg #[.slice (some ⟨g0, 0, none⟩) 1 c]] (by rfl) rfl rfl (by simp only [List.map_toArray, List.map_cons, List.map_nil]; rfl) ?_
    refine (rightn_c _ c _ (Kd.C_below HCN.out hS)).mono ?_
    rintro e w7 ⟨rfl, hb⟩
    refine ⟨_, rfl, ?_⟩
    have hS' := hS.trans (hb.mono hS.size)
    clear hb
    refine hK _ _ hS' (fun hS => ?_)
    clear hK K
    try simp only [Act.put, sA_, sZ_, sS_]
    refine take_ (i := 5) (N := some 24) (v := .bool true) (a' := ?axaw4) #[bT,bT,bT,bT,bT,bT,bF,bF,bF,bF,bF,bF,bF,bF,bF,bF,bF,bF,bF,bF,bF,bF,bF,bF,bF,bF,bF,bF,bF,bF,bF,bF,bF,bF,bF,bF,bF,bF] rfl rfl (by kernel_rfl) (fun _ _ _ h => h) (Or.inl ⟨by rfl, ?yyaw4⟩) hS ?haaw4 ?hhaw4
    case yyaw4 => intro W hW; have m0 := (blk_cell (blk_below X1.out hW) 0).trans rfl; have n0 := (blk_cell (blk_below X2.out hW) 0).trans rfl; obtain ⟨f0, f1, f2⟩ := cl3 (blk_below XF.out hW); go_simp; done
    case haaw4 => try simp only [Act.put, sA_, sZ_, sS_]; exact rfl
    refine take_ (i := 6) (N := some 25) (v := .bool true) (a' := ?axaw5) #[bT,bT,bT,bT,bT,bT,bT,bF,bF,bF,bF,bF,bF,bF,bF,bF,bF,bF,bF,bF,bF,bF,bF,bF,bF,bF,bF,bF,bF,bF,bF,bF,bF,bF,bF,bF,bF,bF] rfl rfl (by kernel_rfl) (fun _ _ _ h => h) (Or.inl ⟨by rfl, ?yyaw5⟩) hS ?haaw5 ?hhaw5
    case yyaw5 => intro W hW; have m0 := (blk_cell (blk_below X1.out hW) 0).trans rfl; have n0 := (blk_cell (blk_below X2.out hW) 0).trans rfl; obtain ⟨f0, f1, f2⟩ := cl3 (blk_below XF.out hW); go_simp; done
    case haaw5 => try simp only [Act.put, sA_, sZ_, sS_]; exact rfl
    refine take_ (i := 7) (N := some 26) (v := .bool true) (a' := ?axaw6) #[bT,bT,bT,bT,bT,bT,bT,bT,bF,bF,bF,bF,bF,bF,bF,bF,bF,bF,bF,bF,bF,bF,bF,bF,bF,bF,bF,bF,bF,bF,bF,bF,bF,bF,bF,bF,bF,bF] rfl rfl (by kernel_rfl) (fun _ _ _ h => h) (Or.inl ⟨by rfl, ?yyaw6⟩) hS ?haaw6 ?hhaw6
    case yyaw6 => intro W hW; have m0 := (blk_cell (blk_below X1.out hW) 0).trans rfl; have n0 := (blk_cell (blk_below X2.out hW) 0).trans rfl; obtain ⟨f0, f1, f2⟩ := cl3 (blk_below XF.out hW); go_simp; done
    case haaw6 => try simp only [Act.put, sA_, sZ_, sS_]; exact rfl
    refine take_ (i := 8) (N := some 27) (v := .agg #[.slice (some ⟨gf, 0, none⟩) 1 1]) (a' := ?axaw7) #[bT,bT,bT,bT,bT,bT,bT,bT,bT,bF,bF,bF,bF,bF,bF,bF,bF,bF,bF,bF,bF,bF,bF,bF,bF,bF,bF,bF,bF,bF,bF,bF,bF,bF,bF,bF,bF,bF] rfl rfl (by kernel_rfl) (fun _ _ _ h => h) (Or.inl ⟨by rfl, ?yyaw7⟩) hS ?haaw7 ?hhaw7
    case yyaw7 => intro W hW; have m0 := (blk_cell (blk_below X1.out hW) 0).trans rfl; have n0 := (blk_cell (blk_below X2.out hW) 0).trans rfl; obtain ⟨f0, f1, f2⟩ := cl3 (blk_below XF.out hW); go_simp; done
    case haaw7 => try simp only [Act.put, sA_, sZ_, sS_]; exact rfl
    refine pure_ (i := 9) (N := some 28) (v := .pointer (some ⟨g1, 0, none⟩)) (a' := ?axaw8) #[bT,bT,bT,bT,bT,bT,bT,bT,bT,bT,bF,bF,bF,bF,bF,bF,bF,bF,bF,bF,bF,bF,bF,bF,bF,bF,bF,bF,bF,bF,bF,bF,bF,bF,bF,bF,bF,bF] rfl rfl (by kernel_rfl) (fun _ _ _ h => h) (Or.inl ⟨by rfl, ?yyaw8⟩) ?haaw8 ?hhaw8
    case yyaw8 => intro W; go_simp; done
    case haaw8 => try simp only [Act.put, sA_, sZ_, sS_]; exact rfl
    refine take_ (i := 10) (N := some 29) (v := .slice (some ⟨gf, 0, none⟩) 1 1) (a' := ?axaw9) #[bT,bT,bT,bT,bT,bT,bT,bT,bT,bT,bT,bF,bF,bF,bF,bF,bF,bF,bF,bF,bF,bF,bF,bF,bF,bF,bF,bF,bF,bF,bF,bF,bF,bF,bF,bF,bF,bF] rfl rfl (by kernel_rfl) (fun _ _ _ h => h) (Or.inl ⟨by rfl, ?yyaw9⟩) hS ?haaw9 ?hhaw9
    case yyaw9 => intro W hW; have m0 := (blk_cell (blk_below X1.out hW) 0).trans rfl; have n0 := (blk_cell (blk_below X2.out hW) 0).trans rfl; obtain ⟨f0, f1, f2⟩ := cl3 (blk_below XF.out hW); go_simp; done
    case haaw9 => try simp only [Act.put, sA_, sZ_, sS_]; exact rfl
    refine take_ (i := 11) (N := some 30) (v := .pointer (some ⟨gf, 0, none⟩)) (a' := ?axaw10) #[bT,bT,bT,bT,bT,bT,bT,bT,bT,bT,bT,bT,bF,bF,bF,bF,bF,bF,bF,bF,bF,bF,bF,bF,bF,bF,bF,bF,bF,bF,bF,bF,bF,bF,bF,bF,bF,bF] rfl rfl (by kernel_rfl) (fun _ _ _ h => h) (Or.inl ⟨by rfl, ?yyaw10⟩) hS ?haaw10 ?hhaw10
    case yyaw10 => intro W hW; have m0 := (blk_cell (blk_below X1.out hW) 0).trans rfl; have n0 := (blk_cell (blk_below X2.out hW) 0).trans rfl; obtain ⟨f0, f1, f2⟩ := cl3 (blk_below XF.out hW); go_simp; done
    case haaw10 => try simp only [Act.put, sA_, sZ_, sS_]; exact rfl
    refine take_ (i := 12) (N := some 31) (v := .agg #[.int .i64 0, .int .i64 1, .slice (some ⟨gb, 0, none⟩) 1 1]) (a' := ?axaw11) #[bT,bT,bT,bT,bT,bT,bT,bT,bT,bT,bT,bT,bT,bF,bF,bF,bF,bF,bF,bF,bF,bF,bF,bF,bF,bF,bF,bF,bF,bF,bF,bF,bF,bF,bF,bF,bF,bF] rfl rfl (by kernel_rfl) (fun _ _ _ h => h) (Or.inl ⟨by rfl, ?yyaw11⟩) hS ?haaw11 ?hhaw11
    case yyaw11 => intro W hW; have m0 := (blk_cell (blk_below X1.out hW) 0).trans rfl; have n0 := (blk_cell (blk_below X2.out hW) 0).trans rfl; obtain ⟨f0, f1, f2⟩ := cl3 (blk_below XF.out hW); go_simp; done
    case haaw11 => try simp only [Act.put, sA_, sZ_, sS_]; exact rfl
    refine one_ (i := 13) (N := some 32) #[bT,bT,bT,bT,bT,bT,bT,bT,bT,bT,bT,bT,bT,bT,bF,bF,bF,bF,bF,bF,bF,bF,bF,bF,bF,bF,bF,bF,bF,bF,bF,bF,bF,bF,bF,bF,bF,bF] rfl rfl (by kernel_rfl) (by decide) (fun K hK => ?_)
    refine goes_ Try.func18 (by kernel_rfl) rfl #[.agg #[.slice (some ⟨gf, 0, none⟩) 1 1], .agg #[.int .i64 0, .int .i64 1, .slice (some ⟨gb, 0, none⟩) 1 1]] (by rfl) rfl rfl (by simp only [List.map_toArray, List.map_cons, List.map_nil]; rfl) ?_
    refine (funcm_c _ 1 gb _ (Kd.C_below HCM.out hS) (Kd.C_below HCB.out hS)).mono ?_
    rintro e w7 ⟨rfl, hb⟩
    refine ⟨_, rfl, ?_⟩
    have hS' := hS.trans (hb.mono hS.size)
    clear hb
    refine hK _ _ hS' (fun hS => ?_)
    clear hK K
    try simp only [Act.put, sA_, sZ_, sS_]
    refine take_ (i := 14) (N := some 33) (v := .bool true) (a' := ?axaw12) #[bT,bT,bT,bT,bT,bT,bT,bT,bT,bT,bT,bT,bT,bT,bT,bF,bF,bF,bF,bF,bF,bF,bF,bF,bF,bF,bF,bF,bF,bF,bF,bF,bF,bF,bF,bF,bF,bF] rfl rfl (by kernel_rfl) (fun _ _ _ h => h) (Or.inl ⟨by rfl, ?yyaw12⟩) hS ?haaw12 ?hhaw12
    case yyaw12 => intro W hW; have m0 := (blk_cell (blk_below X1.out hW) 0).trans rfl; have n0 := (blk_cell (blk_below X2.out hW) 0).trans rfl; obtain ⟨f0, f1, f2⟩ := cl3 (blk_below XF.out hW); go_simp; done
    case haaw12 => try simp only [Act.put, sA_, sZ_, sS_]; exact rfl
    refine take_ (i := 15) (N := some 34) (v := .bool true) (a' := ?axaw13) #[bT,bT,bT,bT,bT,bT,bT,bT,bT,bT,bT,bT,bT,bT,bT,bT,bF,bF,bF,bF,bF,bF,bF,bF,bF,bF,bF,bF,bF,bF,bF,bF,bF,bF,bF,bF,bF,bF] rfl rfl (by kernel_rfl) (fun _ _ _ h => h) (Or.inl ⟨by rfl, ?yyaw13⟩) hS ?haaw13 ?hhaw13
    case yyaw13 => intro W hW; have m0 := (blk_cell (blk_below X1.out hW) 0).trans rfl; have n0 := (blk_cell (blk_below X2.out hW) 0).trans rfl; obtain ⟨f0, f1, f2⟩ := cl3 (blk_below XF.out hW); go_simp; done
    case haaw13 => try simp only [Act.put, sA_, sZ_, sS_]; exact rfl
    refine take_ (i := 16) (N := some 35) (v := .agg #[.slice (some ⟨g0, 0, none⟩) 1 c]) (a' := ?axaw14) #[bT,bT,bT,bT,bT,bT,bT,bT,bT,bT,bT,bT,bT,bT,bT,bT,bT,bF,bF,bF,bF,bF,bF,bF,bF,bF,bF,bF,bF,bF,bF,bF,bF,bF,bF,bF,bF,bF] rfl rfl (by kernel_rfl) (fun _ _ _ h => h) (Or.inl ⟨by rfl, ?yyaw14⟩) hS ?haaw14 ?hhaw14
    case yyaw14 => intro W hW; have m0 := (blk_cell (blk_below X1.out hW) 0).trans rfl; have n0 := (blk_cell (blk_below X2.out hW) 0).trans rfl; obtain ⟨f0, f1, f2⟩ := cl3 (blk_below XF.out hW); go_simp; done
    case haaw14 => try simp only [Act.put, sA_, sZ_, sS_]; exact rfl
    refine take_ (i := 17) (N := some 36) (v := .agg #[.slice (some ⟨gf, 0, none⟩) 1 1]) (a' := ?axaw15) #[bT,bT,bT,bT,bT,bT,bT,bT,bT,bT,bT,bT,bT,bT,bT,bT,bT,bT,bF,bF,bF,bF,bF,bF,bF,bF,bF,bF,bF,bF,bF,bF,bF,bF,bF,bF,bF,bF] rfl rfl (by kernel_rfl) (fun _ _ _ h => h) (Or.inl ⟨by rfl, ?yyaw15⟩) hS ?haaw15 ?hhaw15
    case yyaw15 => intro W hW; have m0 := (blk_cell (blk_below X1.out hW) 0).trans rfl; have n0 := (blk_cell (blk_below X2.out hW) 0).trans rfl; obtain ⟨f0, f1, f2⟩ := cl3 (blk_below XF.out hW); go_simp; done
    case haaw15 => try simp only [Act.put, sA_, sZ_, sS_]; exact rfl
    refine one_ (i := 18) (N := some 37) #[bT,bT,bT,bT,bT,bT,bT,bT,bT,bT,bT,bT,bT,bT,bT,bT,bT,bT,bT,bF,bF,bF,bF,bF,bF,bF,bF,bF,bF,bF,bF,bF,bF,bF,bF,bF,bF,bF] rfl rfl (by kernel_rfl) (by decide) (fun K hK => ?_)
    refine goes_ Try.func25 (by kernel_rfl) rfl #[.agg #[.slice (some ⟨g0, 0, none⟩) 1 c], .agg #[.slice (some ⟨gf, 0, none⟩) 1 1]] (by rfl) rfl rfl (by simp only [List.map_toArray, List.map_cons, List.map_nil]; rfl) ?_
    refine (samen_c _ c _ 1 _ (Kd.C_below HCN.out hS) (Kd.C_below HCM.out hS)).mono ?_
    rintro e w7 ⟨rfl, hb⟩
    refine ⟨_, rfl, ?_⟩
    have hS' := hS.trans (hb.mono hS.size)
    clear hb
    refine hK _ _ hS' (fun hS => ?_)
    clear hK K
    try simp only [Act.put, sA_, sZ_, sS_]
    refine take_ (i := 19) (N := some 38) (v := .bool true) (a' := ?axaw16) #[bT,bT,bT,bT,bT,bT,bT,bT,bT,bT,bT,bT,bT,bT,bT,bT,bT,bT,bT,bT,bF,bF,bF,bF,bF,bF,bF,bF,bF,bF,bF,bF,bF,bF,bF,bF,bF,bF] rfl rfl (by kernel_rfl) (fun _ _ _ h => h) (Or.inl ⟨by rfl, ?yyaw16⟩) hS ?haaw16 ?hhaw16
    case yyaw16 => intro W hW; have m0 := (blk_cell (blk_below X1.out hW) 0).trans rfl; have n0 := (blk_cell (blk_below X2.out hW) 0).trans rfl; obtain ⟨f0, f1, f2⟩ := cl3 (blk_below XF.out hW); go_simp; done
    case haaw16 => try simp only [Act.put, sA_, sZ_, sS_]; exact rfl
    refine take_ (i := 20) (N := some 39) (v := .bool true) (a' := ?axaw17) #[bT,bT,bT,bT,bT,bT,bT,bT,bT,bT,bT,bT,bT,bT,bT,bT,bT,bT,bT,bT,bT,bF,bF,bF,bF,bF,bF,bF,bF,bF,bF,bF,bF,bF,bF,bF,bF,bF] rfl rfl (by kernel_rfl) (fun _ _ _ h => h) (Or.inl ⟨by rfl, ?yyaw17⟩) hS ?haaw17 ?hhaw17
    case yyaw17 => intro W hW; have m0 := (blk_cell (blk_below X1.out hW) 0).trans rfl; have n0 := (blk_cell (blk_below X2.out hW) 0).trans rfl; obtain ⟨f0, f1, f2⟩ := cl3 (blk_below XF.out hW); go_simp; done
    case haaw17 => try simp only [Act.put, sA_, sZ_, sS_]; exact rfl
    refine take_ (i := 21) (N := some 40) (v := .bool true) (a' := ?axaw18) #[bT,bT,bT,bT,bT,bT,bT,bT,bT,bT,bT,bT,bT,bT,bT,bT,bT,bT,bT,bT,bT,bT,bF,bF,bF,bF,bF,bF,bF,bF,bF,bF,bF,bF,bF,bF,bF,bF] rfl rfl (by kernel_rfl) (fun _ _ _ h => h) (Or.inl ⟨by rfl, ?yyaw18⟩) hS ?haaw18 ?hhaw18
    case yyaw18 => intro W hW; have m0 := (blk_cell (blk_below X1.out hW) 0).trans rfl; have n0 := (blk_cell (blk_below X2.out hW) 0).trans rfl; obtain ⟨f0, f1, f2⟩ := cl3 (blk_below XF.out hW); go_simp; done
    case haaw18 => try simp only [Act.put, sA_, sZ_, sS_]; exact rfl
    refine pure_ (i := 22) (N := some 41) (v := .pointer (some ⟨g1, 0, none⟩)) (a' := ?axaw19) #[bT,bT,bT,bT,bT,bT,bT,bT,bT,bT,bT,bT,bT,bT,bT,bT,bT,bT,bT,bT,bT,bT,bT,bF,bF,bF,bF,bF,bF,bF,bF,bF,bF,bF,bF,bF,bF,bF] rfl rfl (by kernel_rfl) (fun _ _ _ h => h) (Or.inl ⟨by rfl, ?yyaw19⟩) ?haaw19 ?hhaw19
    case yyaw19 => intro W; go_simp; done
    case haaw19 => try simp only [Act.put, sA_, sZ_, sS_]; exact rfl
    refine take_ (i := 23) (N := some 42) (v := .slice (some ⟨gf, 0, none⟩) 1 1) (a' := ?axaw20) #[bT,bT,bT,bT,bT,bT,bT,bT,bT,bT,bT,bT,bT,bT,bT,bT,bT,bT,bT,bT,bT,bT,bT,bT,bF,bF,bF,bF,bF,bF,bF,bF,bF,bF,bF,bF,bF,bF] rfl rfl (by kernel_rfl) (fun _ _ _ h => h) (Or.inl ⟨by rfl, ?yyaw20⟩) hS ?haaw20 ?hhaw20
    case yyaw20 => intro W hW; have m0 := (blk_cell (blk_below X1.out hW) 0).trans rfl; have n0 := (blk_cell (blk_below X2.out hW) 0).trans rfl; obtain ⟨f0, f1, f2⟩ := cl3 (blk_below XF.out hW); go_simp; done
    case haaw20 => try simp only [Act.put, sA_, sZ_, sS_]; exact rfl
    refine take_ (i := 24) (N := some 43) (v := .pointer (some ⟨gf, 0, none⟩)) (a' := ?axaw21) #[bT,bT,bT,bT,bT,bT,bT,bT,bT,bT,bT,bT,bT,bT,bT,bT,bT,bT,bT,bT,bT,bT,bT,bT,bT,bF,bF,bF,bF,bF,bF,bF,bF,bF,bF,bF,bF,bF] rfl rfl (by kernel_rfl) (fun _ _ _ h => h) (Or.inl ⟨by rfl, ?yyaw21⟩) hS ?haaw21 ?hhaw21
    case yyaw21 => intro W hW; have m0 := (blk_cell (blk_below X1.out hW) 0).trans rfl; have n0 := (blk_cell (blk_below X2.out hW) 0).trans rfl; obtain ⟨f0, f1, f2⟩ := cl3 (blk_below XF.out hW); go_simp; done
    case haaw21 => try simp only [Act.put, sA_, sZ_, sS_]; exact rfl
    refine take_ (i := 25) (N := some 44) (v := .agg #[.int .i64 0, .int .i64 1, .slice (some ⟨gb, 0, none⟩) 1 1]) (a' := ?axaw22) #[bT,bT,bT,bT,bT,bT,bT,bT,bT,bT,bT,bT,bT,bT,bT,bT,bT,bT,bT,bT,bT,bT,bT,bT,bT,bT,bF,bF,bF,bF,bF,bF,bF,bF,bF,bF,bF,bF] rfl rfl (by kernel_rfl) (fun _ _ _ h => h) (Or.inl ⟨by rfl, ?yyaw22⟩) hS ?haaw22 ?hhaw22
    case yyaw22 => intro W hW; have m0 := (blk_cell (blk_below X1.out hW) 0).trans rfl; have n0 := (blk_cell (blk_below X2.out hW) 0).trans rfl; obtain ⟨f0, f1, f2⟩ := cl3 (blk_below XF.out hW); go_simp; done
    case haaw22 => try simp only [Act.put, sA_, sZ_, sS_]; exact rfl
    refine one_ (i := 26) (N := some 45) #[bT,bT,bT,bT,bT,bT,bT,bT,bT,bT,bT,bT,bT,bT,bT,bT,bT,bT,bT,bT,bT,bT,bT,bT,bT,bT,bT,bF,bF,bF,bF,bF,bF,bF,bF,bF,bF,bF] rfl rfl (by kernel_rfl) (by decide) (fun K hK => ?_)
    refine goes_ Try.func20 (by kernel_rfl) rfl #[.agg #[.int .i64 0, .int .i64 1, .slice (some ⟨gb, 0, none⟩) 1 1]] (by rfl) rfl rfl (by simp only [List.map_toArray, List.map_cons, List.map_nil]; rfl) ?_
    refine (cleans2_c gb _ (Kd.C_below HCB.out hS)).mono ?_
    rintro e w7 ⟨⟨Ac, cc, rfl⟩, hb⟩
    refine ⟨_, rfl, ?_⟩
    have hS' := hS.trans (hb.mono hS.size)
    clear hb
    refine hK _ _ hS' (fun hS => ?_)
    clear hK K
    try simp only [Act.put, sA_, sZ_, sS_]
    refine take_ (i := 27) (N := some 46) (v := .int .i64 1) (a' := ?axaw23) #[bT,bT,bT,bT,bT,bT,bT,bT,bT,bT,bT,bT,bT,bT,bT,bT,bT,bT,bT,bT,bT,bT,bT,bT,bT,bT,bT,bT,bF,bF,bF,bF,bF,bF,bF,bF,bF,bF] rfl rfl (by kernel_rfl) (fun _ _ _ h => h) (Or.inl ⟨by rfl, ?yyaw23⟩) hS ?haaw23 ?hhaw23
    case yyaw23 => intro W hW; have m0 := (blk_cell (blk_below X1.out hW) 0).trans rfl; have n0 := (blk_cell (blk_below X2.out hW) 0).trans rfl; obtain ⟨f0, f1, f2⟩ := cl3 (blk_below XF.out hW); go_simp; done
    case haaw23 => try simp only [Act.put, sA_, sZ_, sS_]; exact rfl
    refine take_ (i := 28) (N := some 47) (v := .bool true) (a' := ?axaw24) #[bT,bT,bT,bT,bT,bT,bT,bT,bT,bT,bT,bT,bT,bT,bT,bT,bT,bT,bT,bT,bT,bT,bT,bT,bT,bT,bT,bT,bT,bF,bF,bF,bF,bF,bF,bF,bF,bF] rfl rfl (by kernel_rfl) (fun _ _ _ h => h) (Or.inl ⟨by rfl, ?yyaw24⟩) hS ?haaw24 ?hhaw24
    case yyaw24 => intro W hW; have m0 := (blk_cell (blk_below X1.out hW) 0).trans rfl; have n0 := (blk_cell (blk_below X2.out hW) 0).trans rfl; obtain ⟨f0, f1, f2⟩ := cl3 (blk_below XF.out hW); go_simp; done
    case haaw24 => try simp only [Act.put, sA_, sZ_, sS_]; exact rfl
    refine take_ (i := 29) (N := some 48) (v := .bool true) (a' := ?axaw25) #[bT,bT,bT,bT,bT,bT,bT,bT,bT,bT,bT,bT,bT,bT,bT,bT,bT,bT,bT,bT,bT,bT,bT,bT,bT,bT,bT,bT,bT,bT,bF,bF,bF,bF,bF,bF,bF,bF] rfl rfl (by kernel_rfl) (fun _ _ _ h => h) (Or.inl ⟨by rfl, ?yyaw25⟩) hS ?haaw25 ?hhaw25
    case yyaw25 => intro W hW; have m0 := (blk_cell (blk_below X1.out hW) 0).trans rfl; have n0 := (blk_cell (blk_below X2.out hW) 0).trans rfl; obtain ⟨f0, f1, f2⟩ := cl3 (blk_below XF.out hW); go_simp; done
    case haaw25 => try simp only [Act.put, sA_, sZ_, sS_]; exact rfl
    refine take_ (i := 30) (N := some 49) (v := .bool true) (a' := ?axaw26) #[bT,bT,bT,bT,bT,bT,bT,bT,bT,bT,bT,bT,bT,bT,bT,bT,bT,bT,bT,bT,bT,bT,bT,bT,bT,bT,bT,bT,bT,bT,bT,bF,bF,bF,bF,bF,bF,bF] rfl rfl (by kernel_rfl) (fun _ _ _ h => h) (Or.inl ⟨by rfl, ?yyaw26⟩) hS ?haaw26 ?hhaw26
    case yyaw26 => intro W hW; have m0 := (blk_cell (blk_below X1.out hW) 0).trans rfl; have n0 := (blk_cell (blk_below X2.out hW) 0).trans rfl; obtain ⟨f0, f1, f2⟩ := cl3 (blk_below XF.out hW); go_simp; done
    case haaw26 => try simp only [Act.put, sA_, sZ_, sS_]; exact rfl
    refine take_ (i := 31) (N := some 50) (v := .agg #[.int .i64 3, .int .i64 0, .int .i64 0, .int .i64 0, .slice none 0 0, .int .i64 0, .int .i64 0, .int .i64 0]) (a' := ?axaw27) #[bT,bT,bT,bT,bT,bT,bT,bT,bT,bT,bT,bT,bT,bT,bT,bT,bT,bT,bT,bT,bT,bT,bT,bT,bT,bT,bT,bT,bT,bT,bT,bT,bF,bF,bF,bF,bF,bF] rfl rfl (by kernel_rfl) (fun _ _ _ h => h) (Or.inl ⟨by rfl, ?yyaw27⟩) hS ?haaw27 ?hhaw27
    case yyaw27 => intro W hW; have m0 := (blk_cell (blk_below X1.out hW) 0).trans rfl; have n0 := (blk_cell (blk_below X2.out hW) 0).trans rfl; obtain ⟨f0, f1, f2⟩ := cl3 (blk_below XF.out hW); go_simp; done
    case haaw27 => try simp only [Act.put, sA_, sZ_, sS_]; exact rfl
    refine take_ (i := 32) (N := some 51) (v := .agg #[.bool false, .int .i64 0, .slice none 0 0, .bool false, .bool false, .slice none 0 0, .int .i64 3, .int .i64 0, .int .i64 0, .int .i64 0, .slice none 0 0, .int .i64 0, .int .i64 0, .int .i64 0]) (a' := ?axaw28) #[bT,bT,bT,bT,bT,bT,bT,bT,bT,bT,bT,bT,bT,bT,bT,bT,bT,bT,bT,bT,bT,bT,bT,bT,bT,bT,bT,bT,bT,bT,bT,bT,bT,bF,bF,bF,bF,bF] rfl rfl (by kernel_rfl) (fun _ _ _ h => h) (Or.inl ⟨by rfl, ?yyaw28⟩) hS ?haaw28 ?hhaw28
    case yyaw28 => intro W hW; have m0 := (blk_cell (blk_below X1.out hW) 0).trans rfl; have n0 := (blk_cell (blk_below X2.out hW) 0).trans rfl; obtain ⟨f0, f1, f2⟩ := cl3 (blk_below XF.out hW); go_simp; done
    case haaw28 => try simp only [Act.put, sA_, sZ_, sS_]; exact rfl
    refine one_ (i := 33) (N := some 52) #[bT,bT,bT,bT,bT,bT,bT,bT,bT,bT,bT,bT,bT,bT,bT,bT,bT,bT,bT,bT,bT,bT,bT,bT,bT,bT,bT,bT,bT,bT,bT,bT,bT,bT,bF,bF,bF,bF] rfl rfl (by kernel_rfl) (by decide) (fun K hK => ?_)
    refine goes_ Try.func23 (by kernel_rfl) rfl #[.agg #[.bool false, .int .i64 0, .slice none 0 0, .bool false, .bool false, .slice none 0 0, .int .i64 3, .int .i64 0, .int .i64 0, .int .i64 0, .slice none 0 0, .int .i64 0, .int .i64 0, .int .i64 0]] (by rfl) rfl rfl (by simp only [List.map_toArray, List.map_cons, List.map_nil]; rfl) ?_
    refine (goals2_c _).mono ?_
    rintro e w7 ⟨⟨Ag, cg, rfl⟩, hb⟩
    refine ⟨_, rfl, ?_⟩
    have hS' := hS.trans (hb.mono hS.size)
    clear hb
    refine hK _ _ hS' (fun hS => ?_)
    clear hK K
    try simp only [Act.put, sA_, sZ_, sS_]
    refine take_ (i := 34) (N := some 53) (v := .int .i64 2) (a' := ?axaw29) #[bT,bT,bT,bT,bT,bT,bT,bT,bT,bT,bT,bT,bT,bT,bT,bT,bT,bT,bT,bT,bT,bT,bT,bT,bT,bT,bT,bT,bT,bT,bT,bT,bT,bT,bT,bF,bF,bF] rfl rfl (by kernel_rfl) (fun _ _ _ h => h) (Or.inl ⟨by rfl, ?yyaw29⟩) hS ?haaw29 ?hhaw29
    case yyaw29 => intro W hW; have m0 := (blk_cell (blk_below X1.out hW) 0).trans rfl; have n0 := (blk_cell (blk_below X2.out hW) 0).trans rfl; obtain ⟨f0, f1, f2⟩ := cl3 (blk_below XF.out hW); go_simp; done
    case haaw29 => try simp only [Act.put, sA_, sZ_, sS_]; exact rfl
    refine take_ (i := 35) (N := some 54) (v := .bool true) (a' := ?axaw30) #[bT,bT,bT,bT,bT,bT,bT,bT,bT,bT,bT,bT,bT,bT,bT,bT,bT,bT,bT,bT,bT,bT,bT,bT,bT,bT,bT,bT,bT,bT,bT,bT,bT,bT,bT,bT,bF,bF] rfl rfl (by kernel_rfl) (fun _ _ _ h => h) (Or.inl ⟨by rfl, ?yyaw30⟩) hS ?haaw30 ?hhaw30
    case yyaw30 => intro W hW; have m0 := (blk_cell (blk_below X1.out hW) 0).trans rfl; have n0 := (blk_cell (blk_below X2.out hW) 0).trans rfl; obtain ⟨f0, f1, f2⟩ := cl3 (blk_below XF.out hW); go_simp; done
    case haaw30 => try simp only [Act.put, sA_, sZ_, sS_]; exact rfl
    refine take_ (i := 36) (N := some 55) (v := .bool true) (a' := ?axaw31) #[bT,bT,bT,bT,bT,bT,bT,bT,bT,bT,bT,bT,bT,bT,bT,bT,bT,bT,bT,bT,bT,bT,bT,bT,bT,bT,bT,bT,bT,bT,bT,bT,bT,bT,bT,bT,bT,bF] rfl rfl (by kernel_rfl) (fun _ _ _ h => h) (Or.inl ⟨by rfl, ?yyaw31⟩) hS ?haaw31 ?hhaw31
    case yyaw31 => intro W hW; have m0 := (blk_cell (blk_below X1.out hW) 0).trans rfl; have n0 := (blk_cell (blk_below X2.out hW) 0).trans rfl; obtain ⟨f0, f1, f2⟩ := cl3 (blk_below XF.out hW); go_simp; done
    case haaw31 => try simp only [Act.put, sA_, sZ_, sS_]; exact rfl
    refine take_ (i := 37) (N := some 0) (v := .bool true) (a' := ?axaw32) #[bT,bT,bT,bT,bT,bT,bT,bT,bT,bT,bT,bT,bT,bT,bT,bT,bT,bT,bT,bT,bT,bT,bT,bT,bT,bT,bT,bT,bT,bT,bT,bT,bT,bT,bT,bT,bT,bT] rfl rfl (by kernel_rfl) (fun _ _ _ h => h) (Or.inl ⟨by rfl, ?yyaw32⟩) hS ?haaw32 ?hhaw32
    case yyaw32 => intro W hW; have m0 := (blk_cell (blk_below X1.out hW) 0).trans rfl; have n0 := (blk_cell (blk_below X2.out hW) 0).trans rfl; obtain ⟨f0, f1, f2⟩ := cl3 (blk_below XF.out hW); go_simp; done
    case haaw32 => try simp only [Act.put, sA_, sZ_, sS_]; exact rfl
    refine done_ (by kernel_rfl) ?_
    go_wp2
    go_ret
    exact ⟨rfl, HB.out.trans (hS.mono HB.out.size)⟩
end Go.Proofs.Ytbfialebaoeicaa.X
