/- Part 24 of the proof of the statement ShapeRight: the words of the walks, the walks through the functions that it reaches, and the plain laws of what they compute. -/
import Derived.Test.YtbfialebaoeicaaMShapeRight22
import Derived.RegionTactic
import Derived.ChangeAlike
import Derived.Deep.QuietTactic
import Derived.BigQuiet
import Derived.Deep.MidRow
import Derived.StillTailTactics
namespace Go.Proofs.Ytbfialebaoeicaa.X
open Go.RowKit Go.Proofs.YtbfialebaoeicaaW.PrintWords Go.Proofs.YtbfialebaoeicaaW.PrintLast Go.Proofs.YtbfialebaoeicaaW.PrintMore
set_option linter.all false
theorem infoBo : (Try.prog.info? 4).map (fun i => (i.zero, i.size, i.bytes)) = some (some (.bool false), 1, 1) := by kernel_rfl
set_option maxHeartbeats 16000000 in
set_option maxRecDepth 100000 in
theorem cleans0_c (f : S27) (A1 : Option Addr) (c1 : Nat) (w : World) (hC : Kd.C k41 w A1 f.f2.length f.f2) (hn : f.f2.length ≤ 1000000) (hl : ∀ b ∈ f.f2, b.f0 = false) :
  Calls Try.prog 20 #[.agg #[.int .i64 f.f0, .int .i64 f.f1, .slice A1 f.f2.length c1]] w fun e w' => (∃ A c, e = .returned (.slice A f.f2.length c)) ∧ Below w.heap.size w w' := by
 have HC := Aside0.mk hC
 have HN := Aside0.mk hn
 have HL := Aside0.mk hl
 clear hC hn hl
 have hu27 := Try.underlying27
 have hu41 := Try.underlying41
 have hu35 := Try.underlying35
 go_enter Try.func20, Try.ntmps20
 go_wp2_with (first | ((with_reducible refine gate_dst (N := 1) rfl ?_); refine box_event ?hg (N := 1) ?hd (cs := #[.int .i64 f.f0, .int .i64 f.f1, .slice A1 f.f2.length c1]) (t := 27) ?hr ?_; (case hd => rfl); (case hg => rfl); (case hr => first | (go_simp; done) | (go_simp; rfl)); intro g1 hg w1 hbox hb; have HLX1 := Aside0.mk (show w.heap.size ≤ g1 by rw [hg]; exact Nat.le_refl _); have HB := Aside0.mk hb; have X1 := Aside0.mk hbox; clear hbox hb hg; obtain ⟨h0, h1, h2⟩ := cl3 X1.out; obtain ⟨zh0, zh1, zh2⟩ := fz3 X1.out) | ((with_reducible refine gate_dst (N := 11) rfl ?_); refine Kd.R_make Kd.bool w1.heap.size 4 rfl (N := 11) rfl 31 (.tmp 10) (.tmp 10) rfl (f.f2.length : Int) rfl rfl Try.underlying31 _ _ infoBo rfl (Nat.succ_pos _) (by omega) false (ok := fun _ => True) (okp := fun _ => True) rfl (fun _ h => h) trivial (by omega) (by have := HN.out; simp; omega) (Below.refl _ _) (Nat.le_refl _) ?_; intro v11 w11 hr hb hg hnew; obtain ⟨AO, cO, he, hl_, _⟩ := Kd.R_reads hr; rw [List.length_replicate, Int.toNat_natCast] at he; subst he; clear h0 zh0 h1 zh1 h2 zh2; replace HB := Aside0.mk (below_step HB.out hb); replace X1 := Aside0.mk (blk_below X1.out hb); clear hr hb hg hnew hl_; obtain ⟨h0, h1, h2⟩ := cl3 X1.out; obtain ⟨zh0, zh1, zh2⟩ := fz3 X1.out))
 clear h0 zh0 h1 zh1 h2 zh2
 go_loopg [4, 15] 1000000 (fun gg s4 s wr => ∃ x : Int, s4 = .slice none 0 0 ∧ s = .int .i64 x ∧ Aside0 (0 ≤ x ∧ x ≤ f.f2.length ∧ (f.f2.length : Int) - x ≤ gg) ∧ Aside0 (Below w.heap.size w wr) ∧ Aside0 (wr.heap[g1]? = some (.cells #[.int .i64 f.f0, .int .i64 f.f1, .slice A1 f.f2.length c1] 27 (0, 0))))
 case atStart => exact ⟨0, rfl, rfl, ⟨by have := HN.out; omega⟩, HB, X1⟩
 case round =>
  clear HB X1
  obtain ⟨x, rfl, rfl, HX, HB, X1⟩ := hrel
  obtain ⟨h0, h1, h2⟩ := cl3 X1.out
  by_cases hlt : x < (f.f2.length : Int)
  rotate_left
  ·have hd : decide (x < (f.f2.length : Int)) = false := decide_eq_false hlt
   clear hlt
   go_wp2
   clear h0 h1 h2
   go_loopg [4] 1 (fun gg s wr => s = .slice none 0 0 ∧ Aside0 (Below w.heap.size w wr))
   case atStart => exact ⟨rfl, HB⟩
   case round =>
    clear HB X1
    obtain ⟨rfl, HB⟩ := hrel
    go_wp2
    go_ret
    exact ⟨⟨_, _, rfl⟩, HB.out⟩
  have hd : decide (x < (f.f2.length : Int)) = true := decide_eq_true hlt
  have HLT := Aside0.mk hlt
  clear hlt
  have p1 : (0 ≤ x) = True := eq_true HX.out.1
  have p2 : (x < (f.f2.length : Int)) = True := eq_true HLT.out
  obtain ⟨ad, A4, c4, A5, c5, A6, c6, e1, y0, y1, y2, y3, y4, y5, y6, y7, y8, y9, y10, y11, y12, y13, _⟩ := at_T41 (Kd.C_below HC.out HB.out) x HX.out.1 HLT.out
  subst e1
  rw [HL.out _ (show rd_T41 f.f2 x ∈ f.f2 from rd_mem' f.f2 z41 x HX.out.1 HLT.out)] at y0
  generalize rd_T41 f.f2 x = b at *
  go_upto_region 5 with (fail)
  go_cut [6, 15] from 15 to 31 (fun v6 v15 wc => ∃ g6 : Nat, v6 = .pointer (some ⟨g6, 0, none⟩) ∧ v15 = .int .i64 x ∧ Aside0 (Below w.heap.size w wc) ∧ Aside0 (wc.heap[g1]? = some (.cells #[.int .i64 f.f0, .int .i64 f.f1, .slice (some ad) f.f2.length c1] 27 (0, 0))) ∧ Aside0 (wc.heap[g6]? = some (.cells #[.bool false, .int .i64 b.f1.f0, .slice A4 b.f1.f1.length c4, .bool b.f1.f2, .bool b.f1.f3, .slice A5 b.f2.length c5, .int .i64 b.f3.f0, .int .i64 b.f3.f1, .int .i64 b.f3.f2, .int .i64 b.f3.f3, .slice A6 b.f3.f4.length c6, .int .i64 b.f3.f5, .int .i64 b.f3.f6, .int .i64 b.f3.f7] 41 (0, 0))))
  case first => go_wp2; go_meet; exact ⟨_, rfl, rfl, ⟨below_alloc HB.out _⟩, ⟨blk_alloc X1.out _⟩, ⟨blk_new _ _⟩⟩
  case rest =>
   clear y0 y1 y2 y3 y4 y5 y6 y7 y8 y9 y10 y11 y12 y13
   clear h0 h1 h2
   clear HB X1 p1 p2 hd
   obtain ⟨g6, rfl, rfl, HB, X1, X6⟩ := hcut
   obtain ⟨e0, e1, e2, e3, e4, e5, e6, e7, e8, e9, e10, e11, e12, e13⟩ := cl14 X6.out
   go_wp2
   have W1 := Aside0.mk (show wrap64 (x + 1) = x + 1 from wrap_in _ (by have := HX.out; omega) (by have := HLT.out; have := HN.out; omega))
   go_roundg ((f.f2.length : Int) - (x + 1)).toNat
   case measure => have h1_ := HX.out; have h2_ := HLT.out; omega
   case rel => exact ⟨x + 1, rfl, by first | (rw [W1.out]; done) | rfl | (simp only [W1.out]; done), ⟨by have := HX.out; have := HLT.out; omega⟩, HB, X1⟩
end Go.Proofs.Ytbfialebaoeicaa.X
namespace Go.Proofs.Ytbfialebaoeicaa.X
open Go.RowKit Go.Proofs.YtbfialebaoeicaaW.PrintWords Go.Proofs.YtbfialebaoeicaaW.PrintLast Go.Proofs.YtbfialebaoeicaaW.PrintMore
set_option linter.all false
theorem S_seg0 {α : Type} {d : Kd α} {e g n cap : Nat} {W : World} {base : Nat} {ok oki okp : Nat → Prop} {xs : List α} {i : Int} {c : List Value} (hH : Kd.H d e W base ok (.slice (some ⟨g, 0, none⟩) n cap) xs i oki c) (h0 : 0 ≤ i) (h1 : i < n) {u : Value} {j : Nat} (hj : j + 1 ≤ d.sz) {x' : α} (hM : d.M W base okp x' (c.take j ++ [u] ++ c.drop (j + 1))) (hokp : ∀ k, okp k → oki k) :
  Kd.S d e (W.setCell ⟨g, i.toNat * d.sz + j, none⟩ u) base ok (.slice (some ⟨g, 0, none⟩) n cap) (xs.set i.toNat x') := by
 have hH' : Kd.H d e W base (fun k => ok k ∧ ¬ (fun _ => False) k) (.slice (some ⟨g, 0, none⟩) n cap) xs i oki c := by
  rw [show (fun k => ok k ∧ ¬ (fun _ => False) k) = ok from funext fun k => by simp]
  exact hH
 exact (Kd.S_seg (d := d) (okg := fun _ => False) (seg := [u]) hH' h0 h1 hj hM (fun k hk => .inl (hokp k hk)) (fun _ hk => hk.elim)).1
theorem SM_reg {w : World} {base : Nat} {ok : Nat → Prop} {g0 n c : Nat} {m : List S27} (h : Kd.S sF 27 w base ok (.slice (some ⟨g0, 0, none⟩) n c) m) (x : Int) (h0 : 0 ≤ x) (h1 : x < (n : Int)) (r : Int) : w.cell? ⟨g0, x.toNat * 3 + 1, none⟩ = some (.int .i64 (rd_T27 m x).f1) ∧ w.frozen? ⟨g0, x.toNat * 3 + 1, none⟩ = false ∧
  Kd.S sF 27 (w.setCell ⟨g0, x.toNat * 3 + 1, none⟩ (.int .i64 r)) base ok (.slice (some ⟨g0, 0, none⟩) n c) (m.set x.toNat ⟨(rd_T27 m x).f0, r, (rd_T27 m x).f2⟩) := by
 obtain ⟨oki, c1, hcl, hM, hcc, hfr, hok, hH⟩ := Kd.S_elem h z27 x h0 h1
 obtain ⟨v2, rfl, hS⟩ := hM
 exact ⟨hcc 1 _ rfl, hfr 1, S_seg0 (d := sF) hH h0 h1 (j := 1) (by decide) ⟨v2, rfl, hS⟩ (fun _ h => h)⟩
end Go.Proofs.Ytbfialebaoeicaa.X
namespace Go.Proofs.Ytbfialebaoeicaa.X
open Go.RowKit Go.Proofs.YtbfialebaoeicaaW.PrintWords Go.Proofs.YtbfialebaoeicaaW.PrintLast Go.Proofs.YtbfialebaoeicaaW.PrintMore
set_option linter.all false
def bRa : S41 := ⟨false, ⟨0, [], false, false⟩, [], ⟨1, 0, 0, 0, [], 0, 0, 0⟩⟩
def f2a : S27 := ⟨0, 1, [bRa]⟩
def m2a : List S27 := [f2a]
def n2a : List S27 := [⟨0, 0, [bRa]⟩]
theorem m2a_r : rightR m2a = true := by decide +kernel
theorem n2a_r : rightR n2a = false := by decide +kernel
theorem f2a_r : funcR m2a f2a = true := by decide +kernel
theorem n2a_e : eqL funcE n2a m2a = false := by decide +kernel
theorem C_uno {α : Type} (d : Kd α) {w : World} {g : Nat} {t : TypeId} (x : α) (cs : List Value) (hl : cs.length = d.sz) (hK : d.K w x cs) (h : w.heap[g]? = some (.cells cs.toArray t (0, 0))) : Kd.C d w (some ⟨g, 0, none⟩) 1 [x] := by
 refine ⟨rfl, by decide, fun _ => ⟨_, rfl, fun j p hj => ?_⟩⟩
 obtain rfl : j = 0 := by have := (List.getElem?_eq_some_iff.1 hj).1; simp at this; exact this
 simp at hj
 subst hj
 refine ⟨cs, hl, hK, fun i u hu => ?_⟩
 rw [Nat.zero_mul, Nat.zero_add, add_plain, blk_cell h i]
 simpa using hu
theorem C_none {α : Type} (d : Kd α) (w : World) : Kd.C d w none 0 ([] : List α) := Kd.C_nil d w
theorem bRa_C {w : World} {gb : Nat} (h : w.heap[gb]? = some (.cells #[.bool false, .int .i64 0, .slice none 0 0, .bool false, .bool false, .slice none 0 0, .int .i64 1, .int .i64 0, .int .i64 0, .int .i64 0, .slice none 0 0, .int .i64 0, .int .i64 0, .int .i64 0] 41 (0, 0))) : Kd.C k41 w (some ⟨gb, 0, none⟩) 1 [bRa] :=
 C_uno k41 bRa [.bool false, .int .i64 0, .slice none 0 0, .bool false, .bool false, .slice none 0 0, .int .i64 1, .int .i64 0, .int .i64 0, .int .i64 0, .slice none 0 0, .int .i64 0, .int .i64 0, .int .i64 0] rfl (k41_mk w bRa (A2 := none) (c2 := 0) (by decide) (C_none _ _) (A5 := none) (c5 := 0) (by decide) (C_none _ _) (A10 := none) (c10 := 0) (by decide) (C_none _ _)) h
theorem m2a_C {w : World} {gb gf : Nat} (h : w.heap[gb]? = some (.cells #[.bool false, .int .i64 0, .slice none 0 0, .bool false, .bool false, .slice none 0 0, .int .i64 1, .int .i64 0, .int .i64 0, .int .i64 0, .slice none 0 0, .int .i64 0, .int .i64 0, .int .i64 0] 41 (0, 0))) (h2 : w.heap[gf]? = some (.cells #[.int .i64 0, .int .i64 1, .slice (some ⟨gb, 0, none⟩) 1 1] 27 (0, 0))) : Kd.C k27 w (some ⟨gf, 0, none⟩) 1 m2a :=
 C_uno k27 f2a [.int .i64 0, .int .i64 1, .slice (some ⟨gb, 0, none⟩) 1 1] rfl (k27_mk w f2a (A2 := some ⟨gb, 0, none⟩) (c2 := 1) (by decide) (bRa_C h)) h2
theorem b1_is {b : S41} (h : b ∈ [bRa]) : b = bRa := by simpa using h
theorem f2a_B (r : Int) : BndF ⟨0, r, [bRa]⟩ := ⟨by show 1 ≤ 1000000; decide, fun b hb => (by rw [b1_is hb]; decide), fun b hb => (by rw [b1_is hb]; decide), fun b hb => (by rw [b1_is hb]; decide), fun b hb x hx => (by rw [b1_is hb] at hx; cases hx)⟩
theorem m2a_B : Bnd m2a := ⟨by decide, fun f hf => (by rw [show f = ⟨0, 1, [bRa]⟩ by simpa [m2a, f2a] using hf]; exact f2a_B 1)⟩
theorem n2a_B : Bnd n2a := ⟨by decide, fun f hf => (by rw [show f = ⟨0, 0, [bRa]⟩ by simpa [n2a] using hf]; exact f2a_B 0)⟩
theorem f2_is {f : S27} (h : f ∈ m2a) : f = ⟨0, 1, [bRa]⟩ := by simpa [m2a, f2a] using h
theorem m2a_BC : BC m2a := ⟨by decide, fun f hf => (by rw [f2_is hf]; decide), fun f hf b hb => (by rw [f2_is hf] at hb; rw [b1_is hb]; decide), fun f hf b hb => (by rw [f2_is hf] at hb; rw [b1_is hb]; decide), fun f hf b hb => (by rw [f2_is hf] at hb; rw [b1_is hb]; decide), fun f hf b hb x hx => (by rw [f2_is hf] at hb; rw [b1_is hb] at hx; cases hx)⟩
theorem goals2_c (w : World) : Calls Try.prog 23 #[.agg #[.bool false, .int .i64 0, .slice none 0 0, .bool false, .bool false, .slice none 0 0, .int .i64 3, .int .i64 0, .int .i64 0, .int .i64 0, .slice none 0 0, .int .i64 0, .int .i64 0, .int .i64 0]] w fun e w' => (∃ A c, e = .returned (.slice A 2 c)) ∧ Below w.heap.size w w' := by
 refine (shape_Goals.calls 1 false 0 none 0 [] false false none 0 [] 3 0 0 0 none 0 [] 0 0 0 [0, 0] w (C_none _ _) (by decide) (C_none _ _) (by decide) (C_none _ _) (by decide) rfl).mono ?_
 rintro e w' ⟨v, rfl, hr, hb⟩
 obtain ⟨A, c, rfl, _⟩ := Kd.R_reads hr
 exact ⟨⟨A, c, rfl⟩, hb⟩
theorem rightm_c (A : Option Addr) (c : Nat) (w : World) (h : Kd.C k27 w A 1 m2a) : Calls Try.prog 16 #[.agg #[.slice A 1 c]] w fun e w' => e = .returned (.bool true) ∧ Below w.heap.size w w' := by
 have h2 := right_l m2a A c w h m2a_B
 rw [m2a_r] at h2
 exact h2
theorem rightn_c (A : Option Addr) (c : Nat) (w : World) (h : Kd.C k27 w A 1 n2a) : Calls Try.prog 16 #[.agg #[.slice A 1 c]] w fun e w' => e = .returned (.bool false) ∧ Below w.heap.size w w' := by
 have h2 := right_l n2a A c w h n2a_B
 rw [n2a_r] at h2
 exact h2
theorem funcm_c (A : Option Addr) (c : Nat) (gb : Nat) (w : World) (h : Kd.C k27 w A 1 m2a) (hb : Kd.C k41 w (some ⟨gb, 0, none⟩) 1 [bRa]) : Calls Try.prog 18 #[.agg #[.slice A 1 c], .agg #[.int .i64 0, .int .i64 1, .slice (some ⟨gb, 0, none⟩) 1 1]] w fun e w' => e = .returned (.bool true) ∧ Below w.heap.size w w' := by
 have h2 := func_l m2a A c f2a (some ⟨gb, 0, none⟩) 1 w h hb (f2a_B 1)
 rw [f2a_r] at h2
 exact h2
theorem samen_c (A : Option Addr) (c : Nat) (A' : Option Addr) (c' : Nat) (w : World) (h : Kd.C k27 w A 1 n2a) (h' : Kd.C k27 w A' 1 m2a) : Calls Try.prog 25 #[.agg #[.slice A 1 c], .agg #[.slice A' 1 c']] w fun e w' => e = .returned (.bool false) ∧ Below w.heap.size w w' := by
 have h2 := same_c n2a A c m2a A' c' w h h' n2a_B
 rw [n2a_e] at h2
 exact h2
theorem cleans2_c (gb : Nat) (w : World) (hb : Kd.C k41 w (some ⟨gb, 0, none⟩) 1 [bRa]) : Calls Try.prog 20 #[.agg #[.int .i64 0, .int .i64 1, .slice (some ⟨gb, 0, none⟩) 1 1]] w fun e w' => (∃ A c, e = .returned (.slice A 1 c)) ∧ Below w.heap.size w w' :=
 cleans0_c f2a (some ⟨gb, 0, none⟩) 1 w hb (by decide) (fun b h => by rw [b1_is h]; rfl)
theorem copym_c (A : Option Addr) (w : World) (h : Kd.C k27 w A 1 m2a) : Calls Try.prog 24 #[.agg #[.slice A 1 1]] w fun e w' => (∃ g c, e = .returned (.agg #[.slice (some ⟨g, 0, none⟩) 1 c]) ∧ w.heap.size ≤ g ∧ g < w'.heap.size ∧ Kd.S sF 27 w' w.heap.size (fun _ => True) (.slice (some ⟨g, 0, none⟩) 1 c) m2a) ∧ Below w.heap.size w w' := by
 refine (copy_c m2a A 1 w h (by decide) m2a_BC).mono ?_
 rintro e w' ⟨⟨v, rfl, hs⟩, hb⟩
 obtain ⟨g, c, rfl, h0, h1, _⟩ := Kd.S_form (d := sF) hs (by decide)
 exact ⟨⟨g, c, rfl, h0, h1, hs⟩, hb⟩
set_option maxHeartbeats 16000000 in
set_option maxRecDepth 100000 in
theorem awake2_c (w : World) : Calls Try.prog 14 #[] w fun e w' => e = .returned (.bool true) ∧ Below w.heap.size w w' := by
 have hu24 := Try.underlying24
 have hu27 := Try.underlying27
 have hu41 := Try.underlying41
 have hu49 := Try.underlying49
 have hu35 := Try.underlying35
 have hu39 := Try.underlying39
 have HB := Aside0.mk (Below.refl w.heap.size w)
 go_enter Try.func14, Try.ntmps14
 go_upto_region 1 with (fail)
 go_cut [1] (fun v1 wc => ∃ g1 gf gb : Nat, v1 = .pointer (some ⟨g1, 0, none⟩) ∧ Aside0 (Below w.heap.size w wc) ∧ Aside0 (wc.heap[g1]? = some (.cells #[.slice (some ⟨gf, 0, none⟩) 1 1] 24 (0, 0))) ∧ Aside0 (wc.heap[gf]? = some (.cells #[.int .i64 0, .int .i64 1, .slice (some ⟨gb, 0, none⟩) 1 1] 27 (0, 0))) ∧ Aside0 (wc.heap[gb]? = some (.cells #[.bool false, .int .i64 0, .slice none 0 0, .bool false, .bool false, .slice none 0 0, .int .i64 1, .int .i64 0, .int .i64 0, .int .i64 0, .slice none 0 0, .int .i64 0, .int .i64 0, .int .i64 0] 41 (0, 0))))
 case first =>
  go_wp2
  go_meet
  exact ⟨_, w.heap.size + 1, w.heap.size, rfl, ⟨below_alloc (below_alloc (below_alloc HB.out _) _) _⟩, ⟨blk_new3 _ _ _ _⟩, ⟨blk_alloc (blk_new2 _ _ _) _⟩, ⟨blk_alloc (blk_alloc (blk_new _ _) _) _⟩⟩
 case rest =>
  clear HB
  obtain ⟨g1, gf, gb, rfl, HB, X1, XF, XB⟩ := hcut
  have m0 := (blk_cell X1.out 0).trans rfl
  go_upto_region 2 with (fail)
  go_cut [2] (fun v2 wc => ∃ g2 g0 c B0 : Nat, v2 = .pointer (some ⟨g2, 0, none⟩) ∧ Aside0 (Below w.heap.size w wc) ∧ Aside0 (wc.heap[g1]? = some (.cells #[.slice (some ⟨gf, 0, none⟩) 1 1] 24 (0, 0))) ∧ Aside0 (wc.heap[gf]? = some (.cells #[.int .i64 0, .int .i64 1, .slice (some ⟨gb, 0, none⟩) 1 1] 27 (0, 0))) ∧ Aside0 (wc.heap[gb]? = some (.cells #[.bool false, .int .i64 0, .slice none 0 0, .bool false, .bool false, .slice none 0 0, .int .i64 1, .int .i64 0, .int .i64 0, .int .i64 0, .slice none 0 0, .int .i64 0, .int .i64 0, .int .i64 0] 41 (0, 0))) ∧ Aside0 (wc.heap[g2]? = some (.cells #[.slice (some ⟨g0, 0, none⟩) 1 c] 24 (0, 0))) ∧ Aside0 (Kd.S sF 27 wc B0 (fun _ => True) (.slice (some ⟨g0, 0, none⟩) 1 c) m2a) ∧ Aside0 (w.heap.size ≤ g0 ∧ g1 ≠ g0 ∧ gf ≠ g0 ∧ gb ≠ g0 ∧ g2 ≠ g0))
  case first =>
   go_wp2_with (go_at_call 24; go_loud ((with_reducible refine (copym_c _ _ (m2a_C XB.out XF.out)).mono ?_); rintro e w6 ⟨⟨g0, c, rfl, hg0, hg1, hs⟩, hb⟩; have HS := Aside0.mk hs; have HB6 := Aside0.mk hb; have HG := Aside0.mk (And.intro hg0 hg1); clear hs hb hg0 hg1))
   go_meet
   exact ⟨_, g0, c, _, rfl, ⟨below_alloc (HB.out.trans (HB6.out.mono HB.out.size)) _⟩, ⟨blk_alloc (blk_below X1.out HB6.out) _⟩, ⟨blk_alloc (blk_below XF.out HB6.out) _⟩, ⟨blk_alloc (blk_below XB.out HB6.out) _⟩, ⟨blk_new _ _⟩, ⟨Kd.S_alloc HS.out _⟩, ⟨Nat.le_trans HB.out.size HG.out.1, Nat.ne_of_lt (Nat.lt_of_lt_of_le (blk_lt X1.out) HG.out.1), Nat.ne_of_lt (Nat.lt_of_lt_of_le (blk_lt XF.out) HG.out.1), Nat.ne_of_lt (Nat.lt_of_lt_of_le (blk_lt XB.out) HG.out.1), Nat.ne_of_gt HG.out.2⟩⟩
  case rest =>
   clear m0 HB X1 XF XB
   obtain ⟨g2, g0, c, B0, rfl, HB, X1, XF, XB, X2, HS, HG⟩ := hcut
   have m0 := (blk_cell X1.out 0).trans rfl
   have n0 := (blk_cell X2.out 0).trans rfl
   have hr := SM_reg HS.out 0 (by decide) (by decide) 0
   have hy : wc.cell? ⟨g0, 1, none⟩ = some (.int .i64 1) := hr.1
   have hz : wc.frozen? ⟨g0, 1, none⟩ = false := hr.2.1
   have HN := Aside0.mk (show Kd.S sF 27 (wc.setCell ⟨g0, 1, none⟩ (.int .i64 0)) B0 (fun _ => True) (.slice (some ⟨g0, 0, none⟩) 1 c) n2a from hr.2.2)
   clear hr
   go_upto_region 5 with (fail)
   go_cut [] (fun wc => Aside0 (Below w.heap.size w wc) ∧ Aside0 (wc.heap[g1]? = some (.cells #[.slice (some ⟨gf, 0, none⟩) 1 1] 24 (0, 0))) ∧ Aside0 (wc.heap[gf]? = some (.cells #[.int .i64 0, .int .i64 1, .slice (some ⟨gb, 0, none⟩) 1 1] 27 (0, 0))) ∧ Aside0 (wc.heap[gb]? = some (.cells #[.bool false, .int .i64 0, .slice none 0 0, .bool false, .bool false, .slice none 0 0, .int .i64 1, .int .i64 0, .int .i64 0, .int .i64 0, .slice none 0 0, .int .i64 0, .int .i64 0, .int .i64 0] 41 (0, 0))) ∧ Aside0 (wc.heap[g2]? = some (.cells #[.slice (some ⟨g0, 0, none⟩) 1 c] 24 (0, 0))) ∧ Aside0 (Kd.S sF 27 wc B0 (fun _ => True) (.slice (some ⟨g0, 0, none⟩) 1 c) n2a))
   case first =>
    go_wp2
    go_meet
    exact ⟨⟨below_set HB.out HG.out.1⟩, ⟨blk_far X1.out (p := ⟨g0, 1, none⟩) HG.out.2.1 _⟩, ⟨blk_far XF.out (p := ⟨g0, 1, none⟩) HG.out.2.2.1 _⟩, ⟨blk_far XB.out (p := ⟨g0, 1, none⟩) HG.out.2.2.2.1 _⟩, ⟨blk_far X2.out (p := ⟨g0, 1, none⟩) HG.out.2.2.2.2 _⟩, HN⟩
   case rest =>
    clear m0 n0 hy hz HB X1 XF XB X2 HS HN
    obtain ⟨HB, X1, XF, XB, X2, HS⟩ := hcut
    have HCM := Aside0.mk (m2a_C XB.out XF.out)
    have HCB := Aside0.mk (bRa_C XB.out)
    have HCN := Aside0.mk ((Kd.S_reads' (d := sF) HS.out).2.2)
    go_wp2
    refine start_ (S := (fun W : World => Below wc.heap.size wc W)) (ds := []) #[bF,bF,bF,bF,bF,bF,bF,bF,bF,bF,bF,bF,bF,bF,bF,bF,bF,bF,bF,bF,bF,bF,bF,bF,bF,bF,bF,bF,bF,bF,bF,bF,bF,bF,bF,bF,bF,bF] (by kernel_rfl) (by rfl) (by rfl) (below_drew (Below.refl _ _)) (fun hS => ?_)
    refine take_ (i := 0) (N := some 19) (v := .agg #[.slice (some ⟨gf, 0, none⟩) 1 1]) (a' := ?axaw1) #[bT,bF,bF,bF,bF,bF,bF,bF,bF,bF,bF,bF,bF,bF,bF,bF,bF,bF,bF,bF,bF,bF,bF,bF,bF,bF,bF,bF,bF,bF,bF,bF,bF,bF,bF,bF,bF,bF] rfl rfl (by kernel_rfl) (fun _ _ _ h => h) (Or.inl ⟨by rfl, ?yyaw1⟩) hS ?haaw1 ?hhaw1
    case yyaw1 => intro W hW; have m0 := (blk_cell (blk_below X1.out hW) 0).trans rfl; have n0 := (blk_cell (blk_below X2.out hW) 0).trans rfl; obtain ⟨f0, f1, f2⟩ := cl3 (blk_below XF.out hW); go_simp; done
    case haaw1 => try simp only [Act.put, sA_, sZ_, sS_]; exact rfl
    refine one_ (i := 1) (N := some 20) #[bT,bT,bF,bF,bF,bF,bF,bF,bF,bF,bF,bF,bF,bF,bF,bF,bF,bF,bF,bF,bF,bF,bF,bF,bF,bF,bF,bF,bF,bF,bF,bF,bF,bF,bF,bF,bF,bF] rfl rfl (by kernel_rfl) (by decide) (fun K hK => ?_)
    refine goes_ Try.func16 (by kernel_rfl) rfl #[.agg #[.slice (some ⟨gf, 0, none⟩) 1 1]] (by rfl) rfl rfl (by simp only [List.map_toArray, List.map_cons, List.map_nil]; rfl) ?_
    refine (rightm_c _ 1 _ (Kd.C_below HCM.out hS)).mono ?_
    rintro e w7 ⟨rfl, hb⟩
    refine ⟨_, rfl, ?_⟩
    have hS' := hS.trans (hb.mono hS.size)
    clear hb
    refine hK _ _ hS' (fun hS => ?_)
    clear hK K
    try simp only [Act.put, sA_, sZ_, sS_]
    refine take_ (i := 2) (N := some 21) (v := .bool true) (a' := ?axaw2) #[bT,bT,bT,bF,bF,bF,bF,bF,bF,bF,bF,bF,bF,bF,bF,bF,bF,bF,bF,bF,bF,bF,bF,bF,bF,bF,bF,bF,bF,bF,bF,bF,bF,bF,bF,bF,bF,bF] rfl rfl (by kernel_rfl) (fun _ _ _ h => h) (Or.inl ⟨by rfl, ?yyaw2⟩) hS ?haaw2 ?hhaw2
    case yyaw2 => intro W hW; have m0 := (blk_cell (blk_below X1.out hW) 0).trans rfl; have n0 := (blk_cell (blk_below X2.out hW) 0).trans rfl; obtain ⟨f0, f1, f2⟩ := cl3 (blk_below XF.out hW); go_simp; done
    case haaw2 => try simp only [Act.put, sA_, sZ_, sS_]; exact rfl
    refine take_ (i := 3) (N := some 22) (v := .agg #[.slice (some ⟨g0, 0, none⟩) 1 c]) (a' := ?axaw3) #[bT,bT,bT,bT,bF,bF,bF,bF,bF,bF,bF,bF,bF,bF,bF,bF,bF,bF,bF,bF,bF,bF,bF,bF,bF,bF,bF,bF,bF,bF,bF,bF,bF,bF,bF,bF,bF,bF] rfl rfl (by kernel_rfl) (fun _ _ _ h => h) (Or.inl ⟨by rfl, ?yyaw3⟩) hS ?haaw3 ?hhaw3
    case yyaw3 => intro W hW; have m0 := (blk_cell (blk_below X1.out hW) 0).trans rfl; have n0 := (blk_cell (blk_below X2.out hW) 0).trans rfl; obtain ⟨f0, f1, f2⟩ := cl3 (blk_below XF.out hW); go_simp; done
    case haaw3 => try simp only [Act.put, sA_, sZ_, sS_]; exact rfl
    refine one_ (i := 4) (N := some 23) #[bT,bT,bT,bT,bT,bF,bF,bF,bF,bF,bF,bF,bF,bF,bF,bF,bF,bF,bF,bF,bF,bF,bF,bF,bF,bF,bF,bF,bF,bF,bF,bF,bF,bF,bF,bF,bF,bF] rfl rfl (by kernel_rfl) (by decide) (fun K hK => ?_)
    refine goes_ Try.func16 (by kernel_rfl) rfl #[.agg #[.slice (some ⟨g0, 0, none⟩) 1 c]] (by rfl) rfl rfl (by simp only [List.map_toArray, List.map_cons, List.map_nil]; rfl) ?_
    refine (rightn_c _ c _ (Kd.C_below HCN.out hS)).mono ?_
    rintro e w7 ⟨rfl, hb⟩
    refine ⟨_, rfl, ?_⟩
    have hS' := hS.trans (hb.mono hS.size)
    clear hb
    refine hK _ _ hS' (fun hS => ?_)
    clear hK K
    try simp only [Act.put, sA_, sZ_, sS_]
    refine take_ (i := 5) (N := some 24) (v := .bool true) (a' := ?axaw4) #[bT,bT,bT,bT,bT,bT,bF,bF,bF,bF,bF,bF,bF,bF,bF,bF,bF,bF,bF,bF,bF,bF,bF,bF,bF,bF,bF,bF,bF,bF,bF,bF,bF,bF,bF,bF,bF,bF] rfl rfl (by kernel_rfl) (fun _ _ _ h => h) (Or.inl ⟨by rfl, ?yyaw4⟩) hS ?haaw4 ?hhaw4
    case yyaw4 => intro W hW; have m0 := (blk_cell (blk_below X1.out hW) 0).trans rfl; have n0 := (blk_cell (blk_below X2.out hW) 0).trans rfl; obtain ⟨f0, f1, f2⟩ := cl3 (blk_below XF.out hW); go_simp; done
    case haaw4 => try simp only [Act.put, sA_, sZ_, sS_]; exact rfl
    refine take_ (i := 6) (N := some 25) (v := .bool true) (a' := ?axaw5) #[bT,bT,bT,bT,bT,bT,bT,bF,bF,bF,bF,bF,bF,bF,bF,bF,bF,bF,bF,bF,bF,bF,bF,bF,bF,bF,bF,bF,bF,bF,bF,bF,bF,bF,bF,bF,bF,bF] rfl rfl (by kernel_rfl) (fun _ _ _ h => h) (Or.inl ⟨by rfl, ?yyaw5⟩) hS ?haaw5 ?hhaw5
    case yyaw5 => intro W hW; have m0 := (blk_cell (blk_below X1.out hW) 0).trans rfl; have n0 := (blk_cell (blk_below X2.out hW) 0).trans rfl; obtain ⟨f0, f1, f2⟩ := cl3 (blk_below XF.out hW); go_simp; done
    case haaw5 => try simp only [Act.put, sA_, sZ_, sS_]; exact rfl
    refine take_ (i := 7) (N := some 26) (v := .bool true) (a' := ?axaw6) #[bT,bT,bT,bT,bT,bT,bT,bT,bF,bF,bF,bF,bF,bF,bF,bF,bF,bF,bF,bF,bF,bF,bF,bF,bF,bF,bF,bF,bF,bF,bF,bF,bF,bF,bF,bF,bF,bF] rfl rfl (by kernel_rfl) (fun _ _ _ h => h) (Or.inl ⟨by rfl, ?yyaw6⟩) hS ?haaw6 ?hhaw6
    case yyaw6 => intro W hW; have m0 := (blk_cell (blk_below X1.out hW) 0).trans rfl; have n0 := (blk_cell (blk_below X2.out hW) 0).trans rfl; obtain ⟨f0, f1, f2⟩ := cl3 (blk_below XF.out hW); go_simp; done
    case haaw6 => try simp only [Act.put, sA_, sZ_, sS_]; exact rfl
    refine take_ (i := 8) (N := some 27) (v := .agg #[.slice (some ⟨gf, 0, none⟩) 1 1]) (a' := ?axaw7) #[bT,bT,bT,bT,bT,bT,bT,bT,bT,bF,bF,bF,bF,bF,bF,bF,bF,bF,bF,bF,bF,bF,bF,bF,bF,bF,bF,bF,bF,bF,bF,bF,bF,bF,bF,bF,bF,bF] rfl rfl (by kernel_rfl) (fun _ _ _ h => h) (Or.inl ⟨by rfl, ?yyaw7⟩) hS ?haaw7 ?hhaw7
    case yyaw7 => intro W hW; have m0 := (blk_cell (blk_below X1.out hW) 0).trans rfl; have n0 := (blk_cell (blk_below X2.out hW) 0).trans rfl; obtain ⟨f0, f1, f2⟩ := cl3 (blk_below XF.out hW); go_simp; done
    case haaw7 => try simp only [Act.put, sA_, sZ_, sS_]; exact rfl
    refine pure_ (i := 9) (N := some 28) (v := .pointer (some ⟨g1, 0, none⟩)) (a' := ?axaw8) #[bT,bT,bT,bT,bT,bT,bT,bT,bT,bT,bF,bF,bF,bF,bF,bF,bF,bF,bF,bF,bF,bF,bF,bF,bF,bF,bF,bF,bF,bF,bF,bF,bF,bF,bF,bF,bF,bF] rfl rfl (by kernel_rfl) (fun _ _ _ h => h) (Or.inl ⟨by rfl, ?yyaw8⟩) ?haaw8 ?hhaw8
    case yyaw8 => intro W; go_simp; done
    case haaw8 => try simp only [Act.put, sA_, sZ_, sS_]; exact rfl
    refine take_ (i := 10) (N := some 29) (v := .slice (some ⟨gf, 0, none⟩) 1 1) (a' := ?axaw9) #[bT,bT,bT,bT,bT,bT,bT,bT,bT,bT,bT,bF,bF,bF,bF,bF,bF,bF,bF,bF,bF,bF,bF,bF,bF,bF,bF,bF,bF,bF,bF,bF,bF,bF,bF,bF,bF,bF] rfl rfl (by kernel_rfl) (fun _ _ _ h => h) (Or.inl ⟨by rfl, ?yyaw9⟩) hS ?haaw9 ?hhaw9
    case yyaw9 => intro W hW; have m0 := (blk_cell (blk_below X1.out hW) 0).trans rfl; have n0 := (blk_cell (blk_below X2.out hW) 0).trans rfl; obtain ⟨f0, f1, f2⟩ := cl3 (blk_below XF.out hW); go_simp; done
    case haaw9 => try simp only [Act.put, sA_, sZ_, sS_]; exact rfl
    refine take_ (i := 11) (N := some 30) (v := .pointer (some ⟨gf, 0, none⟩)) (a' := ?axaw10) #[bT,bT,bT,bT,bT,bT,bT,bT,bT,bT,bT,bT,bF,bF,bF,bF,bF,bF,bF,bF,bF,bF,bF,bF,bF,bF,bF,bF,bF,bF,bF,bF,bF,bF,bF,bF,bF,bF] rfl rfl (by kernel_rfl) (fun _ _ _ h => h) (Or.inl ⟨by rfl, ?yyaw10⟩) hS ?haaw10 ?hhaw10
    case yyaw10 => intro W hW; have m0 := (blk_cell (blk_below X1.out hW) 0).trans rfl; have n0 := (blk_cell (blk_below X2.out hW) 0).trans rfl; obtain ⟨f0, f1, f2⟩ := cl3 (blk_below XF.out hW); go_simp; done
    case haaw10 => try simp only [Act.put, sA_, sZ_, sS_]; exact rfl
    refine take_ (i := 12) (N := some 31) (v := .agg #[.int .i64 0, .int .i64 1, .slice (some ⟨gb, 0, none⟩) 1 1]) (a' := ?axaw11) #[bT,bT,bT,bT,bT,bT,bT,bT,bT,bT,bT,bT,bT,bF,bF,bF,bF,bF,bF,bF,bF,bF,bF,bF,bF,bF,bF,bF,bF,bF,bF,bF,bF,bF,bF,bF,bF,bF] rfl rfl (by kernel_rfl) (fun _ _ _ h => h) (Or.inl ⟨by rfl, ?yyaw11⟩) hS ?haaw11 ?hhaw11
    case yyaw11 => intro W hW; have m0 := (blk_cell (blk_below X1.out hW) 0).trans rfl; have n0 := (blk_cell (blk_below X2.out hW) 0).trans rfl; obtain ⟨f0, f1, f2⟩ := cl3 (blk_below XF.out hW); go_simp; done
    case haaw11 => try simp only [Act.put, sA_, sZ_, sS_]; exact rfl
    refine one_ (i := 13) (N := some 32) #[bT,bT,bT,bT,bT,bT,bT,bT,bT,bT,bT,bT,bT,bT,bF,bF,bF,bF,bF,bF,bF,bF,bF,bF,bF,bF,bF,bF,bF,bF,bF,bF,bF,bF,bF,bF,bF,bF] rfl rfl (by kernel_rfl) (by decide) (fun K hK => ?_)
    refine goes_ Try.func18 (by kernel_rfl) rfl #[.agg #[.slice (some ⟨gf, 0, none⟩) 1 1], .agg #[.int .i64 0, .int .i64 1, .slice (some ⟨gb, 0, none⟩) 1 1]] (by rfl) rfl rfl (by simp only [List.map_toArray, List.map_cons, List.map_nil]; rfl) ?_
    refine (funcm_c _ 1 gb _ (Kd.C_below HCM.out hS) (Kd.C_below HCB.out hS)).mono ?_
    rintro e w7 ⟨rfl, hb⟩
    refine ⟨_, rfl, ?_⟩
    have hS' := hS.trans (hb.mono hS.size)
    clear hb
    refine hK _ _ hS' (fun hS => ?_)
    clear hK K
    try simp only [Act.put, sA_, sZ_, sS_]
    refine take_ (i := 14) (N := some 33) (v := .bool true) (a' := ?axaw12) #[bT,bT,bT,bT,bT,bT,bT,bT,bT,bT,bT,bT,bT,bT,bT,bF,bF,bF,bF,bF,bF,bF,bF,bF,bF,bF,bF,bF,bF,bF,bF,bF,bF,bF,bF,bF,bF,bF] rfl rfl (by kernel_rfl) (fun _ _ _ h => h) (Or.inl ⟨by rfl, ?yyaw12⟩) hS ?haaw12 ?hhaw12
    case yyaw12 => intro W hW; have m0 := (blk_cell (blk_below X1.out hW) 0).trans rfl; have n0 := (blk_cell (blk_below X2.out hW) 0).trans rfl; obtain ⟨f0, f1, f2⟩ := cl3 (blk_below XF.out hW); go_simp; done
    case haaw12 => try simp only [Act.put, sA_, sZ_, sS_]; exact rfl
    refine take_ (i := 15) (N := some 34) (v := .bool true) (a' := ?axaw13) #[bT,bT,bT,bT,bT,bT,bT,bT,bT,bT,bT,bT,bT,bT,bT,bT,bF,bF,bF,bF,bF,bF,bF,bF,bF,bF,bF,bF,bF,bF,bF,bF,bF,bF,bF,bF,bF,bF] rfl rfl (by kernel_rfl) (fun _ _ _ h => h) (Or.inl ⟨by rfl, ?yyaw13⟩) hS ?haaw13 ?hhaw13
    case yyaw13 => intro W hW; have m0 := (blk_cell (blk_below X1.out hW) 0).trans rfl; have n0 := (blk_cell (blk_below X2.out hW) 0).trans rfl; obtain ⟨f0, f1, f2⟩ := cl3 (blk_below XF.out hW); go_simp; done
    case haaw13 => try simp only [Act.put, sA_, sZ_, sS_]; exact rfl
    refine take_ (i := 16) (N := some 35) (v := .agg #[.slice (some ⟨g0, 0, none⟩) 1 c]) (a' := ?axaw14) #[bT,bT,bT,bT,bT,bT,bT,bT,bT,bT,bT,bT,bT,bT,bT,bT,bT,bF,bF,bF,bF,bF,bF,bF,bF,bF,bF,bF,bF,bF,bF,bF,bF,bF,bF,bF,bF,bF] rfl rfl (by kernel_rfl) (fun _ _ _ h => h) (Or.inl ⟨by rfl, ?yyaw14⟩) hS ?haaw14 ?hhaw14
    case yyaw14 => intro W hW; have m0 := (blk_cell (blk_below X1.out hW) 0).trans rfl; have n0 := (blk_cell (blk_below X2.out hW) 0).trans rfl; obtain ⟨f0, f1, f2⟩ := cl3 (blk_below XF.out hW); go_simp; done
    case haaw14 => try simp only [Act.put, sA_, sZ_, sS_]; exact rfl
    refine take_ (i := 17) (N := some 36) (v := .agg #[.slice (some ⟨gf, 0, none⟩) 1 1]) (a' := ?axaw15) #[bT,bT,bT,bT,bT,bT,bT,bT,bT,bT,bT,bT,bT,bT,bT,bT,bT,bT,bF,bF,bF,bF,bF,bF,bF,bF,bF,bF,bF,bF,bF,bF,bF,bF,bF,bF,bF,bF] rfl rfl (by kernel_rfl) (fun _ _ _ h => h) (Or.inl ⟨by rfl, ?yyaw15⟩) hS ?haaw15 ?hhaw15
    case yyaw15 => intro W hW; have m0 := (blk_cell (blk_below X1.out hW) 0).trans rfl; have n0 := (blk_cell (blk_below X2.out hW) 0).trans rfl; obtain ⟨f0, f1, f2⟩ := cl3 (blk_below XF.out hW); go_simp; done
    case haaw15 => try simp only [Act.put, sA_, sZ_, sS_]; exact rfl
    refine one_ (i := 18) (N := some 37) #[bT,bT,bT,bT,bT,bT,bT,bT,bT,bT,bT,bT,bT,bT,bT,bT,bT,bT,bT,bF,bF,bF,bF,bF,bF,bF,bF,bF,bF,bF,bF,bF,bF,bF,bF,bF,bF,bF] rfl rfl (by kernel_rfl) (by decide) (fun K hK => ?_)
    refine goes_ Try.func25 (by kernel_rfl) rfl #[.agg #[.slice (some ⟨g0, 0, none⟩) 1 c], .agg #[.slice (some ⟨gf, 0, none⟩) 1 1]] (by rfl) rfl rfl (by simp only [List.map_toArray, List.map_cons, List.map_nil]; rfl) ?_
    refine (samen_c _ c _ 1 _ (Kd.C_below HCN.out hS) (Kd.C_below HCM.out hS)).mono ?_
    rintro e w7 ⟨rfl, hb⟩
    refine ⟨_, rfl, ?_⟩
    have hS' := hS.trans (hb.mono hS.size)
    clear hb
    refine hK _ _ hS' (fun hS => ?_)
    clear hK K
    try simp only [Act.put, sA_, sZ_, sS_]
    refine take_ (i := 19) (N := some 38) (v := .bool true) (a' := ?axaw16) #[bT,bT,bT,bT,bT,bT,bT,bT,bT,bT,bT,bT,bT,bT,bT,bT,bT,bT,bT,bT,bF,bF,bF,bF,bF,bF,bF,bF,bF,bF,bF,bF,bF,bF,bF,bF,bF,bF] rfl rfl (by kernel_rfl) (fun _ _ _ h => h) (Or.inl ⟨by rfl, ?yyaw16⟩) hS ?haaw16 ?hhaw16
    case yyaw16 => intro W hW; have m0 := (blk_cell (blk_below X1.out hW) 0).trans rfl; have n0 := (blk_cell (blk_below X2.out hW) 0).trans rfl; obtain ⟨f0, f1, f2⟩ := cl3 (blk_below XF.out hW); go_simp; done
    case haaw16 => try simp only [Act.put, sA_, sZ_, sS_]; exact rfl
    refine take_ (i := 20) (N := some 39) (v := .bool true) (a' := ?axaw17) #[bT,bT,bT,bT,bT,bT,bT,bT,bT,bT,bT,bT,bT,bT,bT,bT,bT,bT,bT,bT,bT,bF,bF,bF,bF,bF,bF,bF,bF,bF,bF,bF,bF,bF,bF,bF,bF,bF] rfl rfl (by kernel_rfl) (fun _ _ _ h => h) (Or.inl ⟨by rfl, ?yyaw17⟩) hS ?haaw17 ?hhaw17
    case yyaw17 => intro W hW; have m0 := (blk_cell (blk_below X1.out hW) 0).trans rfl; have n0 := (blk_cell (blk_below X2.out hW) 0).trans rfl; obtain ⟨f0, f1, f2⟩ := cl3 (blk_below XF.out hW); go_simp; done
    case haaw17 => try simp only [Act.put, sA_, sZ_, sS_]; exact rfl
    refine take_ (i := 21) (N := some 40) (v := .bool true) (a' := ?axaw18) #[bT,bT,bT,bT,bT,bT,bT,bT,bT,bT,bT,bT,bT,bT,bT,bT,bT,bT,bT,bT,bT,bT,bF,bF,bF,bF,bF,bF,bF,bF,bF,bF,bF,bF,bF,bF,bF,bF] rfl rfl (by kernel_rfl) (fun _ _ _ h => h) (Or.inl ⟨by rfl, ?yyaw18⟩) hS ?haaw18 ?hhaw18
    case yyaw18 => intro W hW; have m0 := (blk_cell (blk_below X1.out hW) 0).trans rfl; have n0 := (blk_cell (blk_below X2.out hW) 0).trans rfl; obtain ⟨f0, f1, f2⟩ := cl3 (blk_below XF.out hW); go_simp; done
    case haaw18 => try simp only [Act.put, sA_, sZ_, sS_]; exact rfl
    refine pure_ (i := 22) (N := some 41) (v := .pointer (some ⟨g1, 0, none⟩)) (a' := ?axaw19) #[bT,bT,bT,bT,bT,bT,bT,bT,bT,bT,bT,bT,bT,bT,bT,bT,bT,bT,bT,bT,bT,bT,bT,bF,bF,bF,bF,bF,bF,bF,bF,bF,bF,bF,bF,bF,bF,bF] rfl rfl (by kernel_rfl) (fun _ _ _ h => h) (Or.inl ⟨by rfl, ?yyaw19⟩) ?haaw19 ?hhaw19
    case yyaw19 => intro W; go_simp; done
    case haaw19 => try simp only [Act.put, sA_, sZ_, sS_]; exact rfl
    refine take_ (i := 23) (N := some 42) (v := .slice (some ⟨gf, 0, none⟩) 1 1) (a' := ?axaw20) #[bT,bT,bT,bT,bT,bT,bT,bT,bT,bT,bT,bT,bT,bT,bT,bT,bT,bT,bT,bT,bT,bT,bT,bT,bF,bF,bF,bF,bF,bF,bF,bF,bF,bF,bF,bF,bF,bF] rfl rfl (by kernel_rfl) (fun _ _ _ h => h) (Or.inl ⟨by rfl, ?yyaw20⟩) hS ?haaw20 ?hhaw20
    case yyaw20 => intro W hW; have m0 := (blk_cell (blk_below X1.out hW) 0).trans rfl; have n0 := (blk_cell (blk_below X2.out hW) 0).trans rfl; obtain ⟨f0, f1, f2⟩ := cl3 (blk_below XF.out hW); go_simp; done
    case haaw20 => try simp only [Act.put, sA_, sZ_, sS_]; exact rfl
    refine take_ (i := 24) (N := some 43) (v := .pointer (some ⟨gf, 0, none⟩)) (a' := ?axaw21) #[bT,bT,bT,bT,bT,bT,bT,bT,bT,bT,bT,bT,bT,bT,bT,bT,bT,bT,bT,bT,bT,bT,bT,bT,bT,bF,bF,bF,bF,bF,bF,bF,bF,bF,bF,bF,bF,bF] rfl rfl (by kernel_rfl) (fun _ _ _ h => h) (Or.inl ⟨by rfl, ?yyaw21⟩) hS ?haaw21 ?hhaw21
    case yyaw21 => intro W hW; have m0 := (blk_cell (blk_below X1.out hW) 0).trans rfl; have n0 := (blk_cell (blk_below X2.out hW) 0).trans rfl; obtain ⟨f0, f1, f2⟩ := cl3 (blk_below XF.out hW); go_simp; done
    case haaw21 => try simp only [Act.put, sA_, sZ_, sS_]; exact rfl
    refine take_ (i := 25) (N := some 44) (v := .agg #[.int .i64 0, .int .i64 1, .slice (some ⟨gb, 0, none⟩) 1 1]) (a' := ?axaw22) #[bT,bT,bT,bT,bT,bT,bT,bT,bT,bT,bT,bT,bT,bT,bT,bT,bT,bT,bT,bT,bT,bT,bT,bT,bT,bT,bF,bF,bF,bF,bF,bF,bF,bF,bF,bF,bF,bF] rfl rfl (by kernel_rfl) (fun _ _ _ h => h) (Or.inl ⟨by rfl, ?yyaw22⟩) hS ?haaw22 ?hhaw22
    case yyaw22 => intro W hW; have m0 := (blk_cell (blk_below X1.out hW) 0).trans rfl; have n0 := (blk_cell (blk_below X2.out hW) 0).trans rfl; obtain ⟨f0, f1, f2⟩ := cl3 (blk_below XF.out hW); go_simp; done
    case haaw22 => try simp only [Act.put, sA_, sZ_, sS_]; exact rfl
    refine one_ (i := 26) (N := some 45) #[bT,bT,bT,bT,bT,bT,bT,bT,bT,bT,bT,bT,bT,bT,bT,bT,bT,bT,bT,bT,bT,bT,bT,bT,bT,bT,bT,bF,bF,bF,bF,bF,bF,bF,bF,bF,bF,bF] rfl rfl (by kernel_rfl) (by decide) (fun K hK => ?_)
    refine goes_ Try.func20 (by kernel_rfl) rfl #[.agg #[.int .i64 0, .int .i64 1, .slice (some ⟨gb, 0, none⟩) 1 1]] (by rfl) rfl rfl (by simp only [List.map_toArray, List.map_cons, List.map_nil]; rfl) ?_
    refine (cleans2_c gb _ (Kd.C_below HCB.out hS)).mono ?_
    rintro e w7 ⟨⟨Ac, cc, rfl⟩, hb⟩
    refine ⟨_, rfl, ?_⟩
    have hS' := hS.trans (hb.mono hS.size)
    clear hb
    refine hK _ _ hS' (fun hS => ?_)
    clear hK K
    try simp only [Act.put, sA_, sZ_, sS_]
    refine take_ (i := 27) (N := some 46) (v := .int .i64 1) (a' := ?axaw23) #[bT,bT,bT,bT,bT,bT,bT,bT,bT,bT,bT,bT,bT,bT,bT,bT,bT,bT,bT,bT,bT,bT,bT,bT,bT,bT,bT,bT,bF,bF,bF,bF,bF,bF,bF,bF,bF,bF] rfl rfl (by kernel_rfl) (fun _ _ _ h => h) (Or.inl ⟨by rfl, ?yyaw23⟩) hS ?haaw23 ?hhaw23
    case yyaw23 => intro W hW; have m0 := (blk_cell (blk_below X1.out hW) 0).trans rfl; have n0 := (blk_cell (blk_below X2.out hW) 0).trans rfl; obtain ⟨f0, f1, f2⟩ := cl3 (blk_below XF.out hW); go_simp; done
    case haaw23 => try simp only [Act.put, sA_, sZ_, sS_]; exact rfl
    refine take_ (i := 28) (N := some 47) (v := .bool true) (a' := ?axaw24) #[bT,bT,bT,bT,bT,bT,bT,bT,bT,bT,bT,bT,bT,bT,bT,bT,bT,bT,bT,bT,bT,bT,bT,bT,bT,bT,bT,bT,bT,bF,bF,bF,bF,bF,bF,bF,bF,bF] rfl rfl (by kernel_rfl) (fun _ _ _ h => h) (Or.inl ⟨by rfl, ?yyaw24⟩) hS ?haaw24 ?hhaw24
    case yyaw24 => intro W hW; have m0 := (blk_cell (blk_below X1.out hW) 0).trans rfl; have n0 := (blk_cell (blk_below X2.out hW) 0).trans rfl; obtain ⟨f0, f1, f2⟩ := cl3 (blk_below XF.out hW); go_simp; done
    case haaw24 => try simp only [Act.put, sA_, sZ_, sS_]; exact rfl
    refine take_ (i := 29) (N := some 48) (v := .bool true) (a' := ?axaw25) #[bT,bT,bT,bT,bT,bT,bT,bT,bT,bT,bT,bT,bT,bT,bT,bT,bT,bT,bT,bT,bT,bT,bT,bT,bT,bT,bT,bT,bT,bT,bF,bF,bF,bF,bF,bF,bF,bF] rfl rfl (by kernel_rfl) (fun _ _ _ h => h) (Or.inl ⟨by rfl, ?yyaw25⟩) hS ?haaw25 ?hhaw25
    case yyaw25 => intro W hW; have m0 := (blk_cell (blk_below X1.out hW) 0).trans rfl; have n0 := (blk_cell (blk_below X2.out hW) 0).trans rfl; obtain ⟨f0, f1, f2⟩ := cl3 (blk_below XF.out hW); go_simp; done
    case haaw25 => try simp only [Act.put, sA_, sZ_, sS_]; exact rfl
    refine take_ (i := 30) (N := some 49) (v := .bool true) (a' := ?axaw26) #[bT,bT,bT,bT,bT,bT,bT,bT,bT,bT,bT,bT,bT,bT,bT,bT,bT,bT,bT,bT,bT,bT,bT,bT,bT,bT,bT,bT,bT,bT,bT,bF,bF,bF,bF,bF,bF,bF] rfl rfl (by kernel_rfl) (fun _ _ _ h => h) (Or.inl ⟨by rfl, ?yyaw26⟩) hS ?haaw26 ?hhaw26
    case yyaw26 => intro W hW; have m0 := (blk_cell (blk_below X1.out hW) 0).trans rfl; have n0 := (blk_cell (blk_below X2.out hW) 0).trans rfl; obtain ⟨f0, f1, f2⟩ := cl3 (blk_below XF.out hW); go_simp; done
    case haaw26 => try simp only [Act.put, sA_, sZ_, sS_]; exact rfl
    refine take_ (i := 31) (N := some 50) (v := .agg #[.int .i64 3, .int .i64 0, .int .i64 0, .int .i64 0, .slice none 0 0, .int .i64 0, .int .i64 0, .int .i64 0]) (a' := ?axaw27) #[bT,bT,bT,bT,bT,bT,bT,bT,bT,bT,bT,bT,bT,bT,bT,bT,bT,bT,bT,bT,bT,bT,bT,bT,bT,bT,bT,bT,bT,bT,bT,bT,bF,bF,bF,bF,bF,bF] rfl rfl (by kernel_rfl) (fun _ _ _ h => h) (Or.inl ⟨by rfl, ?yyaw27⟩) hS ?haaw27 ?hhaw27
    case yyaw27 => intro W hW; have m0 := (blk_cell (blk_below X1.out hW) 0).trans rfl; have n0 := (blk_cell (blk_below X2.out hW) 0).trans rfl; obtain ⟨f0, f1, f2⟩ := cl3 (blk_below XF.out hW); go_simp; done
    case haaw27 => try simp only [Act.put, sA_, sZ_, sS_]; exact rfl
    refine take_ (i := 32) (N := some 51) (v := .agg #[.bool false, .int .i64 0, .slice none 0 0, .bool false, .bool false, .slice none 0 0, .int .i64 3, .int .i64 0, .int .i64 0, .int .i64 0, .slice none 0 0, .int .i64 0, .int .i64 0, .int .i64 0]) (a' := ?axaw28) #[bT,bT,bT,bT,bT,bT,bT,bT,bT,bT,bT,bT,bT,bT,bT,bT,bT,bT,bT,bT,bT,bT,bT,bT,bT,bT,bT,bT,bT,bT,bT,bT,bT,bF,bF,bF,bF,bF] rfl rfl (by kernel_rfl) (fun _ _ _ h => h) (Or.inl ⟨by rfl, ?yyaw28⟩) hS ?haaw28 ?hhaw28
    case yyaw28 => intro W hW; have m0 := (blk_cell (blk_below X1.out hW) 0).trans rfl; have n0 := (blk_cell (blk_below X2.out hW) 0).trans rfl; obtain ⟨f0, f1, f2⟩ := cl3 (blk_below XF.out hW); go_simp; done
    case haaw28 => try simp only [Act.put, sA_, sZ_, sS_]; exact rfl
    refine one_ (i := 33) (N := some 52) #[bT,bT,bT,bT,bT,bT,bT,bT,bT,bT,bT,bT,bT,bT,bT,bT,bT,bT,bT,bT,bT,bT,bT,bT,bT,bT,bT,bT,bT,bT,bT,bT,bT,bT,bF,bF,bF,bF] rfl rfl (by kernel_rfl) (by decide) (fun K hK => ?_)
    refine goes_ Try.func23 (by kernel_rfl) rfl #[.agg #[.bool false, .int .i64 0, .slice none 0 0, .bool false, .bool false, .slice none 0 0, .int .i64 3, .int .i64 0, .int .i64 0, .int .i64 0, .slice none 0 0, .int .i64 0, .int .i64 0, .int .i64 0]] (by rfl) rfl rfl (by simp only [List.map_toArray, List.map_cons, List.map_nil]; rfl) ?_
    refine (goals2_c _).mono ?_
    rintro e w7 ⟨⟨Ag, cg, rfl⟩, hb⟩
    refine ⟨_, rfl, ?_⟩
    have hS' := hS.trans (hb.mono hS.size)
    clear hb
    refine hK _ _ hS' (fun hS => ?_)
    clear hK K
    try simp only [Act.put, sA_, sZ_, sS_]
    refine take_ (i := 34) (N := some 53) (v := .int .i64 2) (a' := ?axaw29) #[bT,bT,bT,bT,bT,bT,bT,bT,bT,bT,bT,bT,bT,bT,bT,bT,bT,bT,bT,bT,bT,bT,bT,bT,bT,bT,bT,bT,bT,bT,bT,bT,bT,bT,bT,bF,bF,bF] rfl rfl (by kernel_rfl) (fun _ _ _ h => h) (Or.inl ⟨by rfl, ?yyaw29⟩) hS ?haaw29 ?hhaw29
    case yyaw29 => intro W hW; have m0 := (blk_cell (blk_below X1.out hW) 0).trans rfl; have n0 := (blk_cell (blk_below X2.out hW) 0).trans rfl; obtain ⟨f0, f1, f2⟩ := cl3 (blk_below XF.out hW); go_simp; done
    case haaw29 => try simp only [Act.put, sA_, sZ_, sS_]; exact rfl
    refine take_ (i := 35) (N := some 54) (v := .bool true) (a' := ?axaw30) #[bT,bT,bT,bT,bT,bT,bT,bT,bT,bT,bT,bT,bT,bT,bT,bT,bT,bT,bT,bT,bT,bT,bT,bT,bT,bT,bT,bT,bT,bT,bT,bT,bT,bT,bT,bT,bF,bF] rfl rfl (by kernel_rfl) (fun _ _ _ h => h) (Or.inl ⟨by rfl, ?yyaw30⟩) hS ?haaw30 ?hhaw30
    case yyaw30 => intro W hW; have m0 := (blk_cell (blk_below X1.out hW) 0).trans rfl; have n0 := (blk_cell (blk_below X2.out hW) 0).trans rfl; obtain ⟨f0, f1, f2⟩ := cl3 (blk_below XF.out hW); go_simp; done
    case haaw30 => try simp only [Act.put, sA_, sZ_, sS_]; exact rfl
    refine take_ (i := 36) (N := some 55) (v := .bool true) (a' := ?axaw31) #[bT,bT,bT,bT,bT,bT,bT,bT,bT,bT,bT,bT,bT,bT,bT,bT,bT,bT,bT,bT,bT,bT,bT,bT,bT,bT,bT,bT,bT,bT,bT,bT,bT,bT,bT,bT,bT,bF] rfl rfl (by kernel_rfl) (fun _ _ _ h => h) (Or.inl ⟨by rfl, ?yyaw31⟩) hS ?haaw31 ?hhaw31
    case yyaw31 => intro W hW; have m0 := (blk_cell (blk_below X1.out hW) 0).trans rfl; have n0 := (blk_cell (blk_below X2.out hW) 0).trans rfl; obtain ⟨f0, f1, f2⟩ := cl3 (blk_below XF.out hW); go_simp; done
    case haaw31 => try simp only [Act.put, sA_, sZ_, sS_]; exact rfl
    refine take_ (i := 37) (N := some 0) (v := .bool true) (a' := ?axaw32) #[bT,bT,bT,bT,bT,bT,bT,bT,bT,bT,bT,bT,bT,bT,bT,bT,bT,bT,bT,bT,bT,bT,bT,bT,bT,bT,bT,bT,bT,bT,bT,bT,bT,bT,bT,bT,bT,bT] rfl rfl (by kernel_rfl) (fun _ _ _ h => h) (Or.inl ⟨by rfl, ?yyaw32⟩) hS ?haaw32 ?hhaw32
    case yyaw32 => intro W hW; have m0 := (blk_cell (blk_below X1.out hW) 0).trans rfl; have n0 := (blk_cell (blk_below X2.out hW) 0).trans rfl; obtain ⟨f0, f1, f2⟩ := cl3 (blk_below XF.out hW); go_simp; done
    case haaw32 => try simp only [Act.put, sA_, sZ_, sS_]; exact rfl
    refine done_ (by kernel_rfl) ?_
    go_wp2
    go_ret
    exact ⟨rfl, HB.out.trans (hS.mono HB.out.size)⟩
end Go.Proofs.Ytbfialebaoeicaa.X
namespace Go.Proofs.Ytbfialebaoeicaa.X
open Go.RowKit Go.Proofs.YtbfialebaoeicaaW.PrintWords Go.Proofs.YtbfialebaoeicaaW.PrintLast Go.Proofs.YtbfialebaoeicaaW.PrintMore
set_option linter.all false
set_option maxHeartbeats 16000000 in
set_option maxRecDepth 100000 in
theorem right_c (m : List S27) (A0 : Option Addr) (c0 : Nat) (w : World) (hm : Kd.C k27 w A0 m.length m) (hb : Bnd m) :
  Calls Try.prog 17 #[.agg #[.slice A0 m.length c0]] w fun e w' => e = .returned (.bool (rightR m)) ∧ Below w.heap.size w w' := by
 have HM := Aside0.mk hm
 have HN := Aside0.mk hb
 clear hm hb
 have hu24 := Try.underlying24
 have hu27 := Try.underlying27
 by_cases h0 : m.length = 0
 ·have hz : ((m.length : Int) == 0) = true := by rw [h0]; rfl
  have HZ := Aside0.mk (show rightR m = false by unfold rightR; rw [decide_eq_false (show ¬ 1 ≤ m.length by omega)]; rfl)
  clear h0
  go_enter Try.func17, Try.ntmps17
  go_wp2_with (first | ((with_reducible refine gate_dst (N := 1) rfl ?_); refine box_event ?hg (N := 1) ?hd (cs := #[.slice A0 m.length c0]) (t := 24) ?hr ?_; (case hd => rfl); (case hg => rfl); (case hr => first | (go_simp; done) | (go_simp; rfl)); intro g1 hg w1 hbox hb; have HB := Aside0.mk hb; have X1 := Aside0.mk hbox; clear hbox hb hg; have m0 := (blk_cell X1.out 0).trans rfl))
  go_ret
  exact ⟨ret_b HZ.out.symm, HB.out⟩
 have hz : ((m.length : Int) == 0) = false := beq_eq_false_iff_ne.2 (by omega)
 obtain ⟨ad, e1, hx⟩ := first_F HM.out (by omega)
 subst e1
 have hx' : w.cell? ad = some (.int .i64 (rd_T27 m 0).f0) := hx
 have q0 : (0 < m.length) = True := eq_true (by omega)
 have HPOS := Aside0.mk (show 0 < m.length by omega)
 clear h0 hx
 go_enter Try.func17, Try.ntmps17
 go_upto_region 1 with ((with_reducible refine gate_dst (N := 1) rfl ?_); refine box_event ?hg (N := 1) ?hd (cs := #[.slice (some ad) m.length c0]) (t := 24) ?hr ?_; (case hd => rfl); (case hg => rfl); (case hr => first | (go_simp; done) | (go_simp; rfl)); intro g1 hg w1 hbox hb; have HB := Aside0.mk hb; have X1 := Aside0.mk hbox; clear hbox hb hg; have m0 := (blk_cell X1.out 0).trans rfl; have hx := pw_cell_below HB.out hx')
 go_cut [21] (fun v21 wc => v21 = .bool (!(decide (1 ≤ m.length) && decide (m.length ≤ 16) && ((rd_T27 m 0).f0 == 0))) ∧ Aside0 (Below w.heap.size w wc) ∧ Aside0 (wc.heap[g1]? = some (.cells #[.slice (some ad) m.length c0] 24 (0, 0))))
 case first =>
  have d4 : decide (1 ≤ m.length) = true := decide_eq_true (by have := HPOS.out; omega)
  cases hz0 : ((rd_T27 m 0).f0 == 0) <;> (have hz1 : ((rd_T27 m 0).f0 != 0) = !((rd_T27 m 0).f0 == 0) := rfl; rw [hz0] at hz1; simp only [Bool.not_true, Bool.not_false] at hz1; by_cases hl : m.length ≤ 16)
  ·have d1 : decide ((16 : Int) < (m.length : Int)) = false := decide_eq_false (by omega)
   have d2 : decide (16 < m.length) = false := decide_eq_false (by omega)
   have d3 : decide (m.length ≤ 16) = true := decide_eq_true hl
   clear hl
   go_wp2
   go_meet
   exact ⟨congrArg Value.bool (by rw [d3, d4, hz0]; rfl), HB, X1⟩
  ·have d1 : decide ((16 : Int) < (m.length : Int)) = true := decide_eq_true (by omega)
   have d2 : decide (16 < m.length) = true := decide_eq_true (by omega)
   have d3 : decide (m.length ≤ 16) = false := decide_eq_false hl
   clear hl
   go_wp2
   go_meet
   exact ⟨congrArg Value.bool (by rw [d3, d4, hz0]; rfl), HB, X1⟩
  ·have d1 : decide ((16 : Int) < (m.length : Int)) = false := decide_eq_false (by omega)
   have d2 : decide (16 < m.length) = false := decide_eq_false (by omega)
   have d3 : decide (m.length ≤ 16) = true := decide_eq_true hl
   clear hl
   go_wp2
   go_meet
   exact ⟨congrArg Value.bool (by rw [d3, d4, hz0]; rfl), HB, X1⟩
  ·have d1 : decide ((16 : Int) < (m.length : Int)) = true := decide_eq_true (by omega)
   have d2 : decide (16 < m.length) = true := decide_eq_true (by omega)
   have d3 : decide (m.length ≤ 16) = false := decide_eq_false hl
   clear hl
   go_wp2
   go_meet
   exact ⟨congrArg Value.bool (by rw [d3, d4, hz0]; rfl), HB, X1⟩
 case rest =>
  clear HB X1 m0 hx hx' hz q0
  obtain ⟨rfl, HB, X1⟩ := hcut
  have m0 := (blk_cell X1.out 0).trans rfl
  cases hs : (decide (1 ≤ m.length) && decide (m.length ≤ 16) && ((rd_T27 m 0).f0 == 0)) with
  | false =>
   have HZ := Aside0.mk (show rightR m = false by unfold rightR; rw [hs]; rfl)
   go_wp2
   go_ret
   exact ⟨ret_b HZ.out.symm, HB.out⟩
  | true =>
   have HSP := Aside0.mk (show rightR m = m.all (funcR m) by unfold rightR; rw [hs]; rfl)
   clear hs
   go_wp2
   clear m0
   go_loopg [3] 1000000 (fun gg s3 wr => ∃ x : Int, s3 = .int .i64 x ∧ Aside0 (0 ≤ x ∧ x ≤ m.length ∧ (m.length : Int) - x ≤ gg) ∧ Aside0 ((m.take x.toNat).all (funcR m) = true) ∧ Aside0 (Below w.heap.size w wr) ∧ Aside0 (wr.heap[g1]? = some (.cells #[.slice (some ad) m.length c0] 24 (0, 0))))
   case atStart => exact ⟨0, rfl, ⟨by have := HN.out.nf; omega⟩, ⟨by simp⟩, HB, X1⟩
   case round =>
    clear HB X1
    obtain ⟨x, rfl, HX, HA, HB, X1⟩ := hrel
    have m0 := (blk_cell X1.out 0).trans rfl
    by_cases hlt : x < (m.length : Int)
    rotate_left
    ·have hd : decide (x < (m.length : Int)) = false := decide_eq_false hlt
     have HE := Aside0.mk (show m.all (funcR m) = true by rw [← all_end m _ x hlt]; exact HA.out)
     clear hlt
     go_wp2
     go_ret
     exact ⟨ret_b (by rw [HSP.out, HE.out]), HB.out⟩
    have hd : decide (x < (m.length : Int)) = true := decide_eq_true hlt
    have HLT := Aside0.mk hlt
    clear hlt
    have p1 : (0 ≤ x) = True := eq_true HX.out.1
    have p2 : (x < (m.length : Int)) = True := eq_true HLT.out
    obtain ⟨ad', A2, c2, e1, y0, y1, y2, _, hC2⟩ := at_T27 (Kd.C_below HM.out HB.out) x HX.out.1 HLT.out
    cases e1
    have HMB := Aside0.mk (rd_mem' m z27 x HX.out.1 HLT.out)
    have HST := Aside0.mk (all_step m z27 (funcR m) x HX.out.1 HLT.out)
    have HNO := Aside0.mk (all_no m z27 (funcR m) x HX.out.1 HLT.out)
    have hrd : m.getD x.toNat z27 = rd_T27 m x := rfl
    rw [hrd] at HMB HST HNO
    clear hrd
    generalize rd_T27 m x = f at y0 y1 y2 hC2 HMB HST HNO
    have C2 := Aside0.mk hC2
    have HFN := Aside0.mk (HN.out.f f HMB.out)
    clear hC2
    go_wp2
    go_still_tail 6, (by kernel_rfl)
    replace HB := Aside0.mk (below_drew HB.out)
    replace X1 := Aside0.mk (blk_drew X1.out)
    replace C2 := Aside0.mk (Kd.C_drew C2.out)
    change wpList _ _ _ _ _ wr.drew
    generalize wr.drew = w2 at *
    cases hiq : funcR m f with
    | false =>
     have HIQ := Aside0.mk hiq
     clear hiq
     go_wp2_with (go_at_call 19; (with_reducible refine (func_c m (some ad) c0 f A2 c2 _ (Kd.C_below HM.out HB.out) C2.out HFN.out).mono ?_); rintro e w8 ⟨rfl, hb⟩; replace HB := Aside0.mk (below_step HB.out hb); replace X1 := Aside0.mk (blk_below X1.out hb); clear hb C2; rw [HIQ.out])
     go_ret
     exact ⟨ret_b (by rw [HSP.out, HNO.out HIQ.out]), HB.out⟩
    | true =>
     have HIQ := Aside0.mk hiq
     clear hiq
     go_wp2_with (go_at_call 19; (with_reducible refine (func_c m (some ad) c0 f A2 c2 _ (Kd.C_below HM.out HB.out) C2.out HFN.out).mono ?_); rintro e w8 ⟨rfl, hb⟩; replace HB := Aside0.mk (below_step HB.out hb); replace X1 := Aside0.mk (blk_below X1.out hb); clear hb C2; rw [HIQ.out])
     have W1 := Aside0.mk (show wrap64 (x + 1) = x + 1 from wrap_in _ (by have := HX.out; omega) (by have := HLT.out; have := HN.out.nf; omega))
     go_roundg ((m.length : Int) - (x + 1)).toNat
     case measure => have h1_ := HX.out; have h2_ := HLT.out; omega
     case rel => exact ⟨x + 1, by first | (rw [W1.out]; done) | rfl | (simp only [W1.out]; done), ⟨by have := HX.out; have := HLT.out; omega⟩, ⟨by rw [HST.out, HA.out, HIQ.out]; rfl⟩, HB, X1⟩
end Go.Proofs.Ytbfialebaoeicaa.X
