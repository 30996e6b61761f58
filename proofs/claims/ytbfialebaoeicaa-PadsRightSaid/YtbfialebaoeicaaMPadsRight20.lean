/- Part 21 of the proof of the statement PadsRight: the words of the walks, the walks through the functions that it reaches, and the plain laws of what they compute. -/
import Derived.Test.YtbfialebaoeicaaMPadsRight19
import Derived.RegionTactic
import Derived.ChangeAlike
import Derived.Deep.QuietTactic
import Derived.BigQuiet
import Derived.Deep.MidRow
namespace Go.Proofs.Ytbfialebaoeicaa.X
open Go.RowKit Go.Proofs.YtbfialebaoeicaaW.PrintWords Go.Proofs.YtbfialebaoeicaaW.PrintLast Go.Proofs.YtbfialebaoeicaaW.PrintMore
set_option linter.all false
theorem roundB_len (b : S41) : (roundB b).f2.length = b.f2.length + 1 := by
 show (b.f2 ++ [newI b]).length = _
 rw [List.length_append]
 rfl
set_option maxHeartbeats 16000000 in
set_option maxRecDepth 100000 in
theorem rmod_c (m : List S27) (A0 : Option Addr) (c0 : Nat) (w : World) (hm : Kd.C k27 w A0 m.length m) (hc : m.length ≤ c0) (hb : BC m) (hr : rightR m = true) :
  Calls Try.prog 47 #[.agg #[.slice A0 m.length c0]] w fun e w' => (∃ A c, e = .returned (.agg #[.slice A m.length c]) ∧ m.length ≤ c ∧ Kd.C k27 w' A m.length (m.map padF)) ∧ Below w.heap.size w w' := by
 have HM := Aside0.mk (Kd.C_F hpF hm)
 have HC := Aside0.mk hc
 have HN := Aside0.mk hb
 have HRR := Aside0.mk hr
 clear hm hc hb hr
 have hu24 := Try.underlying24
 have hu27 := Try.underlying27
 have hu41 := Try.underlying41
 have hu49 := Try.underlying49
 have hu35 := Try.underlying35
 have hu39 := Try.underlying39
 go_enter Try.func47, Try.ntmps47
 go_upto_region 1 with (first | ((with_reducible refine gate_dst (N := 1) rfl ?_); refine box_event ?hg (N := 1) ?hd (cs := #[.slice A0 m.length c0]) (t := 24) ?hr ?_; (case hd => rfl); (case hg => rfl); (case hr => first | (go_simp; done) | (go_simp; rfl)); intro g1 hg w1 hbox hb; have HLX1 := Aside0.mk (show w.heap.size ≤ g1 by rw [hg]; exact Nat.le_refl _); have HB := Aside0.mk hb; have X1 := Aside0.mk hbox; clear hbox hb hg; have m0 := (blk_cell X1.out 0).trans rfl; have zm0 := blk_frozen X1.out 0) | ((with_reducible refine gate_dst (N := 2) rfl ?_); refine box_event ?hg (N := 2) ?hd (cs := #[.slice none 0 0]) (t := 24) ?hr ?_; (case hd => rfl); (case hg => rfl); (case hr => first | (go_simp; done) | (go_simp; rfl)); intro g2 hg w2 hbox hb; have HLX2 := Aside0.mk (show w.heap.size ≤ g2 by rw [hg]; exact HB.out.size); have HNE := Aside0.mk (show g2 ≠ g1 by rw [hg]; exact Nat.ne_of_gt (blk_lt X1.out)); replace HB := Aside0.mk (below_step HB.out hb); replace X1 := Aside0.mk (blk_below X1.out hb); have X2 := Aside0.mk hbox; clear hbox hb hg; have n0 := (blk_cell X2.out 0).trans rfl; have zn0 := blk_frozen X2.out 0))
 try simp only [Act.put, sA_, sZ_, sS_]
 skip
 clear m0 n0 zm0 zn0
 go_wp2
 go_loopg [3] 1000000 (fun gg s wr => ∃ (x : Int) (A : Option Addr) (c N : Nat) (ok : Nat → Prop), s = .int .i64 x ∧ Aside0 (0 ≤ x ∧ x ≤ m.length ∧ (m.length : Int) - x ≤ gg) ∧ Aside0 (Below w.heap.size w wr) ∧ Aside0 (wr.heap[g1]? = some (.cells #[.slice A m.length c] 24 (0, 0))) ∧ Aside0 (wr.heap[g2]? = some (.cells #[.slice none 0 0] 24 (0, 0))) ∧ Aside0 (Kd.F k27 wr ok A m.length (upTo tF m x.toNat)) ∧ Aside0 (m.length ≤ c ∧ N ≤ wr.heap.size ∧ g1 < N ∧ g2 < N ∧ ∀ k, ok k → k ≠ g1 ∧ k ≠ g2 ∧ k < N))
 case atStart => exact ⟨0, A0, c0, w2.heap.size, fun k => k < w.heap.size, rfl, ⟨by have := HN.out.nf; omega⟩, HB, X1, X2, ⟨by rw [show (0 : Int).toNat = 0 from rfl, upTo_zero]; exact Kd.F_below HM.out HB.out⟩, ⟨HC.out, Nat.le_refl _, blk_lt X1.out, blk_lt X2.out, fun k hk => ⟨by have := HLX1.out; omega, by have := HLX2.out; omega, Nat.lt_of_lt_of_le hk HB.out.size⟩⟩⟩
 case round =>
  clear HB X1 X2
  obtain ⟨x, A, c, N, ok, rfl, HX, HB, X1, X2, HF, HO⟩ := hrel
  have m0 := (blk_cell X1.out 0).trans rfl
  have zm0 := blk_frozen X1.out 0
  have n0 := (blk_cell X2.out 0).trans rfl
  have zn0 := blk_frozen X2.out 0
  by_cases hlt : x < (m.length : Int)
  rotate_left
  ·have hd : decide (x < (m.length : Int)) = false := decide_eq_false hlt
   have HLT := Aside0.mk hlt
   clear hlt
   have hF1 : Kd.F k27 wr ok A m.length (m.map tF) := by rw [← upTo_all tF m (i := x.toNat) (by have := HLT.out; have := HX.out; omega)]; exact HF.out
   have HM1 := Aside0.mk (M1_of HN.out HRR.out)
   generalize m.map tF = m1 at hF1 HM1
   have HML := Aside0.mk HM1.out.len
   clear HF HX HLT
   have HF := Aside0.mk hF1
   clear hF1
   go_wp2
   clear m0 zm0 n0 zn0
   clear hd
   go_loopg [6] 1000000 (fun gg s wr => ∃ (x : Int) (A : Option Addr) (c N : Nat) (ok : Nat → Prop), s = .int .i64 x ∧ Aside0 (0 ≤ x ∧ x ≤ m.length ∧ (m.length : Int) - x ≤ gg) ∧ Aside0 (Below w.heap.size w wr) ∧ Aside0 (wr.heap[g1]? = some (.cells #[.slice A m.length c] 24 (0, 0))) ∧ Aside0 (wr.heap[g2]? = some (.cells #[.slice none 0 0] 24 (0, 0))) ∧ Aside0 (Kd.F k27 wr ok A m.length (upTo rF m1 x.toNat)) ∧ Aside0 (m.length ≤ c ∧ N ≤ wr.heap.size ∧ g1 < N ∧ g2 < N ∧ ∀ k, ok k → k ≠ g1 ∧ k ≠ g2 ∧ k < N))
   case atStart => exact ⟨0, A, c, N, ok, rfl, ⟨by have := HN.out.nf; omega⟩, HB, X1, X2, ⟨by rw [show (0 : Int).toNat = 0 from rfl, upTo_zero]; exact HF.out⟩, HO⟩
   case round =>
    clear HB X1 X2 HF HO
    obtain ⟨x, A, c, N, ok, rfl, HX, HB, X1, X2, HF, HO⟩ := hrel
    have m0 := (blk_cell X1.out 0).trans rfl
    have zm0 := blk_frozen X1.out 0
    have n0 := (blk_cell X2.out 0).trans rfl
    have zn0 := blk_frozen X2.out 0
    by_cases hlt : x < (m.length : Int)
    rotate_left
    ·have hd : decide (x < (m.length : Int)) = false := decide_eq_false hlt
     have HLT := Aside0.mk hlt
     clear hlt
     go_wp2
     refine bodyPost_ret (results_cell_row rfl _ _ g2 24 #[.slice A m.length c] (0, 0) _ rfl (set_blk 0 _ X2.out rfl) Try.underlying24 rfl (by kernel_rfl)) rfl ?_
     exact ⟨⟨A, c, rfl, HO.out.1, by rw [← HM1.out.all, ← upTo_all rF m1 (i := x.toNat) (by have := HLT.out; have := HX.out; have := HML.out; omega)]; exact Kd.F_now (Kd.F_far (p := ⟨g2, 0, none⟩) HF.out (fun k hk => (HO.out.2.2.2.2 k hk).2.1) _)⟩, below_set HB.out HLX2.out⟩
    have hd : decide (x < (m.length : Int)) = true := decide_eq_true hlt
    have HLT := Aside0.mk hlt
    clear hlt
    have p1 : (0 ≤ x) = True := eq_true HX.out.1
    have p2 : (x < (m.length : Int)) = True := eq_true HLT.out
    have HMF := Aside0.mk (show rd_T27 m1 x ∈ m1 from rd_mem' m1 z27 x HX.out.1 (by rw [HML.out]; exact HLT.out))
    generalize hfx : rd_T27 m1 x = f at HMF
    have HFX := Aside0.mk hfx
    clear hfx
    obtain ⟨ad, A2, c2, x1, y0, y1, y2, hl2, hF2⟩ := FF_at HF.out x HX.out.1 HLT.out (f := f) ((upTo_get rF m1 z27 x).trans HFX.out)
    subst x1
    go_wp2
    clear m0 zm0 n0 zn0
    clear y0 y1 y2 hl2 hF2
    go_loopg [7] 1000000 (fun gg s wr => ∃ (y : Int) (A : Option Addr) (c N : Nat) (ok : Nat → Prop), s = .int .i64 y ∧ Aside0 (0 ≤ y ∧ y ≤ f.f2.length ∧ (f.f2.length : Int) - y ≤ gg) ∧ Aside0 (Below w.heap.size w wr) ∧ Aside0 (wr.heap[g1]? = some (.cells #[.slice A m.length c] 24 (0, 0))) ∧ Aside0 (wr.heap[g2]? = some (.cells #[.slice none 0 0] 24 (0, 0))) ∧ Aside0 (Kd.F k27 wr ok A m.length (inn rF (rB f) m1 x.toNat f y.toNat)) ∧ Aside0 (m.length ≤ c ∧ N ≤ wr.heap.size ∧ g1 < N ∧ g2 < N ∧ ∀ k, ok k → k ≠ g1 ∧ k ≠ g2 ∧ k < N))
    case atStart => exact ⟨0, _, c, N, ok, rfl, ⟨by have := HM1.out.nb f HMF.out; omega⟩, HB, X1, X2, ⟨by rw [show (0 : Int).toNat = 0 from rfl, ← inn_zero rF (rB f) m1 x f HX.out.1 (by rw [HML.out]; exact HLT.out) HFX.out]; exact HF.out⟩, HO⟩
    case round =>
     clear HB X1 X2 HF HO
     obtain ⟨y, A, c, N, ok, rfl, HY, HB, X1, X2, HF, HO⟩ := hrel
     obtain ⟨ad, A2, c2, x1, y0, y1, y2_, hl2, hF2_⟩ := FF_at HF.out x HX.out.1 HLT.out (inn_at rF (rB f) m1 x f y.toNat HX.out.1 (by rw [HML.out]; exact HLT.out))
     subst x1
     clear y0 y1 hl2
     have y2 : wr.cell? ⟨(ad.add (x.toNat * 3)).block, (ad.add (x.toNat * 3)).off + 2, none⟩ = some (.slice A2 (upTo (rB f) f.f2 y.toNat).length c2) := y2_
     have hF2 : Kd.F k41 wr ok A2 (upTo (rB f) f.f2 y.toNat).length (upTo (rB f) f.f2 y.toNat) := hF2_
     rw [upTo_len] at y2 hF2
     clear y2_ hF2_
     have m0 := (blk_cell X1.out 0).trans rfl
     have zm0 := blk_frozen X1.out 0
     have n0 := (blk_cell X2.out 0).trans rfl
     have zn0 := blk_frozen X2.out 0
     by_cases hlt : y < (f.f2.length : Int)
     rotate_left
     ·have hd2 : decide (y < (f.f2.length : Int)) = false := decide_eq_false hlt
      have HNX := Aside0.mk (inn_all rF (rB f) m1 x f (y := y.toNat) (by have := HY.out; omega) HX.out.1 (by rw [HML.out]; exact HLT.out) HFX.out rfl)
      clear hlt hF2
      go_wp2
      have W1 := Aside0.mk (show wrap64 (x + 1) = x + 1 from wrap_in _ (by have := HX.out; omega) (by have := HLT.out; have := HN.out.nf; omega))
      go_roundg ((m.length : Int) - (x + 1)).toNat
      case measure => have h1_ := HX.out; have h2_ := HLT.out; omega
      case rel => exact ⟨x + 1, _, c, N, ok, by first | (rw [W1.out]; done) | rfl | (simp only [W1.out]; done), ⟨by have := HX.out; have := HLT.out; omega⟩, HB, X1, X2, ⟨by rw [← HNX.out]; exact HF.out⟩, HO⟩
     have hd2 : decide (y < (f.f2.length : Int)) = true := decide_eq_true hlt
     have HLY := Aside0.mk hlt
     clear hlt
     have p3 : (0 ≤ y) = True := eq_true HY.out.1
     have p4 : (y < (f.f2.length : Int)) = True := eq_true HLY.out
     have HMB := Aside0.mk (show rd_T41 f.f2 y ∈ f.f2 from rd_mem' f.f2 z41 y HY.out.1 HLY.out)
     generalize hbx : rd_T41 f.f2 y = b at HMB
     have HBX := Aside0.mk hbx
     clear hbx
     obtain ⟨be, A4, c4, A5, c5, A6, c6, x1, z0, z1, z2, z3, z4, z5, z6, z7, z8, z9, z10, z11, z12, z13, hFK⟩ := FB_at hF2 y HY.out.1 HLY.out (b := b) ((inn_blk (rB f) f y).trans HBX.out)
     subst x1
     have FKb := Aside0.mk hFK
     have HF2 := Aside0.mk hF2
     have Y2 := Aside0.mk y2
     clear hFK hF2
     go_upto_region 16 with (fail)
     go_cut [8] from 53 to 119 (fun v8 wc => ∃ g8 : Nat, v8 = .pointer (some ⟨g8, 0, none⟩) ∧ Aside0 (Below w.heap.size w wc) ∧ Aside0 (wc.heap[g1]? = some (.cells #[.slice (some ad) m.length c] 24 (0, 0))) ∧ Aside0 (wc.heap[g2]? = some (.cells #[.slice none 0 0] 24 (0, 0))) ∧ Aside0 (Kd.F k27 wc ok (some ad) m.length (inn rF (rB f) m1 x.toNat f y.toNat)) ∧ Aside0 (m.length ≤ c ∧ N ≤ wc.heap.size ∧ g1 < N ∧ g2 < N ∧ ∀ k, ok k → k ≠ g1 ∧ k ≠ g2 ∧ k < N) ∧ Aside0 (wc.heap[g8]? = some (.cells #[.bool b.f0, .int .i64 b.f1.f0, .slice A4 b.f1.f1.length c4, .bool b.f1.f2, .bool b.f1.f3, .slice A5 b.f2.length c5, .int .i64 b.f3.f0, .int .i64 b.f3.f1, .int .i64 b.f3.f2, .int .i64 b.f3.f3, .slice A6 b.f3.f4.length c6, .int .i64 b.f3.f5, .int .i64 b.f3.f6, .int .i64 b.f3.f7] 41 (0, 0))) ∧ Aside0 (Kd.FK k41 wc ok b [.bool b.f0, .int .i64 b.f1.f0, .slice A4 b.f1.f1.length c4, .bool b.f1.f2, .bool b.f1.f3, .slice A5 b.f2.length c5, .int .i64 b.f3.f0, .int .i64 b.f3.f1, .int .i64 b.f3.f2, .int .i64 b.f3.f3, .slice A6 b.f3.f4.length c6, .int .i64 b.f3.f5, .int .i64 b.f3.f6, .int .i64 b.f3.f7]) ∧ Aside0 (w.heap.size ≤ g8 ∧ N ≤ g8 ∧ g1 ≠ g8 ∧ g2 ≠ g8 ∧ g8 < wc.heap.size) ∧ Aside0 (Kd.F k41 wc ok (some be) f.f2.length (upTo (rB f) f.f2 y.toNat)) ∧ Aside0 (wc.cell? ⟨(ad.add (x.toNat * 3)).block, (ad.add (x.toNat * 3)).off + 2, none⟩ = some (.slice (some be) f.f2.length c2)))
     case first =>
      go_wp2
      go_meet
      exact ⟨_, rfl, ⟨below_alloc HB.out _⟩, ⟨blk_alloc X1.out _⟩, ⟨blk_alloc X2.out _⟩, ⟨Kd.F_alloc HF.out _⟩, ⟨HO.out.1, Nat.le_trans HO.out.2.1 ((below_alloc (Below.refl _ _) _).size), HO.out.2.2⟩, ⟨blk_new _ _⟩, ⟨Kd.FK_below FKb.out (below_alloc (Below.refl _ _) _)⟩, ⟨HB.out.size, HO.out.2.1, Nat.ne_of_lt (blk_lt X1.out), Nat.ne_of_lt (blk_lt X2.out), blk_lt (blk_new _ _)⟩, ⟨Kd.F_alloc HF2.out _⟩, ⟨pw_cell_below (below_alloc (Below.refl _ _) _) Y2.out⟩⟩
     case rest =>
      clear z0 z1 z2 z3 z4 z5 z6 z7 z8 z9 z10 z11 z12 z13
      clear m0 zm0 n0 zn0
      clear y2 HB X1 X2 HF HO FKb HF2 Y2 hd hd2
      obtain ⟨g8, rfl, HB, X1, X2, HF, HO, X8, FKb, HG8, HF2, Y2⟩ := hcut
      have m0 := (blk_cell X1.out 0).trans rfl
      have zm0 := blk_frozen X1.out 0
      have n0 := (blk_cell X2.out 0).trans rfl
      have zn0 := blk_frozen X2.out 0
      obtain ⟨e0, e1, e2, e3, e4, e5, e6, e7, e8, e9, e10, e11, e12, e13⟩ := cl14 X8.out
      obtain ⟨ze0, ze1, ze2, ze3, ze4, ze5, ze6, ze7, ze8, ze9, ze10, ze11, ze12, ze13⟩ := fz14 X8.out
      go_upto_region 17 with (fail)
      go_cut [9] from 53 to 119 (fun v9 wc => ∃ g9 : Nat, v9 = .pointer (some ⟨g9, 0, none⟩) ∧ Aside0 (Below w.heap.size w wc) ∧ Aside0 (wc.heap[g1]? = some (.cells #[.slice (some ad) m.length c] 24 (0, 0))) ∧ Aside0 (wc.heap[g2]? = some (.cells #[.slice none 0 0] 24 (0, 0))) ∧ Aside0 (Kd.F k27 wc ok (some ad) m.length (inn rF (rB f) m1 x.toNat f y.toNat)) ∧ Aside0 (m.length ≤ c ∧ N ≤ wc.heap.size ∧ g1 < N ∧ g2 < N ∧ ∀ k, ok k → k ≠ g1 ∧ k ≠ g2 ∧ k < N) ∧ Aside0 (wc.heap[g8]? = some (.cells #[.bool b.f0, .int .i64 b.f1.f0, .slice A4 b.f1.f1.length c4, .bool b.f1.f2, .bool b.f1.f3, .slice A5 b.f2.length c5, .int .i64 b.f3.f0, .int .i64 b.f3.f1, .int .i64 b.f3.f2, .int .i64 b.f3.f3, .slice A6 b.f3.f4.length c6, .int .i64 b.f3.f5, .int .i64 b.f3.f6, .int .i64 b.f3.f7] 41 (0, 0))) ∧ Aside0 (wc.heap[g9]? = some (.cells #[.int .i64 b.f3.f0, .int .i64 b.f3.f1, .int .i64 b.f3.f2, .int .i64 b.f3.f3, .slice A6 b.f3.f4.length c6, .int .i64 b.f3.f5, .int .i64 b.f3.f6, .int .i64 b.f3.f7] 39 (0, 0))) ∧ Aside0 (Kd.FK k41 wc ok b [.bool b.f0, .int .i64 b.f1.f0, .slice A4 b.f1.f1.length c4, .bool b.f1.f2, .bool b.f1.f3, .slice A5 b.f2.length c5, .int .i64 b.f3.f0, .int .i64 b.f3.f1, .int .i64 b.f3.f2, .int .i64 b.f3.f3, .slice A6 b.f3.f4.length c6, .int .i64 b.f3.f5, .int .i64 b.f3.f6, .int .i64 b.f3.f7]) ∧ Aside0 (w.heap.size ≤ g8 ∧ N ≤ g8 ∧ g1 ≠ g8 ∧ g2 ≠ g8 ∧ g8 < wc.heap.size) ∧ Aside0 (Kd.F k41 wc ok (some be) f.f2.length (upTo (rB f) f.f2 y.toNat)) ∧ Aside0 (wc.cell? ⟨(ad.add (x.toNat * 3)).block, (ad.add (x.toNat * 3)).off + 2, none⟩ = some (.slice (some be) f.f2.length c2)) ∧ Aside0 (g8 ≠ g9))
      case first =>
       go_wp2
       go_meet
       exact ⟨_, rfl, ⟨below_alloc HB.out _⟩, ⟨blk_alloc X1.out _⟩, ⟨blk_alloc X2.out _⟩, ⟨Kd.F_alloc HF.out _⟩, ⟨HO.out.1, Nat.le_trans HO.out.2.1 ((below_alloc (Below.refl _ _) _).size), HO.out.2.2⟩, ⟨blk_alloc X8.out _⟩, ⟨blk_new _ _⟩, ⟨Kd.FK_below FKb.out (below_alloc (Below.refl _ _) _)⟩, ⟨HG8.out.1, HG8.out.2.1, HG8.out.2.2.1, HG8.out.2.2.2.1, blk_lt (blk_alloc X8.out _)⟩, ⟨Kd.F_alloc HF2.out _⟩, ⟨pw_cell_below (below_alloc (Below.refl _ _) _) Y2.out⟩, ⟨Nat.ne_of_lt (blk_lt X8.out)⟩⟩
      case rest =>
       clear m0 zm0 n0 zn0
       clear e0 ze0 e1 ze1 e2 ze2 e3 ze3 e4 ze4 e5 ze5 e6 ze6 e7 ze7 e8 ze8 e9 ze9 e10 ze10 e11 ze11 e12 ze12 e13 ze13
       clear HB X1 X2 HF HO X8 FKb HG8 HF2 Y2
       obtain ⟨g9, rfl, HB, X1, X2, HF, HO, X8, X9, FKb, HG8, HF2, Y2, HN89⟩ := hcut
       go_upto_region 18 with (fail)
       go_cut [96] from 53 to 119 (fun v96 wd => v96 = .bool (goes2 f b) ∧ Aside0 (Below w.heap.size w wd) ∧ Aside0 (wd.heap[g1]? = some (.cells #[.slice (some ad) m.length c] 24 (0, 0))) ∧ Aside0 (wd.heap[g2]? = some (.cells #[.slice none 0 0] 24 (0, 0))) ∧ Aside0 (Kd.F k27 wd ok (some ad) m.length (inn rF (rB f) m1 x.toNat f y.toNat)) ∧ Aside0 (m.length ≤ c ∧ N ≤ wd.heap.size ∧ g1 < N ∧ g2 < N ∧ ∀ k, ok k → k ≠ g1 ∧ k ≠ g2 ∧ k < N) ∧ Aside0 (wd.heap[g8]? = some (.cells #[.bool b.f0, .int .i64 b.f1.f0, .slice A4 b.f1.f1.length c4, .bool b.f1.f2, .bool b.f1.f3, .slice A5 b.f2.length c5, .int .i64 b.f3.f0, .int .i64 b.f3.f1, .int .i64 b.f3.f2, .int .i64 b.f3.f3, .slice A6 b.f3.f4.length c6, .int .i64 b.f3.f5, .int .i64 b.f3.f6, .int .i64 b.f3.f7] 41 (0, 0))) ∧ Aside0 (wd.heap[g9]? = some (.cells #[.int .i64 b.f3.f0, .int .i64 b.f3.f1, .int .i64 b.f3.f2, .int .i64 b.f3.f3, .slice A6 b.f3.f4.length c6, .int .i64 b.f3.f5, .int .i64 b.f3.f6, .int .i64 b.f3.f7] 39 (0, 0))) ∧ Aside0 (Kd.FK k41 wd ok b [.bool b.f0, .int .i64 b.f1.f0, .slice A4 b.f1.f1.length c4, .bool b.f1.f2, .bool b.f1.f3, .slice A5 b.f2.length c5, .int .i64 b.f3.f0, .int .i64 b.f3.f1, .int .i64 b.f3.f2, .int .i64 b.f3.f3, .slice A6 b.f3.f4.length c6, .int .i64 b.f3.f5, .int .i64 b.f3.f6, .int .i64 b.f3.f7]) ∧ Aside0 (w.heap.size ≤ g8 ∧ N ≤ g8 ∧ g1 ≠ g8 ∧ g2 ≠ g8 ∧ g8 < wd.heap.size) ∧ Aside0 (Kd.F k41 wd ok (some be) f.f2.length (upTo (rB f) f.f2 y.toNat)) ∧ Aside0 (wd.cell? ⟨(ad.add (x.toNat * 3)).block, (ad.add (x.toNat * 3)).off + 2, none⟩ = some (.slice (some be) f.f2.length c2)))
       case first =>
        go_wp2
        cases hk : (b.f3.f0 == 4) with
        | false =>
         refine start_ (S := (fun W : World => Below wc.heap.size wc W)) (ds := []) #[bF,bF,bF,bF,bF,bF,bF,bF,bF,bF,bF,bF,bF,bF,bF,bF,bF,bF,bF,bF,bF,bF] (by kernel_rfl) (by rfl) (by rfl) (below_drew (Below.refl _ _)) (fun hS => ?_)
         refine pure_ (i := 0) (N := some 75) (v := .pointer (some ⟨g9, 0, none⟩)) (a' := ?axsa1) #[bT,bF,bF,bF,bF,bF,bF,bF,bF,bF,bF,bF,bF,bF,bF,bF,bF,bF,bF,bF,bF,bF] rfl rfl (by kernel_rfl) (fun _ _ _ h => h) (Or.inl ⟨by rfl, ?yysa1⟩) ?hasa1 ?hhsa1
         case yysa1 => intro W; go_simp; done
         case hasa1 => try simp only [Act.put, sA_, sZ_, sS_]; exact rfl
         refine take_ (i := 1) (N := some 76) (v := .int .i64 b.f3.f0) (a' := ?axsa2) #[bT,bT,bF,bF,bF,bF,bF,bF,bF,bF,bF,bF,bF,bF,bF,bF,bF,bF,bF,bF,bF,bF] rfl rfl (by kernel_rfl) (fun _ _ _ h => h) (Or.inl ⟨by rfl, ?yysa2⟩) hS ?hasa2 ?hhsa2
         case yysa2 => intro W hW; have e0 := (blk_cell (blk_below X9.out hW) 0).trans rfl; have e7 := (blk_cell (blk_below X9.out hW) 7).trans rfl; have e5 := (blk_cell (blk_below X8.out hW) 5).trans rfl; have m0 := (blk_cell (blk_below X1.out hW) 0).trans rfl; have y2 := pw_cell_below hW Y2.out; go_simp; done
         case hasa2 => try simp only [Act.put, sA_, sZ_, sS_]; exact rfl
         refine take_ (i := 2) (N := some 77) (v := .bool false) (a' := ?axsa3) #[bT,bT,bT,bF,bF,bF,bF,bF,bF,bF,bF,bF,bF,bF,bF,bF,bF,bF,bF,bF,bF,bF] rfl rfl (by kernel_rfl) (fun _ _ _ h => h) (Or.inl ⟨by rfl, ?yysa3⟩) hS ?hasa3 ?hhsa3
         case yysa3 => intro W hW; have e0 := (blk_cell (blk_below X9.out hW) 0).trans rfl; have e7 := (blk_cell (blk_below X9.out hW) 7).trans rfl; have e5 := (blk_cell (blk_below X8.out hW) 5).trans rfl; have m0 := (blk_cell (blk_below X1.out hW) 0).trans rfl; have y2 := pw_cell_below hW Y2.out; go_simp; done
         case hasa3 => try simp only [Act.put, sA_, sZ_, sS_]; exact rfl
         refine take_ (i := 3) (N := some 78) (v := .bool false) (a' := ?axsa4) #[bT,bT,bT,bT,bF,bF,bF,bF,bF,bF,bF,bF,bF,bF,bF,bF,bF,bF,bF,bF,bF,bF] rfl rfl (by kernel_rfl) (fun _ _ _ h => h) (Or.inl ⟨by rfl, ?yysa4⟩) hS ?hasa4 ?hhsa4
         case yysa4 => intro W hW; have e0 := (blk_cell (blk_below X9.out hW) 0).trans rfl; have e7 := (blk_cell (blk_below X9.out hW) 7).trans rfl; have e5 := (blk_cell (blk_below X8.out hW) 5).trans rfl; have m0 := (blk_cell (blk_below X1.out hW) 0).trans rfl; have y2 := pw_cell_below hW Y2.out; go_simp; done
         case hasa4 => try simp only [Act.put, sA_, sZ_, sS_]; exact rfl
         refine take_ (i := 4) (N := some 79) (v := undef) (a' := ?axsa5) #[bT,bT,bT,bT,bT,bF,bF,bF,bF,bF,bF,bF,bF,bF,bF,bF,bF,bF,bF,bF,bF,bF] rfl rfl (by kernel_rfl) (fun _ _ _ h => h) (Or.inr ⟨by rfl, rfl⟩) hS ?hasa5 ?hhsa5
         case hasa5 => try simp only [Act.put, sA_, sZ_, sS_]; exact rfl
         refine take_ (i := 5) (N := some 80) (v := undef) (a' := ?axsa6) #[bT,bT,bT,bT,bT,bT,bF,bF,bF,bF,bF,bF,bF,bF,bF,bF,bF,bF,bF,bF,bF,bF] rfl rfl (by kernel_rfl) (fun _ _ _ h => h) (Or.inr ⟨by rfl, rfl⟩) hS ?hasa6 ?hhsa6
         case hasa6 => try simp only [Act.put, sA_, sZ_, sS_]; exact rfl
         refine take_ (i := 6) (N := some 81) (v := undef) (a' := ?axsa7) #[bT,bT,bT,bT,bT,bT,bT,bF,bF,bF,bF,bF,bF,bF,bF,bF,bF,bF,bF,bF,bF,bF] rfl rfl (by kernel_rfl) (fun _ _ _ h => h) (Or.inr ⟨by rfl, rfl⟩) hS ?hasa7 ?hhsa7
         case hasa7 => try simp only [Act.put, sA_, sZ_, sS_]; exact rfl
         refine take_ (i := 7) (N := some 82) (v := undef) (a' := ?axsa8) #[bT,bT,bT,bT,bT,bT,bT,bT,bF,bF,bF,bF,bF,bF,bF,bF,bF,bF,bF,bF,bF,bF] rfl rfl (by kernel_rfl) (fun _ _ _ h => h) (Or.inr ⟨by rfl, rfl⟩) hS ?hasa8 ?hhsa8
         case hasa8 => try simp only [Act.put, sA_, sZ_, sS_]; exact rfl
         refine take_ (i := 8) (N := some 83) (v := .bool false) (a' := ?axsa9) #[bT,bT,bT,bT,bT,bT,bT,bT,bT,bF,bF,bF,bF,bF,bF,bF,bF,bF,bF,bF,bF,bF] rfl rfl (by kernel_rfl) (fun _ _ _ h => h) (Or.inl ⟨by rfl, ?yysa9⟩) hS ?hasa9 ?hhsa9
         case yysa9 => intro W hW; have e0 := (blk_cell (blk_below X9.out hW) 0).trans rfl; have e7 := (blk_cell (blk_below X9.out hW) 7).trans rfl; have e5 := (blk_cell (blk_below X8.out hW) 5).trans rfl; have m0 := (blk_cell (blk_below X1.out hW) 0).trans rfl; have y2 := pw_cell_below hW Y2.out; go_simp; done
         case hasa9 => try simp only [Act.put, sA_, sZ_, sS_]; exact rfl
         refine take_ (i := 9) (N := some 84) (v := .bool false) (a' := ?axsa10) #[bT,bT,bT,bT,bT,bT,bT,bT,bT,bT,bF,bF,bF,bF,bF,bF,bF,bF,bF,bF,bF,bF] rfl rfl (by kernel_rfl) (fun _ _ _ h => h) (Or.inl ⟨by rfl, ?yysa10⟩) hS ?hasa10 ?hhsa10
         case yysa10 => intro W hW; have e0 := (blk_cell (blk_below X9.out hW) 0).trans rfl; have e7 := (blk_cell (blk_below X9.out hW) 7).trans rfl; have e5 := (blk_cell (blk_below X8.out hW) 5).trans rfl; have m0 := (blk_cell (blk_below X1.out hW) 0).trans rfl; have y2 := pw_cell_below hW Y2.out; go_simp; done
         case hasa10 => try simp only [Act.put, sA_, sZ_, sS_]; exact rfl
         refine take_ (i := 10) (N := some 85) (v := undef) (a' := ?axsa11) #[bT,bT,bT,bT,bT,bT,bT,bT,bT,bT,bT,bF,bF,bF,bF,bF,bF,bF,bF,bF,bF,bF] rfl rfl (by kernel_rfl) (fun _ _ _ h => h) (Or.inr ⟨by rfl, rfl⟩) hS ?hasa11 ?hhsa11
         case hasa11 => try simp only [Act.put, sA_, sZ_, sS_]; exact rfl
         refine take_ (i := 11) (N := some 86) (v := undef) (a' := ?axsa12) #[bT,bT,bT,bT,bT,bT,bT,bT,bT,bT,bT,bT,bF,bF,bF,bF,bF,bF,bF,bF,bF,bF] rfl rfl (by kernel_rfl) (fun _ _ _ h => h) (Or.inr ⟨by rfl, rfl⟩) hS ?hasa12 ?hhsa12
         case hasa12 => try simp only [Act.put, sA_, sZ_, sS_]; exact rfl
         refine take_ (i := 12) (N := some 87) (v := undef) (a' := ?axsa13) #[bT,bT,bT,bT,bT,bT,bT,bT,bT,bT,bT,bT,bT,bF,bF,bF,bF,bF,bF,bF,bF,bF] rfl rfl (by kernel_rfl) (fun _ _ _ h => h) (Or.inr ⟨by rfl, rfl⟩) hS ?hasa13 ?hhsa13
         case hasa13 => try simp only [Act.put, sA_, sZ_, sS_]; exact rfl
         refine take_ (i := 13) (N := some 88) (v := undef) (a' := ?axsa14) #[bT,bT,bT,bT,bT,bT,bT,bT,bT,bT,bT,bT,bT,bT,bF,bF,bF,bF,bF,bF,bF,bF] rfl rfl (by kernel_rfl) (fun _ _ _ h => h) (Or.inr ⟨by rfl, rfl⟩) hS ?hasa14 ?hhsa14
         case hasa14 => try simp only [Act.put, sA_, sZ_, sS_]; exact rfl
         refine take_ (i := 14) (N := some 89) (v := undef) (a' := ?axsa15) #[bT,bT,bT,bT,bT,bT,bT,bT,bT,bT,bT,bT,bT,bT,bT,bF,bF,bF,bF,bF,bF,bF] rfl rfl (by kernel_rfl) (fun _ _ _ h => h) (Or.inr ⟨by rfl, rfl⟩) hS ?hasa15 ?hhsa15
         case hasa15 => try simp only [Act.put, sA_, sZ_, sS_]; exact rfl
         refine take_ (i := 15) (N := some 90) (v := undef) (a' := ?axsa16) #[bT,bT,bT,bT,bT,bT,bT,bT,bT,bT,bT,bT,bT,bT,bT,bT,bF,bF,bF,bF,bF,bF] rfl rfl (by kernel_rfl) (fun _ _ _ h => h) (Or.inr ⟨by rfl, rfl⟩) hS ?hasa16 ?hhsa16
         case hasa16 => try simp only [Act.put, sA_, sZ_, sS_]; exact rfl
         refine take_ (i := 16) (N := some 91) (v := undef) (a' := ?axsa17) #[bT,bT,bT,bT,bT,bT,bT,bT,bT,bT,bT,bT,bT,bT,bT,bT,bT,bF,bF,bF,bF,bF] rfl rfl (by kernel_rfl) (fun _ _ _ h => h) (Or.inr ⟨by rfl, rfl⟩) hS ?hasa17 ?hhsa17
         case hasa17 => try simp only [Act.put, sA_, sZ_, sS_]; exact rfl
         refine take_ (i := 17) (N := some 92) (v := undef) (a' := ?axsa18) #[bT,bT,bT,bT,bT,bT,bT,bT,bT,bT,bT,bT,bT,bT,bT,bT,bT,bT,bF,bF,bF,bF] rfl rfl (by kernel_rfl) (fun _ _ _ h => h) (Or.inr ⟨by rfl, rfl⟩) hS ?hasa18 ?hhsa18
         case hasa18 => try simp only [Act.put, sA_, sZ_, sS_]; exact rfl
         refine take_ (i := 18) (N := some 93) (v := undef) (a' := ?axsa19) #[bT,bT,bT,bT,bT,bT,bT,bT,bT,bT,bT,bT,bT,bT,bT,bT,bT,bT,bT,bF,bF,bF] rfl rfl (by kernel_rfl) (fun _ _ _ h => h) (Or.inr ⟨by rfl, rfl⟩) hS ?hasa19 ?hhsa19
         case hasa19 => try simp only [Act.put, sA_, sZ_, sS_]; exact rfl
         refine take_ (i := 19) (N := some 94) (v := undef) (a' := ?axsa20) #[bT,bT,bT,bT,bT,bT,bT,bT,bT,bT,bT,bT,bT,bT,bT,bT,bT,bT,bT,bT,bF,bF] rfl rfl (by kernel_rfl) (fun _ _ _ h => h) (Or.inr ⟨by rfl, rfl⟩) hS ?hasa20 ?hhsa20
         case hasa20 => try simp only [Act.put, sA_, sZ_, sS_]; exact rfl
         refine take_ (i := 20) (N := some 95) (v := undef) (a' := ?axsa21) #[bT,bT,bT,bT,bT,bT,bT,bT,bT,bT,bT,bT,bT,bT,bT,bT,bT,bT,bT,bT,bT,bF] rfl rfl (by kernel_rfl) (fun _ _ _ h => h) (Or.inr ⟨by rfl, rfl⟩) hS ?hasa21 ?hhsa21
         case hasa21 => try simp only [Act.put, sA_, sZ_, sS_]; exact rfl
         refine take_ (i := 21) (N := some 96) (v := .bool false) (a' := ?axsa22) #[bT,bT,bT,bT,bT,bT,bT,bT,bT,bT,bT,bT,bT,bT,bT,bT,bT,bT,bT,bT,bT,bT] rfl rfl (by kernel_rfl) (fun _ _ _ h => h) (Or.inl ⟨by rfl, ?yysa22⟩) hS ?hasa22 ?hhsa22
         case yysa22 => intro W hW; have e0 := (blk_cell (blk_below X9.out hW) 0).trans rfl; have e7 := (blk_cell (blk_below X9.out hW) 7).trans rfl; have e5 := (blk_cell (blk_below X8.out hW) 5).trans rfl; have m0 := (blk_cell (blk_below X1.out hW) 0).trans rfl; have y2 := pw_cell_below hW Y2.out; go_simp; done
         case hasa22 => try simp only [Act.put, sA_, sZ_, sS_]; exact rfl
         refine done_ (by kernel_rfl) ?_
         go_wp2
         go_meet
         exact ⟨congrArg Value.bool (by unfold goes2; rw [hk]; rfl), ⟨HB.out.trans (hS.mono HB.out.size)⟩, ⟨blk_below X1.out hS⟩, ⟨blk_below X2.out hS⟩, ⟨Kd.F_below HF.out hS⟩, ⟨HO.out.1, Nat.le_trans HO.out.2.1 (hS.size), HO.out.2.2⟩, ⟨blk_below X8.out hS⟩, ⟨blk_below X9.out hS⟩, ⟨Kd.FK_below FKb.out hS⟩, ⟨HG8.out.1, HG8.out.2.1, HG8.out.2.2.1, HG8.out.2.2.2.1, Nat.lt_of_lt_of_le HG8.out.2.2.2.2 hS.size⟩, ⟨Kd.F_below HF2.out hS⟩, ⟨pw_cell_below hS Y2.out⟩⟩
        | true =>
         have h4 : b.f3.f0 = 4 := by simpa using hk
         cases hl : decide ((b.f2.length : Int) ≤ 63) with
         | false =>
          refine start_ (S := (fun W : World => Below wc.heap.size wc W)) (ds := []) #[bF,bF,bF,bF,bF,bF,bF,bF,bF,bF,bF,bF,bF,bF,bF,bF,bF,bF,bF,bF,bF,bF] (by kernel_rfl) (by rfl) (by rfl) (below_drew (Below.refl _ _)) (fun hS => ?_)
          refine pure_ (i := 0) (N := some 75) (v := .pointer (some ⟨g9, 0, none⟩)) (a' := ?axsb1) #[bT,bF,bF,bF,bF,bF,bF,bF,bF,bF,bF,bF,bF,bF,bF,bF,bF,bF,bF,bF,bF,bF] rfl rfl (by kernel_rfl) (fun _ _ _ h => h) (Or.inl ⟨by rfl, ?yysb1⟩) ?hasb1 ?hhsb1
          case yysb1 => intro W; go_simp; done
          case hasb1 => try simp only [Act.put, sA_, sZ_, sS_]; exact rfl
          refine take_ (i := 1) (N := some 76) (v := .int .i64 b.f3.f0) (a' := ?axsb2) #[bT,bT,bF,bF,bF,bF,bF,bF,bF,bF,bF,bF,bF,bF,bF,bF,bF,bF,bF,bF,bF,bF] rfl rfl (by kernel_rfl) (fun _ _ _ h => h) (Or.inl ⟨by rfl, ?yysb2⟩) hS ?hasb2 ?hhsb2
          case yysb2 => intro W hW; have e0 := (blk_cell (blk_below X9.out hW) 0).trans rfl; have e7 := (blk_cell (blk_below X9.out hW) 7).trans rfl; have e5 := (blk_cell (blk_below X8.out hW) 5).trans rfl; have m0 := (blk_cell (blk_below X1.out hW) 0).trans rfl; have y2 := pw_cell_below hW Y2.out; go_simp; done
          case hasb2 => try simp only [Act.put, sA_, sZ_, sS_]; exact rfl
          refine take_ (i := 2) (N := some 77) (v := .bool true) (a' := ?axsb3) #[bT,bT,bT,bF,bF,bF,bF,bF,bF,bF,bF,bF,bF,bF,bF,bF,bF,bF,bF,bF,bF,bF] rfl rfl (by kernel_rfl) (fun _ _ _ h => h) (Or.inl ⟨by rfl, ?yysb3⟩) hS ?hasb3 ?hhsb3
          case yysb3 => intro W hW; have e0 := (blk_cell (blk_below X9.out hW) 0).trans rfl; have e7 := (blk_cell (blk_below X9.out hW) 7).trans rfl; have e5 := (blk_cell (blk_below X8.out hW) 5).trans rfl; have m0 := (blk_cell (blk_below X1.out hW) 0).trans rfl; have y2 := pw_cell_below hW Y2.out; go_simp; done
          case hasb3 => try simp only [Act.put, sA_, sZ_, sS_]; exact rfl
          refine take_ (i := 3) (N := some 78) (v := .bool true) (a' := ?axsb4) #[bT,bT,bT,bT,bF,bF,bF,bF,bF,bF,bF,bF,bF,bF,bF,bF,bF,bF,bF,bF,bF,bF] rfl rfl (by kernel_rfl) (fun _ _ _ h => h) (Or.inl ⟨by rfl, ?yysb4⟩) hS ?hasb4 ?hhsb4
          case yysb4 => intro W hW; have e0 := (blk_cell (blk_below X9.out hW) 0).trans rfl; have e7 := (blk_cell (blk_below X9.out hW) 7).trans rfl; have e5 := (blk_cell (blk_below X8.out hW) 5).trans rfl; have m0 := (blk_cell (blk_below X1.out hW) 0).trans rfl; have y2 := pw_cell_below hW Y2.out; go_simp; done
          case hasb4 => try simp only [Act.put, sA_, sZ_, sS_]; exact rfl
          refine pure_ (i := 4) (N := some 79) (v := .pointer (some ⟨g8, 5, none⟩)) (a' := ?axsb5) #[bT,bT,bT,bT,bT,bF,bF,bF,bF,bF,bF,bF,bF,bF,bF,bF,bF,bF,bF,bF,bF,bF] rfl rfl (by kernel_rfl) (fun _ _ _ h => h) (Or.inl ⟨by rfl, ?yysb5⟩) ?hasb5 ?hhsb5
          case yysb5 => intro W; go_simp; done
          case hasb5 => try simp only [Act.put, sA_, sZ_, sS_]; exact rfl
          refine take_ (i := 5) (N := some 80) (v := .slice A5 b.f2.length c5) (a' := ?axsb6) #[bT,bT,bT,bT,bT,bT,bF,bF,bF,bF,bF,bF,bF,bF,bF,bF,bF,bF,bF,bF,bF,bF] rfl rfl (by kernel_rfl) (fun _ _ _ h => h) (Or.inl ⟨by rfl, ?yysb6⟩) hS ?hasb6 ?hhsb6
          case yysb6 => intro W hW; have e0 := (blk_cell (blk_below X9.out hW) 0).trans rfl; have e7 := (blk_cell (blk_below X9.out hW) 7).trans rfl; have e5 := (blk_cell (blk_below X8.out hW) 5).trans rfl; have m0 := (blk_cell (blk_below X1.out hW) 0).trans rfl; have y2 := pw_cell_below hW Y2.out; go_simp; done
          case hasb6 => try simp only [Act.put, sA_, sZ_, sS_]; exact rfl
          refine take_ (i := 6) (N := some 81) (v := .int .i64 b.f2.length) (a' := ?axsb7) #[bT,bT,bT,bT,bT,bT,bT,bF,bF,bF,bF,bF,bF,bF,bF,bF,bF,bF,bF,bF,bF,bF] rfl rfl (by kernel_rfl) (fun _ _ _ h => h) (Or.inl ⟨by rfl, ?yysb7⟩) hS ?hasb7 ?hhsb7
          case yysb7 => intro W hW; have e0 := (blk_cell (blk_below X9.out hW) 0).trans rfl; have e7 := (blk_cell (blk_below X9.out hW) 7).trans rfl; have e5 := (blk_cell (blk_below X8.out hW) 5).trans rfl; have m0 := (blk_cell (blk_below X1.out hW) 0).trans rfl; have y2 := pw_cell_below hW Y2.out; go_simp; done
          case hasb7 => try simp only [Act.put, sA_, sZ_, sS_]; exact rfl
          refine take_ (i := 7) (N := some 82) (v := .bool false) (a' := ?axsb8) #[bT,bT,bT,bT,bT,bT,bT,bT,bF,bF,bF,bF,bF,bF,bF,bF,bF,bF,bF,bF,bF,bF] rfl rfl (by kernel_rfl) (fun _ _ _ h => h) (Or.inl ⟨by rfl, ?yysb8⟩) hS ?hasb8 ?hhsb8
          case yysb8 => intro W hW; have e0 := (blk_cell (blk_below X9.out hW) 0).trans rfl; have e7 := (blk_cell (blk_below X9.out hW) 7).trans rfl; have e5 := (blk_cell (blk_below X8.out hW) 5).trans rfl; have m0 := (blk_cell (blk_below X1.out hW) 0).trans rfl; have y2 := pw_cell_below hW Y2.out; go_simp; done
          case hasb8 => try simp only [Act.put, sA_, sZ_, sS_]; exact rfl
          refine take_ (i := 8) (N := some 83) (v := .bool false) (a' := ?axsb9) #[bT,bT,bT,bT,bT,bT,bT,bT,bT,bF,bF,bF,bF,bF,bF,bF,bF,bF,bF,bF,bF,bF] rfl rfl (by kernel_rfl) (fun _ _ _ h => h) (Or.inl ⟨by rfl, ?yysb9⟩) hS ?hasb9 ?hhsb9
          case yysb9 => intro W hW; have e0 := (blk_cell (blk_below X9.out hW) 0).trans rfl; have e7 := (blk_cell (blk_below X9.out hW) 7).trans rfl; have e5 := (blk_cell (blk_below X8.out hW) 5).trans rfl; have m0 := (blk_cell (blk_below X1.out hW) 0).trans rfl; have y2 := pw_cell_below hW Y2.out; go_simp; done
          case hasb9 => try simp only [Act.put, sA_, sZ_, sS_]; exact rfl
          refine take_ (i := 9) (N := some 84) (v := .bool false) (a' := ?axsb10) #[bT,bT,bT,bT,bT,bT,bT,bT,bT,bT,bF,bF,bF,bF,bF,bF,bF,bF,bF,bF,bF,bF] rfl rfl (by kernel_rfl) (fun _ _ _ h => h) (Or.inl ⟨by rfl, ?yysb10⟩) hS ?hasb10 ?hhsb10
          case yysb10 => intro W hW; have e0 := (blk_cell (blk_below X9.out hW) 0).trans rfl; have e7 := (blk_cell (blk_below X9.out hW) 7).trans rfl; have e5 := (blk_cell (blk_below X8.out hW) 5).trans rfl; have m0 := (blk_cell (blk_below X1.out hW) 0).trans rfl; have y2 := pw_cell_below hW Y2.out; go_simp; done
          case hasb10 => try simp only [Act.put, sA_, sZ_, sS_]; exact rfl
          refine take_ (i := 10) (N := some 85) (v := undef) (a' := ?axsb11) #[bT,bT,bT,bT,bT,bT,bT,bT,bT,bT,bT,bF,bF,bF,bF,bF,bF,bF,bF,bF,bF,bF] rfl rfl (by kernel_rfl) (fun _ _ _ h => h) (Or.inr ⟨by rfl, rfl⟩) hS ?hasb11 ?hhsb11
          case hasb11 => try simp only [Act.put, sA_, sZ_, sS_]; exact rfl
          refine take_ (i := 11) (N := some 86) (v := undef) (a' := ?axsb12) #[bT,bT,bT,bT,bT,bT,bT,bT,bT,bT,bT,bT,bF,bF,bF,bF,bF,bF,bF,bF,bF,bF] rfl rfl (by kernel_rfl) (fun _ _ _ h => h) (Or.inr ⟨by rfl, rfl⟩) hS ?hasb12 ?hhsb12
          case hasb12 => try simp only [Act.put, sA_, sZ_, sS_]; exact rfl
          refine take_ (i := 12) (N := some 87) (v := undef) (a' := ?axsb13) #[bT,bT,bT,bT,bT,bT,bT,bT,bT,bT,bT,bT,bT,bF,bF,bF,bF,bF,bF,bF,bF,bF] rfl rfl (by kernel_rfl) (fun _ _ _ h => h) (Or.inr ⟨by rfl, rfl⟩) hS ?hasb13 ?hhsb13
          case hasb13 => try simp only [Act.put, sA_, sZ_, sS_]; exact rfl
          refine take_ (i := 13) (N := some 88) (v := undef) (a' := ?axsb14) #[bT,bT,bT,bT,bT,bT,bT,bT,bT,bT,bT,bT,bT,bT,bF,bF,bF,bF,bF,bF,bF,bF] rfl rfl (by kernel_rfl) (fun _ _ _ h => h) (Or.inr ⟨by rfl, rfl⟩) hS ?hasb14 ?hhsb14
          case hasb14 => try simp only [Act.put, sA_, sZ_, sS_]; exact rfl
          refine take_ (i := 14) (N := some 89) (v := undef) (a' := ?axsb15) #[bT,bT,bT,bT,bT,bT,bT,bT,bT,bT,bT,bT,bT,bT,bT,bF,bF,bF,bF,bF,bF,bF] rfl rfl (by kernel_rfl) (fun _ _ _ h => h) (Or.inr ⟨by rfl, rfl⟩) hS ?hasb15 ?hhsb15
          case hasb15 => try simp only [Act.put, sA_, sZ_, sS_]; exact rfl
          refine take_ (i := 15) (N := some 90) (v := undef) (a' := ?axsb16) #[bT,bT,bT,bT,bT,bT,bT,bT,bT,bT,bT,bT,bT,bT,bT,bT,bF,bF,bF,bF,bF,bF] rfl rfl (by kernel_rfl) (fun _ _ _ h => h) (Or.inr ⟨by rfl, rfl⟩) hS ?hasb16 ?hhsb16
          case hasb16 => try simp only [Act.put, sA_, sZ_, sS_]; exact rfl
          refine take_ (i := 16) (N := some 91) (v := undef) (a' := ?axsb17) #[bT,bT,bT,bT,bT,bT,bT,bT,bT,bT,bT,bT,bT,bT,bT,bT,bT,bF,bF,bF,bF,bF] rfl rfl (by kernel_rfl) (fun _ _ _ h => h) (Or.inr ⟨by rfl, rfl⟩) hS ?hasb17 ?hhsb17
          case hasb17 => try simp only [Act.put, sA_, sZ_, sS_]; exact rfl
          refine take_ (i := 17) (N := some 92) (v := undef) (a' := ?axsb18) #[bT,bT,bT,bT,bT,bT,bT,bT,bT,bT,bT,bT,bT,bT,bT,bT,bT,bT,bF,bF,bF,bF] rfl rfl (by kernel_rfl) (fun _ _ _ h => h) (Or.inr ⟨by rfl, rfl⟩) hS ?hasb18 ?hhsb18
          case hasb18 => try simp only [Act.put, sA_, sZ_, sS_]; exact rfl
          refine take_ (i := 18) (N := some 93) (v := undef) (a' := ?axsb19) #[bT,bT,bT,bT,bT,bT,bT,bT,bT,bT,bT,bT,bT,bT,bT,bT,bT,bT,bT,bF,bF,bF] rfl rfl (by kernel_rfl) (fun _ _ _ h => h) (Or.inr ⟨by rfl, rfl⟩) hS ?hasb19 ?hhsb19
          case hasb19 => try simp only [Act.put, sA_, sZ_, sS_]; exact rfl
          refine take_ (i := 19) (N := some 94) (v := undef) (a' := ?axsb20) #[bT,bT,bT,bT,bT,bT,bT,bT,bT,bT,bT,bT,bT,bT,bT,bT,bT,bT,bT,bT,bF,bF] rfl rfl (by kernel_rfl) (fun _ _ _ h => h) (Or.inr ⟨by rfl, rfl⟩) hS ?hasb20 ?hhsb20
          case hasb20 => try simp only [Act.put, sA_, sZ_, sS_]; exact rfl
          refine take_ (i := 20) (N := some 95) (v := undef) (a' := ?axsb21) #[bT,bT,bT,bT,bT,bT,bT,bT,bT,bT,bT,bT,bT,bT,bT,bT,bT,bT,bT,bT,bT,bF] rfl rfl (by kernel_rfl) (fun _ _ _ h => h) (Or.inr ⟨by rfl, rfl⟩) hS ?hasb21 ?hhsb21
          case hasb21 => try simp only [Act.put, sA_, sZ_, sS_]; exact rfl
          refine take_ (i := 21) (N := some 96) (v := .bool false) (a' := ?axsb22) #[bT,bT,bT,bT,bT,bT,bT,bT,bT,bT,bT,bT,bT,bT,bT,bT,bT,bT,bT,bT,bT,bT] rfl rfl (by kernel_rfl) (fun _ _ _ h => h) (Or.inl ⟨by rfl, ?yysb22⟩) hS ?hasb22 ?hhsb22
          case yysb22 => intro W hW; have e0 := (blk_cell (blk_below X9.out hW) 0).trans rfl; have e7 := (blk_cell (blk_below X9.out hW) 7).trans rfl; have e5 := (blk_cell (blk_below X8.out hW) 5).trans rfl; have m0 := (blk_cell (blk_below X1.out hW) 0).trans rfl; have y2 := pw_cell_below hW Y2.out; go_simp; done
          case hasb22 => try simp only [Act.put, sA_, sZ_, sS_]; exact rfl
          refine done_ (by kernel_rfl) ?_
          go_wp2
          go_meet
          exact ⟨congrArg Value.bool (by unfold goes2; rw [hk, hl]; rfl), ⟨HB.out.trans (hS.mono HB.out.size)⟩, ⟨blk_below X1.out hS⟩, ⟨blk_below X2.out hS⟩, ⟨Kd.F_below HF.out hS⟩, ⟨HO.out.1, Nat.le_trans HO.out.2.1 (hS.size), HO.out.2.2⟩, ⟨blk_below X8.out hS⟩, ⟨blk_below X9.out hS⟩, ⟨Kd.FK_below FKb.out hS⟩, ⟨HG8.out.1, HG8.out.2.1, HG8.out.2.2.1, HG8.out.2.2.2.1, Nat.lt_of_lt_of_le HG8.out.2.2.2.2 hS.size⟩, ⟨Kd.F_below HF2.out hS⟩, ⟨pw_cell_below hS Y2.out⟩⟩
         | true =>
          have hpi := HM1.out.pad f HMF.out b HMB.out h4
          have p5 : (0 ≤ b.f3.f7) = True := eq_true hpi.1
          have p6 : (b.f3.f7 < (f.f2.length : Int)) = True := eq_true hpi.2
          have hnq := noth_up f y.toNat b.f3.f7.toNat
          generalize hq : (upTo (rB f) f.f2 y.toNat).getD b.f3.f7.toNat z41 = q at hnq
          obtain ⟨bq, Q4, q4, Q5, q5, Q6, q6, x1, z0, z1, z2, z3, z4, z5, z6, z7, z8, z9, z10, z11, z12, z13, hFQ⟩ := FB_at HF2.out b.f3.f7 hpi.1 hpi.2 (b := q) hq
          cases x1
          obtain ⟨hls, hp4, hp5, hp6⟩ := FK_parts hFQ
          refine start_ (S := (fun W : World => Below wc.heap.size wc W)) (ds := []) #[bF,bF,bF,bF,bF,bF,bF,bF,bF,bF,bF,bF,bF,bF,bF,bF,bF,bF,bF,bF,bF,bF] (by kernel_rfl) (by rfl) (by rfl) (below_drew (Below.refl _ _)) (fun hS => ?_)
          refine pure_ (i := 0) (N := some 75) (v := .pointer (some ⟨g9, 0, none⟩)) (a' := ?axsc1) #[bT,bF,bF,bF,bF,bF,bF,bF,bF,bF,bF,bF,bF,bF,bF,bF,bF,bF,bF,bF,bF,bF] rfl rfl (by kernel_rfl) (fun _ _ _ h => h) (Or.inl ⟨by rfl, ?yysc1⟩) ?hasc1 ?hhsc1
          case yysc1 => intro W; go_simp; done
          case hasc1 => try simp only [Act.put, sA_, sZ_, sS_]; exact rfl
          refine take_ (i := 1) (N := some 76) (v := .int .i64 b.f3.f0) (a' := ?axsc2) #[bT,bT,bF,bF,bF,bF,bF,bF,bF,bF,bF,bF,bF,bF,bF,bF,bF,bF,bF,bF,bF,bF] rfl rfl (by kernel_rfl) (fun _ _ _ h => h) (Or.inl ⟨by rfl, ?yysc2⟩) hS ?hasc2 ?hhsc2
          case yysc2 => intro W hW; have e0 := (blk_cell (blk_below X9.out hW) 0).trans rfl; have e7 := (blk_cell (blk_below X9.out hW) 7).trans rfl; have e5 := (blk_cell (blk_below X8.out hW) 5).trans rfl; have m0 := (blk_cell (blk_below X1.out hW) 0).trans rfl; have y2 := pw_cell_below hW Y2.out; have qz0 := pw_cell_below hW z0; have qz1 := pw_cell_below hW z1; have qz2 := pw_cell_below hW z2; have qz3 := pw_cell_below hW z3; have qz4 := pw_cell_below hW z4; have qz5 := pw_cell_below hW z5; have qz6 := pw_cell_below hW z6; have qz7 := pw_cell_below hW z7; have qz8 := pw_cell_below hW z8; have qz9 := pw_cell_below hW z9; have qz10 := pw_cell_below hW z10; have qz11 := pw_cell_below hW z11; have qz12 := pw_cell_below hW z12; have qz13 := pw_cell_below hW z13; go_simp; done
          case hasc2 => try simp only [Act.put, sA_, sZ_, sS_]; exact rfl
          refine take_ (i := 2) (N := some 77) (v := .bool true) (a' := ?axsc3) #[bT,bT,bT,bF,bF,bF,bF,bF,bF,bF,bF,bF,bF,bF,bF,bF,bF,bF,bF,bF,bF,bF] rfl rfl (by kernel_rfl) (fun _ _ _ h => h) (Or.inl ⟨by rfl, ?yysc3⟩) hS ?hasc3 ?hhsc3
          case yysc3 => intro W hW; have e0 := (blk_cell (blk_below X9.out hW) 0).trans rfl; have e7 := (blk_cell (blk_below X9.out hW) 7).trans rfl; have e5 := (blk_cell (blk_below X8.out hW) 5).trans rfl; have m0 := (blk_cell (blk_below X1.out hW) 0).trans rfl; have y2 := pw_cell_below hW Y2.out; have qz0 := pw_cell_below hW z0; have qz1 := pw_cell_below hW z1; have qz2 := pw_cell_below hW z2; have qz3 := pw_cell_below hW z3; have qz4 := pw_cell_below hW z4; have qz5 := pw_cell_below hW z5; have qz6 := pw_cell_below hW z6; have qz7 := pw_cell_below hW z7; have qz8 := pw_cell_below hW z8; have qz9 := pw_cell_below hW z9; have qz10 := pw_cell_below hW z10; have qz11 := pw_cell_below hW z11; have qz12 := pw_cell_below hW z12; have qz13 := pw_cell_below hW z13; go_simp; done
          case hasc3 => try simp only [Act.put, sA_, sZ_, sS_]; exact rfl
          refine take_ (i := 3) (N := some 78) (v := .bool true) (a' := ?axsc4) #[bT,bT,bT,bT,bF,bF,bF,bF,bF,bF,bF,bF,bF,bF,bF,bF,bF,bF,bF,bF,bF,bF] rfl rfl (by kernel_rfl) (fun _ _ _ h => h) (Or.inl ⟨by rfl, ?yysc4⟩) hS ?hasc4 ?hhsc4
          case yysc4 => intro W hW; have e0 := (blk_cell (blk_below X9.out hW) 0).trans rfl; have e7 := (blk_cell (blk_below X9.out hW) 7).trans rfl; have e5 := (blk_cell (blk_below X8.out hW) 5).trans rfl; have m0 := (blk_cell (blk_below X1.out hW) 0).trans rfl; have y2 := pw_cell_below hW Y2.out; have qz0 := pw_cell_below hW z0; have qz1 := pw_cell_below hW z1; have qz2 := pw_cell_below hW z2; have qz3 := pw_cell_below hW z3; have qz4 := pw_cell_below hW z4; have qz5 := pw_cell_below hW z5; have qz6 := pw_cell_below hW z6; have qz7 := pw_cell_below hW z7; have qz8 := pw_cell_below hW z8; have qz9 := pw_cell_below hW z9; have qz10 := pw_cell_below hW z10; have qz11 := pw_cell_below hW z11; have qz12 := pw_cell_below hW z12; have qz13 := pw_cell_below hW z13; go_simp; done
          case hasc4 => try simp only [Act.put, sA_, sZ_, sS_]; exact rfl
          refine pure_ (i := 4) (N := some 79) (v := .pointer (some ⟨g8, 5, none⟩)) (a' := ?axsc5) #[bT,bT,bT,bT,bT,bF,bF,bF,bF,bF,bF,bF,bF,bF,bF,bF,bF,bF,bF,bF,bF,bF] rfl rfl (by kernel_rfl) (fun _ _ _ h => h) (Or.inl ⟨by rfl, ?yysc5⟩) ?hasc5 ?hhsc5
          case yysc5 => intro W; go_simp; done
          case hasc5 => try simp only [Act.put, sA_, sZ_, sS_]; exact rfl
          refine take_ (i := 5) (N := some 80) (v := .slice A5 b.f2.length c5) (a' := ?axsc6) #[bT,bT,bT,bT,bT,bT,bF,bF,bF,bF,bF,bF,bF,bF,bF,bF,bF,bF,bF,bF,bF,bF] rfl rfl (by kernel_rfl) (fun _ _ _ h => h) (Or.inl ⟨by rfl, ?yysc6⟩) hS ?hasc6 ?hhsc6
          case yysc6 => intro W hW; have e0 := (blk_cell (blk_below X9.out hW) 0).trans rfl; have e7 := (blk_cell (blk_below X9.out hW) 7).trans rfl; have e5 := (blk_cell (blk_below X8.out hW) 5).trans rfl; have m0 := (blk_cell (blk_below X1.out hW) 0).trans rfl; have y2 := pw_cell_below hW Y2.out; have qz0 := pw_cell_below hW z0; have qz1 := pw_cell_below hW z1; have qz2 := pw_cell_below hW z2; have qz3 := pw_cell_below hW z3; have qz4 := pw_cell_below hW z4; have qz5 := pw_cell_below hW z5; have qz6 := pw_cell_below hW z6; have qz7 := pw_cell_below hW z7; have qz8 := pw_cell_below hW z8; have qz9 := pw_cell_below hW z9; have qz10 := pw_cell_below hW z10; have qz11 := pw_cell_below hW z11; have qz12 := pw_cell_below hW z12; have qz13 := pw_cell_below hW z13; go_simp; done
          case hasc6 => try simp only [Act.put, sA_, sZ_, sS_]; exact rfl
          refine take_ (i := 6) (N := some 81) (v := .int .i64 b.f2.length) (a' := ?axsc7) #[bT,bT,bT,bT,bT,bT,bT,bF,bF,bF,bF,bF,bF,bF,bF,bF,bF,bF,bF,bF,bF,bF] rfl rfl (by kernel_rfl) (fun _ _ _ h => h) (Or.inl ⟨by rfl, ?yysc7⟩) hS ?hasc7 ?hhsc7
          case yysc7 => intro W hW; have e0 := (blk_cell (blk_below X9.out hW) 0).trans rfl; have e7 := (blk_cell (blk_below X9.out hW) 7).trans rfl; have e5 := (blk_cell (blk_below X8.out hW) 5).trans rfl; have m0 := (blk_cell (blk_below X1.out hW) 0).trans rfl; have y2 := pw_cell_below hW Y2.out; have qz0 := pw_cell_below hW z0; have qz1 := pw_cell_below hW z1; have qz2 := pw_cell_below hW z2; have qz3 := pw_cell_below hW z3; have qz4 := pw_cell_below hW z4; have qz5 := pw_cell_below hW z5; have qz6 := pw_cell_below hW z6; have qz7 := pw_cell_below hW z7; have qz8 := pw_cell_below hW z8; have qz9 := pw_cell_below hW z9; have qz10 := pw_cell_below hW z10; have qz11 := pw_cell_below hW z11; have qz12 := pw_cell_below hW z12; have qz13 := pw_cell_below hW z13; go_simp; done
          case hasc7 => try simp only [Act.put, sA_, sZ_, sS_]; exact rfl
          refine take_ (i := 7) (N := some 82) (v := .bool true) (a' := ?axsc8) #[bT,bT,bT,bT,bT,bT,bT,bT,bF,bF,bF,bF,bF,bF,bF,bF,bF,bF,bF,bF,bF,bF] rfl rfl (by kernel_rfl) (fun _ _ _ h => h) (Or.inl ⟨by rfl, ?yysc8⟩) hS ?hasc8 ?hhsc8
          case yysc8 => intro W hW; have e0 := (blk_cell (blk_below X9.out hW) 0).trans rfl; have e7 := (blk_cell (blk_below X9.out hW) 7).trans rfl; have e5 := (blk_cell (blk_below X8.out hW) 5).trans rfl; have m0 := (blk_cell (blk_below X1.out hW) 0).trans rfl; have y2 := pw_cell_below hW Y2.out; have qz0 := pw_cell_below hW z0; have qz1 := pw_cell_below hW z1; have qz2 := pw_cell_below hW z2; have qz3 := pw_cell_below hW z3; have qz4 := pw_cell_below hW z4; have qz5 := pw_cell_below hW z5; have qz6 := pw_cell_below hW z6; have qz7 := pw_cell_below hW z7; have qz8 := pw_cell_below hW z8; have qz9 := pw_cell_below hW z9; have qz10 := pw_cell_below hW z10; have qz11 := pw_cell_below hW z11; have qz12 := pw_cell_below hW z12; have qz13 := pw_cell_below hW z13; go_simp; done
          case hasc8 => try simp only [Act.put, sA_, sZ_, sS_]; exact rfl
          refine take_ (i := 8) (N := some 83) (v := .bool true) (a' := ?axsc9) #[bT,bT,bT,bT,bT,bT,bT,bT,bT,bF,bF,bF,bF,bF,bF,bF,bF,bF,bF,bF,bF,bF] rfl rfl (by kernel_rfl) (fun _ _ _ h => h) (Or.inl ⟨by rfl, ?yysc9⟩) hS ?hasc9 ?hhsc9
          case yysc9 => intro W hW; have e0 := (blk_cell (blk_below X9.out hW) 0).trans rfl; have e7 := (blk_cell (blk_below X9.out hW) 7).trans rfl; have e5 := (blk_cell (blk_below X8.out hW) 5).trans rfl; have m0 := (blk_cell (blk_below X1.out hW) 0).trans rfl; have y2 := pw_cell_below hW Y2.out; have qz0 := pw_cell_below hW z0; have qz1 := pw_cell_below hW z1; have qz2 := pw_cell_below hW z2; have qz3 := pw_cell_below hW z3; have qz4 := pw_cell_below hW z4; have qz5 := pw_cell_below hW z5; have qz6 := pw_cell_below hW z6; have qz7 := pw_cell_below hW z7; have qz8 := pw_cell_below hW z8; have qz9 := pw_cell_below hW z9; have qz10 := pw_cell_below hW z10; have qz11 := pw_cell_below hW z11; have qz12 := pw_cell_below hW z12; have qz13 := pw_cell_below hW z13; go_simp; done
          case hasc9 => try simp only [Act.put, sA_, sZ_, sS_]; exact rfl
          refine take_ (i := 9) (N := some 84) (v := .bool true) (a' := ?axsc10) #[bT,bT,bT,bT,bT,bT,bT,bT,bT,bT,bF,bF,bF,bF,bF,bF,bF,bF,bF,bF,bF,bF] rfl rfl (by kernel_rfl) (fun _ _ _ h => h) (Or.inl ⟨by rfl, ?yysc10⟩) hS ?hasc10 ?hhsc10
          case yysc10 => intro W hW; have e0 := (blk_cell (blk_below X9.out hW) 0).trans rfl; have e7 := (blk_cell (blk_below X9.out hW) 7).trans rfl; have e5 := (blk_cell (blk_below X8.out hW) 5).trans rfl; have m0 := (blk_cell (blk_below X1.out hW) 0).trans rfl; have y2 := pw_cell_below hW Y2.out; have qz0 := pw_cell_below hW z0; have qz1 := pw_cell_below hW z1; have qz2 := pw_cell_below hW z2; have qz3 := pw_cell_below hW z3; have qz4 := pw_cell_below hW z4; have qz5 := pw_cell_below hW z5; have qz6 := pw_cell_below hW z6; have qz7 := pw_cell_below hW z7; have qz8 := pw_cell_below hW z8; have qz9 := pw_cell_below hW z9; have qz10 := pw_cell_below hW z10; have qz11 := pw_cell_below hW z11; have qz12 := pw_cell_below hW z12; have qz13 := pw_cell_below hW z13; go_simp; done
          case hasc10 => try simp only [Act.put, sA_, sZ_, sS_]; exact rfl
          refine take_ (i := 10) (N := some 85) (v := .pointer (some ⟨g1, 0, none⟩)) (a' := ?axsc11) #[bT,bT,bT,bT,bT,bT,bT,bT,bT,bT,bT,bF,bF,bF,bF,bF,bF,bF,bF,bF,bF,bF] rfl rfl (by kernel_rfl) (fun _ _ _ h => h) (Or.inl ⟨by rfl, ?yysc11⟩) hS ?hasc11 ?hhsc11
          case yysc11 => intro W hW; have e0 := (blk_cell (blk_below X9.out hW) 0).trans rfl; have e7 := (blk_cell (blk_below X9.out hW) 7).trans rfl; have e5 := (blk_cell (blk_below X8.out hW) 5).trans rfl; have m0 := (blk_cell (blk_below X1.out hW) 0).trans rfl; have y2 := pw_cell_below hW Y2.out; have qz0 := pw_cell_below hW z0; have qz1 := pw_cell_below hW z1; have qz2 := pw_cell_below hW z2; have qz3 := pw_cell_below hW z3; have qz4 := pw_cell_below hW z4; have qz5 := pw_cell_below hW z5; have qz6 := pw_cell_below hW z6; have qz7 := pw_cell_below hW z7; have qz8 := pw_cell_below hW z8; have qz9 := pw_cell_below hW z9; have qz10 := pw_cell_below hW z10; have qz11 := pw_cell_below hW z11; have qz12 := pw_cell_below hW z12; have qz13 := pw_cell_below hW z13; go_simp; done
          case hasc11 => try simp only [Act.put, sA_, sZ_, sS_]; exact rfl
          refine take_ (i := 11) (N := some 86) (v := .slice (some ad) m.length c) (a' := ?axsc12) #[bT,bT,bT,bT,bT,bT,bT,bT,bT,bT,bT,bT,bF,bF,bF,bF,bF,bF,bF,bF,bF,bF] rfl rfl (by kernel_rfl) (fun _ _ _ h => h) (Or.inl ⟨by rfl, ?yysc12⟩) hS ?hasc12 ?hhsc12
          case yysc12 => intro W hW; have e0 := (blk_cell (blk_below X9.out hW) 0).trans rfl; have e7 := (blk_cell (blk_below X9.out hW) 7).trans rfl; have e5 := (blk_cell (blk_below X8.out hW) 5).trans rfl; have m0 := (blk_cell (blk_below X1.out hW) 0).trans rfl; have y2 := pw_cell_below hW Y2.out; have qz0 := pw_cell_below hW z0; have qz1 := pw_cell_below hW z1; have qz2 := pw_cell_below hW z2; have qz3 := pw_cell_below hW z3; have qz4 := pw_cell_below hW z4; have qz5 := pw_cell_below hW z5; have qz6 := pw_cell_below hW z6; have qz7 := pw_cell_below hW z7; have qz8 := pw_cell_below hW z8; have qz9 := pw_cell_below hW z9; have qz10 := pw_cell_below hW z10; have qz11 := pw_cell_below hW z11; have qz12 := pw_cell_below hW z12; have qz13 := pw_cell_below hW z13; go_simp; done
          case hasc12 => try simp only [Act.put, sA_, sZ_, sS_]; exact rfl
          refine take_ (i := 12) (N := some 87) (v := .int .i64 x) (a' := ?axsc13) #[bT,bT,bT,bT,bT,bT,bT,bT,bT,bT,bT,bT,bT,bF,bF,bF,bF,bF,bF,bF,bF,bF] rfl rfl (by kernel_rfl) (fun _ _ _ h => h) (Or.inl ⟨by rfl, ?yysc13⟩) hS ?hasc13 ?hhsc13
          case yysc13 => intro W hW; have e0 := (blk_cell (blk_below X9.out hW) 0).trans rfl; have e7 := (blk_cell (blk_below X9.out hW) 7).trans rfl; have e5 := (blk_cell (blk_below X8.out hW) 5).trans rfl; have m0 := (blk_cell (blk_below X1.out hW) 0).trans rfl; have y2 := pw_cell_below hW Y2.out; have qz0 := pw_cell_below hW z0; have qz1 := pw_cell_below hW z1; have qz2 := pw_cell_below hW z2; have qz3 := pw_cell_below hW z3; have qz4 := pw_cell_below hW z4; have qz5 := pw_cell_below hW z5; have qz6 := pw_cell_below hW z6; have qz7 := pw_cell_below hW z7; have qz8 := pw_cell_below hW z8; have qz9 := pw_cell_below hW z9; have qz10 := pw_cell_below hW z10; have qz11 := pw_cell_below hW z11; have qz12 := pw_cell_below hW z12; have qz13 := pw_cell_below hW z13; go_simp; done
          case hasc13 => try simp only [Act.put, sA_, sZ_, sS_]; exact rfl
          refine take_ (i := 13) (N := some 88) (v := .pointer (some (ad.add (x.toNat * 3)))) (a' := ?axsc14) #[bT,bT,bT,bT,bT,bT,bT,bT,bT,bT,bT,bT,bT,bT,bF,bF,bF,bF,bF,bF,bF,bF] rfl rfl (by kernel_rfl) (fun _ _ _ h => h) (Or.inl ⟨by rfl, ?yysc14⟩) hS ?hasc14 ?hhsc14
          case yysc14 => intro W hW; have e0 := (blk_cell (blk_below X9.out hW) 0).trans rfl; have e7 := (blk_cell (blk_below X9.out hW) 7).trans rfl; have e5 := (blk_cell (blk_below X8.out hW) 5).trans rfl; have m0 := (blk_cell (blk_below X1.out hW) 0).trans rfl; have y2 := pw_cell_below hW Y2.out; have qz0 := pw_cell_below hW z0; have qz1 := pw_cell_below hW z1; have qz2 := pw_cell_below hW z2; have qz3 := pw_cell_below hW z3; have qz4 := pw_cell_below hW z4; have qz5 := pw_cell_below hW z5; have qz6 := pw_cell_below hW z6; have qz7 := pw_cell_below hW z7; have qz8 := pw_cell_below hW z8; have qz9 := pw_cell_below hW z9; have qz10 := pw_cell_below hW z10; have qz11 := pw_cell_below hW z11; have qz12 := pw_cell_below hW z12; have qz13 := pw_cell_below hW z13; go_simp; done
          case hasc14 => try simp only [Act.put, sA_, sZ_, sS_]; exact rfl
          refine take_ (i := 14) (N := some 89) (v := .pointer (some ⟨(ad.add (x.toNat * 3)).block, (ad.add (x.toNat * 3)).off + 2, none⟩)) (a' := ?axsc15) #[bT,bT,bT,bT,bT,bT,bT,bT,bT,bT,bT,bT,bT,bT,bT,bF,bF,bF,bF,bF,bF,bF] rfl rfl (by kernel_rfl) (fun _ _ _ h => h) (Or.inl ⟨by rfl, ?yysc15⟩) hS ?hasc15 ?hhsc15
          case yysc15 => intro W hW; have e0 := (blk_cell (blk_below X9.out hW) 0).trans rfl; have e7 := (blk_cell (blk_below X9.out hW) 7).trans rfl; have e5 := (blk_cell (blk_below X8.out hW) 5).trans rfl; have m0 := (blk_cell (blk_below X1.out hW) 0).trans rfl; have y2 := pw_cell_below hW Y2.out; have qz0 := pw_cell_below hW z0; have qz1 := pw_cell_below hW z1; have qz2 := pw_cell_below hW z2; have qz3 := pw_cell_below hW z3; have qz4 := pw_cell_below hW z4; have qz5 := pw_cell_below hW z5; have qz6 := pw_cell_below hW z6; have qz7 := pw_cell_below hW z7; have qz8 := pw_cell_below hW z8; have qz9 := pw_cell_below hW z9; have qz10 := pw_cell_below hW z10; have qz11 := pw_cell_below hW z11; have qz12 := pw_cell_below hW z12; have qz13 := pw_cell_below hW z13; go_simp; done
          case hasc15 => try simp only [Act.put, sA_, sZ_, sS_]; exact rfl
          refine take_ (i := 15) (N := some 90) (v := .slice (some be) f.f2.length c2) (a' := ?axsc16) #[bT,bT,bT,bT,bT,bT,bT,bT,bT,bT,bT,bT,bT,bT,bT,bT,bF,bF,bF,bF,bF,bF] rfl rfl (by kernel_rfl) (fun _ _ _ h => h) (Or.inl ⟨by rfl, ?yysc16⟩) hS ?hasc16 ?hhsc16
          case yysc16 => intro W hW; have e0 := (blk_cell (blk_below X9.out hW) 0).trans rfl; have e7 := (blk_cell (blk_below X9.out hW) 7).trans rfl; have e5 := (blk_cell (blk_below X8.out hW) 5).trans rfl; have m0 := (blk_cell (blk_below X1.out hW) 0).trans rfl; have y2 := pw_cell_below hW Y2.out; have qz0 := pw_cell_below hW z0; have qz1 := pw_cell_below hW z1; have qz2 := pw_cell_below hW z2; have qz3 := pw_cell_below hW z3; have qz4 := pw_cell_below hW z4; have qz5 := pw_cell_below hW z5; have qz6 := pw_cell_below hW z6; have qz7 := pw_cell_below hW z7; have qz8 := pw_cell_below hW z8; have qz9 := pw_cell_below hW z9; have qz10 := pw_cell_below hW z10; have qz11 := pw_cell_below hW z11; have qz12 := pw_cell_below hW z12; have qz13 := pw_cell_below hW z13; go_simp; done
          case hasc16 => try simp only [Act.put, sA_, sZ_, sS_]; exact rfl
          refine take_ (i := 16) (N := some 91) (v := .pointer (some ⟨g9, 7, none⟩)) (a' := ?axsc17) #[bT,bT,bT,bT,bT,bT,bT,bT,bT,bT,bT,bT,bT,bT,bT,bT,bT,bF,bF,bF,bF,bF] rfl rfl (by kernel_rfl) (fun _ _ _ h => h) (Or.inl ⟨by rfl, ?yysc17⟩) hS ?hasc17 ?hhsc17
          case yysc17 => intro W hW; have e0 := (blk_cell (blk_below X9.out hW) 0).trans rfl; have e7 := (blk_cell (blk_below X9.out hW) 7).trans rfl; have e5 := (blk_cell (blk_below X8.out hW) 5).trans rfl; have m0 := (blk_cell (blk_below X1.out hW) 0).trans rfl; have y2 := pw_cell_below hW Y2.out; have qz0 := pw_cell_below hW z0; have qz1 := pw_cell_below hW z1; have qz2 := pw_cell_below hW z2; have qz3 := pw_cell_below hW z3; have qz4 := pw_cell_below hW z4; have qz5 := pw_cell_below hW z5; have qz6 := pw_cell_below hW z6; have qz7 := pw_cell_below hW z7; have qz8 := pw_cell_below hW z8; have qz9 := pw_cell_below hW z9; have qz10 := pw_cell_below hW z10; have qz11 := pw_cell_below hW z11; have qz12 := pw_cell_below hW z12; have qz13 := pw_cell_below hW z13; go_simp; done
          case hasc17 => try simp only [Act.put, sA_, sZ_, sS_]; exact rfl
          refine take_ (i := 17) (N := some 92) (v := .int .i64 b.f3.f7) (a' := ?axsc18) #[bT,bT,bT,bT,bT,bT,bT,bT,bT,bT,bT,bT,bT,bT,bT,bT,bT,bT,bF,bF,bF,bF] rfl rfl (by kernel_rfl) (fun _ _ _ h => h) (Or.inl ⟨by rfl, ?yysc18⟩) hS ?hasc18 ?hhsc18
          case yysc18 => intro W hW; have e0 := (blk_cell (blk_below X9.out hW) 0).trans rfl; have e7 := (blk_cell (blk_below X9.out hW) 7).trans rfl; have e5 := (blk_cell (blk_below X8.out hW) 5).trans rfl; have m0 := (blk_cell (blk_below X1.out hW) 0).trans rfl; have y2 := pw_cell_below hW Y2.out; have qz0 := pw_cell_below hW z0; have qz1 := pw_cell_below hW z1; have qz2 := pw_cell_below hW z2; have qz3 := pw_cell_below hW z3; have qz4 := pw_cell_below hW z4; have qz5 := pw_cell_below hW z5; have qz6 := pw_cell_below hW z6; have qz7 := pw_cell_below hW z7; have qz8 := pw_cell_below hW z8; have qz9 := pw_cell_below hW z9; have qz10 := pw_cell_below hW z10; have qz11 := pw_cell_below hW z11; have qz12 := pw_cell_below hW z12; have qz13 := pw_cell_below hW z13; go_simp; done
          case hasc18 => try simp only [Act.put, sA_, sZ_, sS_]; exact rfl
          refine take_ (i := 18) (N := some 93) (v := .pointer (some (be.add (b.f3.f7.toNat * 14)))) (a' := ?axsc19) #[bT,bT,bT,bT,bT,bT,bT,bT,bT,bT,bT,bT,bT,bT,bT,bT,bT,bT,bT,bF,bF,bF] rfl rfl (by kernel_rfl) (fun _ _ _ h => h) (Or.inl ⟨by rfl, ?yysc19⟩) hS ?hasc19 ?hhsc19
          case yysc19 => intro W hW; have e0 := (blk_cell (blk_below X9.out hW) 0).trans rfl; have e7 := (blk_cell (blk_below X9.out hW) 7).trans rfl; have e5 := (blk_cell (blk_below X8.out hW) 5).trans rfl; have m0 := (blk_cell (blk_below X1.out hW) 0).trans rfl; have y2 := pw_cell_below hW Y2.out; have qz0 := pw_cell_below hW z0; have qz1 := pw_cell_below hW z1; have qz2 := pw_cell_below hW z2; have qz3 := pw_cell_below hW z3; have qz4 := pw_cell_below hW z4; have qz5 := pw_cell_below hW z5; have qz6 := pw_cell_below hW z6; have qz7 := pw_cell_below hW z7; have qz8 := pw_cell_below hW z8; have qz9 := pw_cell_below hW z9; have qz10 := pw_cell_below hW z10; have qz11 := pw_cell_below hW z11; have qz12 := pw_cell_below hW z12; have qz13 := pw_cell_below hW z13; go_simp; done
          case hasc19 => try simp only [Act.put, sA_, sZ_, sS_]; exact rfl
          refine take_ (i := 19) (N := some 94) (v := .agg #[.bool q.f0, .int .i64 q.f1.f0, .slice Q4 q.f1.f1.length q4, .bool q.f1.f2, .bool q.f1.f3, .slice Q5 q.f2.length q5, .int .i64 q.f3.f0, .int .i64 q.f3.f1, .int .i64 q.f3.f2, .int .i64 q.f3.f3, .slice Q6 q.f3.f4.length q6, .int .i64 q.f3.f5, .int .i64 q.f3.f6, .int .i64 q.f3.f7]) (a' := ?axsc20) #[bT,bT,bT,bT,bT,bT,bT,bT,bT,bT,bT,bT,bT,bT,bT,bT,bT,bT,bT,bT,bF,bF] rfl rfl (by kernel_rfl) (fun _ _ _ h => h) (Or.inl ⟨by rfl, ?yysc20⟩) hS ?hasc20 ?hhsc20
          case yysc20 => intro W hW; have e0 := (blk_cell (blk_below X9.out hW) 0).trans rfl; have e7 := (blk_cell (blk_below X9.out hW) 7).trans rfl; have e5 := (blk_cell (blk_below X8.out hW) 5).trans rfl; have m0 := (blk_cell (blk_below X1.out hW) 0).trans rfl; have y2 := pw_cell_below hW Y2.out; have qz0 := pw_cell_below hW z0; have qz1 := pw_cell_below hW z1; have qz2 := pw_cell_below hW z2; have qz3 := pw_cell_below hW z3; have qz4 := pw_cell_below hW z4; have qz5 := pw_cell_below hW z5; have qz6 := pw_cell_below hW z6; have qz7 := pw_cell_below hW z7; have qz8 := pw_cell_below hW z8; have qz9 := pw_cell_below hW z9; have qz10 := pw_cell_below hW z10; have qz11 := pw_cell_below hW z11; have qz12 := pw_cell_below hW z12; have qz13 := pw_cell_below hW z13; go_simp; done
          case hasc20 => try simp only [Act.put, sA_, sZ_, sS_]; exact rfl
          refine one_ (i := 20) (N := some 95) #[bT,bT,bT,bT,bT,bT,bT,bT,bT,bT,bT,bT,bT,bT,bT,bT,bT,bT,bT,bT,bT,bF] rfl rfl (by kernel_rfl) (by decide) (fun K hK => ?_)
          refine goes_ Try.func43 (by kernel_rfl) rfl #[.agg #[.bool q.f0, .int .i64 q.f1.f0, .slice Q4 q.f1.f1.length q4, .bool q.f1.f2, .bool q.f1.f3, .slice Q5 q.f2.length q5, .int .i64 q.f3.f0, .int .i64 q.f3.f1, .int .i64 q.f3.f2, .int .i64 q.f3.f3, .slice Q6 q.f3.f4.length q6, .int .i64 q.f3.f5, .int .i64 q.f3.f6, .int .i64 q.f3.f7]] (by rfl) rfl rfl (by simp only [List.map_toArray, List.map_cons, List.map_nil]; rfl) ?_
          refine (noth15_c q Q4 q4 Q5 q5 Q6 q6 _ (Kd.C_below (Kd.F_now hp4) hS) hls.1 (Kd.C_below (Kd.F_now hp5) hS) hls.2.1 (Kd.C_below (Kd.F_now hp6) hS) hls.2.2).mono ?_
          rintro e w7 ⟨rfl, hb⟩
          refine ⟨_, rfl, ?_⟩
          have hS' := hS.trans (hb.mono hS.size)
          clear hb
          refine hK _ _ hS' (fun hS => ?_)
          clear hK K
          try simp only [Act.put, sA_, sZ_, sS_]
          refine take_ (i := 21) (N := some 96) (v := .bool (nothB q)) (a' := ?axsc21) #[bT,bT,bT,bT,bT,bT,bT,bT,bT,bT,bT,bT,bT,bT,bT,bT,bT,bT,bT,bT,bT,bT] rfl rfl (by kernel_rfl) (fun _ _ _ h => h) (Or.inl ⟨by rfl, ?yysc21⟩) hS ?hasc21 ?hhsc21
          case yysc21 => intro W hW; have e0 := (blk_cell (blk_below X9.out hW) 0).trans rfl; have e7 := (blk_cell (blk_below X9.out hW) 7).trans rfl; have e5 := (blk_cell (blk_below X8.out hW) 5).trans rfl; have m0 := (blk_cell (blk_below X1.out hW) 0).trans rfl; have y2 := pw_cell_below hW Y2.out; have qz0 := pw_cell_below hW z0; have qz1 := pw_cell_below hW z1; have qz2 := pw_cell_below hW z2; have qz3 := pw_cell_below hW z3; have qz4 := pw_cell_below hW z4; have qz5 := pw_cell_below hW z5; have qz6 := pw_cell_below hW z6; have qz7 := pw_cell_below hW z7; have qz8 := pw_cell_below hW z8; have qz9 := pw_cell_below hW z9; have qz10 := pw_cell_below hW z10; have qz11 := pw_cell_below hW z11; have qz12 := pw_cell_below hW z12; have qz13 := pw_cell_below hW z13; go_simp; done
          case hasc21 => try simp only [Act.put, sA_, sZ_, sS_]; exact rfl
          refine done_ (by kernel_rfl) ?_
          go_wp2
          go_meet
          exact ⟨congrArg Value.bool (by unfold goes2; rw [hk, hl]; exact hnq), ⟨HB.out.trans (hS.mono HB.out.size)⟩, ⟨blk_below X1.out hS⟩, ⟨blk_below X2.out hS⟩, ⟨Kd.F_below HF.out hS⟩, ⟨HO.out.1, Nat.le_trans HO.out.2.1 (hS.size), HO.out.2.2⟩, ⟨blk_below X8.out hS⟩, ⟨blk_below X9.out hS⟩, ⟨Kd.FK_below FKb.out hS⟩, ⟨HG8.out.1, HG8.out.2.1, HG8.out.2.2.1, HG8.out.2.2.2.1, Nat.lt_of_lt_of_le HG8.out.2.2.2.2 hS.size⟩, ⟨Kd.F_below HF2.out hS⟩, ⟨pw_cell_below hS Y2.out⟩⟩
       case rest =>
        clear HB X1 X2 HF HO X8 X9 FKb HG8 HF2 Y2
        obtain ⟨rfl, HB, X1, X2, HF, HO, X8, X9, FKb, HG8, HF2, Y2⟩ := hcut
        have m0 := (blk_cell X1.out 0).trans rfl
        have zm0 := blk_frozen X1.out 0
        have n0 := (blk_cell X2.out 0).trans rfl
        have zn0 := blk_frozen X2.out 0
        obtain ⟨e0, e1, e2, e3, e4, e5, e6, e7, e8, e9, e10, e11, e12, e13⟩ := cl14 X8.out
        obtain ⟨ze0, ze1, ze2, ze3, ze4, ze5, ze6, ze7, ze8, ze9, ze10, ze11, ze12, ze13⟩ := fz14 X8.out
        obtain ⟨dd0, dd1, dd2, dd3, dd4, dd5, dd6, dd7⟩ := cl8 X9.out
        cases hgo : goes2 f b with
        | false =>
         have HST := Aside0.mk (inn_stay rF (rB f) m1 x.toNat f y HY.out.1 HLY.out (by rw [HBX.out]; unfold rB; rw [if_neg (by rw [hgo]; simp)]))
         clear hgo
         go_wp2
         have W1 := Aside0.mk (show wrap64 (y + 1) = y + 1 from wrap_in _ (by have := HY.out; omega) (by have := HLY.out; have := HM1.out.nb f HMF.out; omega))
         go_roundg ((f.f2.length : Int) - (y + 1)).toNat
         case measure => have h1_ := HY.out; have h2_ := HLY.out; omega
         case rel => exact ⟨y + 1, _, c, N, ok, by first | (rw [W1.out]; done) | rfl | (simp only [W1.out]; done), ⟨by have := HY.out; have := HLY.out; omega⟩, HB, X1, X2, ⟨by rw [← HST.out]; exact HF.out⟩, HO⟩
        | true =>
         have HGR := Aside0.mk (show roundB b = rB f b by unfold rB; rw [if_pos hgo])
         clear hgo
         go_upto_region 19 with (fail)
         go_cut [] from 53 to 119 (fun wd => ∃ (D5 : Option Addr) (d5 N2 : Nat), Aside0 (Below w.heap.size w wd) ∧ Aside0 (wd.heap[g1]? = some (.cells #[.slice (some ad) m.length c] 24 (0, 0))) ∧ Aside0 (wd.heap[g2]? = some (.cells #[.slice none 0 0] 24 (0, 0))) ∧ Aside0 (Kd.F k27 wd ok (some ad) m.length (inn rF (rB f) m1 x.toNat f y.toNat)) ∧ Aside0 (m.length ≤ c ∧ N ≤ wd.heap.size ∧ g1 < N ∧ g2 < N ∧ ∀ k, ok k → k ≠ g1 ∧ k ≠ g2 ∧ k < N) ∧ Aside0 (wd.heap[g8]? = some (.cells #[.bool b.f0, .int .i64 b.f1.f0, .slice A4 b.f1.f1.length c4, .bool b.f1.f2, .bool b.f1.f3, .slice D5 (b.f2.length + 1) d5, .int .i64 b.f3.f0, .int .i64 b.f3.f1, .int .i64 b.f3.f2, .int .i64 b.f3.f3, .slice A6 b.f3.f4.length c6, .int .i64 b.f3.f5, .int .i64 b.f3.f6, .int .i64 b.f3.f7] 41 (0, 0))) ∧ Aside0 (wd.heap[g9]? = some (.cells #[.int .i64 b.f3.f0, .int .i64 b.f3.f1, .int .i64 b.f3.f2, .int .i64 b.f3.f3, .slice A6 b.f3.f4.length c6, .int .i64 b.f3.f5, .int .i64 b.f3.f6, .int .i64 b.f3.f7] 39 (0, 0))) ∧ Aside0 (Kd.FK k41 wd ok b [.bool b.f0, .int .i64 b.f1.f0, .slice A4 b.f1.f1.length c4, .bool b.f1.f2, .bool b.f1.f3, .slice A5 b.f2.length c5, .int .i64 b.f3.f0, .int .i64 b.f3.f1, .int .i64 b.f3.f2, .int .i64 b.f3.f3, .slice A6 b.f3.f4.length c6, .int .i64 b.f3.f5, .int .i64 b.f3.f6, .int .i64 b.f3.f7]) ∧ Aside0 (w.heap.size ≤ g8 ∧ N ≤ g8 ∧ g1 ≠ g8 ∧ g2 ≠ g8 ∧ g8 < wd.heap.size) ∧ Aside0 (g8 < N2 ∧ N ≤ N2 ∧ b.f2.length + 1 ≤ d5) ∧ Aside0 (Kd.F k49 wd (fun k => ok k ∨ N2 ≤ k) D5 (b.f2.length + 1) (b.f2 ++ [newI b])))
         case first =>
          refine r19 b A4 c4 A5 c5 A6 c6 g8 g9 ok wc X8.out X9.out FKb.out (HM1.out.ni f HMF.out b HMB.out) (by intro c a N v w h; cases N <;> exact h) (fun D5 d5 v97 v100 v108 W hS hle hF => ?_)
          go_wp2
          go_meet
          have hfar : ∀ k, ok k → k ≠ g8 := fun k hk => by have := (HO.out.2.2.2.2 k hk).2.2; have := HG8.out; omega
          have hfar2 : ∀ k, (ok k ∨ wc.heap.size ≤ k) → k ≠ g8 := fun k hk => hk.elim (hfar k) (fun h => by have := HG8.out; omega)
          exact ⟨D5, d5, wc.heap.size, ⟨below_set (HB.out.trans (hS.mono HB.out.size)) HG8.out.1⟩, ⟨blk_far (blk_below X1.out hS) (p := ⟨g8, 5, none⟩) HG8.out.2.2.1 _⟩, ⟨blk_far (blk_below X2.out hS) (p := ⟨g8, 5, none⟩) HG8.out.2.2.2.1 _⟩, ⟨Kd.F_far (p := ⟨g8, 5, none⟩) (Kd.F_below HF.out hS) hfar _⟩, ⟨HO.out.1, by rw [size_set]; exact Nat.le_trans HO.out.2.1 hS.size, HO.out.2.2⟩, ⟨set_blk 5 _ (blk_below X8.out hS) rfl⟩, ⟨blk_far (blk_below X9.out hS) (p := ⟨g8, 5, none⟩) (Ne.symm HN89.out) _⟩, ⟨Kd.FK_step (Kd.FK_below FKb.out hS) (fun k hk _ => Below.heap_setCell _ _ _ k (hfar k hk))⟩, ⟨HG8.out.1, HG8.out.2.1, HG8.out.2.2.1, HG8.out.2.2.2.1, by rw [size_set]; exact Nat.lt_of_lt_of_le HG8.out.2.2.2.2 hS.size⟩, ⟨HG8.out.2.2.2.2, HO.out.2.1, hle⟩, ⟨Kd.F_far (p := ⟨g8, 5, none⟩) hF hfar2 _⟩⟩
         case rest =>
          clear m0 zm0 n0 zn0
          clear e0 ze0 e1 ze1 e2 ze2 e3 ze3 e4 ze4 e5 ze5 e6 ze6 e7 ze7 e8 ze8 e9 ze9 e10 ze10 e11 ze11 e12 ze12 e13 ze13 dd0 dd1 dd2 dd3 dd4 dd5 dd6 dd7
          clear HB X1 X2 HF HO X8 X9 FKb HG8
          obtain ⟨D5, d5, N2, HB, X1, X2, HF, HO, X8, X9, FKb, HG8, HN2, HI5⟩ := hcut
          have m0 := (blk_cell X1.out 0).trans rfl
          have zm0 := blk_frozen X1.out 0
          have n0 := (blk_cell X2.out 0).trans rfl
          have zn0 := blk_frozen X2.out 0
          obtain ⟨e0, e1, e2, e3, e4, e5, e6, e7, e8, e9, e10, e11, e12, e13⟩ := cl14 X8.out
          obtain ⟨ze0, ze1, ze2, ze3, ze4, ze5, ze6, ze7, ze8, ze9, ze10, ze11, ze12, ze13⟩ := fz14 X8.out
          obtain ⟨dd0, dd1, dd2, dd3, dd4, dd5, dd6, dd7⟩ := cl8 X9.out
          go_upto_region 20 with (fail)
          go_cut [] from 53 to 119 (fun wd => Aside0 (Below w.heap.size w wd) ∧ Aside0 (wd.heap[g1]? = some (.cells #[.slice (some ad) m.length c] 24 (0, 0))) ∧ Aside0 (wd.heap[g2]? = some (.cells #[.slice none 0 0] 24 (0, 0))) ∧ Aside0 (Kd.F k27 wd ok (some ad) m.length (inn rF (rB f) m1 x.toNat f y.toNat)) ∧ Aside0 (m.length ≤ c ∧ N ≤ wd.heap.size ∧ g1 < N ∧ g2 < N ∧ ∀ k, ok k → k ≠ g1 ∧ k ≠ g2 ∧ k < N) ∧ Aside0 (wd.heap[g8]? = some (.cells #[.bool b.f0, .int .i64 b.f1.f0, .slice A4 b.f1.f1.length c4, .bool b.f1.f2, .bool b.f1.f3, .slice D5 (b.f2.length + 1) d5, .int .i64 2, .int .i64 0, .int .i64 0, .int .i64 0, .slice none 0 0, .int .i64 b.f3.f5, .int .i64 0, .int .i64 0] 41 (0, 0))) ∧ Aside0 (Kd.FK k41 wd (fun k => ok k ∨ N2 ≤ k) (roundB b) [.bool b.f0, .int .i64 b.f1.f0, .slice A4 b.f1.f1.length c4, .bool b.f1.f2, .bool b.f1.f3, .slice D5 (b.f2.length + 1) d5, .int .i64 2, .int .i64 0, .int .i64 0, .int .i64 0, .slice none 0 0, .int .i64 b.f3.f5, .int .i64 0, .int .i64 0]) ∧ Aside0 (w.heap.size ≤ g8 ∧ N ≤ g8 ∧ g1 ≠ g8 ∧ g2 ≠ g8 ∧ g8 < wd.heap.size))
          case first =>
           go_wp2_with ((with_reducible refine gate_store (t := 39) (p := 114) rfl ?_); refine wpList_store_mid rfl _ (.tmp 114) (.tmp 113) rfl g8 6 #[.int .i64 2, .int .i64 0, .int .i64 0, .int .i64 0, .slice none 0 0, .int .i64 b.f3.f5, .int .i64 0, .int .i64 0] ?hx ?hy (there_blk X8.out 6 8 (Nat.le_refl 14)) (by kernel_rfl) (by kernel_rfl) ?_; (case hx => first | rfl | (go_simp; done)); (case hy => first | rfl | (go_simp; done)))
           go_meet
           obtain ⟨hls, hp4, hp5, hp6⟩ := FK_parts FKb.out
           have hfar : ∀ k, ok k → k ≠ g8 := fun k hk => by have := (HO.out.2.2.2.2 k hk).2.2; have := HG8.out; omega
           have hfar2 : ∀ k, (ok k ∨ N2 ≤ k) → k ≠ g8 := fun k hk => hk.elim (hfar k) (fun h => by have := HN2.out; omega)
           exact ⟨⟨setL_below HB.out HG8.out.1 _ _⟩, ⟨setL_far X1.out HG8.out.2.2.1 _ _⟩, ⟨setL_far X2.out HG8.out.2.2.2.1 _ _⟩, ⟨Kd.F_step HF.out (fun k hk _ => setCells_far _ _ k (hfar k hk))⟩, ⟨HO.out.1, by rw [setL_size]; exact HO.out.2.1, HO.out.2.2⟩, ⟨setL_blk _ _ X8.out (by kernel_rfl)⟩, ⟨FK_round hls.1 HN2.out.2.2 (Kd.F_mono (Kd.F_step hp4 (fun k hk _ => setCells_far _ _ k (hfar k hk))) (fun _ h => .inl h)) (Kd.F_step HI5.out (fun k hk _ => setCells_far _ _ k (hfar2 k hk)))⟩, ⟨HG8.out.1, HG8.out.2.1, HG8.out.2.2.1, HG8.out.2.2.2.1, by rw [setL_size]; exact HG8.out.2.2.2.2⟩⟩
          case rest =>
           clear m0 zm0 n0 zn0
           clear e0 ze0 e1 ze1 e2 ze2 e3 ze3 e4 ze4 e5 ze5 e6 ze6 e7 ze7 e8 ze8 e9 ze9 e10 ze10 e11 ze11 e12 ze12 e13 ze13 dd0 dd1 dd2 dd3 dd4 dd5 dd6 dd7
           clear HB X1 X2 HF HO X8 X9 FKb HG8 HI5
           obtain ⟨HB, X1, X2, HF, HO, X8, FKb, HG8⟩ := hcut
           have m0 := (blk_cell X1.out 0).trans rfl
           have zm0 := blk_frozen X1.out 0
           have n0 := (blk_cell X2.out 0).trans rfl
           have zn0 := blk_frozen X2.out 0
           obtain ⟨e0, e1, e2, e3, e4, e5, e6, e7, e8, e9, e10, e11, e12, e13⟩ := cl14 X8.out
           obtain ⟨ze0, ze1, ze2, ze3, ze4, ze5, ze6, ze7, ze8, ze9, ze10, ze11, ze12, ze13⟩ := fz14 X8.out
           have hcall := wth_c (inn rF (rB f) m1 x.toNat f y.toNat) (some ad) c x y ⟨f.f0, f.f1, upTo (rB f) f.f2 y.toNat⟩ (roundB b) A4 c4 D5 d5 none 0 (fun k => ok k ∨ N2 ≤ k) wc (by rw [inn_len, HML.out]; exact Kd.F_mono HF.out (fun _ h => .inl h)) (by rw [inn_len, HML.out]; exact HO.out.1) (by rw [inn_len, HML.out]; have := HN.out.nf; omega) (inn_at rF (rB f) m1 x f y.toNat HX.out.1 (by rw [HML.out]; exact HLT.out)) (by rw [inn_len, HML.out]; exact ⟨HX.out.1, HLT.out⟩) (by show 0 ≤ y ∧ y < ((upTo (rB f) f.f2 y.toNat).length : Int); rw [upTo_len]; exact ⟨HY.out.1, HLY.out⟩) (by show (upTo (rB f) f.f2 y.toNat).length ≤ 999999; rw [upTo_len]; have := HM1.out.nb f HMF.out; omega) (by have h_ := FKb.out; rw [← roundB_len b] at h_; exact h_)
           rw [inn_len, HML.out] at hcall
           simp only [inn_step rF (rB f) m1 x.toNat f y HY.out.1 HLY.out (b := roundB b) (HGR.out.trans (congrArg (rB f) HBX.out.symm))] at hcall
           rw [show (roundB b).f2.length = b.f2.length + 1 from List.length_append] at hcall
           have HCALL := Aside0.mk (show Calls Try.prog 78 #[.agg #[.slice (some ad) m.length c], .int .i64 x, .int .i64 y, .agg #[.bool b.f0, .int .i64 b.f1.f0, .slice A4 b.f1.f1.length c4, .bool b.f1.f2, .bool b.f1.f3, .slice D5 (b.f2.length + 1) d5, .int .i64 2, .int .i64 0, .int .i64 0, .int .i64 0, .slice none 0 0, .int .i64 b.f3.f5, .int .i64 0, .int .i64 0]] wc _ from hcall)
           clear hcall
           go_wp2_with (go_at_call 78; go_loud ((with_reducible refine HCALL.out.mono ?_); rintro e w6 ⟨⟨A', c', rfl, hlc, hC⟩, hb⟩; have HLC := Aside0.mk hlc; have HCF := Aside0.mk (Kd.F_bound hC); have HS6 := Aside0.mk hb.size; clear m0 zm0 n0 zn0; clear e0 ze0 e1 ze1 e2 ze2 e3 ze3 e4 ze4 e5 ze5 e6 ze6 e7 ze7 e8 ze8 e9 ze9 e10 ze10 e11 ze11 e12 ze12 e13 ze13; replace HB := Aside0.mk (below_step HB.out hb); replace X1 := Aside0.mk (blk_below X1.out hb); replace X2 := Aside0.mk (blk_below X2.out hb); clear hb hlc hC; have m0 := (blk_cell X1.out 0).trans rfl; have zm0 := blk_frozen X1.out 0; have n0 := (blk_cell X2.out 0).trans rfl; have zn0 := blk_frozen X2.out 0))
           have W1 := Aside0.mk (show wrap64 (y + 1) = y + 1 from wrap_in _ (by have := HY.out; omega) (by have := HLY.out; have := HM1.out.nb f HMF.out; omega))
           go_roundg ((f.f2.length : Int) - (y + 1)).toNat
           case measure => have h1_ := HY.out; have h2_ := HLY.out; omega
           case rel => exact ⟨y + 1, A', c', w6.heap.size, fun k => ((ok k ∨ N2 ≤ k) ∨ wc.heap.size ≤ k) ∧ k < w6.heap.size, by first | (rw [W1.out]; done) | rfl | (simp only [W1.out]; done), ⟨by have := HY.out; have := HLY.out; omega⟩, ⟨below_set HB.out HLX1.out⟩, ⟨set_blk 0 _ X1.out rfl⟩, ⟨blk_far X2.out (p := ⟨g1, 0, none⟩) HNE.out _⟩, ⟨Kd.F_far (p := ⟨g1, 0, none⟩) HCF.out (fun k hk => show k ≠ g1 from hk.1.elim (fun h => h.elim (fun h => (HO.out.2.2.2.2 k h).1) (fun h => by have := HO.out; have := HN2.out; omega)) (fun h => by have := HO.out; omega)) _⟩, ⟨HLC.out, by rw [size_set]; exact Nat.le_refl _, blk_lt X1.out, blk_lt X2.out, fun k hk => ⟨hk.1.elim (fun h => h.elim (fun h => (HO.out.2.2.2.2 k h).1) (fun h => by have := HO.out; have := HN2.out; omega)) (fun h => by have := HO.out; omega), hk.1.elim (fun h => h.elim (fun h => (HO.out.2.2.2.2 k h).2.1) (fun h => by have := HO.out; have := HN2.out; omega)) (fun h => by have := HO.out; omega), hk.2⟩⟩⟩
  have hd : decide (x < (m.length : Int)) = true := decide_eq_true hlt
  have HLT := Aside0.mk hlt
  clear hlt
  have p1 : (0 ≤ x) = True := eq_true HX.out.1
  have p2 : (x < (m.length : Int)) = True := eq_true HLT.out
  have HMF := Aside0.mk (show rd_T27 m x ∈ m from rd_mem' m z27 x HX.out.1 HLT.out)
  have HFX := Aside0.mk (show rd_T27 m x = rd_T27 m x from rfl)
  generalize hfx : rd_T27 m x = f at HMF HFX
  clear HFX
  have HFX := Aside0.mk hfx
  clear hfx
  obtain ⟨ad, A2, c2, x1, y0, y1, y2, hl2, hF2⟩ := FF_at HF.out x HX.out.1 HLT.out (f := f) ((upTo_get tF m z27 x).trans HFX.out)
  subst x1
  go_wp2
  clear m0 zm0 n0 zn0
  clear y0 y1 y2 hl2 hF2
  go_loopg [4] 1000000 (fun gg s wr => ∃ (y : Int) (A : Option Addr) (c N : Nat) (ok : Nat → Prop), s = .int .i64 y ∧ Aside0 (0 ≤ y ∧ y ≤ f.f2.length ∧ (f.f2.length : Int) - y ≤ gg) ∧ Aside0 (Below w.heap.size w wr) ∧ Aside0 (wr.heap[g1]? = some (.cells #[.slice A m.length c] 24 (0, 0))) ∧ Aside0 (wr.heap[g2]? = some (.cells #[.slice none 0 0] 24 (0, 0))) ∧ Aside0 (Kd.F k27 wr ok A m.length (inn tF trimB m x.toNat f y.toNat)) ∧ Aside0 (m.length ≤ c ∧ N ≤ wr.heap.size ∧ g1 < N ∧ g2 < N ∧ ∀ k, ok k → k ≠ g1 ∧ k ≠ g2 ∧ k < N))
  case atStart => exact ⟨0, _, c, N, ok, rfl, ⟨by have := HN.out.nb f HMF.out; omega⟩, HB, X1, X2, ⟨by rw [show (0 : Int).toNat = 0 from rfl, ← inn_zero tF trimB m x f HX.out.1 HLT.out HFX.out]; exact HF.out⟩, HO⟩
  case round =>
   clear HB X1 X2 HF HO
   obtain ⟨y, A, c, N, ok, rfl, HY, HB, X1, X2, HF, HO⟩ := hrel
   obtain ⟨ad, A2, c2, x1, y0, y1, y2_, hl2, hF2_⟩ := FF_at HF.out x HX.out.1 HLT.out (inn_at tF trimB m x f y.toNat HX.out.1 HLT.out)
   subst x1
   clear y0 y1 hl2
   have y2 : wr.cell? ⟨(ad.add (x.toNat * 3)).block, (ad.add (x.toNat * 3)).off + 2, none⟩ = some (.slice A2 (upTo trimB f.f2 y.toNat).length c2) := y2_
   have hF2 : Kd.F k41 wr ok A2 (upTo trimB f.f2 y.toNat).length (upTo trimB f.f2 y.toNat) := hF2_
   rw [upTo_len] at y2 hF2
   clear y2_ hF2_
   have m0 := (blk_cell X1.out 0).trans rfl
   have zm0 := blk_frozen X1.out 0
   have n0 := (blk_cell X2.out 0).trans rfl
   have zn0 := blk_frozen X2.out 0
   by_cases hlt : y < (f.f2.length : Int)
   rotate_left
   ·have hd2 : decide (y < (f.f2.length : Int)) = false := decide_eq_false hlt
    have HNX := Aside0.mk (inn_all tF trimB m x f (y := y.toNat) (by have := HY.out; omega) HX.out.1 HLT.out HFX.out rfl)
    clear hlt hF2
    go_wp2
    have W1 := Aside0.mk (show wrap64 (x + 1) = x + 1 from wrap_in _ (by have := HX.out; omega) (by have := HLT.out; have := HN.out.nf; omega))
    go_roundg ((m.length : Int) - (x + 1)).toNat
    case measure => have h1_ := HX.out; have h2_ := HLT.out; omega
    case rel => exact ⟨x + 1, _, c, N, ok, by first | (rw [W1.out]; done) | rfl | (simp only [W1.out]; done), ⟨by have := HX.out; have := HLT.out; omega⟩, HB, X1, X2, ⟨by rw [← HNX.out]; exact HF.out⟩, HO⟩
   have hd2 : decide (y < (f.f2.length : Int)) = true := decide_eq_true hlt
   have HLY := Aside0.mk hlt
   clear hlt
   have p3 : (0 ≤ y) = True := eq_true HY.out.1
   have p4 : (y < (f.f2.length : Int)) = True := eq_true HLY.out
   have HMB := Aside0.mk (show rd_T41 f.f2 y ∈ f.f2 from rd_mem' f.f2 z41 y HY.out.1 HLY.out)
   generalize hbx : rd_T41 f.f2 y = b at HMB
   have HBX := Aside0.mk hbx
   clear hbx
   obtain ⟨be, A4, c4, A5, c5, A6, c6, x1, z0, z1, z2, z3, z4, z5, z6, z7, z8, z9, z10, z11, z12, z13, hFK⟩ := FB_at hF2 y HY.out.1 HLY.out (b := b) ((inn_blk trimB f y).trans HBX.out)
   subst x1
   have FKb := Aside0.mk hFK
   clear hFK hF2
   go_upto_region 7 with (fail)
   go_cut [5] from 17 to 45 (fun v5 wc => ∃ g5 : Nat, v5 = .pointer (some ⟨g5, 0, none⟩) ∧ Aside0 (Below w.heap.size w wc) ∧ Aside0 (wc.heap[g1]? = some (.cells #[.slice (some ad) m.length c] 24 (0, 0))) ∧ Aside0 (wc.heap[g2]? = some (.cells #[.slice none 0 0] 24 (0, 0))) ∧ Aside0 (Kd.F k27 wc ok (some ad) m.length (inn tF trimB m x.toNat f y.toNat)) ∧ Aside0 (m.length ≤ c ∧ N ≤ wc.heap.size ∧ g1 < N ∧ g2 < N ∧ ∀ k, ok k → k ≠ g1 ∧ k ≠ g2 ∧ k < N) ∧ Aside0 (wc.heap[g5]? = some (.cells #[.bool b.f0, .int .i64 b.f1.f0, .slice A4 b.f1.f1.length c4, .bool b.f1.f2, .bool b.f1.f3, .slice A5 b.f2.length c5, .int .i64 b.f3.f0, .int .i64 b.f3.f1, .int .i64 b.f3.f2, .int .i64 b.f3.f3, .slice A6 b.f3.f4.length c6, .int .i64 b.f3.f5, .int .i64 b.f3.f6, .int .i64 b.f3.f7] 41 (0, 0))) ∧ Aside0 (Kd.FK k41 wc ok b [.bool b.f0, .int .i64 b.f1.f0, .slice A4 b.f1.f1.length c4, .bool b.f1.f2, .bool b.f1.f3, .slice A5 b.f2.length c5, .int .i64 b.f3.f0, .int .i64 b.f3.f1, .int .i64 b.f3.f2, .int .i64 b.f3.f3, .slice A6 b.f3.f4.length c6, .int .i64 b.f3.f5, .int .i64 b.f3.f6, .int .i64 b.f3.f7]) ∧ Aside0 (w.heap.size ≤ g5 ∧ N ≤ g5 ∧ g1 ≠ g5 ∧ g2 ≠ g5 ∧ g5 < wc.heap.size))
   case first =>
    go_wp2
    go_meet
    exact ⟨_, rfl, ⟨below_alloc HB.out _⟩, ⟨blk_alloc X1.out _⟩, ⟨blk_alloc X2.out _⟩, ⟨Kd.F_alloc HF.out _⟩, ⟨HO.out.1, Nat.le_trans HO.out.2.1 ((below_alloc (Below.refl _ _) _).size), HO.out.2.2⟩, ⟨blk_new _ _⟩, ⟨Kd.FK_below FKb.out (below_alloc (Below.refl _ _) _)⟩, ⟨HB.out.size, HO.out.2.1, Nat.ne_of_lt (blk_lt X1.out), Nat.ne_of_lt (blk_lt X2.out), blk_lt (blk_new _ _)⟩⟩
   case rest =>
    clear z0 z1 z2 z3 z4 z5 z6 z7 z8 z9 z10 z11 z12 z13
    clear m0 zm0 n0 zn0
    clear y2 HB X1 X2 HF HO FKb p1 p2 p3 p4 hd hd2
    obtain ⟨g5, rfl, HB, X1, X2, HF, HO, X5, FKb, HG5⟩ := hcut
    have m0 := (blk_cell X1.out 0).trans rfl
    have zm0 := blk_frozen X1.out 0
    have n0 := (blk_cell X2.out 0).trans rfl
    have zn0 := blk_frozen X2.out 0
    obtain ⟨e0, e1, e2, e3, e4, e5, e6, e7, e8, e9, e10, e11, e12, e13⟩ := cl14 X5.out
    obtain ⟨ze0, ze1, ze2, ze3, ze4, ze5, ze6, ze7, ze8, ze9, ze10, ze11, ze12, ze13⟩ := fz14 X5.out
    go_upto_region 8 with (fail)
    go_cut [] from 17 to 45 (fun wd => ∃ (D4 : Option Addr) (k4 : Nat), Aside0 (Below w.heap.size w wd) ∧ Aside0 (wd.heap[g1]? = some (.cells #[.slice (some ad) m.length c] 24 (0, 0))) ∧ Aside0 (wd.heap[g2]? = some (.cells #[.slice none 0 0] 24 (0, 0))) ∧ Aside0 (Kd.F k27 wd ok (some ad) m.length (inn tF trimB m x.toNat f y.toNat)) ∧ Aside0 (m.length ≤ c ∧ N ≤ wd.heap.size ∧ g1 < N ∧ g2 < N ∧ ∀ k, ok k → k ≠ g1 ∧ k ≠ g2 ∧ k < N) ∧ Aside0 (wd.heap[g5]? = some (.cells #[.bool b.f0, .int .i64 (trimP b.f1).f0, .slice D4 (trimP b.f1).f1.length k4, .bool (trimP b.f1).f2, .bool (trimP b.f1).f3, .slice A5 b.f2.length c5, .int .i64 b.f3.f0, .int .i64 b.f3.f1, .int .i64 b.f3.f2, .int .i64 b.f3.f3, .slice A6 b.f3.f4.length c6, .int .i64 b.f3.f5, .int .i64 b.f3.f6, .int .i64 b.f3.f7] 41 (0, 0))) ∧ Aside0 (Kd.FK k41 wd ok (trimB b) [.bool b.f0, .int .i64 (trimP b.f1).f0, .slice D4 (trimP b.f1).f1.length k4, .bool (trimP b.f1).f2, .bool (trimP b.f1).f3, .slice A5 b.f2.length c5, .int .i64 b.f3.f0, .int .i64 b.f3.f1, .int .i64 b.f3.f2, .int .i64 b.f3.f3, .slice A6 b.f3.f4.length c6, .int .i64 b.f3.f5, .int .i64 b.f3.f6, .int .i64 b.f3.f7]) ∧ Aside0 (w.heap.size ≤ g5 ∧ N ≤ g5 ∧ g1 ≠ g5 ∧ g2 ≠ g5 ∧ g5 < wd.heap.size))
    case first =>
     go_wp2_with (first | (go_at_call 46; go_loud ((with_reducible refine (trim15_c b.f1 A4 c4 _ (FK_parts FKb.out).1.1).mono ?_); rintro e w6 ⟨⟨D4, k4, rfl, hlk, hD⟩, hb⟩; have HLK := Aside0.mk hlk; have HD := Aside0.mk hD; have HS6 := Aside0.mk hb.size; clear m0 zm0 n0 zn0; clear e0 ze0 e1 ze1 e2 ze2 e3 ze3 e4 ze4 e5 ze5 e6 ze6 e7 ze7 e8 ze8 e9 ze9 e10 ze10 e11 ze11 e12 ze12 e13 ze13; replace HB := Aside0.mk (below_step HB.out hb); replace X1 := Aside0.mk (blk_below X1.out hb); replace X2 := Aside0.mk (blk_below X2.out hb); replace X5 := Aside0.mk (blk_below X5.out hb); replace HF := Aside0.mk (Kd.F_below HF.out hb); replace FKb := Aside0.mk (Kd.FK_below FKb.out hb); clear hb hlk hD; have m0 := (blk_cell X1.out 0).trans rfl; have zm0 := blk_frozen X1.out 0; have n0 := (blk_cell X2.out 0).trans rfl; have zn0 := blk_frozen X2.out 0; obtain ⟨e0, e1, e2, e3, e4, e5, e6, e7, e8, e9, e10, e11, e12, e13⟩ := cl14 X5.out; obtain ⟨ze0, ze1, ze2, ze3, ze4, ze5, ze6, ze7, ze8, ze9, ze10, ze11, ze12, ze13⟩ := fz14 X5.out)) | ((with_reducible refine gate_store (t := 35) (p := 40) rfl ?_); refine wpList_store_mid rfl _ (.tmp 40) (.tmp 39) rfl g5 1 #[.int .i64 (trimP b.f1).f0, .slice D4 (trimP b.f1).f1.length k4, .bool (trimP b.f1).f2, .bool (trimP b.f1).f3] ?hx ?hy (there_blk X5.out 1 4 (show 1 + 4 ≤ 14 from by decide)) (by kernel_rfl) (by kernel_rfl) ?_; (case hx => first | rfl | (go_simp; done)); (case hy => first | rfl | (go_simp; done))))
     go_meet
     obtain ⟨hls, hp4, hp5, hp6⟩ := FK_parts FKb.out
     exact ⟨D4, k4, ⟨setL_below HB.out HG5.out.1 _ _⟩, ⟨setL_far X1.out HG5.out.2.2.1 _ _⟩, ⟨setL_far X2.out HG5.out.2.2.2.1 _ _⟩, ⟨Kd.F_step HF.out (fun k hk _ => setCells_far _ _ k (by have := (HO.out.2.2.2.2 k hk).2.2; have := HG5.out; omega))⟩, ⟨HO.out.1, by rw [setL_size]; exact Nat.le_trans HO.out.2.1 HS6.out, HO.out.2.2⟩, ⟨setL_blk _ _ X5.out (by kernel_rfl)⟩, ⟨FK_of (b := trimB b) HLK.out hls.2.1 hls.2.2 (Kd.F_step (trim15_F hp4 HD.out) (fun k hk _ => setCells_far _ _ k (by have := (HO.out.2.2.2.2 k hk).2.2; have := HG5.out; omega))) (Kd.F_step hp5 (fun k hk _ => setCells_far _ _ k (by have := (HO.out.2.2.2.2 k hk).2.2; have := HG5.out; omega))) (Kd.F_step hp6 (fun k hk _ => setCells_far _ _ k (by have := (HO.out.2.2.2.2 k hk).2.2; have := HG5.out; omega)))⟩, ⟨HG5.out.1, HG5.out.2.1, HG5.out.2.2.1, HG5.out.2.2.2.1, by rw [setL_size]; exact Nat.lt_of_lt_of_le HG5.out.2.2.2.2 HS6.out⟩⟩
    case rest =>
     clear m0 zm0 n0 zn0
     clear e0 ze0 e1 ze1 e2 ze2 e3 ze3 e4 ze4 e5 ze5 e6 ze6 e7 ze7 e8 ze8 e9 ze9 e10 ze10 e11 ze11 e12 ze12 e13 ze13
     clear HB X1 X2 HF HO X5 FKb HG5
     obtain ⟨D4, k4, HB, X1, X2, HF, HO, X5, FKb, HG5⟩ := hcut
     have m0 := (blk_cell X1.out 0).trans rfl
     have zm0 := blk_frozen X1.out 0
     have n0 := (blk_cell X2.out 0).trans rfl
     have zn0 := blk_frozen X2.out 0
     obtain ⟨e0, e1, e2, e3, e4, e5, e6, e7, e8, e9, e10, e11, e12, e13⟩ := cl14 X5.out
     obtain ⟨ze0, ze1, ze2, ze3, ze4, ze5, ze6, ze7, ze8, ze9, ze10, ze11, ze12, ze13⟩ := fz14 X5.out
     have hcall := wth_c (inn tF trimB m x.toNat f y.toNat) (some ad) c x y ⟨f.f0, f.f1, upTo trimB f.f2 y.toNat⟩ (trimB b) D4 k4 A5 c5 A6 c6 ok wc (by rw [inn_len]; exact HF.out) (by rw [inn_len]; exact HO.out.1) (by rw [inn_len]; have := HN.out.nf; omega) (inn_at tF trimB m x f y.toNat HX.out.1 HLT.out) (by rw [inn_len]; exact ⟨HX.out.1, HLT.out⟩) (by show 0 ≤ y ∧ y < ((upTo trimB f.f2 y.toNat).length : Int); rw [upTo_len]; exact ⟨HY.out.1, HLY.out⟩) (by show (upTo trimB f.f2 y.toNat).length ≤ 999999; rw [upTo_len]; have := HN.out.nb f HMF.out; omega) FKb.out
     rw [inn_len] at hcall
     simp only [inn_step tF trimB m x.toNat f y HY.out.1 HLY.out (b := trimB b) (congrArg trimB HBX.out.symm)] at hcall
     have HCALL := Aside0.mk (show Calls Try.prog 78 #[.agg #[.slice (some ad) m.length c], .int .i64 x, .int .i64 y, .agg #[.bool b.f0, .int .i64 (trimP b.f1).f0, .slice D4 (trimP b.f1).f1.length k4, .bool (trimP b.f1).f2, .bool (trimP b.f1).f3, .slice A5 b.f2.length c5, .int .i64 b.f3.f0, .int .i64 b.f3.f1, .int .i64 b.f3.f2, .int .i64 b.f3.f3, .slice A6 b.f3.f4.length c6, .int .i64 b.f3.f5, .int .i64 b.f3.f6, .int .i64 b.f3.f7]] wc _ from hcall)
     clear hcall
     go_wp2_with (go_at_call 78; go_loud ((with_reducible refine HCALL.out.mono ?_); rintro e w6 ⟨⟨A', c', rfl, hlc, hC⟩, hb⟩; have HLC := Aside0.mk hlc; have HCF := Aside0.mk (Kd.F_bound hC); have HS6 := Aside0.mk hb.size; clear m0 zm0 n0 zn0; clear e0 ze0 e1 ze1 e2 ze2 e3 ze3 e4 ze4 e5 ze5 e6 ze6 e7 ze7 e8 ze8 e9 ze9 e10 ze10 e11 ze11 e12 ze12 e13 ze13; replace HB := Aside0.mk (below_step HB.out hb); replace X1 := Aside0.mk (blk_below X1.out hb); replace X2 := Aside0.mk (blk_below X2.out hb); clear hb hlc hC; have m0 := (blk_cell X1.out 0).trans rfl; have zm0 := blk_frozen X1.out 0; have n0 := (blk_cell X2.out 0).trans rfl; have zn0 := blk_frozen X2.out 0))
     have W1 := Aside0.mk (show wrap64 (y + 1) = y + 1 from wrap_in _ (by have := HY.out; omega) (by have := HLY.out; have := HN.out.nb f HMF.out; omega))
     go_roundg ((f.f2.length : Int) - (y + 1)).toNat
     case measure => have h1_ := HY.out; have h2_ := HLY.out; omega
     case rel => exact ⟨y + 1, A', c', w6.heap.size, fun k => (ok k ∨ wc.heap.size ≤ k) ∧ k < w6.heap.size, by first | (rw [W1.out]; done) | rfl | (simp only [W1.out]; done), ⟨by have := HY.out; have := HLY.out; omega⟩, ⟨below_set HB.out HLX1.out⟩, ⟨set_blk 0 _ X1.out rfl⟩, ⟨blk_far X2.out (p := ⟨g1, 0, none⟩) HNE.out _⟩, ⟨Kd.F_far (p := ⟨g1, 0, none⟩) HCF.out (fun k hk => show k ≠ g1 from hk.1.elim (fun h => (HO.out.2.2.2.2 k h).1) (fun h => by have := HO.out; omega)) _⟩, ⟨HLC.out, by rw [size_set]; exact Nat.le_refl _, blk_lt X1.out, blk_lt X2.out, fun k hk => ⟨hk.1.elim (fun h => (HO.out.2.2.2.2 k h).1) (fun h => by have := HO.out; omega), hk.1.elim (fun h => (HO.out.2.2.2.2 k h).2.1) (fun h => by have := HO.out; omega), hk.2⟩⟩⟩
end Go.Proofs.Ytbfialebaoeicaa.X
