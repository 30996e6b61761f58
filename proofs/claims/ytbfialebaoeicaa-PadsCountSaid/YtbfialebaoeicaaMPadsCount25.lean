/- Part 26 of the proof of the statement PadsCount: the words of the walks, the walks through the functions that it reaches, and the plain laws of what they compute. -/
import Derived.Test.YtbfialebaoeicaaMPadsCount24
import Derived.RegionTactic
import Derived.ChangeAlike
import Derived.Deep.QuietTactic
import Derived.BigQuiet
import Derived.StillTailTactics
import Derived.Deep.MidRow
namespace Go.Proofs.Ytbfialebaoeicaa.X
open Go.RowKit Go.Proofs.YtbfialebaoeicaaW.PrintWords Go.Proofs.YtbfialebaoeicaaW.PrintLast Go.Proofs.YtbfialebaoeicaaW.PrintMore
set_option linter.all false
open Go.Proofs.Ytbfialebaoeicaa.G
theorem app_lt (l : List S49) (y : S49) : (l.length : Int) < ((l ++ [y]).length : Int) := by
 rw [List.length_append, List.length_singleton]
 omega
set_option maxHeartbeats 16000000 in
set_option maxRecDepth 100000 in
theorem pcount_c (m : List S27) (A0 : Option Addr) (c0 : Nat) (w : World) (hm : Kd.C k27 w A0 m.length m) (hc0 : m.length ≤ c0) :
  Calls Try.prog 12 #[.agg #[.slice A0 m.length c0]] w fun e w' => e = .returned (.bool true) ∧ Below w.heap.size w w' := by
 have HM := Aside0.mk hm
 have HC0 := Aside0.mk hc0
 clear hm hc0
 have hu24 := Try.underlying24
 have hu27 := Try.underlying27
 have hu41 := Try.underlying41
 have hu49 := Try.underlying49
 have hu35 := Try.underlying35
 have hu39 := Try.underlying39
 obtain ⟨sh, hs1, hs2⟩ := short_c m
 have HSH := Aside0.mk hs2
 clear hs2
 cases sh with
 | false =>
  go_enter Try.func12, Try.ntmps12
  go_wp2_with (first | ((with_reducible refine gate_dst (N := 1) rfl ?_); refine box_event ?hg (N := 1) ?hd (cs := #[.slice A0 m.length c0]) (t := 24) ?hr ?_; (case hd => rfl); (case hg => rfl); (case hr => first | (go_simp; done) | (go_simp; rfl)); intro g1 hg w1 hbox hb; have HB := Aside0.mk hb; have X1 := Aside0.mk hbox; clear hbox hb hg; have k0 := (blk_cell X1.out 0).trans rfl) | (go_at_call 40; go_loud ((with_reducible refine (awake15_c _).mono ?_); rintro e w8 ⟨rfl, hb⟩; clear k0; have n0_ := Aside0.mk (below_step HB.out hb); have n1_ := Aside0.mk (blk_below X1.out hb); clear HB X1; have HB := n0_; have X1 := n1_; clear n0_ n1_; clear hb; have k0 := (blk_cell X1.out 0).trans rfl)) | (go_at_call 15; go_loud ((with_reducible refine (HSH.out A0 c0 _ (Kd.C_below HM.out HB.out) HC0.out).mono ?_); rintro e w8 ⟨rfl, hb⟩; clear k0; have n0_ := Aside0.mk (below_step HB.out hb); have n1_ := Aside0.mk (blk_below X1.out hb); clear HB X1; have HB := n0_; have X1 := n1_; clear n0_ n1_; clear hb; have k0 := (blk_cell X1.out 0).trans rfl)))
  go_ret
  exact ⟨rfl, HB.out⟩
 | true =>
  have HS := Aside0.mk (hs1 rfl)
  have HBND := Aside0.mk (Sh.bnd (hs1 rfl))
  have HN := Aside0.mk (Sh_bc (hs1 rfl))
  clear hs1
  go_enter Try.func12, Try.ntmps12
  go_upto_region 5 with (first | ((with_reducible refine gate_dst (N := 1) rfl ?_); refine box_event ?hg (N := 1) ?hd (cs := #[.slice A0 m.length c0]) (t := 24) ?hr ?_; (case hd => rfl); (case hg => rfl); (case hr => first | (go_simp; done) | (go_simp; rfl)); intro g1 hg w1 hbox hb; have HB := Aside0.mk hb; have X1 := Aside0.mk hbox; clear hbox hb hg; have k0 := (blk_cell X1.out 0).trans rfl) | (go_at_call 40; go_loud ((with_reducible refine (awake15_c _).mono ?_); rintro e w8 ⟨rfl, hb⟩; clear k0; have n0_ := Aside0.mk (below_step HB.out hb); have n1_ := Aside0.mk (blk_below X1.out hb); clear HB X1; have HB := n0_; have X1 := n1_; clear n0_ n1_; clear hb; have k0 := (blk_cell X1.out 0).trans rfl)) | (go_at_call 15; go_loud ((with_reducible refine (HSH.out A0 c0 _ (Kd.C_below HM.out HB.out) HC0.out).mono ?_); rintro e w8 ⟨rfl, hb⟩; clear k0; have n0_ := Aside0.mk (below_step HB.out hb); have n1_ := Aside0.mk (blk_below X1.out hb); clear HB X1; have HB := n0_; have X1 := n1_; clear n0_ n1_; clear hb; have k0 := (blk_cell X1.out 0).trans rfl)))
  go_cut [3, 4] (fun v3 v4 wc => ∃ (g3 : Nat) (Bn : Option Addr) (cn : Nat), v3 = .pointer (some ⟨g3, 0, none⟩) ∧ v4 = .int .i64 (padsE m) ∧ Aside0 (Below w.heap.size w wc) ∧ Aside0 (wc.heap[g1]? = some (.cells #[.slice A0 m.length c0] 24 (0, 0))) ∧ Aside0 (wc.heap[g3]? = some (.cells #[.slice Bn (padsM m).length cn] 24 (0, 0))) ∧ Aside0 (Kd.C k27 wc Bn (padsM m).length (padsM m)))
  case first =>
   go_wp2_with (go_at_call 41; go_loud ((with_reducible refine (pmod_c m A0 c0 _ (Kd.C_below HM.out HB.out) HC0.out HN.out HBND.out).mono ?_); rintro e w6 ⟨⟨v6, rfl, hs⟩, hb⟩; obtain ⟨Bn, cn, rfl, hl, hC⟩ := SM_reads hs; have HCN := Aside0.mk hC; have HB6 := Aside0.mk hb; clear hs hl hC hb))
   go_meet
   exact ⟨_, Bn, cn, rfl, rfl, ⟨below_alloc (HB.out.trans (HB6.out.mono HB.out.size)) _⟩, ⟨blk_alloc (blk_below X1.out HB6.out) _⟩, ⟨blk_new _ _⟩, ⟨Kd.C_below HCN.out (below_alloc (Below.refl _ _) _)⟩⟩
  case rest =>
   clear k0
   clear HB X1
   obtain ⟨g3, Bn, cn, rfl, rfl, HB, X1, X3, HCN⟩ := hcut
   have k0 := (blk_cell X1.out 0).trans rfl
   have n0 := (blk_cell X3.out 0).trans rfl
   cases hr : rightR m with
   | false =>
    have hpm : padsM m = m := by unfold padsM; rw [if_neg (by rw [hr]; simp)]
    have hpe : padsE m = 1 := by unfold padsE; rw [if_neg (by rw [hr]; simp)]
    rw [hpm] at X3 HCN
    rw [hpe]
    clear n0
    have n0 := (blk_cell X3.out 0).trans rfl
    go_wp2_with (go_at_call 26; go_loud ((with_reducible refine (rsame_c m Bn cn m A0 c0 _ HCN.out (Kd.C_below HM.out HB.out) HBND.out).mono ?_); rintro e w8 ⟨he, hb⟩; rw [eqL_refl funcE_refl] at he; subst he; have HB8 := Aside0.mk (HB.out.trans (hb.mono HB.out.size)); clear hb))
    go_ret
    exact ⟨rfl, HB8.out⟩
   | true =>
    have hpm : padsM m = m.map padF := by unfold padsM; rw [if_pos hr]
    have hpe : padsE m = 0 := by unfold padsE; rw [if_pos hr]
    rw [hpm, List.length_map] at X3
    rw [hpm] at HCN
    rw [hpe]
    clear n0 hpm hpe hr
    have n0 := (blk_cell X3.out 0).trans rfl
    go_wp2
    clear k0 n0
    go_loopg [5] 1000000 (fun gg s wr => ∃ x : Int, s = .int .i64 x ∧ Aside0 (0 ≤ x ∧ x ≤ m.length ∧ (m.length : Int) - x ≤ gg) ∧ Aside0 (Below w.heap.size w wr) ∧ Aside0 (wr.heap[g1]? = some (.cells #[.slice A0 m.length c0] 24 (0, 0))) ∧ Aside0 (wr.heap[g3]? = some (.cells #[.slice Bn m.length cn] 24 (0, 0))) ∧ Aside0 (Kd.C k27 wr Bn (m.map padF).length (m.map padF)))
    case atStart => exact ⟨0, rfl, ⟨by have := HN.out.nf; omega⟩, HB, X1, X3, HCN⟩
    case round =>
     clear HB X1 X3 HCN
     obtain ⟨x, rfl, HX, HB, X1, X3, HCN⟩ := hrel
     have k0 := (blk_cell X1.out 0).trans rfl
     have n0 := (blk_cell X3.out 0).trans rfl
     by_cases hlt : x < (m.length : Int)
     rotate_left
     ·have hd : decide (x < (m.length : Int)) = false := decide_eq_false hlt
      clear hlt
      go_wp2
      go_ret
      exact ⟨rfl, HB.out⟩
     have hd : decide (x < (m.length : Int)) = true := decide_eq_true hlt
     have HLT := Aside0.mk hlt
     clear hlt
     have p1 : (0 ≤ x) = True := eq_true HX.out.1
     have p2 : (x < (m.length : Int)) = True := eq_true HLT.out
     obtain ⟨ad, A1, c1, x1, y0, y1, y2, hl1, hC1⟩ := at_T27 (Kd.C_below HM.out HB.out) x HX.out.1 HLT.out
     subst x1
     obtain ⟨ae, B1, d1, x1, z0, z1, z2, hm1, hD1⟩ := at_T27 HCN.out x HX.out.1 (by rw [List.length_map]; exact HLT.out)
     subst x1
     rw [map_rdF m x HX.out.1 HLT.out] at z2 hD1
     have HMF := Aside0.mk (show rd_T27 m x ∈ m from rd_mem' m z27 x HX.out.1 HLT.out)
     generalize rd_T27 m x = f at *
     rw [show (padF f).f2.length = f.f2.length from List.length_map _] at z2
     rw [show (padF f).f2 = f.f2.map (padB f) from rfl] at hD1
     have C1 := Aside0.mk hC1
     have D1 := Aside0.mk hD1
     have Y2 := Aside0.mk y2
     have Z2 := Aside0.mk z2
     clear y0 y1 z0 z1 hC1 hD1 hl1 hm1 y2 z2
     go_wp2
     clear k0 n0
     go_loopg [6] 1000000 (fun gg s wr => ∃ y : Int, s = .int .i64 y ∧ Aside0 (0 ≤ y ∧ y ≤ f.f2.length ∧ (f.f2.length : Int) - y ≤ gg) ∧ Aside0 (Below w.heap.size w wr) ∧ Aside0 (wr.heap[g1]? = some (.cells #[.slice (some ad) m.length c0] 24 (0, 0))) ∧ Aside0 (wr.heap[g3]? = some (.cells #[.slice (some ae) m.length cn] 24 (0, 0))) ∧ Aside0 (Kd.C k27 wr (some ae) (m.map padF).length (m.map padF)) ∧ Aside0 (wr.cell? ⟨((ad).add (x.toNat * 3)).block, ((ad).add (x.toNat * 3)).off + 2, none⟩ = some (.slice A1 f.f2.length c1)) ∧ Aside0 (wr.cell? ⟨((ae).add (x.toNat * 3)).block, ((ae).add (x.toNat * 3)).off + 2, none⟩ = some (.slice B1 f.f2.length d1)) ∧ Aside0 (Kd.C k41 wr A1 f.f2.length f.f2) ∧ Aside0 (Kd.C k41 wr B1 (f.f2.map (padB f)).length (f.f2.map (padB f))))
     case atStart => exact ⟨0, rfl, ⟨by have := HN.out.nb f HMF.out; omega⟩, HB, X1, X3, HCN, Y2, Z2, C1, D1⟩
     case round =>
      clear HB X1 X3 HCN Y2 Z2 C1 D1
      obtain ⟨y, rfl, HY, HB, X1, X3, HCN, Y2, Z2, C1, D1⟩ := hrel
      have k0 := (blk_cell X1.out 0).trans rfl
      have n0 := (blk_cell X3.out 0).trans rfl
      have yy := Y2.out
      have zz := Z2.out
      by_cases hlt : y < (f.f2.length : Int)
      rotate_left
      ·have hd2 : decide (y < (f.f2.length : Int)) = false := decide_eq_false hlt
       clear hlt
       go_wp2
       have W1 := Aside0.mk (show wrap64 (x + 1) = x + 1 from wrap_in _ (by have := HX.out; omega) (by have := HLT.out; have := HN.out.nf; omega))
       go_roundg ((m.length : Int) - (x + 1)).toNat
       case measure => have h1_ := HX.out; have h2_ := HLT.out; omega
       case rel => exact ⟨x + 1, by first | (rw [W1.out]; done) | rfl | (simp only [W1.out]; done), ⟨by have := HX.out; have := HLT.out; omega⟩, HB, X1, X3, HCN⟩
      have hd2 : decide (y < (f.f2.length : Int)) = true := decide_eq_true hlt
      have HLY := Aside0.mk hlt
      clear hlt
      have p3 : (0 ≤ y) = True := eq_true HY.out.1
      have p4 : (y < (f.f2.length : Int)) = True := eq_true HLY.out
      obtain ⟨bd, A4, c4, A5, c5, A6, c6, x1, y0, y1, y2, y3, y4, y5, y6, y7, y8, y9, y10, y11, y12, y13, hl4, hC4, hl5, hC5, hl6, hC6⟩ := at_T41 C1.out y HY.out.1 HLY.out
      subst x1
      obtain ⟨be, B4, e4, B5, e5, B6, e6, x1, z0, z1, z2, z3, z4, z5, z6, z7, z8, z9, z10, z11, z12, z13, hm4, hD4, hm5, hD5, hm6, hD6⟩ := at_T41 D1.out y HY.out.1 (by rw [List.length_map]; exact HLY.out)
      subst x1
      rw [map_rdB f y HY.out.1 HLY.out] at z0 z1 z2 z3 z4 z5 z6 z7 z8 z9 z10 z11 z12 z13 hD5 hD6
      have HMB := Aside0.mk (show rd_T41 f.f2 y ∈ f.f2 from rd_mem' f.f2 z41 y HY.out.1 HLY.out)
      generalize rd_T41 f.f2 y = b at *
      have hNI := Aside0.mk (HN.out.ni f HMF.out b HMB.out)
      have hNE := Aside0.mk (show b.f3.f4.length ≤ 1000000 by have := HN.out.ne f HMF.out b HMB.out; omega)
      have hNA := Aside0.mk (HN.out.na f HMF.out b HMB.out)
      clear hl4 hC4 hl5 hl6 hm4 hD4 hm5 hm6
      generalize hq : padB f b = q at *
      have HQ := Aside0.mk hq
      clear hq
      have U0_ := Aside0.mk z0
      have U1_ := Aside0.mk z1
      have U2_ := Aside0.mk z2
      have U3_ := Aside0.mk z3
      have U4_ := Aside0.mk z4
      have U5_ := Aside0.mk z5
      have U6_ := Aside0.mk z6
      have U7_ := Aside0.mk z7
      have U8_ := Aside0.mk z8
      have U9_ := Aside0.mk z9
      have U10_ := Aside0.mk z10
      have U11_ := Aside0.mk z11
      have U12_ := Aside0.mk z12
      have U13_ := Aside0.mk z13
      have Y0_ := Aside0.mk y0
      have Y1_ := Aside0.mk y1
      have Y2_ := Aside0.mk y2
      have Y3_ := Aside0.mk y3
      have Y4_ := Aside0.mk y4
      have Y5_ := Aside0.mk y5
      have Y6_ := Aside0.mk y6
      have Y7_ := Aside0.mk y7
      have Y8_ := Aside0.mk y8
      have Y9_ := Aside0.mk y9
      have Y10_ := Aside0.mk y10
      have Y11_ := Aside0.mk y11
      have Y12_ := Aside0.mk y12
      have Y13_ := Aside0.mk y13
      clear z0 z1 z2 z3 z4 z5 z6 z7 z8 z9 z10 z11 z12 z13 y0 y1 y2 y3 y4 y5 y6 y7 y8 y9 y10 y11 y12 y13
      have C5 := Aside0.mk hC5
      have D5 := Aside0.mk hD5
      have C6 := Aside0.mk hC6
      have D6 := Aside0.mk hD6
      clear hC5 hD5 hC6 hD6
      go_upto_region 14 with (fail)
      go_cut [7, 8] from 33 to 192 (fun v7 v8 wc => ∃ g7 g8 : Nat, v7 = .pointer (some ⟨g7, 0, none⟩) ∧ v8 = .pointer (some ⟨g8, 0, none⟩) ∧ Aside0 (Below w.heap.size w wc) ∧ Aside0 (wc.heap[g1]? = some (.cells #[.slice (some ad) m.length c0] 24 (0, 0))) ∧ Aside0 (wc.heap[g3]? = some (.cells #[.slice (some ae) m.length cn] 24 (0, 0))) ∧ Aside0 (Kd.C k27 wc (some ae) (m.map padF).length (m.map padF)) ∧ Aside0 (wc.cell? ⟨((ad).add (x.toNat * 3)).block, ((ad).add (x.toNat * 3)).off + 2, none⟩ = some (.slice (some bd) f.f2.length c1)) ∧ Aside0 (wc.cell? ⟨((ae).add (x.toNat * 3)).block, ((ae).add (x.toNat * 3)).off + 2, none⟩ = some (.slice (some be) f.f2.length d1)) ∧ Aside0 (Kd.C k41 wc (some bd) f.f2.length f.f2) ∧ Aside0 (Kd.C k41 wc (some be) (f.f2.map (padB f)).length (f.f2.map (padB f))) ∧ Aside0 (wc.heap[g7]? = some (.cells #[.bool b.f0, .int .i64 b.f1.f0, .slice A4 b.f1.f1.length c4, .bool b.f1.f2, .bool b.f1.f3, .slice A5 b.f2.length c5, .int .i64 b.f3.f0, .int .i64 b.f3.f1, .int .i64 b.f3.f2, .int .i64 b.f3.f3, .slice A6 b.f3.f4.length c6, .int .i64 b.f3.f5, .int .i64 b.f3.f6, .int .i64 b.f3.f7] 41 (0, 0))) ∧ Aside0 (wc.heap[g8]? = some (.cells #[.bool q.f0, .int .i64 q.f1.f0, .slice B4 q.f1.f1.length e4, .bool q.f1.f2, .bool q.f1.f3, .slice B5 q.f2.length e5, .int .i64 q.f3.f0, .int .i64 q.f3.f1, .int .i64 q.f3.f2, .int .i64 q.f3.f3, .slice B6 q.f3.f4.length e6, .int .i64 q.f3.f5, .int .i64 q.f3.f6, .int .i64 q.f3.f7] 41 (0, 0))) ∧ Aside0 (Kd.C k49 wc A5 b.f2.length b.f2) ∧ Aside0 (Kd.C k49 wc B5 q.f2.length q.f2) ∧ Aside0 (Kd.C (Kd.int .i64) wc A6 b.f3.f4.length b.f3.f4) ∧ Aside0 (Kd.C (Kd.int .i64) wc B6 q.f3.f4.length q.f3.f4))
      case first =>
       refine r14 m f b q c0 cn c1 d1 c4 c5 c6 e4 e5 e6 ad ae bd be A4 A5 A6 B4 B5 B6 g1 g3 x y wr ⟨HX.out.1, HLT.out⟩ ⟨HY.out.1, HLY.out⟩ X1.out X3.out Y2.out Z2.out Y0_.out Y1_.out Y2_.out Y3_.out Y4_.out Y5_.out Y6_.out Y7_.out Y8_.out Y9_.out Y10_.out Y11_.out Y12_.out Y13_.out U0_.out U1_.out U2_.out U3_.out U4_.out U5_.out U6_.out U7_.out U8_.out U9_.out U10_.out U11_.out U12_.out U13_.out (by intro c a N v w h; cases N <;> exact h) (fun g7 g8 W hS hA hB => ?_)
       go_wp2
       go_meet
       exact ⟨g7, g8, rfl, rfl, ⟨HB.out.trans (hS.mono HB.out.size)⟩, ⟨blk_below X1.out hS⟩, ⟨blk_below X3.out hS⟩, ⟨Kd.C_below HCN.out hS⟩, ⟨pw_cell_below hS Y2.out⟩, ⟨pw_cell_below hS Z2.out⟩, ⟨Kd.C_below C1.out hS⟩, ⟨Kd.C_below D1.out hS⟩, ⟨hA⟩, ⟨hB⟩, ⟨Kd.C_below C5.out hS⟩, ⟨Kd.C_below D5.out hS⟩, ⟨Kd.C_below C6.out hS⟩, ⟨Kd.C_below D6.out hS⟩⟩
      case rest =>
       clear hd hd2 p1 p2 p3 p4
       clear Y0_ Y1_ Y2_ Y3_ Y4_ Y5_ Y6_ Y7_ Y8_ Y9_ Y10_ Y11_ Y12_ Y13_ U0_ U1_ U2_ U3_ U4_ U5_ U6_ U7_ U8_ U9_ U10_ U11_ U12_ U13_
       clear k0 n0
       clear yy zz
       clear HB X1 X3 HCN Y2 Z2 C1 D1 C5 D5 C6 D6
       obtain ⟨g7, g8, rfl, rfl, HB, X1, X3, HCN, Y2, Z2, C1, D1, X7, X8, C5, D5, C6, D6⟩ := hcut
       cases hgo : goesB f b with
       | false =>
        obtain rfl : q = (trimB b) := by rw [← HQ.out]; unfold padB; rw [if_neg (by rw [hgo]; simp)]
        clear HQ hgo
        have e8 : (#[.bool (trimB b).f0, .int .i64 (trimB b).f1.f0, .slice B4 (trimB b).f1.f1.length e4, .bool (trimB b).f1.f2, .bool (trimB b).f1.f3, .slice B5 (trimB b).f2.length e5, .int .i64 (trimB b).f3.f0, .int .i64 (trimB b).f3.f1, .int .i64 (trimB b).f3.f2, .int .i64 (trimB b).f3.f3, .slice B6 (trimB b).f3.f4.length e6, .int .i64 (trimB b).f3.f5, .int .i64 (trimB b).f3.f6, .int .i64 (trimB b).f3.f7] : Array Value) = #[.bool b.f0, .int .i64 b.f1.f0, .slice B4 (trimP b.f1).f1.length e4, .bool b.f1.f2, .bool (trimP b.f1).f3, .slice B5 b.f2.length e5, .int .i64 b.f3.f0, .int .i64 b.f3.f1, .int .i64 b.f3.f2, .int .i64 b.f3.f3, .slice B6 b.f3.f4.length e6, .int .i64 b.f3.f5, .int .i64 b.f3.f6, .int .i64 b.f3.f7] := by simp [roundB, trimB, trimP_0, trimP_2]
        rw [e8] at X8
        clear e8
        have D5' := Aside0.mk (show Kd.C k49 wc B5 b.f2.length b.f2 from D5.out)
        have D6' := Aside0.mk (show Kd.C (Kd.int .i64) wc B6 b.f3.f4.length b.f3.f4 from D6.out)
        clear D5 D6
        have D5 := D5'
        have D6 := D6'
        clear D5' D6'
        have xe0 := (blk_cell X7.out 0).trans rfl
        have xe1 := (blk_cell X7.out 1).trans rfl
        have xe2 := (blk_cell X7.out 2).trans rfl
        have xe3 := (blk_cell X7.out 3).trans rfl
        have xe4 := (blk_cell X7.out 4).trans rfl
        have xe5 := (blk_cell X7.out 5).trans rfl
        have xe6 := (blk_cell X7.out 6).trans rfl
        have xe7 := (blk_cell X7.out 7).trans rfl
        have xe8 := (blk_cell X7.out 8).trans rfl
        have xe9 := (blk_cell X7.out 9).trans rfl
        have xe10 := (blk_cell X7.out 10).trans rfl
        have xe11 := (blk_cell X7.out 11).trans rfl
        have xe12 := (blk_cell X7.out 12).trans rfl
        have xe13 := (blk_cell X7.out 13).trans rfl
        have q_0 := (blk_cell X8.out 0).trans rfl
        have q_1 := (blk_cell X8.out 1).trans rfl
        have q_2 := (blk_cell X8.out 2).trans rfl
        have q_3 := (blk_cell X8.out 3).trans rfl
        have q_4 := (blk_cell X8.out 4).trans rfl
        have q_5 := (blk_cell X8.out 5).trans rfl
        have q_6 := (blk_cell X8.out 6).trans rfl
        have q_7 := (blk_cell X8.out 7).trans rfl
        have q_8 := (blk_cell X8.out 8).trans rfl
        have q_9 := (blk_cell X8.out 9).trans rfl
        have q_10 := (blk_cell X8.out 10).trans rfl
        have q_11 := (blk_cell X8.out 11).trans rfl
        have q_12 := (blk_cell X8.out 12).trans rfl
        have q_13 := (blk_cell X8.out 13).trans rfl
        go_wp2
        clear xe0 xe1 xe2 xe3 xe4 xe5 xe6 xe7 xe8 xe9 xe10 xe11 xe12 xe13 q_0 q_1 q_2 q_3 q_4 q_5 q_6 q_7 q_8 q_9 q_10 q_11 q_12 q_13
        go_loopg [9] 1000000 (fun gg s wr => ∃ z : Int, s = .int .i64 z ∧ Aside0 (0 ≤ z ∧ z ≤ b.f2.length ∧ (b.f2.length : Int) - z ≤ gg) ∧ Aside0 (Below w.heap.size w wr) ∧ Aside0 (wr.heap[g1]? = some (.cells #[.slice (some ad) m.length c0] 24 (0, 0))) ∧ Aside0 (wr.heap[g3]? = some (.cells #[.slice (some ae) m.length cn] 24 (0, 0))) ∧ Aside0 (Kd.C k27 wr (some ae) (m.map padF).length (m.map padF)) ∧ Aside0 (wr.cell? ⟨((ad).add (x.toNat * 3)).block, ((ad).add (x.toNat * 3)).off + 2, none⟩ = some (.slice (some bd) f.f2.length c1)) ∧ Aside0 (wr.cell? ⟨((ae).add (x.toNat * 3)).block, ((ae).add (x.toNat * 3)).off + 2, none⟩ = some (.slice (some be) f.f2.length d1)) ∧ Aside0 (Kd.C k41 wr (some bd) f.f2.length f.f2) ∧ Aside0 (Kd.C k41 wr (some be) (f.f2.map (padB f)).length (f.f2.map (padB f))) ∧ Aside0 (wr.heap[g7]? = some (.cells #[.bool b.f0, .int .i64 b.f1.f0, .slice A4 b.f1.f1.length c4, .bool b.f1.f2, .bool b.f1.f3, .slice A5 b.f2.length c5, .int .i64 b.f3.f0, .int .i64 b.f3.f1, .int .i64 b.f3.f2, .int .i64 b.f3.f3, .slice A6 b.f3.f4.length c6, .int .i64 b.f3.f5, .int .i64 b.f3.f6, .int .i64 b.f3.f7] 41 (0, 0))) ∧ Aside0 (wr.heap[g8]? = some (.cells #[.bool b.f0, .int .i64 b.f1.f0, .slice B4 (trimP b.f1).f1.length e4, .bool b.f1.f2, .bool (trimP b.f1).f3, .slice B5 b.f2.length e5, .int .i64 b.f3.f0, .int .i64 b.f3.f1, .int .i64 b.f3.f2, .int .i64 b.f3.f3, .slice B6 b.f3.f4.length e6, .int .i64 b.f3.f5, .int .i64 b.f3.f6, .int .i64 b.f3.f7] 41 (0, 0))) ∧ Aside0 (Kd.C k49 wr A5 b.f2.length b.f2) ∧ Aside0 (Kd.C k49 wr B5 b.f2.length b.f2) ∧ Aside0 (Kd.C (Kd.int .i64) wr A6 b.f3.f4.length b.f3.f4) ∧ Aside0 (Kd.C (Kd.int .i64) wr B6 b.f3.f4.length b.f3.f4))
        case atStart => exact ⟨0, rfl, ⟨by have := hNI.out; omega⟩, HB, X1, X3, HCN, Y2, Z2, C1, D1, X7, X8, C5, D5, C6, D6⟩
        case round =>
         clear HB X1 X3 HCN Y2 Z2 C1 D1 X7 X8 C5 D5 C6 D6
         obtain ⟨z, rfl, HZZ, HB, X1, X3, HCN, Y2, Z2, C1, D1, X7, X8, C5, D5, C6, D6⟩ := hrel
         have xe0 := (blk_cell X7.out 0).trans rfl
         have xe1 := (blk_cell X7.out 1).trans rfl
         have xe2 := (blk_cell X7.out 2).trans rfl
         have xe3 := (blk_cell X7.out 3).trans rfl
         have xe4 := (blk_cell X7.out 4).trans rfl
         have xe5 := (blk_cell X7.out 5).trans rfl
         have xe6 := (blk_cell X7.out 6).trans rfl
         have xe7 := (blk_cell X7.out 7).trans rfl
         have xe8 := (blk_cell X7.out 8).trans rfl
         have xe9 := (blk_cell X7.out 9).trans rfl
         have xe10 := (blk_cell X7.out 10).trans rfl
         have xe11 := (blk_cell X7.out 11).trans rfl
         have xe12 := (blk_cell X7.out 12).trans rfl
         have xe13 := (blk_cell X7.out 13).trans rfl
         have q_0 := (blk_cell X8.out 0).trans rfl
         have q_1 := (blk_cell X8.out 1).trans rfl
         have q_2 := (blk_cell X8.out 2).trans rfl
         have q_3 := (blk_cell X8.out 3).trans rfl
         have q_4 := (blk_cell X8.out 4).trans rfl
         have q_5 := (blk_cell X8.out 5).trans rfl
         have q_6 := (blk_cell X8.out 6).trans rfl
         have q_7 := (blk_cell X8.out 7).trans rfl
         have q_8 := (blk_cell X8.out 8).trans rfl
         have q_9 := (blk_cell X8.out 9).trans rfl
         have q_10 := (blk_cell X8.out 10).trans rfl
         have q_11 := (blk_cell X8.out 11).trans rfl
         have q_12 := (blk_cell X8.out 12).trans rfl
         have q_13 := (blk_cell X8.out 13).trans rfl
         by_cases hlt : z < (b.f2.length : Int)
         rotate_left
         ·have hd3 : decide (z < (b.f2.length : Int)) = false := decide_eq_false hlt
          clear hlt
          go_wp2_with (go_at_call 51; go_loud ((with_reducible refine (rend_c b.f3 A6 c6 b.f3 B6 e6 _ C6.out D6.out hNE.out).mono ?_); rintro e w8 ⟨he, hb⟩; rw [endE_refl] at he; subst he; clear xe0 xe1 xe2 xe3 xe4 xe5 xe6 xe7 xe8 xe9 xe10 xe11 xe12 xe13 q_0 q_1 q_2 q_3 q_4 q_5 q_6 q_7 q_8 q_9 q_10 q_11 q_12 q_13; have n0_ := Aside0.mk (below_step HB.out hb); have n1_ := Aside0.mk (blk_below X1.out hb); have n2_ := Aside0.mk (blk_below X3.out hb); have n3_ := Aside0.mk (Kd.C_below HCN.out hb); have n4_ := Aside0.mk (pw_cell_below hb Y2.out); have n5_ := Aside0.mk (pw_cell_below hb Z2.out); have n6_ := Aside0.mk (Kd.C_below C1.out hb); have n7_ := Aside0.mk (Kd.C_below D1.out hb); have n8_ := Aside0.mk (blk_below X7.out hb); have n9_ := Aside0.mk (blk_below X8.out hb); have n10_ := Aside0.mk (Kd.C_below C5.out hb); have n11_ := Aside0.mk (Kd.C_below D5.out hb); have n12_ := Aside0.mk (Kd.C_below C6.out hb); have n13_ := Aside0.mk (Kd.C_below D6.out hb); clear HB X1 X3 HCN Y2 Z2 C1 D1 X7 X8 C5 D5 C6 D6; have HB := n0_; have X1 := n1_; have X3 := n2_; have HCN := n3_; have Y2 := n4_; have Z2 := n5_; have C1 := n6_; have D1 := n7_; have X7 := n8_; have X8 := n9_; have C5 := n10_; have D5 := n11_; have C6 := n12_; have D6 := n13_; clear n0_ n1_ n2_ n3_ n4_ n5_ n6_ n7_ n8_ n9_ n10_ n11_ n12_ n13_; clear hb; ))
          have W1 := Aside0.mk (show wrap64 (y + 1) = y + 1 from wrap_in _ (by have := HY.out; omega) (by have := HLY.out; have := HN.out.nb f HMF.out; omega))
          go_roundg ((f.f2.length : Int) - (y + 1)).toNat
          case measure => have h1_ := HY.out; have h2_ := HLY.out; omega
          case rel => exact ⟨y + 1, by first | (rw [W1.out]; done) | rfl | (simp only [W1.out]; done), ⟨by have := HY.out; have := HLY.out; omega⟩, HB, X1, X3, HCN, Y2, Z2, C1, D1⟩
         have hd3 : decide (z < (b.f2.length : Int)) = true := decide_eq_true hlt
         have HLZ := Aside0.mk hlt
         clear hlt
         have p5 : (0 ≤ z) = True := eq_true HZZ.out.1
         have p6 : (z < (b.f2.length : Int)) = True := eq_true HLZ.out
         obtain ⟨ai, A7, c7, x1, y0, y1, y2, y3, y4, y5, y6, hl7, hC7⟩ := at_T49 C5.out z HZZ.out.1 HLZ.out
         subst x1
         obtain ⟨bi, B7, e7, x1, z0, z1, z2, z3, z4, z5, z6, hm7, hD7⟩ := at_T49 D5.out z HZZ.out.1 (by have := HLZ.out; omega)
         subst x1
         have HMI := Aside0.mk (show rd_T49 b.f2 z ∈ b.f2 from rd_mem' b.f2 z49 z HZZ.out.1 HLZ.out)
         generalize rd_T49 b.f2 z = i1 at *
         have C7 := Aside0.mk hC7
         have D7 := Aside0.mk hD7
         have HNI := Aside0.mk (show i1.f6.length ≤ 1000000 by have := hNA.out i1 HMI.out; omega)
         clear hC7 hD7 hl7 hm7
         go_wp2
         go_still_tail 10, (by kernel_rfl)
         have n0_ := Aside0.mk (below_drew HB.out)
         have n1_ := Aside0.mk (blk_drew X1.out)
         have n2_ := Aside0.mk (blk_drew X3.out)
         have n3_ := Aside0.mk (Kd.C_drew HCN.out)
         have n4_ := Aside0.mk (Kd.C_drew C1.out)
         have n5_ := Aside0.mk (Kd.C_drew D1.out)
         have n6_ := Aside0.mk (blk_drew X7.out)
         have n7_ := Aside0.mk (blk_drew X8.out)
         have n8_ := Aside0.mk (Kd.C_drew C5.out)
         have n9_ := Aside0.mk (Kd.C_drew D5.out)
         have n10_ := Aside0.mk (Kd.C_drew C6.out)
         have n11_ := Aside0.mk (Kd.C_drew D6.out)
         have n12_ := Aside0.mk (Kd.C_drew C7.out)
         have n13_ := Aside0.mk (Kd.C_drew D7.out)
         clear HB X1 X3 HCN C1 D1 X7 X8 C5 D5 C6 D6 C7 D7
         have HB := n0_
         have X1 := n1_
         have X3 := n2_
         have HCN := n3_
         have C1 := n4_
         have D1 := n5_
         have X7 := n6_
         have X8 := n7_
         have C5 := n8_
         have D5 := n9_
         have C6 := n10_
         have D6 := n11_
         have C7 := n12_
         have D7 := n13_
         clear n0_ n1_ n2_ n3_ n4_ n5_ n6_ n7_ n8_ n9_ n10_ n11_ n12_ n13_
         have m_ := Aside0.mk (show wr.drew.cell? ⟨((ad).add (x.toNat * 3)).block, ((ad).add (x.toNat * 3)).off + 2, none⟩ = _ from Y2.out); clear Y2; have Y2 := m_; clear m_
         have m_ := Aside0.mk (show wr.drew.cell? ⟨((ae).add (x.toNat * 3)).block, ((ae).add (x.toNat * 3)).off + 2, none⟩ = _ from Z2.out); clear Z2; have Z2 := m_; clear m_
         change wpList _ _ _ _ _ wr.drew
         generalize wr.drew = w2 at *
         go_wp2_with (go_at_call 50; go_loud ((with_reducible refine (rins_c i1 A7 c7 i1 B7 e7 _ C7.out D7.out HNI.out).mono ?_); rintro e w8 ⟨he, hb⟩; rw [insE_refl] at he; subst he; skip; have n0_ := Aside0.mk (below_step HB.out hb); have n1_ := Aside0.mk (blk_below X1.out hb); have n2_ := Aside0.mk (blk_below X3.out hb); have n3_ := Aside0.mk (Kd.C_below HCN.out hb); have n4_ := Aside0.mk (pw_cell_below hb Y2.out); have n5_ := Aside0.mk (pw_cell_below hb Z2.out); have n6_ := Aside0.mk (Kd.C_below C1.out hb); have n7_ := Aside0.mk (Kd.C_below D1.out hb); have n8_ := Aside0.mk (blk_below X7.out hb); have n9_ := Aside0.mk (blk_below X8.out hb); have n10_ := Aside0.mk (Kd.C_below C5.out hb); have n11_ := Aside0.mk (Kd.C_below D5.out hb); have n12_ := Aside0.mk (Kd.C_below C6.out hb); have n13_ := Aside0.mk (Kd.C_below D6.out hb); clear HB X1 X3 HCN Y2 Z2 C1 D1 X7 X8 C5 D5 C6 D6; have HB := n0_; have X1 := n1_; have X3 := n2_; have HCN := n3_; have Y2 := n4_; have Z2 := n5_; have C1 := n6_; have D1 := n7_; have X7 := n8_; have X8 := n9_; have C5 := n10_; have D5 := n11_; have C6 := n12_; have D6 := n13_; clear n0_ n1_ n2_ n3_ n4_ n5_ n6_ n7_ n8_ n9_ n10_ n11_ n12_ n13_; clear hb; ))
         have W1 := Aside0.mk (show wrap64 (z + 1) = z + 1 from wrap_in _ (by have := HZZ.out; omega) (by have := HLZ.out; have := hNI.out; omega))
         go_roundg ((b.f2.length : Int) - (z + 1)).toNat
         case measure => have h1_ := HZZ.out; have h2_ := HLZ.out; omega
         case rel => exact ⟨z + 1, by first | (rw [W1.out]; done) | rfl | (simp only [W1.out]; done), ⟨by have := HZZ.out; have := HLZ.out; omega⟩, HB, X1, X3, HCN, Y2, Z2, C1, D1, X7, X8, C5, D5, C6, D6⟩
       | true =>
        obtain rfl : q = (roundB (trimB b)) := by rw [← HQ.out]; unfold padB; rw [if_pos hgo]
        have H4 := Aside0.mk (show b.f3.f0 = 4 by have h_ := hgo; unfold goesB at h_; simp only [Bool.and_eq_true, beq_iff_eq] at h_; exact h_.1)
        clear HQ hgo
        have e8 : (#[.bool (roundB (trimB b)).f0, .int .i64 (roundB (trimB b)).f1.f0, .slice B4 (roundB (trimB b)).f1.f1.length e4, .bool (roundB (trimB b)).f1.f2, .bool (roundB (trimB b)).f1.f3, .slice B5 (roundB (trimB b)).f2.length e5, .int .i64 (roundB (trimB b)).f3.f0, .int .i64 (roundB (trimB b)).f3.f1, .int .i64 (roundB (trimB b)).f3.f2, .int .i64 (roundB (trimB b)).f3.f3, .slice B6 (roundB (trimB b)).f3.f4.length e6, .int .i64 (roundB (trimB b)).f3.f5, .int .i64 (roundB (trimB b)).f3.f6, .int .i64 (roundB (trimB b)).f3.f7] : Array Value) = #[.bool b.f0, .int .i64 b.f1.f0, .slice B4 (trimP b.f1).f1.length e4, .bool b.f1.f2, .bool (trimP b.f1).f3, .slice B5 (b.f2.length + 1) e5, .int .i64 2, .int .i64 0, .int .i64 0, .int .i64 0, .slice B6 0 e6, .int .i64 b.f3.f5, .int .i64 0, .int .i64 0] := by simp [roundB, trimB, trimP_0, trimP_2]
        rw [e8] at X8
        clear e8
        have D5' := Aside0.mk (show Kd.C k49 wc B5 (b.f2 ++ [newI b]).length (b.f2 ++ [newI b]) from D5.out)
        have D6' := Aside0.mk (show Kd.C (Kd.int .i64) wc B6 ([] : List Int).length ([] : List Int) from D6.out)
        clear D5 D6
        have D5 := D5'
        have D6 := D6'
        clear D5' D6'
        have xe0 := (blk_cell X7.out 0).trans rfl
        have xe1 := (blk_cell X7.out 1).trans rfl
        have xe2 := (blk_cell X7.out 2).trans rfl
        have xe3 := (blk_cell X7.out 3).trans rfl
        have xe4 := (blk_cell X7.out 4).trans rfl
        have xe5 := (blk_cell X7.out 5).trans rfl
        have xe6 := (blk_cell X7.out 6).trans rfl
        have xe7 := (blk_cell X7.out 7).trans rfl
        have xe8 := (blk_cell X7.out 8).trans rfl
        have xe9 := (blk_cell X7.out 9).trans rfl
        have xe10 := (blk_cell X7.out 10).trans rfl
        have xe11 := (blk_cell X7.out 11).trans rfl
        have xe12 := (blk_cell X7.out 12).trans rfl
        have xe13 := (blk_cell X7.out 13).trans rfl
        have q_0 := (blk_cell X8.out 0).trans rfl
        have q_1 := (blk_cell X8.out 1).trans rfl
        have q_2 := (blk_cell X8.out 2).trans rfl
        have q_3 := (blk_cell X8.out 3).trans rfl
        have q_4 := (blk_cell X8.out 4).trans rfl
        have q_5 := (blk_cell X8.out 5).trans rfl
        have q_6 := (blk_cell X8.out 6).trans rfl
        have q_7 := (blk_cell X8.out 7).trans rfl
        have q_8 := (blk_cell X8.out 8).trans rfl
        have q_9 := (blk_cell X8.out 9).trans rfl
        have q_10 := (blk_cell X8.out 10).trans rfl
        have q_11 := (blk_cell X8.out 11).trans rfl
        have q_12 := (blk_cell X8.out 12).trans rfl
        have q_13 := (blk_cell X8.out 13).trans rfl
        have hlt1 : decide (((b.f2.length : Int) + 1) < (b.f2.length : Int)) = false := decide_eq_false (by omega)
        have hlt2 : decide (b.f2.length + 1 < b.f2.length) = false := decide_eq_false (by omega)
        have hlt3 : decide (((b.f2.length + 1 : Nat) : Int) < (b.f2.length : Int)) = false := decide_eq_false (by omega)
        go_wp2
        clear xe0 xe1 xe2 xe3 xe4 xe5 xe6 xe7 xe8 xe9 xe10 xe11 xe12 xe13 q_0 q_1 q_2 q_3 q_4 q_5 q_6 q_7 q_8 q_9 q_10 q_11 q_12 q_13
        clear hlt1 hlt2 hlt3
        go_loopg [9] 1000000 (fun gg s wr => ∃ z : Int, s = .int .i64 z ∧ Aside0 (0 ≤ z ∧ z ≤ b.f2.length ∧ (b.f2.length : Int) - z ≤ gg) ∧ Aside0 (Below w.heap.size w wr) ∧ Aside0 (wr.heap[g1]? = some (.cells #[.slice (some ad) m.length c0] 24 (0, 0))) ∧ Aside0 (wr.heap[g3]? = some (.cells #[.slice (some ae) m.length cn] 24 (0, 0))) ∧ Aside0 (Kd.C k27 wr (some ae) (m.map padF).length (m.map padF)) ∧ Aside0 (wr.cell? ⟨((ad).add (x.toNat * 3)).block, ((ad).add (x.toNat * 3)).off + 2, none⟩ = some (.slice (some bd) f.f2.length c1)) ∧ Aside0 (wr.cell? ⟨((ae).add (x.toNat * 3)).block, ((ae).add (x.toNat * 3)).off + 2, none⟩ = some (.slice (some be) f.f2.length d1)) ∧ Aside0 (Kd.C k41 wr (some bd) f.f2.length f.f2) ∧ Aside0 (Kd.C k41 wr (some be) (f.f2.map (padB f)).length (f.f2.map (padB f))) ∧ Aside0 (wr.heap[g7]? = some (.cells #[.bool b.f0, .int .i64 b.f1.f0, .slice A4 b.f1.f1.length c4, .bool b.f1.f2, .bool b.f1.f3, .slice A5 b.f2.length c5, .int .i64 b.f3.f0, .int .i64 b.f3.f1, .int .i64 b.f3.f2, .int .i64 b.f3.f3, .slice A6 b.f3.f4.length c6, .int .i64 b.f3.f5, .int .i64 b.f3.f6, .int .i64 b.f3.f7] 41 (0, 0))) ∧ Aside0 (wr.heap[g8]? = some (.cells #[.bool b.f0, .int .i64 b.f1.f0, .slice B4 (trimP b.f1).f1.length e4, .bool b.f1.f2, .bool (trimP b.f1).f3, .slice B5 (b.f2.length + 1) e5, .int .i64 2, .int .i64 0, .int .i64 0, .int .i64 0, .slice B6 0 e6, .int .i64 b.f3.f5, .int .i64 0, .int .i64 0] 41 (0, 0))) ∧ Aside0 (Kd.C k49 wr A5 b.f2.length b.f2) ∧ Aside0 (Kd.C k49 wr B5 (b.f2 ++ [newI b]).length (b.f2 ++ [newI b])) ∧ Aside0 (Kd.C (Kd.int .i64) wr A6 b.f3.f4.length b.f3.f4) ∧ Aside0 (Kd.C (Kd.int .i64) wr B6 ([] : List Int).length ([] : List Int)))
        case atStart => exact ⟨0, rfl, ⟨by have := hNI.out; omega⟩, HB, X1, X3, HCN, Y2, Z2, C1, D1, X7, X8, C5, D5, C6, D6⟩
        case round =>
         clear HB X1 X3 HCN Y2 Z2 C1 D1 X7 X8 C5 D5 C6 D6
         obtain ⟨z, rfl, HZZ, HB, X1, X3, HCN, Y2, Z2, C1, D1, X7, X8, C5, D5, C6, D6⟩ := hrel
         have xe0 := (blk_cell X7.out 0).trans rfl
         have xe1 := (blk_cell X7.out 1).trans rfl
         have xe2 := (blk_cell X7.out 2).trans rfl
         have xe3 := (blk_cell X7.out 3).trans rfl
         have xe4 := (blk_cell X7.out 4).trans rfl
         have xe5 := (blk_cell X7.out 5).trans rfl
         have xe6 := (blk_cell X7.out 6).trans rfl
         have xe7 := (blk_cell X7.out 7).trans rfl
         have xe8 := (blk_cell X7.out 8).trans rfl
         have xe9 := (blk_cell X7.out 9).trans rfl
         have xe10 := (blk_cell X7.out 10).trans rfl
         have xe11 := (blk_cell X7.out 11).trans rfl
         have xe12 := (blk_cell X7.out 12).trans rfl
         have xe13 := (blk_cell X7.out 13).trans rfl
         have q_0 := (blk_cell X8.out 0).trans rfl
         have q_1 := (blk_cell X8.out 1).trans rfl
         have q_2 := (blk_cell X8.out 2).trans rfl
         have q_3 := (blk_cell X8.out 3).trans rfl
         have q_4 := (blk_cell X8.out 4).trans rfl
         have q_5 := (blk_cell X8.out 5).trans rfl
         have q_6 := (blk_cell X8.out 6).trans rfl
         have q_7 := (blk_cell X8.out 7).trans rfl
         have q_8 := (blk_cell X8.out 8).trans rfl
         have q_9 := (blk_cell X8.out 9).trans rfl
         have q_10 := (blk_cell X8.out 10).trans rfl
         have q_11 := (blk_cell X8.out 11).trans rfl
         have q_12 := (blk_cell X8.out 12).trans rfl
         have q_13 := (blk_cell X8.out 13).trans rfl
         by_cases hlt : z < (b.f2.length : Int)
         rotate_left
         ·have hd3 : decide (z < (b.f2.length : Int)) = false := decide_eq_false hlt
          clear hlt
          have hn1 : (((b.f2.length : Int) + 1) == (b.f2.length : Int)) = false := beq_eq_false_iff_ne.2 (by omega)
          have hn2 : ((b.f2.length + 1) == b.f2.length) = false := beq_eq_false_iff_ne.2 (by omega)
          have hn3 : (((b.f2.length + 1 : Nat) : Int) == (b.f2.length : Int)) = false := beq_eq_false_iff_ne.2 (by omega)
          have hw1 : wrap64 (b.f2.length : Int) = (b.f2.length : Int) := wrap_in _ (by omega) (by have := hNI.out; omega)
          have hw2 : wrap64 ((b.f2.length : Int) + 1 - 1) = (b.f2.length : Int) := by rw [show (b.f2.length : Int) + 1 - 1 = b.f2.length by omega]; exact hw1
          have hw3 : wrap64 ((b.f2.length : Int) + 1) = (b.f2.length : Int) + 1 := wrap_in _ (by omega) (by have := hNI.out; omega)
          have hq1 : (0 ≤ (b.f2.length : Int)) = True := eq_true (by omega)
          have hq2 : ((b.f2.length : Int) < (b.f2.length : Int) + 1) = True := eq_true (by omega)
          obtain ⟨bi, A7, e7, x1, v0, v1, v2, v3, v4, v5, v6, hl7, hC7⟩ := at_T49 D5.out (b.f2.length : Int) (by omega) (app_lt b.f2 (newI b))
          subst x1
          rw [app_lastI] at v0 v1 v2 v3 v4 v5 v6 hC7
          have t0_ : wr.cell? (bi.add (b.f2.length * 7)) = some (.int .i64 11) := v0
          have t1_ : wr.cell? ⟨(bi.add (b.f2.length * 7)).block, (bi.add (b.f2.length * 7)).off + 1, none⟩ = some (.int .i64 b.f3.f2) := v1
          have t2_ : wr.cell? ⟨(bi.add (b.f2.length * 7)).block, (bi.add (b.f2.length * 7)).off + 2, none⟩ = some (.int .i64 0) := v2
          have t3_ : wr.cell? ⟨(bi.add (b.f2.length * 7)).block, (bi.add (b.f2.length * 7)).off + 3, none⟩ = some (.int .i64 0) := v3
          have t4_ : wr.cell? ⟨(bi.add (b.f2.length * 7)).block, (bi.add (b.f2.length * 7)).off + 4, none⟩ = some (.int .u16 0) := v4
          have t5_ : wr.cell? ⟨(bi.add (b.f2.length * 7)).block, (bi.add (b.f2.length * 7)).off + 5, none⟩ = some (.int .i64 b.f3.f3) := v5
          have t6_ : wr.cell? ⟨(bi.add (b.f2.length * 7)).block, (bi.add (b.f2.length * 7)).off + 6, none⟩ = some (.slice A7 b.f3.f4.length e7) := v6
          have C7 := Aside0.mk (show Kd.C (Kd.int .i64) wr A7 b.f3.f4.length b.f3.f4 from hC7)
          clear hC7 hl7 v0 v1 v2 v3 v4 v5 v6
          go_upto_region 25 with (fail)
          go_cut [10] from 94 to 192 (fun v10 wc => ∃ g10 : Nat, v10 = .pointer (some ⟨g10, 0, none⟩) ∧ Aside0 (Below w.heap.size w wc) ∧ Aside0 (wc.heap[g1]? = some (.cells #[.slice (some ad) m.length c0] 24 (0, 0))) ∧ Aside0 (wc.heap[g3]? = some (.cells #[.slice (some ae) m.length cn] 24 (0, 0))) ∧ Aside0 (Kd.C k27 wc (some ae) (m.map padF).length (m.map padF)) ∧ Aside0 (wc.cell? ⟨((ad).add (x.toNat * 3)).block, ((ad).add (x.toNat * 3)).off + 2, none⟩ = some (.slice (some bd) f.f2.length c1)) ∧ Aside0 (wc.cell? ⟨((ae).add (x.toNat * 3)).block, ((ae).add (x.toNat * 3)).off + 2, none⟩ = some (.slice (some be) f.f2.length d1)) ∧ Aside0 (Kd.C k41 wc (some bd) f.f2.length f.f2) ∧ Aside0 (Kd.C k41 wc (some be) (f.f2.map (padB f)).length (f.f2.map (padB f))) ∧ Aside0 (wc.heap[g7]? = some (.cells #[.bool b.f0, .int .i64 b.f1.f0, .slice A4 b.f1.f1.length c4, .bool b.f1.f2, .bool b.f1.f3, .slice A5 b.f2.length c5, .int .i64 b.f3.f0, .int .i64 b.f3.f1, .int .i64 b.f3.f2, .int .i64 b.f3.f3, .slice A6 b.f3.f4.length c6, .int .i64 b.f3.f5, .int .i64 b.f3.f6, .int .i64 b.f3.f7] 41 (0, 0))) ∧ Aside0 (wc.heap[g8]? = some (.cells #[.bool b.f0, .int .i64 b.f1.f0, .slice B4 (trimP b.f1).f1.length e4, .bool b.f1.f2, .bool (trimP b.f1).f3, .slice (some bi) (b.f2.length + 1) e5, .int .i64 2, .int .i64 0, .int .i64 0, .int .i64 0, .slice B6 0 e6, .int .i64 b.f3.f5, .int .i64 0, .int .i64 0] 41 (0, 0))) ∧ Aside0 (Kd.C k49 wc A5 b.f2.length b.f2) ∧ Aside0 (Kd.C k49 wc (some bi) (b.f2 ++ [newI b]).length (b.f2 ++ [newI b])) ∧ Aside0 (Kd.C (Kd.int .i64) wc A6 b.f3.f4.length b.f3.f4) ∧ Aside0 (Kd.C (Kd.int .i64) wc B6 ([] : List Int).length ([] : List Int)) ∧ Aside0 (Kd.C (Kd.int .i64) wc A7 b.f3.f4.length b.f3.f4) ∧ Aside0 (wc.heap[g10]? = some (.cells #[.int .i64 11, .int .i64 b.f3.f2, .int .i64 0, .int .i64 0, .int .u16 0, .int .i64 b.f3.f3, .slice A7 b.f3.f4.length e7] 49 (0, 0))))
          case first => go_wp2; go_meet; exact ⟨_, rfl, ⟨below_alloc HB.out _⟩, ⟨blk_alloc X1.out _⟩, ⟨blk_alloc X3.out _⟩, ⟨Kd.C_alloc HCN.out _⟩, ⟨pw_cell_below (below_alloc (Below.refl _ _) _) Y2.out⟩, ⟨pw_cell_below (below_alloc (Below.refl _ _) _) Z2.out⟩, ⟨Kd.C_alloc C1.out _⟩, ⟨Kd.C_alloc D1.out _⟩, ⟨blk_alloc X7.out _⟩, ⟨blk_alloc X8.out _⟩, ⟨Kd.C_alloc C5.out _⟩, ⟨Kd.C_alloc D5.out _⟩, ⟨Kd.C_alloc C6.out _⟩, ⟨Kd.C_alloc D6.out _⟩, ⟨Kd.C_alloc C7.out _⟩, ⟨blk_new _ _⟩⟩
          case rest =>
           clear hn1 hn2 hn3 hd3 hw1 hw2 hq1 hq2
           clear t0_ t1_ t2_ t3_ t4_ t5_ t6_
           clear xe0 xe1 xe2 xe3 xe4 xe5 xe6 xe7 xe8 xe9 xe10 xe11 xe12 xe13 q_0 q_1 q_2 q_3 q_4 q_5 q_6 q_7 q_8 q_9 q_10 q_11 q_12 q_13
           clear HB X1 X3 HCN Y2 Z2 C1 D1 X7 X8 C5 D5 C6 D6 C7
           obtain ⟨g10, rfl, HB, X1, X3, HCN, Y2, Z2, C1, D1, X7, X8, C5, D5, C6, D6, C7, X10⟩ := hcut
           have xe0 := (blk_cell X7.out 0).trans rfl
           have xe1 := (blk_cell X7.out 1).trans rfl
           have xe2 := (blk_cell X7.out 2).trans rfl
           have xe3 := (blk_cell X7.out 3).trans rfl
           have xe4 := (blk_cell X7.out 4).trans rfl
           have xe5 := (blk_cell X7.out 5).trans rfl
           have xe6 := (blk_cell X7.out 6).trans rfl
           have xe7 := (blk_cell X7.out 7).trans rfl
           have xe8 := (blk_cell X7.out 8).trans rfl
           have xe9 := (blk_cell X7.out 9).trans rfl
           have xe10 := (blk_cell X7.out 10).trans rfl
           have xe11 := (blk_cell X7.out 11).trans rfl
           have xe12 := (blk_cell X7.out 12).trans rfl
           have xe13 := (blk_cell X7.out 13).trans rfl
           have q_0 := (blk_cell X8.out 0).trans rfl
           have q_1 := (blk_cell X8.out 1).trans rfl
           have q_2 := (blk_cell X8.out 2).trans rfl
           have q_3 := (blk_cell X8.out 3).trans rfl
           have q_4 := (blk_cell X8.out 4).trans rfl
           have q_5 := (blk_cell X8.out 5).trans rfl
           have q_6 := (blk_cell X8.out 6).trans rfl
           have q_7 := (blk_cell X8.out 7).trans rfl
           have q_8 := (blk_cell X8.out 8).trans rfl
           have q_9 := (blk_cell X8.out 9).trans rfl
           have q_10 := (blk_cell X8.out 10).trans rfl
           have q_11 := (blk_cell X8.out 11).trans rfl
           have q_12 := (blk_cell X8.out 12).trans rfl
           have q_13 := (blk_cell X8.out 13).trans rfl
           have s0 := (blk_cell X10.out 0).trans rfl
           have s1 := (blk_cell X10.out 1).trans rfl
           have s2 := (blk_cell X10.out 2).trans rfl
           have s3 := (blk_cell X10.out 3).trans rfl
           have s4 := (blk_cell X10.out 4).trans rfl
           have s5 := (blk_cell X10.out 5).trans rfl
           have s6 := (blk_cell X10.out 6).trans rfl
           have hb4 : (b.f3.f0 != 4) = false := by rw [H4.out]; rfl
           go_wp2_with (go_at_call 22; go_loud ((with_reducible refine (ints_c A7 e7 b.f3.f4 A6 c6 b.f3.f4 _ C7.out C6.out hNE.out).mono ?_); rintro e w8 ⟨he, hb⟩; rw [beq_self_eq_true] at he; subst he; clear xe0 xe1 xe2 xe3 xe4 xe5 xe6 xe7 xe8 xe9 xe10 xe11 xe12 xe13 q_0 q_1 q_2 q_3 q_4 q_5 q_6 q_7 q_8 q_9 q_10 q_11 q_12 q_13 s0 s1 s2 s3 s4 s5 s6; have n0_ := Aside0.mk (below_step HB.out hb); have n1_ := Aside0.mk (blk_below X1.out hb); have n2_ := Aside0.mk (blk_below X3.out hb); have n3_ := Aside0.mk (Kd.C_below HCN.out hb); have n4_ := Aside0.mk (pw_cell_below hb Y2.out); have n5_ := Aside0.mk (pw_cell_below hb Z2.out); have n6_ := Aside0.mk (Kd.C_below C1.out hb); have n7_ := Aside0.mk (Kd.C_below D1.out hb); have n8_ := Aside0.mk (blk_below X7.out hb); have n9_ := Aside0.mk (blk_below X8.out hb); have n10_ := Aside0.mk (Kd.C_below C5.out hb); have n11_ := Aside0.mk (Kd.C_below D5.out hb); have n12_ := Aside0.mk (Kd.C_below C6.out hb); have n13_ := Aside0.mk (Kd.C_below D6.out hb); have n14_ := Aside0.mk (Kd.C_below C7.out hb); have n15_ := Aside0.mk (blk_below X10.out hb); clear HB X1 X3 HCN Y2 Z2 C1 D1 X7 X8 C5 D5 C6 D6 C7 X10; have HB := n0_; have X1 := n1_; have X3 := n2_; have HCN := n3_; have Y2 := n4_; have Z2 := n5_; have C1 := n6_; have D1 := n7_; have X7 := n8_; have X8 := n9_; have C5 := n10_; have D5 := n11_; have C6 := n12_; have D6 := n13_; have C7 := n14_; have X10 := n15_; clear n0_ n1_ n2_ n3_ n4_ n5_ n6_ n7_ n8_ n9_ n10_ n11_ n12_ n13_ n14_ n15_; clear hb; have xe0 := (blk_cell X7.out 0).trans rfl; have xe1 := (blk_cell X7.out 1).trans rfl; have xe2 := (blk_cell X7.out 2).trans rfl; have xe3 := (blk_cell X7.out 3).trans rfl; have xe4 := (blk_cell X7.out 4).trans rfl; have xe5 := (blk_cell X7.out 5).trans rfl; have xe6 := (blk_cell X7.out 6).trans rfl; have xe7 := (blk_cell X7.out 7).trans rfl; have xe8 := (blk_cell X7.out 8).trans rfl; have xe9 := (blk_cell X7.out 9).trans rfl; have xe10 := (blk_cell X7.out 10).trans rfl; have xe11 := (blk_cell X7.out 11).trans rfl; have xe12 := (blk_cell X7.out 12).trans rfl; have xe13 := (blk_cell X7.out 13).trans rfl; have q_0 := (blk_cell X8.out 0).trans rfl; have q_1 := (blk_cell X8.out 1).trans rfl; have q_2 := (blk_cell X8.out 2).trans rfl; have q_3 := (blk_cell X8.out 3).trans rfl; have q_4 := (blk_cell X8.out 4).trans rfl; have q_5 := (blk_cell X8.out 5).trans rfl; have q_6 := (blk_cell X8.out 6).trans rfl; have q_7 := (blk_cell X8.out 7).trans rfl; have q_8 := (blk_cell X8.out 8).trans rfl; have q_9 := (blk_cell X8.out 9).trans rfl; have q_10 := (blk_cell X8.out 10).trans rfl; have q_11 := (blk_cell X8.out 11).trans rfl; have q_12 := (blk_cell X8.out 12).trans rfl; have q_13 := (blk_cell X8.out 13).trans rfl; have s0 := (blk_cell X10.out 0).trans rfl; have s1 := (blk_cell X10.out 1).trans rfl; have s2 := (blk_cell X10.out 2).trans rfl; have s3 := (blk_cell X10.out 3).trans rfl; have s4 := (blk_cell X10.out 4).trans rfl; have s5 := (blk_cell X10.out 5).trans rfl; have s6 := (blk_cell X10.out 6).trans rfl))
           have W1 := Aside0.mk (show wrap64 (y + 1) = y + 1 from wrap_in _ (by have := HY.out; omega) (by have := HLY.out; have := HN.out.nb f HMF.out; omega))
           go_roundg ((f.f2.length : Int) - (y + 1)).toNat
           case measure => have h1_ := HY.out; have h2_ := HLY.out; omega
           case rel => exact ⟨y + 1, by first | (rw [W1.out]; done) | rfl | (simp only [W1.out]; done), ⟨by have := HY.out; have := HLY.out; omega⟩, HB, X1, X3, HCN, Y2, Z2, C1, D1⟩
         have hd3 : decide (z < (b.f2.length : Int)) = true := decide_eq_true hlt
         have HLZ := Aside0.mk hlt
         clear hlt
         have p5 : (0 ≤ z) = True := eq_true HZZ.out.1
         have p6 : (z < (b.f2.length : Int)) = True := eq_true HLZ.out
         have p7 : (z < (b.f2.length : Int) + 1) = True := eq_true (by have := HLZ.out; omega)
         obtain ⟨ai, A7, c7, x1, y0, y1, y2, y3, y4, y5, y6, hl7, hC7⟩ := at_T49 C5.out z HZZ.out.1 HLZ.out
         subst x1
         obtain ⟨bi, B7, e7, x1, z0, z1, z2, z3, z4, z5, z6, hm7, hD7⟩ := at_T49 D5.out z HZZ.out.1 (by simp; have := HLZ.out; omega)
         subst x1
         rw [app_rdI b.f2 (newI b) z HZZ.out.1 HLZ.out] at z0 z1 z2 z3 z4 z5 z6 hD7
         have HMI := Aside0.mk (show rd_T49 b.f2 z ∈ b.f2 from rd_mem' b.f2 z49 z HZZ.out.1 HLZ.out)
         generalize rd_T49 b.f2 z = i1 at *
         have C7 := Aside0.mk hC7
         have D7 := Aside0.mk hD7
         have HNI := Aside0.mk (show i1.f6.length ≤ 1000000 by have := hNA.out i1 HMI.out; omega)
         clear hC7 hD7 hl7 hm7
         go_wp2
         go_still_tail 10, (by kernel_rfl)
         have n0_ := Aside0.mk (below_drew HB.out)
         have n1_ := Aside0.mk (blk_drew X1.out)
         have n2_ := Aside0.mk (blk_drew X3.out)
         have n3_ := Aside0.mk (Kd.C_drew HCN.out)
         have n4_ := Aside0.mk (Kd.C_drew C1.out)
         have n5_ := Aside0.mk (Kd.C_drew D1.out)
         have n6_ := Aside0.mk (blk_drew X7.out)
         have n7_ := Aside0.mk (blk_drew X8.out)
         have n8_ := Aside0.mk (Kd.C_drew C5.out)
         have n9_ := Aside0.mk (Kd.C_drew D5.out)
         have n10_ := Aside0.mk (Kd.C_drew C6.out)
         have n11_ := Aside0.mk (Kd.C_drew D6.out)
         have n12_ := Aside0.mk (Kd.C_drew C7.out)
         have n13_ := Aside0.mk (Kd.C_drew D7.out)
         clear HB X1 X3 HCN C1 D1 X7 X8 C5 D5 C6 D6 C7 D7
         have HB := n0_
         have X1 := n1_
         have X3 := n2_
         have HCN := n3_
         have C1 := n4_
         have D1 := n5_
         have X7 := n6_
         have X8 := n7_
         have C5 := n8_
         have D5 := n9_
         have C6 := n10_
         have D6 := n11_
         have C7 := n12_
         have D7 := n13_
         clear n0_ n1_ n2_ n3_ n4_ n5_ n6_ n7_ n8_ n9_ n10_ n11_ n12_ n13_
         have m_ := Aside0.mk (show wr.drew.cell? ⟨((ad).add (x.toNat * 3)).block, ((ad).add (x.toNat * 3)).off + 2, none⟩ = _ from Y2.out); clear Y2; have Y2 := m_; clear m_
         have m_ := Aside0.mk (show wr.drew.cell? ⟨((ae).add (x.toNat * 3)).block, ((ae).add (x.toNat * 3)).off + 2, none⟩ = _ from Z2.out); clear Z2; have Z2 := m_; clear m_
         change wpList _ _ _ _ _ wr.drew
         generalize wr.drew = w2 at *
         go_wp2_with (go_at_call 50; go_loud ((with_reducible refine (rins_c i1 A7 c7 i1 B7 e7 _ C7.out D7.out HNI.out).mono ?_); rintro e w8 ⟨he, hb⟩; rw [insE_refl] at he; subst he; skip; have n0_ := Aside0.mk (below_step HB.out hb); have n1_ := Aside0.mk (blk_below X1.out hb); have n2_ := Aside0.mk (blk_below X3.out hb); have n3_ := Aside0.mk (Kd.C_below HCN.out hb); have n4_ := Aside0.mk (pw_cell_below hb Y2.out); have n5_ := Aside0.mk (pw_cell_below hb Z2.out); have n6_ := Aside0.mk (Kd.C_below C1.out hb); have n7_ := Aside0.mk (Kd.C_below D1.out hb); have n8_ := Aside0.mk (blk_below X7.out hb); have n9_ := Aside0.mk (blk_below X8.out hb); have n10_ := Aside0.mk (Kd.C_below C5.out hb); have n11_ := Aside0.mk (Kd.C_below D5.out hb); have n12_ := Aside0.mk (Kd.C_below C6.out hb); have n13_ := Aside0.mk (Kd.C_below D6.out hb); clear HB X1 X3 HCN Y2 Z2 C1 D1 X7 X8 C5 D5 C6 D6; have HB := n0_; have X1 := n1_; have X3 := n2_; have HCN := n3_; have Y2 := n4_; have Z2 := n5_; have C1 := n6_; have D1 := n7_; have X7 := n8_; have X8 := n9_; have C5 := n10_; have D5 := n11_; have C6 := n12_; have D6 := n13_; clear n0_ n1_ n2_ n3_ n4_ n5_ n6_ n7_ n8_ n9_ n10_ n11_ n12_ n13_; clear hb; ))
         have W1 := Aside0.mk (show wrap64 (z + 1) = z + 1 from wrap_in _ (by have := HZZ.out; omega) (by have := HLZ.out; have := hNI.out; omega))
         go_roundg ((b.f2.length : Int) - (z + 1)).toNat
         case measure => have h1_ := HZZ.out; have h2_ := HLZ.out; omega
         case rel => exact ⟨z + 1, by first | (rw [W1.out]; done) | rfl | (simp only [W1.out]; done), ⟨by have := HZZ.out; have := HLZ.out; omega⟩, HB, X1, X3, HCN, Y2, Z2, C1, D1, X7, X8, C5, D5, C6, D6⟩
end Go.Proofs.Ytbfialebaoeicaa.X
