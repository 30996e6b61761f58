/- Part 21 of the proof of the statement ShapeCopies: the words of the walks, the walks through the functions that it reaches, and the plain laws of what they compute. -/
import Derived.Test.YtbfialebaoeicaaMShapeCopies19
import Derived.RegionTactic
import Derived.ChangeAlike
import Derived.Deep.QuietTactic
import Derived.BigQuiet
import Derived.StillTailTactics
import Derived.Deep.MidRow
namespace Go.Proofs.Ytbfialebaoeicaa.X
open Go.RowKit Go.Proofs.YtbfialebaoeicaaW.PrintWords Go.Proofs.YtbfialebaoeicaaW.PrintLast Go.Proofs.YtbfialebaoeicaaW.PrintMore
set_option linter.all false
theorem blockE_no {a' b' : S41} (h : ((a'.f0 == b'.f0) && padE a'.f1 b'.f1 && endE a'.f3 b'.f3 && decide (a'.f2.length = b'.f2.length)) = false) : blockE a' b' = false := by
 unfold blockE
 by_cases hl : a'.f2.length = b'.f2.length
 ·rw [decide_eq_true hl, Bool.and_true] at h
  rw [Bool.and_right_comm, h]
  rfl
 ·rw [eqL_len insE a'.f2 b'.f2 hl, Bool.and_false]
  rfl
theorem blockE_yes {a' b' : S41} (h : ((a'.f0 == b'.f0) && padE a'.f1 b'.f1 && endE a'.f3 b'.f3 && decide (a'.f2.length = b'.f2.length)) = true) : blockE a' b' = eqL insE a'.f2 b'.f2 := by
 unfold blockE
 simp only [Bool.and_eq_true] at h
 rw [h.1.1.1, h.1.1.2, h.1.2, Bool.and_true, Bool.true_and, Bool.true_and]
theorem blockE_len {a' b' : S41} (h : ((a'.f0 == b'.f0) && padE a'.f1 b'.f1 && endE a'.f3 b'.f3 && decide (a'.f2.length = b'.f2.length)) = true) : a'.f2.length = b'.f2.length := by
 simp only [Bool.and_eq_true, decide_eq_true_eq] at h
 exact h.2
set_option maxHeartbeats 16000000 in
set_option maxRecDepth 100000 in
theorem rsf_c (a : S27) (A1 : Option Addr) (c1 : Nat) (b : S27) (B1 : Option Addr) (e1 : Nat) (w : World) (ha : Kd.C k41 w A1 a.f2.length a.f2) (hb : Kd.C k41 w B1 b.f2.length b.f2) (hn : BndF a) :
  Calls Try.prog 68 #[.agg #[.int .i64 a.f0, .int .i64 a.f1, .slice A1 a.f2.length c1], .agg #[.int .i64 b.f0, .int .i64 b.f1, .slice B1 b.f2.length e1]] w fun e w' => e = .returned (.bool (funcE a b)) ∧ Below w.heap.size w w' := by
 have HA := Aside0.mk ha
 have HBB := Aside0.mk hb
 have HN := Aside0.mk hn
 clear ha hb hn
 have hu27 := Try.underlying27
 have hu41 := Try.underlying41
 have hu35 := Try.underlying35
 have hu39 := Try.underlying39
 have hu49 := Try.underlying49
 cases q0 : (a.f0 == b.f0) with
 | false =>
  have r0 : (a.f0 != b.f0) = true := by rw [bne, q0]; rfl
  have HZ := Aside0.mk (show funcE a b = false by unfold funcE; rw [q0]; rfl)
  go_enter Try.func68, Try.ntmps68
  go_wp2_with (first | ((with_reducible refine gate_dst (N := 2) rfl ?_); refine box_event ?hg (N := 2) ?hd (cs := #[.int .i64 a.f0, .int .i64 a.f1, .slice A1 a.f2.length c1]) (t := 27) ?hr ?_; (case hd => rfl); (case hg => rfl); (case hr => first | (go_simp; done) | (go_simp; rfl)); intro g2 hg w2 hbox hb; have HB := Aside0.mk hb; have X2 := Aside0.mk hbox; clear hbox hb hg) | ((with_reducible refine gate_dst (N := 3) rfl ?_); refine box_event ?hg (N := 3) ?hd (cs := #[.int .i64 b.f0, .int .i64 b.f1, .slice B1 b.f2.length e1]) (t := 27) ?hr ?_; (case hd => rfl); (case hg => rfl); (case hr => first | (go_simp; done) | (go_simp; rfl)); intro g3 hg w3 hbox hb; replace HB := Aside0.mk (below_step HB.out hb); replace X2 := Aside0.mk (blk_below X2.out hb); have X3 := Aside0.mk hbox; clear hbox hb hg; obtain ⟨h0, h1, h2⟩ := cl3 X2.out; obtain ⟨k0, k1, k2⟩ := cl3 X3.out))
  go_ret
  exact ⟨ret_b HZ.out.symm, HB.out⟩
 | true =>
  have r0 : (a.f0 != b.f0) = false := by rw [bne, q0]; rfl
  cases q1 : (a.f1 == b.f1) with
  | false =>
   have r1 : (a.f1 != b.f1) = true := by rw [bne, q1]; rfl
   have HZ := Aside0.mk (show funcE a b = false by unfold funcE; rw [q1, Bool.and_false]; rfl)
   go_enter Try.func68, Try.ntmps68
   go_wp2_with (first | ((with_reducible refine gate_dst (N := 2) rfl ?_); refine box_event ?hg (N := 2) ?hd (cs := #[.int .i64 a.f0, .int .i64 a.f1, .slice A1 a.f2.length c1]) (t := 27) ?hr ?_; (case hd => rfl); (case hg => rfl); (case hr => first | (go_simp; done) | (go_simp; rfl)); intro g2 hg w2 hbox hb; have HB := Aside0.mk hb; have X2 := Aside0.mk hbox; clear hbox hb hg) | ((with_reducible refine gate_dst (N := 3) rfl ?_); refine box_event ?hg (N := 3) ?hd (cs := #[.int .i64 b.f0, .int .i64 b.f1, .slice B1 b.f2.length e1]) (t := 27) ?hr ?_; (case hd => rfl); (case hg => rfl); (case hr => first | (go_simp; done) | (go_simp; rfl)); intro g3 hg w3 hbox hb; replace HB := Aside0.mk (below_step HB.out hb); replace X2 := Aside0.mk (blk_below X2.out hb); have X3 := Aside0.mk hbox; clear hbox hb hg; obtain ⟨h0, h1, h2⟩ := cl3 X2.out; obtain ⟨k0, k1, k2⟩ := cl3 X3.out))
   go_ret
   exact ⟨ret_b HZ.out.symm, HB.out⟩
  | true =>
   have r1 : (a.f1 != b.f1) = false := by rw [bne, q1]; rfl
   by_cases hln : a.f2.length = b.f2.length
   rotate_left
   ·have r2 : ((a.f2.length : Int) != (b.f2.length : Int)) = true := bne_iff_ne.2 (by omega)
    have HZ := Aside0.mk (show funcE a b = false by unfold funcE; rw [eqL_len blockE a.f2 b.f2 hln, Bool.and_false])
    go_enter Try.func68, Try.ntmps68
    go_wp2_with (first | ((with_reducible refine gate_dst (N := 2) rfl ?_); refine box_event ?hg (N := 2) ?hd (cs := #[.int .i64 a.f0, .int .i64 a.f1, .slice A1 a.f2.length c1]) (t := 27) ?hr ?_; (case hd => rfl); (case hg => rfl); (case hr => first | (go_simp; done) | (go_simp; rfl)); intro g2 hg w2 hbox hb; have HB := Aside0.mk hb; have X2 := Aside0.mk hbox; clear hbox hb hg) | ((with_reducible refine gate_dst (N := 3) rfl ?_); refine box_event ?hg (N := 3) ?hd (cs := #[.int .i64 b.f0, .int .i64 b.f1, .slice B1 b.f2.length e1]) (t := 27) ?hr ?_; (case hd => rfl); (case hg => rfl); (case hr => first | (go_simp; done) | (go_simp; rfl)); intro g3 hg w3 hbox hb; replace HB := Aside0.mk (below_step HB.out hb); replace X2 := Aside0.mk (blk_below X2.out hb); have X3 := Aside0.mk hbox; clear hbox hb hg; obtain ⟨h0, h1, h2⟩ := cl3 X2.out; obtain ⟨k0, k1, k2⟩ := cl3 X3.out))
    go_ret
    exact ⟨ret_b HZ.out.symm, HB.out⟩
   have r2 : ((a.f2.length : Int) != (b.f2.length : Int)) = false := bne_eq_false_iff_eq.2 (by omega)
   have HLN := Aside0.mk hln
   have HV := Aside0.mk (show funcE a b = eqL blockE a.f2 b.f2 by unfold funcE; rw [q0, q1, Bool.true_and, Bool.true_and])
   clear q0 q1 hln
   go_enter Try.func68, Try.ntmps68
   go_wp2_with (first | ((with_reducible refine gate_dst (N := 2) rfl ?_); refine box_event ?hg (N := 2) ?hd (cs := #[.int .i64 a.f0, .int .i64 a.f1, .slice A1 a.f2.length c1]) (t := 27) ?hr ?_; (case hd => rfl); (case hg => rfl); (case hr => first | (go_simp; done) | (go_simp; rfl)); intro g2 hg w2 hbox hb; have HB := Aside0.mk hb; have X2 := Aside0.mk hbox; clear hbox hb hg) | ((with_reducible refine gate_dst (N := 3) rfl ?_); refine box_event ?hg (N := 3) ?hd (cs := #[.int .i64 b.f0, .int .i64 b.f1, .slice B1 b.f2.length e1]) (t := 27) ?hr ?_; (case hd => rfl); (case hg => rfl); (case hr => first | (go_simp; done) | (go_simp; rfl)); intro g3 hg w3 hbox hb; replace HB := Aside0.mk (below_step HB.out hb); replace X2 := Aside0.mk (blk_below X2.out hb); have X3 := Aside0.mk hbox; clear hbox hb hg; obtain ⟨h0, h1, h2⟩ := cl3 X2.out; obtain ⟨k0, k1, k2⟩ := cl3 X3.out))
   clear h0 h1 h2 k0 k1 k2
   clear r0 r1 r2
   go_loopg [5] 1000000 (fun gg s wr => ∃ x : Int, s = .int .i64 x ∧ Aside0 (0 ≤ x ∧ x ≤ a.f2.length ∧ (a.f2.length : Int) - x ≤ gg) ∧ Aside0 (eqL blockE (a.f2.drop x.toNat) (b.f2.drop x.toNat) = eqL blockE a.f2 b.f2) ∧ Aside0 (Below w.heap.size w wr) ∧ Aside0 (wr.heap[g2]? = some (.cells #[.int .i64 a.f0, .int .i64 a.f1, .slice A1 a.f2.length c1] 27 (0, 0))) ∧ Aside0 (wr.heap[g3]? = some (.cells #[.int .i64 b.f0, .int .i64 b.f1, .slice B1 b.f2.length e1] 27 (0, 0))))
   case atStart => exact ⟨0, rfl, ⟨by have := HN.out.nb; omega⟩, ⟨rfl⟩, HB, X2, X3⟩
   case round =>
    clear HB X2 X3
    obtain ⟨x, rfl, HX, HE, HB, X2, X3⟩ := hrel
    obtain ⟨h0, h1, h2⟩ := cl3 X2.out
    obtain ⟨k0, k1, k2⟩ := cl3 X3.out
    by_cases hlt : x < (a.f2.length : Int)
    rotate_left
    ·have hd : decide (x < (a.f2.length : Int)) = false := decide_eq_false hlt
     have HZ := Aside0.mk (show funcE a b = true from HV.out.trans (HE.out.symm.trans (eqL_end blockE a.f2 b.f2 x hlt HLN.out)))
     clear hlt
     go_wp2
     go_ret
     exact ⟨ret_b HZ.out.symm, HB.out⟩
    have hd : decide (x < (a.f2.length : Int)) = true := decide_eq_true hlt
    have HLT := Aside0.mk hlt
    have HLT2 := Aside0.mk (show x < (b.f2.length : Int) by have := HLN.out; omega)
    clear hlt
    have p1 : (0 ≤ x) = True := eq_true HX.out.1
    have p2 : (x < (a.f2.length : Int)) = True := eq_true HLT.out
    have p3 : (x < (b.f2.length : Int)) = True := eq_true HLT2.out
    obtain ⟨ad, A4, c4, A5, c5, A6, c6, x1, y0, y1, y2, y3, y4, y5, y6, y7, y8, y9, y10, y11, y12, y13, hl4, hC4, hl5, hC5, hl6, hC6⟩ := at_T41 (Kd.C_below HA.out HB.out) x HX.out.1 HLT.out
    subst x1
    obtain ⟨ad', B4, e4, B5, e5, B6, e6, x1, z0, z1, z2, z3, z4, z5, z6, z7, z8, z9, z10, z11, z12, z13, hm4, hD4, hm5, hD5, hm6, hD6⟩ := at_T41 (Kd.C_below HBB.out HB.out) x HX.out.1 HLT2.out
    subst x1
    have HMA := Aside0.mk (show rd_T41 a.f2 x ∈ a.f2 from rd_mem' a.f2 z41 x HX.out.1 HLT.out)
    skip
    go_upto_region 6 with (fail)
    generalize hga : rd_T41 a.f2 x = a' at *
    generalize hgb : rd_T41 b.f2 x = b' at *
    go_cut [6, 7, 5] from 30 to 95 (fun v6 v7 v5 wc => ∃ g6 g7 : Nat, v6 = .pointer (some ⟨g6, 0, none⟩) ∧ v7 = .pointer (some ⟨g7, 0, none⟩) ∧ v5 = .int .i64 x ∧ Aside0 (Below w.heap.size w wc) ∧ Aside0 (wc.heap[g2]? = some (.cells #[.int .i64 a.f0, .int .i64 a.f1, .slice (some ad) a.f2.length c1] 27 (0, 0))) ∧ Aside0 (wc.heap[g3]? = some (.cells #[.int .i64 b.f0, .int .i64 b.f1, .slice (some ad') b.f2.length e1] 27 (0, 0))) ∧ Aside0 (Below wr.heap.size wr wc) ∧ Aside0 (wc.heap[g6]? = some (.cells #[.bool a'.f0, .int .i64 a'.f1.f0, .slice A4 a'.f1.f1.length c4, .bool a'.f1.f2, .bool a'.f1.f3, .slice A5 a'.f2.length c5, .int .i64 a'.f3.f0, .int .i64 a'.f3.f1, .int .i64 a'.f3.f2, .int .i64 a'.f3.f3, .slice A6 a'.f3.f4.length c6, .int .i64 a'.f3.f5, .int .i64 a'.f3.f6, .int .i64 a'.f3.f7] 41 (0, 0))) ∧ Aside0 (wc.heap[g7]? = some (.cells #[.bool b'.f0, .int .i64 b'.f1.f0, .slice B4 b'.f1.f1.length e4, .bool b'.f1.f2, .bool b'.f1.f3, .slice B5 b'.f2.length e5, .int .i64 b'.f3.f0, .int .i64 b'.f3.f1, .int .i64 b'.f3.f2, .int .i64 b'.f3.f3, .slice B6 b'.f3.f4.length e6, .int .i64 b'.f3.f5, .int .i64 b'.f3.f6, .int .i64 b'.f3.f7] 41 (0, 0))))
    case first =>
     go_wp2
     refine start_ (S := (fun W : World => Below wr.heap.size wr W)) (ds := []) #[bF,bF,bF,bF,bF,bF,bF,bF,bF,bF,bF,bF,bF,bF] (by kernel_rfl) (by rfl) (by rfl) (below_drew (Below.refl _ _)) (fun hS => ?_)
     refine take_ (i := 0) (N := some 37) (v := .pointer (some ⟨g2, 2, none⟩)) (a' := ?axr1) #[bT,bF,bF,bF,bF,bF,bF,bF,bF,bF,bF,bF,bF,bF] rfl rfl (by kernel_rfl) (fun _ _ _ h => h) (Or.inl ⟨by rfl, ?yyr1⟩) hS ?har1 ?hhr1
     case yyr1 => intro W hW; have p2_ := (blk_cell (blk_below X2.out hW) 2).trans rfl; have p3_ := (blk_cell (blk_below X3.out hW) 2).trans rfl; have py0 := pw_cell_below hW y0; have py1 := pw_cell_below hW y1; have py2 := pw_cell_below hW y2; have py3 := pw_cell_below hW y3; have py4 := pw_cell_below hW y4; have py5 := pw_cell_below hW y5; have py6 := pw_cell_below hW y6; have py7 := pw_cell_below hW y7; have py8 := pw_cell_below hW y8; have py9 := pw_cell_below hW y9; have py10 := pw_cell_below hW y10; have py11 := pw_cell_below hW y11; have py12 := pw_cell_below hW y12; have py13 := pw_cell_below hW y13; have pz0 := pw_cell_below hW z0; have pz1 := pw_cell_below hW z1; have pz2 := pw_cell_below hW z2; have pz3 := pw_cell_below hW z3; have pz4 := pw_cell_below hW z4; have pz5 := pw_cell_below hW z5; have pz6 := pw_cell_below hW z6; have pz7 := pw_cell_below hW z7; have pz8 := pw_cell_below hW z8; have pz9 := pw_cell_below hW z9; have pz10 := pw_cell_below hW z10; have pz11 := pw_cell_below hW z11; have pz12 := pw_cell_below hW z12; have pz13 := pw_cell_below hW z13; go_simp; done
     case har1 => try simp only [Act.put, sA_, sZ_, sS_]; exact rfl
     refine take_ (i := 1) (N := some 38) (v := .slice (some ad) a.f2.length c1) (a' := ?axr2) #[bT,bT,bF,bF,bF,bF,bF,bF,bF,bF,bF,bF,bF,bF] rfl rfl (by kernel_rfl) (fun _ _ _ h => h) (Or.inl ⟨by rfl, ?yyr2⟩) hS ?har2 ?hhr2
     case yyr2 => intro W hW; have p2_ := (blk_cell (blk_below X2.out hW) 2).trans rfl; have p3_ := (blk_cell (blk_below X3.out hW) 2).trans rfl; have py0 := pw_cell_below hW y0; have py1 := pw_cell_below hW y1; have py2 := pw_cell_below hW y2; have py3 := pw_cell_below hW y3; have py4 := pw_cell_below hW y4; have py5 := pw_cell_below hW y5; have py6 := pw_cell_below hW y6; have py7 := pw_cell_below hW y7; have py8 := pw_cell_below hW y8; have py9 := pw_cell_below hW y9; have py10 := pw_cell_below hW y10; have py11 := pw_cell_below hW y11; have py12 := pw_cell_below hW y12; have py13 := pw_cell_below hW y13; have pz0 := pw_cell_below hW z0; have pz1 := pw_cell_below hW z1; have pz2 := pw_cell_below hW z2; have pz3 := pw_cell_below hW z3; have pz4 := pw_cell_below hW z4; have pz5 := pw_cell_below hW z5; have pz6 := pw_cell_below hW z6; have pz7 := pw_cell_below hW z7; have pz8 := pw_cell_below hW z8; have pz9 := pw_cell_below hW z9; have pz10 := pw_cell_below hW z10; have pz11 := pw_cell_below hW z11; have pz12 := pw_cell_below hW z12; have pz13 := pw_cell_below hW z13; go_simp; done
     case har2 => try simp only [Act.put, sA_, sZ_, sS_]; exact rfl
     refine take_ (i := 2) (N := some 39) (v := .int .i64 x) (a' := ?axr3) #[bT,bT,bT,bF,bF,bF,bF,bF,bF,bF,bF,bF,bF,bF] rfl rfl (by kernel_rfl) (fun _ _ _ h => h) (Or.inl ⟨by rfl, ?yyr3⟩) hS ?har3 ?hhr3
     case yyr3 => intro W hW; have p2_ := (blk_cell (blk_below X2.out hW) 2).trans rfl; have p3_ := (blk_cell (blk_below X3.out hW) 2).trans rfl; have py0 := pw_cell_below hW y0; have py1 := pw_cell_below hW y1; have py2 := pw_cell_below hW y2; have py3 := pw_cell_below hW y3; have py4 := pw_cell_below hW y4; have py5 := pw_cell_below hW y5; have py6 := pw_cell_below hW y6; have py7 := pw_cell_below hW y7; have py8 := pw_cell_below hW y8; have py9 := pw_cell_below hW y9; have py10 := pw_cell_below hW y10; have py11 := pw_cell_below hW y11; have py12 := pw_cell_below hW y12; have py13 := pw_cell_below hW y13; have pz0 := pw_cell_below hW z0; have pz1 := pw_cell_below hW z1; have pz2 := pw_cell_below hW z2; have pz3 := pw_cell_below hW z3; have pz4 := pw_cell_below hW z4; have pz5 := pw_cell_below hW z5; have pz6 := pw_cell_below hW z6; have pz7 := pw_cell_below hW z7; have pz8 := pw_cell_below hW z8; have pz9 := pw_cell_below hW z9; have pz10 := pw_cell_below hW z10; have pz11 := pw_cell_below hW z11; have pz12 := pw_cell_below hW z12; have pz13 := pw_cell_below hW z13; go_simp; done
     case har3 => try simp only [Act.put, sA_, sZ_, sS_]; exact rfl
     refine take_ (i := 3) (N := some 40) (v := .pointer (some (ad.add (x.toNat * 14)))) (a' := ?axr4) #[bT,bT,bT,bT,bF,bF,bF,bF,bF,bF,bF,bF,bF,bF] rfl rfl (by kernel_rfl) (fun _ _ _ h => h) (Or.inl ⟨by rfl, ?yyr4⟩) hS ?har4 ?hhr4
     case yyr4 => intro W hW; have p2_ := (blk_cell (blk_below X2.out hW) 2).trans rfl; have p3_ := (blk_cell (blk_below X3.out hW) 2).trans rfl; have py0 := pw_cell_below hW y0; have py1 := pw_cell_below hW y1; have py2 := pw_cell_below hW y2; have py3 := pw_cell_below hW y3; have py4 := pw_cell_below hW y4; have py5 := pw_cell_below hW y5; have py6 := pw_cell_below hW y6; have py7 := pw_cell_below hW y7; have py8 := pw_cell_below hW y8; have py9 := pw_cell_below hW y9; have py10 := pw_cell_below hW y10; have py11 := pw_cell_below hW y11; have py12 := pw_cell_below hW y12; have py13 := pw_cell_below hW y13; have pz0 := pw_cell_below hW z0; have pz1 := pw_cell_below hW z1; have pz2 := pw_cell_below hW z2; have pz3 := pw_cell_below hW z3; have pz4 := pw_cell_below hW z4; have pz5 := pw_cell_below hW z5; have pz6 := pw_cell_below hW z6; have pz7 := pw_cell_below hW z7; have pz8 := pw_cell_below hW z8; have pz9 := pw_cell_below hW z9; have pz10 := pw_cell_below hW z10; have pz11 := pw_cell_below hW z11; have pz12 := pw_cell_below hW z12; have pz13 := pw_cell_below hW z13; go_simp; done
     case har4 => try simp only [Act.put, sA_, sZ_, sS_]; exact rfl
     refine take_ (i := 4) (N := some 41) (v := .agg #[.bool a'.f0, .int .i64 a'.f1.f0, .slice A4 a'.f1.f1.length c4, .bool a'.f1.f2, .bool a'.f1.f3, .slice A5 a'.f2.length c5, .int .i64 a'.f3.f0, .int .i64 a'.f3.f1, .int .i64 a'.f3.f2, .int .i64 a'.f3.f3, .slice A6 a'.f3.f4.length c6, .int .i64 a'.f3.f5, .int .i64 a'.f3.f6, .int .i64 a'.f3.f7]) (a' := ?axr5) #[bT,bT,bT,bT,bT,bF,bF,bF,bF,bF,bF,bF,bF,bF] rfl rfl (by kernel_rfl) (fun _ _ _ h => h) (Or.inl ⟨by rfl, ?yyr5⟩) hS ?har5 ?hhr5
     case yyr5 => intro W hW; have p2_ := (blk_cell (blk_below X2.out hW) 2).trans rfl; have p3_ := (blk_cell (blk_below X3.out hW) 2).trans rfl; have py0 := pw_cell_below hW y0; have py1 := pw_cell_below hW y1; have py2 := pw_cell_below hW y2; have py3 := pw_cell_below hW y3; have py4 := pw_cell_below hW y4; have py5 := pw_cell_below hW y5; have py6 := pw_cell_below hW y6; have py7 := pw_cell_below hW y7; have py8 := pw_cell_below hW y8; have py9 := pw_cell_below hW y9; have py10 := pw_cell_below hW y10; have py11 := pw_cell_below hW y11; have py12 := pw_cell_below hW y12; have py13 := pw_cell_below hW y13; have pz0 := pw_cell_below hW z0; have pz1 := pw_cell_below hW z1; have pz2 := pw_cell_below hW z2; have pz3 := pw_cell_below hW z3; have pz4 := pw_cell_below hW z4; have pz5 := pw_cell_below hW z5; have pz6 := pw_cell_below hW z6; have pz7 := pw_cell_below hW z7; have pz8 := pw_cell_below hW z8; have pz9 := pw_cell_below hW z9; have pz10 := pw_cell_below hW z10; have pz11 := pw_cell_below hW z11; have pz12 := pw_cell_below hW z12; have pz13 := pw_cell_below hW z13; go_simp; done
     case har5 => try simp only [Act.put, sA_, sZ_, sS_]; exact rfl
     refine take_ (i := 5) (N := some 42) (v := .pointer (some ⟨g3, 2, none⟩)) (a' := ?axr6) #[bT,bT,bT,bT,bT,bT,bF,bF,bF,bF,bF,bF,bF,bF] rfl rfl (by kernel_rfl) (fun _ _ _ h => h) (Or.inl ⟨by rfl, ?yyr6⟩) hS ?har6 ?hhr6
     case yyr6 => intro W hW; have p2_ := (blk_cell (blk_below X2.out hW) 2).trans rfl; have p3_ := (blk_cell (blk_below X3.out hW) 2).trans rfl; have py0 := pw_cell_below hW y0; have py1 := pw_cell_below hW y1; have py2 := pw_cell_below hW y2; have py3 := pw_cell_below hW y3; have py4 := pw_cell_below hW y4; have py5 := pw_cell_below hW y5; have py6 := pw_cell_below hW y6; have py7 := pw_cell_below hW y7; have py8 := pw_cell_below hW y8; have py9 := pw_cell_below hW y9; have py10 := pw_cell_below hW y10; have py11 := pw_cell_below hW y11; have py12 := pw_cell_below hW y12; have py13 := pw_cell_below hW y13; have pz0 := pw_cell_below hW z0; have pz1 := pw_cell_below hW z1; have pz2 := pw_cell_below hW z2; have pz3 := pw_cell_below hW z3; have pz4 := pw_cell_below hW z4; have pz5 := pw_cell_below hW z5; have pz6 := pw_cell_below hW z6; have pz7 := pw_cell_below hW z7; have pz8 := pw_cell_below hW z8; have pz9 := pw_cell_below hW z9; have pz10 := pw_cell_below hW z10; have pz11 := pw_cell_below hW z11; have pz12 := pw_cell_below hW z12; have pz13 := pw_cell_below hW z13; go_simp; done
     case har6 => try simp only [Act.put, sA_, sZ_, sS_]; exact rfl
     refine take_ (i := 6) (N := some 43) (v := .slice (some ad') b.f2.length e1) (a' := ?axr7) #[bT,bT,bT,bT,bT,bT,bT,bF,bF,bF,bF,bF,bF,bF] rfl rfl (by kernel_rfl) (fun _ _ _ h => h) (Or.inl ⟨by rfl, ?yyr7⟩) hS ?har7 ?hhr7
     case yyr7 => intro W hW; have p2_ := (blk_cell (blk_below X2.out hW) 2).trans rfl; have p3_ := (blk_cell (blk_below X3.out hW) 2).trans rfl; have py0 := pw_cell_below hW y0; have py1 := pw_cell_below hW y1; have py2 := pw_cell_below hW y2; have py3 := pw_cell_below hW y3; have py4 := pw_cell_below hW y4; have py5 := pw_cell_below hW y5; have py6 := pw_cell_below hW y6; have py7 := pw_cell_below hW y7; have py8 := pw_cell_below hW y8; have py9 := pw_cell_below hW y9; have py10 := pw_cell_below hW y10; have py11 := pw_cell_below hW y11; have py12 := pw_cell_below hW y12; have py13 := pw_cell_below hW y13; have pz0 := pw_cell_below hW z0; have pz1 := pw_cell_below hW z1; have pz2 := pw_cell_below hW z2; have pz3 := pw_cell_below hW z3; have pz4 := pw_cell_below hW z4; have pz5 := pw_cell_below hW z5; have pz6 := pw_cell_below hW z6; have pz7 := pw_cell_below hW z7; have pz8 := pw_cell_below hW z8; have pz9 := pw_cell_below hW z9; have pz10 := pw_cell_below hW z10; have pz11 := pw_cell_below hW z11; have pz12 := pw_cell_below hW z12; have pz13 := pw_cell_below hW z13; go_simp; done
     case har7 => try simp only [Act.put, sA_, sZ_, sS_]; exact rfl
     refine take_ (i := 7) (N := some 44) (v := .int .i64 x) (a' := ?axr8) #[bT,bT,bT,bT,bT,bT,bT,bT,bF,bF,bF,bF,bF,bF] rfl rfl (by kernel_rfl) (fun _ _ _ h => h) (Or.inl ⟨by rfl, ?yyr8⟩) hS ?har8 ?hhr8
     case yyr8 => intro W hW; have p2_ := (blk_cell (blk_below X2.out hW) 2).trans rfl; have p3_ := (blk_cell (blk_below X3.out hW) 2).trans rfl; have py0 := pw_cell_below hW y0; have py1 := pw_cell_below hW y1; have py2 := pw_cell_below hW y2; have py3 := pw_cell_below hW y3; have py4 := pw_cell_below hW y4; have py5 := pw_cell_below hW y5; have py6 := pw_cell_below hW y6; have py7 := pw_cell_below hW y7; have py8 := pw_cell_below hW y8; have py9 := pw_cell_below hW y9; have py10 := pw_cell_below hW y10; have py11 := pw_cell_below hW y11; have py12 := pw_cell_below hW y12; have py13 := pw_cell_below hW y13; have pz0 := pw_cell_below hW z0; have pz1 := pw_cell_below hW z1; have pz2 := pw_cell_below hW z2; have pz3 := pw_cell_below hW z3; have pz4 := pw_cell_below hW z4; have pz5 := pw_cell_below hW z5; have pz6 := pw_cell_below hW z6; have pz7 := pw_cell_below hW z7; have pz8 := pw_cell_below hW z8; have pz9 := pw_cell_below hW z9; have pz10 := pw_cell_below hW z10; have pz11 := pw_cell_below hW z11; have pz12 := pw_cell_below hW z12; have pz13 := pw_cell_below hW z13; go_simp; done
     case har8 => try simp only [Act.put, sA_, sZ_, sS_]; exact rfl
     refine take_ (i := 8) (N := some 45) (v := .pointer (some (ad'.add (x.toNat * 14)))) (a' := ?axr9) #[bT,bT,bT,bT,bT,bT,bT,bT,bT,bF,bF,bF,bF,bF] rfl rfl (by kernel_rfl) (fun _ _ _ h => h) (Or.inl ⟨by rfl, ?yyr9⟩) hS ?har9 ?hhr9
     case yyr9 => intro W hW; have p2_ := (blk_cell (blk_below X2.out hW) 2).trans rfl; have p3_ := (blk_cell (blk_below X3.out hW) 2).trans rfl; have py0 := pw_cell_below hW y0; have py1 := pw_cell_below hW y1; have py2 := pw_cell_below hW y2; have py3 := pw_cell_below hW y3; have py4 := pw_cell_below hW y4; have py5 := pw_cell_below hW y5; have py6 := pw_cell_below hW y6; have py7 := pw_cell_below hW y7; have py8 := pw_cell_below hW y8; have py9 := pw_cell_below hW y9; have py10 := pw_cell_below hW y10; have py11 := pw_cell_below hW y11; have py12 := pw_cell_below hW y12; have py13 := pw_cell_below hW y13; have pz0 := pw_cell_below hW z0; have pz1 := pw_cell_below hW z1; have pz2 := pw_cell_below hW z2; have pz3 := pw_cell_below hW z3; have pz4 := pw_cell_below hW z4; have pz5 := pw_cell_below hW z5; have pz6 := pw_cell_below hW z6; have pz7 := pw_cell_below hW z7; have pz8 := pw_cell_below hW z8; have pz9 := pw_cell_below hW z9; have pz10 := pw_cell_below hW z10; have pz11 := pw_cell_below hW z11; have pz12 := pw_cell_below hW z12; have pz13 := pw_cell_below hW z13; go_simp; done
     case har9 => try simp only [Act.put, sA_, sZ_, sS_]; exact rfl
     refine take_ (i := 9) (N := some 46) (v := .agg #[.bool b'.f0, .int .i64 b'.f1.f0, .slice B4 b'.f1.f1.length e4, .bool b'.f1.f2, .bool b'.f1.f3, .slice B5 b'.f2.length e5, .int .i64 b'.f3.f0, .int .i64 b'.f3.f1, .int .i64 b'.f3.f2, .int .i64 b'.f3.f3, .slice B6 b'.f3.f4.length e6, .int .i64 b'.f3.f5, .int .i64 b'.f3.f6, .int .i64 b'.f3.f7]) (a' := ?axr10) #[bT,bT,bT,bT,bT,bT,bT,bT,bT,bT,bF,bF,bF,bF] rfl rfl (by kernel_rfl) (fun _ _ _ h => h) (Or.inl ⟨by rfl, ?yyr10⟩) hS ?har10 ?hhr10
     case yyr10 => intro W hW; have p2_ := (blk_cell (blk_below X2.out hW) 2).trans rfl; have p3_ := (blk_cell (blk_below X3.out hW) 2).trans rfl; have py0 := pw_cell_below hW y0; have py1 := pw_cell_below hW y1; have py2 := pw_cell_below hW y2; have py3 := pw_cell_below hW y3; have py4 := pw_cell_below hW y4; have py5 := pw_cell_below hW y5; have py6 := pw_cell_below hW y6; have py7 := pw_cell_below hW y7; have py8 := pw_cell_below hW y8; have py9 := pw_cell_below hW y9; have py10 := pw_cell_below hW y10; have py11 := pw_cell_below hW y11; have py12 := pw_cell_below hW y12; have py13 := pw_cell_below hW y13; have pz0 := pw_cell_below hW z0; have pz1 := pw_cell_below hW z1; have pz2 := pw_cell_below hW z2; have pz3 := pw_cell_below hW z3; have pz4 := pw_cell_below hW z4; have pz5 := pw_cell_below hW z5; have pz6 := pw_cell_below hW z6; have pz7 := pw_cell_below hW z7; have pz8 := pw_cell_below hW z8; have pz9 := pw_cell_below hW z9; have pz10 := pw_cell_below hW z10; have pz11 := pw_cell_below hW z11; have pz12 := pw_cell_below hW z12; have pz13 := pw_cell_below hW z13; go_simp; done
     case har10 => try simp only [Act.put, sA_, sZ_, sS_]; exact rfl
     refine two_ (i := 10) (j := 11) (Ni := some 6) (Nj := some 7) #[bT,bT,bT,bT,bT,bT,bT,bT,bT,bT,bT,bF,bF,bF] #[bT,bT,bT,bT,bT,bT,bT,bT,bT,bT,bF,bT,bF,bF] rfl rfl rfl rfl (by kernel_rfl) (by decide) (by decide) (fun K hK => ?_) (fun K hK => ?_)
     ·skip
      refine value_ (w1 := ?_) (v := ?_) (by rfl) rfl ?_ ?_
      rotate_left 2
      ·go_simp
       constructor
       ·rfl
       ·rfl
      refine hK _ _ (below_alloc hS _) (fun hS => ?_)
      clear hK K
      try simp only [Act.put, sA_, sZ_, sS_]
      have HX0 := Aside0.mk (show (World.drew (World.alloc wr (.cells #[.bool false, .int .i64 0, .slice none 0 0, .bool false, .bool false, .slice none 0 0, .int .i64 0, .int .i64 0, .int .i64 0, .int .i64 0, .slice none 0 0, .int .i64 0, .int .i64 0, .int .i64 0] 41))).heap[wr.heap.size]? = some (.cells #[.bool false, .int .i64 0, .slice none 0 0, .bool false, .bool false, .slice none 0 0, .int .i64 0, .int .i64 0, .int .i64 0, .int .i64 0, .slice none 0 0, .int .i64 0, .int .i64 0, .int .i64 0] 41 (0, 0)) from blk_new _ _)
      have HNE0 := Aside0.mk (show wr.heap.size ≠ (wr.heap.size + 1) from by omega)
      refine one_ (i := 11) (N := some 7) #[bT,bT,bT,bT,bT,bT,bT,bT,bT,bT,bT,bT,bF,bF] rfl rfl (by kernel_rfl) (by decide) (fun K hK => ?_)
      refine value_ (w1 := ?_) (v := ?_) (by rfl) rfl ?_ ?_
      rotate_left 2
      ·go_simp
       constructor
       ·rfl
       ·rfl
      refine hK _ _ (below_alloc hS _) (fun hS => ?_)
      clear hK K
      try simp only [Act.put, sA_, sZ_, sS_]
      have HY1 := Aside0.mk (show (World.drew (World.alloc (World.alloc wr (.cells #[.bool false, .int .i64 0, .slice none 0 0, .bool false, .bool false, .slice none 0 0, .int .i64 0, .int .i64 0, .int .i64 0, .int .i64 0, .slice none 0 0, .int .i64 0, .int .i64 0, .int .i64 0] 41)) (.cells #[.bool false, .int .i64 0, .slice none 0 0, .bool false, .bool false, .slice none 0 0, .int .i64 0, .int .i64 0, .int .i64 0, .int .i64 0, .slice none 0 0, .int .i64 0, .int .i64 0, .int .i64 0] 41))).heap[(wr.heap.size + 1)]? = some (.cells #[.bool false, .int .i64 0, .slice none 0 0, .bool false, .bool false, .slice none 0 0, .int .i64 0, .int .i64 0, .int .i64 0, .int .i64 0, .slice none 0 0, .int .i64 0, .int .i64 0, .int .i64 0] 41 (0, 0)) from blk_new2 _ _ _)
      have HX1 := Aside0.mk (show (World.drew (World.alloc (World.alloc wr (.cells #[.bool false, .int .i64 0, .slice none 0 0, .bool false, .bool false, .slice none 0 0, .int .i64 0, .int .i64 0, .int .i64 0, .int .i64 0, .slice none 0 0, .int .i64 0, .int .i64 0, .int .i64 0] 41)) (.cells #[.bool false, .int .i64 0, .slice none 0 0, .bool false, .bool false, .slice none 0 0, .int .i64 0, .int .i64 0, .int .i64 0, .int .i64 0, .slice none 0 0, .int .i64 0, .int .i64 0, .int .i64 0] 41))).heap[wr.heap.size]? = some (.cells #[.bool false, .int .i64 0, .slice none 0 0, .bool false, .bool false, .slice none 0 0, .int .i64 0, .int .i64 0, .int .i64 0, .int .i64 0, .slice none 0 0, .int .i64 0, .int .i64 0, .int .i64 0] 41 (0, 0)) from blk_alloc HX0.out _)
      generalize (World.drew (World.alloc (World.alloc wr (.cells #[.bool false, .int .i64 0, .slice none 0 0, .bool false, .bool false, .slice none 0 0, .int .i64 0, .int .i64 0, .int .i64 0, .int .i64 0, .slice none 0 0, .int .i64 0, .int .i64 0, .int .i64 0] 41)) (.cells #[.bool false, .int .i64 0, .slice none 0 0, .bool false, .bool false, .slice none 0 0, .int .i64 0, .int .i64 0, .int .i64 0, .int .i64 0, .slice none 0 0, .int .i64 0, .int .i64 0, .int .i64 0] 41))) = W2_ at HX1 HY1 hS ⊢
      clear HX0
      refine one_ (i := 12) (N := none) #[bT,bT,bT,bT,bT,bT,bT,bT,bT,bT,bT,bT,bT,bF] rfl rfl (by kernel_rfl) (by decide) (fun K hK => ?_)
      rw [if_pos (by rfl)]
      refine wp_store_mid _ (.tmp 6) (.tmp 41) rfl (wr.heap.size) 0 #[.bool a'.f0, .int .i64 a'.f1.f0, .slice A4 a'.f1.f1.length c4, .bool a'.f1.f2, .bool a'.f1.f3, .slice A5 a'.f2.length c5, .int .i64 a'.f3.f0, .int .i64 a'.f3.f1, .int .i64 a'.f3.f2, .int .i64 a'.f3.f3, .slice A6 a'.f3.f4.length c6, .int .i64 a'.f3.f5, .int .i64 a'.f3.f6, .int .i64 a'.f3.f7] (by kernel_rfl) (by kernel_rfl) (there_blk HX1.out 0 14 (Nat.le_refl _)) (by kernel_rfl) (by kernel_rfl) ?_
      have hS' : Below wr.heap.size wr (World.setCells W2_ wr.heap.size 0 (#[.bool a'.f0, .int .i64 a'.f1.f0, .slice A4 a'.f1.f1.length c4, .bool a'.f1.f2, .bool a'.f1.f3, .slice A5 a'.f2.length c5, .int .i64 a'.f3.f0, .int .i64 a'.f3.f1, .int .i64 a'.f3.f2, .int .i64 a'.f3.f3, .slice A6 a'.f3.f4.length c6, .int .i64 a'.f3.f5, .int .i64 a'.f3.f6, .int .i64 a'.f3.f7] : Array Value).toList) := setL_below hS (by first | exact Nat.le_refl _ | exact Nat.le_succ _) _ _
      have HQ0 : Aside0 ((World.heap (World.setCells W2_ wr.heap.size 0 (#[.bool a'.f0, .int .i64 a'.f1.f0, .slice A4 a'.f1.f1.length c4, .bool a'.f1.f2, .bool a'.f1.f3, .slice A5 a'.f2.length c5, .int .i64 a'.f3.f0, .int .i64 a'.f3.f1, .int .i64 a'.f3.f2, .int .i64 a'.f3.f3, .slice A6 a'.f3.f4.length c6, .int .i64 a'.f3.f5, .int .i64 a'.f3.f6, .int .i64 a'.f3.f7] : Array Value).toList))[wr.heap.size]? = some (.cells #[.bool a'.f0, .int .i64 a'.f1.f0, .slice A4 a'.f1.f1.length c4, .bool a'.f1.f2, .bool a'.f1.f3, .slice A5 a'.f2.length c5, .int .i64 a'.f3.f0, .int .i64 a'.f3.f1, .int .i64 a'.f3.f2, .int .i64 a'.f3.f3, .slice A6 a'.f3.f4.length c6, .int .i64 a'.f3.f5, .int .i64 a'.f3.f6, .int .i64 a'.f3.f7] 41 (0, 0))) := ⟨setL_blk _ _ HX1.out (by kernel_rfl)⟩
      have HQ1 : Aside0 ((World.heap (World.setCells W2_ wr.heap.size 0 (#[.bool a'.f0, .int .i64 a'.f1.f0, .slice A4 a'.f1.f1.length c4, .bool a'.f1.f2, .bool a'.f1.f3, .slice A5 a'.f2.length c5, .int .i64 a'.f3.f0, .int .i64 a'.f3.f1, .int .i64 a'.f3.f2, .int .i64 a'.f3.f3, .slice A6 a'.f3.f4.length c6, .int .i64 a'.f3.f5, .int .i64 a'.f3.f6, .int .i64 a'.f3.f7] : Array Value).toList))[(wr.heap.size + 1)]? = some (.cells #[.bool false, .int .i64 0, .slice none 0 0, .bool false, .bool false, .slice none 0 0, .int .i64 0, .int .i64 0, .int .i64 0, .int .i64 0, .slice none 0 0, .int .i64 0, .int .i64 0, .int .i64 0] 41 (0, 0))) := ⟨setL_far HY1.out (Ne.symm HNE0.out) _ _⟩
      clear hS HX1 HY1
      generalize (World.setCells W2_ wr.heap.size 0 (#[.bool a'.f0, .int .i64 a'.f1.f0, .slice A4 a'.f1.f1.length c4, .bool a'.f1.f2, .bool a'.f1.f3, .slice A5 a'.f2.length c5, .int .i64 a'.f3.f0, .int .i64 a'.f3.f1, .int .i64 a'.f3.f2, .int .i64 a'.f3.f3, .slice A6 a'.f3.f4.length c6, .int .i64 a'.f3.f5, .int .i64 a'.f3.f6, .int .i64 a'.f3.f7] : Array Value).toList) = W3_ at hS' HQ0 HQ1 ⊢
      have HAo := HQ0
      have HBo := HQ1
      clear HQ0 HQ1
      refine hK _ _ hS' (fun hS => ?_)
      clear hK K hS'
      try simp only [Act.put, sA_, sZ_, sS_]
      refine one_ (i := 13) (N := none) #[bT,bT,bT,bT,bT,bT,bT,bT,bT,bT,bT,bT,bT,bT] rfl rfl (by kernel_rfl) (by decide) (fun K hK => ?_)
      rw [if_pos (by rfl)]
      refine wp_store_mid _ (.tmp 7) (.tmp 46) rfl ((wr.heap.size + 1)) 0 #[.bool b'.f0, .int .i64 b'.f1.f0, .slice B4 b'.f1.f1.length e4, .bool b'.f1.f2, .bool b'.f1.f3, .slice B5 b'.f2.length e5, .int .i64 b'.f3.f0, .int .i64 b'.f3.f1, .int .i64 b'.f3.f2, .int .i64 b'.f3.f3, .slice B6 b'.f3.f4.length e6, .int .i64 b'.f3.f5, .int .i64 b'.f3.f6, .int .i64 b'.f3.f7] (by kernel_rfl) (by kernel_rfl) (there_blk HBo.out 0 14 (Nat.le_refl _)) (by kernel_rfl) (by kernel_rfl) ?_
      have hS' : Below wr.heap.size wr (World.setCells W3_ (wr.heap.size + 1) 0 (#[.bool b'.f0, .int .i64 b'.f1.f0, .slice B4 b'.f1.f1.length e4, .bool b'.f1.f2, .bool b'.f1.f3, .slice B5 b'.f2.length e5, .int .i64 b'.f3.f0, .int .i64 b'.f3.f1, .int .i64 b'.f3.f2, .int .i64 b'.f3.f3, .slice B6 b'.f3.f4.length e6, .int .i64 b'.f3.f5, .int .i64 b'.f3.f6, .int .i64 b'.f3.f7] : Array Value).toList) := setL_below hS (by first | exact Nat.le_refl _ | exact Nat.le_succ _) _ _
      have HQ0 : Aside0 ((World.heap (World.setCells W3_ (wr.heap.size + 1) 0 (#[.bool b'.f0, .int .i64 b'.f1.f0, .slice B4 b'.f1.f1.length e4, .bool b'.f1.f2, .bool b'.f1.f3, .slice B5 b'.f2.length e5, .int .i64 b'.f3.f0, .int .i64 b'.f3.f1, .int .i64 b'.f3.f2, .int .i64 b'.f3.f3, .slice B6 b'.f3.f4.length e6, .int .i64 b'.f3.f5, .int .i64 b'.f3.f6, .int .i64 b'.f3.f7] : Array Value).toList))[(wr.heap.size + 1)]? = some (.cells #[.bool b'.f0, .int .i64 b'.f1.f0, .slice B4 b'.f1.f1.length e4, .bool b'.f1.f2, .bool b'.f1.f3, .slice B5 b'.f2.length e5, .int .i64 b'.f3.f0, .int .i64 b'.f3.f1, .int .i64 b'.f3.f2, .int .i64 b'.f3.f3, .slice B6 b'.f3.f4.length e6, .int .i64 b'.f3.f5, .int .i64 b'.f3.f6, .int .i64 b'.f3.f7] 41 (0, 0))) := ⟨setL_blk _ _ HBo.out (by kernel_rfl)⟩
      have HQ1 : Aside0 ((World.heap (World.setCells W3_ (wr.heap.size + 1) 0 (#[.bool b'.f0, .int .i64 b'.f1.f0, .slice B4 b'.f1.f1.length e4, .bool b'.f1.f2, .bool b'.f1.f3, .slice B5 b'.f2.length e5, .int .i64 b'.f3.f0, .int .i64 b'.f3.f1, .int .i64 b'.f3.f2, .int .i64 b'.f3.f3, .slice B6 b'.f3.f4.length e6, .int .i64 b'.f3.f5, .int .i64 b'.f3.f6, .int .i64 b'.f3.f7] : Array Value).toList))[wr.heap.size]? = some (.cells #[.bool a'.f0, .int .i64 a'.f1.f0, .slice A4 a'.f1.f1.length c4, .bool a'.f1.f2, .bool a'.f1.f3, .slice A5 a'.f2.length c5, .int .i64 a'.f3.f0, .int .i64 a'.f3.f1, .int .i64 a'.f3.f2, .int .i64 a'.f3.f3, .slice A6 a'.f3.f4.length c6, .int .i64 a'.f3.f5, .int .i64 a'.f3.f6, .int .i64 a'.f3.f7] 41 (0, 0))) := ⟨setL_far HAo.out HNE0.out _ _⟩
      clear hS HAo HBo
      generalize (World.setCells W3_ (wr.heap.size + 1) 0 (#[.bool b'.f0, .int .i64 b'.f1.f0, .slice B4 b'.f1.f1.length e4, .bool b'.f1.f2, .bool b'.f1.f3, .slice B5 b'.f2.length e5, .int .i64 b'.f3.f0, .int .i64 b'.f3.f1, .int .i64 b'.f3.f2, .int .i64 b'.f3.f3, .slice B6 b'.f3.f4.length e6, .int .i64 b'.f3.f5, .int .i64 b'.f3.f6, .int .i64 b'.f3.f7] : Array Value).toList) = W4_ at hS' HQ0 HQ1 ⊢
      have HBm := HQ0
      have HAm := HQ1
      clear HQ0 HQ1
      refine hK _ _ hS' (fun hS => ?_)
      clear hK K hS'
      try simp only [Act.put, sA_, sZ_, sS_]
      refine done_ (by kernel_rfl) ?_
      go_wp2
      go_meet
      exact ⟨wr.heap.size, (wr.heap.size + 1), rfl, rfl, rfl, ⟨HB.out.trans (hS.mono HB.out.size)⟩, ⟨blk_below X2.out hS⟩, ⟨blk_below X3.out hS⟩, ⟨hS⟩, HAm, HBm⟩
     ·skip
      refine value_ (w1 := ?_) (v := ?_) (by rfl) rfl ?_ ?_
      rotate_left 2
      ·go_simp
       constructor
       ·rfl
       ·rfl
      refine hK _ _ (below_alloc hS _) (fun hS => ?_)
      clear hK K
      try simp only [Act.put, sA_, sZ_, sS_]
      have HX0 := Aside0.mk (show (World.drew (World.alloc wr (.cells #[.bool false, .int .i64 0, .slice none 0 0, .bool false, .bool false, .slice none 0 0, .int .i64 0, .int .i64 0, .int .i64 0, .int .i64 0, .slice none 0 0, .int .i64 0, .int .i64 0, .int .i64 0] 41))).heap[wr.heap.size]? = some (.cells #[.bool false, .int .i64 0, .slice none 0 0, .bool false, .bool false, .slice none 0 0, .int .i64 0, .int .i64 0, .int .i64 0, .int .i64 0, .slice none 0 0, .int .i64 0, .int .i64 0, .int .i64 0] 41 (0, 0)) from blk_new _ _)
      have HNE0 := Aside0.mk (show wr.heap.size ≠ (wr.heap.size + 1) from by omega)
      refine one_ (i := 10) (N := some 6) #[bT,bT,bT,bT,bT,bT,bT,bT,bT,bT,bT,bT,bF,bF] rfl rfl (by kernel_rfl) (by decide) (fun K hK => ?_)
      refine value_ (w1 := ?_) (v := ?_) (by rfl) rfl ?_ ?_
      rotate_left 2
      ·go_simp
       constructor
       ·rfl
       ·rfl
      refine hK _ _ (below_alloc hS _) (fun hS => ?_)
      clear hK K
      try simp only [Act.put, sA_, sZ_, sS_]
      have HY1 := Aside0.mk (show (World.drew (World.alloc (World.alloc wr (.cells #[.bool false, .int .i64 0, .slice none 0 0, .bool false, .bool false, .slice none 0 0, .int .i64 0, .int .i64 0, .int .i64 0, .int .i64 0, .slice none 0 0, .int .i64 0, .int .i64 0, .int .i64 0] 41)) (.cells #[.bool false, .int .i64 0, .slice none 0 0, .bool false, .bool false, .slice none 0 0, .int .i64 0, .int .i64 0, .int .i64 0, .int .i64 0, .slice none 0 0, .int .i64 0, .int .i64 0, .int .i64 0] 41))).heap[(wr.heap.size + 1)]? = some (.cells #[.bool false, .int .i64 0, .slice none 0 0, .bool false, .bool false, .slice none 0 0, .int .i64 0, .int .i64 0, .int .i64 0, .int .i64 0, .slice none 0 0, .int .i64 0, .int .i64 0, .int .i64 0] 41 (0, 0)) from blk_new2 _ _ _)
      have HX1 := Aside0.mk (show (World.drew (World.alloc (World.alloc wr (.cells #[.bool false, .int .i64 0, .slice none 0 0, .bool false, .bool false, .slice none 0 0, .int .i64 0, .int .i64 0, .int .i64 0, .int .i64 0, .slice none 0 0, .int .i64 0, .int .i64 0, .int .i64 0] 41)) (.cells #[.bool false, .int .i64 0, .slice none 0 0, .bool false, .bool false, .slice none 0 0, .int .i64 0, .int .i64 0, .int .i64 0, .int .i64 0, .slice none 0 0, .int .i64 0, .int .i64 0, .int .i64 0] 41))).heap[wr.heap.size]? = some (.cells #[.bool false, .int .i64 0, .slice none 0 0, .bool false, .bool false, .slice none 0 0, .int .i64 0, .int .i64 0, .int .i64 0, .int .i64 0, .slice none 0 0, .int .i64 0, .int .i64 0, .int .i64 0] 41 (0, 0)) from blk_alloc HX0.out _)
      generalize (World.drew (World.alloc (World.alloc wr (.cells #[.bool false, .int .i64 0, .slice none 0 0, .bool false, .bool false, .slice none 0 0, .int .i64 0, .int .i64 0, .int .i64 0, .int .i64 0, .slice none 0 0, .int .i64 0, .int .i64 0, .int .i64 0] 41)) (.cells #[.bool false, .int .i64 0, .slice none 0 0, .bool false, .bool false, .slice none 0 0, .int .i64 0, .int .i64 0, .int .i64 0, .int .i64 0, .slice none 0 0, .int .i64 0, .int .i64 0, .int .i64 0] 41))) = W2_ at HX1 HY1 hS ⊢
      clear HX0
      refine one_ (i := 12) (N := none) #[bT,bT,bT,bT,bT,bT,bT,bT,bT,bT,bT,bT,bT,bF] rfl rfl (by kernel_rfl) (by decide) (fun K hK => ?_)
      rw [if_pos (by rfl)]
      refine wp_store_mid _ (.tmp 6) (.tmp 41) rfl ((wr.heap.size + 1)) 0 #[.bool a'.f0, .int .i64 a'.f1.f0, .slice A4 a'.f1.f1.length c4, .bool a'.f1.f2, .bool a'.f1.f3, .slice A5 a'.f2.length c5, .int .i64 a'.f3.f0, .int .i64 a'.f3.f1, .int .i64 a'.f3.f2, .int .i64 a'.f3.f3, .slice A6 a'.f3.f4.length c6, .int .i64 a'.f3.f5, .int .i64 a'.f3.f6, .int .i64 a'.f3.f7] (by kernel_rfl) (by kernel_rfl) (there_blk HY1.out 0 14 (Nat.le_refl _)) (by kernel_rfl) (by kernel_rfl) ?_
      have hS' : Below wr.heap.size wr (World.setCells W2_ (wr.heap.size + 1) 0 (#[.bool a'.f0, .int .i64 a'.f1.f0, .slice A4 a'.f1.f1.length c4, .bool a'.f1.f2, .bool a'.f1.f3, .slice A5 a'.f2.length c5, .int .i64 a'.f3.f0, .int .i64 a'.f3.f1, .int .i64 a'.f3.f2, .int .i64 a'.f3.f3, .slice A6 a'.f3.f4.length c6, .int .i64 a'.f3.f5, .int .i64 a'.f3.f6, .int .i64 a'.f3.f7] : Array Value).toList) := setL_below hS (by first | exact Nat.le_refl _ | exact Nat.le_succ _) _ _
      have HQ0 : Aside0 ((World.heap (World.setCells W2_ (wr.heap.size + 1) 0 (#[.bool a'.f0, .int .i64 a'.f1.f0, .slice A4 a'.f1.f1.length c4, .bool a'.f1.f2, .bool a'.f1.f3, .slice A5 a'.f2.length c5, .int .i64 a'.f3.f0, .int .i64 a'.f3.f1, .int .i64 a'.f3.f2, .int .i64 a'.f3.f3, .slice A6 a'.f3.f4.length c6, .int .i64 a'.f3.f5, .int .i64 a'.f3.f6, .int .i64 a'.f3.f7] : Array Value).toList))[(wr.heap.size + 1)]? = some (.cells #[.bool a'.f0, .int .i64 a'.f1.f0, .slice A4 a'.f1.f1.length c4, .bool a'.f1.f2, .bool a'.f1.f3, .slice A5 a'.f2.length c5, .int .i64 a'.f3.f0, .int .i64 a'.f3.f1, .int .i64 a'.f3.f2, .int .i64 a'.f3.f3, .slice A6 a'.f3.f4.length c6, .int .i64 a'.f3.f5, .int .i64 a'.f3.f6, .int .i64 a'.f3.f7] 41 (0, 0))) := ⟨setL_blk _ _ HY1.out (by kernel_rfl)⟩
      have HQ1 : Aside0 ((World.heap (World.setCells W2_ (wr.heap.size + 1) 0 (#[.bool a'.f0, .int .i64 a'.f1.f0, .slice A4 a'.f1.f1.length c4, .bool a'.f1.f2, .bool a'.f1.f3, .slice A5 a'.f2.length c5, .int .i64 a'.f3.f0, .int .i64 a'.f3.f1, .int .i64 a'.f3.f2, .int .i64 a'.f3.f3, .slice A6 a'.f3.f4.length c6, .int .i64 a'.f3.f5, .int .i64 a'.f3.f6, .int .i64 a'.f3.f7] : Array Value).toList))[wr.heap.size]? = some (.cells #[.bool false, .int .i64 0, .slice none 0 0, .bool false, .bool false, .slice none 0 0, .int .i64 0, .int .i64 0, .int .i64 0, .int .i64 0, .slice none 0 0, .int .i64 0, .int .i64 0, .int .i64 0] 41 (0, 0))) := ⟨setL_far HX1.out (Ne.symm (Ne.symm HNE0.out)) _ _⟩
      clear hS HY1 HX1
      generalize (World.setCells W2_ (wr.heap.size + 1) 0 (#[.bool a'.f0, .int .i64 a'.f1.f0, .slice A4 a'.f1.f1.length c4, .bool a'.f1.f2, .bool a'.f1.f3, .slice A5 a'.f2.length c5, .int .i64 a'.f3.f0, .int .i64 a'.f3.f1, .int .i64 a'.f3.f2, .int .i64 a'.f3.f3, .slice A6 a'.f3.f4.length c6, .int .i64 a'.f3.f5, .int .i64 a'.f3.f6, .int .i64 a'.f3.f7] : Array Value).toList) = W3_ at hS' HQ0 HQ1 ⊢
      have HAo := HQ0
      have HBo := HQ1
      clear HQ0 HQ1
      refine hK _ _ hS' (fun hS => ?_)
      clear hK K hS'
      try simp only [Act.put, sA_, sZ_, sS_]
      refine one_ (i := 13) (N := none) #[bT,bT,bT,bT,bT,bT,bT,bT,bT,bT,bT,bT,bT,bT] rfl rfl (by kernel_rfl) (by decide) (fun K hK => ?_)
      rw [if_pos (by rfl)]
      refine wp_store_mid _ (.tmp 7) (.tmp 46) rfl (wr.heap.size) 0 #[.bool b'.f0, .int .i64 b'.f1.f0, .slice B4 b'.f1.f1.length e4, .bool b'.f1.f2, .bool b'.f1.f3, .slice B5 b'.f2.length e5, .int .i64 b'.f3.f0, .int .i64 b'.f3.f1, .int .i64 b'.f3.f2, .int .i64 b'.f3.f3, .slice B6 b'.f3.f4.length e6, .int .i64 b'.f3.f5, .int .i64 b'.f3.f6, .int .i64 b'.f3.f7] (by kernel_rfl) (by kernel_rfl) (there_blk HBo.out 0 14 (Nat.le_refl _)) (by kernel_rfl) (by kernel_rfl) ?_
      have hS' : Below wr.heap.size wr (World.setCells W3_ wr.heap.size 0 (#[.bool b'.f0, .int .i64 b'.f1.f0, .slice B4 b'.f1.f1.length e4, .bool b'.f1.f2, .bool b'.f1.f3, .slice B5 b'.f2.length e5, .int .i64 b'.f3.f0, .int .i64 b'.f3.f1, .int .i64 b'.f3.f2, .int .i64 b'.f3.f3, .slice B6 b'.f3.f4.length e6, .int .i64 b'.f3.f5, .int .i64 b'.f3.f6, .int .i64 b'.f3.f7] : Array Value).toList) := setL_below hS (by first | exact Nat.le_refl _ | exact Nat.le_succ _) _ _
      have HQ0 : Aside0 ((World.heap (World.setCells W3_ wr.heap.size 0 (#[.bool b'.f0, .int .i64 b'.f1.f0, .slice B4 b'.f1.f1.length e4, .bool b'.f1.f2, .bool b'.f1.f3, .slice B5 b'.f2.length e5, .int .i64 b'.f3.f0, .int .i64 b'.f3.f1, .int .i64 b'.f3.f2, .int .i64 b'.f3.f3, .slice B6 b'.f3.f4.length e6, .int .i64 b'.f3.f5, .int .i64 b'.f3.f6, .int .i64 b'.f3.f7] : Array Value).toList))[wr.heap.size]? = some (.cells #[.bool b'.f0, .int .i64 b'.f1.f0, .slice B4 b'.f1.f1.length e4, .bool b'.f1.f2, .bool b'.f1.f3, .slice B5 b'.f2.length e5, .int .i64 b'.f3.f0, .int .i64 b'.f3.f1, .int .i64 b'.f3.f2, .int .i64 b'.f3.f3, .slice B6 b'.f3.f4.length e6, .int .i64 b'.f3.f5, .int .i64 b'.f3.f6, .int .i64 b'.f3.f7] 41 (0, 0))) := ⟨setL_blk _ _ HBo.out (by kernel_rfl)⟩
      have HQ1 : Aside0 ((World.heap (World.setCells W3_ wr.heap.size 0 (#[.bool b'.f0, .int .i64 b'.f1.f0, .slice B4 b'.f1.f1.length e4, .bool b'.f1.f2, .bool b'.f1.f3, .slice B5 b'.f2.length e5, .int .i64 b'.f3.f0, .int .i64 b'.f3.f1, .int .i64 b'.f3.f2, .int .i64 b'.f3.f3, .slice B6 b'.f3.f4.length e6, .int .i64 b'.f3.f5, .int .i64 b'.f3.f6, .int .i64 b'.f3.f7] : Array Value).toList))[(wr.heap.size + 1)]? = some (.cells #[.bool a'.f0, .int .i64 a'.f1.f0, .slice A4 a'.f1.f1.length c4, .bool a'.f1.f2, .bool a'.f1.f3, .slice A5 a'.f2.length c5, .int .i64 a'.f3.f0, .int .i64 a'.f3.f1, .int .i64 a'.f3.f2, .int .i64 a'.f3.f3, .slice A6 a'.f3.f4.length c6, .int .i64 a'.f3.f5, .int .i64 a'.f3.f6, .int .i64 a'.f3.f7] 41 (0, 0))) := ⟨setL_far HAo.out (Ne.symm HNE0.out) _ _⟩
      clear hS HAo HBo
      generalize (World.setCells W3_ wr.heap.size 0 (#[.bool b'.f0, .int .i64 b'.f1.f0, .slice B4 b'.f1.f1.length e4, .bool b'.f1.f2, .bool b'.f1.f3, .slice B5 b'.f2.length e5, .int .i64 b'.f3.f0, .int .i64 b'.f3.f1, .int .i64 b'.f3.f2, .int .i64 b'.f3.f3, .slice B6 b'.f3.f4.length e6, .int .i64 b'.f3.f5, .int .i64 b'.f3.f6, .int .i64 b'.f3.f7] : Array Value).toList) = W4_ at hS' HQ0 HQ1 ⊢
      have HBm := HQ0
      have HAm := HQ1
      clear HQ0 HQ1
      refine hK _ _ hS' (fun hS => ?_)
      clear hK K hS'
      try simp only [Act.put, sA_, sZ_, sS_]
      refine done_ (by kernel_rfl) ?_
      go_wp2
      go_meet
      exact ⟨(wr.heap.size + 1), wr.heap.size, rfl, rfl, rfl, ⟨HB.out.trans (hS.mono HB.out.size)⟩, ⟨blk_below X2.out hS⟩, ⟨blk_below X3.out hS⟩, ⟨hS⟩, HAm, HBm⟩
    case rest =>
     clear HB X2 X3 p1 p2 p3 hd
     clear y0 y1 y2 y3 y4 y5 y6 y7 y8 y9 y10 y11 y12 y13 z0 z1 z2 z3 z4 z5 z6 z7 z8 z9 z10 z11 z12 z13
     clear h0 h1 h2 k0 k1 k2
     obtain ⟨g6, g7, rfl, rfl, rfl, HB, X2, X3, HS, X6, X7⟩ := hcut
     have C4 := Aside0.mk (Kd.C_below hC4 HS.out)
     have C5 := Aside0.mk (Kd.C_below hC5 HS.out)
     have C6 := Aside0.mk (Kd.C_below hC6 HS.out)
     have D4 := Aside0.mk (Kd.C_below hD4 HS.out)
     have D5 := Aside0.mk (Kd.C_below hD5 HS.out)
     have D6 := Aside0.mk (Kd.C_below hD6 HS.out)
     have HLE := Aside0.mk (And.intro hl4 hm4)
     clear hC4 hC5 hC6 hD4 hD5 hD6 hl4 hm4 hl5 hm5 hl6 hm6 HS
     have HMA := Aside0.mk (show a' ∈ a.f2 by rw [← hga]; exact rd_mem' a.f2 z41 x HX.out.1 HLT.out)
     have HST := Aside0.mk (show (blockE a' b' && eqL blockE (a.f2.drop (x + 1).toNat) (b.f2.drop (x + 1).toNat)) = eqL blockE a.f2 b.f2 by rw [← HE.out, eqL_step blockE z41 a.f2 b.f2 x HX.out.1 HLT.out HLN.out, ← hga, ← hgb]; rfl)
     clear hga hgb
     obtain ⟨m0, m1, m2, m3, m4, m5, m6, m7, m8, m9, m10, m11, m12, m13⟩ := cl14 X6.out
     obtain ⟨n0, n1, n2, n3, n4, n5, n6, n7, n8, n9, n10, n11, n12, n13⟩ := cl14 X7.out
     go_upto_region 7 with (fail)
     go_cut [76, 5] from 30 to 95 (fun v76 v5 wd => v76 = .bool (!((a'.f0 == b'.f0) && padE a'.f1 b'.f1 && endE a'.f3 b'.f3 && decide (a'.f2.length = b'.f2.length))) ∧ v5 = .int .i64 x ∧ Aside0 (Below w.heap.size w wd) ∧ Aside0 (wd.heap[g2]? = some (.cells #[.int .i64 a.f0, .int .i64 a.f1, .slice (some ad) a.f2.length c1] 27 (0, 0))) ∧ Aside0 (wd.heap[g3]? = some (.cells #[.int .i64 b.f0, .int .i64 b.f1, .slice (some ad') b.f2.length e1] 27 (0, 0))) ∧ Aside0 (wd.heap[g6]? = some (.cells #[.bool a'.f0, .int .i64 a'.f1.f0, .slice A4 a'.f1.f1.length c4, .bool a'.f1.f2, .bool a'.f1.f3, .slice A5 a'.f2.length c5, .int .i64 a'.f3.f0, .int .i64 a'.f3.f1, .int .i64 a'.f3.f2, .int .i64 a'.f3.f3, .slice A6 a'.f3.f4.length c6, .int .i64 a'.f3.f5, .int .i64 a'.f3.f6, .int .i64 a'.f3.f7] 41 (0, 0))) ∧ Aside0 (wd.heap[g7]? = some (.cells #[.bool b'.f0, .int .i64 b'.f1.f0, .slice B4 b'.f1.f1.length e4, .bool b'.f1.f2, .bool b'.f1.f3, .slice B5 b'.f2.length e5, .int .i64 b'.f3.f0, .int .i64 b'.f3.f1, .int .i64 b'.f3.f2, .int .i64 b'.f3.f3, .slice B6 b'.f3.f4.length e6, .int .i64 b'.f3.f5, .int .i64 b'.f3.f6, .int .i64 b'.f3.f7] 41 (0, 0))) ∧ Aside0 (Kd.C (Kd.int .u16) wd A4 a'.f1.f1.length a'.f1.f1) ∧ Aside0 (Kd.C k49 wd A5 a'.f2.length a'.f2) ∧ Aside0 (Kd.C (Kd.int .i64) wd A6 a'.f3.f4.length a'.f3.f4) ∧ Aside0 (Kd.C (Kd.int .u16) wd B4 b'.f1.f1.length b'.f1.f1) ∧ Aside0 (Kd.C k49 wd B5 b'.f2.length b'.f2) ∧ Aside0 (Kd.C (Kd.int .i64) wd B6 b'.f3.f4.length b'.f3.f4))
     case first =>
      have HP := Aside0.mk (HN.out.nc a' HMA.out)
      have HEE := Aside0.mk (HN.out.ne a' HMA.out)
      by_cases hl : a'.f2.length = b'.f2.length
      ·have r2 : ((a'.f2.length : Int) != (b'.f2.length : Int)) = false := bne_eq_false_iff_eq.2 (by omega)
       have r3 := Aside0.mk (decide_eq_true hl)
       clear hl
       go_wp2_with (first | (go_at_call 44; go_loud ((with_reducible refine (rpad_c a'.f1 A4 c4 b'.f1 B4 e4 _ C4.out HLE.out.1 D4.out HLE.out.2 (by have := HP.out; omega)).mono ?_); rintro e w6 ⟨rfl, hb⟩; clear m0 m1 m2 m3 m4 m5 m6 m7 m8 m9 m10 m11 m12 m13 n0 n1 n2 n3 n4 n5 n6 n7 n8 n9 n10 n11 n12 n13; replace HB := Aside0.mk (below_step HB.out hb); replace X2 := Aside0.mk (blk_below X2.out hb); replace X3 := Aside0.mk (blk_below X3.out hb); replace X6 := Aside0.mk (blk_below X6.out hb); replace X7 := Aside0.mk (blk_below X7.out hb); replace C4 := Aside0.mk (Kd.C_below C4.out hb); replace C5 := Aside0.mk (Kd.C_below C5.out hb); replace C6 := Aside0.mk (Kd.C_below C6.out hb); replace D4 := Aside0.mk (Kd.C_below D4.out hb); replace D5 := Aside0.mk (Kd.C_below D5.out hb); replace D6 := Aside0.mk (Kd.C_below D6.out hb); clear hb; obtain ⟨m0, m1, m2, m3, m4, m5, m6, m7, m8, m9, m10, m11, m12, m13⟩ := cl14 X6.out; obtain ⟨n0, n1, n2, n3, n4, n5, n6, n7, n8, n9, n10, n11, n12, n13⟩ := cl14 X7.out)) | (go_at_call 51; go_loud ((with_reducible refine (rend_c a'.f3 A6 c6 b'.f3 B6 e6 _ C6.out D6.out HEE.out).mono ?_); rintro e w6 ⟨rfl, hb⟩; clear m0 m1 m2 m3 m4 m5 m6 m7 m8 m9 m10 m11 m12 m13 n0 n1 n2 n3 n4 n5 n6 n7 n8 n9 n10 n11 n12 n13; replace HB := Aside0.mk (below_step HB.out hb); replace X2 := Aside0.mk (blk_below X2.out hb); replace X3 := Aside0.mk (blk_below X3.out hb); replace X6 := Aside0.mk (blk_below X6.out hb); replace X7 := Aside0.mk (blk_below X7.out hb); replace C4 := Aside0.mk (Kd.C_below C4.out hb); replace C5 := Aside0.mk (Kd.C_below C5.out hb); replace C6 := Aside0.mk (Kd.C_below C6.out hb); replace D4 := Aside0.mk (Kd.C_below D4.out hb); replace D5 := Aside0.mk (Kd.C_below D5.out hb); replace D6 := Aside0.mk (Kd.C_below D6.out hb); clear hb; obtain ⟨m0, m1, m2, m3, m4, m5, m6, m7, m8, m9, m10, m11, m12, m13⟩ := cl14 X6.out; obtain ⟨n0, n1, n2, n3, n4, n5, n6, n7, n8, n9, n10, n11, n12, n13⟩ := cl14 X7.out)))
       all_goals (go_meet; exact ⟨congrArg Value.bool (by rw [r3.out]; first | (simp [bne, *]; done) | (simp_all [bne]; done)), rfl, HB, X2, X3, X6, X7, C4, C5, C6, D4, D5, D6⟩)
      ·have r2 : ((a'.f2.length : Int) != (b'.f2.length : Int)) = true := bne_iff_ne.2 (by omega)
       have r3 := Aside0.mk (decide_eq_false hl)
       clear hl
       go_wp2_with (first | (go_at_call 44; go_loud ((with_reducible refine (rpad_c a'.f1 A4 c4 b'.f1 B4 e4 _ C4.out HLE.out.1 D4.out HLE.out.2 (by have := HP.out; omega)).mono ?_); rintro e w6 ⟨rfl, hb⟩; clear m0 m1 m2 m3 m4 m5 m6 m7 m8 m9 m10 m11 m12 m13 n0 n1 n2 n3 n4 n5 n6 n7 n8 n9 n10 n11 n12 n13; replace HB := Aside0.mk (below_step HB.out hb); replace X2 := Aside0.mk (blk_below X2.out hb); replace X3 := Aside0.mk (blk_below X3.out hb); replace X6 := Aside0.mk (blk_below X6.out hb); replace X7 := Aside0.mk (blk_below X7.out hb); replace C4 := Aside0.mk (Kd.C_below C4.out hb); replace C5 := Aside0.mk (Kd.C_below C5.out hb); replace C6 := Aside0.mk (Kd.C_below C6.out hb); replace D4 := Aside0.mk (Kd.C_below D4.out hb); replace D5 := Aside0.mk (Kd.C_below D5.out hb); replace D6 := Aside0.mk (Kd.C_below D6.out hb); clear hb; obtain ⟨m0, m1, m2, m3, m4, m5, m6, m7, m8, m9, m10, m11, m12, m13⟩ := cl14 X6.out; obtain ⟨n0, n1, n2, n3, n4, n5, n6, n7, n8, n9, n10, n11, n12, n13⟩ := cl14 X7.out)) | (go_at_call 51; go_loud ((with_reducible refine (rend_c a'.f3 A6 c6 b'.f3 B6 e6 _ C6.out D6.out HEE.out).mono ?_); rintro e w6 ⟨rfl, hb⟩; clear m0 m1 m2 m3 m4 m5 m6 m7 m8 m9 m10 m11 m12 m13 n0 n1 n2 n3 n4 n5 n6 n7 n8 n9 n10 n11 n12 n13; replace HB := Aside0.mk (below_step HB.out hb); replace X2 := Aside0.mk (blk_below X2.out hb); replace X3 := Aside0.mk (blk_below X3.out hb); replace X6 := Aside0.mk (blk_below X6.out hb); replace X7 := Aside0.mk (blk_below X7.out hb); replace C4 := Aside0.mk (Kd.C_below C4.out hb); replace C5 := Aside0.mk (Kd.C_below C5.out hb); replace C6 := Aside0.mk (Kd.C_below C6.out hb); replace D4 := Aside0.mk (Kd.C_below D4.out hb); replace D5 := Aside0.mk (Kd.C_below D5.out hb); replace D6 := Aside0.mk (Kd.C_below D6.out hb); clear hb; obtain ⟨m0, m1, m2, m3, m4, m5, m6, m7, m8, m9, m10, m11, m12, m13⟩ := cl14 X6.out; obtain ⟨n0, n1, n2, n3, n4, n5, n6, n7, n8, n9, n10, n11, n12, n13⟩ := cl14 X7.out)))
       all_goals (go_meet; exact ⟨congrArg Value.bool (by rw [r3.out]; first | (simp [bne, *]; done) | (simp_all [bne]; done)), rfl, HB, X2, X3, X6, X7, C4, C5, C6, D4, D5, D6⟩)
     case rest =>
      clear m0 m1 m2 m3 m4 m5 m6 m7 m8 m9 m10 m11 m12 m13 n0 n1 n2 n3 n4 n5 n6 n7 n8 n9 n10 n11 n12 n13
      clear HB X2 X3 X6 X7 C4 C5 C6 D4 D5 D6
      obtain ⟨rfl, rfl, HB, X2, X3, X6, X7, C4, C5, C6, D4, D5, D6⟩ := hcut
      obtain ⟨m0, m1, m2, m3, m4, m5, m6, m7, m8, m9, m10, m11, m12, m13⟩ := cl14 X6.out
      obtain ⟨n0, n1, n2, n3, n4, n5, n6, n7, n8, n9, n10, n11, n12, n13⟩ := cl14 X7.out
      cases hP : ((a'.f0 == b'.f0) && padE a'.f1 b'.f1 && endE a'.f3 b'.f3 && decide (a'.f2.length = b'.f2.length)) with
      | false =>
       have HZ := Aside0.mk (show funcE a b = false by rw [HV.out, ← HST.out, blockE_no hP]; rfl)
       clear hP
       go_wp2
       go_ret
       exact ⟨ret_b HZ.out.symm, HB.out⟩
      | true =>
       have HPB := Aside0.mk (blockE_yes hP)
       have HLL := Aside0.mk (blockE_len hP)
       clear hP
       go_wp2
       clear m0 m1 m2 m3 m4 m5 m6 m7 m8 m9 m10 m11 m12 m13 n0 n1 n2 n3 n4 n5 n6 n7 n8 n9 n10 n11 n12 n13
       go_loopg [8] 1000000 (fun gg s wr => ∃ z : Int, s = .int .i64 z ∧ Aside0 (0 ≤ z ∧ z ≤ a'.f2.length ∧ (a'.f2.length : Int) - z ≤ gg) ∧ Aside0 (eqL insE (a'.f2.drop z.toNat) (b'.f2.drop z.toNat) = eqL insE a'.f2 b'.f2) ∧ Aside0 (Below w.heap.size w wr) ∧ Aside0 (wr.heap[g2]? = some (.cells #[.int .i64 a.f0, .int .i64 a.f1, .slice (some ad) a.f2.length c1] 27 (0, 0))) ∧ Aside0 (wr.heap[g3]? = some (.cells #[.int .i64 b.f0, .int .i64 b.f1, .slice (some ad') b.f2.length e1] 27 (0, 0))) ∧ Aside0 (wr.heap[g6]? = some (.cells #[.bool a'.f0, .int .i64 a'.f1.f0, .slice A4 a'.f1.f1.length c4, .bool a'.f1.f2, .bool a'.f1.f3, .slice A5 a'.f2.length c5, .int .i64 a'.f3.f0, .int .i64 a'.f3.f1, .int .i64 a'.f3.f2, .int .i64 a'.f3.f3, .slice A6 a'.f3.f4.length c6, .int .i64 a'.f3.f5, .int .i64 a'.f3.f6, .int .i64 a'.f3.f7] 41 (0, 0))) ∧ Aside0 (wr.heap[g7]? = some (.cells #[.bool b'.f0, .int .i64 b'.f1.f0, .slice B4 b'.f1.f1.length e4, .bool b'.f1.f2, .bool b'.f1.f3, .slice B5 b'.f2.length e5, .int .i64 b'.f3.f0, .int .i64 b'.f3.f1, .int .i64 b'.f3.f2, .int .i64 b'.f3.f3, .slice B6 b'.f3.f4.length e6, .int .i64 b'.f3.f5, .int .i64 b'.f3.f6, .int .i64 b'.f3.f7] 41 (0, 0))) ∧ Aside0 (Kd.C (Kd.int .u16) wr A4 a'.f1.f1.length a'.f1.f1) ∧ Aside0 (Kd.C k49 wr A5 a'.f2.length a'.f2) ∧ Aside0 (Kd.C (Kd.int .i64) wr A6 a'.f3.f4.length a'.f3.f4) ∧ Aside0 (Kd.C (Kd.int .u16) wr B4 b'.f1.f1.length b'.f1.f1) ∧ Aside0 (Kd.C k49 wr B5 b'.f2.length b'.f2) ∧ Aside0 (Kd.C (Kd.int .i64) wr B6 b'.f3.f4.length b'.f3.f4))
       case atStart => exact ⟨0, rfl, ⟨by have := HN.out.ni a' HMA.out; omega⟩, ⟨rfl⟩, HB, X2, X3, X6, X7, C4, C5, C6, D4, D5, D6⟩
       case round =>
        clear HB X2 X3 X6 X7 C4 C5 C6 D4 D5 D6
        obtain ⟨z, rfl, HZZ, HE2, HB, X2, X3, X6, X7, C4, C5, C6, D4, D5, D6⟩ := hrel
        obtain ⟨m0, m1, m2, m3, m4, m5, m6, m7, m8, m9, m10, m11, m12, m13⟩ := cl14 X6.out
        obtain ⟨n0, n1, n2, n3, n4, n5, n6, n7, n8, n9, n10, n11, n12, n13⟩ := cl14 X7.out
        by_cases hlt : z < (a'.f2.length : Int)
        rotate_left
        ·have hd : decide (z < (a'.f2.length : Int)) = false := decide_eq_false hlt
         have HBT := Aside0.mk (show blockE a' b' = true by rw [HPB.out, ← HE2.out]; exact eqL_end insE a'.f2 b'.f2 z hlt HLL.out)
         clear hlt
         go_wp2
         have W1 := Aside0.mk (show wrap64 (x + 1) = x + 1 from wrap_in _ (by have := HX.out; omega) (by have := HLT.out; have := HN.out.nb; omega))
         go_roundg ((a.f2.length : Int) - (x + 1)).toNat
         case measure => have h1_ := HX.out; have h2_ := HLT.out; omega
         case rel => exact ⟨x + 1, by first | (rw [W1.out]; done) | rfl | (simp only [W1.out]; done), ⟨by have := HX.out; have := HLT.out; omega⟩, ⟨by rw [← HST.out, HBT.out, Bool.true_and]⟩, HB, X2, X3⟩
        have hd : decide (z < (a'.f2.length : Int)) = true := decide_eq_true hlt
        have HLZ := Aside0.mk hlt
        have HLZ2 := Aside0.mk (show z < (b'.f2.length : Int) by have := HLL.out; omega)
        clear hlt
        have p1 : (0 ≤ z) = True := eq_true HZZ.out.1
        have p2 : (z < (a'.f2.length : Int)) = True := eq_true HLZ.out
        have p3 : (z < (b'.f2.length : Int)) = True := eq_true HLZ2.out
        obtain ⟨ai, A7, c7, x1, y0, y1, y2, y3, y4, y5, y6, hl7, hC7⟩ := at_T49 C5.out z HZZ.out.1 HLZ.out
        subst x1
        obtain ⟨bi, B7, e7, x1, z0, z1, z2, z3, z4, z5, z6, hm7, hD7⟩ := at_T49 D5.out z HZZ.out.1 HLZ2.out
        subst x1
        have HMI := Aside0.mk (show rd_T49 a'.f2 z ∈ a'.f2 from rd_mem' a'.f2 z49 z HZZ.out.1 HLZ.out)
        have HST2 := Aside0.mk (show (insE (rd_T49 a'.f2 z) (rd_T49 b'.f2 z) && eqL insE (a'.f2.drop (z + 1).toNat) (b'.f2.drop (z + 1).toNat)) = eqL insE a'.f2 b'.f2 by rw [← HE2.out, eqL_step insE z49 a'.f2 b'.f2 z HZZ.out.1 HLZ.out HLL.out]; rfl)
        generalize rd_T49 a'.f2 z = i1 at *
        generalize rd_T49 b'.f2 z = i2 at *
        have C7 := Aside0.mk hC7
        have D7 := Aside0.mk hD7
        have HNI := Aside0.mk (HN.out.na a' HMA.out i1 HMI.out)
        clear hC7 hD7 hl7 hm7
        go_wp2
        go_still_tail 10, (by kernel_rfl)
        replace HB := Aside0.mk (below_drew HB.out)
        replace X2 := Aside0.mk (blk_drew X2.out)
        replace X3 := Aside0.mk (blk_drew X3.out)
        replace X6 := Aside0.mk (blk_drew X6.out)
        replace X7 := Aside0.mk (blk_drew X7.out)
        replace C4 := Aside0.mk (Kd.C_drew C4.out)
        replace C5 := Aside0.mk (Kd.C_drew C5.out)
        replace C6 := Aside0.mk (Kd.C_drew C6.out)
        replace D4 := Aside0.mk (Kd.C_drew D4.out)
        replace D5 := Aside0.mk (Kd.C_drew D5.out)
        replace D6 := Aside0.mk (Kd.C_drew D6.out)
        replace C7 := Aside0.mk (Kd.C_drew C7.out)
        replace D7 := Aside0.mk (Kd.C_drew D7.out)
        change wpList _ _ _ _ _ wr.drew
        generalize wr.drew = w2 at *
        cases hiq : insE i1 i2 with
        | false =>
         have HIQ := Aside0.mk hiq
         have HZ := Aside0.mk (show funcE a b = false by rw [HV.out, ← HST.out, HPB.out, ← HST2.out, hiq]; rfl)
         clear hiq
         go_wp2_with (go_at_call 50; go_loud ((with_reducible refine (rins_c i1 A7 c7 i2 B7 e7 _ C7.out D7.out HNI.out).mono ?_); rintro e w8 ⟨he, hb⟩; rw [HIQ.out] at he; subst he; replace HB := Aside0.mk (below_step HB.out hb); replace X2 := Aside0.mk (blk_below X2.out hb); replace X3 := Aside0.mk (blk_below X3.out hb); replace X6 := Aside0.mk (blk_below X6.out hb); replace X7 := Aside0.mk (blk_below X7.out hb); replace C4 := Aside0.mk (Kd.C_below C4.out hb); replace C5 := Aside0.mk (Kd.C_below C5.out hb); replace C6 := Aside0.mk (Kd.C_below C6.out hb); replace D4 := Aside0.mk (Kd.C_below D4.out hb); replace D5 := Aside0.mk (Kd.C_below D5.out hb); replace D6 := Aside0.mk (Kd.C_below D6.out hb); clear hb C7 D7))
         go_ret
         exact ⟨ret_b HZ.out.symm, HB.out⟩
        | true =>
         have HIQ := Aside0.mk hiq
         have HE3 := Aside0.mk (show eqL insE (a'.f2.drop (z + 1).toNat) (b'.f2.drop (z + 1).toNat) = eqL insE a'.f2 b'.f2 by rw [← HST2.out, hiq, Bool.true_and])
         clear hiq
         go_wp2_with (go_at_call 50; go_loud ((with_reducible refine (rins_c i1 A7 c7 i2 B7 e7 _ C7.out D7.out HNI.out).mono ?_); rintro e w8 ⟨he, hb⟩; rw [HIQ.out] at he; subst he; replace HB := Aside0.mk (below_step HB.out hb); replace X2 := Aside0.mk (blk_below X2.out hb); replace X3 := Aside0.mk (blk_below X3.out hb); replace X6 := Aside0.mk (blk_below X6.out hb); replace X7 := Aside0.mk (blk_below X7.out hb); replace C4 := Aside0.mk (Kd.C_below C4.out hb); replace C5 := Aside0.mk (Kd.C_below C5.out hb); replace C6 := Aside0.mk (Kd.C_below C6.out hb); replace D4 := Aside0.mk (Kd.C_below D4.out hb); replace D5 := Aside0.mk (Kd.C_below D5.out hb); replace D6 := Aside0.mk (Kd.C_below D6.out hb); clear hb C7 D7))
         have W1 := Aside0.mk (show wrap64 (z + 1) = z + 1 from wrap_in _ (by have := HZZ.out; omega) (by have := HLZ.out; have := HN.out.ni a' HMA.out; omega))
         go_roundg ((a'.f2.length : Int) - (z + 1)).toNat
         case measure => have h1_ := HZZ.out; have h2_ := HLZ.out; omega
         case rel => exact ⟨z + 1, by first | (rw [W1.out]; done) | rfl | (simp only [W1.out]; done), ⟨by have := HZZ.out; have := HLZ.out; omega⟩, HE3, HB, X2, X3, X6, X7, C4, C5, C6, D4, D5, D6⟩
end Go.Proofs.Ytbfialebaoeicaa.X
namespace Go.Proofs.Ytbfialebaoeicaa.X
open Go.RowKit Go.Proofs.YtbfialebaoeicaaW.PrintWords Go.Proofs.YtbfialebaoeicaaW.PrintLast Go.Proofs.YtbfialebaoeicaaW.PrintMore
set_option linter.all false
set_option maxHeartbeats 16000000 in
set_option maxRecDepth 100000 in
theorem rsame_c (a : List S27) (A0 : Option Addr) (c0 : Nat) (b : List S27) (B0 : Option Addr) (e0 : Nat) (w : World) (ha : Kd.C k27 w A0 a.length a) (hb : Kd.C k27 w B0 b.length b) (hn : Bnd a) :
  Calls Try.prog 26 #[.agg #[.slice A0 a.length c0], .agg #[.slice B0 b.length e0]] w fun e w' => e = .returned (.bool (eqL funcE a b)) ∧ Below w.heap.size w w' := by
 have HA := Aside0.mk ha
 have HBB := Aside0.mk hb
 have HN := Aside0.mk hn
 clear ha hb hn
 have hu24 := Try.underlying24
 have hu27 := Try.underlying27
 by_cases hln : a.length = b.length
 rotate_left
 ·have r2 : ((a.length : Int) != (b.length : Int)) = true := bne_iff_ne.2 (by omega)
  have HZ := Aside0.mk (eqL_len funcE a b hln)
  clear hln
  go_enter Try.func26, Try.ntmps26
  go_wp2_with (first | ((with_reducible refine gate_dst (N := 2) rfl ?_); refine box_event ?hg (N := 2) ?hd (cs := #[.slice A0 a.length c0]) (t := 24) ?hr ?_; (case hd => rfl); (case hg => rfl); (case hr => first | (go_simp; done) | (go_simp; rfl)); intro g2 hg w2 hbox hb; have HB := Aside0.mk hb; have X2 := Aside0.mk hbox; clear hbox hb hg) | ((with_reducible refine gate_dst (N := 3) rfl ?_); refine box_event ?hg (N := 3) ?hd (cs := #[.slice B0 b.length e0]) (t := 24) ?hr ?_; (case hd => rfl); (case hg => rfl); (case hr => first | (go_simp; done) | (go_simp; rfl)); intro g3 hg w3 hbox hb; replace HB := Aside0.mk (below_step HB.out hb); replace X2 := Aside0.mk (blk_below X2.out hb); have X3 := Aside0.mk hbox; clear hbox hb hg; have h0 := (blk_cell X2.out 0).trans rfl; have k0 := (blk_cell X3.out 0).trans rfl))
  go_ret
  exact ⟨ret_b HZ.out.symm, HB.out⟩
 have r2 : ((a.length : Int) != (b.length : Int)) = false := bne_eq_false_iff_eq.2 (by omega)
 have HLN := Aside0.mk hln
 clear hln
 go_enter Try.func26, Try.ntmps26
 go_wp2_with (first | ((with_reducible refine gate_dst (N := 2) rfl ?_); refine box_event ?hg (N := 2) ?hd (cs := #[.slice A0 a.length c0]) (t := 24) ?hr ?_; (case hd => rfl); (case hg => rfl); (case hr => first | (go_simp; done) | (go_simp; rfl)); intro g2 hg w2 hbox hb; have HB := Aside0.mk hb; have X2 := Aside0.mk hbox; clear hbox hb hg) | ((with_reducible refine gate_dst (N := 3) rfl ?_); refine box_event ?hg (N := 3) ?hd (cs := #[.slice B0 b.length e0]) (t := 24) ?hr ?_; (case hd => rfl); (case hg => rfl); (case hr => first | (go_simp; done) | (go_simp; rfl)); intro g3 hg w3 hbox hb; replace HB := Aside0.mk (below_step HB.out hb); replace X2 := Aside0.mk (blk_below X2.out hb); have X3 := Aside0.mk hbox; clear hbox hb hg; have h0 := (blk_cell X2.out 0).trans rfl; have k0 := (blk_cell X3.out 0).trans rfl))
 clear h0 k0
 clear r2
 go_loopg [5] 1000000 (fun gg s wr => ∃ x : Int, s = .int .i64 x ∧ Aside0 (0 ≤ x ∧ x ≤ a.length ∧ (a.length : Int) - x ≤ gg) ∧ Aside0 (eqL funcE (a.drop x.toNat) (b.drop x.toNat) = eqL funcE a b) ∧ Aside0 (Below w.heap.size w wr) ∧ Aside0 (wr.heap[g2]? = some (.cells #[.slice A0 a.length c0] 24 (0, 0))) ∧ Aside0 (wr.heap[g3]? = some (.cells #[.slice B0 b.length e0] 24 (0, 0))))
 case atStart => exact ⟨0, rfl, ⟨by have := HN.out.nf; omega⟩, ⟨rfl⟩, HB, X2, X3⟩
 case round =>
  clear HB X2 X3
  obtain ⟨x, rfl, HX, HE, HB, X2, X3⟩ := hrel
  have h0 := (blk_cell X2.out 0).trans rfl
  have k0 := (blk_cell X3.out 0).trans rfl
  by_cases hlt : x < (a.length : Int)
  rotate_left
  ·have hd : decide (x < (a.length : Int)) = false := decide_eq_false hlt
   have HZ := Aside0.mk (show eqL funcE a b = true from (HE.out.symm.trans (eqL_end funcE a b x hlt HLN.out)))
   clear hlt
   go_wp2
   go_ret
   exact ⟨ret_b HZ.out.symm, HB.out⟩
  have hd : decide (x < (a.length : Int)) = true := decide_eq_true hlt
  have HLT := Aside0.mk hlt
  have HLT2 := Aside0.mk (show x < (b.length : Int) by have := HLN.out; omega)
  clear hlt
  have p1 : (0 ≤ x) = True := eq_true HX.out.1
  have p2 : (x < (a.length : Int)) = True := eq_true HLT.out
  have p3 : (x < (b.length : Int)) = True := eq_true HLT2.out
  obtain ⟨ad, A1, c1, x1, y0, y1, y2, hl1, hC1⟩ := at_T27 (Kd.C_below HA.out HB.out) x HX.out.1 HLT.out
  subst x1
  obtain ⟨ad', B1, e1, x1, z0, z1, z2, hm1, hD1⟩ := at_T27 (Kd.C_below HBB.out HB.out) x HX.out.1 HLT2.out
  subst x1
  have HMA := Aside0.mk (show rd_T27 a x ∈ a from rd_mem' a z27 x HX.out.1 HLT.out)
  have HST := Aside0.mk (show (funcE (rd_T27 a x) (rd_T27 b x) && eqL funcE (a.drop (x + 1).toNat) (b.drop (x + 1).toNat)) = eqL funcE a b by rw [← HE.out, eqL_step funcE z27 a b x HX.out.1 HLT.out HLN.out]; rfl)
  generalize rd_T27 a x = f1 at *
  generalize rd_T27 b x = f2 at *
  have C1 := Aside0.mk hC1
  have D1 := Aside0.mk hD1
  have HNF := Aside0.mk (HN.out.f f1 HMA.out)
  clear hC1 hD1 hl1 hm1
  go_wp2
  go_still_tail 10, (by kernel_rfl)
  replace HB := Aside0.mk (below_drew HB.out)
  replace X2 := Aside0.mk (blk_drew X2.out)
  replace X3 := Aside0.mk (blk_drew X3.out)
  replace C1 := Aside0.mk (Kd.C_drew C1.out)
  replace D1 := Aside0.mk (Kd.C_drew D1.out)
  change wpList _ _ _ _ _ wr.drew
  generalize wr.drew = w2 at *
  cases hiq : funcE f1 f2 with
  | false =>
   have HIQ := Aside0.mk hiq
   have HZ := Aside0.mk (show eqL funcE a b = false by rw [← HST.out, hiq]; rfl)
   clear hiq
   go_wp2_with (go_at_call 68; go_loud ((with_reducible refine (rsf_c f1 A1 c1 f2 B1 e1 _ C1.out D1.out HNF.out).mono ?_); rintro e w8 ⟨he, hb⟩; rw [HIQ.out] at he; subst he; replace HB := Aside0.mk (below_step HB.out hb); replace X2 := Aside0.mk (blk_below X2.out hb); replace X3 := Aside0.mk (blk_below X3.out hb); clear hb C1 D1))
   go_ret
   exact ⟨ret_b HZ.out.symm, HB.out⟩
  | true =>
   have HIQ := Aside0.mk hiq
   have HE3 := Aside0.mk (show eqL funcE (a.drop (x + 1).toNat) (b.drop (x + 1).toNat) = eqL funcE a b by rw [← HST.out, hiq, Bool.true_and])
   clear hiq
   go_wp2_with (go_at_call 68; go_loud ((with_reducible refine (rsf_c f1 A1 c1 f2 B1 e1 _ C1.out D1.out HNF.out).mono ?_); rintro e w8 ⟨he, hb⟩; rw [HIQ.out] at he; subst he; replace HB := Aside0.mk (below_step HB.out hb); replace X2 := Aside0.mk (blk_below X2.out hb); replace X3 := Aside0.mk (blk_below X3.out hb); clear hb C1 D1))
   have W1 := Aside0.mk (show wrap64 (x + 1) = x + 1 from wrap_in _ (by have := HX.out; omega) (by have := HLT.out; have := HN.out.nf; omega))
   go_roundg ((a.length : Int) - (x + 1)).toNat
   case measure => have h1_ := HX.out; have h2_ := HLT.out; omega
   case rel => exact ⟨x + 1, by first | (rw [W1.out]; done) | rfl | (simp only [W1.out]; done), ⟨by have := HX.out; have := HLT.out; omega⟩, HE3, HB, X2, X3⟩
end Go.Proofs.Ytbfialebaoeicaa.X
namespace Go.Proofs.Ytbfialebaoeicaa.G
open Go.Proofs.Ytbfialebaoeicaa.X Go.RowKit Go.Proofs.YtbfialebaoeicaaW.PrintWords
set_option linter.all false
def Evt {α : Type} (g : Nat → Option α) (r : α) : Prop := ∃ k0, ∀ k, k0 ≤ k → g k = some r
theorem Evt.succ {α : Type} {g : Nat → Option α} {r : α} (h : Evt (fun k => g (k + 1)) r) : Evt g r := by
 obtain ⟨k0, h⟩ := h
 refine ⟨k0 + 1, fun k hk => ?_⟩
 obtain ⟨j, rfl⟩ : ∃ j, k = j + 1 := ⟨k - 1, by omega⟩
 exact h j (by omega)
theorem Evt.bind {α β : Type} {g : Nat → Option α} {h : Nat → α → Option β} {a : α} {r : β} (h1 : Evt g a) (h2 : Evt (fun k => h k a) r) : Evt (fun k => (g k).bind (h k)) r := by
 obtain ⟨k1, h1⟩ := h1
 obtain ⟨k2, h2⟩ := h2
 refine ⟨k1 + k2, fun k hk => ?_⟩
 show (g k).bind (h k) = some r
 rw [h1 k (by omega)]
 exact h2 k (by omega)
theorem Evt.pure {α : Type} (r : α) : Evt (fun _ => some r) r := ⟨0, fun _ _ => rfl⟩
theorem Evt.congr {α : Type} {g g' : Nat → Option α} {r : α} (h : Evt g' r) (e : ∀ k, g k = g' k) : Evt g r := by
 obtain ⟨k0, h⟩ := h
 exact ⟨k0, fun k hk => (e k).trans (h k hk)⟩
theorem Evt.inj {α : Type} {g : Nat → Option α} {r s : α} (h1 : Evt g r) (h2 : Evt g s) : r = s := by
 obtain ⟨k1, h1⟩ := h1
 obtain ⟨k2, h2⟩ := h2
 have e1 := h1 (k1 + k2) (by omega)
 have e2 := h2 (k1 + k2) (by omega)
 rw [e1] at e2
 exact Option.some.inj e2
theorem wrap_small (n : Int) (h0 : -9223372036854775808 ≤ n) (h1 : n ≤ 9223372036854775807) : wrap64 n = n := by unfold wrap64; omega
theorem of_getD {α : Type} {l : List α} {x : α} (h : x ∈ l) (z : α) : ∃ k, k < l.length ∧ l.getD k z = x := by
 obtain ⟨k, hk, rfl⟩ := List.getElem_of_mem h
 exact ⟨k, hk, by rw [List.getD_eq_getElem?_getD, List.getElem?_eq_getElem hk]; rfl⟩
theorem cast_succ (i : Nat) : (((i + 1 : Nat)) : Int) = (i : Int) + 1 := by omega
end Go.Proofs.Ytbfialebaoeicaa.G
