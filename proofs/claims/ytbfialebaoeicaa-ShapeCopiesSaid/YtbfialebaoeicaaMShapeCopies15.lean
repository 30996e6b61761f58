/- Part 16 of the proof of the statement ShapeCopies: the words of the walks, the walks through the functions that it reaches, and the plain laws of what they compute. -/
import Derived.Test.YtbfialebaoeicaaMShapeCopies14
import Derived.RegionTactic
import Derived.ChangeAlike
import Derived.Deep.QuietTactic
import Derived.BigQuiet
import Derived.Laws.CopyOwn
import Derived.Laws.MakeOwn
namespace Go.Proofs.Ytbfialebaoeicaa.X
open Go.RowKit Go.Proofs.YtbfialebaoeicaaW.PrintWords Go.Proofs.YtbfialebaoeicaaW.PrintLast Go.Proofs.YtbfialebaoeicaaW.PrintMore
set_option linter.all false
set_option maxHeartbeats 16000000 in
set_option maxRecDepth 100000 in
theorem blk1_c (m : List S27) (A0 : Option Addr) (c0 : Nat) (f : S27) (A1 : Option Addr) (c1 : Nat) (g : Nat) (x : S49) (cs : List Value) (w : World) (hm : Kd.C k27 w A0 m.length m) (hbl : Kd.C k41 w A1 f.f2.length f.f2) (hg : w.heap[g]? = some (.cells #[.slice A0 m.length c0, .int .i64 f.f0, .int .i64 f.f1, .slice A1 f.f2.length c1] 87 (0, 0))) (hx : k49.K w x cs) (hb : x.f6.length ≤ 1000000) :
  Calls Try.prog 86 (#[.agg cs.toArray] ++ #[.pointer (some ⟨g, 0, none⟩)]) w fun e w' => e = .returned (.bool ((fun x => !(insR m f.f1 x)) x)) ∧ Below w.heap.size w w' := by
 obtain ⟨A2, c2, rfl, hl2, hC2⟩ := k49_open hx
 show Calls Try.prog 86 #[.agg #[.int .i64 x.f0, .int .i64 x.f1, .int .i64 x.f2, .int .i64 x.f3, .int .u16 x.f4, .int .i64 x.f5, .slice A2 x.f6.length c2], .pointer (some ⟨g, 0, none⟩)] w _
 have HM := Aside0.mk hm
 have HL := Aside0.mk hC2
 have HN := Aside0.mk hb
 have X1 := Aside0.mk hg
 clear hm hbl hg hx hl2 hC2 hb
 have hu24 := Try.underlying24
 have hu27 := Try.underlying27
 have hu87 := Try.underlying87
 have hu49 := Try.underlying49
 have hu41 := Try.underlying41
 go_enter Try.func86, Try.ntmps86
 go_wp2_with (first | ((with_reducible refine gate_dst (N := 2) rfl ?_); refine box_event ?hg (N := 2) ?hd (cs := #[.int .i64 x.f0, .int .i64 x.f1, .int .i64 x.f2, .int .i64 x.f3, .int .u16 x.f4, .int .i64 x.f5, .slice A2 x.f6.length c2]) (t := 49) ?hr ?_; (case hd => rfl); (case hg => rfl); (case hr => first | (go_simp; done) | (go_simp; rfl)); intro g2 hg w2 hbox hb; replace X1 := Aside0.mk (blk_below X1.out hb); have HB := Aside0.mk hb; have X2 := Aside0.mk hbox; clear hbox hb hg; obtain ⟨k0, k1, k2, k3⟩ := cl4 X1.out; obtain ⟨h0, h1, h2, h3, h4, h5, h6⟩ := cl7 X2.out) | (go_at_call 87; (with_reducible refine (inl_c m A0 c0 f A1 c1 x A2 c2 _ (Kd.C_below HM.out HB.out) (Kd.C_below HL.out HB.out) HN.out).mono ?_); rintro e w6 ⟨rfl, hb⟩; have n0_ := Aside0.mk (below_step HB.out hb); clear HB hb; have HB := n0_; clear n0_))
 go_ret
 exact ⟨rfl, HB.out⟩
theorem blk1_p (m : List S27) (A0 : Option Addr) (c0 : Nat) (f : S27) (A1 : Option Addr) (c1 : Nat) (g : Nat) (l : List S49) (w : World) (hm : Kd.C k27 w A0 m.length m) (hbl : Kd.C k41 w A1 f.f2.length f.f2) (hg : w.heap[g]? = some (.cells #[.slice A0 m.length c0, .int .i64 f.f0, .int .i64 f.f1, .slice A1 f.f2.length c1] 87 (0, 0))) (hb : ∀ x ∈ l, x.f6.length ≤ 1000000) : ∀ x ∈ l, ∀ W : World, Below w.heap.size w W → ∀ cs, k49.K W x cs →
  Calls Try.prog 86 (#[.agg cs.toArray] ++ #[.pointer (some ⟨g, 0, none⟩)]) W fun e w' => e = .returned (.bool ((fun x => !(insR m f.f1 x)) x)) ∧ Below W.heap.size W w' :=
 fun x hx W hW cs hK => blk1_c m A0 c0 f A1 c1 g x cs W (Kd.C_below hm hW) (Kd.C_below hbl hW) (blk_below hg hW) hK (hb x hx)
set_option maxHeartbeats 16000000 in
set_option maxRecDepth 100000 in
theorem block_l (m : List S27) (A0 : Option Addr) (c0 : Nat) (f : S27) (A1 : Option Addr) (c1 : Nat) (n : Int) (w : World) (hm : Kd.C k27 w A0 m.length m) (hbl : Kd.C k41 w A1 f.f2.length f.f2) (h0 : 0 ≤ n) (h1 : n < (f.f2.length : Int)) (hb : BndF f) :
  Calls Try.prog 54 #[.agg #[.slice A0 m.length c0, .int .i64 f.f0, .int .i64 f.f1, .slice A1 f.f2.length c1], .int .i64 n] w fun e w' => e = .returned (.bool (blockR m f (rd_T41 f.f2 n))) ∧ Below w.heap.size w w' := by
 have HM := Aside0.mk hm
 have HBL := Aside0.mk hbl
 have HN := Aside0.mk hb
 clear hm hbl hb
 have hu24 := Try.underlying24
 have hu27 := Try.underlying27
 have hu87 := Try.underlying87
 have hu49 := Try.underlying49
 have hu41 := Try.underlying41
 obtain ⟨ad, A4, c4, A5, c5, A6, c6, e1, y0, y1, y2, y3, y4, y5, y6, y7, y8, y9, y10, y11, y12, y13, _, hC4, hl5, hC5, _, hC6⟩ := at_T41 HBL.out n h0 h1
 subst e1
 have HMB := Aside0.mk (show rd_T41 f.f2 n ∈ f.f2 from rd_mem' f.f2 z41 n h0 h1)
 generalize rd_T41 f.f2 n = b at y0 y1 y2 y3 y4 y5 y6 y7 y8 y9 y10 y11 y12 y13 hC4 hl5 hC5 hC6 HMB ⊢
 have C4 := Aside0.mk hC4
 have C5 := Aside0.mk hC5
 have C6 := Aside0.mk hC6
 clear hC4 hC5 hC6 hl5
 have p1 : (0 ≤ n) = True := eq_true h0
 have p2 : (n < (f.f2.length : Int)) = True := eq_true h1
 clear h0 h1
 have HBN := Aside0.mk (show b.f1.f1.length ≤ 20 ∧ b.f3.f4.length ≤ 1000000 ∧ b.f2.length ≤ 1000000 from ⟨HN.out.nc b HMB.out, HN.out.ne b HMB.out, HN.out.ni b HMB.out⟩)
 go_enter Try.func54, Try.ntmps54
 go_upto_region 1 with ((with_reducible refine gate_dst (N := 2) rfl ?_); refine box_event ?hg (N := 2) ?hd (cs := #[.slice A0 m.length c0, .int .i64 f.f0, .int .i64 f.f1, .slice (some ad) f.f2.length c1]) (t := 87) ?hr ?_; (case hd => rfl); (case hg => rfl); (case hr => first | (go_simp; done) | (go_simp; rfl)); intro g1 hg w1 hbox hb; have HB := Aside0.mk hb; have X1 := Aside0.mk hbox; clear hbox hb hg; obtain ⟨k0, k1, k2, k3⟩ := cl4 X1.out; have z0 := pw_cell_below HB.out y0; have z1 := pw_cell_below HB.out y1; have z2 := pw_cell_below HB.out y2; have z3 := pw_cell_below HB.out y3; have z4 := pw_cell_below HB.out y4; have z5 := pw_cell_below HB.out y5; have z6 := pw_cell_below HB.out y6; have z7 := pw_cell_below HB.out y7; have z8 := pw_cell_below HB.out y8; have z9 := pw_cell_below HB.out y9; have z10 := pw_cell_below HB.out y10; have z11 := pw_cell_below HB.out y11; have z12 := pw_cell_below HB.out y12; have z13 := pw_cell_below HB.out y13)
 go_cut [5] (fun v5 wc => ∃ g4 : Nat, v5 = .pointer (some ⟨g4, 0, none⟩) ∧ Aside0 (Below w.heap.size w wc) ∧ Aside0 (wc.heap[g1]? = some (.cells #[.slice A0 m.length c0, .int .i64 f.f0, .int .i64 f.f1, .slice (some ad) f.f2.length c1] 87 (0, 0))) ∧ Aside0 (wc.heap[g4]? = some (.cells #[.bool b.f0, .int .i64 b.f1.f0, .slice A4 b.f1.f1.length c4, .bool b.f1.f2, .bool b.f1.f3, .slice A5 b.f2.length c5, .int .i64 b.f3.f0, .int .i64 b.f3.f1, .int .i64 b.f3.f2, .int .i64 b.f3.f3, .slice A6 b.f3.f4.length c6, .int .i64 b.f3.f5, .int .i64 b.f3.f6, .int .i64 b.f3.f7] 41 (0, 0))))
 case first => go_wp2; go_meet; exact ⟨_, rfl, ⟨below_alloc HB.out _⟩, ⟨blk_alloc X1.out _⟩, ⟨blk_new _ _⟩⟩
 case rest =>
  clear HB X1 p1 p2 k0 k1 k2 k3 y0 y1 y2 y3 y4 y5 y6 y7 y8 y9 y10 y11 y12 y13 z0 z1 z2 z3 z4 z5 z6 z7 z8 z9 z10 z11 z12 z13
  obtain ⟨g4, rfl, HB, X1, X4⟩ := hcut
  obtain ⟨k0, k1, k2, k3⟩ := cl4 X1.out
  obtain ⟨h0, h1, h2, h3, h4, h5, h6, h7, h8, h9, h10, h11, h12, h13⟩ := cl14 X4.out
  by_cases h64 : (b.f2.length : Int) ≤ 64
  rotate_left
  ·have d64 : decide ((b.f2.length : Int) ≤ 64) = false := decide_eq_false h64
   have d65 : decide (b.f2.length ≤ 64) = false := decide_eq_false (by omega)
   have HZ := Aside0.mk (show blockR m f b = false by unfold blockR; rw [d65]; rfl)
   clear h64
   go_wp2
   go_ret
   exact ⟨ret_b HZ.out.symm, HB.out⟩
  have d64 : decide ((b.f2.length : Int) ≤ 64) = true := decide_eq_true h64
  have d65 : decide (b.f2.length ≤ 64) = true := decide_eq_true (by omega)
  have HV := Aside0.mk (show blockR m f b = (padR f.f1 b && endR m f b.f3 && !(b.f2.any fun x => !(insR m f.f1 x))) by rw [any_not]; unfold blockR; rw [d65]; rfl)
  clear h64
  go_wp2_with (first | (go_at_call 83; (with_reducible refine (pad_l m A0 c0 f (some ad) c1 b A4 c4 A5 c5 A6 c6 _ (Kd.C_below C4.out HB.out) HBN.out.1).mono ?_); rintro e w6 ⟨rfl, hb⟩; replace HB := Aside0.mk (below_step HB.out hb); replace X1 := Aside0.mk (blk_below X1.out hb); replace X4 := Aside0.mk (blk_below X4.out hb); clear hb k0 k1 k2 k3 h0 h1 h2 h3 h4 h5 h6 h7 h8 h9 h10 h11 h12 h13; obtain ⟨k0, k1, k2, k3⟩ := cl4 X1.out; obtain ⟨h0, h1, h2, h3, h4, h5, h6, h7, h8, h9, h10, h11, h12, h13⟩ := cl14 X4.out) | (go_at_call 84; (with_reducible refine (enl_c m A0 c0 f (some ad) c1 b.f3 A6 c6 _ (Kd.C_below HM.out HB.out) (Kd.C_below C6.out HB.out) (Kd.C_below HBL.out HB.out) HBN.out.2.1).mono ?_); rintro e w7 ⟨rfl, hb⟩; replace HB := Aside0.mk (below_step HB.out hb); replace X1 := Aside0.mk (blk_below X1.out hb); replace X4 := Aside0.mk (blk_below X4.out hb); clear hb k0 k1 k2 k3 h0 h1 h2 h3 h4 h5 h6 h7 h8 h9 h10 h11 h12 h13; obtain ⟨k0, k1, k2, k3⟩ := cl4 X1.out; obtain ⟨h0, h1, h2, h3, h4, h5, h6, h7, h8, h9, h10, h11, h12, h13⟩ := cl14 X4.out) | (go_at_call 85; (with_reducible refine (con_ins A5 c5 b.f2 86 #[.pointer (some ⟨g1, 0, none⟩)] (fun x => !(insR m f.f1 x)) _ (fun args w => enters_ Try.func86 (by kernel_rfl) rfl args w) (Kd.C_below C5.out HB.out) (blk1_p m A0 c0 f (some ad) c1 g1 b.f2 _ (Kd.C_below HM.out HB.out) (Kd.C_below HBL.out HB.out) X1.out (HN.out.na b HMB.out))).mono ?_); rintro e w8 ⟨rfl, hb⟩; replace HB := Aside0.mk (below_step HB.out hb); replace X1 := Aside0.mk (blk_below X1.out hb); replace X4 := Aside0.mk (blk_below X4.out hb); clear hb k0 k1 k2 k3 h0 h1 h2 h3 h4 h5 h6 h7 h8 h9 h10 h11 h12 h13; obtain ⟨k0, k1, k2, k3⟩ := cl4 X1.out; obtain ⟨h0, h1, h2, h3, h4, h5, h6, h7, h8, h9, h10, h11, h12, h13⟩ := cl14 X4.out))
  all_goals (go_ret; exact ⟨ret_b (by rw [HV.out]; simp [*]), HB.out⟩)
set_option maxHeartbeats 16000000 in
set_option maxRecDepth 100000 in
theorem func_l (m : List S27) (A0 : Option Addr) (c0 : Nat) (f : S27) (A1 : Option Addr) (c1 : Nat) (w : World) (hm : Kd.C k27 w A0 m.length m) (hbl : Kd.C k41 w A1 f.f2.length f.f2) (hb : BndF f) :
  Calls Try.prog 18 #[.agg #[.slice A0 m.length c0], .agg #[.int .i64 f.f0, .int .i64 f.f1, .slice A1 f.f2.length c1]] w fun e w' => e = .returned (.bool (funcR m f)) ∧ Below w.heap.size w w' := by
 have HM := Aside0.mk hm
 have HBL := Aside0.mk hbl
 have HN := Aside0.mk hb
 clear hm hbl hb
 have hu24 := Try.underlying24
 have hu27 := Try.underlying27
 have hu87 := Try.underlying87
 have hu49 := Try.underlying49
 have hu41 := Try.underlying41
 by_cases h0 : f.f2.length = 0
 ·have hz : decide ((f.f2.length : Int) < 1) = true := decide_eq_true (by omega)
  have hz2 : decide (f.f2.length < 1) = true := decide_eq_true (by omega)
  have hz3 : (f.f2.length == 0) = true := beq_iff_eq.2 h0
  have HZ := Aside0.mk (show funcR m f = false by unfold funcR sizeR; rw [decide_eq_false (show ¬ 1 ≤ f.f2.length by omega)]; simp)
  have HL0 := Aside0.mk h0
  clear h0
  go_enter Try.func18, Try.ntmps18
  go_wp2_with (first | ((with_reducible refine gate_dst (N := 2) rfl ?_); refine box_event ?hg (N := 2) ?hd (cs := #[.slice A0 m.length c0]) (t := 24) ?hr ?_; (case hd => rfl); (case hg => rfl); (case hr => first | (go_simp; done) | (go_simp; rfl)); intro g1 hg w1 hbox hb; have HB := Aside0.mk hb; have X1 := Aside0.mk hbox; clear hbox hb hg) | ((with_reducible refine gate_dst (N := 3) rfl ?_); refine box_event ?hg (N := 3) ?hd (cs := #[.int .i64 f.f0, .int .i64 f.f1, .slice A1 f.f2.length c1]) (t := 27) ?hr ?_; (case hd => rfl); (case hg => rfl); (case hr => first | (go_simp; done) | (go_simp; rfl)); intro g2 hg w2 hbox hb; replace HB := Aside0.mk (below_step HB.out hb); replace X1 := Aside0.mk (blk_below X1.out hb); have X2 := Aside0.mk hbox; clear hbox hb hg; obtain ⟨i0, i1, i2⟩ := cl3 X2.out))
  all_goals first | (go_ret; exact ⟨ret_b HZ.out.symm, HB.out⟩) | (exfalso; have := HL0.out; simp_all; done)
 have hz : decide ((f.f2.length : Int) < 1) = false := decide_eq_false (by omega)
 have hz2 : decide (f.f2.length < 1) = false := decide_eq_false (by omega)
 have hz3 : (f.f2.length == 0) = false := beq_eq_false_iff_ne.2 h0
 obtain ⟨ad, e1, hx⟩ := first_B HBL.out (by omega)
 subst e1
 have hx' : w.cell? ad = some (.bool (rd_T41 f.f2 0).f0) := hx
 have q0 : (0 < f.f2.length) = True := eq_true (by omega)
 have HPOS := Aside0.mk (show 0 < f.f2.length by omega)
 have hz4 : (f.f2 = []) = False := eq_false (fun e => h0 (by rw [e]; rfl))
 clear h0 hx
 go_enter Try.func18, Try.ntmps18
 go_upto_region 1 with (first | ((with_reducible refine gate_dst (N := 2) rfl ?_); refine box_event ?hg (N := 2) ?hd (cs := #[.slice A0 m.length c0]) (t := 24) ?hr ?_; (case hd => rfl); (case hg => rfl); (case hr => first | (go_simp; done) | (go_simp; rfl)); intro g1 hg w1 hbox hb; have HB := Aside0.mk hb; have X1 := Aside0.mk hbox; clear hbox hb hg) | ((with_reducible refine gate_dst (N := 3) rfl ?_); refine box_event ?hg (N := 3) ?hd (cs := #[.int .i64 f.f0, .int .i64 f.f1, .slice (some ad) f.f2.length c1]) (t := 27) ?hr ?_; (case hd => rfl); (case hg => rfl); (case hr => first | (go_simp; done) | (go_simp; rfl)); intro g2 hg w2 hbox hb; replace HB := Aside0.mk (below_step HB.out hb); replace X1 := Aside0.mk (blk_below X1.out hb); have X2 := Aside0.mk hbox; clear hbox hb hg; have m0 := (blk_cell X1.out 0).trans rfl; obtain ⟨i0, i1, i2⟩ := cl3 X2.out; have hx := pw_cell_below HB.out hx'))
 go_cut [45] (fun v45 wc => v45 = .bool (!sizeR f) ∧ Aside0 (Below w.heap.size w wc) ∧ Aside0 (wc.heap[g1]? = some (.cells #[.slice A0 m.length c0] 24 (0, 0))) ∧ Aside0 (wc.heap[g2]? = some (.cells #[.int .i64 f.f0, .int .i64 f.f1, .slice (some ad) f.f2.length c1] 27 (0, 0))))
 case first =>
  have d4 : decide (1 ≤ f.f2.length) = true := decide_eq_true (by have := HPOS.out; omega)
  by_cases hl : f.f2.length ≤ 64
  ·have d1 : decide ((64 : Int) < (f.f2.length : Int)) = false := decide_eq_false (by omega)
   have d2 : decide (64 < f.f2.length) = false := decide_eq_false (by omega)
   have d3 : decide (f.f2.length ≤ 64) = true := decide_eq_true hl
   clear hl
   go_wp2
   all_goals (go_meet; exact ⟨congrArg Value.bool (by unfold sizeR; rw [d3, d4]; first | (simp [*]; done) | (simp [*]; omega)), HB, X1, X2⟩)
  ·have d1 : decide ((64 : Int) < (f.f2.length : Int)) = true := decide_eq_true (by omega)
   have d2 : decide (64 < f.f2.length) = true := decide_eq_true (by omega)
   have d3 : decide (f.f2.length ≤ 64) = false := decide_eq_false hl
   clear hl
   go_wp2
   all_goals (go_meet; exact ⟨congrArg Value.bool (by unfold sizeR; rw [d3, d4]; simp), HB, X1, X2⟩)
 case rest =>
  clear HB X1 X2 m0 i0 i1 i2 hx hx' hz hz2 hz3 hz4 q0
  obtain ⟨rfl, HB, X1, X2⟩ := hcut
  have m0 := (blk_cell X1.out 0).trans rfl
  obtain ⟨i0, i1, i2⟩ := cl3 X2.out
  cases hs : sizeR f with
  | false =>
   have HZ := Aside0.mk (show funcR m f = false by unfold funcR; rw [hs]; rfl)
   go_wp2
   go_ret
   exact ⟨ret_b HZ.out.symm, HB.out⟩
  | true =>
   have HSP := Aside0.mk (show funcR m f = f.f2.all (blockR m f) by unfold funcR; rw [hs]; rfl)
   clear hs
   go_upto_region 3 with (fail)
   go_cut [5] (fun v5 wc => ∃ g5 : Nat, v5 = .pointer (some ⟨g5, 0, none⟩) ∧ Aside0 (Below w.heap.size w wc) ∧ Aside0 (wc.heap[g1]? = some (.cells #[.slice A0 m.length c0] 24 (0, 0))) ∧ Aside0 (wc.heap[g2]? = some (.cells #[.int .i64 f.f0, .int .i64 f.f1, .slice (some ad) f.f2.length c1] 27 (0, 0))) ∧ Aside0 (wc.heap[g5]? = some (.cells #[.slice A0 m.length c0, .int .i64 f.f0, .int .i64 f.f1, .slice (some ad) f.f2.length c1] 87 (0, 0))))
   case first => go_wp2; go_meet; exact ⟨_, rfl, ⟨below_alloc HB.out _⟩, ⟨blk_alloc X1.out _⟩, ⟨blk_alloc X2.out _⟩, ⟨blk_new _ _⟩⟩
   case rest =>
    clear HB X1 X2 m0 i0 i1 i2
    obtain ⟨g5, rfl, HB, X1, X2, X5⟩ := hcut
    have m0 := (blk_cell X1.out 0).trans rfl
    obtain ⟨i0, i1, i2⟩ := cl3 X2.out
    go_wp2
    clear X1 X2 m0 i0 i1 i2
    go_loopg [6, 52] 1000000 (fun gg s6 s52 wr => ∃ x : Int, s52 = .int .i64 x ∧ Aside0 (0 ≤ x ∧ x ≤ f.f2.length ∧ (f.f2.length : Int) - x ≤ gg) ∧ Aside0 ((f.f2.take x.toNat).all (blockR m f) = true) ∧ Aside0 (Below w.heap.size w wr) ∧ Aside0 (wr.heap[g5]? = some (.cells #[.slice A0 m.length c0, .int .i64 f.f0, .int .i64 f.f1, .slice (some ad) f.f2.length c1] 87 (0, 0))))
    case atStart => exact ⟨0, rfl, ⟨by have := HN.out.nb; omega⟩, ⟨by simp⟩, HB, X5⟩
    case round =>
     clear HB X5
     obtain ⟨x, rfl, HX, HA, HB, X5⟩ := hrel
     obtain ⟨k0, k1, k2, k3⟩ := cl4 X5.out
     by_cases hlt : x < (f.f2.length : Int)
     rotate_left
     ·have hd : decide (x < (f.f2.length : Int)) = false := decide_eq_false hlt
      have HE := Aside0.mk (show f.f2.all (blockR m f) = true by rw [← all_end f.f2 _ x hlt]; exact HA.out)
      clear hlt
      go_wp2
      go_ret
      exact ⟨ret_b (by rw [HSP.out, HE.out]), HB.out⟩
     have hd : decide (x < (f.f2.length : Int)) = true := decide_eq_true hlt
     have HLT := Aside0.mk hlt
     clear hlt
     have HST := Aside0.mk (all_step f.f2 z41 (blockR m f) x HX.out.1 HLT.out)
     have HNO := Aside0.mk (all_no f.f2 z41 (blockR m f) x HX.out.1 HLT.out)
     have hrd : f.f2.getD x.toNat z41 = rd_T41 f.f2 x := rfl
     rw [hrd] at HST HNO
     clear hrd
     have HCALL := Aside0.mk (block_l m A0 c0 f (some ad) c1 x wr (Kd.C_below HM.out HB.out) (Kd.C_below HBL.out HB.out) HX.out.1 HLT.out HN.out)
     generalize rd_T41 f.f2 x = b at HST HNO HCALL
     cases hbq : blockR m f b with
     | false =>
      have HBQ := Aside0.mk hbq
      clear hbq
      go_wp2_with (go_at_call 54; (with_reducible refine HCALL.out.mono ?_); rintro e w6 ⟨rfl, hb⟩; replace HB := Aside0.mk (below_step HB.out hb); replace X5 := Aside0.mk (blk_below X5.out hb); clear hb; rw [HBQ.out])
      go_ret
      exact ⟨ret_b (by rw [HSP.out, HNO.out HBQ.out]), HB.out⟩
     | true =>
      have HBQ := Aside0.mk hbq
      clear hbq
      go_wp2_with (go_at_call 54; (with_reducible refine HCALL.out.mono ?_); rintro e w6 ⟨rfl, hb⟩; replace HB := Aside0.mk (below_step HB.out hb); replace X5 := Aside0.mk (blk_below X5.out hb); clear hb; rw [HBQ.out])
      have W1 := Aside0.mk (show wrap64 (x + 1) = x + 1 from wrap_in _ (by have := HX.out; omega) (by have := HLT.out; have := HN.out.nb; omega))
      go_roundg ((f.f2.length : Int) - (x + 1)).toNat
      case measure => have h1_ := HX.out; have h2_ := HLT.out; omega
      case rel => exact ⟨x + 1, by first | (rw [W1.out]; done) | rfl | (simp only [W1.out]; done), ⟨by have := HX.out; have := HLT.out; omega⟩, ⟨by rw [HST.out, HA.out, HBQ.out]; rfl⟩, HB, X5⟩
set_option maxHeartbeats 16000000 in
set_option maxRecDepth 100000 in
theorem rgt1_c (m : List S27) (A0 : Option Addr) (c0 : Nat) (g : Nat) (f : S27) (cs : List Value) (w : World) (hm : Kd.C k27 w A0 m.length m) (hg : w.heap[g]? = some (.cells #[.slice A0 m.length c0] 24 (0, 0))) (hx : k27.K w f cs) (hb : BndF f) :
  Calls Try.prog 53 (#[.agg cs.toArray] ++ #[.pointer (some ⟨g, 0, none⟩)]) w fun e w' => e = .returned (.bool ((fun f => !(funcR m f)) f)) ∧ Below w.heap.size w w' := by
 obtain ⟨A1, c1, rfl, hl2, hC2⟩ := k27_open hx
 show Calls Try.prog 53 #[.agg #[.int .i64 f.f0, .int .i64 f.f1, .slice A1 f.f2.length c1], .pointer (some ⟨g, 0, none⟩)] w _
 have HM := Aside0.mk hm
 have HL := Aside0.mk hC2
 have HN := Aside0.mk hb
 have X1 := Aside0.mk hg
 clear hm hg hx hl2 hC2 hb
 have hu24 := Try.underlying24
 have hu27 := Try.underlying27
 have hu87 := Try.underlying87
 have hu49 := Try.underlying49
 have hu41 := Try.underlying41
 go_enter Try.func53, Try.ntmps53
 go_wp2_with (first | ((with_reducible refine gate_dst (N := 2) rfl ?_); refine box_event ?hg (N := 2) ?hd (cs := #[.int .i64 f.f0, .int .i64 f.f1, .slice A1 f.f2.length c1]) (t := 27) ?hr ?_; (case hd => rfl); (case hg => rfl); (case hr => first | (go_simp; done) | (go_simp; rfl)); intro g2 hg w2 hbox hb; replace X1 := Aside0.mk (blk_below X1.out hb); have HB := Aside0.mk hb; have X2 := Aside0.mk hbox; clear hbox hb hg; have m0 := (blk_cell X1.out 0).trans rfl; obtain ⟨i0, i1, i2⟩ := cl3 X2.out) | (go_at_call 18; (with_reducible refine (func_l m A0 c0 f A1 c1 _ (Kd.C_below HM.out HB.out) (Kd.C_below HL.out HB.out) HN.out).mono ?_); rintro e w6 ⟨rfl, hb⟩; have n0_ := Aside0.mk (below_step HB.out hb); clear HB hb; have HB := n0_; clear n0_))
 go_ret
 exact ⟨rfl, HB.out⟩
theorem rgt1_p (m : List S27) (A0 : Option Addr) (c0 : Nat) (g : Nat) (w : World) (hm : Kd.C k27 w A0 m.length m) (hg : w.heap[g]? = some (.cells #[.slice A0 m.length c0] 24 (0, 0))) (hb : Bnd m) : ∀ f ∈ m, ∀ W : World, Below w.heap.size w W → ∀ cs, k27.K W f cs →
  Calls Try.prog 53 (#[.agg cs.toArray] ++ #[.pointer (some ⟨g, 0, none⟩)]) W fun e w' => e = .returned (.bool ((fun f => !(funcR m f)) f)) ∧ Below W.heap.size W w' :=
 fun f hf W hW cs hK => rgt1_c m A0 c0 g f cs W (Kd.C_below hm hW) (blk_below hg hW) hK (hb.f f hf)
set_option maxHeartbeats 16000000 in
set_option maxRecDepth 100000 in
theorem right_l (m : List S27) (A0 : Option Addr) (c0 : Nat) (w : World) (hm : Kd.C k27 w A0 m.length m) (hb : Bnd m) :
  Calls Try.prog 16 #[.agg #[.slice A0 m.length c0]] w fun e w' => e = .returned (.bool (rightR m)) ∧ Below w.heap.size w w' := by
 have HM := Aside0.mk hm
 have HN := Aside0.mk hb
 clear hm hb
 have hu24 := Try.underlying24
 have hu27 := Try.underlying27
 have hu87 := Try.underlying87
 have hu49 := Try.underlying49
 have hu41 := Try.underlying41
 by_cases h0 : m.length = 0
 ·have hz : decide ((m.length : Int) < 1) = true := decide_eq_true (by omega)
  have hz2 : decide (m.length < 1) = true := decide_eq_true (by omega)
  have hz3 : (m.length == 0) = true := beq_iff_eq.2 h0
  have HZ := Aside0.mk (show rightR m = false by unfold rightR; rw [decide_eq_false (show ¬ 1 ≤ m.length by omega)]; rfl)
  have HL0 := Aside0.mk h0
  clear h0
  go_enter Try.func16, Try.ntmps16
  go_wp2_with ((with_reducible refine gate_dst (N := 1) rfl ?_); refine box_event ?hg (N := 1) ?hd (cs := #[.slice A0 m.length c0]) (t := 24) ?hr ?_; (case hd => rfl); (case hg => rfl); (case hr => first | (go_simp; done) | (go_simp; rfl)); intro g1 hg w1 hbox hb; have HB := Aside0.mk hb; have X1 := Aside0.mk hbox; clear hbox hb hg; have m0 := (blk_cell X1.out 0).trans rfl)
  all_goals first | (go_ret; exact ⟨ret_b HZ.out.symm, HB.out⟩) | (exfalso; have := HL0.out; simp_all; done)
 have hz : decide ((m.length : Int) < 1) = false := decide_eq_false (by omega)
 have hz2 : decide (m.length < 1) = false := decide_eq_false (by omega)
 have hz3 : (m.length == 0) = false := beq_eq_false_iff_ne.2 h0
 have hz4 : (m = []) = False := eq_false (fun e => h0 (by rw [e]; rfl))
 obtain ⟨ad, e1, hx⟩ := first_F HM.out (by omega)
 subst e1
 have hx' : w.cell? ad = some (.int .i64 (rd_T27 m 0).f0) := hx
 have q0 : (0 < m.length) = True := eq_true (by omega)
 have HPOS := Aside0.mk (show 0 < m.length by omega)
 clear h0 hx
 go_enter Try.func16, Try.ntmps16
 go_upto_region 1 with ((with_reducible refine gate_dst (N := 1) rfl ?_); refine box_event ?hg (N := 1) ?hd (cs := #[.slice (some ad) m.length c0]) (t := 24) ?hr ?_; (case hd => rfl); (case hg => rfl); (case hr => first | (go_simp; done) | (go_simp; rfl)); intro g1 hg w1 hbox hb; have HB := Aside0.mk hb; have X1 := Aside0.mk hbox; clear hbox hb hg; have m0 := (blk_cell X1.out 0).trans rfl; have hx := pw_cell_below HB.out hx')
 go_cut [20] (fun v20 wc => v20 = .bool (!(decide (1 ≤ m.length) && decide (m.length ≤ 16) && ((rd_T27 m 0).f0 == 0))) ∧ Aside0 (Below w.heap.size w wc) ∧ Aside0 (wc.heap[g1]? = some (.cells #[.slice (some ad) m.length c0] 24 (0, 0))))
 case first =>
  have d4 : decide (1 ≤ m.length) = true := decide_eq_true (by have := HPOS.out; omega)
  cases hz0 : ((rd_T27 m 0).f0 == 0) <;> (have hz1 : ((rd_T27 m 0).f0 != 0) = !((rd_T27 m 0).f0 == 0) := rfl; rw [hz0] at hz1; simp only [Bool.not_true, Bool.not_false] at hz1; by_cases hl : m.length ≤ 16)
  ·have d1 : decide ((16 : Int) < (m.length : Int)) = false := decide_eq_false (by omega)
   have d2 : decide (16 < m.length) = false := decide_eq_false (by omega)
   have d3 : decide (m.length ≤ 16) = true := decide_eq_true hl
   clear hl
   go_wp2
   go_meet
   exact ⟨congrArg Value.bool (by rw [d3, d4, hz0]; rfl), HB, X1⟩
  ·have d1 : decide ((16 : Int) < (m.length : Int)) = true := decide_eq_true (by omega)
   have d2 : decide (16 < m.length) = true := decide_eq_true (by omega)
   have d3 : decide (m.length ≤ 16) = false := decide_eq_false hl
   clear hl
   go_wp2
   go_meet
   exact ⟨congrArg Value.bool (by rw [d3, d4, hz0]; rfl), HB, X1⟩
  ·have d1 : decide ((16 : Int) < (m.length : Int)) = false := decide_eq_false (by omega)
   have d2 : decide (16 < m.length) = false := decide_eq_false (by omega)
   have d3 : decide (m.length ≤ 16) = true := decide_eq_true hl
   clear hl
   go_wp2
   go_meet
   exact ⟨congrArg Value.bool (by rw [d3, d4, hz0]; rfl), HB, X1⟩
  ·have d1 : decide ((16 : Int) < (m.length : Int)) = true := decide_eq_true (by omega)
   have d2 : decide (16 < m.length) = true := decide_eq_true (by omega)
   have d3 : decide (m.length ≤ 16) = false := decide_eq_false hl
   clear hl
   go_wp2
   go_meet
   exact ⟨congrArg Value.bool (by rw [d3, d4, hz0]; rfl), HB, X1⟩
 case rest =>
  clear HB X1 m0 hx hx' hz hz2 hz3 hz4 q0
  obtain ⟨rfl, HB, X1⟩ := hcut
  have m0 := (blk_cell X1.out 0).trans rfl
  cases hs : (decide (1 ≤ m.length) && decide (m.length ≤ 16) && ((rd_T27 m 0).f0 == 0)) with
  | false =>
   have HZ := Aside0.mk (show rightR m = false by unfold rightR; rw [hs]; rfl)
   go_wp2
   go_ret
   exact ⟨ret_b HZ.out.symm, HB.out⟩
  | true =>
   have HSP := Aside0.mk (show rightR m = !(m.any fun f => !(funcR m f)) by rw [any_not]; unfold rightR; rw [hs]; rfl)
   clear hs
   go_wp2_with (go_at_call 52; (with_reducible refine (con_func (some ad) c0 m 53 #[.pointer (some ⟨g1, 0, none⟩)] (fun f => !(funcR m f)) _ (fun args w => enters_ Try.func53 (by kernel_rfl) rfl args w) (Kd.C_below HM.out HB.out) (rgt1_p m (some ad) c0 g1 _ (Kd.C_below HM.out HB.out) X1.out HN.out)).mono ?_); rintro e w6 ⟨rfl, hb⟩; have n0_ := Aside0.mk (below_step HB.out hb); clear HB hb; have HB := n0_; clear n0_)
   go_ret
   exact ⟨ret_b HSP.out.symm, HB.out⟩
end Go.Proofs.Ytbfialebaoeicaa.X
namespace Go.Proofs.Ytbfialebaoeicaa.X
open Go.RowKit Go.Proofs.YtbfialebaoeicaaW.PrintWords Go.Proofs.YtbfialebaoeicaaW.PrintLast Go.Proofs.YtbfialebaoeicaaW.PrintMore
set_option linter.all false
theorem set_get {α : Type} (l : List α) (z u : α) (i : Nat) (h : i < l.length) : (l.set i u).getD i z = u := by
 rw [List.getD_eq_getElem?_getD, List.getElem?_set_self h]
 rfl
theorem set_set {α : Type} (l : List α) (u v : α) (i : Nat) : (l.set i u).set i v = l.set i v := List.set_set ..
end Go.Proofs.Ytbfialebaoeicaa.X
namespace Go.Proofs.Ytbfialebaoeicaa.X
open Go.RowKit Go.Proofs.YtbfialebaoeicaaW.PrintWords Go.Proofs.YtbfialebaoeicaaW.PrintLast Go.Proofs.YtbfialebaoeicaaW.PrintMore
set_option linter.all false
theorem blk_new2 (w : World) (a b : Obj) : ((w.alloc a).alloc b).heap[w.heap.size + 1]? = some b := by
 have := blk_new (w.alloc a) b
 rwa [show (w.alloc a).heap.size = w.heap.size + 1 from Array.size_push _] at this
end Go.Proofs.Ytbfialebaoeicaa.X
