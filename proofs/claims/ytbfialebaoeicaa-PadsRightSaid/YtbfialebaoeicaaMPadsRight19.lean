/- Part 20 of the proof of the statement PadsRight: the words of the walks, the walks through the functions that it reaches, and the plain laws of what they compute. -/
import Derived.Test.YtbfialebaoeicaaMPadsRight18
import Derived.RegionTactic
import Derived.ChangeAlike
import Derived.Deep.QuietTactic
import Derived.BigQuiet
namespace Go.Proofs.Ytbfialebaoeicaa.X
open Go.RowKit Go.Proofs.YtbfialebaoeicaaW.PrintWords Go.Proofs.YtbfialebaoeicaaW.PrintLast Go.Proofs.YtbfialebaoeicaaW.PrintMore
set_option linter.all false
set_option maxHeartbeats 16000000 in
set_option maxRecDepth 100000 in
theorem blk1_c (m : List S27) (A0 : Option Addr) (c0 : Nat) (f : S27) (A1 : Option Addr) (c1 : Nat) (g : Nat) (x : S49) (cs : List Value) (w : World) (hm : Kd.C k27 w A0 m.length m) (hbl : Kd.C k41 w A1 f.f2.length f.f2) (hg : w.heap[g]? = some (.cells #[.slice A0 m.length c0, .int .i64 f.f0, .int .i64 f.f1, .slice A1 f.f2.length c1] 87 (0, 0))) (hx : k49.K w x cs) (hb : x.f6.length ≤ 1000000) :
  Calls Try.prog 86 (#[.agg cs.toArray] ++ #[.pointer (some ⟨g, 0, none⟩)]) w fun e w' => e = .returned (.bool ((fun x => !(insR m f.f1 x)) x)) ∧ Below w.heap.size w w' := by
 obtain ⟨A2, c2, rfl, hl2, hC2⟩ := k49_open hx
 show Calls Try.prog 86 #[.agg #[.int .i64 x.f0, .int .i64 x.f1, .int .i64 x.f2, .int .i64 x.f3, .int .u16 x.f4, .int .i64 x.f5, .slice A2 x.f6.length c2], .pointer (some ⟨g, 0, none⟩)] w _
 have HM := Aside0.mk hm
 have HL := Aside0.mk hC2
 have HN := Aside0.mk hb
 have X1 := Aside0.mk hg
 clear hm hbl hg hx hl2 hC2 hb
 have hu24 := Try.underlying24
 have hu27 := Try.underlying27
 have hu87 := Try.underlying87
 have hu49 := Try.underlying49
 have hu41 := Try.underlying41
 go_enter Try.func86, Try.ntmps86
 go_wp2_with (first | ((with_reducible refine gate_dst (N := 2) rfl ?_); refine box_event ?hg (N := 2) ?hd (cs := #[.int .i64 x.f0, .int .i64 x.f1, .int .i64 x.f2, .int .i64 x.f3, .int .u16 x.f4, .int .i64 x.f5, .slice A2 x.f6.length c2]) (t := 49) ?hr ?_; (case hd => rfl); (case hg => rfl); (case hr => first | (go_simp; done) | (go_simp; rfl)); intro g2 hg w2 hbox hb; replace X1 := Aside0.mk (blk_below X1.out hb); have HB := Aside0.mk hb; have X2 := Aside0.mk hbox; clear hbox hb hg; obtain ⟨k0, k1, k2, k3⟩ := cl4 X1.out; obtain ⟨h0, h1, h2, h3, h4, h5, h6⟩ := cl7 X2.out) | (go_at_call 87; (with_reducible refine (inl_c m A0 c0 f A1 c1 x A2 c2 _ (Kd.C_below HM.out HB.out) (Kd.C_below HL.out HB.out) HN.out).mono ?_); rintro e w6 ⟨rfl, hb⟩; have n0_ := Aside0.mk (below_step HB.out hb); clear HB hb; have HB := n0_; clear n0_))
 go_ret
 exact ⟨rfl, HB.out⟩
theorem blk1_p (m : List S27) (A0 : Option Addr) (c0 : Nat) (f : S27) (A1 : Option Addr) (c1 : Nat) (g : Nat) (l : List S49) (w : World) (hm : Kd.C k27 w A0 m.length m) (hbl : Kd.C k41 w A1 f.f2.length f.f2) (hg : w.heap[g]? = some (.cells #[.slice A0 m.length c0, .int .i64 f.f0, .int .i64 f.f1, .slice A1 f.f2.length c1] 87 (0, 0))) (hb : ∀ x ∈ l, x.f6.length ≤ 1000000) : ∀ x ∈ l, ∀ W : World, Below w.heap.size w W → ∀ cs, k49.K W x cs →
  Calls Try.prog 86 (#[.agg cs.toArray] ++ #[.pointer (some ⟨g, 0, none⟩)]) W fun e w' => e = .returned (.bool ((fun x => !(insR m f.f1 x)) x)) ∧ Below W.heap.size W w' :=
 fun x hx W hW cs hK => blk1_c m A0 c0 f A1 c1 g x cs W (Kd.C_below hm hW) (Kd.C_below hbl hW) (blk_below hg hW) hK (hb x hx)
set_option maxHeartbeats 16000000 in
set_option maxRecDepth 100000 in
theorem block_l (m : List S27) (A0 : Option Addr) (c0 : Nat) (f : S27) (A1 : Option Addr) (c1 : Nat) (n : Int) (w : World) (hm : Kd.C k27 w A0 m.length m) (hbl : Kd.C k41 w A1 f.f2.length f.f2) (h0 : 0 ≤ n) (h1 : n < (f.f2.length : Int)) (hb : BndF f) :
  Calls Try.prog 54 #[.agg #[.slice A0 m.length c0, .int .i64 f.f0, .int .i64 f.f1, .slice A1 f.f2.length c1], .int .i64 n] w fun e w' => e = .returned (.bool (blockR m f (rd_T41 f.f2 n))) ∧ Below w.heap.size w w' := by
 have HM := Aside0.mk hm
 have HBL := Aside0.mk hbl
 have HN := Aside0.mk hb
 clear hm hbl hb
 have hu24 := Try.underlying24
 have hu27 := Try.underlying27
 have hu87 := Try.underlying87
 have hu49 := Try.underlying49
 have hu41 := Try.underlying41
 obtain ⟨ad, A4, c4, A5, c5, A6, c6, e1, y0, y1, y2, y3, y4, y5, y6, y7, y8, y9, y10, y11, y12, y13, _, hC4, hl5, hC5, _, hC6⟩ := at_T41 HBL.out n h0 h1
 subst e1
 have HMB := Aside0.mk (show rd_T41 f.f2 n ∈ f.f2 from rd_mem' f.f2 z41 n h0 h1)
 generalize rd_T41 f.f2 n = b at y0 y1 y2 y3 y4 y5 y6 y7 y8 y9 y10 y11 y12 y13 hC4 hl5 hC5 hC6 HMB ⊢
 have C4 := Aside0.mk hC4
 have C5 := Aside0.mk hC5
 have C6 := Aside0.mk hC6
 clear hC4 hC5 hC6 hl5
 have p1 : (0 ≤ n) = True := eq_true h0
 have p2 : (n < (f.f2.length : Int)) = True := eq_true h1
 clear h0 h1
 have HBN := Aside0.mk (show b.f1.f1.length ≤ 20 ∧ b.f3.f4.length ≤ 1000000 ∧ b.f2.length ≤ 1000000 from ⟨HN.out.nc b HMB.out, HN.out.ne b HMB.out, HN.out.ni b HMB.out⟩)
 go_enter Try.func54, Try.ntmps54
 go_upto_region 1 with ((with_reducible refine gate_dst (N := 2) rfl ?_); refine box_event ?hg (N := 2) ?hd (cs := #[.slice A0 m.length c0, .int .i64 f.f0, .int .i64 f.f1, .slice (some ad) f.f2.length c1]) (t := 87) ?hr ?_; (case hd => rfl); (case hg => rfl); (case hr => first | (go_simp; done) | (go_simp; rfl)); intro g1 hg w1 hbox hb; have HB := Aside0.mk hb; have X1 := Aside0.mk hbox; clear hbox hb hg; obtain ⟨k0, k1, k2, k3⟩ := cl4 X1.out; have z0 := pw_cell_below HB.out y0; have z1 := pw_cell_below HB.out y1; have z2 := pw_cell_below HB.out y2; have z3 := pw_cell_below HB.out y3; have z4 := pw_cell_below HB.out y4; have z5 := pw_cell_below HB.out y5; have z6 := pw_cell_below HB.out y6; have z7 := pw_cell_below HB.out y7; have z8 := pw_cell_below HB.out y8; have z9 := pw_cell_below HB.out y9; have z10 := pw_cell_below HB.out y10; have z11 := pw_cell_below HB.out y11; have z12 := pw_cell_below HB.out y12; have z13 := pw_cell_below HB.out y13)
 go_cut [5] (fun v5 wc => ∃ g4 : Nat, v5 = .pointer (some ⟨g4, 0, none⟩) ∧ Aside0 (Below w.heap.size w wc) ∧ Aside0 (wc.heap[g1]? = some (.cells #[.slice A0 m.length c0, .int .i64 f.f0, .int .i64 f.f1, .slice (some ad) f.f2.length c1] 87 (0, 0))) ∧ Aside0 (wc.heap[g4]? = some (.cells #[.bool b.f0, .int .i64 b.f1.f0, .slice A4 b.f1.f1.length c4, .bool b.f1.f2, .bool b.f1.f3, .slice A5 b.f2.length c5, .int .i64 b.f3.f0, .int .i64 b.f3.f1, .int .i64 b.f3.f2, .int .i64 b.f3.f3, .slice A6 b.f3.f4.length c6, .int .i64 b.f3.f5, .int .i64 b.f3.f6, .int .i64 b.f3.f7] 41 (0, 0))))
 case first => go_wp2; go_meet; exact ⟨_, rfl, ⟨below_alloc HB.out _⟩, ⟨blk_alloc X1.out _⟩, ⟨blk_new _ _⟩⟩
 case rest =>
  clear HB X1 p1 p2 k0 k1 k2 k3 y0 y1 y2 y3 y4 y5 y6 y7 y8 y9 y10 y11 y12 y13 z0 z1 z2 z3 z4 z5 z6 z7 z8 z9 z10 z11 z12 z13
  obtain ⟨g4, rfl, HB, X1, X4⟩ := hcut
  obtain ⟨k0, k1, k2, k3⟩ := cl4 X1.out
  obtain ⟨h0, h1, h2, h3, h4, h5, h6, h7, h8, h9, h10, h11, h12, h13⟩ := cl14 X4.out
  by_cases h64 : (b.f2.length : Int) ≤ 64
  rotate_left
  ·have d64 : decide ((b.f2.length : Int) ≤ 64) = false := decide_eq_false h64
   have d65 : decide (b.f2.length ≤ 64) = false := decide_eq_false (by omega)
   have HZ := Aside0.mk (show blockR m f b = false by unfold blockR; rw [d65]; rfl)
   clear h64
   go_wp2
   go_ret
   exact ⟨ret_b HZ.out.symm, HB.out⟩
  have d64 : decide ((b.f2.length : Int) ≤ 64) = true := decide_eq_true h64
  have d65 : decide (b.f2.length ≤ 64) = true := decide_eq_true (by omega)
  have HV := Aside0.mk (show blockR m f b = (padR f.f1 b && endR m f b.f3 && !(b.f2.any fun x => !(insR m f.f1 x))) by rw [any_not]; unfold blockR; rw [d65]; rfl)
  clear h64
  go_wp2_with (first | (go_at_call 83; (with_reducible refine (pad_l m A0 c0 f (some ad) c1 b A4 c4 A5 c5 A6 c6 _ (Kd.C_below C4.out HB.out) HBN.out.1).mono ?_); rintro e w6 ⟨rfl, hb⟩; replace HB := Aside0.mk (below_step HB.out hb); replace X1 := Aside0.mk (blk_below X1.out hb); replace X4 := Aside0.mk (blk_below X4.out hb); clear hb k0 k1 k2 k3 h0 h1 h2 h3 h4 h5 h6 h7 h8 h9 h10 h11 h12 h13; obtain ⟨k0, k1, k2, k3⟩ := cl4 X1.out; obtain ⟨h0, h1, h2, h3, h4, h5, h6, h7, h8, h9, h10, h11, h12, h13⟩ := cl14 X4.out) | (go_at_call 84; (with_reducible refine (enl_c m A0 c0 f (some ad) c1 b.f3 A6 c6 _ (Kd.C_below HM.out HB.out) (Kd.C_below C6.out HB.out) (Kd.C_below HBL.out HB.out) HBN.out.2.1).mono ?_); rintro e w7 ⟨rfl, hb⟩; replace HB := Aside0.mk (below_step HB.out hb); replace X1 := Aside0.mk (blk_below X1.out hb); replace X4 := Aside0.mk (blk_below X4.out hb); clear hb k0 k1 k2 k3 h0 h1 h2 h3 h4 h5 h6 h7 h8 h9 h10 h11 h12 h13; obtain ⟨k0, k1, k2, k3⟩ := cl4 X1.out; obtain ⟨h0, h1, h2, h3, h4, h5, h6, h7, h8, h9, h10, h11, h12, h13⟩ := cl14 X4.out) | (go_at_call 85; (with_reducible refine (con_ins A5 c5 b.f2 86 #[.pointer (some ⟨g1, 0, none⟩)] (fun x => !(insR m f.f1 x)) _ (fun args w => enters_ Try.func86 (by kernel_rfl) rfl args w) (Kd.C_below C5.out HB.out) (blk1_p m A0 c0 f (some ad) c1 g1 b.f2 _ (Kd.C_below HM.out HB.out) (Kd.C_below HBL.out HB.out) X1.out (HN.out.na b HMB.out))).mono ?_); rintro e w8 ⟨rfl, hb⟩; replace HB := Aside0.mk (below_step HB.out hb); replace X1 := Aside0.mk (blk_below X1.out hb); replace X4 := Aside0.mk (blk_below X4.out hb); clear hb k0 k1 k2 k3 h0 h1 h2 h3 h4 h5 h6 h7 h8 h9 h10 h11 h12 h13; obtain ⟨k0, k1, k2, k3⟩ := cl4 X1.out; obtain ⟨h0, h1, h2, h3, h4, h5, h6, h7, h8, h9, h10, h11, h12, h13⟩ := cl14 X4.out))
  all_goals (go_ret; exact ⟨ret_b (by rw [HV.out]; simp [*]), HB.out⟩)
set_option maxHeartbeats 16000000 in
set_option maxRecDepth 100000 in
theorem func_l (m : List S27) (A0 : Option Addr) (c0 : Nat) (f : S27) (A1 : Option Addr) (c1 : Nat) (w : World) (hm : Kd.C k27 w A0 m.length m) (hbl : Kd.C k41 w A1 f.f2.length f.f2) (hb : BndF f) :
  Calls Try.prog 18 #[.agg #[.slice A0 m.length c0], .agg #[.int .i64 f.f0, .int .i64 f.f1, .slice A1 f.f2.length c1]] w fun e w' => e = .returned (.bool (funcR m f)) ∧ Below w.heap.size w w' := by
 have HM := Aside0.mk hm
 have HBL := Aside0.mk hbl
 have HN := Aside0.mk hb
 clear hm hbl hb
 have hu24 := Try.underlying24
 have hu27 := Try.underlying27
 have hu87 := Try.underlying87
 have hu49 := Try.underlying49
 have hu41 := Try.underlying41
 by_cases h0 : f.f2.length = 0
 ·have hz : decide ((f.f2.length : Int) < 1) = true := decide_eq_true (by omega)
  have hz2 : decide (f.f2.length < 1) = true := decide_eq_true (by omega)
  have hz3 : (f.f2.length == 0) = true := beq_iff_eq.2 h0
  have HZ := Aside0.mk (show funcR m f = false by unfold funcR sizeR; rw [decide_eq_false (show ¬ 1 ≤ f.f2.length by omega)]; simp)
  have HL0 := Aside0.mk h0
  clear h0
  go_enter Try.func18, Try.ntmps18
  go_wp2_with (first | ((with_reducible refine gate_dst (N := 2) rfl ?_); refine box_event ?hg (N := 2) ?hd (cs := #[.slice A0 m.length c0]) (t := 24) ?hr ?_; (case hd => rfl); (case hg => rfl); (case hr => first | (go_simp; done) | (go_simp; rfl)); intro g1 hg w1 hbox hb; have HB := Aside0.mk hb; have X1 := Aside0.mk hbox; clear hbox hb hg) | ((with_reducible refine gate_dst (N := 3) rfl ?_); refine box_event ?hg (N := 3) ?hd (cs := #[.int .i64 f.f0, .int .i64 f.f1, .slice A1 f.f2.length c1]) (t := 27) ?hr ?_; (case hd => rfl); (case hg => rfl); (case hr => first | (go_simp; done) | (go_simp; rfl)); intro g2 hg w2 hbox hb; replace HB := Aside0.mk (below_step HB.out hb); replace X1 := Aside0.mk (blk_below X1.out hb); have X2 := Aside0.mk hbox; clear hbox hb hg; obtain ⟨i0, i1, i2⟩ := cl3 X2.out))
  all_goals first | (go_ret; exact ⟨ret_b HZ.out.symm, HB.out⟩) | (exfalso; have := HL0.out; simp_all; done)
 have hz : decide ((f.f2.length : Int) < 1) = false := decide_eq_false (by omega)
 have hz2 : decide (f.f2.length < 1) = false := decide_eq_false (by omega)
 have hz3 : (f.f2.length == 0) = false := beq_eq_false_iff_ne.2 h0
 obtain ⟨ad, e1, hx⟩ := first_B HBL.out (by omega)
 subst e1
 have hx' : w.cell? ad = some (.bool (rd_T41 f.f2 0).f0) := hx
 have q0 : (0 < f.f2.length) = True := eq_true (by omega)
 have HPOS := Aside0.mk (show 0 < f.f2.length by omega)
 have hz4 : (f.f2 = []) = False := eq_false (fun e => h0 (by rw [e]; rfl))
 clear h0 hx
 go_enter Try.func18, Try.ntmps18
 go_upto_region 1 with (first | ((with_reducible refine gate_dst (N := 2) rfl ?_); refine box_event ?hg (N := 2) ?hd (cs := #[.slice A0 m.length c0]) (t := 24) ?hr ?_; (case hd => rfl); (case hg => rfl); (case hr => first | (go_simp; done) | (go_simp; rfl)); intro g1 hg w1 hbox hb; have HB := Aside0.mk hb; have X1 := Aside0.mk hbox; clear hbox hb hg) | ((with_reducible refine gate_dst (N := 3) rfl ?_); refine box_event ?hg (N := 3) ?hd (cs := #[.int .i64 f.f0, .int .i64 f.f1, .slice (some ad) f.f2.length c1]) (t := 27) ?hr ?_; (case hd => rfl); (case hg => rfl); (case hr => first | (go_simp; done) | (go_simp; rfl)); intro g2 hg w2 hbox hb; replace HB := Aside0.mk (below_step HB.out hb); replace X1 := Aside0.mk (blk_below X1.out hb); have X2 := Aside0.mk hbox; clear hbox hb hg; have m0 := (blk_cell X1.out 0).trans rfl; obtain ⟨i0, i1, i2⟩ := cl3 X2.out; have hx := pw_cell_below HB.out hx'))
 go_cut [45] (fun v45 wc => v45 = .bool (!sizeR f) ∧ Aside0 (Below w.heap.size w wc) ∧ Aside0 (wc.heap[g1]? = some (.cells #[.slice A0 m.length c0] 24 (0, 0))) ∧ Aside0 (wc.heap[g2]? = some (.cells #[.int .i64 f.f0, .int .i64 f.f1, .slice (some ad) f.f2.length c1] 27 (0, 0))))
 case first =>
  have d4 : decide (1 ≤ f.f2.length) = true := decide_eq_true (by have := HPOS.out; omega)
  by_cases hl : f.f2.length ≤ 64
  ·have d1 : decide ((64 : Int) < (f.f2.length : Int)) = false := decide_eq_false (by omega)
   have d2 : decide (64 < f.f2.length) = false := decide_eq_false (by omega)
   have d3 : decide (f.f2.length ≤ 64) = true := decide_eq_true hl
   clear hl
   go_wp2
   all_goals (go_meet; exact ⟨congrArg Value.bool (by unfold sizeR; rw [d3, d4]; first | (simp [*]; done) | (simp [*]; omega)), HB, X1, X2⟩)
  ·have d1 : decide ((64 : Int) < (f.f2.length : Int)) = true := decide_eq_true (by omega)
   have d2 : decide (64 < f.f2.length) = true := decide_eq_true (by omega)
   have d3 : decide (f.f2.length ≤ 64) = false := decide_eq_false hl
   clear hl
   go_wp2
   all_goals (go_meet; exact ⟨congrArg Value.bool (by unfold sizeR; rw [d3, d4]; simp), HB, X1, X2⟩)
 case rest =>
  clear HB X1 X2 m0 i0 i1 i2 hx hx' hz hz2 hz3 hz4 q0
  obtain ⟨rfl, HB, X1, X2⟩ := hcut
  have m0 := (blk_cell X1.out 0).trans rfl
  obtain ⟨i0, i1, i2⟩ := cl3 X2.out
  cases hs : sizeR f with
  | false =>
   have HZ := Aside0.mk (show funcR m f = false by unfold funcR; rw [hs]; rfl)
   go_wp2
   go_ret
   exact ⟨ret_b HZ.out.symm, HB.out⟩
  | true =>
   have HSP := Aside0.mk (show funcR m f = f.f2.all (blockR m f) by unfold funcR; rw [hs]; rfl)
   clear hs
   go_upto_region 3 with (fail)
   go_cut [5] (fun v5 wc => ∃ g5 : Nat, v5 = .pointer (some ⟨g5, 0, none⟩) ∧ Aside0 (Below w.heap.size w wc) ∧ Aside0 (wc.heap[g1]? = some (.cells #[.slice A0 m.length c0] 24 (0, 0))) ∧ Aside0 (wc.heap[g2]? = some (.cells #[.int .i64 f.f0, .int .i64 f.f1, .slice (some ad) f.f2.length c1] 27 (0, 0))) ∧ Aside0 (wc.heap[g5]? = some (.cells #[.slice A0 m.length c0, .int .i64 f.f0, .int .i64 f.f1, .slice (some ad) f.f2.length c1] 87 (0, 0))))
   case first => go_wp2; go_meet; exact ⟨_, rfl, ⟨below_alloc HB.out _⟩, ⟨blk_alloc X1.out _⟩, ⟨blk_alloc X2.out _⟩, ⟨blk_new _ _⟩⟩
   case rest =>
    clear HB X1 X2 m0 i0 i1 i2
    obtain ⟨g5, rfl, HB, X1, X2, X5⟩ := hcut
    have m0 := (blk_cell X1.out 0).trans rfl
    obtain ⟨i0, i1, i2⟩ := cl3 X2.out
    go_wp2
    clear X1 X2 m0 i0 i1 i2
    go_loopg [6, 52] 1000000 (fun gg s6 s52 wr => ∃ x : Int, s52 = .int .i64 x ∧ Aside0 (0 ≤ x ∧ x ≤ f.f2.length ∧ (f.f2.length : Int) - x ≤ gg) ∧ Aside0 ((f.f2.take x.toNat).all (blockR m f) = true) ∧ Aside0 (Below w.heap.size w wr) ∧ Aside0 (wr.heap[g5]? = some (.cells #[.slice A0 m.length c0, .int .i64 f.f0, .int .i64 f.f1, .slice (some ad) f.f2.length c1] 87 (0, 0))))
    case atStart => exact ⟨0, rfl, ⟨by have := HN.out.nb; omega⟩, ⟨by simp⟩, HB, X5⟩
    case round =>
     clear HB X5
     obtain ⟨x, rfl, HX, HA, HB, X5⟩ := hrel
     obtain ⟨k0, k1, k2, k3⟩ := cl4 X5.out
     by_cases hlt : x < (f.f2.length : Int)
     rotate_left
     ·have hd : decide (x < (f.f2.length : Int)) = false := decide_eq_false hlt
      have HE := Aside0.mk (show f.f2.all (blockR m f) = true by rw [← all_end f.f2 _ x hlt]; exact HA.out)
      clear hlt
      go_wp2
      go_ret
      exact ⟨ret_b (by rw [HSP.out, HE.out]), HB.out⟩
     have hd : decide (x < (f.f2.length : Int)) = true := decide_eq_true hlt
     have HLT := Aside0.mk hlt
     clear hlt
     have HST := Aside0.mk (all_step f.f2 z41 (blockR m f) x HX.out.1 HLT.out)
     have HNO := Aside0.mk (all_no f.f2 z41 (blockR m f) x HX.out.1 HLT.out)
     have hrd : f.f2.getD x.toNat z41 = rd_T41 f.f2 x := rfl
     rw [hrd] at HST HNO
     clear hrd
     have HCALL := Aside0.mk (block_l m A0 c0 f (some ad) c1 x wr (Kd.C_below HM.out HB.out) (Kd.C_below HBL.out HB.out) HX.out.1 HLT.out HN.out)
     generalize rd_T41 f.f2 x = b at HST HNO HCALL
     cases hbq : blockR m f b with
     | false =>
      have HBQ := Aside0.mk hbq
      clear hbq
      go_wp2_with (go_at_call 54; (with_reducible refine HCALL.out.mono ?_); rintro e w6 ⟨rfl, hb⟩; replace HB := Aside0.mk (below_step HB.out hb); replace X5 := Aside0.mk (blk_below X5.out hb); clear hb; rw [HBQ.out])
      go_ret
      exact ⟨ret_b (by rw [HSP.out, HNO.out HBQ.out]), HB.out⟩
     | true =>
      have HBQ := Aside0.mk hbq
      clear hbq
      go_wp2_with (go_at_call 54; (with_reducible refine HCALL.out.mono ?_); rintro e w6 ⟨rfl, hb⟩; replace HB := Aside0.mk (below_step HB.out hb); replace X5 := Aside0.mk (blk_below X5.out hb); clear hb; rw [HBQ.out])
      have W1 := Aside0.mk (show wrap64 (x + 1) = x + 1 from wrap_in _ (by have := HX.out; omega) (by have := HLT.out; have := HN.out.nb; omega))
      go_roundg ((f.f2.length : Int) - (x + 1)).toNat
      case measure => have h1_ := HX.out; have h2_ := HLT.out; omega
      case rel => exact ⟨x + 1, by first | (rw [W1.out]; done) | rfl | (simp only [W1.out]; done), ⟨by have := HX.out; have := HLT.out; omega⟩, ⟨by rw [HST.out, HA.out, HBQ.out]; rfl⟩, HB, X5⟩
set_option maxHeartbeats 16000000 in
set_option maxRecDepth 100000 in
theorem rgt1_c (m : List S27) (A0 : Option Addr) (c0 : Nat) (g : Nat) (f : S27) (cs : List Value) (w : World) (hm : Kd.C k27 w A0 m.length m) (hg : w.heap[g]? = some (.cells #[.slice A0 m.length c0] 24 (0, 0))) (hx : k27.K w f cs) (hb : BndF f) :
  Calls Try.prog 53 (#[.agg cs.toArray] ++ #[.pointer (some ⟨g, 0, none⟩)]) w fun e w' => e = .returned (.bool ((fun f => !(funcR m f)) f)) ∧ Below w.heap.size w w' := by
 obtain ⟨A1, c1, rfl, hl2, hC2⟩ := k27_open hx
 show Calls Try.prog 53 #[.agg #[.int .i64 f.f0, .int .i64 f.f1, .slice A1 f.f2.length c1], .pointer (some ⟨g, 0, none⟩)] w _
 have HM := Aside0.mk hm
 have HL := Aside0.mk hC2
 have HN := Aside0.mk hb
 have X1 := Aside0.mk hg
 clear hm hg hx hl2 hC2 hb
 have hu24 := Try.underlying24
 have hu27 := Try.underlying27
 have hu87 := Try.underlying87
 have hu49 := Try.underlying49
 have hu41 := Try.underlying41
 go_enter Try.func53, Try.ntmps53
 go_wp2_with (first | ((with_reducible refine gate_dst (N := 2) rfl ?_); refine box_event ?hg (N := 2) ?hd (cs := #[.int .i64 f.f0, .int .i64 f.f1, .slice A1 f.f2.length c1]) (t := 27) ?hr ?_; (case hd => rfl); (case hg => rfl); (case hr => first | (go_simp; done) | (go_simp; rfl)); intro g2 hg w2 hbox hb; replace X1 := Aside0.mk (blk_below X1.out hb); have HB := Aside0.mk hb; have X2 := Aside0.mk hbox; clear hbox hb hg; have m0 := (blk_cell X1.out 0).trans rfl; obtain ⟨i0, i1, i2⟩ := cl3 X2.out) | (go_at_call 18; (with_reducible refine (func_l m A0 c0 f A1 c1 _ (Kd.C_below HM.out HB.out) (Kd.C_below HL.out HB.out) HN.out).mono ?_); rintro e w6 ⟨rfl, hb⟩; have n0_ := Aside0.mk (below_step HB.out hb); clear HB hb; have HB := n0_; clear n0_))
 go_ret
 exact ⟨rfl, HB.out⟩
theorem rgt1_p (m : List S27) (A0 : Option Addr) (c0 : Nat) (g : Nat) (w : World) (hm : Kd.C k27 w A0 m.length m) (hg : w.heap[g]? = some (.cells #[.slice A0 m.length c0] 24 (0, 0))) (hb : Bnd m) : ∀ f ∈ m, ∀ W : World, Below w.heap.size w W → ∀ cs, k27.K W f cs →
  Calls Try.prog 53 (#[.agg cs.toArray] ++ #[.pointer (some ⟨g, 0, none⟩)]) W fun e w' => e = .returned (.bool ((fun f => !(funcR m f)) f)) ∧ Below W.heap.size W w' :=
 fun f hf W hW cs hK => rgt1_c m A0 c0 g f cs W (Kd.C_below hm hW) (blk_below hg hW) hK (hb.f f hf)
set_option maxHeartbeats 16000000 in
set_option maxRecDepth 100000 in
theorem right_l (m : List S27) (A0 : Option Addr) (c0 : Nat) (w : World) (hm : Kd.C k27 w A0 m.length m) (hb : Bnd m) :
  Calls Try.prog 16 #[.agg #[.slice A0 m.length c0]] w fun e w' => e = .returned (.bool (rightR m)) ∧ Below w.heap.size w w' := by
 have HM := Aside0.mk hm
 have HN := Aside0.mk hb
 clear hm hb
 have hu24 := Try.underlying24
 have hu27 := Try.underlying27
 have hu87 := Try.underlying87
 have hu49 := Try.underlying49
 have hu41 := Try.underlying41
 by_cases h0 : m.length = 0
 ·have hz : decide ((m.length : Int) < 1) = true := decide_eq_true (by omega)
  have hz2 : decide (m.length < 1) = true := decide_eq_true (by omega)
  have hz3 : (m.length == 0) = true := beq_iff_eq.2 h0
  have HZ := Aside0.mk (show rightR m = false by unfold rightR; rw [decide_eq_false (show ¬ 1 ≤ m.length by omega)]; rfl)
  have HL0 := Aside0.mk h0
  clear h0
  go_enter Try.func16, Try.ntmps16
  go_wp2_with ((with_reducible refine gate_dst (N := 1) rfl ?_); refine box_event ?hg (N := 1) ?hd (cs := #[.slice A0 m.length c0]) (t := 24) ?hr ?_; (case hd => rfl); (case hg => rfl); (case hr => first | (go_simp; done) | (go_simp; rfl)); intro g1 hg w1 hbox hb; have HB := Aside0.mk hb; have X1 := Aside0.mk hbox; clear hbox hb hg; have m0 := (blk_cell X1.out 0).trans rfl)
  all_goals first | (go_ret; exact ⟨ret_b HZ.out.symm, HB.out⟩) | (exfalso; have := HL0.out; simp_all; done)
 have hz : decide ((m.length : Int) < 1) = false := decide_eq_false (by omega)
 have hz2 : decide (m.length < 1) = false := decide_eq_false (by omega)
 have hz3 : (m.length == 0) = false := beq_eq_false_iff_ne.2 h0
 have hz4 : (m = []) = False := eq_false (fun e => h0 (by rw [e]; rfl))
 obtain ⟨ad, e1, hx⟩ := first_F HM.out (by omega)
 subst e1
 have hx' : w.cell? ad = some (.int .i64 (rd_T27 m 0).f0) := hx
 have q0 : (0 < m.length) = True := eq_true (by omega)
 have HPOS := Aside0.mk (show 0 < m.length by omega)
 clear h0 hx
 go_enter Try.func16, Try.ntmps16
 go_upto_region 1 with ((with_reducible refine gate_dst (N := 1) rfl ?_); refine box_event ?hg (N := 1) ?hd (cs := #[.slice (some ad) m.length c0]) (t := 24) ?hr ?_; (case hd => rfl); (case hg => rfl); (case hr => first | (go_simp; done) | (go_simp; rfl)); intro g1 hg w1 hbox hb; have HB := Aside0.mk hb; have X1 := Aside0.mk hbox; clear hbox hb hg; have m0 := (blk_cell X1.out 0).trans rfl; have hx := pw_cell_below HB.out hx')
 go_cut [20] (fun v20 wc => v20 = .bool (!(decide (1 ≤ m.length) && decide (m.length ≤ 16) && ((rd_T27 m 0).f0 == 0))) ∧ Aside0 (Below w.heap.size w wc) ∧ Aside0 (wc.heap[g1]? = some (.cells #[.slice (some ad) m.length c0] 24 (0, 0))))
 case first =>
  have d4 : decide (1 ≤ m.length) = true := decide_eq_true (by have := HPOS.out; omega)
  cases hz0 : ((rd_T27 m 0).f0 == 0) <;> (have hz1 : ((rd_T27 m 0).f0 != 0) = !((rd_T27 m 0).f0 == 0) := rfl; rw [hz0] at hz1; simp only [Bool.not_true, Bool.not_false] at hz1; by_cases hl : m.length ≤ 16)
  ·have d1 : decide ((16 : Int) < (m.length : Int)) = false := decide_eq_false (by omega)
   have d2 : decide (16 < m.length) = false := decide_eq_false (by omega)
   have d3 : decide (m.length ≤ 16) = true := decide_eq_true hl
   clear hl
   go_wp2
   go_meet
   exact ⟨congrArg Value.bool (by rw [d3, d4, hz0]; rfl), HB, X1⟩
  ·have d1 : decide ((16 : Int) < (m.length : Int)) = true := decide_eq_true (by omega)
   have d2 : decide (16 < m.length) = true := decide_eq_true (by omega)
   have d3 : decide (m.length ≤ 16) = false := decide_eq_false hl
   clear hl
   go_wp2
   go_meet
   exact ⟨congrArg Value.bool (by rw [d3, d4, hz0]; rfl), HB, X1⟩
  ·have d1 : decide ((16 : Int) < (m.length : Int)) = false := decide_eq_false (by omega)
   have d2 : decide (16 < m.length) = false := decide_eq_false (by omega)
   have d3 : decide (m.length ≤ 16) = true := decide_eq_true hl
   clear hl
   go_wp2
   go_meet
   exact ⟨congrArg Value.bool (by rw [d3, d4, hz0]; rfl), HB, X1⟩
  ·have d1 : decide ((16 : Int) < (m.length : Int)) = true := decide_eq_true (by omega)
   have d2 : decide (16 < m.length) = true := decide_eq_true (by omega)
   have d3 : decide (m.length ≤ 16) = false := decide_eq_false hl
   clear hl
   go_wp2
   go_meet
   exact ⟨congrArg Value.bool (by rw [d3, d4, hz0]; rfl), HB, X1⟩
 case rest =>
  clear HB X1 m0 hx hx' hz hz2 hz3 hz4 q0
  obtain ⟨rfl, HB, X1⟩ := hcut
  have m0 := (blk_cell X1.out 0).trans rfl
  cases hs : (decide (1 ≤ m.length) && decide (m.length ≤ 16) && ((rd_T27 m 0).f0 == 0)) with
  | false =>
   have HZ := Aside0.mk (show rightR m = false by unfold rightR; rw [hs]; rfl)
   go_wp2
   go_ret
   exact ⟨ret_b HZ.out.symm, HB.out⟩
  | true =>
   have HSP := Aside0.mk (show rightR m = !(m.any fun f => !(funcR m f)) by rw [any_not]; unfold rightR; rw [hs]; rfl)
   clear hs
   go_wp2_with (go_at_call 52; (with_reducible refine (con_func (some ad) c0 m 53 #[.pointer (some ⟨g1, 0, none⟩)] (fun f => !(funcR m f)) _ (fun args w => enters_ Try.func53 (by kernel_rfl) rfl args w) (Kd.C_below HM.out HB.out) (rgt1_p m (some ad) c0 g1 _ (Kd.C_below HM.out HB.out) X1.out HN.out)).mono ?_); rintro e w6 ⟨rfl, hb⟩; have n0_ := Aside0.mk (below_step HB.out hb); clear HB hb; have HB := n0_; clear n0_)
   go_ret
   exact ⟨ret_b HSP.out.symm, HB.out⟩
end Go.Proofs.Ytbfialebaoeicaa.X
namespace Go.Proofs.Ytbfialebaoeicaa.X
open Go.RowKit Go.Proofs.YtbfialebaoeicaaW.PrintWords Go.Proofs.YtbfialebaoeicaaW.PrintLast Go.Proofs.YtbfialebaoeicaaW.PrintMore
set_option linter.all false
def upTo {α : Type} (g : α → α) (l : List α) (i : Nat) : List α := (l.take i).map g ++ l.drop i
theorem upTo_len {α : Type} (g : α → α) (l : List α) (i : Nat) : (upTo g l i).length = l.length := by
 unfold upTo
 rw [List.length_append, List.length_map, List.length_take, List.length_drop]
 omega
theorem upTo_zero {α : Type} (g : α → α) (l : List α) : upTo g l 0 = l := by simp [upTo]
theorem upTo_all {α : Type} (g : α → α) (l : List α) {i : Nat} (h : l.length ≤ i) : upTo g l i = l.map g := by
 unfold upTo
 rw [List.take_of_length_le h, List.drop_of_length_le h, List.append_nil]
theorem upTo_at {α : Type} (g : α → α) (l : List α) (i j : Nat) : (upTo g l i)[j]? = if j < i then (l[j]?).map g else l[j]? := by
 unfold upTo
 by_cases hj : j < i
 ·rw [if_pos hj]
  by_cases hl : j < l.length
  ·rw [List.getElem?_append_left (by rw [List.length_map, List.length_take]; omega), List.getElem?_map, List.getElem?_take, if_pos hj]
  ·rw [List.getElem?_append_right (by rw [List.length_map, List.length_take]; omega), List.getElem?_eq_none (by rw [List.length_drop, List.length_map, List.length_take]; omega), List.getElem?_eq_none (by omega)]
   rfl
 ·rw [if_neg hj]
  by_cases hl : i ≤ l.length
  ·rw [List.getElem?_append_right (by rw [List.length_map, List.length_take]; omega), List.length_map, List.length_take, List.getElem?_drop]
   congr 1
   omega
  ·rw [List.getElem?_eq_none (by rw [List.length_append, List.length_map, List.length_take, List.length_drop]; omega), List.getElem?_eq_none (by omega)]
theorem upTo_get {α : Type} (g : α → α) (l : List α) (z : α) (x : Int) : (upTo g l x.toNat).getD x.toNat z = l.getD x.toNat z := by
 rw [List.getD_eq_getElem?_getD, List.getD_eq_getElem?_getD, upTo_at, if_neg (Nat.lt_irrefl _)]
theorem upTo_set {α : Type} (g : α → α) (l : List α) (z : α) (x : Int) (h0 : 0 ≤ x) (h1 : x < (l.length : Int)) {u : α} (hu : u = g (l.getD x.toNat z)) : (upTo g l x.toNat).set x.toNat u = upTo g l (x + 1).toNat := by
 have hx : x.toNat < l.length := by omega
 apply List.ext_getElem?
 intro j
 rw [List.getElem?_set, upTo_len, upTo_at, upTo_at]
 by_cases hj : x.toNat = j
 ·rw [if_pos hj, if_pos hx, if_pos (by omega), ← hj, List.getElem?_eq_getElem hx, hu, List.getD_eq_getElem?_getD, List.getElem?_eq_getElem hx]
  rfl
 ·rw [if_neg hj]
  by_cases h2 : j < x.toNat
  ·rw [if_pos h2, if_pos (by omega)]
  ·rw [if_neg h2, if_neg (by omega)]
theorem set_get {α : Type} (l : List α) (z u : α) (i : Nat) (h : i < l.length) : (l.set i u).getD i z = u := by
 rw [List.getD_eq_getElem?_getD, List.getElem?_set_self h]
 rfl
theorem set_set {α : Type} (l : List α) (u v : α) (i : Nat) : (l.set i u).set i v = l.set i v := List.set_set ..
def trimB (b : S41) : S41 := ⟨b.f0, trimP b.f1, b.f2, b.f3⟩
def goesB (f : S27) (b : S41) : Bool := (b.f3.f0 == 4) && (decide ((b.f2.length : Int) < 64) && nothB (rd_T41 f.f2 b.f3.f7))
def padB (f : S27) (b : S41) : S41 := if goesB f b = true then roundB (trimB b) else trimB b
def padF (f : S27) : S27 := ⟨f.f0, f.f1, f.f2.map (padB f)⟩
theorem noth_trim (b : S41) : nothB (trimB b) = nothB b := by
 unfold nothB trimB trimP
 by_cases h : b.f1.f2 = true
 ·rw [if_pos h, h]; simp
 ·rw [if_neg h]
theorem noth_pad (f : S27) (b : S41) : nothB (padB f b) = nothB b := by
 unfold padB
 split
 ·rename_i h
  unfold goesB at h
  simp only [Bool.and_eq_true, beq_iff_eq] at h
  unfold nothB roundB trimB
  have h4 := h.1
  simp [h4]
 ·exact noth_trim b
theorem noth_at (f : S27) (y : Nat) (n : Nat) (z : S41) (i : Nat) (b : S41) (hb : f.f2[i]? = some b) : nothB (((upTo (padB f) f.f2 y).set i (trimB b)).getD n z) = nothB (f.f2.getD n z) := by
 rw [List.getD_eq_getElem?_getD, List.getD_eq_getElem?_getD, List.getElem?_set, upTo_len, upTo_at]
 by_cases h : i = n
 ·subst h
  rw [if_pos rfl, if_pos (List.getElem?_eq_some_iff.1 hb).1, hb]
  exact noth_trim b
 ·rw [if_neg h]
  by_cases h2 : n < y
  ·rw [if_pos h2]
   cases f.f2[n]? with
   | none => rfl
   | some q => exact noth_pad f q
  ·rw [if_neg h2]
theorem pad_in {m : List S27} (h : rightR m = true) {f : S27} (hf : f ∈ m) {b : S41} (hb : b ∈ f.f2) (h4 : b.f3.f0 = 4) : 0 ≤ b.f3.f7 ∧ b.f3.f7 < (f.f2.length : Int) := by
 unfold rightR at h
 simp only [Bool.and_eq_true, List.all_eq_true] at h
 have h1 := h.2 f hf
 unfold funcR at h1
 simp only [Bool.and_eq_true, List.all_eq_true] at h1
 have h2 := h1.2 b hb
 unfold blockR at h2
 simp only [Bool.and_eq_true] at h2
 have h3 := h2.1.2
 unfold endR at h3
 rw [h4] at h3
 simp [landR, win] at h3
 omega
end Go.Proofs.Ytbfialebaoeicaa.X
namespace Go.Proofs.Ytbfialebaoeicaa.X
open Go.RowKit Go.Proofs.YtbfialebaoeicaaW.PrintWords Go.Proofs.YtbfialebaoeicaaW.PrintLast Go.Proofs.YtbfialebaoeicaaW.PrintMore
set_option linter.all false
def tF (f : S27) : S27 := ⟨f.f0, f.f1, f.f2.map trimB⟩
def goes2 (f : S27) (b : S41) : Bool := (b.f3.f0 == 4) && (decide ((b.f2.length : Int) ≤ 63) && nothB (rd_T41 f.f2 b.f3.f7))
def rB (f : S27) (b : S41) : S41 := if goes2 f b = true then roundB b else b
def rF (f : S27) : S27 := ⟨f.f0, f.f1, f.f2.map (rB f)⟩
def inn (g : S27 → S27) (h : S41 → S41) (m : List S27) (x : Nat) (f : S27) (y : Nat) : List S27 := (upTo g m x).set x ⟨f.f0, f.f1, upTo h f.f2 y⟩
theorem inn_len (g : S27 → S27) (h : S41 → S41) (m : List S27) (x : Nat) (f : S27) (y : Nat) : (inn g h m x f y).length = m.length := by
 unfold inn
 rw [List.length_set, upTo_len]
theorem inn_at (g : S27 → S27) (h : S41 → S41) (m : List S27) (x : Int) (f : S27) (y : Nat) (h0 : 0 ≤ x) (h1 : x < (m.length : Int)) : rd_T27 (inn g h m x.toNat f y) x = ⟨f.f0, f.f1, upTo h f.f2 y⟩ := by
 unfold rd_T27 inn
 exact set_get _ _ _ _ (by rw [upTo_len]; omega)
theorem inn_zero (g : S27 → S27) (h : S41 → S41) (m : List S27) (x : Int) (f : S27) (h0 : 0 ≤ x) (h1 : x < (m.length : Int)) (hf : rd_T27 m x = f) : upTo g m x.toNat = inn g h m x.toNat f 0 := by
 unfold inn
 rw [upTo_zero]
 apply List.ext_getElem?
 intro j
 rw [List.getElem?_set, upTo_len]
 by_cases hj : x.toNat = j
 ·rw [if_pos hj, if_pos (by omega), ← hj, upTo_at, if_neg (Nat.lt_irrefl _)]
  unfold rd_T27 at hf
  rw [List.getD_eq_getElem?_getD, List.getElem?_eq_getElem (by omega)] at hf
  rw [List.getElem?_eq_getElem (by omega), ← hf]
  rfl
 ·rw [if_neg hj]
theorem inn_blk (h : S41 → S41) (f : S27) (y : Int) : rd_T41 (upTo h f.f2 y.toNat) y = rd_T41 f.f2 y := upTo_get _ _ _ _
theorem inn_step (g : S27 → S27) (h : S41 → S41) (m : List S27) (x : Nat) (f : S27) (y : Int) (h0 : 0 ≤ y) (h1 : y < (f.f2.length : Int)) {b : S41} (hb : b = h (rd_T41 f.f2 y)) : (inn g h m x f y.toNat).set x ⟨f.f0, f.f1, (upTo h f.f2 y.toNat).set y.toNat b⟩ = inn g h m x f (y + 1).toNat := by
 unfold inn
 rw [set_set, upTo_set h f.f2 z41 y h0 h1 (u := b) hb]
theorem inn_stay (g : S27 → S27) (h : S41 → S41) (m : List S27) (x : Nat) (f : S27) (y : Int) (h0 : 0 ≤ y) (h1 : y < (f.f2.length : Int)) (hb : rd_T41 f.f2 y = h (rd_T41 f.f2 y)) : inn g h m x f y.toNat = inn g h m x f (y + 1).toNat := by
 have e := upTo_set h f.f2 z41 y h0 h1 (u := rd_T41 f.f2 y) hb
 unfold inn
 rw [← e]
 congr 2
 apply List.ext_getElem?
 intro j
 rw [List.getElem?_set, upTo_len]
 by_cases hj : y.toNat = j
 ·rw [if_pos hj, if_pos (by omega), ← hj, upTo_at, if_neg (Nat.lt_irrefl _), List.getElem?_eq_getElem (by omega)]
  unfold rd_T41
  rw [List.getD_eq_getElem?_getD, List.getElem?_eq_getElem (by omega)]
  rfl
 ·rw [if_neg hj]
theorem inn_all (g : S27 → S27) (h : S41 → S41) (m : List S27) (x : Int) (f : S27) {y : Nat} (hy : f.f2.length ≤ y) (h0 : 0 ≤ x) (h1 : x < (m.length : Int)) (hf : rd_T27 m x = f) (hg : g f = ⟨f.f0, f.f1, f.f2.map h⟩) : inn g h m x.toNat f y = upTo g m (x + 1).toNat := by
 unfold inn
 rw [upTo_all h f.f2 hy]
 exact upTo_set g m z27 x h0 h1 (by rw [← hg, ← hf]; rfl)
theorem trim_zero : trimB z41 = z41 := by
 unfold trimB trimP
 rw [if_neg (by decide)]
theorem getD_map_trim (l : List S41) (n : Nat) : (l.map trimB).getD n z41 = trimB (l.getD n z41) := by
 rw [List.getD_eq_getElem?_getD, List.getD_eq_getElem?_getD, List.getElem?_map]
 cases l[n]? with
 | none => exact trim_zero.symm
 | some q => rfl
theorem goes2_trim (f : S27) (b : S41) : goes2 (tF f) (trimB b) = goesB f b := by
 unfold goes2 goesB
 show ((b.f3.f0 == 4) && (decide ((b.f2.length : Int) ≤ 63) && nothB (rd_T41 (f.f2.map trimB) b.f3.f7))) = _
 have e : decide ((b.f2.length : Int) ≤ 63) = decide ((b.f2.length : Int) < 64) := by
  by_cases h : (b.f2.length : Int) ≤ 63
  ·rw [decide_eq_true h, decide_eq_true (by omega)]
  ·rw [decide_eq_false h, decide_eq_false (by omega)]
 rw [e]
 unfold rd_T41
 rw [getD_map_trim, noth_trim]
theorem rF_tF (f : S27) : rF (tF f) = padF f := by
 unfold rF padF
 show (⟨f.f0, f.f1, (f.f2.map trimB).map (rB (tF f))⟩ : S27) = _
 rw [List.map_map]
 congr 1
 apply List.map_congr_left
 intro b _
 show rB (tF f) (trimB b) = padB f b
 unfold rB padB
 rw [goes2_trim]
theorem two_maps (m : List S27) : (m.map tF).map rF = m.map padF := by
 rw [List.map_map]
 apply List.map_congr_left
 intro f _
 exact rF_tF f
theorem noth_round (f : S27) (b : S41) : nothB (rB f b) = nothB b := by
 unfold rB
 split
 ·rename_i h
  unfold goes2 at h
  simp only [Bool.and_eq_true, beq_iff_eq] at h
  have h4 := h.1
  unfold nothB roundB
  simp [h4]
 ·rfl
theorem noth_up (f : S27) (y n : Nat) : nothB ((upTo (rB f) f.f2 y).getD n z41) = nothB (f.f2.getD n z41) := by
 rw [List.getD_eq_getElem?_getD, List.getD_eq_getElem?_getD, upTo_at]
 by_cases h2 : n < y
 ·rw [if_pos h2]
  cases f.f2[n]? with
  | none => rfl
  | some q => exact noth_round f q
 ·rw [if_neg h2]
theorem pad_in2 {m : List S27} (h : rightR m = true) {f : S27} (hf : f ∈ m) {b : S41} (hb : b ∈ (tF f).f2) (h4 : b.f3.f0 = 4) : 0 ≤ b.f3.f7 ∧ b.f3.f7 < ((tF f).f2.length : Int) := by
 obtain ⟨b0, hb0, rfl⟩ := List.mem_map.1 hb
 show _ ∧ _ < ((f.f2.map trimB).length : Int)
 rw [List.length_map]
 exact pad_in (b := b0) h hf hb0 h4
structure M1 (m m1 : List S27) : Prop where
 len : m1.length = m.length
 nb : ∀ f ∈ m1, f.f2.length ≤ 1000
 ni : ∀ f ∈ m1, ∀ b ∈ f.f2, b.f2.length ≤ 1000
 pad : ∀ f ∈ m1, ∀ b ∈ f.f2, b.f3.f0 = 4 → 0 ≤ b.f3.f7 ∧ b.f3.f7 < (f.f2.length : Int)
 all : m1.map rF = m.map padF
theorem M1_of {m : List S27} (hb : BC m) (hr : rightR m = true) : M1 m (m.map tF) := by
 refine ⟨List.length_map _, fun f hf => ?_, fun f hf b hb' => ?_, fun f hf b hb' h4 => ?_, two_maps m⟩
 ·obtain ⟨f0, h0, rfl⟩ := List.mem_map.1 hf
  show (f0.f2.map trimB).length ≤ 1000
  rw [List.length_map]
  exact hb.nb f0 h0
 ·obtain ⟨f0, h0, rfl⟩ := List.mem_map.1 hf
  obtain ⟨b0, h1, rfl⟩ := List.mem_map.1 hb'
  exact hb.ni f0 h0 b0 h1
 ·obtain ⟨f0, h0, rfl⟩ := List.mem_map.1 hf
  exact pad_in2 hr h0 hb' h4
end Go.Proofs.Ytbfialebaoeicaa.X
