/- Part 20 of the proof of the statement ShapeCopies: the words of the walks, the walks through the functions that it reaches, and the plain laws of what they compute. -/
import Derived.Test.YtbfialebaoeicaaMShapeCopies18
import Derived.RegionTactic
import Derived.ChangeAlike
import Derived.Deep.QuietTactic
import Derived.BigQuiet
namespace Go.Proofs.Ytbfialebaoeicaa.X
open Go.RowKit Go.Proofs.YtbfialebaoeicaaW.PrintWords Go.Proofs.YtbfialebaoeicaaW.PrintLast Go.Proofs.YtbfialebaoeicaaW.PrintMore
set_option linter.all false
def blockE (a b : S41) : Bool := (a.f0 == b.f0) && padE a.f1 b.f1 && eqL insE a.f2 b.f2 && endE a.f3 b.f3
def funcE (a b : S27) : Bool := (a.f0 == b.f0) && (a.f1 == b.f1) && eqL blockE a.f2 b.f2
structure BndB (b : S41) : Prop where
 ni : b.f2.length ≤ 1000000
 nc : b.f1.f1.length ≤ 1000000
 ne : b.f3.f4.length ≤ 1000000
 na : ∀ x ∈ b.f2, x.f6.length ≤ 1000000
theorem BndF.b {f : S27} (h : BndF f) : ∀ b ∈ f.f2, BndB b := fun b hb => ⟨h.ni b hb, by have := h.nc b hb; omega, h.ne b hb, h.na b hb⟩
theorem sins_p {w : World} {l r : List S49} (hb : ∀ x ∈ l, x.f6.length ≤ 1000000) : ∀ x ∈ l, ∀ y ∈ r, ∀ W : World, Below w.heap.size w W → ∀ cs ds, k49.K W x cs → k49.K W y ds → Calls Try.prog 94 #[.agg cs.toArray, .agg ds.toArray] W fun e w' => e = .returned (.bool (insE x y)) ∧ Below W.heap.size W w' := by
 intro x hx y hy W hW cs ds h1 h2
 obtain ⟨A, c, rfl, _, hC⟩ := k49_open h1
 obtain ⟨A', c', rfl, _, hC'⟩ := k49_open h2
 exact sins_c x A c y A' c' W hC hC' (hb x hx)
set_option maxHeartbeats 16000000 in
set_option maxRecDepth 100000 in
theorem sblock_c (a : S41) (A4 : Option Addr) (c4 : Nat) (A5 : Option Addr) (c5 : Nat) (A6 : Option Addr) (c6 : Nat) (b : S41) (B4 : Option Addr) (e4 : Nat) (B5 : Option Addr) (e5 : Nat) (B6 : Option Addr) (e6 : Nat) (w : World) (ha4 : Kd.C (Kd.int .u16) w A4 a.f1.f1.length a.f1.f1) (ha5 : Kd.C k49 w A5 a.f2.length a.f2) (ha6 : Kd.C (Kd.int .i64) w A6 a.f3.f4.length a.f3.f4) (hb4 : Kd.C (Kd.int .u16) w B4 b.f1.f1.length b.f1.f1) (hb5 : Kd.C k49 w B5 b.f2.length b.f2) (hb6 : Kd.C (Kd.int .i64) w B6 b.f3.f4.length b.f3.f4) (hb : BndB a) :
  Calls Try.prog 67 #[.agg #[.bool a.f0, .int .i64 a.f1.f0, .slice A4 a.f1.f1.length c4, .bool a.f1.f2, .bool a.f1.f3, .slice A5 a.f2.length c5, .int .i64 a.f3.f0, .int .i64 a.f3.f1, .int .i64 a.f3.f2, .int .i64 a.f3.f3, .slice A6 a.f3.f4.length c6, .int .i64 a.f3.f5, .int .i64 a.f3.f6, .int .i64 a.f3.f7], .agg #[.bool b.f0, .int .i64 b.f1.f0, .slice B4 b.f1.f1.length e4, .bool b.f1.f2, .bool b.f1.f3, .slice B5 b.f2.length e5, .int .i64 b.f3.f0, .int .i64 b.f3.f1, .int .i64 b.f3.f2, .int .i64 b.f3.f3, .slice B6 b.f3.f4.length e6, .int .i64 b.f3.f5, .int .i64 b.f3.f6, .int .i64 b.f3.f7]] w fun e w' => e = .returned (.bool (blockE a b)) ∧ Below w.heap.size w w' := by
 have Ha4 := Aside0.mk ha4
 have Ha5 := Aside0.mk ha5
 have Ha6 := Aside0.mk ha6
 have Hb4 := Aside0.mk hb4
 have Hb5 := Aside0.mk hb5
 have Hb6 := Aside0.mk hb6
 have HN := Aside0.mk hb
 clear ha4 ha5 ha6 hb4 hb5 hb6 hb
 have hu41 := Try.underlying41
 have hu35 := Try.underlying35
 have hu39 := Try.underlying39
 go_enter Try.func67, Try.ntmps67
 go_wp2_with (first | ((with_reducible refine gate_dst (N := 2) rfl ?_); refine box_event ?hg (N := 2) ?hd (cs := #[.bool a.f0, .int .i64 a.f1.f0, .slice A4 a.f1.f1.length c4, .bool a.f1.f2, .bool a.f1.f3, .slice A5 a.f2.length c5, .int .i64 a.f3.f0, .int .i64 a.f3.f1, .int .i64 a.f3.f2, .int .i64 a.f3.f3, .slice A6 a.f3.f4.length c6, .int .i64 a.f3.f5, .int .i64 a.f3.f6, .int .i64 a.f3.f7]) (t := 41) ?hr ?_; (case hd => rfl); (case hg => rfl); (case hr => first | (go_simp; done) | (go_simp; rfl)); intro g2 hg w2 hbox hb; have HB := Aside0.mk hb; have X2 := Aside0.mk hbox; clear hbox hb hg) | ((with_reducible refine gate_dst (N := 3) rfl ?_); refine box_event ?hg (N := 3) ?hd (cs := #[.bool b.f0, .int .i64 b.f1.f0, .slice B4 b.f1.f1.length e4, .bool b.f1.f2, .bool b.f1.f3, .slice B5 b.f2.length e5, .int .i64 b.f3.f0, .int .i64 b.f3.f1, .int .i64 b.f3.f2, .int .i64 b.f3.f3, .slice B6 b.f3.f4.length e6, .int .i64 b.f3.f5, .int .i64 b.f3.f6, .int .i64 b.f3.f7]) (t := 41) ?hr ?_; (case hd => rfl); (case hg => rfl); (case hr => first | (go_simp; done) | (go_simp; rfl)); intro g3 hg w3 hbox hb; replace HB := Aside0.mk (below_step HB.out hb); replace X2 := Aside0.mk (blk_below X2.out hb); have X3 := Aside0.mk hbox; clear hbox hb hg; obtain ⟨h0, h1, h2, h3, h4, h5, h6, h7, h8, h9, h10, h11, h12, h13⟩ := cl14 X2.out; obtain ⟨k0, k1, k2, k3, k4, k5, k6, k7, k8, k9, k10, k11, k12, k13⟩ := cl14 X3.out) | (go_at_call 92; (with_reducible refine (spad_c a.f1 A4 c4 b.f1 B4 e4 _ (Kd.C_below Ha4.out HB.out) (Kd.C_below Hb4.out HB.out) HN.out.nc).mono ?_); rintro e w6 ⟨rfl, hb⟩; clear h0 h1 h2 h3 h4 h5 h6 h7 h8 h9 h10 h11 h12 h13 k0 k1 k2 k3 k4 k5 k6 k7 k8 k9 k10 k11 k12 k13; replace HB := Aside0.mk (below_step HB.out hb); replace X2 := Aside0.mk (blk_below X2.out hb); replace X3 := Aside0.mk (blk_below X3.out hb); clear hb; obtain ⟨h0, h1, h2, h3, h4, h5, h6, h7, h8, h9, h10, h11, h12, h13⟩ := cl14 X2.out; obtain ⟨k0, k1, k2, k3, k4, k5, k6, k7, k8, k9, k10, k11, k12, k13⟩ := cl14 X3.out) | (go_at_call 93; (with_reducible refine (eqf_ins A5 c5 a.f2 B5 e5 b.f2 94 insE _ (fun args w => enters_ Try.func94 (by kernel_rfl) rfl args w) (Kd.C_below Ha5.out HB.out) (Kd.C_below Hb5.out HB.out) HN.out.ni (sins_p HN.out.na)).mono ?_); rintro e w6 ⟨rfl, hb⟩; clear h0 h1 h2 h3 h4 h5 h6 h7 h8 h9 h10 h11 h12 h13 k0 k1 k2 k3 k4 k5 k6 k7 k8 k9 k10 k11 k12 k13; replace HB := Aside0.mk (below_step HB.out hb); replace X2 := Aside0.mk (blk_below X2.out hb); replace X3 := Aside0.mk (blk_below X3.out hb); clear hb; obtain ⟨h0, h1, h2, h3, h4, h5, h6, h7, h8, h9, h10, h11, h12, h13⟩ := cl14 X2.out; obtain ⟨k0, k1, k2, k3, k4, k5, k6, k7, k8, k9, k10, k11, k12, k13⟩ := cl14 X3.out) | (go_at_call 95; (with_reducible refine (send_c a.f3 A6 c6 b.f3 B6 e6 _ (Kd.C_below Ha6.out HB.out) (Kd.C_below Hb6.out HB.out) HN.out.ne).mono ?_); rintro e w6 ⟨rfl, hb⟩; clear h0 h1 h2 h3 h4 h5 h6 h7 h8 h9 h10 h11 h12 h13 k0 k1 k2 k3 k4 k5 k6 k7 k8 k9 k10 k11 k12 k13; replace HB := Aside0.mk (below_step HB.out hb); replace X2 := Aside0.mk (blk_below X2.out hb); replace X3 := Aside0.mk (blk_below X3.out hb); clear hb; obtain ⟨h0, h1, h2, h3, h4, h5, h6, h7, h8, h9, h10, h11, h12, h13⟩ := cl14 X2.out; obtain ⟨k0, k1, k2, k3, k4, k5, k6, k7, k8, k9, k10, k11, k12, k13⟩ := cl14 X3.out))
 all_goals (go_ret; exact ⟨ret_b (by simp [blockE, *]), HB.out⟩)
theorem sblock_p {w : World} {l r : List S41} (hb : ∀ x ∈ l, BndB x) : ∀ x ∈ l, ∀ y ∈ r, ∀ W : World, Below w.heap.size w W → ∀ cs ds, k41.K W x cs → k41.K W y ds → Calls Try.prog 67 #[.agg cs.toArray, .agg ds.toArray] W fun e w' => e = .returned (.bool (blockE x y)) ∧ Below W.heap.size W w' := by
 intro x hx y hy W hW cs ds h1 h2
 obtain ⟨A, c, A2, c2, A3, c3, rfl, _, g1, _, g2, _, g3⟩ := k41_open h1
 obtain ⟨A', c', A2', c2', A3', c3', rfl, _, g1', _, g2', _, g3'⟩ := k41_open h2
 exact sblock_c x A c A2 c2 A3 c3 y A' c' A2' c2' A3' c3' W g1 g2 g3 g1' g2' g3' (hb x hx)
set_option maxHeartbeats 16000000 in
set_option maxRecDepth 100000 in
theorem same1_c (a : S27) (A1 : Option Addr) (c1 : Nat) (b : S27) (B1 : Option Addr) (e1 : Nat) (w : World) (ha : Kd.C k41 w A1 a.f2.length a.f2) (hb : Kd.C k41 w B1 b.f2.length b.f2) (hn : BndF a) :
  Calls Try.prog 65 #[.agg #[.int .i64 a.f0, .int .i64 a.f1, .slice A1 a.f2.length c1], .agg #[.int .i64 b.f0, .int .i64 b.f1, .slice B1 b.f2.length e1]] w fun e w' => e = .returned (.bool (funcE a b)) ∧ Below w.heap.size w w' := by
 have HA := Aside0.mk ha
 have HBB := Aside0.mk hb
 have HN := Aside0.mk hn
 clear ha hb hn
 have hu27 := Try.underlying27
 go_enter Try.func65, Try.ntmps65
 go_wp2_with (first | ((with_reducible refine gate_dst (N := 2) rfl ?_); refine box_event ?hg (N := 2) ?hd (cs := #[.int .i64 a.f0, .int .i64 a.f1, .slice A1 a.f2.length c1]) (t := 27) ?hr ?_; (case hd => rfl); (case hg => rfl); (case hr => first | (go_simp; done) | (go_simp; rfl)); intro g2 hg w2 hbox hb; have HB := Aside0.mk hb; have X2 := Aside0.mk hbox; clear hbox hb hg) | ((with_reducible refine gate_dst (N := 3) rfl ?_); refine box_event ?hg (N := 3) ?hd (cs := #[.int .i64 b.f0, .int .i64 b.f1, .slice B1 b.f2.length e1]) (t := 27) ?hr ?_; (case hd => rfl); (case hg => rfl); (case hr => first | (go_simp; done) | (go_simp; rfl)); intro g3 hg w3 hbox hb; replace HB := Aside0.mk (below_step HB.out hb); replace X2 := Aside0.mk (blk_below X2.out hb); have X3 := Aside0.mk hbox; clear hbox hb hg; obtain ⟨h0, h1, h2⟩ := cl3 X2.out; obtain ⟨k0, k1, k2⟩ := cl3 X3.out) | (go_at_call 66; (with_reducible refine (eqf_block A1 c1 a.f2 B1 e1 b.f2 67 blockE _ (fun args w => enters_ Try.func67 (by kernel_rfl) rfl args w) (Kd.C_below HA.out HB.out) (Kd.C_below HBB.out HB.out) HN.out.nb (sblock_p HN.out.b)).mono ?_); rintro e w6 ⟨rfl, hb⟩; clear h0 h1 h2 k0 k1 k2; replace HB := Aside0.mk (below_step HB.out hb); replace X2 := Aside0.mk (blk_below X2.out hb); replace X3 := Aside0.mk (blk_below X3.out hb); clear hb; obtain ⟨h0, h1, h2⟩ := cl3 X2.out; obtain ⟨k0, k1, k2⟩ := cl3 X3.out))
 all_goals (go_ret; exact ⟨ret_b (by simp [funcE, *]), HB.out⟩)
theorem same1_p {w : World} {l r : List S27} (hb : ∀ x ∈ l, BndF x) : ∀ x ∈ l, ∀ y ∈ r, ∀ W : World, Below w.heap.size w W → ∀ cs ds, k27.K W x cs → k27.K W y ds → Calls Try.prog 65 #[.agg cs.toArray, .agg ds.toArray] W fun e w' => e = .returned (.bool (funcE x y)) ∧ Below W.heap.size W w' := by
 intro x hx y hy W hW cs ds h1 h2
 obtain ⟨A, c, rfl, _, g1⟩ := k27_open h1
 obtain ⟨A', c', rfl, _, g1'⟩ := k27_open h2
 exact same1_c x A c y A' c' W g1 g1' (hb x hx)
set_option maxHeartbeats 16000000 in
set_option maxRecDepth 100000 in
theorem same_c (a : List S27) (A0 : Option Addr) (c0 : Nat) (b : List S27) (B0 : Option Addr) (e0 : Nat) (w : World) (ha : Kd.C k27 w A0 a.length a) (hb : Kd.C k27 w B0 b.length b) (hn : Bnd a) :
  Calls Try.prog 25 #[.agg #[.slice A0 a.length c0], .agg #[.slice B0 b.length e0]] w fun e w' => e = .returned (.bool (eqL funcE a b)) ∧ Below w.heap.size w w' := by
 have HA := Aside0.mk ha
 have HBB := Aside0.mk hb
 have HN := Aside0.mk hn
 clear ha hb hn
 have hu24 := Try.underlying24
 go_enter Try.func25, Try.ntmps25
 go_wp2_with (first | ((with_reducible refine gate_dst (N := 2) rfl ?_); refine box_event ?hg (N := 2) ?hd (cs := #[.slice A0 a.length c0]) (t := 24) ?hr ?_; (case hd => rfl); (case hg => rfl); (case hr => first | (go_simp; done) | (go_simp; rfl)); intro g2 hg w2 hbox hb; have HB := Aside0.mk hb; have X2 := Aside0.mk hbox; clear hbox hb hg) | ((with_reducible refine gate_dst (N := 3) rfl ?_); refine box_event ?hg (N := 3) ?hd (cs := #[.slice B0 b.length e0]) (t := 24) ?hr ?_; (case hd => rfl); (case hg => rfl); (case hr => first | (go_simp; done) | (go_simp; rfl)); intro g3 hg w3 hbox hb; replace HB := Aside0.mk (below_step HB.out hb); replace X2 := Aside0.mk (blk_below X2.out hb); have X3 := Aside0.mk hbox; clear hbox hb hg; have h0 := (blk_cell X2.out 0).trans rfl; have k0 := (blk_cell X3.out 0).trans rfl) | (go_at_call 64; (with_reducible refine (eqf_func A0 c0 a B0 e0 b 65 funcE _ (fun args w => enters_ Try.func65 (by kernel_rfl) rfl args w) (Kd.C_below HA.out HB.out) (Kd.C_below HBB.out HB.out) HN.out.nf (same1_p HN.out.f)).mono ?_); rintro e w6 ⟨rfl, hb⟩; clear h0 k0; replace HB := Aside0.mk (below_step HB.out hb); replace X2 := Aside0.mk (blk_below X2.out hb); replace X3 := Aside0.mk (blk_below X3.out hb); clear hb; have h0 := (blk_cell X2.out 0).trans rfl; have k0 := (blk_cell X3.out 0).trans rfl))
 all_goals (go_ret; exact ⟨rfl, HB.out⟩)
end Go.Proofs.Ytbfialebaoeicaa.X
