/- Part 8 of the proof of the statement ShapeCopies: the words of the walks, the walks through the functions that it reaches, and the plain laws of what they compute. -/
import Derived.Test.YtbfialebaoeicaaMShapeCopies6
import Derived.RegionTactic
import Derived.ChangeAlike
import Derived.Deep.QuietTactic
import Derived.BigQuiet
namespace Go.Proofs.Ytbfialebaoeicaa.X
open Go.RowKit Go.Proofs.YtbfialebaoeicaaW.PrintWords Go.Proofs.YtbfialebaoeicaaW.PrintLast Go.Proofs.YtbfialebaoeicaaW.PrintMore
set_option linter.all false
theorem endV1 (m : List S27) (f : S27) (x : S39) (h : x.f0 = 1 ∨ x.f0 = 5) : endR m f x = (win x.f1 f.f1 && endE (⟨x.f0, x.f1, 0, 0, ([] : List Int), 0, 0, 0⟩ : S39) x) := by
 rw [Bool.eq_iff_iff]
 rcases h with h | h <;> simp [endR, endE, restR, h, eq_comm (a := (0 : Int)), eq_comm (a := ([] : List Int)), and_assoc] <;> (try (first | (constructor <;> intro hh <;> simp_all; done) | (intros; constructor <;> intro hh <;> simp_all; done)))
set_option maxHeartbeats 16000000 in
set_option maxRecDepth 100000 in
theorem enl1_c (m : List S27) (A0 : Option Addr) (c0 : Nat) (f : S27) (A1 : Option Addr) (c1 : Nat) (x : S39) (A2 : Option Addr) (c2 : Nat) (w : World) (hm : Kd.C k27 w A0 m.length m) (hl : Kd.C (Kd.int .i64) w A2 x.f4.length x.f4) (hbl : Kd.C k41 w A1 f.f2.length f.f2) (hb : x.f4.length ≤ 1000000) (h : x.f0 = 1) :
  Calls Try.prog 84 #[.agg #[.slice A0 m.length c0, .int .i64 f.f0, .int .i64 f.f1, .slice A1 f.f2.length c1], .agg #[.int .i64 x.f0, .int .i64 x.f1, .int .i64 x.f2, .int .i64 x.f3, .slice A2 x.f4.length c2, .int .i64 x.f5, .int .i64 x.f6, .int .i64 x.f7]] w fun e w' => e = .returned (.bool (endR m f x)) ∧ Below w.heap.size w w' := by
 have HM := Aside0.mk hm
 have HL := Aside0.mk hl
 have HN := Aside0.mk hb
 have HBL := Aside0.mk hbl
 clear hm hl hb hbl
 have hu24 := Try.underlying24
 have hu27 := Try.underlying27
 have hu87 := Try.underlying87
 have hu39 := Try.underlying39
 have b1 : (x.f0 == 1) = true := by rw [h]; rfl
 have HV := Aside0.mk (endV1 m f x (by omega))
 clear h
 go_enter Try.func84, Try.ntmps84
 go_upto_region 1 with (first | ((with_reducible refine gate_dst (N := 2) rfl ?_); refine box_event ?hg (N := 2) ?hd (cs := #[.slice A0 m.length c0, .int .i64 f.f0, .int .i64 f.f1, .slice A1 f.f2.length c1]) (t := 87) ?hr ?_; (case hd => rfl); (case hg => rfl); (case hr => first | (go_simp; done) | (go_simp; rfl)); intro g1 hg w1 hbox hb; have HB := Aside0.mk hb; have X1 := Aside0.mk hbox; clear hbox hb hg) | ((with_reducible refine gate_dst (N := 3) rfl ?_); refine box_event ?hg (N := 3) ?hd (cs := #[.int .i64 x.f0, .int .i64 x.f1, .int .i64 x.f2, .int .i64 x.f3, .slice A2 x.f4.length c2, .int .i64 x.f5, .int .i64 x.f6, .int .i64 x.f7]) (t := 39) ?hr ?_; (case hd => rfl); (case hg => rfl); (case hr => first | (go_simp; done) | (go_simp; rfl)); intro g2 hg w2 hbox hb; replace HB := Aside0.mk (below_step HB.out hb); replace X1 := Aside0.mk (blk_below X1.out hb); have X2 := Aside0.mk hbox; clear hbox hb hg; obtain ⟨h0, h1, h2, h3, h4, h5, h6, h7⟩ := cl8 X2.out))
 go_cut [5] (fun v5 wc => ∃ g5 : Nat, v5 = .pointer (some ⟨g5, 0, none⟩) ∧ w.heap.size ≤ g5 ∧ g1 ≠ g5 ∧ g2 ≠ g5 ∧ Aside0 (Below w.heap.size w wc) ∧ Aside0 (wc.heap[g1]? = some (.cells #[.slice A0 m.length c0, .int .i64 f.f0, .int .i64 f.f1, .slice A1 f.f2.length c1] 87 (0, 0))) ∧ Aside0 (wc.heap[g2]? = some (.cells #[.int .i64 x.f0, .int .i64 x.f1, .int .i64 x.f2, .int .i64 x.f3, .slice A2 x.f4.length c2, .int .i64 x.f5, .int .i64 x.f6, .int .i64 x.f7] 39 (0, 0))) ∧ Aside0 (wc.heap[g5]? = some (.cells #[.int .i64 x.f0, .int .i64 0, .int .i64 0, .int .i64 0, .slice none 0 0, .int .i64 0, .int .i64 0, .int .i64 0] 39 (0, 0))))
 case first => go_wp2; go_meet; exact ⟨_, rfl, HB.out.size, Nat.ne_of_lt (blk_lt X1.out), Nat.ne_of_lt (blk_lt X2.out), ⟨below_alloc HB.out _⟩, ⟨blk_alloc X1.out _⟩, ⟨blk_alloc X2.out _⟩, ⟨blk_new _ _⟩⟩
 case rest =>
  clear HB X1 X2 h0 h1 h2 h3 h4 h5 h6 h7
  obtain ⟨g5, rfl, G5, G15, G25, HB, X1, X2, X5⟩ := hcut
  obtain ⟨k0, k1, k2, k3⟩ := cl4 X1.out
  obtain ⟨h0, h1, h2, h3, h4, h5, h6, h7⟩ := cl8 X2.out
  have G15' := Aside0.mk G15
  have G25' := Aside0.mk G25
  have G5' := Aside0.mk G5
  clear G15 G25 G5
  go_upto_region 7 with (fail)
  go_cut [] (fun wc => Aside0 (Below w.heap.size w wc) ∧ Aside0 (wc.heap[g1]? = some (.cells #[.slice A0 m.length c0, .int .i64 f.f0, .int .i64 f.f1, .slice A1 f.f2.length c1] 87 (0, 0))) ∧ Aside0 (wc.heap[g2]? = some (.cells #[.int .i64 x.f0, .int .i64 x.f1, .int .i64 x.f2, .int .i64 x.f3, .slice A2 x.f4.length c2, .int .i64 x.f5, .int .i64 x.f6, .int .i64 x.f7] 39 (0, 0))) ∧ Aside0 (wc.heap[g5]? = some (.cells #[.int .i64 x.f0, .int .i64 x.f1, .int .i64 0, .int .i64 0, .slice none 0 0, .int .i64 0, .int .i64 0, .int .i64 0] 39 (0, 0))))
  case first =>
   have z1 := blk_frozen X5.out 1
   have y1 := (blk_cell X5.out 1).trans rfl
   go_wp2
   all_goals (go_wp2; go_meet; exact ⟨⟨(below_set HB.out G5'.out)⟩, ⟨(blk_far X1.out G15'.out _)⟩, ⟨(blk_far X2.out G25'.out _)⟩, ⟨(set_blk 1 _ X5.out rfl)⟩⟩)
  case rest =>
   clear HB X1 X2 X5 k0 k1 k2 k3 h0 h1 h2 h3 h4 h5 h6 h7
   obtain ⟨HB, X1, X2, X5⟩ := hcut
   obtain ⟨k0, k1, k2, k3⟩ := cl4 X1.out
   obtain ⟨h0, h1, h2, h3, h4, h5, h6, h7⟩ := cl8 X2.out
   obtain ⟨v0, v1, v2, v3, v4, v5, v6, v7⟩ := cl8 X5.out
   go_wp2_with (first | (go_at_call 104; (with_reducible refine (place_c m A0 c0 f A1 c1 _ _).mono ?_); rintro e w6 ⟨rfl, hb⟩; replace HB := Aside0.mk (below_step HB.out hb); replace X1 := Aside0.mk (blk_below X1.out hb); replace X2 := Aside0.mk (blk_below X2.out hb); replace X5 := Aside0.mk (blk_below X5.out hb); clear hb k0 k1 k2 k3 h0 h1 h2 h3 h4 h5 h6 h7 v0 v1 v2 v3 v4 v5 v6 v7; obtain ⟨k0, k1, k2, k3⟩ := cl4 X1.out; obtain ⟨h0, h1, h2, h3, h4, h5, h6, h7⟩ := cl8 X2.out; obtain ⟨v0, v1, v2, v3, v4, v5, v6, v7⟩ := cl8 X5.out) | (go_at_call 95; refine (send_c (⟨x.f0, x.f1, 0, 0, ([] : List Int), 0, 0, 0⟩ : S39) none 0 x A2 c2 _ nil_C (Kd.C_below HL.out HB.out) (Nat.zero_le _)).mono ?_; rintro e w7 ⟨rfl, hb⟩; replace HB := Aside0.mk (below_step HB.out hb); replace X1 := Aside0.mk (blk_below X1.out hb); replace X2 := Aside0.mk (blk_below X2.out hb); replace X5 := Aside0.mk (blk_below X5.out hb); clear hb k0 k1 k2 k3 h0 h1 h2 h3 h4 h5 h6 h7 v0 v1 v2 v3 v4 v5 v6 v7; obtain ⟨k0, k1, k2, k3⟩ := cl4 X1.out; obtain ⟨h0, h1, h2, h3, h4, h5, h6, h7⟩ := cl8 X2.out; obtain ⟨v0, v1, v2, v3, v4, v5, v6, v7⟩ := cl8 X5.out))
   all_goals (go_ret; exact ⟨ret_b (by rw [HV.out]; simp [*]), HB.out⟩)
set_option maxHeartbeats 16000000 in
set_option maxRecDepth 100000 in
theorem enl5_c (m : List S27) (A0 : Option Addr) (c0 : Nat) (f : S27) (A1 : Option Addr) (c1 : Nat) (x : S39) (A2 : Option Addr) (c2 : Nat) (w : World) (hm : Kd.C k27 w A0 m.length m) (hl : Kd.C (Kd.int .i64) w A2 x.f4.length x.f4) (hbl : Kd.C k41 w A1 f.f2.length f.f2) (hb : x.f4.length ≤ 1000000) (h : x.f0 = 5) :
  Calls Try.prog 84 #[.agg #[.slice A0 m.length c0, .int .i64 f.f0, .int .i64 f.f1, .slice A1 f.f2.length c1], .agg #[.int .i64 x.f0, .int .i64 x.f1, .int .i64 x.f2, .int .i64 x.f3, .slice A2 x.f4.length c2, .int .i64 x.f5, .int .i64 x.f6, .int .i64 x.f7]] w fun e w' => e = .returned (.bool (endR m f x)) ∧ Below w.heap.size w w' := by
 have HM := Aside0.mk hm
 have HL := Aside0.mk hl
 have HN := Aside0.mk hb
 have HBL := Aside0.mk hbl
 clear hm hl hb hbl
 have hu24 := Try.underlying24
 have hu27 := Try.underlying27
 have hu87 := Try.underlying87
 have hu39 := Try.underlying39
 have b1 : (x.f0 == 1) = false := by rw [h]; rfl
 have b5 : (x.f0 == 5) = true := by rw [h]; rfl
 have HV := Aside0.mk (endV1 m f x (by omega))
 clear h
 go_enter Try.func84, Try.ntmps84
 go_upto_region 1 with (first | ((with_reducible refine gate_dst (N := 2) rfl ?_); refine box_event ?hg (N := 2) ?hd (cs := #[.slice A0 m.length c0, .int .i64 f.f0, .int .i64 f.f1, .slice A1 f.f2.length c1]) (t := 87) ?hr ?_; (case hd => rfl); (case hg => rfl); (case hr => first | (go_simp; done) | (go_simp; rfl)); intro g1 hg w1 hbox hb; have HB := Aside0.mk hb; have X1 := Aside0.mk hbox; clear hbox hb hg) | ((with_reducible refine gate_dst (N := 3) rfl ?_); refine box_event ?hg (N := 3) ?hd (cs := #[.int .i64 x.f0, .int .i64 x.f1, .int .i64 x.f2, .int .i64 x.f3, .slice A2 x.f4.length c2, .int .i64 x.f5, .int .i64 x.f6, .int .i64 x.f7]) (t := 39) ?hr ?_; (case hd => rfl); (case hg => rfl); (case hr => first | (go_simp; done) | (go_simp; rfl)); intro g2 hg w2 hbox hb; replace HB := Aside0.mk (below_step HB.out hb); replace X1 := Aside0.mk (blk_below X1.out hb); have X2 := Aside0.mk hbox; clear hbox hb hg; obtain ⟨h0, h1, h2, h3, h4, h5, h6, h7⟩ := cl8 X2.out))
 go_cut [5] (fun v5 wc => ∃ g5 : Nat, v5 = .pointer (some ⟨g5, 0, none⟩) ∧ w.heap.size ≤ g5 ∧ g1 ≠ g5 ∧ g2 ≠ g5 ∧ Aside0 (Below w.heap.size w wc) ∧ Aside0 (wc.heap[g1]? = some (.cells #[.slice A0 m.length c0, .int .i64 f.f0, .int .i64 f.f1, .slice A1 f.f2.length c1] 87 (0, 0))) ∧ Aside0 (wc.heap[g2]? = some (.cells #[.int .i64 x.f0, .int .i64 x.f1, .int .i64 x.f2, .int .i64 x.f3, .slice A2 x.f4.length c2, .int .i64 x.f5, .int .i64 x.f6, .int .i64 x.f7] 39 (0, 0))) ∧ Aside0 (wc.heap[g5]? = some (.cells #[.int .i64 x.f0, .int .i64 0, .int .i64 0, .int .i64 0, .slice none 0 0, .int .i64 0, .int .i64 0, .int .i64 0] 39 (0, 0))))
 case first => go_wp2; go_meet; exact ⟨_, rfl, HB.out.size, Nat.ne_of_lt (blk_lt X1.out), Nat.ne_of_lt (blk_lt X2.out), ⟨below_alloc HB.out _⟩, ⟨blk_alloc X1.out _⟩, ⟨blk_alloc X2.out _⟩, ⟨blk_new _ _⟩⟩
 case rest =>
  clear HB X1 X2 h0 h1 h2 h3 h4 h5 h6 h7
  obtain ⟨g5, rfl, G5, G15, G25, HB, X1, X2, X5⟩ := hcut
  obtain ⟨k0, k1, k2, k3⟩ := cl4 X1.out
  obtain ⟨h0, h1, h2, h3, h4, h5, h6, h7⟩ := cl8 X2.out
  have G15' := Aside0.mk G15
  have G25' := Aside0.mk G25
  have G5' := Aside0.mk G5
  clear G15 G25 G5
  go_upto_region 7 with (fail)
  go_cut [] (fun wc => Aside0 (Below w.heap.size w wc) ∧ Aside0 (wc.heap[g1]? = some (.cells #[.slice A0 m.length c0, .int .i64 f.f0, .int .i64 f.f1, .slice A1 f.f2.length c1] 87 (0, 0))) ∧ Aside0 (wc.heap[g2]? = some (.cells #[.int .i64 x.f0, .int .i64 x.f1, .int .i64 x.f2, .int .i64 x.f3, .slice A2 x.f4.length c2, .int .i64 x.f5, .int .i64 x.f6, .int .i64 x.f7] 39 (0, 0))) ∧ Aside0 (wc.heap[g5]? = some (.cells #[.int .i64 x.f0, .int .i64 x.f1, .int .i64 0, .int .i64 0, .slice none 0 0, .int .i64 0, .int .i64 0, .int .i64 0] 39 (0, 0))))
  case first =>
   have z1 := blk_frozen X5.out 1
   have y1 := (blk_cell X5.out 1).trans rfl
   go_wp2
   all_goals (go_wp2; go_meet; exact ⟨⟨(below_set HB.out G5'.out)⟩, ⟨(blk_far X1.out G15'.out _)⟩, ⟨(blk_far X2.out G25'.out _)⟩, ⟨(set_blk 1 _ X5.out rfl)⟩⟩)
  case rest =>
   clear HB X1 X2 X5 k0 k1 k2 k3 h0 h1 h2 h3 h4 h5 h6 h7
   obtain ⟨HB, X1, X2, X5⟩ := hcut
   obtain ⟨k0, k1, k2, k3⟩ := cl4 X1.out
   obtain ⟨h0, h1, h2, h3, h4, h5, h6, h7⟩ := cl8 X2.out
   obtain ⟨v0, v1, v2, v3, v4, v5, v6, v7⟩ := cl8 X5.out
   go_wp2_with (first | (go_at_call 104; (with_reducible refine (place_c m A0 c0 f A1 c1 _ _).mono ?_); rintro e w6 ⟨rfl, hb⟩; replace HB := Aside0.mk (below_step HB.out hb); replace X1 := Aside0.mk (blk_below X1.out hb); replace X2 := Aside0.mk (blk_below X2.out hb); replace X5 := Aside0.mk (blk_below X5.out hb); clear hb k0 k1 k2 k3 h0 h1 h2 h3 h4 h5 h6 h7 v0 v1 v2 v3 v4 v5 v6 v7; obtain ⟨k0, k1, k2, k3⟩ := cl4 X1.out; obtain ⟨h0, h1, h2, h3, h4, h5, h6, h7⟩ := cl8 X2.out; obtain ⟨v0, v1, v2, v3, v4, v5, v6, v7⟩ := cl8 X5.out) | (go_at_call 95; refine (send_c (⟨x.f0, x.f1, 0, 0, ([] : List Int), 0, 0, 0⟩ : S39) none 0 x A2 c2 _ nil_C (Kd.C_below HL.out HB.out) (Nat.zero_le _)).mono ?_; rintro e w7 ⟨rfl, hb⟩; replace HB := Aside0.mk (below_step HB.out hb); replace X1 := Aside0.mk (blk_below X1.out hb); replace X2 := Aside0.mk (blk_below X2.out hb); replace X5 := Aside0.mk (blk_below X5.out hb); clear hb k0 k1 k2 k3 h0 h1 h2 h3 h4 h5 h6 h7 v0 v1 v2 v3 v4 v5 v6 v7; obtain ⟨k0, k1, k2, k3⟩ := cl4 X1.out; obtain ⟨h0, h1, h2, h3, h4, h5, h6, h7⟩ := cl8 X2.out; obtain ⟨v0, v1, v2, v3, v4, v5, v6, v7⟩ := cl8 X5.out))
   all_goals (go_ret; exact ⟨ret_b (by rw [HV.out]; simp [*]), HB.out⟩)
theorem endV2 (m : List S27) (f : S27) (x : S39) (h : x.f0 = 2) : endR m f x = (goalR f.f2 x.f5 && endE (⟨x.f0, 0, 0, 0, ([] : List Int), x.f5, 0, 0⟩ : S39) x) := by
 rw [Bool.eq_iff_iff]
 simp [endR, endE, restR, h, eq_comm (a := (0 : Int)), eq_comm (a := ([] : List Int)), and_assoc] <;> (try (first | (constructor <;> intro hh <;> simp_all; done) | (intros; constructor <;> intro hh <;> simp_all; done)))
set_option maxHeartbeats 16000000 in
set_option maxRecDepth 100000 in
theorem enl2_c (m : List S27) (A0 : Option Addr) (c0 : Nat) (f : S27) (A1 : Option Addr) (c1 : Nat) (x : S39) (A2 : Option Addr) (c2 : Nat) (w : World) (hm : Kd.C k27 w A0 m.length m) (hl : Kd.C (Kd.int .i64) w A2 x.f4.length x.f4) (hbl : Kd.C k41 w A1 f.f2.length f.f2) (hb : x.f4.length ≤ 1000000) (h : x.f0 = 2) :
  Calls Try.prog 84 #[.agg #[.slice A0 m.length c0, .int .i64 f.f0, .int .i64 f.f1, .slice A1 f.f2.length c1], .agg #[.int .i64 x.f0, .int .i64 x.f1, .int .i64 x.f2, .int .i64 x.f3, .slice A2 x.f4.length c2, .int .i64 x.f5, .int .i64 x.f6, .int .i64 x.f7]] w fun e w' => e = .returned (.bool (endR m f x)) ∧ Below w.heap.size w w' := by
 have HM := Aside0.mk hm
 have HL := Aside0.mk hl
 have HN := Aside0.mk hb
 have HBL := Aside0.mk hbl
 clear hm hl hb hbl
 have hu24 := Try.underlying24
 have hu27 := Try.underlying27
 have hu87 := Try.underlying87
 have hu39 := Try.underlying39
 have b1 : (x.f0 == 1) = false := by rw [h]; rfl
 have b5 : (x.f0 == 5) = false := by rw [h]; rfl
 have b2 : (x.f0 == 2) = true := by rw [h]; rfl
 have HV := Aside0.mk (endV2 m f x (by omega))
 clear h
 go_enter Try.func84, Try.ntmps84
 go_upto_region 1 with (first | ((with_reducible refine gate_dst (N := 2) rfl ?_); refine box_event ?hg (N := 2) ?hd (cs := #[.slice A0 m.length c0, .int .i64 f.f0, .int .i64 f.f1, .slice A1 f.f2.length c1]) (t := 87) ?hr ?_; (case hd => rfl); (case hg => rfl); (case hr => first | (go_simp; done) | (go_simp; rfl)); intro g1 hg w1 hbox hb; have HB := Aside0.mk hb; have X1 := Aside0.mk hbox; clear hbox hb hg) | ((with_reducible refine gate_dst (N := 3) rfl ?_); refine box_event ?hg (N := 3) ?hd (cs := #[.int .i64 x.f0, .int .i64 x.f1, .int .i64 x.f2, .int .i64 x.f3, .slice A2 x.f4.length c2, .int .i64 x.f5, .int .i64 x.f6, .int .i64 x.f7]) (t := 39) ?hr ?_; (case hd => rfl); (case hg => rfl); (case hr => first | (go_simp; done) | (go_simp; rfl)); intro g2 hg w2 hbox hb; replace HB := Aside0.mk (below_step HB.out hb); replace X1 := Aside0.mk (blk_below X1.out hb); have X2 := Aside0.mk hbox; clear hbox hb hg; obtain ⟨h0, h1, h2, h3, h4, h5, h6, h7⟩ := cl8 X2.out))
 go_cut [5] (fun v5 wc => ∃ g5 : Nat, v5 = .pointer (some ⟨g5, 0, none⟩) ∧ w.heap.size ≤ g5 ∧ g1 ≠ g5 ∧ g2 ≠ g5 ∧ Aside0 (Below w.heap.size w wc) ∧ Aside0 (wc.heap[g1]? = some (.cells #[.slice A0 m.length c0, .int .i64 f.f0, .int .i64 f.f1, .slice A1 f.f2.length c1] 87 (0, 0))) ∧ Aside0 (wc.heap[g2]? = some (.cells #[.int .i64 x.f0, .int .i64 x.f1, .int .i64 x.f2, .int .i64 x.f3, .slice A2 x.f4.length c2, .int .i64 x.f5, .int .i64 x.f6, .int .i64 x.f7] 39 (0, 0))) ∧ Aside0 (wc.heap[g5]? = some (.cells #[.int .i64 x.f0, .int .i64 0, .int .i64 0, .int .i64 0, .slice none 0 0, .int .i64 0, .int .i64 0, .int .i64 0] 39 (0, 0))))
 case first => go_wp2; go_meet; exact ⟨_, rfl, HB.out.size, Nat.ne_of_lt (blk_lt X1.out), Nat.ne_of_lt (blk_lt X2.out), ⟨below_alloc HB.out _⟩, ⟨blk_alloc X1.out _⟩, ⟨blk_alloc X2.out _⟩, ⟨blk_new _ _⟩⟩
 case rest =>
  clear HB X1 X2 h0 h1 h2 h3 h4 h5 h6 h7
  obtain ⟨g5, rfl, G5, G15, G25, HB, X1, X2, X5⟩ := hcut
  obtain ⟨k0, k1, k2, k3⟩ := cl4 X1.out
  obtain ⟨h0, h1, h2, h3, h4, h5, h6, h7⟩ := cl8 X2.out
  have G15' := Aside0.mk G15
  have G25' := Aside0.mk G25
  have G5' := Aside0.mk G5
  clear G15 G25 G5
  go_upto_region 10 with (fail)
  go_cut [] (fun wc => Aside0 (Below w.heap.size w wc) ∧ Aside0 (wc.heap[g1]? = some (.cells #[.slice A0 m.length c0, .int .i64 f.f0, .int .i64 f.f1, .slice A1 f.f2.length c1] 87 (0, 0))) ∧ Aside0 (wc.heap[g2]? = some (.cells #[.int .i64 x.f0, .int .i64 x.f1, .int .i64 x.f2, .int .i64 x.f3, .slice A2 x.f4.length c2, .int .i64 x.f5, .int .i64 x.f6, .int .i64 x.f7] 39 (0, 0))) ∧ Aside0 (wc.heap[g5]? = some (.cells #[.int .i64 x.f0, .int .i64 0, .int .i64 0, .int .i64 0, .slice none 0 0, .int .i64 x.f5, .int .i64 0, .int .i64 0] 39 (0, 0))))
  case first =>
   have z5 := blk_frozen X5.out 5
   have y5 := (blk_cell X5.out 5).trans rfl
   go_wp2
   all_goals (go_wp2; go_meet; exact ⟨⟨(below_set HB.out G5'.out)⟩, ⟨(blk_far X1.out G15'.out _)⟩, ⟨(blk_far X2.out G25'.out _)⟩, ⟨(set_blk 5 _ X5.out rfl)⟩⟩)
  case rest =>
   clear HB X1 X2 X5 k0 k1 k2 k3 h0 h1 h2 h3 h4 h5 h6 h7
   obtain ⟨HB, X1, X2, X5⟩ := hcut
   obtain ⟨k0, k1, k2, k3⟩ := cl4 X1.out
   obtain ⟨h0, h1, h2, h3, h4, h5, h6, h7⟩ := cl8 X2.out
   obtain ⟨v0, v1, v2, v3, v4, v5, v6, v7⟩ := cl8 X5.out
   go_wp2_with (first | (go_at_call 104; (with_reducible refine (place_c m A0 c0 f A1 c1 _ _).mono ?_); rintro e w6 ⟨rfl, hb⟩; replace HB := Aside0.mk (below_step HB.out hb); replace X1 := Aside0.mk (blk_below X1.out hb); replace X2 := Aside0.mk (blk_below X2.out hb); replace X5 := Aside0.mk (blk_below X5.out hb); clear hb k0 k1 k2 k3 h0 h1 h2 h3 h4 h5 h6 h7 v0 v1 v2 v3 v4 v5 v6 v7; obtain ⟨k0, k1, k2, k3⟩ := cl4 X1.out; obtain ⟨h0, h1, h2, h3, h4, h5, h6, h7⟩ := cl8 X2.out; obtain ⟨v0, v1, v2, v3, v4, v5, v6, v7⟩ := cl8 X5.out) | (go_at_call 95; refine (send_c (⟨x.f0, 0, 0, 0, ([] : List Int), x.f5, 0, 0⟩ : S39) none 0 x A2 c2 _ nil_C (Kd.C_below HL.out HB.out) (Nat.zero_le _)).mono ?_; rintro e w7 ⟨rfl, hb⟩; replace HB := Aside0.mk (below_step HB.out hb); replace X1 := Aside0.mk (blk_below X1.out hb); replace X2 := Aside0.mk (blk_below X2.out hb); replace X5 := Aside0.mk (blk_below X5.out hb); clear hb k0 k1 k2 k3 h0 h1 h2 h3 h4 h5 h6 h7 v0 v1 v2 v3 v4 v5 v6 v7; obtain ⟨k0, k1, k2, k3⟩ := cl4 X1.out; obtain ⟨h0, h1, h2, h3, h4, h5, h6, h7⟩ := cl8 X2.out; obtain ⟨v0, v1, v2, v3, v4, v5, v6, v7⟩ := cl8 X5.out) | (go_at_call 106; (with_reducible refine (goal_l m A0 c0 f A1 c1 _ _ (Kd.C_below HBL.out HB.out)).mono ?_); rintro e w9 ⟨rfl, hb⟩; replace HB := Aside0.mk (below_step HB.out hb); replace X1 := Aside0.mk (blk_below X1.out hb); replace X2 := Aside0.mk (blk_below X2.out hb); replace X5 := Aside0.mk (blk_below X5.out hb); clear hb k0 k1 k2 k3 h0 h1 h2 h3 h4 h5 h6 h7 v0 v1 v2 v3 v4 v5 v6 v7; obtain ⟨k0, k1, k2, k3⟩ := cl4 X1.out; obtain ⟨h0, h1, h2, h3, h4, h5, h6, h7⟩ := cl8 X2.out; obtain ⟨v0, v1, v2, v3, v4, v5, v6, v7⟩ := cl8 X5.out))
   all_goals (go_ret; exact ⟨ret_b (by rw [HV.out]; simp [*]), HB.out⟩)
theorem endV3 (m : List S27) (f : S27) (x : S39) (h : x.f0 = 3) : endR m f x = ((win x.f1 f.f1 && goalR f.f2 x.f5 && goalR f.f2 x.f6) && endE (⟨x.f0, x.f1, 0, 0, ([] : List Int), x.f5, x.f6, 0⟩ : S39) x) := by
 rw [Bool.eq_iff_iff]
 simp [endR, endE, restR, h, eq_comm (a := (0 : Int)), eq_comm (a := ([] : List Int)), and_assoc] <;> (try (first | (constructor <;> intro hh <;> simp_all; done) | (intros; constructor <;> intro hh <;> simp_all; done)))
set_option maxHeartbeats 16000000 in
set_option maxRecDepth 100000 in
theorem enl3_c (m : List S27) (A0 : Option Addr) (c0 : Nat) (f : S27) (A1 : Option Addr) (c1 : Nat) (x : S39) (A2 : Option Addr) (c2 : Nat) (w : World) (hm : Kd.C k27 w A0 m.length m) (hl : Kd.C (Kd.int .i64) w A2 x.f4.length x.f4) (hbl : Kd.C k41 w A1 f.f2.length f.f2) (hb : x.f4.length ≤ 1000000) (h : x.f0 = 3) :
  Calls Try.prog 84 #[.agg #[.slice A0 m.length c0, .int .i64 f.f0, .int .i64 f.f1, .slice A1 f.f2.length c1], .agg #[.int .i64 x.f0, .int .i64 x.f1, .int .i64 x.f2, .int .i64 x.f3, .slice A2 x.f4.length c2, .int .i64 x.f5, .int .i64 x.f6, .int .i64 x.f7]] w fun e w' => e = .returned (.bool (endR m f x)) ∧ Below w.heap.size w w' := by
 have HM := Aside0.mk hm
 have HL := Aside0.mk hl
 have HN := Aside0.mk hb
 have HBL := Aside0.mk hbl
 clear hm hl hb hbl
 have hu24 := Try.underlying24
 have hu27 := Try.underlying27
 have hu87 := Try.underlying87
 have hu39 := Try.underlying39
 have b1 : (x.f0 == 1) = false := by rw [h]; rfl
 have b5 : (x.f0 == 5) = false := by rw [h]; rfl
 have b2 : (x.f0 == 2) = false := by rw [h]; rfl
 have b3 : (x.f0 == 3) = true := by rw [h]; rfl
 have HV := Aside0.mk (endV3 m f x (by omega))
 clear h
 go_enter Try.func84, Try.ntmps84
 go_upto_region 1 with (first | ((with_reducible refine gate_dst (N := 2) rfl ?_); refine box_event ?hg (N := 2) ?hd (cs := #[.slice A0 m.length c0, .int .i64 f.f0, .int .i64 f.f1, .slice A1 f.f2.length c1]) (t := 87) ?hr ?_; (case hd => rfl); (case hg => rfl); (case hr => first | (go_simp; done) | (go_simp; rfl)); intro g1 hg w1 hbox hb; have HB := Aside0.mk hb; have X1 := Aside0.mk hbox; clear hbox hb hg) | ((with_reducible refine gate_dst (N := 3) rfl ?_); refine box_event ?hg (N := 3) ?hd (cs := #[.int .i64 x.f0, .int .i64 x.f1, .int .i64 x.f2, .int .i64 x.f3, .slice A2 x.f4.length c2, .int .i64 x.f5, .int .i64 x.f6, .int .i64 x.f7]) (t := 39) ?hr ?_; (case hd => rfl); (case hg => rfl); (case hr => first | (go_simp; done) | (go_simp; rfl)); intro g2 hg w2 hbox hb; replace HB := Aside0.mk (below_step HB.out hb); replace X1 := Aside0.mk (blk_below X1.out hb); have X2 := Aside0.mk hbox; clear hbox hb hg; obtain ⟨h0, h1, h2, h3, h4, h5, h6, h7⟩ := cl8 X2.out))
 go_cut [5] (fun v5 wc => ∃ g5 : Nat, v5 = .pointer (some ⟨g5, 0, none⟩) ∧ w.heap.size ≤ g5 ∧ g1 ≠ g5 ∧ g2 ≠ g5 ∧ Aside0 (Below w.heap.size w wc) ∧ Aside0 (wc.heap[g1]? = some (.cells #[.slice A0 m.length c0, .int .i64 f.f0, .int .i64 f.f1, .slice A1 f.f2.length c1] 87 (0, 0))) ∧ Aside0 (wc.heap[g2]? = some (.cells #[.int .i64 x.f0, .int .i64 x.f1, .int .i64 x.f2, .int .i64 x.f3, .slice A2 x.f4.length c2, .int .i64 x.f5, .int .i64 x.f6, .int .i64 x.f7] 39 (0, 0))) ∧ Aside0 (wc.heap[g5]? = some (.cells #[.int .i64 x.f0, .int .i64 0, .int .i64 0, .int .i64 0, .slice none 0 0, .int .i64 0, .int .i64 0, .int .i64 0] 39 (0, 0))))
 case first => go_wp2; go_meet; exact ⟨_, rfl, HB.out.size, Nat.ne_of_lt (blk_lt X1.out), Nat.ne_of_lt (blk_lt X2.out), ⟨below_alloc HB.out _⟩, ⟨blk_alloc X1.out _⟩, ⟨blk_alloc X2.out _⟩, ⟨blk_new _ _⟩⟩
 case rest =>
  clear HB X1 X2 h0 h1 h2 h3 h4 h5 h6 h7
  obtain ⟨g5, rfl, G5, G15, G25, HB, X1, X2, X5⟩ := hcut
  obtain ⟨k0, k1, k2, k3⟩ := cl4 X1.out
  obtain ⟨h0, h1, h2, h3, h4, h5, h6, h7⟩ := cl8 X2.out
  have G15' := Aside0.mk G15
  have G25' := Aside0.mk G25
  have G5' := Aside0.mk G5
  clear G15 G25 G5
  go_upto_region 13 with (fail)
  go_cut [] (fun wc => Aside0 (Below w.heap.size w wc) ∧ Aside0 (wc.heap[g1]? = some (.cells #[.slice A0 m.length c0, .int .i64 f.f0, .int .i64 f.f1, .slice A1 f.f2.length c1] 87 (0, 0))) ∧ Aside0 (wc.heap[g2]? = some (.cells #[.int .i64 x.f0, .int .i64 x.f1, .int .i64 x.f2, .int .i64 x.f3, .slice A2 x.f4.length c2, .int .i64 x.f5, .int .i64 x.f6, .int .i64 x.f7] 39 (0, 0))) ∧ Aside0 (wc.heap[g5]? = some (.cells #[.int .i64 x.f0, .int .i64 x.f1, .int .i64 0, .int .i64 0, .slice none 0 0, .int .i64 x.f5, .int .i64 x.f6, .int .i64 0] 39 (0, 0))))
  case first =>
   have z1 := blk_frozen X5.out 1
   have z5 := blk_frozen X5.out 5
   have z6 := blk_frozen X5.out 6
   have y1 := (blk_cell X5.out 1).trans rfl
   have y5 := (blk_cell X5.out 5).trans rfl
   have y6 := (blk_cell X5.out 6).trans rfl
   go_region
   all_goals (go_wp2; go_meet; exact ⟨⟨below_drew ((below_set (below_set (below_set HB.out G5'.out) G5'.out) G5'.out))⟩, ⟨blk_drew ((blk_far (blk_far (blk_far X1.out G15'.out _) G15'.out _) G15'.out _))⟩, ⟨blk_drew ((blk_far (blk_far (blk_far X2.out G25'.out _) G25'.out _) G25'.out _))⟩, ⟨blk_drew ((set_blk 6 _ (set_blk 5 _ (set_blk 1 _ X5.out rfl) rfl) rfl))⟩⟩)
  case rest =>
   clear HB X1 X2 X5 k0 k1 k2 k3 h0 h1 h2 h3 h4 h5 h6 h7
   obtain ⟨HB, X1, X2, X5⟩ := hcut
   obtain ⟨k0, k1, k2, k3⟩ := cl4 X1.out
   obtain ⟨h0, h1, h2, h3, h4, h5, h6, h7⟩ := cl8 X2.out
   obtain ⟨v0, v1, v2, v3, v4, v5, v6, v7⟩ := cl8 X5.out
   go_wp2_with (first | (go_at_call 104; (with_reducible refine (place_c m A0 c0 f A1 c1 _ _).mono ?_); rintro e w6 ⟨rfl, hb⟩; replace HB := Aside0.mk (below_step HB.out hb); replace X1 := Aside0.mk (blk_below X1.out hb); replace X2 := Aside0.mk (blk_below X2.out hb); replace X5 := Aside0.mk (blk_below X5.out hb); clear hb k0 k1 k2 k3 h0 h1 h2 h3 h4 h5 h6 h7 v0 v1 v2 v3 v4 v5 v6 v7; obtain ⟨k0, k1, k2, k3⟩ := cl4 X1.out; obtain ⟨h0, h1, h2, h3, h4, h5, h6, h7⟩ := cl8 X2.out; obtain ⟨v0, v1, v2, v3, v4, v5, v6, v7⟩ := cl8 X5.out) | (go_at_call 95; refine (send_c (⟨x.f0, x.f1, 0, 0, ([] : List Int), x.f5, x.f6, 0⟩ : S39) none 0 x A2 c2 _ nil_C (Kd.C_below HL.out HB.out) (Nat.zero_le _)).mono ?_; rintro e w7 ⟨rfl, hb⟩; replace HB := Aside0.mk (below_step HB.out hb); replace X1 := Aside0.mk (blk_below X1.out hb); replace X2 := Aside0.mk (blk_below X2.out hb); replace X5 := Aside0.mk (blk_below X5.out hb); clear hb k0 k1 k2 k3 h0 h1 h2 h3 h4 h5 h6 h7 v0 v1 v2 v3 v4 v5 v6 v7; obtain ⟨k0, k1, k2, k3⟩ := cl4 X1.out; obtain ⟨h0, h1, h2, h3, h4, h5, h6, h7⟩ := cl8 X2.out; obtain ⟨v0, v1, v2, v3, v4, v5, v6, v7⟩ := cl8 X5.out) | (go_at_call 106; (with_reducible refine (goal_l m A0 c0 f A1 c1 _ _ (Kd.C_below HBL.out HB.out)).mono ?_); rintro e w9 ⟨rfl, hb⟩; replace HB := Aside0.mk (below_step HB.out hb); replace X1 := Aside0.mk (blk_below X1.out hb); replace X2 := Aside0.mk (blk_below X2.out hb); replace X5 := Aside0.mk (blk_below X5.out hb); clear hb k0 k1 k2 k3 h0 h1 h2 h3 h4 h5 h6 h7 v0 v1 v2 v3 v4 v5 v6 v7; obtain ⟨k0, k1, k2, k3⟩ := cl4 X1.out; obtain ⟨h0, h1, h2, h3, h4, h5, h6, h7⟩ := cl8 X2.out; obtain ⟨v0, v1, v2, v3, v4, v5, v6, v7⟩ := cl8 X5.out))
   all_goals (go_ret; exact ⟨ret_b (by rw [HV.out]; simp [*]), HB.out⟩)
theorem endV4 (m : List S27) (f : S27) (x : S39) (h : x.f0 = 4) : endR m f x = ((win x.f2 f.f1 && argsR m f.f1 x.f3 x.f4 && goalR f.f2 x.f5 && landR f.f2 x.f7) && endE (⟨x.f0, 0, x.f2, x.f3, x.f4, x.f5, 0, x.f7⟩ : S39) x) := by
 rw [Bool.eq_iff_iff]
 simp [endR, endE, restR, h, eq_comm (a := (0 : Int)), eq_comm (a := ([] : List Int)), and_assoc] <;> (try (first | (constructor <;> intro hh <;> simp_all; done) | (intros; constructor <;> intro hh <;> simp_all; done)))
set_option maxHeartbeats 16000000 in
set_option maxRecDepth 100000 in
theorem enl4_c (m : List S27) (A0 : Option Addr) (c0 : Nat) (f : S27) (A1 : Option Addr) (c1 : Nat) (x : S39) (A2 : Option Addr) (c2 : Nat) (w : World) (hm : Kd.C k27 w A0 m.length m) (hl : Kd.C (Kd.int .i64) w A2 x.f4.length x.f4) (hbl : Kd.C k41 w A1 f.f2.length f.f2) (hb : x.f4.length ≤ 1000000) (h : x.f0 = 4) :
  Calls Try.prog 84 #[.agg #[.slice A0 m.length c0, .int .i64 f.f0, .int .i64 f.f1, .slice A1 f.f2.length c1], .agg #[.int .i64 x.f0, .int .i64 x.f1, .int .i64 x.f2, .int .i64 x.f3, .slice A2 x.f4.length c2, .int .i64 x.f5, .int .i64 x.f6, .int .i64 x.f7]] w fun e w' => e = .returned (.bool (endR m f x)) ∧ Below w.heap.size w w' := by
 have HM := Aside0.mk hm
 have HL := Aside0.mk hl
 have HN := Aside0.mk hb
 have HBL := Aside0.mk hbl
 clear hm hl hb hbl
 have hu24 := Try.underlying24
 have hu27 := Try.underlying27
 have hu87 := Try.underlying87
 have hu39 := Try.underlying39
 have b1 : (x.f0 == 1) = false := by rw [h]; rfl
 have b5 : (x.f0 == 5) = false := by rw [h]; rfl
 have b2 : (x.f0 == 2) = false := by rw [h]; rfl
 have b3 : (x.f0 == 3) = false := by rw [h]; rfl
 have b4 : (x.f0 == 4) = true := by rw [h]; rfl
 have HV := Aside0.mk (endV4 m f x (by omega))
 clear h
 go_enter Try.func84, Try.ntmps84
 go_upto_region 1 with (first | ((with_reducible refine gate_dst (N := 2) rfl ?_); refine box_event ?hg (N := 2) ?hd (cs := #[.slice A0 m.length c0, .int .i64 f.f0, .int .i64 f.f1, .slice A1 f.f2.length c1]) (t := 87) ?hr ?_; (case hd => rfl); (case hg => rfl); (case hr => first | (go_simp; done) | (go_simp; rfl)); intro g1 hg w1 hbox hb; have HB := Aside0.mk hb; have X1 := Aside0.mk hbox; clear hbox hb hg) | ((with_reducible refine gate_dst (N := 3) rfl ?_); refine box_event ?hg (N := 3) ?hd (cs := #[.int .i64 x.f0, .int .i64 x.f1, .int .i64 x.f2, .int .i64 x.f3, .slice A2 x.f4.length c2, .int .i64 x.f5, .int .i64 x.f6, .int .i64 x.f7]) (t := 39) ?hr ?_; (case hd => rfl); (case hg => rfl); (case hr => first | (go_simp; done) | (go_simp; rfl)); intro g2 hg w2 hbox hb; replace HB := Aside0.mk (below_step HB.out hb); replace X1 := Aside0.mk (blk_below X1.out hb); have X2 := Aside0.mk hbox; clear hbox hb hg; obtain ⟨h0, h1, h2, h3, h4, h5, h6, h7⟩ := cl8 X2.out))
 go_cut [5] (fun v5 wc => ∃ g5 : Nat, v5 = .pointer (some ⟨g5, 0, none⟩) ∧ w.heap.size ≤ g5 ∧ g1 ≠ g5 ∧ g2 ≠ g5 ∧ Aside0 (Below w.heap.size w wc) ∧ Aside0 (wc.heap[g1]? = some (.cells #[.slice A0 m.length c0, .int .i64 f.f0, .int .i64 f.f1, .slice A1 f.f2.length c1] 87 (0, 0))) ∧ Aside0 (wc.heap[g2]? = some (.cells #[.int .i64 x.f0, .int .i64 x.f1, .int .i64 x.f2, .int .i64 x.f3, .slice A2 x.f4.length c2, .int .i64 x.f5, .int .i64 x.f6, .int .i64 x.f7] 39 (0, 0))) ∧ Aside0 (wc.heap[g5]? = some (.cells #[.int .i64 x.f0, .int .i64 0, .int .i64 0, .int .i64 0, .slice none 0 0, .int .i64 0, .int .i64 0, .int .i64 0] 39 (0, 0))))
 case first => go_wp2; go_meet; exact ⟨_, rfl, HB.out.size, Nat.ne_of_lt (blk_lt X1.out), Nat.ne_of_lt (blk_lt X2.out), ⟨below_alloc HB.out _⟩, ⟨blk_alloc X1.out _⟩, ⟨blk_alloc X2.out _⟩, ⟨blk_new _ _⟩⟩
 case rest =>
  clear HB X1 X2 h0 h1 h2 h3 h4 h5 h6 h7
  obtain ⟨g5, rfl, G5, G15, G25, HB, X1, X2, X5⟩ := hcut
  obtain ⟨k0, k1, k2, k3⟩ := cl4 X1.out
  obtain ⟨h0, h1, h2, h3, h4, h5, h6, h7⟩ := cl8 X2.out
  have G15' := Aside0.mk G15
  have G25' := Aside0.mk G25
  have G5' := Aside0.mk G5
  clear G15 G25 G5
  go_upto_region 16 with (fail)
  go_cut [] (fun wc => Aside0 (Below w.heap.size w wc) ∧ Aside0 (wc.heap[g1]? = some (.cells #[.slice A0 m.length c0, .int .i64 f.f0, .int .i64 f.f1, .slice A1 f.f2.length c1] 87 (0, 0))) ∧ Aside0 (wc.heap[g2]? = some (.cells #[.int .i64 x.f0, .int .i64 x.f1, .int .i64 x.f2, .int .i64 x.f3, .slice A2 x.f4.length c2, .int .i64 x.f5, .int .i64 x.f6, .int .i64 x.f7] 39 (0, 0))) ∧ Aside0 (wc.heap[g5]? = some (.cells #[.int .i64 x.f0, .int .i64 0, .int .i64 x.f2, .int .i64 x.f3, .slice A2 x.f4.length c2, .int .i64 x.f5, .int .i64 0, .int .i64 x.f7] 39 (0, 0))))
  case first =>
   have z2 := blk_frozen X5.out 2
   have z3 := blk_frozen X5.out 3
   have z4 := blk_frozen X5.out 4
   have z5 := blk_frozen X5.out 5
   have z7 := blk_frozen X5.out 7
   have y2 := (blk_cell X5.out 2).trans rfl
   have y3 := (blk_cell X5.out 3).trans rfl
   have y4 := (blk_cell X5.out 4).trans rfl
   have y5 := (blk_cell X5.out 5).trans rfl
   have y7 := (blk_cell X5.out 7).trans rfl
   go_region
   all_goals (go_wp2; go_meet; exact ⟨⟨below_drew ((below_set (below_set (below_set (below_set (below_set HB.out G5'.out) G5'.out) G5'.out) G5'.out) G5'.out))⟩, ⟨blk_drew ((blk_far (blk_far (blk_far (blk_far (blk_far X1.out G15'.out _) G15'.out _) G15'.out _) G15'.out _) G15'.out _))⟩, ⟨blk_drew ((blk_far (blk_far (blk_far (blk_far (blk_far X2.out G25'.out _) G25'.out _) G25'.out _) G25'.out _) G25'.out _))⟩, ⟨blk_drew ((set_blk 7 _ (set_blk 5 _ (set_blk 4 _ (set_blk 3 _ (set_blk 2 _ X5.out rfl) rfl) rfl) rfl) rfl))⟩⟩)
  case rest =>
   clear HB X1 X2 X5 k0 k1 k2 k3 h0 h1 h2 h3 h4 h5 h6 h7
   obtain ⟨HB, X1, X2, X5⟩ := hcut
   obtain ⟨k0, k1, k2, k3⟩ := cl4 X1.out
   obtain ⟨h0, h1, h2, h3, h4, h5, h6, h7⟩ := cl8 X2.out
   obtain ⟨v0, v1, v2, v3, v4, v5, v6, v7⟩ := cl8 X5.out
   go_wp2_with (first | (go_at_call 104; (with_reducible refine (place_c m A0 c0 f A1 c1 _ _).mono ?_); rintro e w6 ⟨rfl, hb⟩; replace HB := Aside0.mk (below_step HB.out hb); replace X1 := Aside0.mk (blk_below X1.out hb); replace X2 := Aside0.mk (blk_below X2.out hb); replace X5 := Aside0.mk (blk_below X5.out hb); clear hb k0 k1 k2 k3 h0 h1 h2 h3 h4 h5 h6 h7 v0 v1 v2 v3 v4 v5 v6 v7; obtain ⟨k0, k1, k2, k3⟩ := cl4 X1.out; obtain ⟨h0, h1, h2, h3, h4, h5, h6, h7⟩ := cl8 X2.out; obtain ⟨v0, v1, v2, v3, v4, v5, v6, v7⟩ := cl8 X5.out) | (go_at_call 95; refine (send_c (⟨x.f0, 0, x.f2, x.f3, x.f4, x.f5, 0, x.f7⟩ : S39) A2 c2 x A2 c2 _ (Kd.C_below HL.out HB.out) (Kd.C_below HL.out HB.out) HN.out).mono ?_; rintro e w7 ⟨rfl, hb⟩; replace HB := Aside0.mk (below_step HB.out hb); replace X1 := Aside0.mk (blk_below X1.out hb); replace X2 := Aside0.mk (blk_below X2.out hb); replace X5 := Aside0.mk (blk_below X5.out hb); clear hb k0 k1 k2 k3 h0 h1 h2 h3 h4 h5 h6 h7 v0 v1 v2 v3 v4 v5 v6 v7; obtain ⟨k0, k1, k2, k3⟩ := cl4 X1.out; obtain ⟨h0, h1, h2, h3, h4, h5, h6, h7⟩ := cl8 X2.out; obtain ⟨v0, v1, v2, v3, v4, v5, v6, v7⟩ := cl8 X5.out) | (go_at_call 106; (with_reducible refine (goal_l m A0 c0 f A1 c1 _ _ (Kd.C_below HBL.out HB.out)).mono ?_); rintro e w9 ⟨rfl, hb⟩; replace HB := Aside0.mk (below_step HB.out hb); replace X1 := Aside0.mk (blk_below X1.out hb); replace X2 := Aside0.mk (blk_below X2.out hb); replace X5 := Aside0.mk (blk_below X5.out hb); clear hb k0 k1 k2 k3 h0 h1 h2 h3 h4 h5 h6 h7 v0 v1 v2 v3 v4 v5 v6 v7; obtain ⟨k0, k1, k2, k3⟩ := cl4 X1.out; obtain ⟨h0, h1, h2, h3, h4, h5, h6, h7⟩ := cl8 X2.out; obtain ⟨v0, v1, v2, v3, v4, v5, v6, v7⟩ := cl8 X5.out) | (go_at_call 108; (with_reducible refine (land_l m A0 c0 f A1 c1 _ _ (Kd.C_below HBL.out HB.out)).mono ?_); rintro e w10 ⟨rfl, hb⟩; replace HB := Aside0.mk (below_step HB.out hb); replace X1 := Aside0.mk (blk_below X1.out hb); replace X2 := Aside0.mk (blk_below X2.out hb); replace X5 := Aside0.mk (blk_below X5.out hb); clear hb k0 k1 k2 k3 h0 h1 h2 h3 h4 h5 h6 h7 v0 v1 v2 v3 v4 v5 v6 v7; obtain ⟨k0, k1, k2, k3⟩ := cl4 X1.out; obtain ⟨h0, h1, h2, h3, h4, h5, h6, h7⟩ := cl8 X2.out; obtain ⟨v0, v1, v2, v3, v4, v5, v6, v7⟩ := cl8 X5.out) | (go_at_call 107; (with_reducible refine (call_l m A0 c0 f A1 c1 x.f3 A2 c2 x.f4 _ (Kd.C_below HM.out HB.out) (Kd.C_below HL.out HB.out)).mono ?_); rintro e w8 ⟨rfl, hb⟩; replace HB := Aside0.mk (below_step HB.out hb); replace X1 := Aside0.mk (blk_below X1.out hb); replace X2 := Aside0.mk (blk_below X2.out hb); replace X5 := Aside0.mk (blk_below X5.out hb); clear hb k0 k1 k2 k3 h0 h1 h2 h3 h4 h5 h6 h7 v0 v1 v2 v3 v4 v5 v6 v7; obtain ⟨k0, k1, k2, k3⟩ := cl4 X1.out; obtain ⟨h0, h1, h2, h3, h4, h5, h6, h7⟩ := cl8 X2.out; obtain ⟨v0, v1, v2, v3, v4, v5, v6, v7⟩ := cl8 X5.out))
   all_goals (go_ret; exact ⟨ret_b (by rw [HV.out]; simp [*]), HB.out⟩)
theorem endV6 (m : List S27) (f : S27) (x : S39) (h : x.f0 = 6) : endR m f x = (true && endE (⟨x.f0, 0, 0, 0, ([] : List Int), 0, 0, 0⟩ : S39) x) := by
 rw [Bool.eq_iff_iff]
 simp [endR, endE, restR, h, eq_comm (a := (0 : Int)), eq_comm (a := ([] : List Int)), and_assoc] <;> (try (first | (constructor <;> intro hh <;> simp_all; done) | (intros; constructor <;> intro hh <;> simp_all; done)))
set_option maxHeartbeats 16000000 in
set_option maxRecDepth 100000 in
theorem enl6_c (m : List S27) (A0 : Option Addr) (c0 : Nat) (f : S27) (A1 : Option Addr) (c1 : Nat) (x : S39) (A2 : Option Addr) (c2 : Nat) (w : World) (hm : Kd.C k27 w A0 m.length m) (hl : Kd.C (Kd.int .i64) w A2 x.f4.length x.f4) (hbl : Kd.C k41 w A1 f.f2.length f.f2) (hb : x.f4.length ≤ 1000000) (h : x.f0 = 6) :
  Calls Try.prog 84 #[.agg #[.slice A0 m.length c0, .int .i64 f.f0, .int .i64 f.f1, .slice A1 f.f2.length c1], .agg #[.int .i64 x.f0, .int .i64 x.f1, .int .i64 x.f2, .int .i64 x.f3, .slice A2 x.f4.length c2, .int .i64 x.f5, .int .i64 x.f6, .int .i64 x.f7]] w fun e w' => e = .returned (.bool (endR m f x)) ∧ Below w.heap.size w w' := by
 have HM := Aside0.mk hm
 have HL := Aside0.mk hl
 have HN := Aside0.mk hb
 have HBL := Aside0.mk hbl
 clear hm hl hb hbl
 have hu24 := Try.underlying24
 have hu27 := Try.underlying27
 have hu87 := Try.underlying87
 have hu39 := Try.underlying39
 have b1 : (x.f0 == 1) = false := by rw [h]; rfl
 have b5 : (x.f0 == 5) = false := by rw [h]; rfl
 have b2 : (x.f0 == 2) = false := by rw [h]; rfl
 have b3 : (x.f0 == 3) = false := by rw [h]; rfl
 have b4 : (x.f0 == 4) = false := by rw [h]; rfl
 have b6 : (x.f0 == 6) = true := by rw [h]; rfl
 have HV := Aside0.mk (endV6 m f x (by omega))
 clear h
 go_enter Try.func84, Try.ntmps84
 go_upto_region 1 with (first | ((with_reducible refine gate_dst (N := 2) rfl ?_); refine box_event ?hg (N := 2) ?hd (cs := #[.slice A0 m.length c0, .int .i64 f.f0, .int .i64 f.f1, .slice A1 f.f2.length c1]) (t := 87) ?hr ?_; (case hd => rfl); (case hg => rfl); (case hr => first | (go_simp; done) | (go_simp; rfl)); intro g1 hg w1 hbox hb; have HB := Aside0.mk hb; have X1 := Aside0.mk hbox; clear hbox hb hg) | ((with_reducible refine gate_dst (N := 3) rfl ?_); refine box_event ?hg (N := 3) ?hd (cs := #[.int .i64 x.f0, .int .i64 x.f1, .int .i64 x.f2, .int .i64 x.f3, .slice A2 x.f4.length c2, .int .i64 x.f5, .int .i64 x.f6, .int .i64 x.f7]) (t := 39) ?hr ?_; (case hd => rfl); (case hg => rfl); (case hr => first | (go_simp; done) | (go_simp; rfl)); intro g2 hg w2 hbox hb; replace HB := Aside0.mk (below_step HB.out hb); replace X1 := Aside0.mk (blk_below X1.out hb); have X2 := Aside0.mk hbox; clear hbox hb hg; obtain ⟨h0, h1, h2, h3, h4, h5, h6, h7⟩ := cl8 X2.out))
 go_cut [5] (fun v5 wc => ∃ g5 : Nat, v5 = .pointer (some ⟨g5, 0, none⟩) ∧ w.heap.size ≤ g5 ∧ g1 ≠ g5 ∧ g2 ≠ g5 ∧ Aside0 (Below w.heap.size w wc) ∧ Aside0 (wc.heap[g1]? = some (.cells #[.slice A0 m.length c0, .int .i64 f.f0, .int .i64 f.f1, .slice A1 f.f2.length c1] 87 (0, 0))) ∧ Aside0 (wc.heap[g2]? = some (.cells #[.int .i64 x.f0, .int .i64 x.f1, .int .i64 x.f2, .int .i64 x.f3, .slice A2 x.f4.length c2, .int .i64 x.f5, .int .i64 x.f6, .int .i64 x.f7] 39 (0, 0))) ∧ Aside0 (wc.heap[g5]? = some (.cells #[.int .i64 x.f0, .int .i64 0, .int .i64 0, .int .i64 0, .slice none 0 0, .int .i64 0, .int .i64 0, .int .i64 0] 39 (0, 0))))
 case first => go_wp2; go_meet; exact ⟨_, rfl, HB.out.size, Nat.ne_of_lt (blk_lt X1.out), Nat.ne_of_lt (blk_lt X2.out), ⟨below_alloc HB.out _⟩, ⟨blk_alloc X1.out _⟩, ⟨blk_alloc X2.out _⟩, ⟨blk_new _ _⟩⟩
 case rest =>
  clear HB X1 X2 h0 h1 h2 h3 h4 h5 h6 h7
  obtain ⟨g5, rfl, G5, G15, G25, HB, X1, X2, X5⟩ := hcut
  obtain ⟨k0, k1, k2, k3⟩ := cl4 X1.out
  obtain ⟨h0, h1, h2, h3, h4, h5, h6, h7⟩ := cl8 X2.out
  have G15' := Aside0.mk G15
  have G25' := Aside0.mk G25
  have G5' := Aside0.mk G5
  clear G15 G25 G5
  skip
  obtain ⟨v0, v1, v2, v3, v4, v5, v6, v7⟩ := cl8 X5.out
  go_wp2_with (first | (go_at_call 104; (with_reducible refine (place_c m A0 c0 f A1 c1 _ _).mono ?_); rintro e w6 ⟨rfl, hb⟩; replace HB := Aside0.mk (below_step HB.out hb); replace X1 := Aside0.mk (blk_below X1.out hb); replace X2 := Aside0.mk (blk_below X2.out hb); replace X5 := Aside0.mk (blk_below X5.out hb); clear hb k0 k1 k2 k3 h0 h1 h2 h3 h4 h5 h6 h7 v0 v1 v2 v3 v4 v5 v6 v7; obtain ⟨k0, k1, k2, k3⟩ := cl4 X1.out; obtain ⟨h0, h1, h2, h3, h4, h5, h6, h7⟩ := cl8 X2.out; obtain ⟨v0, v1, v2, v3, v4, v5, v6, v7⟩ := cl8 X5.out) | (go_at_call 95; refine (send_c (⟨x.f0, 0, 0, 0, ([] : List Int), 0, 0, 0⟩ : S39) none 0 x A2 c2 _ nil_C (Kd.C_below HL.out HB.out) (Nat.zero_le _)).mono ?_; rintro e w7 ⟨rfl, hb⟩; replace HB := Aside0.mk (below_step HB.out hb); replace X1 := Aside0.mk (blk_below X1.out hb); replace X2 := Aside0.mk (blk_below X2.out hb); replace X5 := Aside0.mk (blk_below X5.out hb); clear hb k0 k1 k2 k3 h0 h1 h2 h3 h4 h5 h6 h7 v0 v1 v2 v3 v4 v5 v6 v7; obtain ⟨k0, k1, k2, k3⟩ := cl4 X1.out; obtain ⟨h0, h1, h2, h3, h4, h5, h6, h7⟩ := cl8 X2.out; obtain ⟨v0, v1, v2, v3, v4, v5, v6, v7⟩ := cl8 X5.out))
  all_goals (go_ret; exact ⟨ret_b (by rw [HV.out]; simp [*]), HB.out⟩)
set_option maxHeartbeats 16000000 in
set_option maxRecDepth 100000 in
theorem enl_c (m : List S27) (A0 : Option Addr) (c0 : Nat) (f : S27) (A1 : Option Addr) (c1 : Nat) (x : S39) (A2 : Option Addr) (c2 : Nat) (w : World) (hm : Kd.C k27 w A0 m.length m) (hl : Kd.C (Kd.int .i64) w A2 x.f4.length x.f4) (hbl : Kd.C k41 w A1 f.f2.length f.f2) (hb : x.f4.length ≤ 1000000) :
  Calls Try.prog 84 #[.agg #[.slice A0 m.length c0, .int .i64 f.f0, .int .i64 f.f1, .slice A1 f.f2.length c1], .agg #[.int .i64 x.f0, .int .i64 x.f1, .int .i64 x.f2, .int .i64 x.f3, .slice A2 x.f4.length c2, .int .i64 x.f5, .int .i64 x.f6, .int .i64 x.f7]] w fun e w' => e = .returned (.bool (endR m f x)) ∧ Below w.heap.size w w' := by
 by_cases h1 : x.f0 = 1
 ·exact enl1_c m A0 c0 f A1 c1 x A2 c2 w hm hl hbl hb h1
 by_cases h2 : x.f0 = 2
 ·exact enl2_c m A0 c0 f A1 c1 x A2 c2 w hm hl hbl hb h2
 by_cases h3 : x.f0 = 3
 ·exact enl3_c m A0 c0 f A1 c1 x A2 c2 w hm hl hbl hb h3
 by_cases h4 : x.f0 = 4
 ·exact enl4_c m A0 c0 f A1 c1 x A2 c2 w hm hl hbl hb h4
 by_cases h5 : x.f0 = 5
 ·exact enl5_c m A0 c0 f A1 c1 x A2 c2 w hm hl hbl hb h5
 by_cases h6 : x.f0 = 6
 ·exact enl6_c m A0 c0 f A1 c1 x A2 c2 w hm hl hbl hb h6
 have b1 : (x.f0 == 1) = false := beq_eq_false_iff_ne.2 h1
 have b5 : (x.f0 == 5) = false := beq_eq_false_iff_ne.2 h5
 have b2 : (x.f0 == 2) = false := beq_eq_false_iff_ne.2 h2
 have b3 : (x.f0 == 3) = false := beq_eq_false_iff_ne.2 h3
 have b4 : (x.f0 == 4) = false := beq_eq_false_iff_ne.2 h4
 have b6 : (x.f0 == 6) = false := beq_eq_false_iff_ne.2 h6
 have HV := Aside0.mk (show endR m f x = false by unfold endR; rw [b1, b5, b2, b3, b4, b6]; rfl)
 clear hm hl hb hbl h1 h5 h2 h3 h4 h6
 have hu24 := Try.underlying24
 have hu27 := Try.underlying27
 have hu87 := Try.underlying87
 have hu39 := Try.underlying39
 go_enter Try.func84, Try.ntmps84
 go_upto_region 1 with (first | ((with_reducible refine gate_dst (N := 2) rfl ?_); refine box_event ?hg (N := 2) ?hd (cs := #[.slice A0 m.length c0, .int .i64 f.f0, .int .i64 f.f1, .slice A1 f.f2.length c1]) (t := 87) ?hr ?_; (case hd => rfl); (case hg => rfl); (case hr => first | (go_simp; done) | (go_simp; rfl)); intro g1 hg w1 hbox hb; have HB := Aside0.mk hb; have X1 := Aside0.mk hbox; clear hbox hb hg) | ((with_reducible refine gate_dst (N := 3) rfl ?_); refine box_event ?hg (N := 3) ?hd (cs := #[.int .i64 x.f0, .int .i64 x.f1, .int .i64 x.f2, .int .i64 x.f3, .slice A2 x.f4.length c2, .int .i64 x.f5, .int .i64 x.f6, .int .i64 x.f7]) (t := 39) ?hr ?_; (case hd => rfl); (case hg => rfl); (case hr => first | (go_simp; done) | (go_simp; rfl)); intro g2 hg w2 hbox hb; replace HB := Aside0.mk (below_step HB.out hb); replace X1 := Aside0.mk (blk_below X1.out hb); have X2 := Aside0.mk hbox; clear hbox hb hg; obtain ⟨h0, h1, h2, h3, h4, h5, h6, h7⟩ := cl8 X2.out))
 go_cut [5] (fun v5 wc => ∃ g5 : Nat, v5 = .pointer (some ⟨g5, 0, none⟩) ∧ Aside0 (Below w.heap.size w wc) ∧ Aside0 (wc.heap[g1]? = some (.cells #[.slice A0 m.length c0, .int .i64 f.f0, .int .i64 f.f1, .slice A1 f.f2.length c1] 87 (0, 0))) ∧ Aside0 (wc.heap[g2]? = some (.cells #[.int .i64 x.f0, .int .i64 x.f1, .int .i64 x.f2, .int .i64 x.f3, .slice A2 x.f4.length c2, .int .i64 x.f5, .int .i64 x.f6, .int .i64 x.f7] 39 (0, 0))))
 case first => go_wp2; go_meet; exact ⟨_, rfl, ⟨below_alloc HB.out _⟩, ⟨blk_alloc X1.out _⟩, ⟨blk_alloc X2.out _⟩⟩
 case rest =>
  clear HB X1 X2 h0 h1 h2 h3 h4 h5 h6 h7
  obtain ⟨g5, rfl, HB, X1, X2⟩ := hcut
  obtain ⟨h0, h1, h2, h3, h4, h5, h6, h7⟩ := cl8 X2.out
  go_wp2
  go_ret
  exact ⟨ret_b HV.out.symm, HB.out⟩
end Go.Proofs.Ytbfialebaoeicaa.X
