/- Part 7 of the proof of the statement ShapeCopies: the words of the walks, the walks through the functions that it reaches, and the plain laws of what they compute. -/
import Derived.Test.YtbfialebaoeicaaMShapeCopies5
import Derived.RegionTactic
import Derived.ChangeAlike
import Derived.Deep.QuietTactic
import Derived.BigQuiet
namespace Go.Proofs.Ytbfialebaoeicaa.X
open Go.RowKit Go.Proofs.YtbfialebaoeicaaW.PrintWords Go.Proofs.YtbfialebaoeicaaW.PrintLast Go.Proofs.YtbfialebaoeicaaW.PrintMore
set_option linter.all false
theorem insV1 (m : List S27) (R : Int) (x : S49) (h : x.f0 = 1) : insR m R x = (win x.f1 R && insE (⟨x.f0, x.f1, 0, 0, x.f4, 0, ([] : List Int)⟩ : S49) x) := by
 rw [Bool.eq_iff_iff]
 simp [insR, insE, plainR, h, eq_comm (a := (0 : Int)), eq_comm (a := ([] : List Int)), and_assoc] <;> (try (first | (constructor <;> intro hh <;> simp_all; done) | (intro _; constructor <;> intro hh <;> simp_all; done)))
set_option maxHeartbeats 16000000 in
set_option maxRecDepth 100000 in
theorem inl1_c (m : List S27) (A0 : Option Addr) (c0 : Nat) (f : S27) (A1 : Option Addr) (c1 : Nat) (x : S49) (A2 : Option Addr) (c2 : Nat) (w : World) (hm : Kd.C k27 w A0 m.length m) (hl : Kd.C (Kd.int .i64) w A2 x.f6.length x.f6) (hb : x.f6.length ≤ 1000000) (h : x.f0 = 1) :
  Calls Try.prog 87 #[.agg #[.slice A0 m.length c0, .int .i64 f.f0, .int .i64 f.f1, .slice A1 f.f2.length c1], .agg #[.int .i64 x.f0, .int .i64 x.f1, .int .i64 x.f2, .int .i64 x.f3, .int .u16 x.f4, .int .i64 x.f5, .slice A2 x.f6.length c2]] w fun e w' => e = .returned (.bool (insR m f.f1 x)) ∧ Below w.heap.size w w' := by
 have HM := Aside0.mk hm
 have HL := Aside0.mk hl
 have HN := Aside0.mk hb
 clear hm hl hb
 have hu24 := Try.underlying24
 have hu27 := Try.underlying27
 have hu87 := Try.underlying87
 have hu49 := Try.underlying49
 have b1 : (x.f0 == 1) = true := by rw [h]; rfl
 have HV := Aside0.mk (insV1 m f.f1 x (by omega))
 clear h
 go_enter Try.func87, Try.ntmps87
 go_upto_region 1 with (first | ((with_reducible refine gate_dst (N := 2) rfl ?_); refine box_event ?hg (N := 2) ?hd (cs := #[.slice A0 m.length c0, .int .i64 f.f0, .int .i64 f.f1, .slice A1 f.f2.length c1]) (t := 87) ?hr ?_; (case hd => rfl); (case hg => rfl); (case hr => first | (go_simp; done) | (go_simp; rfl)); intro g1 hg w1 hbox hb; have HB := Aside0.mk hb; have X1 := Aside0.mk hbox; clear hbox hb hg) | ((with_reducible refine gate_dst (N := 3) rfl ?_); refine box_event ?hg (N := 3) ?hd (cs := #[.int .i64 x.f0, .int .i64 x.f1, .int .i64 x.f2, .int .i64 x.f3, .int .u16 x.f4, .int .i64 x.f5, .slice A2 x.f6.length c2]) (t := 49) ?hr ?_; (case hd => rfl); (case hg => rfl); (case hr => first | (go_simp; done) | (go_simp; rfl)); intro g2 hg w2 hbox hb; replace HB := Aside0.mk (below_step HB.out hb); replace X1 := Aside0.mk (blk_below X1.out hb); have X2 := Aside0.mk hbox; clear hbox hb hg; obtain ⟨h0, h1, h2, h3, h4, h5, h6⟩ := cl7 X2.out))
 go_cut [5] (fun v5 wc => ∃ g5 : Nat, v5 = .pointer (some ⟨g5, 0, none⟩) ∧ w.heap.size ≤ g5 ∧ g1 ≠ g5 ∧ g2 ≠ g5 ∧ Aside0 (Below w.heap.size w wc) ∧ Aside0 (wc.heap[g1]? = some (.cells #[.slice A0 m.length c0, .int .i64 f.f0, .int .i64 f.f1, .slice A1 f.f2.length c1] 87 (0, 0))) ∧ Aside0 (wc.heap[g2]? = some (.cells #[.int .i64 x.f0, .int .i64 x.f1, .int .i64 x.f2, .int .i64 x.f3, .int .u16 x.f4, .int .i64 x.f5, .slice A2 x.f6.length c2] 49 (0, 0))) ∧ Aside0 (wc.heap[g5]? = some (.cells #[.int .i64 x.f0, .int .i64 0, .int .i64 0, .int .i64 0, .int .u16 0, .int .i64 0, .slice none 0 0] 49 (0, 0))))
 case first => go_wp2; go_meet; exact ⟨_, rfl, HB.out.size, Nat.ne_of_lt (blk_lt X1.out), Nat.ne_of_lt (blk_lt X2.out), ⟨below_alloc HB.out _⟩, ⟨blk_alloc X1.out _⟩, ⟨blk_alloc X2.out _⟩, ⟨blk_new _ _⟩⟩
 case rest =>
  clear HB X1 X2 h0 h1 h2 h3 h4 h5 h6
  obtain ⟨g5, rfl, G5, G15, G25, HB, X1, X2, X5⟩ := hcut
  obtain ⟨k0, k1, k2, k3⟩ := cl4 X1.out
  obtain ⟨h0, h1, h2, h3, h4, h5, h6⟩ := cl7 X2.out
  have G15' := Aside0.mk G15
  have G25' := Aside0.mk G25
  have G5' := Aside0.mk G5
  clear G15 G25 G5
  go_upto_region 6 with (fail)
  go_cut [] (fun wc => Aside0 (Below w.heap.size w wc) ∧ Aside0 (wc.heap[g1]? = some (.cells #[.slice A0 m.length c0, .int .i64 f.f0, .int .i64 f.f1, .slice A1 f.f2.length c1] 87 (0, 0))) ∧ Aside0 (wc.heap[g2]? = some (.cells #[.int .i64 x.f0, .int .i64 x.f1, .int .i64 x.f2, .int .i64 x.f3, .int .u16 x.f4, .int .i64 x.f5, .slice A2 x.f6.length c2] 49 (0, 0))) ∧ Aside0 (wc.heap[g5]? = some (.cells #[.int .i64 x.f0, .int .i64 x.f1, .int .i64 0, .int .i64 0, .int .u16 x.f4, .int .i64 0, .slice none 0 0] 49 (0, 0))))
  case first =>
   have z1 := blk_frozen X5.out 1
   have z4 := blk_frozen X5.out 4
   have y1 := (blk_cell X5.out 1).trans rfl
   have y4 := (blk_cell X5.out 4).trans rfl
   go_region
   all_goals (go_wp2; go_meet; exact ⟨⟨below_drew ((below_set (below_set HB.out G5'.out) G5'.out))⟩, ⟨blk_drew ((blk_far (blk_far X1.out G15'.out _) G15'.out _))⟩, ⟨blk_drew ((blk_far (blk_far X2.out G25'.out _) G25'.out _))⟩, ⟨blk_drew ((set_blk 4 _ (set_blk 1 _ X5.out rfl) rfl))⟩⟩)
  case rest =>
   clear HB X1 X2 X5 k0 k1 k2 k3 h0 h1 h2 h3 h4 h5 h6
   obtain ⟨HB, X1, X2, X5⟩ := hcut
   obtain ⟨k0, k1, k2, k3⟩ := cl4 X1.out
   obtain ⟨h0, h1, h2, h3, h4, h5, h6⟩ := cl7 X2.out
   obtain ⟨v0, v1, v2, v3, v4, v5, v6⟩ := cl7 X5.out
   go_wp2_with (first | (go_at_call 104; (with_reducible refine (place_c m A0 c0 f A1 c1 _ _).mono ?_); rintro e w6 ⟨rfl, hb⟩; replace HB := Aside0.mk (below_step HB.out hb); replace X1 := Aside0.mk (blk_below X1.out hb); replace X2 := Aside0.mk (blk_below X2.out hb); replace X5 := Aside0.mk (blk_below X5.out hb); clear hb k0 k1 k2 k3 h0 h1 h2 h3 h4 h5 h6 v0 v1 v2 v3 v4 v5 v6; obtain ⟨k0, k1, k2, k3⟩ := cl4 X1.out; obtain ⟨h0, h1, h2, h3, h4, h5, h6⟩ := cl7 X2.out; obtain ⟨v0, v1, v2, v3, v4, v5, v6⟩ := cl7 X5.out) | (go_at_call 94; refine (sins_c (⟨x.f0, x.f1, 0, 0, x.f4, 0, ([] : List Int)⟩ : S49) none 0 x A2 c2 _ nil_C (Kd.C_below HL.out HB.out) (Nat.zero_le _)).mono ?_; rintro e w7 ⟨rfl, hb⟩; replace HB := Aside0.mk (below_step HB.out hb); replace X1 := Aside0.mk (blk_below X1.out hb); replace X2 := Aside0.mk (blk_below X2.out hb); replace X5 := Aside0.mk (blk_below X5.out hb); clear hb k0 k1 k2 k3 h0 h1 h2 h3 h4 h5 h6 v0 v1 v2 v3 v4 v5 v6; obtain ⟨k0, k1, k2, k3⟩ := cl4 X1.out; obtain ⟨h0, h1, h2, h3, h4, h5, h6⟩ := cl7 X2.out; obtain ⟨v0, v1, v2, v3, v4, v5, v6⟩ := cl7 X5.out))
   all_goals (go_ret; exact ⟨ret_b (by rw [HV.out]; simp [*]), HB.out⟩)
theorem insV2 (m : List S27) (R : Int) (x : S49) (h : x.f0 = 2 ∨ x.f0 = 9) : insR m R x = ((win x.f1 R && win x.f2 R) && insE (⟨x.f0, x.f1, x.f2, 0, 0, 0, ([] : List Int)⟩ : S49) x) := by
 rw [Bool.eq_iff_iff]
 rcases h with h | h <;> simp [insR, insE, plainR, h, eq_comm (a := (0 : Int)), eq_comm (a := ([] : List Int)), and_assoc] <;> (try (first | (constructor <;> intro hh <;> simp_all; done) | (intro _; constructor <;> intro hh <;> simp_all; done)))
set_option maxHeartbeats 16000000 in
set_option maxRecDepth 100000 in
theorem inl2_c (m : List S27) (A0 : Option Addr) (c0 : Nat) (f : S27) (A1 : Option Addr) (c1 : Nat) (x : S49) (A2 : Option Addr) (c2 : Nat) (w : World) (hm : Kd.C k27 w A0 m.length m) (hl : Kd.C (Kd.int .i64) w A2 x.f6.length x.f6) (hb : x.f6.length ≤ 1000000) (h : x.f0 = 2) :
  Calls Try.prog 87 #[.agg #[.slice A0 m.length c0, .int .i64 f.f0, .int .i64 f.f1, .slice A1 f.f2.length c1], .agg #[.int .i64 x.f0, .int .i64 x.f1, .int .i64 x.f2, .int .i64 x.f3, .int .u16 x.f4, .int .i64 x.f5, .slice A2 x.f6.length c2]] w fun e w' => e = .returned (.bool (insR m f.f1 x)) ∧ Below w.heap.size w w' := by
 have HM := Aside0.mk hm
 have HL := Aside0.mk hl
 have HN := Aside0.mk hb
 clear hm hl hb
 have hu24 := Try.underlying24
 have hu27 := Try.underlying27
 have hu87 := Try.underlying87
 have hu49 := Try.underlying49
 have b1 : (x.f0 == 1) = false := by rw [h]; rfl
 have b2 : (x.f0 == 2) = true := by rw [h]; rfl
 have HV := Aside0.mk (insV2 m f.f1 x (by omega))
 clear h
 go_enter Try.func87, Try.ntmps87
 go_upto_region 1 with (first | ((with_reducible refine gate_dst (N := 2) rfl ?_); refine box_event ?hg (N := 2) ?hd (cs := #[.slice A0 m.length c0, .int .i64 f.f0, .int .i64 f.f1, .slice A1 f.f2.length c1]) (t := 87) ?hr ?_; (case hd => rfl); (case hg => rfl); (case hr => first | (go_simp; done) | (go_simp; rfl)); intro g1 hg w1 hbox hb; have HB := Aside0.mk hb; have X1 := Aside0.mk hbox; clear hbox hb hg) | ((with_reducible refine gate_dst (N := 3) rfl ?_); refine box_event ?hg (N := 3) ?hd (cs := #[.int .i64 x.f0, .int .i64 x.f1, .int .i64 x.f2, .int .i64 x.f3, .int .u16 x.f4, .int .i64 x.f5, .slice A2 x.f6.length c2]) (t := 49) ?hr ?_; (case hd => rfl); (case hg => rfl); (case hr => first | (go_simp; done) | (go_simp; rfl)); intro g2 hg w2 hbox hb; replace HB := Aside0.mk (below_step HB.out hb); replace X1 := Aside0.mk (blk_below X1.out hb); have X2 := Aside0.mk hbox; clear hbox hb hg; obtain ⟨h0, h1, h2, h3, h4, h5, h6⟩ := cl7 X2.out))
 go_cut [5] (fun v5 wc => ∃ g5 : Nat, v5 = .pointer (some ⟨g5, 0, none⟩) ∧ w.heap.size ≤ g5 ∧ g1 ≠ g5 ∧ g2 ≠ g5 ∧ Aside0 (Below w.heap.size w wc) ∧ Aside0 (wc.heap[g1]? = some (.cells #[.slice A0 m.length c0, .int .i64 f.f0, .int .i64 f.f1, .slice A1 f.f2.length c1] 87 (0, 0))) ∧ Aside0 (wc.heap[g2]? = some (.cells #[.int .i64 x.f0, .int .i64 x.f1, .int .i64 x.f2, .int .i64 x.f3, .int .u16 x.f4, .int .i64 x.f5, .slice A2 x.f6.length c2] 49 (0, 0))) ∧ Aside0 (wc.heap[g5]? = some (.cells #[.int .i64 x.f0, .int .i64 0, .int .i64 0, .int .i64 0, .int .u16 0, .int .i64 0, .slice none 0 0] 49 (0, 0))))
 case first => go_wp2; go_meet; exact ⟨_, rfl, HB.out.size, Nat.ne_of_lt (blk_lt X1.out), Nat.ne_of_lt (blk_lt X2.out), ⟨below_alloc HB.out _⟩, ⟨blk_alloc X1.out _⟩, ⟨blk_alloc X2.out _⟩, ⟨blk_new _ _⟩⟩
 case rest =>
  clear HB X1 X2 h0 h1 h2 h3 h4 h5 h6
  obtain ⟨g5, rfl, G5, G15, G25, HB, X1, X2, X5⟩ := hcut
  obtain ⟨k0, k1, k2, k3⟩ := cl4 X1.out
  obtain ⟨h0, h1, h2, h3, h4, h5, h6⟩ := cl7 X2.out
  have G15' := Aside0.mk G15
  have G25' := Aside0.mk G25
  have G5' := Aside0.mk G5
  clear G15 G25 G5
  go_upto_region 10 with (fail)
  go_cut [] (fun wc => Aside0 (Below w.heap.size w wc) ∧ Aside0 (wc.heap[g1]? = some (.cells #[.slice A0 m.length c0, .int .i64 f.f0, .int .i64 f.f1, .slice A1 f.f2.length c1] 87 (0, 0))) ∧ Aside0 (wc.heap[g2]? = some (.cells #[.int .i64 x.f0, .int .i64 x.f1, .int .i64 x.f2, .int .i64 x.f3, .int .u16 x.f4, .int .i64 x.f5, .slice A2 x.f6.length c2] 49 (0, 0))) ∧ Aside0 (wc.heap[g5]? = some (.cells #[.int .i64 x.f0, .int .i64 x.f1, .int .i64 x.f2, .int .i64 0, .int .u16 0, .int .i64 0, .slice none 0 0] 49 (0, 0))))
  case first =>
   have z1 := blk_frozen X5.out 1
   have z2 := blk_frozen X5.out 2
   have y1 := (blk_cell X5.out 1).trans rfl
   have y2 := (blk_cell X5.out 2).trans rfl
   go_region
   all_goals (go_wp2; go_meet; exact ⟨⟨below_drew ((below_set (below_set HB.out G5'.out) G5'.out))⟩, ⟨blk_drew ((blk_far (blk_far X1.out G15'.out _) G15'.out _))⟩, ⟨blk_drew ((blk_far (blk_far X2.out G25'.out _) G25'.out _))⟩, ⟨blk_drew ((set_blk 2 _ (set_blk 1 _ X5.out rfl) rfl))⟩⟩)
  case rest =>
   clear HB X1 X2 X5 k0 k1 k2 k3 h0 h1 h2 h3 h4 h5 h6
   obtain ⟨HB, X1, X2, X5⟩ := hcut
   obtain ⟨k0, k1, k2, k3⟩ := cl4 X1.out
   obtain ⟨h0, h1, h2, h3, h4, h5, h6⟩ := cl7 X2.out
   obtain ⟨v0, v1, v2, v3, v4, v5, v6⟩ := cl7 X5.out
   go_wp2_with (first | (go_at_call 104; (with_reducible refine (place_c m A0 c0 f A1 c1 _ _).mono ?_); rintro e w6 ⟨rfl, hb⟩; replace HB := Aside0.mk (below_step HB.out hb); replace X1 := Aside0.mk (blk_below X1.out hb); replace X2 := Aside0.mk (blk_below X2.out hb); replace X5 := Aside0.mk (blk_below X5.out hb); clear hb k0 k1 k2 k3 h0 h1 h2 h3 h4 h5 h6 v0 v1 v2 v3 v4 v5 v6; obtain ⟨k0, k1, k2, k3⟩ := cl4 X1.out; obtain ⟨h0, h1, h2, h3, h4, h5, h6⟩ := cl7 X2.out; obtain ⟨v0, v1, v2, v3, v4, v5, v6⟩ := cl7 X5.out) | (go_at_call 94; refine (sins_c (⟨x.f0, x.f1, x.f2, 0, 0, 0, ([] : List Int)⟩ : S49) none 0 x A2 c2 _ nil_C (Kd.C_below HL.out HB.out) (Nat.zero_le _)).mono ?_; rintro e w7 ⟨rfl, hb⟩; replace HB := Aside0.mk (below_step HB.out hb); replace X1 := Aside0.mk (blk_below X1.out hb); replace X2 := Aside0.mk (blk_below X2.out hb); replace X5 := Aside0.mk (blk_below X5.out hb); clear hb k0 k1 k2 k3 h0 h1 h2 h3 h4 h5 h6 v0 v1 v2 v3 v4 v5 v6; obtain ⟨k0, k1, k2, k3⟩ := cl4 X1.out; obtain ⟨h0, h1, h2, h3, h4, h5, h6⟩ := cl7 X2.out; obtain ⟨v0, v1, v2, v3, v4, v5, v6⟩ := cl7 X5.out))
   all_goals (go_ret; exact ⟨ret_b (by rw [HV.out]; simp [*]), HB.out⟩)
set_option maxHeartbeats 16000000 in
set_option maxRecDepth 100000 in
theorem inl9_c (m : List S27) (A0 : Option Addr) (c0 : Nat) (f : S27) (A1 : Option Addr) (c1 : Nat) (x : S49) (A2 : Option Addr) (c2 : Nat) (w : World) (hm : Kd.C k27 w A0 m.length m) (hl : Kd.C (Kd.int .i64) w A2 x.f6.length x.f6) (hb : x.f6.length ≤ 1000000) (h : x.f0 = 9) :
  Calls Try.prog 87 #[.agg #[.slice A0 m.length c0, .int .i64 f.f0, .int .i64 f.f1, .slice A1 f.f2.length c1], .agg #[.int .i64 x.f0, .int .i64 x.f1, .int .i64 x.f2, .int .i64 x.f3, .int .u16 x.f4, .int .i64 x.f5, .slice A2 x.f6.length c2]] w fun e w' => e = .returned (.bool (insR m f.f1 x)) ∧ Below w.heap.size w w' := by
 have HM := Aside0.mk hm
 have HL := Aside0.mk hl
 have HN := Aside0.mk hb
 clear hm hl hb
 have hu24 := Try.underlying24
 have hu27 := Try.underlying27
 have hu87 := Try.underlying87
 have hu49 := Try.underlying49
 have b1 : (x.f0 == 1) = false := by rw [h]; rfl
 have b2 : (x.f0 == 2) = false := by rw [h]; rfl
 have b9 : (x.f0 == 9) = true := by rw [h]; rfl
 have HV := Aside0.mk (insV2 m f.f1 x (by omega))
 clear h
 go_enter Try.func87, Try.ntmps87
 go_upto_region 1 with (first | ((with_reducible refine gate_dst (N := 2) rfl ?_); refine box_event ?hg (N := 2) ?hd (cs := #[.slice A0 m.length c0, .int .i64 f.f0, .int .i64 f.f1, .slice A1 f.f2.length c1]) (t := 87) ?hr ?_; (case hd => rfl); (case hg => rfl); (case hr => first | (go_simp; done) | (go_simp; rfl)); intro g1 hg w1 hbox hb; have HB := Aside0.mk hb; have X1 := Aside0.mk hbox; clear hbox hb hg) | ((with_reducible refine gate_dst (N := 3) rfl ?_); refine box_event ?hg (N := 3) ?hd (cs := #[.int .i64 x.f0, .int .i64 x.f1, .int .i64 x.f2, .int .i64 x.f3, .int .u16 x.f4, .int .i64 x.f5, .slice A2 x.f6.length c2]) (t := 49) ?hr ?_; (case hd => rfl); (case hg => rfl); (case hr => first | (go_simp; done) | (go_simp; rfl)); intro g2 hg w2 hbox hb; replace HB := Aside0.mk (below_step HB.out hb); replace X1 := Aside0.mk (blk_below X1.out hb); have X2 := Aside0.mk hbox; clear hbox hb hg; obtain ⟨h0, h1, h2, h3, h4, h5, h6⟩ := cl7 X2.out))
 go_cut [5] (fun v5 wc => ∃ g5 : Nat, v5 = .pointer (some ⟨g5, 0, none⟩) ∧ w.heap.size ≤ g5 ∧ g1 ≠ g5 ∧ g2 ≠ g5 ∧ Aside0 (Below w.heap.size w wc) ∧ Aside0 (wc.heap[g1]? = some (.cells #[.slice A0 m.length c0, .int .i64 f.f0, .int .i64 f.f1, .slice A1 f.f2.length c1] 87 (0, 0))) ∧ Aside0 (wc.heap[g2]? = some (.cells #[.int .i64 x.f0, .int .i64 x.f1, .int .i64 x.f2, .int .i64 x.f3, .int .u16 x.f4, .int .i64 x.f5, .slice A2 x.f6.length c2] 49 (0, 0))) ∧ Aside0 (wc.heap[g5]? = some (.cells #[.int .i64 x.f0, .int .i64 0, .int .i64 0, .int .i64 0, .int .u16 0, .int .i64 0, .slice none 0 0] 49 (0, 0))))
 case first => go_wp2; go_meet; exact ⟨_, rfl, HB.out.size, Nat.ne_of_lt (blk_lt X1.out), Nat.ne_of_lt (blk_lt X2.out), ⟨below_alloc HB.out _⟩, ⟨blk_alloc X1.out _⟩, ⟨blk_alloc X2.out _⟩, ⟨blk_new _ _⟩⟩
 case rest =>
  clear HB X1 X2 h0 h1 h2 h3 h4 h5 h6
  obtain ⟨g5, rfl, G5, G15, G25, HB, X1, X2, X5⟩ := hcut
  obtain ⟨k0, k1, k2, k3⟩ := cl4 X1.out
  obtain ⟨h0, h1, h2, h3, h4, h5, h6⟩ := cl7 X2.out
  have G15' := Aside0.mk G15
  have G25' := Aside0.mk G25
  have G5' := Aside0.mk G5
  clear G15 G25 G5
  go_upto_region 10 with (fail)
  go_cut [] (fun wc => Aside0 (Below w.heap.size w wc) ∧ Aside0 (wc.heap[g1]? = some (.cells #[.slice A0 m.length c0, .int .i64 f.f0, .int .i64 f.f1, .slice A1 f.f2.length c1] 87 (0, 0))) ∧ Aside0 (wc.heap[g2]? = some (.cells #[.int .i64 x.f0, .int .i64 x.f1, .int .i64 x.f2, .int .i64 x.f3, .int .u16 x.f4, .int .i64 x.f5, .slice A2 x.f6.length c2] 49 (0, 0))) ∧ Aside0 (wc.heap[g5]? = some (.cells #[.int .i64 x.f0, .int .i64 x.f1, .int .i64 x.f2, .int .i64 0, .int .u16 0, .int .i64 0, .slice none 0 0] 49 (0, 0))))
  case first =>
   have z1 := blk_frozen X5.out 1
   have z2 := blk_frozen X5.out 2
   have y1 := (blk_cell X5.out 1).trans rfl
   have y2 := (blk_cell X5.out 2).trans rfl
   go_region
   all_goals (go_wp2; go_meet; exact ⟨⟨below_drew ((below_set (below_set HB.out G5'.out) G5'.out))⟩, ⟨blk_drew ((blk_far (blk_far X1.out G15'.out _) G15'.out _))⟩, ⟨blk_drew ((blk_far (blk_far X2.out G25'.out _) G25'.out _))⟩, ⟨blk_drew ((set_blk 2 _ (set_blk 1 _ X5.out rfl) rfl))⟩⟩)
  case rest =>
   clear HB X1 X2 X5 k0 k1 k2 k3 h0 h1 h2 h3 h4 h5 h6
   obtain ⟨HB, X1, X2, X5⟩ := hcut
   obtain ⟨k0, k1, k2, k3⟩ := cl4 X1.out
   obtain ⟨h0, h1, h2, h3, h4, h5, h6⟩ := cl7 X2.out
   obtain ⟨v0, v1, v2, v3, v4, v5, v6⟩ := cl7 X5.out
   go_wp2_with (first | (go_at_call 104; (with_reducible refine (place_c m A0 c0 f A1 c1 _ _).mono ?_); rintro e w6 ⟨rfl, hb⟩; replace HB := Aside0.mk (below_step HB.out hb); replace X1 := Aside0.mk (blk_below X1.out hb); replace X2 := Aside0.mk (blk_below X2.out hb); replace X5 := Aside0.mk (blk_below X5.out hb); clear hb k0 k1 k2 k3 h0 h1 h2 h3 h4 h5 h6 v0 v1 v2 v3 v4 v5 v6; obtain ⟨k0, k1, k2, k3⟩ := cl4 X1.out; obtain ⟨h0, h1, h2, h3, h4, h5, h6⟩ := cl7 X2.out; obtain ⟨v0, v1, v2, v3, v4, v5, v6⟩ := cl7 X5.out) | (go_at_call 94; refine (sins_c (⟨x.f0, x.f1, x.f2, 0, 0, 0, ([] : List Int)⟩ : S49) none 0 x A2 c2 _ nil_C (Kd.C_below HL.out HB.out) (Nat.zero_le _)).mono ?_; rintro e w7 ⟨rfl, hb⟩; replace HB := Aside0.mk (below_step HB.out hb); replace X1 := Aside0.mk (blk_below X1.out hb); replace X2 := Aside0.mk (blk_below X2.out hb); replace X5 := Aside0.mk (blk_below X5.out hb); clear hb k0 k1 k2 k3 h0 h1 h2 h3 h4 h5 h6 v0 v1 v2 v3 v4 v5 v6; obtain ⟨k0, k1, k2, k3⟩ := cl4 X1.out; obtain ⟨h0, h1, h2, h3, h4, h5, h6⟩ := cl7 X2.out; obtain ⟨v0, v1, v2, v3, v4, v5, v6⟩ := cl7 X5.out))
   all_goals (go_ret; exact ⟨ret_b (by rw [HV.out]; simp [*]), HB.out⟩)
theorem insV3 (m : List S27) (R : Int) (x : S49) (h : x.f0 = 3 ∨ x.f0 = 4 ∨ x.f0 = 5 ∨ x.f0 = 6 ∨ x.f0 = 7 ∨ x.f0 = 8) : insR m R x = ((win x.f1 R && win x.f2 R && win x.f3 R) && insE (⟨x.f0, x.f1, x.f2, x.f3, 0, 0, ([] : List Int)⟩ : S49) x) := by
 rw [Bool.eq_iff_iff]
 rcases h with h | h | h | h | h | h <;> simp [insR, insE, plainR, h, eq_comm (a := (0 : Int)), eq_comm (a := ([] : List Int)), and_assoc] <;> (try (first | (constructor <;> intro hh <;> simp_all; done) | (intro _; constructor <;> intro hh <;> simp_all; done)))
set_option maxHeartbeats 16000000 in
set_option maxRecDepth 100000 in
theorem inl3_c (m : List S27) (A0 : Option Addr) (c0 : Nat) (f : S27) (A1 : Option Addr) (c1 : Nat) (x : S49) (A2 : Option Addr) (c2 : Nat) (w : World) (hm : Kd.C k27 w A0 m.length m) (hl : Kd.C (Kd.int .i64) w A2 x.f6.length x.f6) (hb : x.f6.length ≤ 1000000) (h : x.f0 = 3) :
  Calls Try.prog 87 #[.agg #[.slice A0 m.length c0, .int .i64 f.f0, .int .i64 f.f1, .slice A1 f.f2.length c1], .agg #[.int .i64 x.f0, .int .i64 x.f1, .int .i64 x.f2, .int .i64 x.f3, .int .u16 x.f4, .int .i64 x.f5, .slice A2 x.f6.length c2]] w fun e w' => e = .returned (.bool (insR m f.f1 x)) ∧ Below w.heap.size w w' := by
 have HM := Aside0.mk hm
 have HL := Aside0.mk hl
 have HN := Aside0.mk hb
 clear hm hl hb
 have hu24 := Try.underlying24
 have hu27 := Try.underlying27
 have hu87 := Try.underlying87
 have hu49 := Try.underlying49
 have b1 : (x.f0 == 1) = false := by rw [h]; rfl
 have b2 : (x.f0 == 2) = false := by rw [h]; rfl
 have b9 : (x.f0 == 9) = false := by rw [h]; rfl
 have b3 : (x.f0 == 3) = true := by rw [h]; rfl
 have HV := Aside0.mk (insV3 m f.f1 x (by omega))
 clear h
 go_enter Try.func87, Try.ntmps87
 go_upto_region 1 with (first | ((with_reducible refine gate_dst (N := 2) rfl ?_); refine box_event ?hg (N := 2) ?hd (cs := #[.slice A0 m.length c0, .int .i64 f.f0, .int .i64 f.f1, .slice A1 f.f2.length c1]) (t := 87) ?hr ?_; (case hd => rfl); (case hg => rfl); (case hr => first | (go_simp; done) | (go_simp; rfl)); intro g1 hg w1 hbox hb; have HB := Aside0.mk hb; have X1 := Aside0.mk hbox; clear hbox hb hg) | ((with_reducible refine gate_dst (N := 3) rfl ?_); refine box_event ?hg (N := 3) ?hd (cs := #[.int .i64 x.f0, .int .i64 x.f1, .int .i64 x.f2, .int .i64 x.f3, .int .u16 x.f4, .int .i64 x.f5, .slice A2 x.f6.length c2]) (t := 49) ?hr ?_; (case hd => rfl); (case hg => rfl); (case hr => first | (go_simp; done) | (go_simp; rfl)); intro g2 hg w2 hbox hb; replace HB := Aside0.mk (below_step HB.out hb); replace X1 := Aside0.mk (blk_below X1.out hb); have X2 := Aside0.mk hbox; clear hbox hb hg; obtain ⟨h0, h1, h2, h3, h4, h5, h6⟩ := cl7 X2.out))
 go_cut [5] (fun v5 wc => ∃ g5 : Nat, v5 = .pointer (some ⟨g5, 0, none⟩) ∧ w.heap.size ≤ g5 ∧ g1 ≠ g5 ∧ g2 ≠ g5 ∧ Aside0 (Below w.heap.size w wc) ∧ Aside0 (wc.heap[g1]? = some (.cells #[.slice A0 m.length c0, .int .i64 f.f0, .int .i64 f.f1, .slice A1 f.f2.length c1] 87 (0, 0))) ∧ Aside0 (wc.heap[g2]? = some (.cells #[.int .i64 x.f0, .int .i64 x.f1, .int .i64 x.f2, .int .i64 x.f3, .int .u16 x.f4, .int .i64 x.f5, .slice A2 x.f6.length c2] 49 (0, 0))) ∧ Aside0 (wc.heap[g5]? = some (.cells #[.int .i64 x.f0, .int .i64 0, .int .i64 0, .int .i64 0, .int .u16 0, .int .i64 0, .slice none 0 0] 49 (0, 0))))
 case first => go_wp2; go_meet; exact ⟨_, rfl, HB.out.size, Nat.ne_of_lt (blk_lt X1.out), Nat.ne_of_lt (blk_lt X2.out), ⟨below_alloc HB.out _⟩, ⟨blk_alloc X1.out _⟩, ⟨blk_alloc X2.out _⟩, ⟨blk_new _ _⟩⟩
 case rest =>
  clear HB X1 X2 h0 h1 h2 h3 h4 h5 h6
  obtain ⟨g5, rfl, G5, G15, G25, HB, X1, X2, X5⟩ := hcut
  obtain ⟨k0, k1, k2, k3⟩ := cl4 X1.out
  obtain ⟨h0, h1, h2, h3, h4, h5, h6⟩ := cl7 X2.out
  have G15' := Aside0.mk G15
  have G25' := Aside0.mk G25
  have G5' := Aside0.mk G5
  clear G15 G25 G5
  go_upto_region 18 with (fail)
  go_cut [] (fun wc => Aside0 (Below w.heap.size w wc) ∧ Aside0 (wc.heap[g1]? = some (.cells #[.slice A0 m.length c0, .int .i64 f.f0, .int .i64 f.f1, .slice A1 f.f2.length c1] 87 (0, 0))) ∧ Aside0 (wc.heap[g2]? = some (.cells #[.int .i64 x.f0, .int .i64 x.f1, .int .i64 x.f2, .int .i64 x.f3, .int .u16 x.f4, .int .i64 x.f5, .slice A2 x.f6.length c2] 49 (0, 0))) ∧ Aside0 (wc.heap[g5]? = some (.cells #[.int .i64 x.f0, .int .i64 x.f1, .int .i64 x.f2, .int .i64 x.f3, .int .u16 0, .int .i64 0, .slice none 0 0] 49 (0, 0))))
  case first =>
   have z1 := blk_frozen X5.out 1
   have z2 := blk_frozen X5.out 2
   have z3 := blk_frozen X5.out 3
   have y1 := (blk_cell X5.out 1).trans rfl
   have y2 := (blk_cell X5.out 2).trans rfl
   have y3 := (blk_cell X5.out 3).trans rfl
   go_region
   all_goals (go_wp2; go_meet; exact ⟨⟨below_drew ((below_set (below_set (below_set HB.out G5'.out) G5'.out) G5'.out))⟩, ⟨blk_drew ((blk_far (blk_far (blk_far X1.out G15'.out _) G15'.out _) G15'.out _))⟩, ⟨blk_drew ((blk_far (blk_far (blk_far X2.out G25'.out _) G25'.out _) G25'.out _))⟩, ⟨blk_drew ((set_blk 3 _ (set_blk 2 _ (set_blk 1 _ X5.out rfl) rfl) rfl))⟩⟩)
  case rest =>
   clear HB X1 X2 X5 k0 k1 k2 k3 h0 h1 h2 h3 h4 h5 h6
   obtain ⟨HB, X1, X2, X5⟩ := hcut
   obtain ⟨k0, k1, k2, k3⟩ := cl4 X1.out
   obtain ⟨h0, h1, h2, h3, h4, h5, h6⟩ := cl7 X2.out
   obtain ⟨v0, v1, v2, v3, v4, v5, v6⟩ := cl7 X5.out
   go_wp2_with (first | (go_at_call 104; (with_reducible refine (place_c m A0 c0 f A1 c1 _ _).mono ?_); rintro e w6 ⟨rfl, hb⟩; replace HB := Aside0.mk (below_step HB.out hb); replace X1 := Aside0.mk (blk_below X1.out hb); replace X2 := Aside0.mk (blk_below X2.out hb); replace X5 := Aside0.mk (blk_below X5.out hb); clear hb k0 k1 k2 k3 h0 h1 h2 h3 h4 h5 h6 v0 v1 v2 v3 v4 v5 v6; obtain ⟨k0, k1, k2, k3⟩ := cl4 X1.out; obtain ⟨h0, h1, h2, h3, h4, h5, h6⟩ := cl7 X2.out; obtain ⟨v0, v1, v2, v3, v4, v5, v6⟩ := cl7 X5.out) | (go_at_call 94; refine (sins_c (⟨x.f0, x.f1, x.f2, x.f3, 0, 0, ([] : List Int)⟩ : S49) none 0 x A2 c2 _ nil_C (Kd.C_below HL.out HB.out) (Nat.zero_le _)).mono ?_; rintro e w7 ⟨rfl, hb⟩; replace HB := Aside0.mk (below_step HB.out hb); replace X1 := Aside0.mk (blk_below X1.out hb); replace X2 := Aside0.mk (blk_below X2.out hb); replace X5 := Aside0.mk (blk_below X5.out hb); clear hb k0 k1 k2 k3 h0 h1 h2 h3 h4 h5 h6 v0 v1 v2 v3 v4 v5 v6; obtain ⟨k0, k1, k2, k3⟩ := cl4 X1.out; obtain ⟨h0, h1, h2, h3, h4, h5, h6⟩ := cl7 X2.out; obtain ⟨v0, v1, v2, v3, v4, v5, v6⟩ := cl7 X5.out))
   all_goals (go_ret; exact ⟨ret_b (by rw [HV.out]; simp [*]), HB.out⟩)
set_option maxHeartbeats 16000000 in
set_option maxRecDepth 100000 in
theorem inl4_c (m : List S27) (A0 : Option Addr) (c0 : Nat) (f : S27) (A1 : Option Addr) (c1 : Nat) (x : S49) (A2 : Option Addr) (c2 : Nat) (w : World) (hm : Kd.C k27 w A0 m.length m) (hl : Kd.C (Kd.int .i64) w A2 x.f6.length x.f6) (hb : x.f6.length ≤ 1000000) (h : x.f0 = 4) :
  Calls Try.prog 87 #[.agg #[.slice A0 m.length c0, .int .i64 f.f0, .int .i64 f.f1, .slice A1 f.f2.length c1], .agg #[.int .i64 x.f0, .int .i64 x.f1, .int .i64 x.f2, .int .i64 x.f3, .int .u16 x.f4, .int .i64 x.f5, .slice A2 x.f6.length c2]] w fun e w' => e = .returned (.bool (insR m f.f1 x)) ∧ Below w.heap.size w w' := by
 have HM := Aside0.mk hm
 have HL := Aside0.mk hl
 have HN := Aside0.mk hb
 clear hm hl hb
 have hu24 := Try.underlying24
 have hu27 := Try.underlying27
 have hu87 := Try.underlying87
 have hu49 := Try.underlying49
 have b1 : (x.f0 == 1) = false := by rw [h]; rfl
 have b2 : (x.f0 == 2) = false := by rw [h]; rfl
 have b9 : (x.f0 == 9) = false := by rw [h]; rfl
 have b3 : (x.f0 == 3) = false := by rw [h]; rfl
 have b4 : (x.f0 == 4) = true := by rw [h]; rfl
 have HV := Aside0.mk (insV3 m f.f1 x (by omega))
 clear h
 go_enter Try.func87, Try.ntmps87
 go_upto_region 1 with (first | ((with_reducible refine gate_dst (N := 2) rfl ?_); refine box_event ?hg (N := 2) ?hd (cs := #[.slice A0 m.length c0, .int .i64 f.f0, .int .i64 f.f1, .slice A1 f.f2.length c1]) (t := 87) ?hr ?_; (case hd => rfl); (case hg => rfl); (case hr => first | (go_simp; done) | (go_simp; rfl)); intro g1 hg w1 hbox hb; have HB := Aside0.mk hb; have X1 := Aside0.mk hbox; clear hbox hb hg) | ((with_reducible refine gate_dst (N := 3) rfl ?_); refine box_event ?hg (N := 3) ?hd (cs := #[.int .i64 x.f0, .int .i64 x.f1, .int .i64 x.f2, .int .i64 x.f3, .int .u16 x.f4, .int .i64 x.f5, .slice A2 x.f6.length c2]) (t := 49) ?hr ?_; (case hd => rfl); (case hg => rfl); (case hr => first | (go_simp; done) | (go_simp; rfl)); intro g2 hg w2 hbox hb; replace HB := Aside0.mk (below_step HB.out hb); replace X1 := Aside0.mk (blk_below X1.out hb); have X2 := Aside0.mk hbox; clear hbox hb hg; obtain ⟨h0, h1, h2, h3, h4, h5, h6⟩ := cl7 X2.out))
 go_cut [5] (fun v5 wc => ∃ g5 : Nat, v5 = .pointer (some ⟨g5, 0, none⟩) ∧ w.heap.size ≤ g5 ∧ g1 ≠ g5 ∧ g2 ≠ g5 ∧ Aside0 (Below w.heap.size w wc) ∧ Aside0 (wc.heap[g1]? = some (.cells #[.slice A0 m.length c0, .int .i64 f.f0, .int .i64 f.f1, .slice A1 f.f2.length c1] 87 (0, 0))) ∧ Aside0 (wc.heap[g2]? = some (.cells #[.int .i64 x.f0, .int .i64 x.f1, .int .i64 x.f2, .int .i64 x.f3, .int .u16 x.f4, .int .i64 x.f5, .slice A2 x.f6.length c2] 49 (0, 0))) ∧ Aside0 (wc.heap[g5]? = some (.cells #[.int .i64 x.f0, .int .i64 0, .int .i64 0, .int .i64 0, .int .u16 0, .int .i64 0, .slice none 0 0] 49 (0, 0))))
 case first => go_wp2; go_meet; exact ⟨_, rfl, HB.out.size, Nat.ne_of_lt (blk_lt X1.out), Nat.ne_of_lt (blk_lt X2.out), ⟨below_alloc HB.out _⟩, ⟨blk_alloc X1.out _⟩, ⟨blk_alloc X2.out _⟩, ⟨blk_new _ _⟩⟩
 case rest =>
  clear HB X1 X2 h0 h1 h2 h3 h4 h5 h6
  obtain ⟨g5, rfl, G5, G15, G25, HB, X1, X2, X5⟩ := hcut
  obtain ⟨k0, k1, k2, k3⟩ := cl4 X1.out
  obtain ⟨h0, h1, h2, h3, h4, h5, h6⟩ := cl7 X2.out
  have G15' := Aside0.mk G15
  have G25' := Aside0.mk G25
  have G5' := Aside0.mk G5
  clear G15 G25 G5
  go_upto_region 18 with (fail)
  go_cut [] (fun wc => Aside0 (Below w.heap.size w wc) ∧ Aside0 (wc.heap[g1]? = some (.cells #[.slice A0 m.length c0, .int .i64 f.f0, .int .i64 f.f1, .slice A1 f.f2.length c1] 87 (0, 0))) ∧ Aside0 (wc.heap[g2]? = some (.cells #[.int .i64 x.f0, .int .i64 x.f1, .int .i64 x.f2, .int .i64 x.f3, .int .u16 x.f4, .int .i64 x.f5, .slice A2 x.f6.length c2] 49 (0, 0))) ∧ Aside0 (wc.heap[g5]? = some (.cells #[.int .i64 x.f0, .int .i64 x.f1, .int .i64 x.f2, .int .i64 x.f3, .int .u16 0, .int .i64 0, .slice none 0 0] 49 (0, 0))))
  case first =>
   have z1 := blk_frozen X5.out 1
   have z2 := blk_frozen X5.out 2
   have z3 := blk_frozen X5.out 3
   have y1 := (blk_cell X5.out 1).trans rfl
   have y2 := (blk_cell X5.out 2).trans rfl
   have y3 := (blk_cell X5.out 3).trans rfl
   go_region
   all_goals (go_wp2; go_meet; exact ⟨⟨below_drew ((below_set (below_set (below_set HB.out G5'.out) G5'.out) G5'.out))⟩, ⟨blk_drew ((blk_far (blk_far (blk_far X1.out G15'.out _) G15'.out _) G15'.out _))⟩, ⟨blk_drew ((blk_far (blk_far (blk_far X2.out G25'.out _) G25'.out _) G25'.out _))⟩, ⟨blk_drew ((set_blk 3 _ (set_blk 2 _ (set_blk 1 _ X5.out rfl) rfl) rfl))⟩⟩)
  case rest =>
   clear HB X1 X2 X5 k0 k1 k2 k3 h0 h1 h2 h3 h4 h5 h6
   obtain ⟨HB, X1, X2, X5⟩ := hcut
   obtain ⟨k0, k1, k2, k3⟩ := cl4 X1.out
   obtain ⟨h0, h1, h2, h3, h4, h5, h6⟩ := cl7 X2.out
   obtain ⟨v0, v1, v2, v3, v4, v5, v6⟩ := cl7 X5.out
   go_wp2_with (first | (go_at_call 104; (with_reducible refine (place_c m A0 c0 f A1 c1 _ _).mono ?_); rintro e w6 ⟨rfl, hb⟩; replace HB := Aside0.mk (below_step HB.out hb); replace X1 := Aside0.mk (blk_below X1.out hb); replace X2 := Aside0.mk (blk_below X2.out hb); replace X5 := Aside0.mk (blk_below X5.out hb); clear hb k0 k1 k2 k3 h0 h1 h2 h3 h4 h5 h6 v0 v1 v2 v3 v4 v5 v6; obtain ⟨k0, k1, k2, k3⟩ := cl4 X1.out; obtain ⟨h0, h1, h2, h3, h4, h5, h6⟩ := cl7 X2.out; obtain ⟨v0, v1, v2, v3, v4, v5, v6⟩ := cl7 X5.out) | (go_at_call 94; refine (sins_c (⟨x.f0, x.f1, x.f2, x.f3, 0, 0, ([] : List Int)⟩ : S49) none 0 x A2 c2 _ nil_C (Kd.C_below HL.out HB.out) (Nat.zero_le _)).mono ?_; rintro e w7 ⟨rfl, hb⟩; replace HB := Aside0.mk (below_step HB.out hb); replace X1 := Aside0.mk (blk_below X1.out hb); replace X2 := Aside0.mk (blk_below X2.out hb); replace X5 := Aside0.mk (blk_below X5.out hb); clear hb k0 k1 k2 k3 h0 h1 h2 h3 h4 h5 h6 v0 v1 v2 v3 v4 v5 v6; obtain ⟨k0, k1, k2, k3⟩ := cl4 X1.out; obtain ⟨h0, h1, h2, h3, h4, h5, h6⟩ := cl7 X2.out; obtain ⟨v0, v1, v2, v3, v4, v5, v6⟩ := cl7 X5.out))
   all_goals (go_ret; exact ⟨ret_b (by rw [HV.out]; simp [*]), HB.out⟩)
set_option maxHeartbeats 16000000 in
set_option maxRecDepth 100000 in
theorem inl5_c (m : List S27) (A0 : Option Addr) (c0 : Nat) (f : S27) (A1 : Option Addr) (c1 : Nat) (x : S49) (A2 : Option Addr) (c2 : Nat) (w : World) (hm : Kd.C k27 w A0 m.length m) (hl : Kd.C (Kd.int .i64) w A2 x.f6.length x.f6) (hb : x.f6.length ≤ 1000000) (h : x.f0 = 5) :
  Calls Try.prog 87 #[.agg #[.slice A0 m.length c0, .int .i64 f.f0, .int .i64 f.f1, .slice A1 f.f2.length c1], .agg #[.int .i64 x.f0, .int .i64 x.f1, .int .i64 x.f2, .int .i64 x.f3, .int .u16 x.f4, .int .i64 x.f5, .slice A2 x.f6.length c2]] w fun e w' => e = .returned (.bool (insR m f.f1 x)) ∧ Below w.heap.size w w' := by
 have HM := Aside0.mk hm
 have HL := Aside0.mk hl
 have HN := Aside0.mk hb
 clear hm hl hb
 have hu24 := Try.underlying24
 have hu27 := Try.underlying27
 have hu87 := Try.underlying87
 have hu49 := Try.underlying49
 have b1 : (x.f0 == 1) = false := by rw [h]; rfl
 have b2 : (x.f0 == 2) = false := by rw [h]; rfl
 have b9 : (x.f0 == 9) = false := by rw [h]; rfl
 have b3 : (x.f0 == 3) = false := by rw [h]; rfl
 have b4 : (x.f0 == 4) = false := by rw [h]; rfl
 have b5 : (x.f0 == 5) = true := by rw [h]; rfl
 have HV := Aside0.mk (insV3 m f.f1 x (by omega))
 clear h
 go_enter Try.func87, Try.ntmps87
 go_upto_region 1 with (first | ((with_reducible refine gate_dst (N := 2) rfl ?_); refine box_event ?hg (N := 2) ?hd (cs := #[.slice A0 m.length c0, .int .i64 f.f0, .int .i64 f.f1, .slice A1 f.f2.length c1]) (t := 87) ?hr ?_; (case hd => rfl); (case hg => rfl); (case hr => first | (go_simp; done) | (go_simp; rfl)); intro g1 hg w1 hbox hb; have HB := Aside0.mk hb; have X1 := Aside0.mk hbox; clear hbox hb hg) | ((with_reducible refine gate_dst (N := 3) rfl ?_); refine box_event ?hg (N := 3) ?hd (cs := #[.int .i64 x.f0, .int .i64 x.f1, .int .i64 x.f2, .int .i64 x.f3, .int .u16 x.f4, .int .i64 x.f5, .slice A2 x.f6.length c2]) (t := 49) ?hr ?_; (case hd => rfl); (case hg => rfl); (case hr => first | (go_simp; done) | (go_simp; rfl)); intro g2 hg w2 hbox hb; replace HB := Aside0.mk (below_step HB.out hb); replace X1 := Aside0.mk (blk_below X1.out hb); have X2 := Aside0.mk hbox; clear hbox hb hg; obtain ⟨h0, h1, h2, h3, h4, h5, h6⟩ := cl7 X2.out))
 go_cut [5] (fun v5 wc => ∃ g5 : Nat, v5 = .pointer (some ⟨g5, 0, none⟩) ∧ w.heap.size ≤ g5 ∧ g1 ≠ g5 ∧ g2 ≠ g5 ∧ Aside0 (Below w.heap.size w wc) ∧ Aside0 (wc.heap[g1]? = some (.cells #[.slice A0 m.length c0, .int .i64 f.f0, .int .i64 f.f1, .slice A1 f.f2.length c1] 87 (0, 0))) ∧ Aside0 (wc.heap[g2]? = some (.cells #[.int .i64 x.f0, .int .i64 x.f1, .int .i64 x.f2, .int .i64 x.f3, .int .u16 x.f4, .int .i64 x.f5, .slice A2 x.f6.length c2] 49 (0, 0))) ∧ Aside0 (wc.heap[g5]? = some (.cells #[.int .i64 x.f0, .int .i64 0, .int .i64 0, .int .i64 0, .int .u16 0, .int .i64 0, .slice none 0 0] 49 (0, 0))))
 case first => go_wp2; go_meet; exact ⟨_, rfl, HB.out.size, Nat.ne_of_lt (blk_lt X1.out), Nat.ne_of_lt (blk_lt X2.out), ⟨below_alloc HB.out _⟩, ⟨blk_alloc X1.out _⟩, ⟨blk_alloc X2.out _⟩, ⟨blk_new _ _⟩⟩
 case rest =>
  clear HB X1 X2 h0 h1 h2 h3 h4 h5 h6
  obtain ⟨g5, rfl, G5, G15, G25, HB, X1, X2, X5⟩ := hcut
  obtain ⟨k0, k1, k2, k3⟩ := cl4 X1.out
  obtain ⟨h0, h1, h2, h3, h4, h5, h6⟩ := cl7 X2.out
  have G15' := Aside0.mk G15
  have G25' := Aside0.mk G25
  have G5' := Aside0.mk G5
  clear G15 G25 G5
  go_upto_region 18 with (fail)
  go_cut [] (fun wc => Aside0 (Below w.heap.size w wc) ∧ Aside0 (wc.heap[g1]? = some (.cells #[.slice A0 m.length c0, .int .i64 f.f0, .int .i64 f.f1, .slice A1 f.f2.length c1] 87 (0, 0))) ∧ Aside0 (wc.heap[g2]? = some (.cells #[.int .i64 x.f0, .int .i64 x.f1, .int .i64 x.f2, .int .i64 x.f3, .int .u16 x.f4, .int .i64 x.f5, .slice A2 x.f6.length c2] 49 (0, 0))) ∧ Aside0 (wc.heap[g5]? = some (.cells #[.int .i64 x.f0, .int .i64 x.f1, .int .i64 x.f2, .int .i64 x.f3, .int .u16 0, .int .i64 0, .slice none 0 0] 49 (0, 0))))
  case first =>
   have z1 := blk_frozen X5.out 1
   have z2 := blk_frozen X5.out 2
   have z3 := blk_frozen X5.out 3
   have y1 := (blk_cell X5.out 1).trans rfl
   have y2 := (blk_cell X5.out 2).trans rfl
   have y3 := (blk_cell X5.out 3).trans rfl
   go_region
   all_goals (go_wp2; go_meet; exact ⟨⟨below_drew ((below_set (below_set (below_set HB.out G5'.out) G5'.out) G5'.out))⟩, ⟨blk_drew ((blk_far (blk_far (blk_far X1.out G15'.out _) G15'.out _) G15'.out _))⟩, ⟨blk_drew ((blk_far (blk_far (blk_far X2.out G25'.out _) G25'.out _) G25'.out _))⟩, ⟨blk_drew ((set_blk 3 _ (set_blk 2 _ (set_blk 1 _ X5.out rfl) rfl) rfl))⟩⟩)
  case rest =>
   clear HB X1 X2 X5 k0 k1 k2 k3 h0 h1 h2 h3 h4 h5 h6
   obtain ⟨HB, X1, X2, X5⟩ := hcut
   obtain ⟨k0, k1, k2, k3⟩ := cl4 X1.out
   obtain ⟨h0, h1, h2, h3, h4, h5, h6⟩ := cl7 X2.out
   obtain ⟨v0, v1, v2, v3, v4, v5, v6⟩ := cl7 X5.out
   go_wp2_with (first | (go_at_call 104; (with_reducible refine (place_c m A0 c0 f A1 c1 _ _).mono ?_); rintro e w6 ⟨rfl, hb⟩; replace HB := Aside0.mk (below_step HB.out hb); replace X1 := Aside0.mk (blk_below X1.out hb); replace X2 := Aside0.mk (blk_below X2.out hb); replace X5 := Aside0.mk (blk_below X5.out hb); clear hb k0 k1 k2 k3 h0 h1 h2 h3 h4 h5 h6 v0 v1 v2 v3 v4 v5 v6; obtain ⟨k0, k1, k2, k3⟩ := cl4 X1.out; obtain ⟨h0, h1, h2, h3, h4, h5, h6⟩ := cl7 X2.out; obtain ⟨v0, v1, v2, v3, v4, v5, v6⟩ := cl7 X5.out) | (go_at_call 94; refine (sins_c (⟨x.f0, x.f1, x.f2, x.f3, 0, 0, ([] : List Int)⟩ : S49) none 0 x A2 c2 _ nil_C (Kd.C_below HL.out HB.out) (Nat.zero_le _)).mono ?_; rintro e w7 ⟨rfl, hb⟩; replace HB := Aside0.mk (below_step HB.out hb); replace X1 := Aside0.mk (blk_below X1.out hb); replace X2 := Aside0.mk (blk_below X2.out hb); replace X5 := Aside0.mk (blk_below X5.out hb); clear hb k0 k1 k2 k3 h0 h1 h2 h3 h4 h5 h6 v0 v1 v2 v3 v4 v5 v6; obtain ⟨k0, k1, k2, k3⟩ := cl4 X1.out; obtain ⟨h0, h1, h2, h3, h4, h5, h6⟩ := cl7 X2.out; obtain ⟨v0, v1, v2, v3, v4, v5, v6⟩ := cl7 X5.out))
   all_goals (go_ret; exact ⟨ret_b (by rw [HV.out]; simp [*]), HB.out⟩)
set_option maxHeartbeats 16000000 in
set_option maxRecDepth 100000 in
theorem inl6_c (m : List S27) (A0 : Option Addr) (c0 : Nat) (f : S27) (A1 : Option Addr) (c1 : Nat) (x : S49) (A2 : Option Addr) (c2 : Nat) (w : World) (hm : Kd.C k27 w A0 m.length m) (hl : Kd.C (Kd.int .i64) w A2 x.f6.length x.f6) (hb : x.f6.length ≤ 1000000) (h : x.f0 = 6) :
  Calls Try.prog 87 #[.agg #[.slice A0 m.length c0, .int .i64 f.f0, .int .i64 f.f1, .slice A1 f.f2.length c1], .agg #[.int .i64 x.f0, .int .i64 x.f1, .int .i64 x.f2, .int .i64 x.f3, .int .u16 x.f4, .int .i64 x.f5, .slice A2 x.f6.length c2]] w fun e w' => e = .returned (.bool (insR m f.f1 x)) ∧ Below w.heap.size w w' := by
 have HM := Aside0.mk hm
 have HL := Aside0.mk hl
 have HN := Aside0.mk hb
 clear hm hl hb
 have hu24 := Try.underlying24
 have hu27 := Try.underlying27
 have hu87 := Try.underlying87
 have hu49 := Try.underlying49
 have b1 : (x.f0 == 1) = false := by rw [h]; rfl
 have b2 : (x.f0 == 2) = false := by rw [h]; rfl
 have b9 : (x.f0 == 9) = false := by rw [h]; rfl
 have b3 : (x.f0 == 3) = false := by rw [h]; rfl
 have b4 : (x.f0 == 4) = false := by rw [h]; rfl
 have b5 : (x.f0 == 5) = false := by rw [h]; rfl
 have b6 : (x.f0 == 6) = true := by rw [h]; rfl
 have HV := Aside0.mk (insV3 m f.f1 x (by omega))
 clear h
 go_enter Try.func87, Try.ntmps87
 go_upto_region 1 with (first | ((with_reducible refine gate_dst (N := 2) rfl ?_); refine box_event ?hg (N := 2) ?hd (cs := #[.slice A0 m.length c0, .int .i64 f.f0, .int .i64 f.f1, .slice A1 f.f2.length c1]) (t := 87) ?hr ?_; (case hd => rfl); (case hg => rfl); (case hr => first | (go_simp; done) | (go_simp; rfl)); intro g1 hg w1 hbox hb; have HB := Aside0.mk hb; have X1 := Aside0.mk hbox; clear hbox hb hg) | ((with_reducible refine gate_dst (N := 3) rfl ?_); refine box_event ?hg (N := 3) ?hd (cs := #[.int .i64 x.f0, .int .i64 x.f1, .int .i64 x.f2, .int .i64 x.f3, .int .u16 x.f4, .int .i64 x.f5, .slice A2 x.f6.length c2]) (t := 49) ?hr ?_; (case hd => rfl); (case hg => rfl); (case hr => first | (go_simp; done) | (go_simp; rfl)); intro g2 hg w2 hbox hb; replace HB := Aside0.mk (below_step HB.out hb); replace X1 := Aside0.mk (blk_below X1.out hb); have X2 := Aside0.mk hbox; clear hbox hb hg; obtain ⟨h0, h1, h2, h3, h4, h5, h6⟩ := cl7 X2.out))
 go_cut [5] (fun v5 wc => ∃ g5 : Nat, v5 = .pointer (some ⟨g5, 0, none⟩) ∧ w.heap.size ≤ g5 ∧ g1 ≠ g5 ∧ g2 ≠ g5 ∧ Aside0 (Below w.heap.size w wc) ∧ Aside0 (wc.heap[g1]? = some (.cells #[.slice A0 m.length c0, .int .i64 f.f0, .int .i64 f.f1, .slice A1 f.f2.length c1] 87 (0, 0))) ∧ Aside0 (wc.heap[g2]? = some (.cells #[.int .i64 x.f0, .int .i64 x.f1, .int .i64 x.f2, .int .i64 x.f3, .int .u16 x.f4, .int .i64 x.f5, .slice A2 x.f6.length c2] 49 (0, 0))) ∧ Aside0 (wc.heap[g5]? = some (.cells #[.int .i64 x.f0, .int .i64 0, .int .i64 0, .int .i64 0, .int .u16 0, .int .i64 0, .slice none 0 0] 49 (0, 0))))
 case first => go_wp2; go_meet; exact ⟨_, rfl, HB.out.size, Nat.ne_of_lt (blk_lt X1.out), Nat.ne_of_lt (blk_lt X2.out), ⟨below_alloc HB.out _⟩, ⟨blk_alloc X1.out _⟩, ⟨blk_alloc X2.out _⟩, ⟨blk_new _ _⟩⟩
 case rest =>
  clear HB X1 X2 h0 h1 h2 h3 h4 h5 h6
  obtain ⟨g5, rfl, G5, G15, G25, HB, X1, X2, X5⟩ := hcut
  obtain ⟨k0, k1, k2, k3⟩ := cl4 X1.out
  obtain ⟨h0, h1, h2, h3, h4, h5, h6⟩ := cl7 X2.out
  have G15' := Aside0.mk G15
  have G25' := Aside0.mk G25
  have G5' := Aside0.mk G5
  clear G15 G25 G5
  go_upto_region 18 with (fail)
  go_cut [] (fun wc => Aside0 (Below w.heap.size w wc) ∧ Aside0 (wc.heap[g1]? = some (.cells #[.slice A0 m.length c0, .int .i64 f.f0, .int .i64 f.f1, .slice A1 f.f2.length c1] 87 (0, 0))) ∧ Aside0 (wc.heap[g2]? = some (.cells #[.int .i64 x.f0, .int .i64 x.f1, .int .i64 x.f2, .int .i64 x.f3, .int .u16 x.f4, .int .i64 x.f5, .slice A2 x.f6.length c2] 49 (0, 0))) ∧ Aside0 (wc.heap[g5]? = some (.cells #[.int .i64 x.f0, .int .i64 x.f1, .int .i64 x.f2, .int .i64 x.f3, .int .u16 0, .int .i64 0, .slice none 0 0] 49 (0, 0))))
  case first =>
   have z1 := blk_frozen X5.out 1
   have z2 := blk_frozen X5.out 2
   have z3 := blk_frozen X5.out 3
   have y1 := (blk_cell X5.out 1).trans rfl
   have y2 := (blk_cell X5.out 2).trans rfl
   have y3 := (blk_cell X5.out 3).trans rfl
   go_region
   all_goals (go_wp2; go_meet; exact ⟨⟨below_drew ((below_set (below_set (below_set HB.out G5'.out) G5'.out) G5'.out))⟩, ⟨blk_drew ((blk_far (blk_far (blk_far X1.out G15'.out _) G15'.out _) G15'.out _))⟩, ⟨blk_drew ((blk_far (blk_far (blk_far X2.out G25'.out _) G25'.out _) G25'.out _))⟩, ⟨blk_drew ((set_blk 3 _ (set_blk 2 _ (set_blk 1 _ X5.out rfl) rfl) rfl))⟩⟩)
  case rest =>
   clear HB X1 X2 X5 k0 k1 k2 k3 h0 h1 h2 h3 h4 h5 h6
   obtain ⟨HB, X1, X2, X5⟩ := hcut
   obtain ⟨k0, k1, k2, k3⟩ := cl4 X1.out
   obtain ⟨h0, h1, h2, h3, h4, h5, h6⟩ := cl7 X2.out
   obtain ⟨v0, v1, v2, v3, v4, v5, v6⟩ := cl7 X5.out
   go_wp2_with (first | (go_at_call 104; (with_reducible refine (place_c m A0 c0 f A1 c1 _ _).mono ?_); rintro e w6 ⟨rfl, hb⟩; replace HB := Aside0.mk (below_step HB.out hb); replace X1 := Aside0.mk (blk_below X1.out hb); replace X2 := Aside0.mk (blk_below X2.out hb); replace X5 := Aside0.mk (blk_below X5.out hb); clear hb k0 k1 k2 k3 h0 h1 h2 h3 h4 h5 h6 v0 v1 v2 v3 v4 v5 v6; obtain ⟨k0, k1, k2, k3⟩ := cl4 X1.out; obtain ⟨h0, h1, h2, h3, h4, h5, h6⟩ := cl7 X2.out; obtain ⟨v0, v1, v2, v3, v4, v5, v6⟩ := cl7 X5.out) | (go_at_call 94; refine (sins_c (⟨x.f0, x.f1, x.f2, x.f3, 0, 0, ([] : List Int)⟩ : S49) none 0 x A2 c2 _ nil_C (Kd.C_below HL.out HB.out) (Nat.zero_le _)).mono ?_; rintro e w7 ⟨rfl, hb⟩; replace HB := Aside0.mk (below_step HB.out hb); replace X1 := Aside0.mk (blk_below X1.out hb); replace X2 := Aside0.mk (blk_below X2.out hb); replace X5 := Aside0.mk (blk_below X5.out hb); clear hb k0 k1 k2 k3 h0 h1 h2 h3 h4 h5 h6 v0 v1 v2 v3 v4 v5 v6; obtain ⟨k0, k1, k2, k3⟩ := cl4 X1.out; obtain ⟨h0, h1, h2, h3, h4, h5, h6⟩ := cl7 X2.out; obtain ⟨v0, v1, v2, v3, v4, v5, v6⟩ := cl7 X5.out))
   all_goals (go_ret; exact ⟨ret_b (by rw [HV.out]; simp [*]), HB.out⟩)
set_option maxHeartbeats 16000000 in
set_option maxRecDepth 100000 in
theorem inl7_c (m : List S27) (A0 : Option Addr) (c0 : Nat) (f : S27) (A1 : Option Addr) (c1 : Nat) (x : S49) (A2 : Option Addr) (c2 : Nat) (w : World) (hm : Kd.C k27 w A0 m.length m) (hl : Kd.C (Kd.int .i64) w A2 x.f6.length x.f6) (hb : x.f6.length ≤ 1000000) (h : x.f0 = 7) :
  Calls Try.prog 87 #[.agg #[.slice A0 m.length c0, .int .i64 f.f0, .int .i64 f.f1, .slice A1 f.f2.length c1], .agg #[.int .i64 x.f0, .int .i64 x.f1, .int .i64 x.f2, .int .i64 x.f3, .int .u16 x.f4, .int .i64 x.f5, .slice A2 x.f6.length c2]] w fun e w' => e = .returned (.bool (insR m f.f1 x)) ∧ Below w.heap.size w w' := by
 have HM := Aside0.mk hm
 have HL := Aside0.mk hl
 have HN := Aside0.mk hb
 clear hm hl hb
 have hu24 := Try.underlying24
 have hu27 := Try.underlying27
 have hu87 := Try.underlying87
 have hu49 := Try.underlying49
 have b1 : (x.f0 == 1) = false := by rw [h]; rfl
 have b2 : (x.f0 == 2) = false := by rw [h]; rfl
 have b9 : (x.f0 == 9) = false := by rw [h]; rfl
 have b3 : (x.f0 == 3) = false := by rw [h]; rfl
 have b4 : (x.f0 == 4) = false := by rw [h]; rfl
 have b5 : (x.f0 == 5) = false := by rw [h]; rfl
 have b6 : (x.f0 == 6) = false := by rw [h]; rfl
 have b7 : (x.f0 == 7) = true := by rw [h]; rfl
 have HV := Aside0.mk (insV3 m f.f1 x (by omega))
 clear h
 go_enter Try.func87, Try.ntmps87
 go_upto_region 1 with (first | ((with_reducible refine gate_dst (N := 2) rfl ?_); refine box_event ?hg (N := 2) ?hd (cs := #[.slice A0 m.length c0, .int .i64 f.f0, .int .i64 f.f1, .slice A1 f.f2.length c1]) (t := 87) ?hr ?_; (case hd => rfl); (case hg => rfl); (case hr => first | (go_simp; done) | (go_simp; rfl)); intro g1 hg w1 hbox hb; have HB := Aside0.mk hb; have X1 := Aside0.mk hbox; clear hbox hb hg) | ((with_reducible refine gate_dst (N := 3) rfl ?_); refine box_event ?hg (N := 3) ?hd (cs := #[.int .i64 x.f0, .int .i64 x.f1, .int .i64 x.f2, .int .i64 x.f3, .int .u16 x.f4, .int .i64 x.f5, .slice A2 x.f6.length c2]) (t := 49) ?hr ?_; (case hd => rfl); (case hg => rfl); (case hr => first | (go_simp; done) | (go_simp; rfl)); intro g2 hg w2 hbox hb; replace HB := Aside0.mk (below_step HB.out hb); replace X1 := Aside0.mk (blk_below X1.out hb); have X2 := Aside0.mk hbox; clear hbox hb hg; obtain ⟨h0, h1, h2, h3, h4, h5, h6⟩ := cl7 X2.out))
 go_cut [5] (fun v5 wc => ∃ g5 : Nat, v5 = .pointer (some ⟨g5, 0, none⟩) ∧ w.heap.size ≤ g5 ∧ g1 ≠ g5 ∧ g2 ≠ g5 ∧ Aside0 (Below w.heap.size w wc) ∧ Aside0 (wc.heap[g1]? = some (.cells #[.slice A0 m.length c0, .int .i64 f.f0, .int .i64 f.f1, .slice A1 f.f2.length c1] 87 (0, 0))) ∧ Aside0 (wc.heap[g2]? = some (.cells #[.int .i64 x.f0, .int .i64 x.f1, .int .i64 x.f2, .int .i64 x.f3, .int .u16 x.f4, .int .i64 x.f5, .slice A2 x.f6.length c2] 49 (0, 0))) ∧ Aside0 (wc.heap[g5]? = some (.cells #[.int .i64 x.f0, .int .i64 0, .int .i64 0, .int .i64 0, .int .u16 0, .int .i64 0, .slice none 0 0] 49 (0, 0))))
 case first => go_wp2; go_meet; exact ⟨_, rfl, HB.out.size, Nat.ne_of_lt (blk_lt X1.out), Nat.ne_of_lt (blk_lt X2.out), ⟨below_alloc HB.out _⟩, ⟨blk_alloc X1.out _⟩, ⟨blk_alloc X2.out _⟩, ⟨blk_new _ _⟩⟩
 case rest =>
  clear HB X1 X2 h0 h1 h2 h3 h4 h5 h6
  obtain ⟨g5, rfl, G5, G15, G25, HB, X1, X2, X5⟩ := hcut
  obtain ⟨k0, k1, k2, k3⟩ := cl4 X1.out
  obtain ⟨h0, h1, h2, h3, h4, h5, h6⟩ := cl7 X2.out
  have G15' := Aside0.mk G15
  have G25' := Aside0.mk G25
  have G5' := Aside0.mk G5
  clear G15 G25 G5
  go_upto_region 18 with (fail)
  go_cut [] (fun wc => Aside0 (Below w.heap.size w wc) ∧ Aside0 (wc.heap[g1]? = some (.cells #[.slice A0 m.length c0, .int .i64 f.f0, .int .i64 f.f1, .slice A1 f.f2.length c1] 87 (0, 0))) ∧ Aside0 (wc.heap[g2]? = some (.cells #[.int .i64 x.f0, .int .i64 x.f1, .int .i64 x.f2, .int .i64 x.f3, .int .u16 x.f4, .int .i64 x.f5, .slice A2 x.f6.length c2] 49 (0, 0))) ∧ Aside0 (wc.heap[g5]? = some (.cells #[.int .i64 x.f0, .int .i64 x.f1, .int .i64 x.f2, .int .i64 x.f3, .int .u16 0, .int .i64 0, .slice none 0 0] 49 (0, 0))))
  case first =>
   have z1 := blk_frozen X5.out 1
   have z2 := blk_frozen X5.out 2
   have z3 := blk_frozen X5.out 3
   have y1 := (blk_cell X5.out 1).trans rfl
   have y2 := (blk_cell X5.out 2).trans rfl
   have y3 := (blk_cell X5.out 3).trans rfl
   go_region
   all_goals (go_wp2; go_meet; exact ⟨⟨below_drew ((below_set (below_set (below_set HB.out G5'.out) G5'.out) G5'.out))⟩, ⟨blk_drew ((blk_far (blk_far (blk_far X1.out G15'.out _) G15'.out _) G15'.out _))⟩, ⟨blk_drew ((blk_far (blk_far (blk_far X2.out G25'.out _) G25'.out _) G25'.out _))⟩, ⟨blk_drew ((set_blk 3 _ (set_blk 2 _ (set_blk 1 _ X5.out rfl) rfl) rfl))⟩⟩)
  case rest =>
   clear HB X1 X2 X5 k0 k1 k2 k3 h0 h1 h2 h3 h4 h5 h6
   obtain ⟨HB, X1, X2, X5⟩ := hcut
   obtain ⟨k0, k1, k2, k3⟩ := cl4 X1.out
   obtain ⟨h0, h1, h2, h3, h4, h5, h6⟩ := cl7 X2.out
   obtain ⟨v0, v1, v2, v3, v4, v5, v6⟩ := cl7 X5.out
   go_wp2_with (first | (go_at_call 104; (with_reducible refine (place_c m A0 c0 f A1 c1 _ _).mono ?_); rintro e w6 ⟨rfl, hb⟩; replace HB := Aside0.mk (below_step HB.out hb); replace X1 := Aside0.mk (blk_below X1.out hb); replace X2 := Aside0.mk (blk_below X2.out hb); replace X5 := Aside0.mk (blk_below X5.out hb); clear hb k0 k1 k2 k3 h0 h1 h2 h3 h4 h5 h6 v0 v1 v2 v3 v4 v5 v6; obtain ⟨k0, k1, k2, k3⟩ := cl4 X1.out; obtain ⟨h0, h1, h2, h3, h4, h5, h6⟩ := cl7 X2.out; obtain ⟨v0, v1, v2, v3, v4, v5, v6⟩ := cl7 X5.out) | (go_at_call 94; refine (sins_c (⟨x.f0, x.f1, x.f2, x.f3, 0, 0, ([] : List Int)⟩ : S49) none 0 x A2 c2 _ nil_C (Kd.C_below HL.out HB.out) (Nat.zero_le _)).mono ?_; rintro e w7 ⟨rfl, hb⟩; replace HB := Aside0.mk (below_step HB.out hb); replace X1 := Aside0.mk (blk_below X1.out hb); replace X2 := Aside0.mk (blk_below X2.out hb); replace X5 := Aside0.mk (blk_below X5.out hb); clear hb k0 k1 k2 k3 h0 h1 h2 h3 h4 h5 h6 v0 v1 v2 v3 v4 v5 v6; obtain ⟨k0, k1, k2, k3⟩ := cl4 X1.out; obtain ⟨h0, h1, h2, h3, h4, h5, h6⟩ := cl7 X2.out; obtain ⟨v0, v1, v2, v3, v4, v5, v6⟩ := cl7 X5.out))
   all_goals (go_ret; exact ⟨ret_b (by rw [HV.out]; simp [*]), HB.out⟩)
set_option maxHeartbeats 16000000 in
set_option maxRecDepth 100000 in
theorem inl8_c (m : List S27) (A0 : Option Addr) (c0 : Nat) (f : S27) (A1 : Option Addr) (c1 : Nat) (x : S49) (A2 : Option Addr) (c2 : Nat) (w : World) (hm : Kd.C k27 w A0 m.length m) (hl : Kd.C (Kd.int .i64) w A2 x.f6.length x.f6) (hb : x.f6.length ≤ 1000000) (h : x.f0 = 8) :
  Calls Try.prog 87 #[.agg #[.slice A0 m.length c0, .int .i64 f.f0, .int .i64 f.f1, .slice A1 f.f2.length c1], .agg #[.int .i64 x.f0, .int .i64 x.f1, .int .i64 x.f2, .int .i64 x.f3, .int .u16 x.f4, .int .i64 x.f5, .slice A2 x.f6.length c2]] w fun e w' => e = .returned (.bool (insR m f.f1 x)) ∧ Below w.heap.size w w' := by
 have HM := Aside0.mk hm
 have HL := Aside0.mk hl
 have HN := Aside0.mk hb
 clear hm hl hb
 have hu24 := Try.underlying24
 have hu27 := Try.underlying27
 have hu87 := Try.underlying87
 have hu49 := Try.underlying49
 have b1 : (x.f0 == 1) = false := by rw [h]; rfl
 have b2 : (x.f0 == 2) = false := by rw [h]; rfl
 have b9 : (x.f0 == 9) = false := by rw [h]; rfl
 have b3 : (x.f0 == 3) = false := by rw [h]; rfl
 have b4 : (x.f0 == 4) = false := by rw [h]; rfl
 have b5 : (x.f0 == 5) = false := by rw [h]; rfl
 have b6 : (x.f0 == 6) = false := by rw [h]; rfl
 have b7 : (x.f0 == 7) = false := by rw [h]; rfl
 have b8 : (x.f0 == 8) = true := by rw [h]; rfl
 have HV := Aside0.mk (insV3 m f.f1 x (by omega))
 clear h
 go_enter Try.func87, Try.ntmps87
 go_upto_region 1 with (first | ((with_reducible refine gate_dst (N := 2) rfl ?_); refine box_event ?hg (N := 2) ?hd (cs := #[.slice A0 m.length c0, .int .i64 f.f0, .int .i64 f.f1, .slice A1 f.f2.length c1]) (t := 87) ?hr ?_; (case hd => rfl); (case hg => rfl); (case hr => first | (go_simp; done) | (go_simp; rfl)); intro g1 hg w1 hbox hb; have HB := Aside0.mk hb; have X1 := Aside0.mk hbox; clear hbox hb hg) | ((with_reducible refine gate_dst (N := 3) rfl ?_); refine box_event ?hg (N := 3) ?hd (cs := #[.int .i64 x.f0, .int .i64 x.f1, .int .i64 x.f2, .int .i64 x.f3, .int .u16 x.f4, .int .i64 x.f5, .slice A2 x.f6.length c2]) (t := 49) ?hr ?_; (case hd => rfl); (case hg => rfl); (case hr => first | (go_simp; done) | (go_simp; rfl)); intro g2 hg w2 hbox hb; replace HB := Aside0.mk (below_step HB.out hb); replace X1 := Aside0.mk (blk_below X1.out hb); have X2 := Aside0.mk hbox; clear hbox hb hg; obtain ⟨h0, h1, h2, h3, h4, h5, h6⟩ := cl7 X2.out))
 go_cut [5] (fun v5 wc => ∃ g5 : Nat, v5 = .pointer (some ⟨g5, 0, none⟩) ∧ w.heap.size ≤ g5 ∧ g1 ≠ g5 ∧ g2 ≠ g5 ∧ Aside0 (Below w.heap.size w wc) ∧ Aside0 (wc.heap[g1]? = some (.cells #[.slice A0 m.length c0, .int .i64 f.f0, .int .i64 f.f1, .slice A1 f.f2.length c1] 87 (0, 0))) ∧ Aside0 (wc.heap[g2]? = some (.cells #[.int .i64 x.f0, .int .i64 x.f1, .int .i64 x.f2, .int .i64 x.f3, .int .u16 x.f4, .int .i64 x.f5, .slice A2 x.f6.length c2] 49 (0, 0))) ∧ Aside0 (wc.heap[g5]? = some (.cells #[.int .i64 x.f0, .int .i64 0, .int .i64 0, .int .i64 0, .int .u16 0, .int .i64 0, .slice none 0 0] 49 (0, 0))))
 case first => go_wp2; go_meet; exact ⟨_, rfl, HB.out.size, Nat.ne_of_lt (blk_lt X1.out), Nat.ne_of_lt (blk_lt X2.out), ⟨below_alloc HB.out _⟩, ⟨blk_alloc X1.out _⟩, ⟨blk_alloc X2.out _⟩, ⟨blk_new _ _⟩⟩
 case rest =>
  clear HB X1 X2 h0 h1 h2 h3 h4 h5 h6
  obtain ⟨g5, rfl, G5, G15, G25, HB, X1, X2, X5⟩ := hcut
  obtain ⟨k0, k1, k2, k3⟩ := cl4 X1.out
  obtain ⟨h0, h1, h2, h3, h4, h5, h6⟩ := cl7 X2.out
  have G15' := Aside0.mk G15
  have G25' := Aside0.mk G25
  have G5' := Aside0.mk G5
  clear G15 G25 G5
  go_upto_region 18 with (fail)
  go_cut [] (fun wc => Aside0 (Below w.heap.size w wc) ∧ Aside0 (wc.heap[g1]? = some (.cells #[.slice A0 m.length c0, .int .i64 f.f0, .int .i64 f.f1, .slice A1 f.f2.length c1] 87 (0, 0))) ∧ Aside0 (wc.heap[g2]? = some (.cells #[.int .i64 x.f0, .int .i64 x.f1, .int .i64 x.f2, .int .i64 x.f3, .int .u16 x.f4, .int .i64 x.f5, .slice A2 x.f6.length c2] 49 (0, 0))) ∧ Aside0 (wc.heap[g5]? = some (.cells #[.int .i64 x.f0, .int .i64 x.f1, .int .i64 x.f2, .int .i64 x.f3, .int .u16 0, .int .i64 0, .slice none 0 0] 49 (0, 0))))
  case first =>
   have z1 := blk_frozen X5.out 1
   have z2 := blk_frozen X5.out 2
   have z3 := blk_frozen X5.out 3
   have y1 := (blk_cell X5.out 1).trans rfl
   have y2 := (blk_cell X5.out 2).trans rfl
   have y3 := (blk_cell X5.out 3).trans rfl
   go_region
   all_goals (go_wp2; go_meet; exact ⟨⟨below_drew ((below_set (below_set (below_set HB.out G5'.out) G5'.out) G5'.out))⟩, ⟨blk_drew ((blk_far (blk_far (blk_far X1.out G15'.out _) G15'.out _) G15'.out _))⟩, ⟨blk_drew ((blk_far (blk_far (blk_far X2.out G25'.out _) G25'.out _) G25'.out _))⟩, ⟨blk_drew ((set_blk 3 _ (set_blk 2 _ (set_blk 1 _ X5.out rfl) rfl) rfl))⟩⟩)
  case rest =>
   clear HB X1 X2 X5 k0 k1 k2 k3 h0 h1 h2 h3 h4 h5 h6
   obtain ⟨HB, X1, X2, X5⟩ := hcut
   obtain ⟨k0, k1, k2, k3⟩ := cl4 X1.out
   obtain ⟨h0, h1, h2, h3, h4, h5, h6⟩ := cl7 X2.out
   obtain ⟨v0, v1, v2, v3, v4, v5, v6⟩ := cl7 X5.out
   go_wp2_with (first | (go_at_call 104; (with_reducible refine (place_c m A0 c0 f A1 c1 _ _).mono ?_); rintro e w6 ⟨rfl, hb⟩; replace HB := Aside0.mk (below_step HB.out hb); replace X1 := Aside0.mk (blk_below X1.out hb); replace X2 := Aside0.mk (blk_below X2.out hb); replace X5 := Aside0.mk (blk_below X5.out hb); clear hb k0 k1 k2 k3 h0 h1 h2 h3 h4 h5 h6 v0 v1 v2 v3 v4 v5 v6; obtain ⟨k0, k1, k2, k3⟩ := cl4 X1.out; obtain ⟨h0, h1, h2, h3, h4, h5, h6⟩ := cl7 X2.out; obtain ⟨v0, v1, v2, v3, v4, v5, v6⟩ := cl7 X5.out) | (go_at_call 94; refine (sins_c (⟨x.f0, x.f1, x.f2, x.f3, 0, 0, ([] : List Int)⟩ : S49) none 0 x A2 c2 _ nil_C (Kd.C_below HL.out HB.out) (Nat.zero_le _)).mono ?_; rintro e w7 ⟨rfl, hb⟩; replace HB := Aside0.mk (below_step HB.out hb); replace X1 := Aside0.mk (blk_below X1.out hb); replace X2 := Aside0.mk (blk_below X2.out hb); replace X5 := Aside0.mk (blk_below X5.out hb); clear hb k0 k1 k2 k3 h0 h1 h2 h3 h4 h5 h6 v0 v1 v2 v3 v4 v5 v6; obtain ⟨k0, k1, k2, k3⟩ := cl4 X1.out; obtain ⟨h0, h1, h2, h3, h4, h5, h6⟩ := cl7 X2.out; obtain ⟨v0, v1, v2, v3, v4, v5, v6⟩ := cl7 X5.out))
   all_goals (go_ret; exact ⟨ret_b (by rw [HV.out]; simp [*]), HB.out⟩)
theorem insV10 (m : List S27) (R : Int) (x : S49) (h : x.f0 = 10) : insR m R x = ((win x.f2 R && win x.f3 R) && insE (⟨x.f0, 0, x.f2, x.f3, 0, 0, ([] : List Int)⟩ : S49) x) := by
 rw [Bool.eq_iff_iff]
 simp [insR, insE, plainR, h, eq_comm (a := (0 : Int)), eq_comm (a := ([] : List Int)), and_assoc] <;> (try (first | (constructor <;> intro hh <;> simp_all; done) | (intro _; constructor <;> intro hh <;> simp_all; done)))
set_option maxHeartbeats 16000000 in
set_option maxRecDepth 100000 in
theorem inl10_c (m : List S27) (A0 : Option Addr) (c0 : Nat) (f : S27) (A1 : Option Addr) (c1 : Nat) (x : S49) (A2 : Option Addr) (c2 : Nat) (w : World) (hm : Kd.C k27 w A0 m.length m) (hl : Kd.C (Kd.int .i64) w A2 x.f6.length x.f6) (hb : x.f6.length ≤ 1000000) (h : x.f0 = 10) :
  Calls Try.prog 87 #[.agg #[.slice A0 m.length c0, .int .i64 f.f0, .int .i64 f.f1, .slice A1 f.f2.length c1], .agg #[.int .i64 x.f0, .int .i64 x.f1, .int .i64 x.f2, .int .i64 x.f3, .int .u16 x.f4, .int .i64 x.f5, .slice A2 x.f6.length c2]] w fun e w' => e = .returned (.bool (insR m f.f1 x)) ∧ Below w.heap.size w w' := by
 have HM := Aside0.mk hm
 have HL := Aside0.mk hl
 have HN := Aside0.mk hb
 clear hm hl hb
 have hu24 := Try.underlying24
 have hu27 := Try.underlying27
 have hu87 := Try.underlying87
 have hu49 := Try.underlying49
 have b1 : (x.f0 == 1) = false := by rw [h]; rfl
 have b2 : (x.f0 == 2) = false := by rw [h]; rfl
 have b9 : (x.f0 == 9) = false := by rw [h]; rfl
 have b3 : (x.f0 == 3) = false := by rw [h]; rfl
 have b4 : (x.f0 == 4) = false := by rw [h]; rfl
 have b5 : (x.f0 == 5) = false := by rw [h]; rfl
 have b6 : (x.f0 == 6) = false := by rw [h]; rfl
 have b7 : (x.f0 == 7) = false := by rw [h]; rfl
 have b8 : (x.f0 == 8) = false := by rw [h]; rfl
 have b10 : (x.f0 == 10) = true := by rw [h]; rfl
 have HV := Aside0.mk (insV10 m f.f1 x (by omega))
 clear h
 go_enter Try.func87, Try.ntmps87
 go_upto_region 1 with (first | ((with_reducible refine gate_dst (N := 2) rfl ?_); refine box_event ?hg (N := 2) ?hd (cs := #[.slice A0 m.length c0, .int .i64 f.f0, .int .i64 f.f1, .slice A1 f.f2.length c1]) (t := 87) ?hr ?_; (case hd => rfl); (case hg => rfl); (case hr => first | (go_simp; done) | (go_simp; rfl)); intro g1 hg w1 hbox hb; have HB := Aside0.mk hb; have X1 := Aside0.mk hbox; clear hbox hb hg) | ((with_reducible refine gate_dst (N := 3) rfl ?_); refine box_event ?hg (N := 3) ?hd (cs := #[.int .i64 x.f0, .int .i64 x.f1, .int .i64 x.f2, .int .i64 x.f3, .int .u16 x.f4, .int .i64 x.f5, .slice A2 x.f6.length c2]) (t := 49) ?hr ?_; (case hd => rfl); (case hg => rfl); (case hr => first | (go_simp; done) | (go_simp; rfl)); intro g2 hg w2 hbox hb; replace HB := Aside0.mk (below_step HB.out hb); replace X1 := Aside0.mk (blk_below X1.out hb); have X2 := Aside0.mk hbox; clear hbox hb hg; obtain ⟨h0, h1, h2, h3, h4, h5, h6⟩ := cl7 X2.out))
 go_cut [5] (fun v5 wc => ∃ g5 : Nat, v5 = .pointer (some ⟨g5, 0, none⟩) ∧ w.heap.size ≤ g5 ∧ g1 ≠ g5 ∧ g2 ≠ g5 ∧ Aside0 (Below w.heap.size w wc) ∧ Aside0 (wc.heap[g1]? = some (.cells #[.slice A0 m.length c0, .int .i64 f.f0, .int .i64 f.f1, .slice A1 f.f2.length c1] 87 (0, 0))) ∧ Aside0 (wc.heap[g2]? = some (.cells #[.int .i64 x.f0, .int .i64 x.f1, .int .i64 x.f2, .int .i64 x.f3, .int .u16 x.f4, .int .i64 x.f5, .slice A2 x.f6.length c2] 49 (0, 0))) ∧ Aside0 (wc.heap[g5]? = some (.cells #[.int .i64 x.f0, .int .i64 0, .int .i64 0, .int .i64 0, .int .u16 0, .int .i64 0, .slice none 0 0] 49 (0, 0))))
 case first => go_wp2; go_meet; exact ⟨_, rfl, HB.out.size, Nat.ne_of_lt (blk_lt X1.out), Nat.ne_of_lt (blk_lt X2.out), ⟨below_alloc HB.out _⟩, ⟨blk_alloc X1.out _⟩, ⟨blk_alloc X2.out _⟩, ⟨blk_new _ _⟩⟩
 case rest =>
  clear HB X1 X2 h0 h1 h2 h3 h4 h5 h6
  obtain ⟨g5, rfl, G5, G15, G25, HB, X1, X2, X5⟩ := hcut
  obtain ⟨k0, k1, k2, k3⟩ := cl4 X1.out
  obtain ⟨h0, h1, h2, h3, h4, h5, h6⟩ := cl7 X2.out
  have G15' := Aside0.mk G15
  have G25' := Aside0.mk G25
  have G5' := Aside0.mk G5
  clear G15 G25 G5
  go_upto_region 21 with (fail)
  go_cut [] (fun wc => Aside0 (Below w.heap.size w wc) ∧ Aside0 (wc.heap[g1]? = some (.cells #[.slice A0 m.length c0, .int .i64 f.f0, .int .i64 f.f1, .slice A1 f.f2.length c1] 87 (0, 0))) ∧ Aside0 (wc.heap[g2]? = some (.cells #[.int .i64 x.f0, .int .i64 x.f1, .int .i64 x.f2, .int .i64 x.f3, .int .u16 x.f4, .int .i64 x.f5, .slice A2 x.f6.length c2] 49 (0, 0))) ∧ Aside0 (wc.heap[g5]? = some (.cells #[.int .i64 x.f0, .int .i64 0, .int .i64 x.f2, .int .i64 x.f3, .int .u16 0, .int .i64 0, .slice none 0 0] 49 (0, 0))))
  case first =>
   have z2 := blk_frozen X5.out 2
   have z3 := blk_frozen X5.out 3
   have y2 := (blk_cell X5.out 2).trans rfl
   have y3 := (blk_cell X5.out 3).trans rfl
   go_region
   all_goals (go_wp2; go_meet; exact ⟨⟨below_drew ((below_set (below_set HB.out G5'.out) G5'.out))⟩, ⟨blk_drew ((blk_far (blk_far X1.out G15'.out _) G15'.out _))⟩, ⟨blk_drew ((blk_far (blk_far X2.out G25'.out _) G25'.out _))⟩, ⟨blk_drew ((set_blk 3 _ (set_blk 2 _ X5.out rfl) rfl))⟩⟩)
  case rest =>
   clear HB X1 X2 X5 k0 k1 k2 k3 h0 h1 h2 h3 h4 h5 h6
   obtain ⟨HB, X1, X2, X5⟩ := hcut
   obtain ⟨k0, k1, k2, k3⟩ := cl4 X1.out
   obtain ⟨h0, h1, h2, h3, h4, h5, h6⟩ := cl7 X2.out
   obtain ⟨v0, v1, v2, v3, v4, v5, v6⟩ := cl7 X5.out
   go_wp2_with (first | (go_at_call 104; (with_reducible refine (place_c m A0 c0 f A1 c1 _ _).mono ?_); rintro e w6 ⟨rfl, hb⟩; replace HB := Aside0.mk (below_step HB.out hb); replace X1 := Aside0.mk (blk_below X1.out hb); replace X2 := Aside0.mk (blk_below X2.out hb); replace X5 := Aside0.mk (blk_below X5.out hb); clear hb k0 k1 k2 k3 h0 h1 h2 h3 h4 h5 h6 v0 v1 v2 v3 v4 v5 v6; obtain ⟨k0, k1, k2, k3⟩ := cl4 X1.out; obtain ⟨h0, h1, h2, h3, h4, h5, h6⟩ := cl7 X2.out; obtain ⟨v0, v1, v2, v3, v4, v5, v6⟩ := cl7 X5.out) | (go_at_call 94; refine (sins_c (⟨x.f0, 0, x.f2, x.f3, 0, 0, ([] : List Int)⟩ : S49) none 0 x A2 c2 _ nil_C (Kd.C_below HL.out HB.out) (Nat.zero_le _)).mono ?_; rintro e w7 ⟨rfl, hb⟩; replace HB := Aside0.mk (below_step HB.out hb); replace X1 := Aside0.mk (blk_below X1.out hb); replace X2 := Aside0.mk (blk_below X2.out hb); replace X5 := Aside0.mk (blk_below X5.out hb); clear hb k0 k1 k2 k3 h0 h1 h2 h3 h4 h5 h6 v0 v1 v2 v3 v4 v5 v6; obtain ⟨k0, k1, k2, k3⟩ := cl4 X1.out; obtain ⟨h0, h1, h2, h3, h4, h5, h6⟩ := cl7 X2.out; obtain ⟨v0, v1, v2, v3, v4, v5, v6⟩ := cl7 X5.out))
   all_goals (go_ret; exact ⟨ret_b (by rw [HV.out]; simp [*]), HB.out⟩)
theorem insV11 (m : List S27) (R : Int) (x : S49) (h : x.f0 = 11) : insR m R x = ((win x.f1 R && argsR m R x.f5 x.f6) && insE (⟨x.f0, x.f1, 0, 0, 0, x.f5, x.f6⟩ : S49) x) := by
 rw [Bool.eq_iff_iff]
 simp [insR, insE, plainR, h, eq_comm (a := (0 : Int)), eq_comm (a := ([] : List Int)), and_assoc] <;> (try (first | (constructor <;> intro hh <;> simp_all; done) | (intro _; constructor <;> intro hh <;> simp_all; done)))
set_option maxHeartbeats 16000000 in
set_option maxRecDepth 100000 in
theorem inl11_c (m : List S27) (A0 : Option Addr) (c0 : Nat) (f : S27) (A1 : Option Addr) (c1 : Nat) (x : S49) (A2 : Option Addr) (c2 : Nat) (w : World) (hm : Kd.C k27 w A0 m.length m) (hl : Kd.C (Kd.int .i64) w A2 x.f6.length x.f6) (hb : x.f6.length ≤ 1000000) (h : x.f0 = 11) :
  Calls Try.prog 87 #[.agg #[.slice A0 m.length c0, .int .i64 f.f0, .int .i64 f.f1, .slice A1 f.f2.length c1], .agg #[.int .i64 x.f0, .int .i64 x.f1, .int .i64 x.f2, .int .i64 x.f3, .int .u16 x.f4, .int .i64 x.f5, .slice A2 x.f6.length c2]] w fun e w' => e = .returned (.bool (insR m f.f1 x)) ∧ Below w.heap.size w w' := by
 have HM := Aside0.mk hm
 have HL := Aside0.mk hl
 have HN := Aside0.mk hb
 clear hm hl hb
 have hu24 := Try.underlying24
 have hu27 := Try.underlying27
 have hu87 := Try.underlying87
 have hu49 := Try.underlying49
 have b1 : (x.f0 == 1) = false := by rw [h]; rfl
 have b2 : (x.f0 == 2) = false := by rw [h]; rfl
 have b9 : (x.f0 == 9) = false := by rw [h]; rfl
 have b3 : (x.f0 == 3) = false := by rw [h]; rfl
 have b4 : (x.f0 == 4) = false := by rw [h]; rfl
 have b5 : (x.f0 == 5) = false := by rw [h]; rfl
 have b6 : (x.f0 == 6) = false := by rw [h]; rfl
 have b7 : (x.f0 == 7) = false := by rw [h]; rfl
 have b8 : (x.f0 == 8) = false := by rw [h]; rfl
 have b10 : (x.f0 == 10) = false := by rw [h]; rfl
 have b11 : (x.f0 == 11) = true := by rw [h]; rfl
 have HV := Aside0.mk (insV11 m f.f1 x (by omega))
 clear h
 go_enter Try.func87, Try.ntmps87
 go_upto_region 1 with (first | ((with_reducible refine gate_dst (N := 2) rfl ?_); refine box_event ?hg (N := 2) ?hd (cs := #[.slice A0 m.length c0, .int .i64 f.f0, .int .i64 f.f1, .slice A1 f.f2.length c1]) (t := 87) ?hr ?_; (case hd => rfl); (case hg => rfl); (case hr => first | (go_simp; done) | (go_simp; rfl)); intro g1 hg w1 hbox hb; have HB := Aside0.mk hb; have X1 := Aside0.mk hbox; clear hbox hb hg) | ((with_reducible refine gate_dst (N := 3) rfl ?_); refine box_event ?hg (N := 3) ?hd (cs := #[.int .i64 x.f0, .int .i64 x.f1, .int .i64 x.f2, .int .i64 x.f3, .int .u16 x.f4, .int .i64 x.f5, .slice A2 x.f6.length c2]) (t := 49) ?hr ?_; (case hd => rfl); (case hg => rfl); (case hr => first | (go_simp; done) | (go_simp; rfl)); intro g2 hg w2 hbox hb; replace HB := Aside0.mk (below_step HB.out hb); replace X1 := Aside0.mk (blk_below X1.out hb); have X2 := Aside0.mk hbox; clear hbox hb hg; obtain ⟨h0, h1, h2, h3, h4, h5, h6⟩ := cl7 X2.out))
 go_cut [5] (fun v5 wc => ∃ g5 : Nat, v5 = .pointer (some ⟨g5, 0, none⟩) ∧ w.heap.size ≤ g5 ∧ g1 ≠ g5 ∧ g2 ≠ g5 ∧ Aside0 (Below w.heap.size w wc) ∧ Aside0 (wc.heap[g1]? = some (.cells #[.slice A0 m.length c0, .int .i64 f.f0, .int .i64 f.f1, .slice A1 f.f2.length c1] 87 (0, 0))) ∧ Aside0 (wc.heap[g2]? = some (.cells #[.int .i64 x.f0, .int .i64 x.f1, .int .i64 x.f2, .int .i64 x.f3, .int .u16 x.f4, .int .i64 x.f5, .slice A2 x.f6.length c2] 49 (0, 0))) ∧ Aside0 (wc.heap[g5]? = some (.cells #[.int .i64 x.f0, .int .i64 0, .int .i64 0, .int .i64 0, .int .u16 0, .int .i64 0, .slice none 0 0] 49 (0, 0))))
 case first => go_wp2; go_meet; exact ⟨_, rfl, HB.out.size, Nat.ne_of_lt (blk_lt X1.out), Nat.ne_of_lt (blk_lt X2.out), ⟨below_alloc HB.out _⟩, ⟨blk_alloc X1.out _⟩, ⟨blk_alloc X2.out _⟩, ⟨blk_new _ _⟩⟩
 case rest =>
  clear HB X1 X2 h0 h1 h2 h3 h4 h5 h6
  obtain ⟨g5, rfl, G5, G15, G25, HB, X1, X2, X5⟩ := hcut
  obtain ⟨k0, k1, k2, k3⟩ := cl4 X1.out
  obtain ⟨h0, h1, h2, h3, h4, h5, h6⟩ := cl7 X2.out
  have G15' := Aside0.mk G15
  have G25' := Aside0.mk G25
  have G5' := Aside0.mk G5
  clear G15 G25 G5
  go_upto_region 24 with (fail)
  go_cut [] (fun wc => Aside0 (Below w.heap.size w wc) ∧ Aside0 (wc.heap[g1]? = some (.cells #[.slice A0 m.length c0, .int .i64 f.f0, .int .i64 f.f1, .slice A1 f.f2.length c1] 87 (0, 0))) ∧ Aside0 (wc.heap[g2]? = some (.cells #[.int .i64 x.f0, .int .i64 x.f1, .int .i64 x.f2, .int .i64 x.f3, .int .u16 x.f4, .int .i64 x.f5, .slice A2 x.f6.length c2] 49 (0, 0))) ∧ Aside0 (wc.heap[g5]? = some (.cells #[.int .i64 x.f0, .int .i64 x.f1, .int .i64 0, .int .i64 0, .int .u16 0, .int .i64 x.f5, .slice A2 x.f6.length c2] 49 (0, 0))))
  case first =>
   have z1 := blk_frozen X5.out 1
   have z5 := blk_frozen X5.out 5
   have z6 := blk_frozen X5.out 6
   have y1 := (blk_cell X5.out 1).trans rfl
   have y5 := (blk_cell X5.out 5).trans rfl
   have y6 := (blk_cell X5.out 6).trans rfl
   go_region
   all_goals (go_wp2; go_meet; exact ⟨⟨below_drew ((below_set (below_set (below_set HB.out G5'.out) G5'.out) G5'.out))⟩, ⟨blk_drew ((blk_far (blk_far (blk_far X1.out G15'.out _) G15'.out _) G15'.out _))⟩, ⟨blk_drew ((blk_far (blk_far (blk_far X2.out G25'.out _) G25'.out _) G25'.out _))⟩, ⟨blk_drew ((set_blk 6 _ (set_blk 5 _ (set_blk 1 _ X5.out rfl) rfl) rfl))⟩⟩)
  case rest =>
   clear HB X1 X2 X5 k0 k1 k2 k3 h0 h1 h2 h3 h4 h5 h6
   obtain ⟨HB, X1, X2, X5⟩ := hcut
   obtain ⟨k0, k1, k2, k3⟩ := cl4 X1.out
   obtain ⟨h0, h1, h2, h3, h4, h5, h6⟩ := cl7 X2.out
   obtain ⟨v0, v1, v2, v3, v4, v5, v6⟩ := cl7 X5.out
   go_wp2_with (first | (go_at_call 104; (with_reducible refine (place_c m A0 c0 f A1 c1 _ _).mono ?_); rintro e w6 ⟨rfl, hb⟩; replace HB := Aside0.mk (below_step HB.out hb); replace X1 := Aside0.mk (blk_below X1.out hb); replace X2 := Aside0.mk (blk_below X2.out hb); replace X5 := Aside0.mk (blk_below X5.out hb); clear hb k0 k1 k2 k3 h0 h1 h2 h3 h4 h5 h6 v0 v1 v2 v3 v4 v5 v6; obtain ⟨k0, k1, k2, k3⟩ := cl4 X1.out; obtain ⟨h0, h1, h2, h3, h4, h5, h6⟩ := cl7 X2.out; obtain ⟨v0, v1, v2, v3, v4, v5, v6⟩ := cl7 X5.out) | (go_at_call 94; refine (sins_c (⟨x.f0, x.f1, 0, 0, 0, x.f5, x.f6⟩ : S49) A2 c2 x A2 c2 _ (Kd.C_below HL.out HB.out) (Kd.C_below HL.out HB.out) HN.out).mono ?_; rintro e w7 ⟨rfl, hb⟩; replace HB := Aside0.mk (below_step HB.out hb); replace X1 := Aside0.mk (blk_below X1.out hb); replace X2 := Aside0.mk (blk_below X2.out hb); replace X5 := Aside0.mk (blk_below X5.out hb); clear hb k0 k1 k2 k3 h0 h1 h2 h3 h4 h5 h6 v0 v1 v2 v3 v4 v5 v6; obtain ⟨k0, k1, k2, k3⟩ := cl4 X1.out; obtain ⟨h0, h1, h2, h3, h4, h5, h6⟩ := cl7 X2.out; obtain ⟨v0, v1, v2, v3, v4, v5, v6⟩ := cl7 X5.out) | (go_at_call 107; (with_reducible refine (call_l m A0 c0 f A1 c1 x.f5 A2 c2 x.f6 _ (Kd.C_below HM.out HB.out) (Kd.C_below HL.out HB.out)).mono ?_); rintro e w8 ⟨rfl, hb⟩; replace HB := Aside0.mk (below_step HB.out hb); replace X1 := Aside0.mk (blk_below X1.out hb); replace X2 := Aside0.mk (blk_below X2.out hb); replace X5 := Aside0.mk (blk_below X5.out hb); clear hb k0 k1 k2 k3 h0 h1 h2 h3 h4 h5 h6 v0 v1 v2 v3 v4 v5 v6; obtain ⟨k0, k1, k2, k3⟩ := cl4 X1.out; obtain ⟨h0, h1, h2, h3, h4, h5, h6⟩ := cl7 X2.out; obtain ⟨v0, v1, v2, v3, v4, v5, v6⟩ := cl7 X5.out))
   all_goals (go_ret; exact ⟨ret_b (by rw [HV.out]; simp [*]), HB.out⟩)
theorem insV12 (m : List S27) (R : Int) (x : S49) (h : x.f0 = 12) : insR m R x = (win x.f2 R && insE (⟨x.f0, 0, x.f2, 0, 0, 0, ([] : List Int)⟩ : S49) x) := by
 rw [Bool.eq_iff_iff]
 simp [insR, insE, plainR, h, eq_comm (a := (0 : Int)), eq_comm (a := ([] : List Int)), and_assoc] <;> (try (first | (constructor <;> intro hh <;> simp_all; done) | (intro _; constructor <;> intro hh <;> simp_all; done)))
set_option maxHeartbeats 16000000 in
set_option maxRecDepth 100000 in
theorem inl12_c (m : List S27) (A0 : Option Addr) (c0 : Nat) (f : S27) (A1 : Option Addr) (c1 : Nat) (x : S49) (A2 : Option Addr) (c2 : Nat) (w : World) (hm : Kd.C k27 w A0 m.length m) (hl : Kd.C (Kd.int .i64) w A2 x.f6.length x.f6) (hb : x.f6.length ≤ 1000000) (h : x.f0 = 12) :
  Calls Try.prog 87 #[.agg #[.slice A0 m.length c0, .int .i64 f.f0, .int .i64 f.f1, .slice A1 f.f2.length c1], .agg #[.int .i64 x.f0, .int .i64 x.f1, .int .i64 x.f2, .int .i64 x.f3, .int .u16 x.f4, .int .i64 x.f5, .slice A2 x.f6.length c2]] w fun e w' => e = .returned (.bool (insR m f.f1 x)) ∧ Below w.heap.size w w' := by
 have HM := Aside0.mk hm
 have HL := Aside0.mk hl
 have HN := Aside0.mk hb
 clear hm hl hb
 have hu24 := Try.underlying24
 have hu27 := Try.underlying27
 have hu87 := Try.underlying87
 have hu49 := Try.underlying49
 have b1 : (x.f0 == 1) = false := by rw [h]; rfl
 have b2 : (x.f0 == 2) = false := by rw [h]; rfl
 have b9 : (x.f0 == 9) = false := by rw [h]; rfl
 have b3 : (x.f0 == 3) = false := by rw [h]; rfl
 have b4 : (x.f0 == 4) = false := by rw [h]; rfl
 have b5 : (x.f0 == 5) = false := by rw [h]; rfl
 have b6 : (x.f0 == 6) = false := by rw [h]; rfl
 have b7 : (x.f0 == 7) = false := by rw [h]; rfl
 have b8 : (x.f0 == 8) = false := by rw [h]; rfl
 have b10 : (x.f0 == 10) = false := by rw [h]; rfl
 have b11 : (x.f0 == 11) = false := by rw [h]; rfl
 have b12 : (x.f0 == 12) = true := by rw [h]; rfl
 have HV := Aside0.mk (insV12 m f.f1 x (by omega))
 clear h
 go_enter Try.func87, Try.ntmps87
 go_upto_region 1 with (first | ((with_reducible refine gate_dst (N := 2) rfl ?_); refine box_event ?hg (N := 2) ?hd (cs := #[.slice A0 m.length c0, .int .i64 f.f0, .int .i64 f.f1, .slice A1 f.f2.length c1]) (t := 87) ?hr ?_; (case hd => rfl); (case hg => rfl); (case hr => first | (go_simp; done) | (go_simp; rfl)); intro g1 hg w1 hbox hb; have HB := Aside0.mk hb; have X1 := Aside0.mk hbox; clear hbox hb hg) | ((with_reducible refine gate_dst (N := 3) rfl ?_); refine box_event ?hg (N := 3) ?hd (cs := #[.int .i64 x.f0, .int .i64 x.f1, .int .i64 x.f2, .int .i64 x.f3, .int .u16 x.f4, .int .i64 x.f5, .slice A2 x.f6.length c2]) (t := 49) ?hr ?_; (case hd => rfl); (case hg => rfl); (case hr => first | (go_simp; done) | (go_simp; rfl)); intro g2 hg w2 hbox hb; replace HB := Aside0.mk (below_step HB.out hb); replace X1 := Aside0.mk (blk_below X1.out hb); have X2 := Aside0.mk hbox; clear hbox hb hg; obtain ⟨h0, h1, h2, h3, h4, h5, h6⟩ := cl7 X2.out))
 go_cut [5] (fun v5 wc => ∃ g5 : Nat, v5 = .pointer (some ⟨g5, 0, none⟩) ∧ w.heap.size ≤ g5 ∧ g1 ≠ g5 ∧ g2 ≠ g5 ∧ Aside0 (Below w.heap.size w wc) ∧ Aside0 (wc.heap[g1]? = some (.cells #[.slice A0 m.length c0, .int .i64 f.f0, .int .i64 f.f1, .slice A1 f.f2.length c1] 87 (0, 0))) ∧ Aside0 (wc.heap[g2]? = some (.cells #[.int .i64 x.f0, .int .i64 x.f1, .int .i64 x.f2, .int .i64 x.f3, .int .u16 x.f4, .int .i64 x.f5, .slice A2 x.f6.length c2] 49 (0, 0))) ∧ Aside0 (wc.heap[g5]? = some (.cells #[.int .i64 x.f0, .int .i64 0, .int .i64 0, .int .i64 0, .int .u16 0, .int .i64 0, .slice none 0 0] 49 (0, 0))))
 case first => go_wp2; go_meet; exact ⟨_, rfl, HB.out.size, Nat.ne_of_lt (blk_lt X1.out), Nat.ne_of_lt (blk_lt X2.out), ⟨below_alloc HB.out _⟩, ⟨blk_alloc X1.out _⟩, ⟨blk_alloc X2.out _⟩, ⟨blk_new _ _⟩⟩
 case rest =>
  clear HB X1 X2 h0 h1 h2 h3 h4 h5 h6
  obtain ⟨g5, rfl, G5, G15, G25, HB, X1, X2, X5⟩ := hcut
  obtain ⟨k0, k1, k2, k3⟩ := cl4 X1.out
  obtain ⟨h0, h1, h2, h3, h4, h5, h6⟩ := cl7 X2.out
  have G15' := Aside0.mk G15
  have G25' := Aside0.mk G25
  have G5' := Aside0.mk G5
  clear G15 G25 G5
  go_upto_region 27 with (fail)
  go_cut [] (fun wc => Aside0 (Below w.heap.size w wc) ∧ Aside0 (wc.heap[g1]? = some (.cells #[.slice A0 m.length c0, .int .i64 f.f0, .int .i64 f.f1, .slice A1 f.f2.length c1] 87 (0, 0))) ∧ Aside0 (wc.heap[g2]? = some (.cells #[.int .i64 x.f0, .int .i64 x.f1, .int .i64 x.f2, .int .i64 x.f3, .int .u16 x.f4, .int .i64 x.f5, .slice A2 x.f6.length c2] 49 (0, 0))) ∧ Aside0 (wc.heap[g5]? = some (.cells #[.int .i64 x.f0, .int .i64 0, .int .i64 x.f2, .int .i64 0, .int .u16 0, .int .i64 0, .slice none 0 0] 49 (0, 0))))
  case first =>
   have z2 := blk_frozen X5.out 2
   have y2 := (blk_cell X5.out 2).trans rfl
   go_wp2
   all_goals (go_wp2; go_meet; exact ⟨⟨(below_set HB.out G5'.out)⟩, ⟨(blk_far X1.out G15'.out _)⟩, ⟨(blk_far X2.out G25'.out _)⟩, ⟨(set_blk 2 _ X5.out rfl)⟩⟩)
  case rest =>
   clear HB X1 X2 X5 k0 k1 k2 k3 h0 h1 h2 h3 h4 h5 h6
   obtain ⟨HB, X1, X2, X5⟩ := hcut
   obtain ⟨k0, k1, k2, k3⟩ := cl4 X1.out
   obtain ⟨h0, h1, h2, h3, h4, h5, h6⟩ := cl7 X2.out
   obtain ⟨v0, v1, v2, v3, v4, v5, v6⟩ := cl7 X5.out
   go_wp2_with (first | (go_at_call 104; (with_reducible refine (place_c m A0 c0 f A1 c1 _ _).mono ?_); rintro e w6 ⟨rfl, hb⟩; replace HB := Aside0.mk (below_step HB.out hb); replace X1 := Aside0.mk (blk_below X1.out hb); replace X2 := Aside0.mk (blk_below X2.out hb); replace X5 := Aside0.mk (blk_below X5.out hb); clear hb k0 k1 k2 k3 h0 h1 h2 h3 h4 h5 h6 v0 v1 v2 v3 v4 v5 v6; obtain ⟨k0, k1, k2, k3⟩ := cl4 X1.out; obtain ⟨h0, h1, h2, h3, h4, h5, h6⟩ := cl7 X2.out; obtain ⟨v0, v1, v2, v3, v4, v5, v6⟩ := cl7 X5.out) | (go_at_call 94; refine (sins_c (⟨x.f0, 0, x.f2, 0, 0, 0, ([] : List Int)⟩ : S49) none 0 x A2 c2 _ nil_C (Kd.C_below HL.out HB.out) (Nat.zero_le _)).mono ?_; rintro e w7 ⟨rfl, hb⟩; replace HB := Aside0.mk (below_step HB.out hb); replace X1 := Aside0.mk (blk_below X1.out hb); replace X2 := Aside0.mk (blk_below X2.out hb); replace X5 := Aside0.mk (blk_below X5.out hb); clear hb k0 k1 k2 k3 h0 h1 h2 h3 h4 h5 h6 v0 v1 v2 v3 v4 v5 v6; obtain ⟨k0, k1, k2, k3⟩ := cl4 X1.out; obtain ⟨h0, h1, h2, h3, h4, h5, h6⟩ := cl7 X2.out; obtain ⟨v0, v1, v2, v3, v4, v5, v6⟩ := cl7 X5.out))
   all_goals (go_ret; exact ⟨ret_b (by rw [HV.out]; simp [*]), HB.out⟩)
theorem insV13 (m : List S27) (R : Int) (x : S49) (h : x.f0 = 13) : insR m R x = (win x.f1 R && insE (⟨x.f0, x.f1, 0, 0, 0, 0, ([] : List Int)⟩ : S49) x) := by
 rw [Bool.eq_iff_iff]
 simp [insR, insE, plainR, h, eq_comm (a := (0 : Int)), eq_comm (a := ([] : List Int)), and_assoc] <;> (try (first | (constructor <;> intro hh <;> simp_all; done) | (intro _; constructor <;> intro hh <;> simp_all; done)))
set_option maxHeartbeats 16000000 in
set_option maxRecDepth 100000 in
theorem inl13_c (m : List S27) (A0 : Option Addr) (c0 : Nat) (f : S27) (A1 : Option Addr) (c1 : Nat) (x : S49) (A2 : Option Addr) (c2 : Nat) (w : World) (hm : Kd.C k27 w A0 m.length m) (hl : Kd.C (Kd.int .i64) w A2 x.f6.length x.f6) (hb : x.f6.length ≤ 1000000) (h : x.f0 = 13) :
  Calls Try.prog 87 #[.agg #[.slice A0 m.length c0, .int .i64 f.f0, .int .i64 f.f1, .slice A1 f.f2.length c1], .agg #[.int .i64 x.f0, .int .i64 x.f1, .int .i64 x.f2, .int .i64 x.f3, .int .u16 x.f4, .int .i64 x.f5, .slice A2 x.f6.length c2]] w fun e w' => e = .returned (.bool (insR m f.f1 x)) ∧ Below w.heap.size w w' := by
 have HM := Aside0.mk hm
 have HL := Aside0.mk hl
 have HN := Aside0.mk hb
 clear hm hl hb
 have hu24 := Try.underlying24
 have hu27 := Try.underlying27
 have hu87 := Try.underlying87
 have hu49 := Try.underlying49
 have b1 : (x.f0 == 1) = false := by rw [h]; rfl
 have b2 : (x.f0 == 2) = false := by rw [h]; rfl
 have b9 : (x.f0 == 9) = false := by rw [h]; rfl
 have b3 : (x.f0 == 3) = false := by rw [h]; rfl
 have b4 : (x.f0 == 4) = false := by rw [h]; rfl
 have b5 : (x.f0 == 5) = false := by rw [h]; rfl
 have b6 : (x.f0 == 6) = false := by rw [h]; rfl
 have b7 : (x.f0 == 7) = false := by rw [h]; rfl
 have b8 : (x.f0 == 8) = false := by rw [h]; rfl
 have b10 : (x.f0 == 10) = false := by rw [h]; rfl
 have b11 : (x.f0 == 11) = false := by rw [h]; rfl
 have b12 : (x.f0 == 12) = false := by rw [h]; rfl
 have b13 : (x.f0 == 13) = true := by rw [h]; rfl
 have HV := Aside0.mk (insV13 m f.f1 x (by omega))
 clear h
 go_enter Try.func87, Try.ntmps87
 go_upto_region 1 with (first | ((with_reducible refine gate_dst (N := 2) rfl ?_); refine box_event ?hg (N := 2) ?hd (cs := #[.slice A0 m.length c0, .int .i64 f.f0, .int .i64 f.f1, .slice A1 f.f2.length c1]) (t := 87) ?hr ?_; (case hd => rfl); (case hg => rfl); (case hr => first | (go_simp; done) | (go_simp; rfl)); intro g1 hg w1 hbox hb; have HB := Aside0.mk hb; have X1 := Aside0.mk hbox; clear hbox hb hg) | ((with_reducible refine gate_dst (N := 3) rfl ?_); refine box_event ?hg (N := 3) ?hd (cs := #[.int .i64 x.f0, .int .i64 x.f1, .int .i64 x.f2, .int .i64 x.f3, .int .u16 x.f4, .int .i64 x.f5, .slice A2 x.f6.length c2]) (t := 49) ?hr ?_; (case hd => rfl); (case hg => rfl); (case hr => first | (go_simp; done) | (go_simp; rfl)); intro g2 hg w2 hbox hb; replace HB := Aside0.mk (below_step HB.out hb); replace X1 := Aside0.mk (blk_below X1.out hb); have X2 := Aside0.mk hbox; clear hbox hb hg; obtain ⟨h0, h1, h2, h3, h4, h5, h6⟩ := cl7 X2.out))
 go_cut [5] (fun v5 wc => ∃ g5 : Nat, v5 = .pointer (some ⟨g5, 0, none⟩) ∧ w.heap.size ≤ g5 ∧ g1 ≠ g5 ∧ g2 ≠ g5 ∧ Aside0 (Below w.heap.size w wc) ∧ Aside0 (wc.heap[g1]? = some (.cells #[.slice A0 m.length c0, .int .i64 f.f0, .int .i64 f.f1, .slice A1 f.f2.length c1] 87 (0, 0))) ∧ Aside0 (wc.heap[g2]? = some (.cells #[.int .i64 x.f0, .int .i64 x.f1, .int .i64 x.f2, .int .i64 x.f3, .int .u16 x.f4, .int .i64 x.f5, .slice A2 x.f6.length c2] 49 (0, 0))) ∧ Aside0 (wc.heap[g5]? = some (.cells #[.int .i64 x.f0, .int .i64 0, .int .i64 0, .int .i64 0, .int .u16 0, .int .i64 0, .slice none 0 0] 49 (0, 0))))
 case first => go_wp2; go_meet; exact ⟨_, rfl, HB.out.size, Nat.ne_of_lt (blk_lt X1.out), Nat.ne_of_lt (blk_lt X2.out), ⟨below_alloc HB.out _⟩, ⟨blk_alloc X1.out _⟩, ⟨blk_alloc X2.out _⟩, ⟨blk_new _ _⟩⟩
 case rest =>
  clear HB X1 X2 h0 h1 h2 h3 h4 h5 h6
  obtain ⟨g5, rfl, G5, G15, G25, HB, X1, X2, X5⟩ := hcut
  obtain ⟨k0, k1, k2, k3⟩ := cl4 X1.out
  obtain ⟨h0, h1, h2, h3, h4, h5, h6⟩ := cl7 X2.out
  have G15' := Aside0.mk G15
  have G25' := Aside0.mk G25
  have G5' := Aside0.mk G5
  clear G15 G25 G5
  go_upto_region 30 with (fail)
  go_cut [] (fun wc => Aside0 (Below w.heap.size w wc) ∧ Aside0 (wc.heap[g1]? = some (.cells #[.slice A0 m.length c0, .int .i64 f.f0, .int .i64 f.f1, .slice A1 f.f2.length c1] 87 (0, 0))) ∧ Aside0 (wc.heap[g2]? = some (.cells #[.int .i64 x.f0, .int .i64 x.f1, .int .i64 x.f2, .int .i64 x.f3, .int .u16 x.f4, .int .i64 x.f5, .slice A2 x.f6.length c2] 49 (0, 0))) ∧ Aside0 (wc.heap[g5]? = some (.cells #[.int .i64 x.f0, .int .i64 x.f1, .int .i64 0, .int .i64 0, .int .u16 0, .int .i64 0, .slice none 0 0] 49 (0, 0))))
  case first =>
   have z1 := blk_frozen X5.out 1
   have y1 := (blk_cell X5.out 1).trans rfl
   go_wp2
   all_goals (go_wp2; go_meet; exact ⟨⟨(below_set HB.out G5'.out)⟩, ⟨(blk_far X1.out G15'.out _)⟩, ⟨(blk_far X2.out G25'.out _)⟩, ⟨(set_blk 1 _ X5.out rfl)⟩⟩)
  case rest =>
   clear HB X1 X2 X5 k0 k1 k2 k3 h0 h1 h2 h3 h4 h5 h6
   obtain ⟨HB, X1, X2, X5⟩ := hcut
   obtain ⟨k0, k1, k2, k3⟩ := cl4 X1.out
   obtain ⟨h0, h1, h2, h3, h4, h5, h6⟩ := cl7 X2.out
   obtain ⟨v0, v1, v2, v3, v4, v5, v6⟩ := cl7 X5.out
   go_wp2_with (first | (go_at_call 104; (with_reducible refine (place_c m A0 c0 f A1 c1 _ _).mono ?_); rintro e w6 ⟨rfl, hb⟩; replace HB := Aside0.mk (below_step HB.out hb); replace X1 := Aside0.mk (blk_below X1.out hb); replace X2 := Aside0.mk (blk_below X2.out hb); replace X5 := Aside0.mk (blk_below X5.out hb); clear hb k0 k1 k2 k3 h0 h1 h2 h3 h4 h5 h6 v0 v1 v2 v3 v4 v5 v6; obtain ⟨k0, k1, k2, k3⟩ := cl4 X1.out; obtain ⟨h0, h1, h2, h3, h4, h5, h6⟩ := cl7 X2.out; obtain ⟨v0, v1, v2, v3, v4, v5, v6⟩ := cl7 X5.out) | (go_at_call 94; refine (sins_c (⟨x.f0, x.f1, 0, 0, 0, 0, ([] : List Int)⟩ : S49) none 0 x A2 c2 _ nil_C (Kd.C_below HL.out HB.out) (Nat.zero_le _)).mono ?_; rintro e w7 ⟨rfl, hb⟩; replace HB := Aside0.mk (below_step HB.out hb); replace X1 := Aside0.mk (blk_below X1.out hb); replace X2 := Aside0.mk (blk_below X2.out hb); replace X5 := Aside0.mk (blk_below X5.out hb); clear hb k0 k1 k2 k3 h0 h1 h2 h3 h4 h5 h6 v0 v1 v2 v3 v4 v5 v6; obtain ⟨k0, k1, k2, k3⟩ := cl4 X1.out; obtain ⟨h0, h1, h2, h3, h4, h5, h6⟩ := cl7 X2.out; obtain ⟨v0, v1, v2, v3, v4, v5, v6⟩ := cl7 X5.out))
   all_goals (go_ret; exact ⟨ret_b (by rw [HV.out]; simp [*]), HB.out⟩)
set_option maxHeartbeats 16000000 in
set_option maxRecDepth 100000 in
theorem inl_c (m : List S27) (A0 : Option Addr) (c0 : Nat) (f : S27) (A1 : Option Addr) (c1 : Nat) (x : S49) (A2 : Option Addr) (c2 : Nat) (w : World) (hm : Kd.C k27 w A0 m.length m) (hl : Kd.C (Kd.int .i64) w A2 x.f6.length x.f6) (hb : x.f6.length ≤ 1000000) :
  Calls Try.prog 87 #[.agg #[.slice A0 m.length c0, .int .i64 f.f0, .int .i64 f.f1, .slice A1 f.f2.length c1], .agg #[.int .i64 x.f0, .int .i64 x.f1, .int .i64 x.f2, .int .i64 x.f3, .int .u16 x.f4, .int .i64 x.f5, .slice A2 x.f6.length c2]] w fun e w' => e = .returned (.bool (insR m f.f1 x)) ∧ Below w.heap.size w w' := by
 by_cases h1 : x.f0 = 1
 ·exact inl1_c m A0 c0 f A1 c1 x A2 c2 w hm hl hb h1
 by_cases h2 : x.f0 = 2
 ·exact inl2_c m A0 c0 f A1 c1 x A2 c2 w hm hl hb h2
 by_cases h3 : x.f0 = 3
 ·exact inl3_c m A0 c0 f A1 c1 x A2 c2 w hm hl hb h3
 by_cases h4 : x.f0 = 4
 ·exact inl4_c m A0 c0 f A1 c1 x A2 c2 w hm hl hb h4
 by_cases h5 : x.f0 = 5
 ·exact inl5_c m A0 c0 f A1 c1 x A2 c2 w hm hl hb h5
 by_cases h6 : x.f0 = 6
 ·exact inl6_c m A0 c0 f A1 c1 x A2 c2 w hm hl hb h6
 by_cases h7 : x.f0 = 7
 ·exact inl7_c m A0 c0 f A1 c1 x A2 c2 w hm hl hb h7
 by_cases h8 : x.f0 = 8
 ·exact inl8_c m A0 c0 f A1 c1 x A2 c2 w hm hl hb h8
 by_cases h9 : x.f0 = 9
 ·exact inl9_c m A0 c0 f A1 c1 x A2 c2 w hm hl hb h9
 by_cases h10 : x.f0 = 10
 ·exact inl10_c m A0 c0 f A1 c1 x A2 c2 w hm hl hb h10
 by_cases h11 : x.f0 = 11
 ·exact inl11_c m A0 c0 f A1 c1 x A2 c2 w hm hl hb h11
 by_cases h12 : x.f0 = 12
 ·exact inl12_c m A0 c0 f A1 c1 x A2 c2 w hm hl hb h12
 by_cases h13 : x.f0 = 13
 ·exact inl13_c m A0 c0 f A1 c1 x A2 c2 w hm hl hb h13
 have b1 : (x.f0 == 1) = false := beq_eq_false_iff_ne.2 h1
 have b2 : (x.f0 == 2) = false := beq_eq_false_iff_ne.2 h2
 have b9 : (x.f0 == 9) = false := beq_eq_false_iff_ne.2 h9
 have b3 : (x.f0 == 3) = false := beq_eq_false_iff_ne.2 h3
 have b4 : (x.f0 == 4) = false := beq_eq_false_iff_ne.2 h4
 have b5 : (x.f0 == 5) = false := beq_eq_false_iff_ne.2 h5
 have b6 : (x.f0 == 6) = false := beq_eq_false_iff_ne.2 h6
 have b7 : (x.f0 == 7) = false := beq_eq_false_iff_ne.2 h7
 have b8 : (x.f0 == 8) = false := beq_eq_false_iff_ne.2 h8
 have b10 : (x.f0 == 10) = false := beq_eq_false_iff_ne.2 h10
 have b11 : (x.f0 == 11) = false := beq_eq_false_iff_ne.2 h11
 have b12 : (x.f0 == 12) = false := beq_eq_false_iff_ne.2 h12
 have b13 : (x.f0 == 13) = false := beq_eq_false_iff_ne.2 h13
 have HV := Aside0.mk (show insR m f.f1 x = false by unfold insR; rw [b1, b2, b9, b3, b4, b5, b6, b7, b8, b10, b11, b12, b13]; rfl)
 clear hm hl hb h1 h2 h9 h3 h4 h5 h6 h7 h8 h10 h11 h12 h13
 have hu24 := Try.underlying24
 have hu27 := Try.underlying27
 have hu87 := Try.underlying87
 have hu49 := Try.underlying49
 go_enter Try.func87, Try.ntmps87
 go_upto_region 1 with (first | ((with_reducible refine gate_dst (N := 2) rfl ?_); refine box_event ?hg (N := 2) ?hd (cs := #[.slice A0 m.length c0, .int .i64 f.f0, .int .i64 f.f1, .slice A1 f.f2.length c1]) (t := 87) ?hr ?_; (case hd => rfl); (case hg => rfl); (case hr => first | (go_simp; done) | (go_simp; rfl)); intro g1 hg w1 hbox hb; have HB := Aside0.mk hb; have X1 := Aside0.mk hbox; clear hbox hb hg) | ((with_reducible refine gate_dst (N := 3) rfl ?_); refine box_event ?hg (N := 3) ?hd (cs := #[.int .i64 x.f0, .int .i64 x.f1, .int .i64 x.f2, .int .i64 x.f3, .int .u16 x.f4, .int .i64 x.f5, .slice A2 x.f6.length c2]) (t := 49) ?hr ?_; (case hd => rfl); (case hg => rfl); (case hr => first | (go_simp; done) | (go_simp; rfl)); intro g2 hg w2 hbox hb; replace HB := Aside0.mk (below_step HB.out hb); replace X1 := Aside0.mk (blk_below X1.out hb); have X2 := Aside0.mk hbox; clear hbox hb hg; obtain ⟨h0, h1, h2, h3, h4, h5, h6⟩ := cl7 X2.out))
 go_cut [5] (fun v5 wc => ∃ g5 : Nat, v5 = .pointer (some ⟨g5, 0, none⟩) ∧ Aside0 (Below w.heap.size w wc) ∧ Aside0 (wc.heap[g1]? = some (.cells #[.slice A0 m.length c0, .int .i64 f.f0, .int .i64 f.f1, .slice A1 f.f2.length c1] 87 (0, 0))) ∧ Aside0 (wc.heap[g2]? = some (.cells #[.int .i64 x.f0, .int .i64 x.f1, .int .i64 x.f2, .int .i64 x.f3, .int .u16 x.f4, .int .i64 x.f5, .slice A2 x.f6.length c2] 49 (0, 0))))
 case first => go_wp2; go_meet; exact ⟨_, rfl, ⟨below_alloc HB.out _⟩, ⟨blk_alloc X1.out _⟩, ⟨blk_alloc X2.out _⟩⟩
 case rest =>
  clear HB X1 X2 h0 h1 h2 h3 h4 h5 h6
  obtain ⟨g5, rfl, HB, X1, X2⟩ := hcut
  obtain ⟨h0, h1, h2, h3, h4, h5, h6⟩ := cl7 X2.out
  go_wp2
  go_ret
  exact ⟨ret_b HV.out.symm, HB.out⟩
end Go.Proofs.Ytbfialebaoeicaa.X
