/- Part 16 of the proof of the statement FrameReckons: the words of the walks, the walks through the functions that it reaches, and the plain laws of what they compute. -/
import Derived.Test.YtbfialebaoeicaaMFrameReckons14
import Derived.RegionTactic
import Derived.ChangeAlike
import Derived.Deep.QuietTactic
import Derived.BigQuiet
namespace Go.Proofs.Ytbfialebaoeicaa.X
open Go.RowKit Go.Proofs.YtbfialebaoeicaaW.PrintWords Go.Proofs.YtbfialebaoeicaaW.PrintLast Go.Proofs.YtbfialebaoeicaaW.PrintMore
set_option linter.all false
theorem copied_c (F_ Bl At : Int) (A3 : Option Addr) (c3 : Nat) (l : List Int) (Fly : Int) (w : World) (hl : Kd.C (Kd.int .u16) w A3 l.length l) (hc3 : l.length ≤ c3) (hm : l.length < 1000000) :
  Calls Try.prog 69 #[.agg #[.int .i64 F_, .int .i64 Bl, .int .i64 At, .slice A3 l.length c3, .int .u16 Fly]] w fun e w' => (∃ Ao co, e = .returned (.agg #[.int .i64 F_, .int .i64 Bl, .int .i64 At, .slice Ao l.length co, .int .u16 Fly]) ∧ l.length ≤ co ∧ Kd.R (Kd.int .u16) 44 w' w.heap.size (fun _ => True) (.slice Ao l.length co) l) ∧ Below w.heap.size w w' := by
 refine (frame_copied.calls F_ Bl At A3 c3 l Fly _ _ _ _ _ w hl hc3 (show _ = some (F_, Bl, At, l, Fly) by unfold frame_copied.f slices_Clone_uint16_uint16.f; rw [if_pos hm]; rfl)).mono ?_
 rintro e w' ⟨v, rfl, hr, hb⟩
 obtain ⟨Ao, co, rfl, hl, _⟩ := Kd.R_reads hr
 exact ⟨⟨Ao, co, rfl, hl, hr⟩, hb⟩
theorem C_farg {w : World} {A : Option Addr} {n g : Nat} {c base : Nat} {xs : List Int} {cs : Array Value} (h : Kd.R (Kd.int .u16) 44 w base (fun _ => True) (.slice A n c) xs) (hb : w.heap[g]? = some (.cells cs 55 (0, 0))) : Kd.R (Kd.int .u16) 44 w base (fun k => True ∧ k ≠ g) (.slice A n c) xs := Kd.R_types h hb (by decide)
theorem with_r (F Bl At : Int) (A : Option Addr) (c : Nat) (l : List Int) (Fly n v : Int) (w : World) (hl : Kd.C (Kd.int .u16) w A l.length l) (hc : l.length ≤ c) (h : win n l.length = true) (hm : l.length ≤ 1000000) :
  Calls Try.prog 74 #[.agg #[.int .i64 F, .int .i64 Bl, .int .i64 At, .slice A l.length c, .int .u16 Fly], .int .i64 n, .int .u16 v] w fun e w' => (∃ Ao co, e = .returned (.agg #[.int .i64 F, .int .i64 Bl, .int .i64 At, .slice Ao l.length co, .int .u16 Fly]) ∧ l.length ≤ co ∧ Kd.R (Kd.int .u16) 44 w' w.heap.size (fun _ => True) (.slice Ao l.length co) (l.set n.toNat v)) ∧ Below w.heap.size w w' := by
 refine (davitref05_With.calls F Bl At A c l Fly n v _ _ _ _ _ w hl hc (with_f F Bl At l Fly n v h hm)).mono ?_
 rintro e w' ⟨v, rfl, hr, hb⟩
 obtain ⟨Ao, co, rfl, hl, hC⟩ := Kd.R_reads hr
 rw [List.length_set] at hl hr
 exact ⟨⟨Ao, co, by rw [List.length_set], hl, hr⟩, hb⟩
set_option maxHeartbeats 16000000 in
set_option maxRecDepth 100000 in
theorem go_c (F_ Bl At : Int) (A3 : Option Addr) (c3 : Nat) (l : List Int) (Fly : Int) (n : Int) (w : World) (hl : Kd.C (Kd.int .u16) w A3 l.length l) (hc3 : l.length ≤ c3) (hm : l.length < 1000000) :
  Calls Try.prog 33 #[.agg #[.int .i64 F_, .int .i64 Bl, .int .i64 At, .slice A3 l.length c3, .int .u16 Fly], .int .i64 n] w fun e w' => (∃ Ao co, e = .returned (.agg #[.int .i64 F_, .int .i64 n, .int .i64 0, .slice Ao l.length co, .int .u16 Fly]) ∧ l.length ≤ co ∧ Kd.R (Kd.int .u16) 44 w' w.heap.size (fun _ => True) (.slice Ao l.length co) l) ∧ Below w.heap.size w w' := by
 have HL := Aside0.mk hl
 have HC3 := Aside0.mk hc3
 have HN := Aside0.mk hm
 clear hl hc3 hm
 have hu55 := Try.underlying55
 have hu49 := Try.underlying49
 go_enter Try.func33, Try.ntmps33
 go_upto_region 1 with (first | ((with_reducible refine gate_dst (N := 2) rfl ?_); refine box_event ?hg (N := 2) ?hd (cs := #[.int .i64 F_, .int .i64 Bl, .int .i64 At, .slice A3 l.length c3, .int .u16 Fly]) (t := 55) ?hr ?_; (case hd => rfl); (case hg => rfl); (case hr => first | (go_simp; done) | (go_simp; rfl)); intro g1 hg w1 hbox hb; have HLX1 := Aside0.mk (show w.heap.size ≤ g1 by rw [hg]; exact Nat.le_refl _); have HB := Aside0.mk hb; have X1 := Aside0.mk hbox; clear hbox hb hg; have h0 := (blk_cell X1.out 0).trans rfl; have h1 := (blk_cell X1.out 1).trans rfl; have h2 := (blk_cell X1.out 2).trans rfl; have h3 := (blk_cell X1.out 3).trans rfl; have h4 := (blk_cell X1.out 4).trans rfl; have zh0 := blk_frozen X1.out 0; have zh1 := blk_frozen X1.out 1; have zh2 := blk_frozen X1.out 2; have zh3 := blk_frozen X1.out 3; have zh4 := blk_frozen X1.out 4) | ((with_reducible refine gate_dst (N := 4) rfl ?_); refine box_event ?hg (N := 4) ?hd (cs := #[.int .i64 0, .int .i64 0, .int .i64 0, .slice none 0 0, .int .u16 0]) (t := 55) ?hr ?_; (case hd => rfl); (case hg => rfl); (case hr => first | (go_simp; done) | (go_simp; rfl)); intro g2 hg w2 hbox hb; have HLX2 := Aside0.mk (show w.heap.size ≤ g2 by rw [hg]; exact HB.out.size); have HNE := Aside0.mk (show g2 ≠ g1 by rw [hg]; exact Nat.ne_of_gt (blk_lt X1.out)); have n0_ := Aside0.mk (below_step HB.out hb); have n1_ := Aside0.mk (blk_below X1.out hb); clear HB X1; have HB := n0_; have X1 := n1_; clear n0_ n1_; have X2 := Aside0.mk hbox; clear hbox hb hg; have r0 := (blk_cell X2.out 0).trans rfl; have r1 := (blk_cell X2.out 1).trans rfl; have r2 := (blk_cell X2.out 2).trans rfl; have r3 := (blk_cell X2.out 3).trans rfl; have r4 := (blk_cell X2.out 4).trans rfl; have zr0 := blk_frozen X2.out 0; have zr1 := blk_frozen X2.out 1; have zr2 := blk_frozen X2.out 2; have zr3 := blk_frozen X2.out 3; have zr4 := blk_frozen X2.out 4; clear h0 zh0 h1 zh1 h2 zh2 h3 zh3 h4 zh4; have h0 := (blk_cell X1.out 0).trans rfl; have h1 := (blk_cell X1.out 1).trans rfl; have h2 := (blk_cell X1.out 2).trans rfl; have h3 := (blk_cell X1.out 3).trans rfl; have h4 := (blk_cell X1.out 4).trans rfl; have zh0 := blk_frozen X1.out 0; have zh1 := blk_frozen X1.out 1; have zh2 := blk_frozen X1.out 2; have zh3 := blk_frozen X1.out 3; have zh4 := blk_frozen X1.out 4))
 simp only [Act.put, List.setIfInBounds_toArray, List.set_cons_zero, List.set_cons_succ]
 go_cut [] (fun wc => ∃ Ao co, Aside0 (Below w.heap.size w wc) ∧ Aside0 (wc.heap[g1]? = some (.cells #[.int .i64 F_, .int .i64 Bl, .int .i64 At, .slice Ao l.length co, .int .u16 Fly] 55 (0, 0))) ∧ Aside0 (wc.heap[g2]? = some (.cells #[.int .i64 0, .int .i64 0, .int .i64 0, .slice none 0 0, .int .u16 0] 55 (0, 0))) ∧ Aside0 (l.length ≤ co) ∧ Aside0 (Kd.R (Kd.int .u16) 44 wc w.heap.size (fun _ => True) (.slice Ao l.length co) l))
 case first =>
  go_wp2_with (go_at_call 69; go_loud ((with_reducible refine (copied_c F_ Bl At A3 c3 l Fly _ (Kd.C_below HL.out HB.out) HC3.out HN.out).mono ?_); rintro e w6 ⟨⟨Ao, co, rfl, hlo, hr⟩, hb⟩; have HLO := Aside0.mk hlo; have HR := Aside0.mk (Kd.R_lower hr HB.out.size); clear h0 zh0 h1 zh1 h2 zh2 h3 zh3 h4 zh4; clear r0 zr0 r1 zr1 r2 zr2 r3 zr3 r4 zr4; have n0_ := Aside0.mk (below_step HB.out hb); have n1_ := Aside0.mk (blk_below X1.out hb); have n2_ := Aside0.mk (blk_below X2.out hb); clear HB X1 X2; have HB := n0_; have X1 := n1_; have X2 := n2_; clear n0_ n1_ n2_; clear hlo hr hb; have h0 := (blk_cell X1.out 0).trans rfl; have h1 := (blk_cell X1.out 1).trans rfl; have h2 := (blk_cell X1.out 2).trans rfl; have h3 := (blk_cell X1.out 3).trans rfl; have h4 := (blk_cell X1.out 4).trans rfl; have zh0 := blk_frozen X1.out 0; have zh1 := blk_frozen X1.out 1; have zh2 := blk_frozen X1.out 2; have zh3 := blk_frozen X1.out 3; have zh4 := blk_frozen X1.out 4; have r0 := (blk_cell X2.out 0).trans rfl; have r1 := (blk_cell X2.out 1).trans rfl; have r2 := (blk_cell X2.out 2).trans rfl; have r3 := (blk_cell X2.out 3).trans rfl; have r4 := (blk_cell X2.out 4).trans rfl; have zr0 := blk_frozen X2.out 0; have zr1 := blk_frozen X2.out 1; have zr2 := blk_frozen X2.out 2; have zr3 := blk_frozen X2.out 3; have zr4 := blk_frozen X2.out 4))
  go_meet
  exact ⟨Ao, co, ⟨below_set (below_set (below_set (below_set (below_set (HB.out) HLX1.out) HLX1.out) HLX1.out) HLX1.out) HLX1.out⟩, ⟨set_blk _ _ (set_blk _ _ (set_blk _ _ (set_blk _ _ (set_blk _ _ (X1.out) rfl) rfl) rfl) rfl) rfl⟩, ⟨(blk_far (blk_far (blk_far (blk_far (blk_far X2.out (p := ⟨g1, 0, none⟩) HNE.out _) (p := ⟨g1, 1, none⟩) HNE.out _) (p := ⟨g1, 2, none⟩) HNE.out _) (p := ⟨g1, 3, none⟩) HNE.out _) (p := ⟨g1, 4, none⟩) HNE.out _)⟩, HLO, ⟨(Kd.R_mono (Kd.R_far (p := ⟨g1, 4, none⟩) (Kd.R_far (p := ⟨g1, 3, none⟩) (Kd.R_far (p := ⟨g1, 2, none⟩) (Kd.R_far (p := ⟨g1, 1, none⟩) (Kd.R_far (p := ⟨g1, 0, none⟩) (C_farg HR.out X1.out) (fun _ hk => hk.2) _) (fun _ hk => hk.2) _) (fun _ hk => hk.2) _) (fun _ hk => hk.2) _) (fun _ hk => hk.2) _) (fun _ _ => trivial))⟩⟩
 case rest =>
  clear h0 zh0 h1 zh1 h2 zh2 h3 zh3 h4 zh4; clear r0 zr0 r1 zr1 r2 zr2 r3 zr3 r4 zr4; clear HB X1 X2
  obtain ⟨Ao, co, HB, X1, X2, HLO, HR⟩ := hcut
  have h0 := (blk_cell X1.out 0).trans rfl
  have h1 := (blk_cell X1.out 1).trans rfl
  have h2 := (blk_cell X1.out 2).trans rfl
  have h3 := (blk_cell X1.out 3).trans rfl
  have h4 := (blk_cell X1.out 4).trans rfl
  have zh0 := blk_frozen X1.out 0
  have zh1 := blk_frozen X1.out 1
  have zh2 := blk_frozen X1.out 2
  have zh3 := blk_frozen X1.out 3
  have zh4 := blk_frozen X1.out 4
  go_upto_region 2 with (fail)
  go_cut [] (fun wc => ∃ Ao co, Aside0 (Below w.heap.size w wc) ∧ Aside0 (wc.heap[g1]? = some (.cells #[.int .i64 F_, .int .i64 n, .int .i64 0, .slice Ao l.length co, .int .u16 Fly] 55 (0, 0))) ∧ Aside0 (wc.heap[g2]? = some (.cells #[.int .i64 0, .int .i64 0, .int .i64 0, .slice none 0 0, .int .u16 0] 55 (0, 0))) ∧ Aside0 (l.length ≤ co) ∧ Aside0 (Kd.R (Kd.int .u16) 44 wc w.heap.size (fun _ => True) (.slice Ao l.length co) l))
  case first =>
   go_wp2
   go_meet
   exact ⟨Ao, co, ⟨below_set (below_set (HB.out) HLX1.out) HLX1.out⟩, ⟨set_blk _ _ (set_blk _ _ (X1.out) rfl) rfl⟩, ⟨(blk_far (blk_far X2.out (p := ⟨g1, 1, none⟩) HNE.out _) (p := ⟨g1, 2, none⟩) HNE.out _)⟩, HLO, ⟨(Kd.R_mono (Kd.R_far (p := ⟨g1, 2, none⟩) (Kd.R_far (p := ⟨g1, 1, none⟩) (C_farg HR.out X1.out) (fun _ hk => hk.2) _) (fun _ hk => hk.2) _) (fun _ _ => trivial))⟩⟩
  case rest =>
   clear h0 zh0 h1 zh1 h2 zh2 h3 zh3 h4 zh4; clear HB X1 X2 HLO HR
   obtain ⟨Ao, co, HB, X1, X2, HLO, HR⟩ := hcut
   have h0 := (blk_cell X1.out 0).trans rfl
   have h1 := (blk_cell X1.out 1).trans rfl
   have h2 := (blk_cell X1.out 2).trans rfl
   have h3 := (blk_cell X1.out 3).trans rfl
   have h4 := (blk_cell X1.out 4).trans rfl
   have zh0 := blk_frozen X1.out 0
   have zh1 := blk_frozen X1.out 1
   have zh2 := blk_frozen X1.out 2
   have zh3 := blk_frozen X1.out 3
   have zh4 := blk_frozen X1.out 4
   have r0 := (blk_cell X2.out 0).trans rfl
   have r1 := (blk_cell X2.out 1).trans rfl
   have r2 := (blk_cell X2.out 2).trans rfl
   have r3 := (blk_cell X2.out 3).trans rfl
   have r4 := (blk_cell X2.out 4).trans rfl
   have zr0 := blk_frozen X2.out 0
   have zr1 := blk_frozen X2.out 1
   have zr2 := blk_frozen X2.out 2
   have zr3 := blk_frozen X2.out 3
   have zr4 := blk_frozen X2.out 4
   go_wp2
   refine bodyPost_ret (results_cell_row rfl _ _ g2 55 #[.int .i64 F_, .int .i64 n, .int .i64 0, .slice Ao l.length co, .int .u16 Fly] (0, 0) _ rfl (set_blk _ _ (set_blk _ _ (set_blk _ _ (set_blk _ _ (set_blk _ _ (X2.out) rfl) rfl) rfl) rfl) rfl) Try.underlying55 rfl (by kernel_rfl)) rfl ?_
   exact ⟨⟨Ao, co, rfl, HLO.out, (Kd.R_mono (Kd.R_far (p := ⟨g2, 4, none⟩) (Kd.R_far (p := ⟨g2, 3, none⟩) (Kd.R_far (p := ⟨g2, 2, none⟩) (Kd.R_far (p := ⟨g2, 1, none⟩) (Kd.R_far (p := ⟨g2, 0, none⟩) (C_farg HR.out X2.out) (fun _ hk => hk.2) _) (fun _ hk => hk.2) _) (fun _ hk => hk.2) _) (fun _ hk => hk.2) _) (fun _ hk => hk.2) _) (fun _ _ => trivial))⟩, below_set (below_set (below_set (below_set (below_set (HB.out) HLX2.out) HLX2.out) HLX2.out) HLX2.out) HLX2.out⟩
theorem ans_noA (l : List Int) {op A B K : Int} (h1 : op ≠ 1) (hA : win A l.length = false) : (ansW l op A B K).2 = false := by
 unfold ansW atW
 rw [if_neg h1, hA]
 rfl
theorem ans_in2 (l : List Int) {op A : Int} (B K : Int) (h1 : op ≠ 1) (hA : win A l.length = true) (h2 : ¬ 2 < op) : ansW l op A B K = doW op (rd l A) 0 := by
 unfold ansW
 rw [if_neg h1, decide_eq_false h2]
 unfold atW
 rw [hA]
 rfl
theorem ans_noB (l : List Int) {op A B : Int} (K : Int) (h1 : op ≠ 1) (hA : win A l.length = true) (h2 : 2 < op) (h3 : op ≤ 8) (hB : win B l.length = false) : (ansW l op A B K).2 = false := by
 unfold ansW
 rw [if_neg h1, decide_eq_true h2, decide_eq_true h3]
 unfold atW
 rw [hA, hB]
 rfl
theorem ans_in3 (l : List Int) {op A B : Int} (K : Int) (h1 : op ≠ 1) (hA : win A l.length = true) (h2 : 2 < op) (h3 : op ≤ 8) (hB : win B l.length = true) : ansW l op A B K = doW op (rd l A) (rd l B) := by
 unfold ansW
 rw [if_neg h1, decide_eq_true h2, decide_eq_true h3]
 unfold atW
 rw [hA, hB]
 rfl
theorem rkC {W : World} {base c : Nat} {A : Option Addr} {l : List Int} {op D A_ B K : Int} (h : Kd.R (Kd.int .u16) 44 W base (fun _ => True) (.slice A l.length c) (rkL l op D A_ B K)) : Kd.C (Kd.int .u16) W A l.length (rkL l op D A_ B K) := by
 have h2 := (Kd.R_reads' h).2.2
 rwa [rkL_len] at h2
set_option maxHeartbeats 16000000 in
set_option maxRecDepth 100000 in
theorem rrk_c (F_ Bl At : Int) (A3 : Option Addr) (c3 : Nat) (l : List Int) (Fly : Int) (x : S49) (A6 : Option Addr) (c6 : Nat) (w : World) (hl : Kd.C (Kd.int .u16) w A3 l.length l) (hc3 : l.length ≤ c3) (hm : l.length ≤ 1000) (hw : ∀ y ∈ l, W16 y) :
  Calls Try.prog 30 #[.agg #[.int .i64 F_, .int .i64 Bl, .int .i64 At, .slice A3 l.length c3, .int .u16 Fly], .agg #[.int .i64 x.f0, .int .i64 x.f1, .int .i64 x.f2, .int .i64 x.f3, .int .u16 x.f4, .int .i64 x.f5, .slice A6 x.f6.length c6]] w fun e w' => (∃ Ao co, e = .returned (.tuple #[.agg #[.int .i64 F_, .int .i64 Bl, .int .i64 (rkAt l At x.f0 x.f1 x.f2 x.f3 x.f4), .slice Ao l.length co, .int .u16 Fly], .bool (rkB l x.f0 x.f1 x.f2 x.f3 x.f4)]) ∧ l.length ≤ co ∧ Kd.C (Kd.int .u16) w' Ao l.length (rkL l x.f0 x.f1 x.f2 x.f3 x.f4)) ∧ Below w.heap.size w w' := by
 have HL := Aside0.mk hl
 have HC3 := Aside0.mk hc3
 have HN := Aside0.mk hm
 have HW := Aside0.mk hw
 clear hl hc3 hm hw
 have hu55 := Try.underlying55
 have hu49 := Try.underlying49
 cases hD : win x.f1 l.length with
 | false =>
  have HZ := Aside0.mk (show rkB l x.f0 x.f1 x.f2 x.f3 x.f4 = false by unfold rkB; rw [hD, Bool.and_false])
  go_enter Try.func30, Try.ntmps30
  go_wp2_with (first | ((with_reducible refine gate_dst (N := 2) rfl ?_); refine box_event ?hg (N := 2) ?hd (cs := #[.int .i64 F_, .int .i64 Bl, .int .i64 At, .slice A3 l.length c3, .int .u16 Fly]) (t := 55) ?hr ?_; (case hd => rfl); (case hg => rfl); (case hr => first | (go_simp; done) | (go_simp; rfl)); intro g1 hg w1 hbox hb; have HLX1 := Aside0.mk (show w.heap.size ≤ g1 by rw [hg]; exact Nat.le_refl _); have HB := Aside0.mk hb; have X1 := Aside0.mk hbox; clear hbox hb hg; have h0 := (blk_cell X1.out 0).trans rfl; have h1 := (blk_cell X1.out 1).trans rfl; have h2 := (blk_cell X1.out 2).trans rfl; have h3 := (blk_cell X1.out 3).trans rfl; have h4 := (blk_cell X1.out 4).trans rfl; have zh0 := blk_frozen X1.out 0; have zh1 := blk_frozen X1.out 1; have zh2 := blk_frozen X1.out 2; have zh3 := blk_frozen X1.out 3; have zh4 := blk_frozen X1.out 4) | ((with_reducible refine gate_dst (N := 3) rfl ?_); refine box_event ?hg (N := 3) ?hd (cs := #[.int .i64 x.f0, .int .i64 x.f1, .int .i64 x.f2, .int .i64 x.f3, .int .u16 x.f4, .int .i64 x.f5, .slice A6 x.f6.length c6]) (t := 49) ?hr ?_; (case hd => rfl); (case hg => rfl); (case hr => first | (go_simp; done) | (go_simp; rfl)); intro g2 hg w2 hbox hb; have n0_ := Aside0.mk (below_step HB.out hb); have n1_ := Aside0.mk (blk_below X1.out hb); clear HB X1; have HB := n0_; have X1 := n1_; clear n0_ n1_; have X2 := Aside0.mk hbox; clear hbox hb hg; clear h0 zh0 h1 zh1 h2 zh2 h3 zh3 h4 zh4; have h0 := (blk_cell X1.out 0).trans rfl; have h1 := (blk_cell X1.out 1).trans rfl; have h2 := (blk_cell X1.out 2).trans rfl; have h3 := (blk_cell X1.out 3).trans rfl; have h4 := (blk_cell X1.out 4).trans rfl; have zh0 := blk_frozen X1.out 0; have zh1 := blk_frozen X1.out 1; have zh2 := blk_frozen X1.out 2; have zh3 := blk_frozen X1.out 3; have zh4 := blk_frozen X1.out 4; have k0 := (blk_cell X2.out 0).trans rfl; have k1 := (blk_cell X2.out 1).trans rfl; have k2 := (blk_cell X2.out 2).trans rfl; have k3 := (blk_cell X2.out 3).trans rfl; have k4 := (blk_cell X2.out 4).trans rfl; have k5 := (blk_cell X2.out 5).trans rfl; have k6 := (blk_cell X2.out 6).trans rfl) | ((with_reducible refine gate_dst (N := 4) rfl ?_); refine box_event ?hg (N := 4) ?hd (cs := #[.int .i64 0, .int .i64 0, .int .i64 0, .slice none 0 0, .int .u16 0]) (t := 55) ?hr ?_; (case hd => rfl); (case hg => rfl); (case hr => first | (go_simp; done) | (go_simp; rfl)); intro g4 hg w4 hbox hb; have HLX4 := Aside0.mk (show w.heap.size ≤ g4 by rw [hg]; exact HB.out.size); have HNE := Aside0.mk (show g4 ≠ g1 by rw [hg]; exact Nat.ne_of_gt (blk_lt X1.out)); have n0_ := Aside0.mk (below_step HB.out hb); have n1_ := Aside0.mk (blk_below X1.out hb); have n2_ := Aside0.mk (blk_below X2.out hb); clear HB X1 X2; have HB := n0_; have X1 := n1_; have X2 := n2_; clear n0_ n1_ n2_; have X4 := Aside0.mk hbox; clear hbox hb hg; have r0 := (blk_cell X4.out 0).trans rfl; have r1 := (blk_cell X4.out 1).trans rfl; have r2 := (blk_cell X4.out 2).trans rfl; have r3 := (blk_cell X4.out 3).trans rfl; have r4 := (blk_cell X4.out 4).trans rfl; have zr0 := blk_frozen X4.out 0; have zr1 := blk_frozen X4.out 1; have zr2 := blk_frozen X4.out 2; have zr3 := blk_frozen X4.out 3; have zr4 := blk_frozen X4.out 4; clear h0 zh0 h1 zh1 h2 zh2 h3 zh3 h4 zh4; clear k0 k1 k2 k3 k4 k5 k6; have h0 := (blk_cell X1.out 0).trans rfl; have h1 := (blk_cell X1.out 1).trans rfl; have h2 := (blk_cell X1.out 2).trans rfl; have h3 := (blk_cell X1.out 3).trans rfl; have h4 := (blk_cell X1.out 4).trans rfl; have zh0 := blk_frozen X1.out 0; have zh1 := blk_frozen X1.out 1; have zh2 := blk_frozen X1.out 2; have zh3 := blk_frozen X1.out 3; have zh4 := blk_frozen X1.out 4; have k0 := (blk_cell X2.out 0).trans rfl; have k1 := (blk_cell X2.out 1).trans rfl; have k2 := (blk_cell X2.out 2).trans rfl; have k3 := (blk_cell X2.out 3).trans rfl; have k4 := (blk_cell X2.out 4).trans rfl; have k5 := (blk_cell X2.out 5).trans rfl; have k6 := (blk_cell X2.out 6).trans rfl) | (go_at_call 72; (with_reducible refine (davitref05_there.calls F_ Bl At A3 c3 l Fly _ _ _ (Kd.C_below HL.out HB.out) HC3.out (there_f F_ Bl At l Fly _)).mono ?_); rintro e w6 ⟨he, hb⟩; (first | rw [hD] at he | rw [hA] at he | rw [hBB] at he); subst he; clear h0 zh0 h1 zh1 h2 zh2 h3 zh3 h4 zh4; clear k0 k1 k2 k3 k4 k5 k6; clear r0 zr0 r1 zr1 r2 zr2 r3 zr3 r4 zr4; have n0_ := Aside0.mk (below_step HB.out hb); have n1_ := Aside0.mk (blk_below X1.out hb); have n2_ := Aside0.mk (blk_below X2.out hb); have n3_ := Aside0.mk (blk_below X4.out hb); clear HB X1 X2 X4; have HB := n0_; have X1 := n1_; have X2 := n2_; have X4 := n3_; clear n0_ n1_ n2_ n3_; clear hb; have h0 := (blk_cell X1.out 0).trans rfl; have h1 := (blk_cell X1.out 1).trans rfl; have h2 := (blk_cell X1.out 2).trans rfl; have h3 := (blk_cell X1.out 3).trans rfl; have h4 := (blk_cell X1.out 4).trans rfl; have zh0 := blk_frozen X1.out 0; have zh1 := blk_frozen X1.out 1; have zh2 := blk_frozen X1.out 2; have zh3 := blk_frozen X1.out 3; have zh4 := blk_frozen X1.out 4; have k0 := (blk_cell X2.out 0).trans rfl; have k1 := (blk_cell X2.out 1).trans rfl; have k2 := (blk_cell X2.out 2).trans rfl; have k3 := (blk_cell X2.out 3).trans rfl; have k4 := (blk_cell X2.out 4).trans rfl; have k5 := (blk_cell X2.out 5).trans rfl; have k6 := (blk_cell X2.out 6).trans rfl; have r0 := (blk_cell X4.out 0).trans rfl; have r1 := (blk_cell X4.out 1).trans rfl; have r2 := (blk_cell X4.out 2).trans rfl; have r3 := (blk_cell X4.out 3).trans rfl; have r4 := (blk_cell X4.out 4).trans rfl; have zr0 := blk_frozen X4.out 0; have zr1 := blk_frozen X4.out 1; have zr2 := blk_frozen X4.out 2; have zr3 := blk_frozen X4.out 3; have zr4 := blk_frozen X4.out 4))
  have HRK := Aside0.mk (rk_no At HZ.out)
  refine bodyPost_ret (results_ct rfl _ _ g4 55 #[.int .i64 F_, .int .i64 Bl, .int .i64 At, .slice A3 l.length c3, .int .u16 Fly] (0, 0) _ rfl (set_blk _ _ (set_blk _ _ (set_blk _ _ (set_blk _ _ (set_blk _ _ (X4.out) rfl) rfl) rfl) rfl) rfl) Try.underlying55 rfl (by kernel_rfl)) rfl ?_
  exact ⟨⟨A3, c3, by rw [HRK.out.2, HZ.out]; rfl, HC3.out, by rw [HRK.out.1]; exact Kd.C_below HL.out (below_set (below_set (below_set (below_set (below_set (HB.out) HLX4.out) HLX4.out) HLX4.out) HLX4.out) HLX4.out)⟩, below_set (below_set (below_set (below_set (below_set (HB.out) HLX4.out) HLX4.out) HLX4.out) HLX4.out) HLX4.out⟩
 | true =>
  by_cases q1 : x.f0 < 1
  ·have HQ := Aside0.mk q1
   have d1 : decide (x.f0 < 1) = true := decide_eq_true (q1)
   clear q1
   have HZ := Aside0.mk (show rkB l x.f0 x.f1 x.f2 x.f3 x.f4 = false by unfold rkB; rw [ans_out l x.f0 x.f2 x.f3 x.f4 (.inl HQ.out)]; rfl)
   go_enter Try.func30, Try.ntmps30
   go_wp2_with (first | ((with_reducible refine gate_dst (N := 2) rfl ?_); refine box_event ?hg (N := 2) ?hd (cs := #[.int .i64 F_, .int .i64 Bl, .int .i64 At, .slice A3 l.length c3, .int .u16 Fly]) (t := 55) ?hr ?_; (case hd => rfl); (case hg => rfl); (case hr => first | (go_simp; done) | (go_simp; rfl)); intro g1 hg w1 hbox hb; have HLX1 := Aside0.mk (show w.heap.size ≤ g1 by rw [hg]; exact Nat.le_refl _); have HB := Aside0.mk hb; have X1 := Aside0.mk hbox; clear hbox hb hg; have h0 := (blk_cell X1.out 0).trans rfl; have h1 := (blk_cell X1.out 1).trans rfl; have h2 := (blk_cell X1.out 2).trans rfl; have h3 := (blk_cell X1.out 3).trans rfl; have h4 := (blk_cell X1.out 4).trans rfl; have zh0 := blk_frozen X1.out 0; have zh1 := blk_frozen X1.out 1; have zh2 := blk_frozen X1.out 2; have zh3 := blk_frozen X1.out 3; have zh4 := blk_frozen X1.out 4) | ((with_reducible refine gate_dst (N := 3) rfl ?_); refine box_event ?hg (N := 3) ?hd (cs := #[.int .i64 x.f0, .int .i64 x.f1, .int .i64 x.f2, .int .i64 x.f3, .int .u16 x.f4, .int .i64 x.f5, .slice A6 x.f6.length c6]) (t := 49) ?hr ?_; (case hd => rfl); (case hg => rfl); (case hr => first | (go_simp; done) | (go_simp; rfl)); intro g2 hg w2 hbox hb; have n0_ := Aside0.mk (below_step HB.out hb); have n1_ := Aside0.mk (blk_below X1.out hb); clear HB X1; have HB := n0_; have X1 := n1_; clear n0_ n1_; have X2 := Aside0.mk hbox; clear hbox hb hg; clear h0 zh0 h1 zh1 h2 zh2 h3 zh3 h4 zh4; have h0 := (blk_cell X1.out 0).trans rfl; have h1 := (blk_cell X1.out 1).trans rfl; have h2 := (blk_cell X1.out 2).trans rfl; have h3 := (blk_cell X1.out 3).trans rfl; have h4 := (blk_cell X1.out 4).trans rfl; have zh0 := blk_frozen X1.out 0; have zh1 := blk_frozen X1.out 1; have zh2 := blk_frozen X1.out 2; have zh3 := blk_frozen X1.out 3; have zh4 := blk_frozen X1.out 4; have k0 := (blk_cell X2.out 0).trans rfl; have k1 := (blk_cell X2.out 1).trans rfl; have k2 := (blk_cell X2.out 2).trans rfl; have k3 := (blk_cell X2.out 3).trans rfl; have k4 := (blk_cell X2.out 4).trans rfl; have k5 := (blk_cell X2.out 5).trans rfl; have k6 := (blk_cell X2.out 6).trans rfl) | ((with_reducible refine gate_dst (N := 4) rfl ?_); refine box_event ?hg (N := 4) ?hd (cs := #[.int .i64 0, .int .i64 0, .int .i64 0, .slice none 0 0, .int .u16 0]) (t := 55) ?hr ?_; (case hd => rfl); (case hg => rfl); (case hr => first | (go_simp; done) | (go_simp; rfl)); intro g4 hg w4 hbox hb; have HLX4 := Aside0.mk (show w.heap.size ≤ g4 by rw [hg]; exact HB.out.size); have HNE := Aside0.mk (show g4 ≠ g1 by rw [hg]; exact Nat.ne_of_gt (blk_lt X1.out)); have n0_ := Aside0.mk (below_step HB.out hb); have n1_ := Aside0.mk (blk_below X1.out hb); have n2_ := Aside0.mk (blk_below X2.out hb); clear HB X1 X2; have HB := n0_; have X1 := n1_; have X2 := n2_; clear n0_ n1_ n2_; have X4 := Aside0.mk hbox; clear hbox hb hg; have r0 := (blk_cell X4.out 0).trans rfl; have r1 := (blk_cell X4.out 1).trans rfl; have r2 := (blk_cell X4.out 2).trans rfl; have r3 := (blk_cell X4.out 3).trans rfl; have r4 := (blk_cell X4.out 4).trans rfl; have zr0 := blk_frozen X4.out 0; have zr1 := blk_frozen X4.out 1; have zr2 := blk_frozen X4.out 2; have zr3 := blk_frozen X4.out 3; have zr4 := blk_frozen X4.out 4; clear h0 zh0 h1 zh1 h2 zh2 h3 zh3 h4 zh4; clear k0 k1 k2 k3 k4 k5 k6; have h0 := (blk_cell X1.out 0).trans rfl; have h1 := (blk_cell X1.out 1).trans rfl; have h2 := (blk_cell X1.out 2).trans rfl; have h3 := (blk_cell X1.out 3).trans rfl; have h4 := (blk_cell X1.out 4).trans rfl; have zh0 := blk_frozen X1.out 0; have zh1 := blk_frozen X1.out 1; have zh2 := blk_frozen X1.out 2; have zh3 := blk_frozen X1.out 3; have zh4 := blk_frozen X1.out 4; have k0 := (blk_cell X2.out 0).trans rfl; have k1 := (blk_cell X2.out 1).trans rfl; have k2 := (blk_cell X2.out 2).trans rfl; have k3 := (blk_cell X2.out 3).trans rfl; have k4 := (blk_cell X2.out 4).trans rfl; have k5 := (blk_cell X2.out 5).trans rfl; have k6 := (blk_cell X2.out 6).trans rfl) | (go_at_call 72; (with_reducible refine (davitref05_there.calls F_ Bl At A3 c3 l Fly _ _ _ (Kd.C_below HL.out HB.out) HC3.out (there_f F_ Bl At l Fly _)).mono ?_); rintro e w6 ⟨he, hb⟩; (first | rw [hD] at he | rw [hA] at he | rw [hBB] at he); subst he; clear h0 zh0 h1 zh1 h2 zh2 h3 zh3 h4 zh4; clear k0 k1 k2 k3 k4 k5 k6; clear r0 zr0 r1 zr1 r2 zr2 r3 zr3 r4 zr4; have n0_ := Aside0.mk (below_step HB.out hb); have n1_ := Aside0.mk (blk_below X1.out hb); have n2_ := Aside0.mk (blk_below X2.out hb); have n3_ := Aside0.mk (blk_below X4.out hb); clear HB X1 X2 X4; have HB := n0_; have X1 := n1_; have X2 := n2_; have X4 := n3_; clear n0_ n1_ n2_ n3_; clear hb; have h0 := (blk_cell X1.out 0).trans rfl; have h1 := (blk_cell X1.out 1).trans rfl; have h2 := (blk_cell X1.out 2).trans rfl; have h3 := (blk_cell X1.out 3).trans rfl; have h4 := (blk_cell X1.out 4).trans rfl; have zh0 := blk_frozen X1.out 0; have zh1 := blk_frozen X1.out 1; have zh2 := blk_frozen X1.out 2; have zh3 := blk_frozen X1.out 3; have zh4 := blk_frozen X1.out 4; have k0 := (blk_cell X2.out 0).trans rfl; have k1 := (blk_cell X2.out 1).trans rfl; have k2 := (blk_cell X2.out 2).trans rfl; have k3 := (blk_cell X2.out 3).trans rfl; have k4 := (blk_cell X2.out 4).trans rfl; have k5 := (blk_cell X2.out 5).trans rfl; have k6 := (blk_cell X2.out 6).trans rfl; have r0 := (blk_cell X4.out 0).trans rfl; have r1 := (blk_cell X4.out 1).trans rfl; have r2 := (blk_cell X4.out 2).trans rfl; have r3 := (blk_cell X4.out 3).trans rfl; have r4 := (blk_cell X4.out 4).trans rfl; have zr0 := blk_frozen X4.out 0; have zr1 := blk_frozen X4.out 1; have zr2 := blk_frozen X4.out 2; have zr3 := blk_frozen X4.out 3; have zr4 := blk_frozen X4.out 4))
   have HRK := Aside0.mk (rk_no At HZ.out)
   refine bodyPost_ret (results_ct rfl _ _ g4 55 #[.int .i64 F_, .int .i64 Bl, .int .i64 At, .slice A3 l.length c3, .int .u16 Fly] (0, 0) _ rfl (set_blk _ _ (set_blk _ _ (set_blk _ _ (set_blk _ _ (set_blk _ _ (X4.out) rfl) rfl) rfl) rfl) rfl) Try.underlying55 rfl (by kernel_rfl)) rfl ?_
   exact ⟨⟨A3, c3, by rw [HRK.out.2, HZ.out]; rfl, HC3.out, by rw [HRK.out.1]; exact Kd.C_below HL.out (below_set (below_set (below_set (below_set (below_set (HB.out) HLX4.out) HLX4.out) HLX4.out) HLX4.out) HLX4.out)⟩, below_set (below_set (below_set (below_set (below_set (HB.out) HLX4.out) HLX4.out) HLX4.out) HLX4.out) HLX4.out⟩
  have d1 : decide (x.f0 < 1) = false := decide_eq_false (q1)
  by_cases q2 : 8 < x.f0
  ·have HQ := Aside0.mk q2
   have d2 : decide (8 < x.f0) = true := decide_eq_true (q2)
   clear q1 q2
   have HZ := Aside0.mk (show rkB l x.f0 x.f1 x.f2 x.f3 x.f4 = false by unfold rkB; rw [ans_out l x.f0 x.f2 x.f3 x.f4 (.inr HQ.out)]; rfl)
   go_enter Try.func30, Try.ntmps30
   go_wp2_with (first | ((with_reducible refine gate_dst (N := 2) rfl ?_); refine box_event ?hg (N := 2) ?hd (cs := #[.int .i64 F_, .int .i64 Bl, .int .i64 At, .slice A3 l.length c3, .int .u16 Fly]) (t := 55) ?hr ?_; (case hd => rfl); (case hg => rfl); (case hr => first | (go_simp; done) | (go_simp; rfl)); intro g1 hg w1 hbox hb; have HLX1 := Aside0.mk (show w.heap.size ≤ g1 by rw [hg]; exact Nat.le_refl _); have HB := Aside0.mk hb; have X1 := Aside0.mk hbox; clear hbox hb hg; have h0 := (blk_cell X1.out 0).trans rfl; have h1 := (blk_cell X1.out 1).trans rfl; have h2 := (blk_cell X1.out 2).trans rfl; have h3 := (blk_cell X1.out 3).trans rfl; have h4 := (blk_cell X1.out 4).trans rfl; have zh0 := blk_frozen X1.out 0; have zh1 := blk_frozen X1.out 1; have zh2 := blk_frozen X1.out 2; have zh3 := blk_frozen X1.out 3; have zh4 := blk_frozen X1.out 4) | ((with_reducible refine gate_dst (N := 3) rfl ?_); refine box_event ?hg (N := 3) ?hd (cs := #[.int .i64 x.f0, .int .i64 x.f1, .int .i64 x.f2, .int .i64 x.f3, .int .u16 x.f4, .int .i64 x.f5, .slice A6 x.f6.length c6]) (t := 49) ?hr ?_; (case hd => rfl); (case hg => rfl); (case hr => first | (go_simp; done) | (go_simp; rfl)); intro g2 hg w2 hbox hb; have n0_ := Aside0.mk (below_step HB.out hb); have n1_ := Aside0.mk (blk_below X1.out hb); clear HB X1; have HB := n0_; have X1 := n1_; clear n0_ n1_; have X2 := Aside0.mk hbox; clear hbox hb hg; clear h0 zh0 h1 zh1 h2 zh2 h3 zh3 h4 zh4; have h0 := (blk_cell X1.out 0).trans rfl; have h1 := (blk_cell X1.out 1).trans rfl; have h2 := (blk_cell X1.out 2).trans rfl; have h3 := (blk_cell X1.out 3).trans rfl; have h4 := (blk_cell X1.out 4).trans rfl; have zh0 := blk_frozen X1.out 0; have zh1 := blk_frozen X1.out 1; have zh2 := blk_frozen X1.out 2; have zh3 := blk_frozen X1.out 3; have zh4 := blk_frozen X1.out 4; have k0 := (blk_cell X2.out 0).trans rfl; have k1 := (blk_cell X2.out 1).trans rfl; have k2 := (blk_cell X2.out 2).trans rfl; have k3 := (blk_cell X2.out 3).trans rfl; have k4 := (blk_cell X2.out 4).trans rfl; have k5 := (blk_cell X2.out 5).trans rfl; have k6 := (blk_cell X2.out 6).trans rfl) | ((with_reducible refine gate_dst (N := 4) rfl ?_); refine box_event ?hg (N := 4) ?hd (cs := #[.int .i64 0, .int .i64 0, .int .i64 0, .slice none 0 0, .int .u16 0]) (t := 55) ?hr ?_; (case hd => rfl); (case hg => rfl); (case hr => first | (go_simp; done) | (go_simp; rfl)); intro g4 hg w4 hbox hb; have HLX4 := Aside0.mk (show w.heap.size ≤ g4 by rw [hg]; exact HB.out.size); have HNE := Aside0.mk (show g4 ≠ g1 by rw [hg]; exact Nat.ne_of_gt (blk_lt X1.out)); have n0_ := Aside0.mk (below_step HB.out hb); have n1_ := Aside0.mk (blk_below X1.out hb); have n2_ := Aside0.mk (blk_below X2.out hb); clear HB X1 X2; have HB := n0_; have X1 := n1_; have X2 := n2_; clear n0_ n1_ n2_; have X4 := Aside0.mk hbox; clear hbox hb hg; have r0 := (blk_cell X4.out 0).trans rfl; have r1 := (blk_cell X4.out 1).trans rfl; have r2 := (blk_cell X4.out 2).trans rfl; have r3 := (blk_cell X4.out 3).trans rfl; have r4 := (blk_cell X4.out 4).trans rfl; have zr0 := blk_frozen X4.out 0; have zr1 := blk_frozen X4.out 1; have zr2 := blk_frozen X4.out 2; have zr3 := blk_frozen X4.out 3; have zr4 := blk_frozen X4.out 4; clear h0 zh0 h1 zh1 h2 zh2 h3 zh3 h4 zh4; clear k0 k1 k2 k3 k4 k5 k6; have h0 := (blk_cell X1.out 0).trans rfl; have h1 := (blk_cell X1.out 1).trans rfl; have h2 := (blk_cell X1.out 2).trans rfl; have h3 := (blk_cell X1.out 3).trans rfl; have h4 := (blk_cell X1.out 4).trans rfl; have zh0 := blk_frozen X1.out 0; have zh1 := blk_frozen X1.out 1; have zh2 := blk_frozen X1.out 2; have zh3 := blk_frozen X1.out 3; have zh4 := blk_frozen X1.out 4; have k0 := (blk_cell X2.out 0).trans rfl; have k1 := (blk_cell X2.out 1).trans rfl; have k2 := (blk_cell X2.out 2).trans rfl; have k3 := (blk_cell X2.out 3).trans rfl; have k4 := (blk_cell X2.out 4).trans rfl; have k5 := (blk_cell X2.out 5).trans rfl; have k6 := (blk_cell X2.out 6).trans rfl) | (go_at_call 72; (with_reducible refine (davitref05_there.calls F_ Bl At A3 c3 l Fly _ _ _ (Kd.C_below HL.out HB.out) HC3.out (there_f F_ Bl At l Fly _)).mono ?_); rintro e w6 ⟨he, hb⟩; (first | rw [hD] at he | rw [hA] at he | rw [hBB] at he); subst he; clear h0 zh0 h1 zh1 h2 zh2 h3 zh3 h4 zh4; clear k0 k1 k2 k3 k4 k5 k6; clear r0 zr0 r1 zr1 r2 zr2 r3 zr3 r4 zr4; have n0_ := Aside0.mk (below_step HB.out hb); have n1_ := Aside0.mk (blk_below X1.out hb); have n2_ := Aside0.mk (blk_below X2.out hb); have n3_ := Aside0.mk (blk_below X4.out hb); clear HB X1 X2 X4; have HB := n0_; have X1 := n1_; have X2 := n2_; have X4 := n3_; clear n0_ n1_ n2_ n3_; clear hb; have h0 := (blk_cell X1.out 0).trans rfl; have h1 := (blk_cell X1.out 1).trans rfl; have h2 := (blk_cell X1.out 2).trans rfl; have h3 := (blk_cell X1.out 3).trans rfl; have h4 := (blk_cell X1.out 4).trans rfl; have zh0 := blk_frozen X1.out 0; have zh1 := blk_frozen X1.out 1; have zh2 := blk_frozen X1.out 2; have zh3 := blk_frozen X1.out 3; have zh4 := blk_frozen X1.out 4; have k0 := (blk_cell X2.out 0).trans rfl; have k1 := (blk_cell X2.out 1).trans rfl; have k2 := (blk_cell X2.out 2).trans rfl; have k3 := (blk_cell X2.out 3).trans rfl; have k4 := (blk_cell X2.out 4).trans rfl; have k5 := (blk_cell X2.out 5).trans rfl; have k6 := (blk_cell X2.out 6).trans rfl; have r0 := (blk_cell X4.out 0).trans rfl; have r1 := (blk_cell X4.out 1).trans rfl; have r2 := (blk_cell X4.out 2).trans rfl; have r3 := (blk_cell X4.out 3).trans rfl; have r4 := (blk_cell X4.out 4).trans rfl; have zr0 := blk_frozen X4.out 0; have zr1 := blk_frozen X4.out 1; have zr2 := blk_frozen X4.out 2; have zr3 := blk_frozen X4.out 3; have zr4 := blk_frozen X4.out 4))
   have HRK := Aside0.mk (rk_no At HZ.out)
   refine bodyPost_ret (results_ct rfl _ _ g4 55 #[.int .i64 F_, .int .i64 Bl, .int .i64 At, .slice A3 l.length c3, .int .u16 Fly] (0, 0) _ rfl (set_blk _ _ (set_blk _ _ (set_blk _ _ (set_blk _ _ (set_blk _ _ (X4.out) rfl) rfl) rfl) rfl) rfl) Try.underlying55 rfl (by kernel_rfl)) rfl ?_
   exact ⟨⟨A3, c3, by rw [HRK.out.2, HZ.out]; rfl, HC3.out, by rw [HRK.out.1]; exact Kd.C_below HL.out (below_set (below_set (below_set (below_set (below_set (HB.out) HLX4.out) HLX4.out) HLX4.out) HLX4.out) HLX4.out)⟩, below_set (below_set (below_set (below_set (below_set (HB.out) HLX4.out) HLX4.out) HLX4.out) HLX4.out) HLX4.out⟩
  have d2 : decide (8 < x.f0) = false := decide_eq_false (q2)
  have HQ := Aside0.mk (show 1 ≤ x.f0 ∧ x.f0 ≤ 8 by omega)
  by_cases q3 : 1 < x.f0
  rotate_left
  ·have d3 : decide (1 < x.f0) = false := decide_eq_false (q3)
   obtain e1 : x.f0 = 1 := by omega
   have hans : ansW l x.f0 x.f2 x.f3 x.f4 = (x.f4, true) := by unfold ansW; rw [if_pos e1]
   have HY := Aside0.mk (show rkB l x.f0 x.f1 x.f2 x.f3 x.f4 = true by unfold rkB; rw [hans, hD]; rfl)
   have HV := Aside0.mk (show (ansW l x.f0 x.f2 x.f3 x.f4).1 = x.f4 by rw [hans])
   clear q1 q2 q3 e1 hans
   go_enter Try.func30, Try.ntmps30
   go_upto_region 3 with (first | ((with_reducible refine gate_dst (N := 2) rfl ?_); refine box_event ?hg (N := 2) ?hd (cs := #[.int .i64 F_, .int .i64 Bl, .int .i64 At, .slice A3 l.length c3, .int .u16 Fly]) (t := 55) ?hr ?_; (case hd => rfl); (case hg => rfl); (case hr => first | (go_simp; done) | (go_simp; rfl)); intro g1 hg w1 hbox hb; have HLX1 := Aside0.mk (show w.heap.size ≤ g1 by rw [hg]; exact Nat.le_refl _); have HB := Aside0.mk hb; have X1 := Aside0.mk hbox; clear hbox hb hg; have h0 := (blk_cell X1.out 0).trans rfl; have h1 := (blk_cell X1.out 1).trans rfl; have h2 := (blk_cell X1.out 2).trans rfl; have h3 := (blk_cell X1.out 3).trans rfl; have h4 := (blk_cell X1.out 4).trans rfl; have zh0 := blk_frozen X1.out 0; have zh1 := blk_frozen X1.out 1; have zh2 := blk_frozen X1.out 2; have zh3 := blk_frozen X1.out 3; have zh4 := blk_frozen X1.out 4) | ((with_reducible refine gate_dst (N := 3) rfl ?_); refine box_event ?hg (N := 3) ?hd (cs := #[.int .i64 x.f0, .int .i64 x.f1, .int .i64 x.f2, .int .i64 x.f3, .int .u16 x.f4, .int .i64 x.f5, .slice A6 x.f6.length c6]) (t := 49) ?hr ?_; (case hd => rfl); (case hg => rfl); (case hr => first | (go_simp; done) | (go_simp; rfl)); intro g2 hg w2 hbox hb; have n0_ := Aside0.mk (below_step HB.out hb); have n1_ := Aside0.mk (blk_below X1.out hb); clear HB X1; have HB := n0_; have X1 := n1_; clear n0_ n1_; have X2 := Aside0.mk hbox; clear hbox hb hg; clear h0 zh0 h1 zh1 h2 zh2 h3 zh3 h4 zh4; have h0 := (blk_cell X1.out 0).trans rfl; have h1 := (blk_cell X1.out 1).trans rfl; have h2 := (blk_cell X1.out 2).trans rfl; have h3 := (blk_cell X1.out 3).trans rfl; have h4 := (blk_cell X1.out 4).trans rfl; have zh0 := blk_frozen X1.out 0; have zh1 := blk_frozen X1.out 1; have zh2 := blk_frozen X1.out 2; have zh3 := blk_frozen X1.out 3; have zh4 := blk_frozen X1.out 4; have k0 := (blk_cell X2.out 0).trans rfl; have k1 := (blk_cell X2.out 1).trans rfl; have k2 := (blk_cell X2.out 2).trans rfl; have k3 := (blk_cell X2.out 3).trans rfl; have k4 := (blk_cell X2.out 4).trans rfl; have k5 := (blk_cell X2.out 5).trans rfl; have k6 := (blk_cell X2.out 6).trans rfl) | ((with_reducible refine gate_dst (N := 4) rfl ?_); refine box_event ?hg (N := 4) ?hd (cs := #[.int .i64 0, .int .i64 0, .int .i64 0, .slice none 0 0, .int .u16 0]) (t := 55) ?hr ?_; (case hd => rfl); (case hg => rfl); (case hr => first | (go_simp; done) | (go_simp; rfl)); intro g4 hg w4 hbox hb; have HLX4 := Aside0.mk (show w.heap.size ≤ g4 by rw [hg]; exact HB.out.size); have HNE := Aside0.mk (show g4 ≠ g1 by rw [hg]; exact Nat.ne_of_gt (blk_lt X1.out)); have n0_ := Aside0.mk (below_step HB.out hb); have n1_ := Aside0.mk (blk_below X1.out hb); have n2_ := Aside0.mk (blk_below X2.out hb); clear HB X1 X2; have HB := n0_; have X1 := n1_; have X2 := n2_; clear n0_ n1_ n2_; have X4 := Aside0.mk hbox; clear hbox hb hg; have r0 := (blk_cell X4.out 0).trans rfl; have r1 := (blk_cell X4.out 1).trans rfl; have r2 := (blk_cell X4.out 2).trans rfl; have r3 := (blk_cell X4.out 3).trans rfl; have r4 := (blk_cell X4.out 4).trans rfl; have zr0 := blk_frozen X4.out 0; have zr1 := blk_frozen X4.out 1; have zr2 := blk_frozen X4.out 2; have zr3 := blk_frozen X4.out 3; have zr4 := blk_frozen X4.out 4; clear h0 zh0 h1 zh1 h2 zh2 h3 zh3 h4 zh4; clear k0 k1 k2 k3 k4 k5 k6; have h0 := (blk_cell X1.out 0).trans rfl; have h1 := (blk_cell X1.out 1).trans rfl; have h2 := (blk_cell X1.out 2).trans rfl; have h3 := (blk_cell X1.out 3).trans rfl; have h4 := (blk_cell X1.out 4).trans rfl; have zh0 := blk_frozen X1.out 0; have zh1 := blk_frozen X1.out 1; have zh2 := blk_frozen X1.out 2; have zh3 := blk_frozen X1.out 3; have zh4 := blk_frozen X1.out 4; have k0 := (blk_cell X2.out 0).trans rfl; have k1 := (blk_cell X2.out 1).trans rfl; have k2 := (blk_cell X2.out 2).trans rfl; have k3 := (blk_cell X2.out 3).trans rfl; have k4 := (blk_cell X2.out 4).trans rfl; have k5 := (blk_cell X2.out 5).trans rfl; have k6 := (blk_cell X2.out 6).trans rfl) | (go_at_call 72; (with_reducible refine (davitref05_there.calls F_ Bl At A3 c3 l Fly _ _ _ (Kd.C_below HL.out HB.out) HC3.out (there_f F_ Bl At l Fly _)).mono ?_); rintro e w6 ⟨he, hb⟩; (first | rw [hD] at he | rw [hA] at he | rw [hBB] at he); subst he; clear h0 zh0 h1 zh1 h2 zh2 h3 zh3 h4 zh4; clear k0 k1 k2 k3 k4 k5 k6; clear r0 zr0 r1 zr1 r2 zr2 r3 zr3 r4 zr4; have n0_ := Aside0.mk (below_step HB.out hb); have n1_ := Aside0.mk (blk_below X1.out hb); have n2_ := Aside0.mk (blk_below X2.out hb); have n3_ := Aside0.mk (blk_below X4.out hb); clear HB X1 X2 X4; have HB := n0_; have X1 := n1_; have X2 := n2_; have X4 := n3_; clear n0_ n1_ n2_ n3_; clear hb; have h0 := (blk_cell X1.out 0).trans rfl; have h1 := (blk_cell X1.out 1).trans rfl; have h2 := (blk_cell X1.out 2).trans rfl; have h3 := (blk_cell X1.out 3).trans rfl; have h4 := (blk_cell X1.out 4).trans rfl; have zh0 := blk_frozen X1.out 0; have zh1 := blk_frozen X1.out 1; have zh2 := blk_frozen X1.out 2; have zh3 := blk_frozen X1.out 3; have zh4 := blk_frozen X1.out 4; have k0 := (blk_cell X2.out 0).trans rfl; have k1 := (blk_cell X2.out 1).trans rfl; have k2 := (blk_cell X2.out 2).trans rfl; have k3 := (blk_cell X2.out 3).trans rfl; have k4 := (blk_cell X2.out 4).trans rfl; have k5 := (blk_cell X2.out 5).trans rfl; have k6 := (blk_cell X2.out 6).trans rfl; have r0 := (blk_cell X4.out 0).trans rfl; have r1 := (blk_cell X4.out 1).trans rfl; have r2 := (blk_cell X4.out 2).trans rfl; have r3 := (blk_cell X4.out 3).trans rfl; have r4 := (blk_cell X4.out 4).trans rfl; have zr0 := blk_frozen X4.out 0; have zr1 := blk_frozen X4.out 1; have zr2 := blk_frozen X4.out 2; have zr3 := blk_frozen X4.out 3; have zr4 := blk_frozen X4.out 4))
   go_cut [6] (fun v6 wc => v6 = .int .u16 (ansW l x.f0 x.f2 x.f3 x.f4).1 ∧ Aside0 (Below w.heap.size w wc) ∧ Aside0 (wc.heap[g1]? = some (.cells #[.int .i64 F_, .int .i64 Bl, .int .i64 At, .slice A3 l.length c3, .int .u16 Fly] 55 (0, 0))) ∧ Aside0 (wc.heap[g2]? = some (.cells #[.int .i64 x.f0, .int .i64 x.f1, .int .i64 x.f2, .int .i64 x.f3, .int .u16 x.f4, .int .i64 x.f5, .slice A6 x.f6.length c6] 49 (0, 0))) ∧ Aside0 (wc.heap[g4]? = some (.cells #[.int .i64 0, .int .i64 0, .int .i64 0, .slice none 0 0, .int .u16 0] 55 (0, 0))))
   case first => go_wp2; go_meet; exact ⟨by rw [HV.out], HB, X1, X2, X4⟩
   case rest =>
    clear h0 zh0 h1 zh1 h2 zh2 h3 zh3 h4 zh4; clear k0 k1 k2 k3 k4 k5 k6; clear r0 zr0 r1 zr1 r2 zr2 r3 zr3 r4 zr4; clear HB X1 X2 X4
    obtain ⟨rfl, HB, X1, X2, X4⟩ := hcut
    have h0 := (blk_cell X1.out 0).trans rfl
    have h1 := (blk_cell X1.out 1).trans rfl
    have h2 := (blk_cell X1.out 2).trans rfl
    have h3 := (blk_cell X1.out 3).trans rfl
    have h4 := (blk_cell X1.out 4).trans rfl
    have zh0 := blk_frozen X1.out 0
    have zh1 := blk_frozen X1.out 1
    have zh2 := blk_frozen X1.out 2
    have zh3 := blk_frozen X1.out 3
    have zh4 := blk_frozen X1.out 4
    have k0 := (blk_cell X2.out 0).trans rfl
    have k1 := (blk_cell X2.out 1).trans rfl
    have k2 := (blk_cell X2.out 2).trans rfl
    have k3 := (blk_cell X2.out 3).trans rfl
    have k4 := (blk_cell X2.out 4).trans rfl
    have k5 := (blk_cell X2.out 5).trans rfl
    have k6 := (blk_cell X2.out 6).trans rfl
    have r0 := (blk_cell X4.out 0).trans rfl
    have r1 := (blk_cell X4.out 1).trans rfl
    have r2 := (blk_cell X4.out 2).trans rfl
    have r3 := (blk_cell X4.out 3).trans rfl
    have r4 := (blk_cell X4.out 4).trans rfl
    have zr0 := blk_frozen X4.out 0
    have zr1 := blk_frozen X4.out 1
    have zr2 := blk_frozen X4.out 2
    have zr3 := blk_frozen X4.out 3
    have zr4 := blk_frozen X4.out 4
    have HRKL := Aside0.mk (rk_yes At HY.out)
    go_upto_region 14 with (fail)
    go_cut [] (fun wc => ∃ Ao co, Aside0 (Below w.heap.size w wc) ∧ Aside0 (wc.heap[g1]? = some (.cells #[.int .i64 F_, .int .i64 Bl, .int .i64 At, .slice Ao l.length co, .int .u16 Fly] 55 (0, 0))) ∧ Aside0 (wc.heap[g4]? = some (.cells #[.int .i64 0, .int .i64 0, .int .i64 0, .slice none 0 0, .int .u16 0] 55 (0, 0))) ∧ Aside0 (l.length ≤ co) ∧ Aside0 (Kd.R (Kd.int .u16) 44 wc w.heap.size (fun _ => True) (.slice Ao l.length co) (rkL l x.f0 x.f1 x.f2 x.f3 x.f4)))
    case first =>
     go_wp2_with (go_at_call 74; go_loud ((with_reducible refine (with_r F_ Bl At A3 c3 l Fly x.f1 (ansW l x.f0 x.f2 x.f3 x.f4).1 _ (Kd.C_below HL.out HB.out) HC3.out hD (by have := HN.out; omega)).mono ?_); rintro e w6 ⟨⟨Ao, co, rfl, hlo, hr⟩, hb⟩; have HLO := Aside0.mk hlo; have HR := Aside0.mk (Kd.R_lower hr HB.out.size); clear h0 zh0 h1 zh1 h2 zh2 h3 zh3 h4 zh4; clear k0 k1 k2 k3 k4 k5 k6; clear r0 zr0 r1 zr1 r2 zr2 r3 zr3 r4 zr4; have n0_ := Aside0.mk (below_step HB.out hb); have n1_ := Aside0.mk (blk_below X1.out hb); have n2_ := Aside0.mk (blk_below X2.out hb); have n3_ := Aside0.mk (blk_below X4.out hb); clear HB X1 X2 X4; have HB := n0_; have X1 := n1_; have X2 := n2_; have X4 := n3_; clear n0_ n1_ n2_ n3_; clear hlo hr hb; have h0 := (blk_cell X1.out 0).trans rfl; have h1 := (blk_cell X1.out 1).trans rfl; have h2 := (blk_cell X1.out 2).trans rfl; have h3 := (blk_cell X1.out 3).trans rfl; have h4 := (blk_cell X1.out 4).trans rfl; have zh0 := blk_frozen X1.out 0; have zh1 := blk_frozen X1.out 1; have zh2 := blk_frozen X1.out 2; have zh3 := blk_frozen X1.out 3; have zh4 := blk_frozen X1.out 4; have k0 := (blk_cell X2.out 0).trans rfl; have k1 := (blk_cell X2.out 1).trans rfl; have k2 := (blk_cell X2.out 2).trans rfl; have k3 := (blk_cell X2.out 3).trans rfl; have k4 := (blk_cell X2.out 4).trans rfl; have k5 := (blk_cell X2.out 5).trans rfl; have k6 := (blk_cell X2.out 6).trans rfl; have r0 := (blk_cell X4.out 0).trans rfl; have r1 := (blk_cell X4.out 1).trans rfl; have r2 := (blk_cell X4.out 2).trans rfl; have r3 := (blk_cell X4.out 3).trans rfl; have r4 := (blk_cell X4.out 4).trans rfl; have zr0 := blk_frozen X4.out 0; have zr1 := blk_frozen X4.out 1; have zr2 := blk_frozen X4.out 2; have zr3 := blk_frozen X4.out 3; have zr4 := blk_frozen X4.out 4))
     go_meet
     exact ⟨Ao, co, ⟨below_set (below_set (below_set (below_set (below_set (HB.out) HLX1.out) HLX1.out) HLX1.out) HLX1.out) HLX1.out⟩, ⟨set_blk _ _ (set_blk _ _ (set_blk _ _ (set_blk _ _ (set_blk _ _ (X1.out) rfl) rfl) rfl) rfl) rfl⟩, ⟨(blk_far (blk_far (blk_far (blk_far (blk_far X4.out (p := ⟨g1, 0, none⟩) HNE.out _) (p := ⟨g1, 1, none⟩) HNE.out _) (p := ⟨g1, 2, none⟩) HNE.out _) (p := ⟨g1, 3, none⟩) HNE.out _) (p := ⟨g1, 4, none⟩) HNE.out _)⟩, HLO, ⟨by rw [HRKL.out.2.2.1]; exact (Kd.R_mono (Kd.R_far (p := ⟨g1, 4, none⟩) (Kd.R_far (p := ⟨g1, 3, none⟩) (Kd.R_far (p := ⟨g1, 2, none⟩) (Kd.R_far (p := ⟨g1, 1, none⟩) (Kd.R_far (p := ⟨g1, 0, none⟩) (C_farg HR.out X1.out) (fun _ hk => hk.2) _) (fun _ hk => hk.2) _) (fun _ hk => hk.2) _) (fun _ hk => hk.2) _) (fun _ hk => hk.2) _) (fun _ _ => trivial))⟩⟩
    case rest =>
     clear h0 zh0 h1 zh1 h2 zh2 h3 zh3 h4 zh4; clear k0 k1 k2 k3 k4 k5 k6; clear r0 zr0 r1 zr1 r2 zr2 r3 zr3 r4 zr4; clear HB X1 X2 X4
     obtain ⟨Ao, co, HB, X1, X4, HLO, HR⟩ := hcut
     have h0 := (blk_cell X1.out 0).trans rfl
     have h1 := (blk_cell X1.out 1).trans rfl
     have h2 := (blk_cell X1.out 2).trans rfl
     have h3 := (blk_cell X1.out 3).trans rfl
     have h4 := (blk_cell X1.out 4).trans rfl
     have zh0 := blk_frozen X1.out 0
     have zh1 := blk_frozen X1.out 1
     have zh2 := blk_frozen X1.out 2
     have zh3 := blk_frozen X1.out 3
     have zh4 := blk_frozen X1.out 4
     have r0 := (blk_cell X4.out 0).trans rfl
     have r1 := (blk_cell X4.out 1).trans rfl
     have r2 := (blk_cell X4.out 2).trans rfl
     have r3 := (blk_cell X4.out 3).trans rfl
     have r4 := (blk_cell X4.out 4).trans rfl
     have zr0 := blk_frozen X4.out 0
     have zr1 := blk_frozen X4.out 1
     have zr2 := blk_frozen X4.out 2
     have zr3 := blk_frozen X4.out 3
     have zr4 := blk_frozen X4.out 4
     have hne1 := HNE.out
     have hne2 := HNE.out.symm
     go_wp2
     refine bodyPost_ret (results_ct rfl _ _ g4 55 #[.int .i64 F_, .int .i64 Bl, .int .i64 (wrap64 (At + 1)), .slice Ao l.length co, .int .u16 Fly] (0, 0) _ rfl ((set_blk _ _ (set_blk _ _ (set_blk _ _ (set_blk _ _ (set_blk _ _ ((blk_far X4.out (p := ⟨g1, 2, none⟩) HNE.out _)) rfl) rfl) rfl) rfl) rfl)) Try.underlying55 rfl (by kernel_rfl)) rfl ?_
     exact ⟨⟨Ao, co, by rw [HRKL.out.2.2.2, HY.out]; rfl, HLO.out, rkC (Kd.R_mono (Kd.R_far (p := ⟨g4, 4, none⟩) (Kd.R_far (p := ⟨g4, 3, none⟩) (Kd.R_far (p := ⟨g4, 2, none⟩) (Kd.R_far (p := ⟨g4, 1, none⟩) (Kd.R_far (p := ⟨g4, 0, none⟩) (C_farg (Kd.R_mono (Kd.R_far (p := ⟨g1, 2, none⟩) (C_farg HR.out X1.out) (fun _ hk => hk.2) _) (fun _ _ => trivial)) (blk_far X4.out (p := ⟨g1, 2, none⟩) HNE.out _)) (fun _ hk => hk.2) _) (fun _ hk => hk.2) _) (fun _ hk => hk.2) _) (fun _ hk => hk.2) _) (fun _ hk => hk.2) _) (fun _ _ => trivial))⟩, below_set (below_set (below_set (below_set (below_set (below_set (HB.out) HLX1.out) HLX4.out) HLX4.out) HLX4.out) HLX4.out) HLX4.out⟩
  have d3 : decide (1 < x.f0) = true := decide_eq_true (q3)
  have HOP := Aside0.mk (show x.f0 ≠ 1 by omega)
  cases hA : win x.f2 l.length with
  | false =>
   clear q1 q2 q3
   have HZ := Aside0.mk (show rkB l x.f0 x.f1 x.f2 x.f3 x.f4 = false by unfold rkB; rw [ans_noA l HOP.out hA]; rfl)
   go_enter Try.func30, Try.ntmps30
   go_wp2_with (first | ((with_reducible refine gate_dst (N := 2) rfl ?_); refine box_event ?hg (N := 2) ?hd (cs := #[.int .i64 F_, .int .i64 Bl, .int .i64 At, .slice A3 l.length c3, .int .u16 Fly]) (t := 55) ?hr ?_; (case hd => rfl); (case hg => rfl); (case hr => first | (go_simp; done) | (go_simp; rfl)); intro g1 hg w1 hbox hb; have HLX1 := Aside0.mk (show w.heap.size ≤ g1 by rw [hg]; exact Nat.le_refl _); have HB := Aside0.mk hb; have X1 := Aside0.mk hbox; clear hbox hb hg; have h0 := (blk_cell X1.out 0).trans rfl; have h1 := (blk_cell X1.out 1).trans rfl; have h2 := (blk_cell X1.out 2).trans rfl; have h3 := (blk_cell X1.out 3).trans rfl; have h4 := (blk_cell X1.out 4).trans rfl; have zh0 := blk_frozen X1.out 0; have zh1 := blk_frozen X1.out 1; have zh2 := blk_frozen X1.out 2; have zh3 := blk_frozen X1.out 3; have zh4 := blk_frozen X1.out 4) | ((with_reducible refine gate_dst (N := 3) rfl ?_); refine box_event ?hg (N := 3) ?hd (cs := #[.int .i64 x.f0, .int .i64 x.f1, .int .i64 x.f2, .int .i64 x.f3, .int .u16 x.f4, .int .i64 x.f5, .slice A6 x.f6.length c6]) (t := 49) ?hr ?_; (case hd => rfl); (case hg => rfl); (case hr => first | (go_simp; done) | (go_simp; rfl)); intro g2 hg w2 hbox hb; have n0_ := Aside0.mk (below_step HB.out hb); have n1_ := Aside0.mk (blk_below X1.out hb); clear HB X1; have HB := n0_; have X1 := n1_; clear n0_ n1_; have X2 := Aside0.mk hbox; clear hbox hb hg; clear h0 zh0 h1 zh1 h2 zh2 h3 zh3 h4 zh4; have h0 := (blk_cell X1.out 0).trans rfl; have h1 := (blk_cell X1.out 1).trans rfl; have h2 := (blk_cell X1.out 2).trans rfl; have h3 := (blk_cell X1.out 3).trans rfl; have h4 := (blk_cell X1.out 4).trans rfl; have zh0 := blk_frozen X1.out 0; have zh1 := blk_frozen X1.out 1; have zh2 := blk_frozen X1.out 2; have zh3 := blk_frozen X1.out 3; have zh4 := blk_frozen X1.out 4; have k0 := (blk_cell X2.out 0).trans rfl; have k1 := (blk_cell X2.out 1).trans rfl; have k2 := (blk_cell X2.out 2).trans rfl; have k3 := (blk_cell X2.out 3).trans rfl; have k4 := (blk_cell X2.out 4).trans rfl; have k5 := (blk_cell X2.out 5).trans rfl; have k6 := (blk_cell X2.out 6).trans rfl) | ((with_reducible refine gate_dst (N := 4) rfl ?_); refine box_event ?hg (N := 4) ?hd (cs := #[.int .i64 0, .int .i64 0, .int .i64 0, .slice none 0 0, .int .u16 0]) (t := 55) ?hr ?_; (case hd => rfl); (case hg => rfl); (case hr => first | (go_simp; done) | (go_simp; rfl)); intro g4 hg w4 hbox hb; have HLX4 := Aside0.mk (show w.heap.size ≤ g4 by rw [hg]; exact HB.out.size); have HNE := Aside0.mk (show g4 ≠ g1 by rw [hg]; exact Nat.ne_of_gt (blk_lt X1.out)); have n0_ := Aside0.mk (below_step HB.out hb); have n1_ := Aside0.mk (blk_below X1.out hb); have n2_ := Aside0.mk (blk_below X2.out hb); clear HB X1 X2; have HB := n0_; have X1 := n1_; have X2 := n2_; clear n0_ n1_ n2_; have X4 := Aside0.mk hbox; clear hbox hb hg; have r0 := (blk_cell X4.out 0).trans rfl; have r1 := (blk_cell X4.out 1).trans rfl; have r2 := (blk_cell X4.out 2).trans rfl; have r3 := (blk_cell X4.out 3).trans rfl; have r4 := (blk_cell X4.out 4).trans rfl; have zr0 := blk_frozen X4.out 0; have zr1 := blk_frozen X4.out 1; have zr2 := blk_frozen X4.out 2; have zr3 := blk_frozen X4.out 3; have zr4 := blk_frozen X4.out 4; clear h0 zh0 h1 zh1 h2 zh2 h3 zh3 h4 zh4; clear k0 k1 k2 k3 k4 k5 k6; have h0 := (blk_cell X1.out 0).trans rfl; have h1 := (blk_cell X1.out 1).trans rfl; have h2 := (blk_cell X1.out 2).trans rfl; have h3 := (blk_cell X1.out 3).trans rfl; have h4 := (blk_cell X1.out 4).trans rfl; have zh0 := blk_frozen X1.out 0; have zh1 := blk_frozen X1.out 1; have zh2 := blk_frozen X1.out 2; have zh3 := blk_frozen X1.out 3; have zh4 := blk_frozen X1.out 4; have k0 := (blk_cell X2.out 0).trans rfl; have k1 := (blk_cell X2.out 1).trans rfl; have k2 := (blk_cell X2.out 2).trans rfl; have k3 := (blk_cell X2.out 3).trans rfl; have k4 := (blk_cell X2.out 4).trans rfl; have k5 := (blk_cell X2.out 5).trans rfl; have k6 := (blk_cell X2.out 6).trans rfl) | (go_at_call 72; (with_reducible refine (davitref05_there.calls F_ Bl At A3 c3 l Fly _ _ _ (Kd.C_below HL.out HB.out) HC3.out (there_f F_ Bl At l Fly _)).mono ?_); rintro e w6 ⟨he, hb⟩; (first | rw [hD] at he | rw [hA] at he | rw [hBB] at he); subst he; clear h0 zh0 h1 zh1 h2 zh2 h3 zh3 h4 zh4; clear k0 k1 k2 k3 k4 k5 k6; clear r0 zr0 r1 zr1 r2 zr2 r3 zr3 r4 zr4; have n0_ := Aside0.mk (below_step HB.out hb); have n1_ := Aside0.mk (blk_below X1.out hb); have n2_ := Aside0.mk (blk_below X2.out hb); have n3_ := Aside0.mk (blk_below X4.out hb); clear HB X1 X2 X4; have HB := n0_; have X1 := n1_; have X2 := n2_; have X4 := n3_; clear n0_ n1_ n2_ n3_; clear hb; have h0 := (blk_cell X1.out 0).trans rfl; have h1 := (blk_cell X1.out 1).trans rfl; have h2 := (blk_cell X1.out 2).trans rfl; have h3 := (blk_cell X1.out 3).trans rfl; have h4 := (blk_cell X1.out 4).trans rfl; have zh0 := blk_frozen X1.out 0; have zh1 := blk_frozen X1.out 1; have zh2 := blk_frozen X1.out 2; have zh3 := blk_frozen X1.out 3; have zh4 := blk_frozen X1.out 4; have k0 := (blk_cell X2.out 0).trans rfl; have k1 := (blk_cell X2.out 1).trans rfl; have k2 := (blk_cell X2.out 2).trans rfl; have k3 := (blk_cell X2.out 3).trans rfl; have k4 := (blk_cell X2.out 4).trans rfl; have k5 := (blk_cell X2.out 5).trans rfl; have k6 := (blk_cell X2.out 6).trans rfl; have r0 := (blk_cell X4.out 0).trans rfl; have r1 := (blk_cell X4.out 1).trans rfl; have r2 := (blk_cell X4.out 2).trans rfl; have r3 := (blk_cell X4.out 3).trans rfl; have r4 := (blk_cell X4.out 4).trans rfl; have zr0 := blk_frozen X4.out 0; have zr1 := blk_frozen X4.out 1; have zr2 := blk_frozen X4.out 2; have zr3 := blk_frozen X4.out 3; have zr4 := blk_frozen X4.out 4))
   have HRK := Aside0.mk (rk_no At HZ.out)
   refine bodyPost_ret (results_ct rfl _ _ g4 55 #[.int .i64 F_, .int .i64 Bl, .int .i64 At, .slice A3 l.length c3, .int .u16 Fly] (0, 0) _ rfl (set_blk _ _ (set_blk _ _ (set_blk _ _ (set_blk _ _ (set_blk _ _ (X4.out) rfl) rfl) rfl) rfl) rfl) Try.underlying55 rfl (by kernel_rfl)) rfl ?_
   exact ⟨⟨A3, c3, by rw [HRK.out.2, HZ.out]; rfl, HC3.out, by rw [HRK.out.1]; exact Kd.C_below HL.out (below_set (below_set (below_set (below_set (below_set (HB.out) HLX4.out) HLX4.out) HLX4.out) HLX4.out) HLX4.out)⟩, below_set (below_set (below_set (below_set (below_set (HB.out) HLX4.out) HLX4.out) HLX4.out) HLX4.out) HLX4.out⟩
  | true =>
   obtain ⟨ad, e1, hva⟩ := Kd.at_int HL.out x.f2 (win_at hA).1 (win_at hA).2
   subst e1
   have p1 : (0 ≤ x.f2) = True := eq_true (win_at hA).1
   have p2 : (x.f2 < (l.length : Int)) = True := eq_true (win_at hA).2
   have HWA := Aside0.mk (show W16 (rd l x.f2) from HW.out _ (rd_mem' l 0 x.f2 (win_at hA).1 (win_at hA).2))
   by_cases q4 : 2 < x.f0
   rotate_left
   ·have d4 : decide (2 < x.f0) = false := decide_eq_false (q4)
    have HV := Aside0.mk (ans_in2 l x.f3 x.f4 HOP.out hA q4)
    have HT := Aside0.mk (show (ansW l x.f0 x.f2 x.f3 x.f4).2 = true by rw [HV.out, show x.f0 = 2 by omega]; rfl)
    have HY := Aside0.mk (show rkB l x.f0 x.f1 x.f2 x.f3 x.f4 = true by unfold rkB; rw [HT.out, hD]; rfl)
    have HWB := Aside0.mk (show (0 : Int) ≤ 0 ∧ (0 : Int) ≤ 65535 by omega)
    clear q1 q2 q3 q4
    go_enter Try.func30, Try.ntmps30
    go_upto_region 10 with (first | ((with_reducible refine gate_dst (N := 2) rfl ?_); refine box_event ?hg (N := 2) ?hd (cs := #[.int .i64 F_, .int .i64 Bl, .int .i64 At, .slice (some ad) l.length c3, .int .u16 Fly]) (t := 55) ?hr ?_; (case hd => rfl); (case hg => rfl); (case hr => first | (go_simp; done) | (go_simp; rfl)); intro g1 hg w1 hbox hb; have HLX1 := Aside0.mk (show w.heap.size ≤ g1 by rw [hg]; exact Nat.le_refl _); have HB := Aside0.mk hb; have X1 := Aside0.mk hbox; clear hbox hb hg; have h0 := (blk_cell X1.out 0).trans rfl; have h1 := (blk_cell X1.out 1).trans rfl; have h2 := (blk_cell X1.out 2).trans rfl; have h3 := (blk_cell X1.out 3).trans rfl; have h4 := (blk_cell X1.out 4).trans rfl; have zh0 := blk_frozen X1.out 0; have zh1 := blk_frozen X1.out 1; have zh2 := blk_frozen X1.out 2; have zh3 := blk_frozen X1.out 3; have zh4 := blk_frozen X1.out 4) | ((with_reducible refine gate_dst (N := 3) rfl ?_); refine box_event ?hg (N := 3) ?hd (cs := #[.int .i64 x.f0, .int .i64 x.f1, .int .i64 x.f2, .int .i64 x.f3, .int .u16 x.f4, .int .i64 x.f5, .slice A6 x.f6.length c6]) (t := 49) ?hr ?_; (case hd => rfl); (case hg => rfl); (case hr => first | (go_simp; done) | (go_simp; rfl)); intro g2 hg w2 hbox hb; have n0_ := Aside0.mk (below_step HB.out hb); have n1_ := Aside0.mk (blk_below X1.out hb); clear HB X1; have HB := n0_; have X1 := n1_; clear n0_ n1_; have X2 := Aside0.mk hbox; clear hbox hb hg; clear h0 zh0 h1 zh1 h2 zh2 h3 zh3 h4 zh4; have h0 := (blk_cell X1.out 0).trans rfl; have h1 := (blk_cell X1.out 1).trans rfl; have h2 := (blk_cell X1.out 2).trans rfl; have h3 := (blk_cell X1.out 3).trans rfl; have h4 := (blk_cell X1.out 4).trans rfl; have zh0 := blk_frozen X1.out 0; have zh1 := blk_frozen X1.out 1; have zh2 := blk_frozen X1.out 2; have zh3 := blk_frozen X1.out 3; have zh4 := blk_frozen X1.out 4; have k0 := (blk_cell X2.out 0).trans rfl; have k1 := (blk_cell X2.out 1).trans rfl; have k2 := (blk_cell X2.out 2).trans rfl; have k3 := (blk_cell X2.out 3).trans rfl; have k4 := (blk_cell X2.out 4).trans rfl; have k5 := (blk_cell X2.out 5).trans rfl; have k6 := (blk_cell X2.out 6).trans rfl) | ((with_reducible refine gate_dst (N := 4) rfl ?_); refine box_event ?hg (N := 4) ?hd (cs := #[.int .i64 0, .int .i64 0, .int .i64 0, .slice none 0 0, .int .u16 0]) (t := 55) ?hr ?_; (case hd => rfl); (case hg => rfl); (case hr => first | (go_simp; done) | (go_simp; rfl)); intro g4 hg w4 hbox hb; have HLX4 := Aside0.mk (show w.heap.size ≤ g4 by rw [hg]; exact HB.out.size); have HNE := Aside0.mk (show g4 ≠ g1 by rw [hg]; exact Nat.ne_of_gt (blk_lt X1.out)); have n0_ := Aside0.mk (below_step HB.out hb); have n1_ := Aside0.mk (blk_below X1.out hb); have n2_ := Aside0.mk (blk_below X2.out hb); clear HB X1 X2; have HB := n0_; have X1 := n1_; have X2 := n2_; clear n0_ n1_ n2_; have X4 := Aside0.mk hbox; clear hbox hb hg; have r0 := (blk_cell X4.out 0).trans rfl; have r1 := (blk_cell X4.out 1).trans rfl; have r2 := (blk_cell X4.out 2).trans rfl; have r3 := (blk_cell X4.out 3).trans rfl; have r4 := (blk_cell X4.out 4).trans rfl; have zr0 := blk_frozen X4.out 0; have zr1 := blk_frozen X4.out 1; have zr2 := blk_frozen X4.out 2; have zr3 := blk_frozen X4.out 3; have zr4 := blk_frozen X4.out 4; clear h0 zh0 h1 zh1 h2 zh2 h3 zh3 h4 zh4; clear k0 k1 k2 k3 k4 k5 k6; have h0 := (blk_cell X1.out 0).trans rfl; have h1 := (blk_cell X1.out 1).trans rfl; have h2 := (blk_cell X1.out 2).trans rfl; have h3 := (blk_cell X1.out 3).trans rfl; have h4 := (blk_cell X1.out 4).trans rfl; have zh0 := blk_frozen X1.out 0; have zh1 := blk_frozen X1.out 1; have zh2 := blk_frozen X1.out 2; have zh3 := blk_frozen X1.out 3; have zh4 := blk_frozen X1.out 4; have k0 := (blk_cell X2.out 0).trans rfl; have k1 := (blk_cell X2.out 1).trans rfl; have k2 := (blk_cell X2.out 2).trans rfl; have k3 := (blk_cell X2.out 3).trans rfl; have k4 := (blk_cell X2.out 4).trans rfl; have k5 := (blk_cell X2.out 5).trans rfl; have k6 := (blk_cell X2.out 6).trans rfl; have va := pw_cell_below HB.out hva) | (go_at_call 72; (with_reducible refine (davitref05_there.calls F_ Bl At (some ad) c3 l Fly _ _ _ (Kd.C_below HL.out HB.out) HC3.out (there_f F_ Bl At l Fly _)).mono ?_); rintro e w6 ⟨he, hb⟩; (first | rw [hD] at he | rw [hA] at he | rw [hBB] at he); subst he; clear h0 zh0 h1 zh1 h2 zh2 h3 zh3 h4 zh4; clear k0 k1 k2 k3 k4 k5 k6; clear r0 zr0 r1 zr1 r2 zr2 r3 zr3 r4 zr4; clear va; have n0_ := Aside0.mk (below_step HB.out hb); have n1_ := Aside0.mk (blk_below X1.out hb); have n2_ := Aside0.mk (blk_below X2.out hb); have n3_ := Aside0.mk (blk_below X4.out hb); clear HB X1 X2 X4; have HB := n0_; have X1 := n1_; have X2 := n2_; have X4 := n3_; clear n0_ n1_ n2_ n3_; clear hb; have h0 := (blk_cell X1.out 0).trans rfl; have h1 := (blk_cell X1.out 1).trans rfl; have h2 := (blk_cell X1.out 2).trans rfl; have h3 := (blk_cell X1.out 3).trans rfl; have h4 := (blk_cell X1.out 4).trans rfl; have zh0 := blk_frozen X1.out 0; have zh1 := blk_frozen X1.out 1; have zh2 := blk_frozen X1.out 2; have zh3 := blk_frozen X1.out 3; have zh4 := blk_frozen X1.out 4; have k0 := (blk_cell X2.out 0).trans rfl; have k1 := (blk_cell X2.out 1).trans rfl; have k2 := (blk_cell X2.out 2).trans rfl; have k3 := (blk_cell X2.out 3).trans rfl; have k4 := (blk_cell X2.out 4).trans rfl; have k5 := (blk_cell X2.out 5).trans rfl; have k6 := (blk_cell X2.out 6).trans rfl; have r0 := (blk_cell X4.out 0).trans rfl; have r1 := (blk_cell X4.out 1).trans rfl; have r2 := (blk_cell X4.out 2).trans rfl; have r3 := (blk_cell X4.out 3).trans rfl; have r4 := (blk_cell X4.out 4).trans rfl; have zr0 := blk_frozen X4.out 0; have zr1 := blk_frozen X4.out 1; have zr2 := blk_frozen X4.out 2; have zr3 := blk_frozen X4.out 3; have zr4 := blk_frozen X4.out 4; have va := pw_cell_below HB.out hva))
    go_cut [8, 9] (fun v8 v9 wc => v8 = .int .u16 (ansW l x.f0 x.f2 x.f3 x.f4).1 ∧ v9 = .bool (ansW l x.f0 x.f2 x.f3 x.f4).2 ∧ Aside0 (Below w.heap.size w wc) ∧ Aside0 (wc.heap[g1]? = some (.cells #[.int .i64 F_, .int .i64 Bl, .int .i64 At, .slice (some ad) l.length c3, .int .u16 Fly] 55 (0, 0))) ∧ Aside0 (wc.heap[g2]? = some (.cells #[.int .i64 x.f0, .int .i64 x.f1, .int .i64 x.f2, .int .i64 x.f3, .int .u16 x.f4, .int .i64 x.f5, .slice A6 x.f6.length c6] 49 (0, 0))) ∧ Aside0 (wc.heap[g4]? = some (.cells #[.int .i64 0, .int .i64 0, .int .i64 0, .slice none 0 0, .int .u16 0] 55 (0, 0))))
    case first =>
     go_wp2
     go_quiet (first | (go_at_call 73; exact Calls.quiet_of (do73 x.f0 (rd l x.f2) 0 HWA.out HWB.out _)) | fail)
     go_wp2
     go_meet
     exact ⟨by rw [HV.out], by rw [HV.out], ⟨pw_below_drewN HB.out _⟩, ⟨blk_drewN X1.out _⟩, ⟨blk_drewN X2.out _⟩, ⟨blk_drewN X4.out _⟩⟩
    case rest =>
     clear h0 zh0 h1 zh1 h2 zh2 h3 zh3 h4 zh4; clear k0 k1 k2 k3 k4 k5 k6; clear r0 zr0 r1 zr1 r2 zr2 r3 zr3 r4 zr4; clear va; clear HB X1 X2 X4
     obtain ⟨rfl, rfl, HB, X1, X2, X4⟩ := hcut
     have h0 := (blk_cell X1.out 0).trans rfl
     have h1 := (blk_cell X1.out 1).trans rfl
     have h2 := (blk_cell X1.out 2).trans rfl
     have h3 := (blk_cell X1.out 3).trans rfl
     have h4 := (blk_cell X1.out 4).trans rfl
     have zh0 := blk_frozen X1.out 0
     have zh1 := blk_frozen X1.out 1
     have zh2 := blk_frozen X1.out 2
     have zh3 := blk_frozen X1.out 3
     have zh4 := blk_frozen X1.out 4
     have k0 := (blk_cell X2.out 0).trans rfl
     have k1 := (blk_cell X2.out 1).trans rfl
     have k2 := (blk_cell X2.out 2).trans rfl
     have k3 := (blk_cell X2.out 3).trans rfl
     have k4 := (blk_cell X2.out 4).trans rfl
     have k5 := (blk_cell X2.out 5).trans rfl
     have k6 := (blk_cell X2.out 6).trans rfl
     have r0 := (blk_cell X4.out 0).trans rfl
     have r1 := (blk_cell X4.out 1).trans rfl
     have r2 := (blk_cell X4.out 2).trans rfl
     have r3 := (blk_cell X4.out 3).trans rfl
     have r4 := (blk_cell X4.out 4).trans rfl
     have zr0 := blk_frozen X4.out 0
     have zr1 := blk_frozen X4.out 1
     have zr2 := blk_frozen X4.out 2
     have zr3 := blk_frozen X4.out 3
     have zr4 := blk_frozen X4.out 4
     have va := pw_cell_below HB.out hva
     rw [HT.out]
     go_upto_region 13 with (fail)
     go_cut [6] (fun v6 wc => v6 = .int .u16 (ansW l x.f0 x.f2 x.f3 x.f4).1 ∧ Aside0 (Below w.heap.size w wc) ∧ Aside0 (wc.heap[g1]? = some (.cells #[.int .i64 F_, .int .i64 Bl, .int .i64 At, .slice (some ad) l.length c3, .int .u16 Fly] 55 (0, 0))) ∧ Aside0 (wc.heap[g2]? = some (.cells #[.int .i64 x.f0, .int .i64 x.f1, .int .i64 x.f2, .int .i64 x.f3, .int .u16 x.f4, .int .i64 x.f5, .slice A6 x.f6.length c6] 49 (0, 0))) ∧ Aside0 (wc.heap[g4]? = some (.cells #[.int .i64 0, .int .i64 0, .int .i64 0, .slice none 0 0, .int .u16 0] 55 (0, 0))))
     case first => go_wp2; go_meet; exact ⟨rfl, HB, X1, X2, X4⟩
     case rest =>
      clear h0 zh0 h1 zh1 h2 zh2 h3 zh3 h4 zh4; clear k0 k1 k2 k3 k4 k5 k6; clear r0 zr0 r1 zr1 r2 zr2 r3 zr3 r4 zr4; clear va; clear HB X1 X2 X4
      obtain ⟨rfl, HB, X1, X2, X4⟩ := hcut
      have h0 := (blk_cell X1.out 0).trans rfl
      have h1 := (blk_cell X1.out 1).trans rfl
      have h2 := (blk_cell X1.out 2).trans rfl
      have h3 := (blk_cell X1.out 3).trans rfl
      have h4 := (blk_cell X1.out 4).trans rfl
      have zh0 := blk_frozen X1.out 0
      have zh1 := blk_frozen X1.out 1
      have zh2 := blk_frozen X1.out 2
      have zh3 := blk_frozen X1.out 3
      have zh4 := blk_frozen X1.out 4
      have k0 := (blk_cell X2.out 0).trans rfl
      have k1 := (blk_cell X2.out 1).trans rfl
      have k2 := (blk_cell X2.out 2).trans rfl
      have k3 := (blk_cell X2.out 3).trans rfl
      have k4 := (blk_cell X2.out 4).trans rfl
      have k5 := (blk_cell X2.out 5).trans rfl
      have k6 := (blk_cell X2.out 6).trans rfl
      have r0 := (blk_cell X4.out 0).trans rfl
      have r1 := (blk_cell X4.out 1).trans rfl
      have r2 := (blk_cell X4.out 2).trans rfl
      have r3 := (blk_cell X4.out 3).trans rfl
      have r4 := (blk_cell X4.out 4).trans rfl
      have zr0 := blk_frozen X4.out 0
      have zr1 := blk_frozen X4.out 1
      have zr2 := blk_frozen X4.out 2
      have zr3 := blk_frozen X4.out 3
      have zr4 := blk_frozen X4.out 4
      have va := pw_cell_below HB.out hva
      have HRKL := Aside0.mk (rk_yes At HY.out)
      go_upto_region 14 with (fail)
      go_cut [] (fun wc => ∃ Ao co, Aside0 (Below w.heap.size w wc) ∧ Aside0 (wc.heap[g1]? = some (.cells #[.int .i64 F_, .int .i64 Bl, .int .i64 At, .slice Ao l.length co, .int .u16 Fly] 55 (0, 0))) ∧ Aside0 (wc.heap[g4]? = some (.cells #[.int .i64 0, .int .i64 0, .int .i64 0, .slice none 0 0, .int .u16 0] 55 (0, 0))) ∧ Aside0 (l.length ≤ co) ∧ Aside0 (Kd.R (Kd.int .u16) 44 wc w.heap.size (fun _ => True) (.slice Ao l.length co) (rkL l x.f0 x.f1 x.f2 x.f3 x.f4)))
      case first =>
       go_wp2_with (go_at_call 74; go_loud ((with_reducible refine (with_r F_ Bl At (some ad) c3 l Fly x.f1 (ansW l x.f0 x.f2 x.f3 x.f4).1 _ (Kd.C_below HL.out HB.out) HC3.out hD (by have := HN.out; omega)).mono ?_); rintro e w6 ⟨⟨Ao, co, rfl, hlo, hr⟩, hb⟩; have HLO := Aside0.mk hlo; have HR := Aside0.mk (Kd.R_lower hr HB.out.size); clear h0 zh0 h1 zh1 h2 zh2 h3 zh3 h4 zh4; clear k0 k1 k2 k3 k4 k5 k6; clear r0 zr0 r1 zr1 r2 zr2 r3 zr3 r4 zr4; clear va; have n0_ := Aside0.mk (below_step HB.out hb); have n1_ := Aside0.mk (blk_below X1.out hb); have n2_ := Aside0.mk (blk_below X2.out hb); have n3_ := Aside0.mk (blk_below X4.out hb); clear HB X1 X2 X4; have HB := n0_; have X1 := n1_; have X2 := n2_; have X4 := n3_; clear n0_ n1_ n2_ n3_; clear hlo hr hb; have h0 := (blk_cell X1.out 0).trans rfl; have h1 := (blk_cell X1.out 1).trans rfl; have h2 := (blk_cell X1.out 2).trans rfl; have h3 := (blk_cell X1.out 3).trans rfl; have h4 := (blk_cell X1.out 4).trans rfl; have zh0 := blk_frozen X1.out 0; have zh1 := blk_frozen X1.out 1; have zh2 := blk_frozen X1.out 2; have zh3 := blk_frozen X1.out 3; have zh4 := blk_frozen X1.out 4; have k0 := (blk_cell X2.out 0).trans rfl; have k1 := (blk_cell X2.out 1).trans rfl; have k2 := (blk_cell X2.out 2).trans rfl; have k3 := (blk_cell X2.out 3).trans rfl; have k4 := (blk_cell X2.out 4).trans rfl; have k5 := (blk_cell X2.out 5).trans rfl; have k6 := (blk_cell X2.out 6).trans rfl; have r0 := (blk_cell X4.out 0).trans rfl; have r1 := (blk_cell X4.out 1).trans rfl; have r2 := (blk_cell X4.out 2).trans rfl; have r3 := (blk_cell X4.out 3).trans rfl; have r4 := (blk_cell X4.out 4).trans rfl; have zr0 := blk_frozen X4.out 0; have zr1 := blk_frozen X4.out 1; have zr2 := blk_frozen X4.out 2; have zr3 := blk_frozen X4.out 3; have zr4 := blk_frozen X4.out 4; have va := pw_cell_below HB.out hva))
       go_meet
       exact ⟨Ao, co, ⟨below_set (below_set (below_set (below_set (below_set (HB.out) HLX1.out) HLX1.out) HLX1.out) HLX1.out) HLX1.out⟩, ⟨set_blk _ _ (set_blk _ _ (set_blk _ _ (set_blk _ _ (set_blk _ _ (X1.out) rfl) rfl) rfl) rfl) rfl⟩, ⟨(blk_far (blk_far (blk_far (blk_far (blk_far X4.out (p := ⟨g1, 0, none⟩) HNE.out _) (p := ⟨g1, 1, none⟩) HNE.out _) (p := ⟨g1, 2, none⟩) HNE.out _) (p := ⟨g1, 3, none⟩) HNE.out _) (p := ⟨g1, 4, none⟩) HNE.out _)⟩, HLO, ⟨by rw [HRKL.out.2.2.1]; exact (Kd.R_mono (Kd.R_far (p := ⟨g1, 4, none⟩) (Kd.R_far (p := ⟨g1, 3, none⟩) (Kd.R_far (p := ⟨g1, 2, none⟩) (Kd.R_far (p := ⟨g1, 1, none⟩) (Kd.R_far (p := ⟨g1, 0, none⟩) (C_farg HR.out X1.out) (fun _ hk => hk.2) _) (fun _ hk => hk.2) _) (fun _ hk => hk.2) _) (fun _ hk => hk.2) _) (fun _ hk => hk.2) _) (fun _ _ => trivial))⟩⟩
      case rest =>
       clear h0 zh0 h1 zh1 h2 zh2 h3 zh3 h4 zh4; clear k0 k1 k2 k3 k4 k5 k6; clear r0 zr0 r1 zr1 r2 zr2 r3 zr3 r4 zr4; clear va; clear HB X1 X2 X4
       obtain ⟨Ao, co, HB, X1, X4, HLO, HR⟩ := hcut
       have h0 := (blk_cell X1.out 0).trans rfl
       have h1 := (blk_cell X1.out 1).trans rfl
       have h2 := (blk_cell X1.out 2).trans rfl
       have h3 := (blk_cell X1.out 3).trans rfl
       have h4 := (blk_cell X1.out 4).trans rfl
       have zh0 := blk_frozen X1.out 0
       have zh1 := blk_frozen X1.out 1
       have zh2 := blk_frozen X1.out 2
       have zh3 := blk_frozen X1.out 3
       have zh4 := blk_frozen X1.out 4
       have r0 := (blk_cell X4.out 0).trans rfl
       have r1 := (blk_cell X4.out 1).trans rfl
       have r2 := (blk_cell X4.out 2).trans rfl
       have r3 := (blk_cell X4.out 3).trans rfl
       have r4 := (blk_cell X4.out 4).trans rfl
       have zr0 := blk_frozen X4.out 0
       have zr1 := blk_frozen X4.out 1
       have zr2 := blk_frozen X4.out 2
       have zr3 := blk_frozen X4.out 3
       have zr4 := blk_frozen X4.out 4
       have hne1 := HNE.out
       have hne2 := HNE.out.symm
       go_wp2
       refine bodyPost_ret (results_ct rfl _ _ g4 55 #[.int .i64 F_, .int .i64 Bl, .int .i64 (wrap64 (At + 1)), .slice Ao l.length co, .int .u16 Fly] (0, 0) _ rfl ((set_blk _ _ (set_blk _ _ (set_blk _ _ (set_blk _ _ (set_blk _ _ ((blk_far X4.out (p := ⟨g1, 2, none⟩) HNE.out _)) rfl) rfl) rfl) rfl) rfl)) Try.underlying55 rfl (by kernel_rfl)) rfl ?_
       exact ⟨⟨Ao, co, by rw [HRKL.out.2.2.2, HY.out]; rfl, HLO.out, rkC (Kd.R_mono (Kd.R_far (p := ⟨g4, 4, none⟩) (Kd.R_far (p := ⟨g4, 3, none⟩) (Kd.R_far (p := ⟨g4, 2, none⟩) (Kd.R_far (p := ⟨g4, 1, none⟩) (Kd.R_far (p := ⟨g4, 0, none⟩) (C_farg (Kd.R_mono (Kd.R_far (p := ⟨g1, 2, none⟩) (C_farg HR.out X1.out) (fun _ hk => hk.2) _) (fun _ _ => trivial)) (blk_far X4.out (p := ⟨g1, 2, none⟩) HNE.out _)) (fun _ hk => hk.2) _) (fun _ hk => hk.2) _) (fun _ hk => hk.2) _) (fun _ hk => hk.2) _) (fun _ hk => hk.2) _) (fun _ _ => trivial))⟩, below_set (below_set (below_set (below_set (below_set (below_set (HB.out) HLX1.out) HLX4.out) HLX4.out) HLX4.out) HLX4.out) HLX4.out⟩
   have d4 : decide (2 < x.f0) = true := decide_eq_true (q4)
   cases hBB : win x.f3 l.length with
   | false =>
    have HZZ := Aside0.mk (ans_noB l x.f4 HOP.out hA q4 HQ.out.2 hBB)
    clear q1 q2 q3 q4
    have HZ := Aside0.mk (show rkB l x.f0 x.f1 x.f2 x.f3 x.f4 = false by unfold rkB; rw [HZZ.out]; rfl)
    go_enter Try.func30, Try.ntmps30
    go_wp2_with (first | ((with_reducible refine gate_dst (N := 2) rfl ?_); refine box_event ?hg (N := 2) ?hd (cs := #[.int .i64 F_, .int .i64 Bl, .int .i64 At, .slice (some ad) l.length c3, .int .u16 Fly]) (t := 55) ?hr ?_; (case hd => rfl); (case hg => rfl); (case hr => first | (go_simp; done) | (go_simp; rfl)); intro g1 hg w1 hbox hb; have HLX1 := Aside0.mk (show w.heap.size ≤ g1 by rw [hg]; exact Nat.le_refl _); have HB := Aside0.mk hb; have X1 := Aside0.mk hbox; clear hbox hb hg; have h0 := (blk_cell X1.out 0).trans rfl; have h1 := (blk_cell X1.out 1).trans rfl; have h2 := (blk_cell X1.out 2).trans rfl; have h3 := (blk_cell X1.out 3).trans rfl; have h4 := (blk_cell X1.out 4).trans rfl; have zh0 := blk_frozen X1.out 0; have zh1 := blk_frozen X1.out 1; have zh2 := blk_frozen X1.out 2; have zh3 := blk_frozen X1.out 3; have zh4 := blk_frozen X1.out 4) | ((with_reducible refine gate_dst (N := 3) rfl ?_); refine box_event ?hg (N := 3) ?hd (cs := #[.int .i64 x.f0, .int .i64 x.f1, .int .i64 x.f2, .int .i64 x.f3, .int .u16 x.f4, .int .i64 x.f5, .slice A6 x.f6.length c6]) (t := 49) ?hr ?_; (case hd => rfl); (case hg => rfl); (case hr => first | (go_simp; done) | (go_simp; rfl)); intro g2 hg w2 hbox hb; have n0_ := Aside0.mk (below_step HB.out hb); have n1_ := Aside0.mk (blk_below X1.out hb); clear HB X1; have HB := n0_; have X1 := n1_; clear n0_ n1_; have X2 := Aside0.mk hbox; clear hbox hb hg; clear h0 zh0 h1 zh1 h2 zh2 h3 zh3 h4 zh4; have h0 := (blk_cell X1.out 0).trans rfl; have h1 := (blk_cell X1.out 1).trans rfl; have h2 := (blk_cell X1.out 2).trans rfl; have h3 := (blk_cell X1.out 3).trans rfl; have h4 := (blk_cell X1.out 4).trans rfl; have zh0 := blk_frozen X1.out 0; have zh1 := blk_frozen X1.out 1; have zh2 := blk_frozen X1.out 2; have zh3 := blk_frozen X1.out 3; have zh4 := blk_frozen X1.out 4; have k0 := (blk_cell X2.out 0).trans rfl; have k1 := (blk_cell X2.out 1).trans rfl; have k2 := (blk_cell X2.out 2).trans rfl; have k3 := (blk_cell X2.out 3).trans rfl; have k4 := (blk_cell X2.out 4).trans rfl; have k5 := (blk_cell X2.out 5).trans rfl; have k6 := (blk_cell X2.out 6).trans rfl) | ((with_reducible refine gate_dst (N := 4) rfl ?_); refine box_event ?hg (N := 4) ?hd (cs := #[.int .i64 0, .int .i64 0, .int .i64 0, .slice none 0 0, .int .u16 0]) (t := 55) ?hr ?_; (case hd => rfl); (case hg => rfl); (case hr => first | (go_simp; done) | (go_simp; rfl)); intro g4 hg w4 hbox hb; have HLX4 := Aside0.mk (show w.heap.size ≤ g4 by rw [hg]; exact HB.out.size); have HNE := Aside0.mk (show g4 ≠ g1 by rw [hg]; exact Nat.ne_of_gt (blk_lt X1.out)); have n0_ := Aside0.mk (below_step HB.out hb); have n1_ := Aside0.mk (blk_below X1.out hb); have n2_ := Aside0.mk (blk_below X2.out hb); clear HB X1 X2; have HB := n0_; have X1 := n1_; have X2 := n2_; clear n0_ n1_ n2_; have X4 := Aside0.mk hbox; clear hbox hb hg; have r0 := (blk_cell X4.out 0).trans rfl; have r1 := (blk_cell X4.out 1).trans rfl; have r2 := (blk_cell X4.out 2).trans rfl; have r3 := (blk_cell X4.out 3).trans rfl; have r4 := (blk_cell X4.out 4).trans rfl; have zr0 := blk_frozen X4.out 0; have zr1 := blk_frozen X4.out 1; have zr2 := blk_frozen X4.out 2; have zr3 := blk_frozen X4.out 3; have zr4 := blk_frozen X4.out 4; clear h0 zh0 h1 zh1 h2 zh2 h3 zh3 h4 zh4; clear k0 k1 k2 k3 k4 k5 k6; have h0 := (blk_cell X1.out 0).trans rfl; have h1 := (blk_cell X1.out 1).trans rfl; have h2 := (blk_cell X1.out 2).trans rfl; have h3 := (blk_cell X1.out 3).trans rfl; have h4 := (blk_cell X1.out 4).trans rfl; have zh0 := blk_frozen X1.out 0; have zh1 := blk_frozen X1.out 1; have zh2 := blk_frozen X1.out 2; have zh3 := blk_frozen X1.out 3; have zh4 := blk_frozen X1.out 4; have k0 := (blk_cell X2.out 0).trans rfl; have k1 := (blk_cell X2.out 1).trans rfl; have k2 := (blk_cell X2.out 2).trans rfl; have k3 := (blk_cell X2.out 3).trans rfl; have k4 := (blk_cell X2.out 4).trans rfl; have k5 := (blk_cell X2.out 5).trans rfl; have k6 := (blk_cell X2.out 6).trans rfl; have va := pw_cell_below HB.out hva) | (go_at_call 72; (with_reducible refine (davitref05_there.calls F_ Bl At (some ad) c3 l Fly _ _ _ (Kd.C_below HL.out HB.out) HC3.out (there_f F_ Bl At l Fly _)).mono ?_); rintro e w6 ⟨he, hb⟩; (first | rw [hD] at he | rw [hA] at he | rw [hBB] at he); subst he; clear h0 zh0 h1 zh1 h2 zh2 h3 zh3 h4 zh4; clear k0 k1 k2 k3 k4 k5 k6; clear r0 zr0 r1 zr1 r2 zr2 r3 zr3 r4 zr4; clear va; have n0_ := Aside0.mk (below_step HB.out hb); have n1_ := Aside0.mk (blk_below X1.out hb); have n2_ := Aside0.mk (blk_below X2.out hb); have n3_ := Aside0.mk (blk_below X4.out hb); clear HB X1 X2 X4; have HB := n0_; have X1 := n1_; have X2 := n2_; have X4 := n3_; clear n0_ n1_ n2_ n3_; clear hb; have h0 := (blk_cell X1.out 0).trans rfl; have h1 := (blk_cell X1.out 1).trans rfl; have h2 := (blk_cell X1.out 2).trans rfl; have h3 := (blk_cell X1.out 3).trans rfl; have h4 := (blk_cell X1.out 4).trans rfl; have zh0 := blk_frozen X1.out 0; have zh1 := blk_frozen X1.out 1; have zh2 := blk_frozen X1.out 2; have zh3 := blk_frozen X1.out 3; have zh4 := blk_frozen X1.out 4; have k0 := (blk_cell X2.out 0).trans rfl; have k1 := (blk_cell X2.out 1).trans rfl; have k2 := (blk_cell X2.out 2).trans rfl; have k3 := (blk_cell X2.out 3).trans rfl; have k4 := (blk_cell X2.out 4).trans rfl; have k5 := (blk_cell X2.out 5).trans rfl; have k6 := (blk_cell X2.out 6).trans rfl; have r0 := (blk_cell X4.out 0).trans rfl; have r1 := (blk_cell X4.out 1).trans rfl; have r2 := (blk_cell X4.out 2).trans rfl; have r3 := (blk_cell X4.out 3).trans rfl; have r4 := (blk_cell X4.out 4).trans rfl; have zr0 := blk_frozen X4.out 0; have zr1 := blk_frozen X4.out 1; have zr2 := blk_frozen X4.out 2; have zr3 := blk_frozen X4.out 3; have zr4 := blk_frozen X4.out 4; have va := pw_cell_below HB.out hva))
    have HRK := Aside0.mk (rk_no At HZ.out)
    refine bodyPost_ret (results_ct rfl _ _ g4 55 #[.int .i64 F_, .int .i64 Bl, .int .i64 At, .slice (some ad) l.length c3, .int .u16 Fly] (0, 0) _ rfl (set_blk _ _ (set_blk _ _ (set_blk _ _ (set_blk _ _ (set_blk _ _ (X4.out) rfl) rfl) rfl) rfl) rfl) Try.underlying55 rfl (by kernel_rfl)) rfl ?_
    exact ⟨⟨(some ad), c3, by rw [HRK.out.2, HZ.out]; rfl, HC3.out, by rw [HRK.out.1]; exact Kd.C_below HL.out (below_set (below_set (below_set (below_set (below_set (HB.out) HLX4.out) HLX4.out) HLX4.out) HLX4.out) HLX4.out)⟩, below_set (below_set (below_set (below_set (below_set (HB.out) HLX4.out) HLX4.out) HLX4.out) HLX4.out) HLX4.out⟩
   | true =>
    obtain ⟨ad', e2, hvb⟩ := Kd.at_int HL.out x.f3 (win_at hBB).1 (win_at hBB).2
    injection e2 with e2
    subst e2
    have p3 : (0 ≤ x.f3) = True := eq_true (win_at hBB).1
    have p4 : (x.f3 < (l.length : Int)) = True := eq_true (win_at hBB).2
    have HWB := Aside0.mk (W16.le (HW.out _ (rd_mem' l 0 x.f3 (win_at hBB).1 (win_at hBB).2)))
    have HV := Aside0.mk (ans_in3 l x.f4 HOP.out hA q4 HQ.out.2 hBB)
    clear q1 q2 q3 q4
    go_enter Try.func30, Try.ntmps30
    go_upto_region 10 with (first | ((with_reducible refine gate_dst (N := 2) rfl ?_); refine box_event ?hg (N := 2) ?hd (cs := #[.int .i64 F_, .int .i64 Bl, .int .i64 At, .slice (some ad) l.length c3, .int .u16 Fly]) (t := 55) ?hr ?_; (case hd => rfl); (case hg => rfl); (case hr => first | (go_simp; done) | (go_simp; rfl)); intro g1 hg w1 hbox hb; have HLX1 := Aside0.mk (show w.heap.size ≤ g1 by rw [hg]; exact Nat.le_refl _); have HB := Aside0.mk hb; have X1 := Aside0.mk hbox; clear hbox hb hg; have h0 := (blk_cell X1.out 0).trans rfl; have h1 := (blk_cell X1.out 1).trans rfl; have h2 := (blk_cell X1.out 2).trans rfl; have h3 := (blk_cell X1.out 3).trans rfl; have h4 := (blk_cell X1.out 4).trans rfl; have zh0 := blk_frozen X1.out 0; have zh1 := blk_frozen X1.out 1; have zh2 := blk_frozen X1.out 2; have zh3 := blk_frozen X1.out 3; have zh4 := blk_frozen X1.out 4) | ((with_reducible refine gate_dst (N := 3) rfl ?_); refine box_event ?hg (N := 3) ?hd (cs := #[.int .i64 x.f0, .int .i64 x.f1, .int .i64 x.f2, .int .i64 x.f3, .int .u16 x.f4, .int .i64 x.f5, .slice A6 x.f6.length c6]) (t := 49) ?hr ?_; (case hd => rfl); (case hg => rfl); (case hr => first | (go_simp; done) | (go_simp; rfl)); intro g2 hg w2 hbox hb; have n0_ := Aside0.mk (below_step HB.out hb); have n1_ := Aside0.mk (blk_below X1.out hb); clear HB X1; have HB := n0_; have X1 := n1_; clear n0_ n1_; have X2 := Aside0.mk hbox; clear hbox hb hg; clear h0 zh0 h1 zh1 h2 zh2 h3 zh3 h4 zh4; have h0 := (blk_cell X1.out 0).trans rfl; have h1 := (blk_cell X1.out 1).trans rfl; have h2 := (blk_cell X1.out 2).trans rfl; have h3 := (blk_cell X1.out 3).trans rfl; have h4 := (blk_cell X1.out 4).trans rfl; have zh0 := blk_frozen X1.out 0; have zh1 := blk_frozen X1.out 1; have zh2 := blk_frozen X1.out 2; have zh3 := blk_frozen X1.out 3; have zh4 := blk_frozen X1.out 4; have k0 := (blk_cell X2.out 0).trans rfl; have k1 := (blk_cell X2.out 1).trans rfl; have k2 := (blk_cell X2.out 2).trans rfl; have k3 := (blk_cell X2.out 3).trans rfl; have k4 := (blk_cell X2.out 4).trans rfl; have k5 := (blk_cell X2.out 5).trans rfl; have k6 := (blk_cell X2.out 6).trans rfl) | ((with_reducible refine gate_dst (N := 4) rfl ?_); refine box_event ?hg (N := 4) ?hd (cs := #[.int .i64 0, .int .i64 0, .int .i64 0, .slice none 0 0, .int .u16 0]) (t := 55) ?hr ?_; (case hd => rfl); (case hg => rfl); (case hr => first | (go_simp; done) | (go_simp; rfl)); intro g4 hg w4 hbox hb; have HLX4 := Aside0.mk (show w.heap.size ≤ g4 by rw [hg]; exact HB.out.size); have HNE := Aside0.mk (show g4 ≠ g1 by rw [hg]; exact Nat.ne_of_gt (blk_lt X1.out)); have n0_ := Aside0.mk (below_step HB.out hb); have n1_ := Aside0.mk (blk_below X1.out hb); have n2_ := Aside0.mk (blk_below X2.out hb); clear HB X1 X2; have HB := n0_; have X1 := n1_; have X2 := n2_; clear n0_ n1_ n2_; have X4 := Aside0.mk hbox; clear hbox hb hg; have r0 := (blk_cell X4.out 0).trans rfl; have r1 := (blk_cell X4.out 1).trans rfl; have r2 := (blk_cell X4.out 2).trans rfl; have r3 := (blk_cell X4.out 3).trans rfl; have r4 := (blk_cell X4.out 4).trans rfl; have zr0 := blk_frozen X4.out 0; have zr1 := blk_frozen X4.out 1; have zr2 := blk_frozen X4.out 2; have zr3 := blk_frozen X4.out 3; have zr4 := blk_frozen X4.out 4; clear h0 zh0 h1 zh1 h2 zh2 h3 zh3 h4 zh4; clear k0 k1 k2 k3 k4 k5 k6; have h0 := (blk_cell X1.out 0).trans rfl; have h1 := (blk_cell X1.out 1).trans rfl; have h2 := (blk_cell X1.out 2).trans rfl; have h3 := (blk_cell X1.out 3).trans rfl; have h4 := (blk_cell X1.out 4).trans rfl; have zh0 := blk_frozen X1.out 0; have zh1 := blk_frozen X1.out 1; have zh2 := blk_frozen X1.out 2; have zh3 := blk_frozen X1.out 3; have zh4 := blk_frozen X1.out 4; have k0 := (blk_cell X2.out 0).trans rfl; have k1 := (blk_cell X2.out 1).trans rfl; have k2 := (blk_cell X2.out 2).trans rfl; have k3 := (blk_cell X2.out 3).trans rfl; have k4 := (blk_cell X2.out 4).trans rfl; have k5 := (blk_cell X2.out 5).trans rfl; have k6 := (blk_cell X2.out 6).trans rfl; have va := pw_cell_below HB.out hva; have vb := pw_cell_below HB.out hvb) | (go_at_call 72; (with_reducible refine (davitref05_there.calls F_ Bl At (some ad) c3 l Fly _ _ _ (Kd.C_below HL.out HB.out) HC3.out (there_f F_ Bl At l Fly _)).mono ?_); rintro e w6 ⟨he, hb⟩; (first | rw [hD] at he | rw [hA] at he | rw [hBB] at he); subst he; clear h0 zh0 h1 zh1 h2 zh2 h3 zh3 h4 zh4; clear k0 k1 k2 k3 k4 k5 k6; clear r0 zr0 r1 zr1 r2 zr2 r3 zr3 r4 zr4; clear va vb; have n0_ := Aside0.mk (below_step HB.out hb); have n1_ := Aside0.mk (blk_below X1.out hb); have n2_ := Aside0.mk (blk_below X2.out hb); have n3_ := Aside0.mk (blk_below X4.out hb); clear HB X1 X2 X4; have HB := n0_; have X1 := n1_; have X2 := n2_; have X4 := n3_; clear n0_ n1_ n2_ n3_; clear hb; have h0 := (blk_cell X1.out 0).trans rfl; have h1 := (blk_cell X1.out 1).trans rfl; have h2 := (blk_cell X1.out 2).trans rfl; have h3 := (blk_cell X1.out 3).trans rfl; have h4 := (blk_cell X1.out 4).trans rfl; have zh0 := blk_frozen X1.out 0; have zh1 := blk_frozen X1.out 1; have zh2 := blk_frozen X1.out 2; have zh3 := blk_frozen X1.out 3; have zh4 := blk_frozen X1.out 4; have k0 := (blk_cell X2.out 0).trans rfl; have k1 := (blk_cell X2.out 1).trans rfl; have k2 := (blk_cell X2.out 2).trans rfl; have k3 := (blk_cell X2.out 3).trans rfl; have k4 := (blk_cell X2.out 4).trans rfl; have k5 := (blk_cell X2.out 5).trans rfl; have k6 := (blk_cell X2.out 6).trans rfl; have r0 := (blk_cell X4.out 0).trans rfl; have r1 := (blk_cell X4.out 1).trans rfl; have r2 := (blk_cell X4.out 2).trans rfl; have r3 := (blk_cell X4.out 3).trans rfl; have r4 := (blk_cell X4.out 4).trans rfl; have zr0 := blk_frozen X4.out 0; have zr1 := blk_frozen X4.out 1; have zr2 := blk_frozen X4.out 2; have zr3 := blk_frozen X4.out 3; have zr4 := blk_frozen X4.out 4; have va := pw_cell_below HB.out hva; have vb := pw_cell_below HB.out hvb))
    go_cut [8, 9] (fun v8 v9 wc => v8 = .int .u16 (ansW l x.f0 x.f2 x.f3 x.f4).1 ∧ v9 = .bool (ansW l x.f0 x.f2 x.f3 x.f4).2 ∧ Aside0 (Below w.heap.size w wc) ∧ Aside0 (wc.heap[g1]? = some (.cells #[.int .i64 F_, .int .i64 Bl, .int .i64 At, .slice (some ad) l.length c3, .int .u16 Fly] 55 (0, 0))) ∧ Aside0 (wc.heap[g2]? = some (.cells #[.int .i64 x.f0, .int .i64 x.f1, .int .i64 x.f2, .int .i64 x.f3, .int .u16 x.f4, .int .i64 x.f5, .slice A6 x.f6.length c6] 49 (0, 0))) ∧ Aside0 (wc.heap[g4]? = some (.cells #[.int .i64 0, .int .i64 0, .int .i64 0, .slice none 0 0, .int .u16 0] 55 (0, 0))))
    case first =>
     go_wp2
     go_quiet (first | (go_at_call 73; exact Calls.quiet_of (do73 x.f0 (rd l x.f2) (rd l x.f3) HWA.out HWB.out _)) | fail)
     go_wp2
     go_meet
     exact ⟨by rw [HV.out], by rw [HV.out], ⟨pw_below_drewN HB.out _⟩, ⟨blk_drewN X1.out _⟩, ⟨blk_drewN X2.out _⟩, ⟨blk_drewN X4.out _⟩⟩
    case rest =>
     clear h0 zh0 h1 zh1 h2 zh2 h3 zh3 h4 zh4; clear k0 k1 k2 k3 k4 k5 k6; clear r0 zr0 r1 zr1 r2 zr2 r3 zr3 r4 zr4; clear va vb; clear HB X1 X2 X4
     obtain ⟨rfl, rfl, HB, X1, X2, X4⟩ := hcut
     have h0 := (blk_cell X1.out 0).trans rfl
     have h1 := (blk_cell X1.out 1).trans rfl
     have h2 := (blk_cell X1.out 2).trans rfl
     have h3 := (blk_cell X1.out 3).trans rfl
     have h4 := (blk_cell X1.out 4).trans rfl
     have zh0 := blk_frozen X1.out 0
     have zh1 := blk_frozen X1.out 1
     have zh2 := blk_frozen X1.out 2
     have zh3 := blk_frozen X1.out 3
     have zh4 := blk_frozen X1.out 4
     have k0 := (blk_cell X2.out 0).trans rfl
     have k1 := (blk_cell X2.out 1).trans rfl
     have k2 := (blk_cell X2.out 2).trans rfl
     have k3 := (blk_cell X2.out 3).trans rfl
     have k4 := (blk_cell X2.out 4).trans rfl
     have k5 := (blk_cell X2.out 5).trans rfl
     have k6 := (blk_cell X2.out 6).trans rfl
     have r0 := (blk_cell X4.out 0).trans rfl
     have r1 := (blk_cell X4.out 1).trans rfl
     have r2 := (blk_cell X4.out 2).trans rfl
     have r3 := (blk_cell X4.out 3).trans rfl
     have r4 := (blk_cell X4.out 4).trans rfl
     have zr0 := blk_frozen X4.out 0
     have zr1 := blk_frozen X4.out 1
     have zr2 := blk_frozen X4.out 2
     have zr3 := blk_frozen X4.out 3
     have zr4 := blk_frozen X4.out 4
     have va := pw_cell_below HB.out hva
     have vb := pw_cell_below HB.out hvb
     cases ht : (ansW l x.f0 x.f2 x.f3 x.f4).2 with
     | false =>
      have HZ := Aside0.mk (show rkB l x.f0 x.f1 x.f2 x.f3 x.f4 = false by unfold rkB; rw [ht]; rfl)
      go_wp2
      have HRK := Aside0.mk (rk_no At HZ.out)
      refine bodyPost_ret (results_ct rfl _ _ g4 55 #[.int .i64 F_, .int .i64 Bl, .int .i64 At, .slice (some ad) l.length c3, .int .u16 Fly] (0, 0) _ rfl (set_blk _ _ (set_blk _ _ (set_blk _ _ (set_blk _ _ (set_blk _ _ (X4.out) rfl) rfl) rfl) rfl) rfl) Try.underlying55 rfl (by kernel_rfl)) rfl ?_
      exact ⟨⟨(some ad), c3, by rw [HRK.out.2, HZ.out]; rfl, HC3.out, by rw [HRK.out.1]; exact Kd.C_below HL.out (below_set (below_set (below_set (below_set (below_set (HB.out) HLX4.out) HLX4.out) HLX4.out) HLX4.out) HLX4.out)⟩, below_set (below_set (below_set (below_set (below_set (HB.out) HLX4.out) HLX4.out) HLX4.out) HLX4.out) HLX4.out⟩
     | true =>
      have HT := Aside0.mk ht
      have HY := Aside0.mk (show rkB l x.f0 x.f1 x.f2 x.f3 x.f4 = true by unfold rkB; rw [ht, hD]; rfl)
      skip
      go_upto_region 13 with (fail)
      go_cut [6] (fun v6 wc => v6 = .int .u16 (ansW l x.f0 x.f2 x.f3 x.f4).1 ∧ Aside0 (Below w.heap.size w wc) ∧ Aside0 (wc.heap[g1]? = some (.cells #[.int .i64 F_, .int .i64 Bl, .int .i64 At, .slice (some ad) l.length c3, .int .u16 Fly] 55 (0, 0))) ∧ Aside0 (wc.heap[g2]? = some (.cells #[.int .i64 x.f0, .int .i64 x.f1, .int .i64 x.f2, .int .i64 x.f3, .int .u16 x.f4, .int .i64 x.f5, .slice A6 x.f6.length c6] 49 (0, 0))) ∧ Aside0 (wc.heap[g4]? = some (.cells #[.int .i64 0, .int .i64 0, .int .i64 0, .slice none 0 0, .int .u16 0] 55 (0, 0))))
      case first => go_wp2; go_meet; exact ⟨rfl, HB, X1, X2, X4⟩
      case rest =>
       clear h0 zh0 h1 zh1 h2 zh2 h3 zh3 h4 zh4; clear k0 k1 k2 k3 k4 k5 k6; clear r0 zr0 r1 zr1 r2 zr2 r3 zr3 r4 zr4; clear va vb; clear HB X1 X2 X4
       obtain ⟨rfl, HB, X1, X2, X4⟩ := hcut
       have h0 := (blk_cell X1.out 0).trans rfl
       have h1 := (blk_cell X1.out 1).trans rfl
       have h2 := (blk_cell X1.out 2).trans rfl
       have h3 := (blk_cell X1.out 3).trans rfl
       have h4 := (blk_cell X1.out 4).trans rfl
       have zh0 := blk_frozen X1.out 0
       have zh1 := blk_frozen X1.out 1
       have zh2 := blk_frozen X1.out 2
       have zh3 := blk_frozen X1.out 3
       have zh4 := blk_frozen X1.out 4
       have k0 := (blk_cell X2.out 0).trans rfl
       have k1 := (blk_cell X2.out 1).trans rfl
       have k2 := (blk_cell X2.out 2).trans rfl
       have k3 := (blk_cell X2.out 3).trans rfl
       have k4 := (blk_cell X2.out 4).trans rfl
       have k5 := (blk_cell X2.out 5).trans rfl
       have k6 := (blk_cell X2.out 6).trans rfl
       have r0 := (blk_cell X4.out 0).trans rfl
       have r1 := (blk_cell X4.out 1).trans rfl
       have r2 := (blk_cell X4.out 2).trans rfl
       have r3 := (blk_cell X4.out 3).trans rfl
       have r4 := (blk_cell X4.out 4).trans rfl
       have zr0 := blk_frozen X4.out 0
       have zr1 := blk_frozen X4.out 1
       have zr2 := blk_frozen X4.out 2
       have zr3 := blk_frozen X4.out 3
       have zr4 := blk_frozen X4.out 4
       have va := pw_cell_below HB.out hva
       have vb := pw_cell_below HB.out hvb
       have HRKL := Aside0.mk (rk_yes At HY.out)
       go_upto_region 14 with (fail)
       go_cut [] (fun wc => ∃ Ao co, Aside0 (Below w.heap.size w wc) ∧ Aside0 (wc.heap[g1]? = some (.cells #[.int .i64 F_, .int .i64 Bl, .int .i64 At, .slice Ao l.length co, .int .u16 Fly] 55 (0, 0))) ∧ Aside0 (wc.heap[g4]? = some (.cells #[.int .i64 0, .int .i64 0, .int .i64 0, .slice none 0 0, .int .u16 0] 55 (0, 0))) ∧ Aside0 (l.length ≤ co) ∧ Aside0 (Kd.R (Kd.int .u16) 44 wc w.heap.size (fun _ => True) (.slice Ao l.length co) (rkL l x.f0 x.f1 x.f2 x.f3 x.f4)))
       case first =>
        go_wp2_with (go_at_call 74; go_loud ((with_reducible refine (with_r F_ Bl At (some ad) c3 l Fly x.f1 (ansW l x.f0 x.f2 x.f3 x.f4).1 _ (Kd.C_below HL.out HB.out) HC3.out hD (by have := HN.out; omega)).mono ?_); rintro e w6 ⟨⟨Ao, co, rfl, hlo, hr⟩, hb⟩; have HLO := Aside0.mk hlo; have HR := Aside0.mk (Kd.R_lower hr HB.out.size); clear h0 zh0 h1 zh1 h2 zh2 h3 zh3 h4 zh4; clear k0 k1 k2 k3 k4 k5 k6; clear r0 zr0 r1 zr1 r2 zr2 r3 zr3 r4 zr4; clear va vb; have n0_ := Aside0.mk (below_step HB.out hb); have n1_ := Aside0.mk (blk_below X1.out hb); have n2_ := Aside0.mk (blk_below X2.out hb); have n3_ := Aside0.mk (blk_below X4.out hb); clear HB X1 X2 X4; have HB := n0_; have X1 := n1_; have X2 := n2_; have X4 := n3_; clear n0_ n1_ n2_ n3_; clear hlo hr hb; have h0 := (blk_cell X1.out 0).trans rfl; have h1 := (blk_cell X1.out 1).trans rfl; have h2 := (blk_cell X1.out 2).trans rfl; have h3 := (blk_cell X1.out 3).trans rfl; have h4 := (blk_cell X1.out 4).trans rfl; have zh0 := blk_frozen X1.out 0; have zh1 := blk_frozen X1.out 1; have zh2 := blk_frozen X1.out 2; have zh3 := blk_frozen X1.out 3; have zh4 := blk_frozen X1.out 4; have k0 := (blk_cell X2.out 0).trans rfl; have k1 := (blk_cell X2.out 1).trans rfl; have k2 := (blk_cell X2.out 2).trans rfl; have k3 := (blk_cell X2.out 3).trans rfl; have k4 := (blk_cell X2.out 4).trans rfl; have k5 := (blk_cell X2.out 5).trans rfl; have k6 := (blk_cell X2.out 6).trans rfl; have r0 := (blk_cell X4.out 0).trans rfl; have r1 := (blk_cell X4.out 1).trans rfl; have r2 := (blk_cell X4.out 2).trans rfl; have r3 := (blk_cell X4.out 3).trans rfl; have r4 := (blk_cell X4.out 4).trans rfl; have zr0 := blk_frozen X4.out 0; have zr1 := blk_frozen X4.out 1; have zr2 := blk_frozen X4.out 2; have zr3 := blk_frozen X4.out 3; have zr4 := blk_frozen X4.out 4; have va := pw_cell_below HB.out hva; have vb := pw_cell_below HB.out hvb))
        go_meet
        exact ⟨Ao, co, ⟨below_set (below_set (below_set (below_set (below_set (HB.out) HLX1.out) HLX1.out) HLX1.out) HLX1.out) HLX1.out⟩, ⟨set_blk _ _ (set_blk _ _ (set_blk _ _ (set_blk _ _ (set_blk _ _ (X1.out) rfl) rfl) rfl) rfl) rfl⟩, ⟨(blk_far (blk_far (blk_far (blk_far (blk_far X4.out (p := ⟨g1, 0, none⟩) HNE.out _) (p := ⟨g1, 1, none⟩) HNE.out _) (p := ⟨g1, 2, none⟩) HNE.out _) (p := ⟨g1, 3, none⟩) HNE.out _) (p := ⟨g1, 4, none⟩) HNE.out _)⟩, HLO, ⟨by rw [HRKL.out.2.2.1]; exact (Kd.R_mono (Kd.R_far (p := ⟨g1, 4, none⟩) (Kd.R_far (p := ⟨g1, 3, none⟩) (Kd.R_far (p := ⟨g1, 2, none⟩) (Kd.R_far (p := ⟨g1, 1, none⟩) (Kd.R_far (p := ⟨g1, 0, none⟩) (C_farg HR.out X1.out) (fun _ hk => hk.2) _) (fun _ hk => hk.2) _) (fun _ hk => hk.2) _) (fun _ hk => hk.2) _) (fun _ hk => hk.2) _) (fun _ _ => trivial))⟩⟩
       case rest =>
        clear h0 zh0 h1 zh1 h2 zh2 h3 zh3 h4 zh4; clear k0 k1 k2 k3 k4 k5 k6; clear r0 zr0 r1 zr1 r2 zr2 r3 zr3 r4 zr4; clear va vb; clear HB X1 X2 X4
        obtain ⟨Ao, co, HB, X1, X4, HLO, HR⟩ := hcut
        have h0 := (blk_cell X1.out 0).trans rfl
        have h1 := (blk_cell X1.out 1).trans rfl
        have h2 := (blk_cell X1.out 2).trans rfl
        have h3 := (blk_cell X1.out 3).trans rfl
        have h4 := (blk_cell X1.out 4).trans rfl
        have zh0 := blk_frozen X1.out 0
        have zh1 := blk_frozen X1.out 1
        have zh2 := blk_frozen X1.out 2
        have zh3 := blk_frozen X1.out 3
        have zh4 := blk_frozen X1.out 4
        have r0 := (blk_cell X4.out 0).trans rfl
        have r1 := (blk_cell X4.out 1).trans rfl
        have r2 := (blk_cell X4.out 2).trans rfl
        have r3 := (blk_cell X4.out 3).trans rfl
        have r4 := (blk_cell X4.out 4).trans rfl
        have zr0 := blk_frozen X4.out 0
        have zr1 := blk_frozen X4.out 1
        have zr2 := blk_frozen X4.out 2
        have zr3 := blk_frozen X4.out 3
        have zr4 := blk_frozen X4.out 4
        have hne1 := HNE.out
        have hne2 := HNE.out.symm
        go_wp2
        refine bodyPost_ret (results_ct rfl _ _ g4 55 #[.int .i64 F_, .int .i64 Bl, .int .i64 (wrap64 (At + 1)), .slice Ao l.length co, .int .u16 Fly] (0, 0) _ rfl ((set_blk _ _ (set_blk _ _ (set_blk _ _ (set_blk _ _ (set_blk _ _ ((blk_far X4.out (p := ⟨g1, 2, none⟩) HNE.out _)) rfl) rfl) rfl) rfl) rfl)) Try.underlying55 rfl (by kernel_rfl)) rfl ?_
        exact ⟨⟨Ao, co, by rw [HRKL.out.2.2.2, HY.out]; rfl, HLO.out, rkC (Kd.R_mono (Kd.R_far (p := ⟨g4, 4, none⟩) (Kd.R_far (p := ⟨g4, 3, none⟩) (Kd.R_far (p := ⟨g4, 2, none⟩) (Kd.R_far (p := ⟨g4, 1, none⟩) (Kd.R_far (p := ⟨g4, 0, none⟩) (C_farg (Kd.R_mono (Kd.R_far (p := ⟨g1, 2, none⟩) (C_farg HR.out X1.out) (fun _ hk => hk.2) _) (fun _ _ => trivial)) (blk_far X4.out (p := ⟨g1, 2, none⟩) HNE.out _)) (fun _ hk => hk.2) _) (fun _ hk => hk.2) _) (fun _ hk => hk.2) _) (fun _ hk => hk.2) _) (fun _ hk => hk.2) _) (fun _ _ => trivial))⟩, below_set (below_set (below_set (below_set (below_set (below_set (HB.out) HLX1.out) HLX4.out) HLX4.out) HLX4.out) HLX4.out) HLX4.out⟩
end Go.Proofs.Ytbfialebaoeicaa.X
