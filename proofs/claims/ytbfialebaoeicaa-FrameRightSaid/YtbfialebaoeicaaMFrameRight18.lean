/- Part 19 of the proof of the statement FrameRight: the words of the walks, the walks through the functions that it reaches, and the plain laws of what they compute. -/
import Derived.Test.YtbfialebaoeicaaMFrameRight17
import Derived.RegionTactic
import Derived.ChangeAlike
import Derived.Deep.QuietTactic
import Derived.BigQuiet
namespace Go.Proofs.Ytbfialebaoeicaa.X
open Go.RowKit Go.Proofs.YtbfialebaoeicaaW.PrintWords Go.Proofs.YtbfialebaoeicaaW.PrintLast Go.Proofs.YtbfialebaoeicaaW.PrintMore
set_option linter.all false
theorem copied_c (F_ Bl At : Int) (A3 : Option Addr) (c3 : Nat) (l : List Int) (Fly : Int) (w : World) (hl : Kd.C (Kd.int .u16) w A3 l.length l) (hc3 : l.length ≤ c3) (hm : l.length < 1000000) :
  Calls Try.prog 69 #[.agg #[.int .i64 F_, .int .i64 Bl, .int .i64 At, .slice A3 l.length c3, .int .u16 Fly]] w fun e w' => (∃ Ao co, e = .returned (.agg #[.int .i64 F_, .int .i64 Bl, .int .i64 At, .slice Ao l.length co, .int .u16 Fly]) ∧ l.length ≤ co ∧ Kd.R (Kd.int .u16) 44 w' w.heap.size (fun _ => True) (.slice Ao l.length co) l) ∧ Below w.heap.size w w' := by
 refine (frame_copied.calls F_ Bl At A3 c3 l Fly _ _ _ _ _ w hl hc3 (show _ = some (F_, Bl, At, l, Fly) by unfold frame_copied.f slices_Clone_uint16_uint16.f; rw [if_pos hm]; rfl)).mono ?_
 rintro e w' ⟨v, rfl, hr, hb⟩
 obtain ⟨Ao, co, rfl, hl, _⟩ := Kd.R_reads hr
 exact ⟨⟨Ao, co, rfl, hl, hr⟩, hb⟩
theorem C_farg {w : World} {A : Option Addr} {n g : Nat} {c base : Nat} {xs : List Int} {cs : Array Value} (h : Kd.R (Kd.int .u16) 44 w base (fun _ => True) (.slice A n c) xs) (hb : w.heap[g]? = some (.cells cs 55 (0, 0))) : Kd.R (Kd.int .u16) 44 w base (fun k => True ∧ k ≠ g) (.slice A n c) xs := Kd.R_types h hb (by decide)
theorem with_r (F Bl At : Int) (A : Option Addr) (c : Nat) (l : List Int) (Fly n v : Int) (w : World) (hl : Kd.C (Kd.int .u16) w A l.length l) (hc : l.length ≤ c) (h : win n l.length = true) (hm : l.length ≤ 1000000) :
  Calls Try.prog 74 #[.agg #[.int .i64 F, .int .i64 Bl, .int .i64 At, .slice A l.length c, .int .u16 Fly], .int .i64 n, .int .u16 v] w fun e w' => (∃ Ao co, e = .returned (.agg #[.int .i64 F, .int .i64 Bl, .int .i64 At, .slice Ao l.length co, .int .u16 Fly]) ∧ l.length ≤ co ∧ Kd.R (Kd.int .u16) 44 w' w.heap.size (fun _ => True) (.slice Ao l.length co) (l.set n.toNat v)) ∧ Below w.heap.size w w' := by
 refine (davitref05_With.calls F Bl At A c l Fly n v _ _ _ _ _ w hl hc (with_f F Bl At l Fly n v h hm)).mono ?_
 rintro e w' ⟨v, rfl, hr, hb⟩
 obtain ⟨Ao, co, rfl, hl, hC⟩ := Kd.R_reads hr
 rw [List.length_set] at hl hr
 exact ⟨⟨Ao, co, by rw [List.length_set], hl, hr⟩, hb⟩
set_option maxHeartbeats 16000000 in
set_option maxRecDepth 100000 in
theorem go_c (F_ Bl At : Int) (A3 : Option Addr) (c3 : Nat) (l : List Int) (Fly : Int) (n : Int) (w : World) (hl : Kd.C (Kd.int .u16) w A3 l.length l) (hc3 : l.length ≤ c3) (hm : l.length < 1000000) :
  Calls Try.prog 33 #[.agg #[.int .i64 F_, .int .i64 Bl, .int .i64 At, .slice A3 l.length c3, .int .u16 Fly], .int .i64 n] w fun e w' => (∃ Ao co, e = .returned (.agg #[.int .i64 F_, .int .i64 n, .int .i64 0, .slice Ao l.length co, .int .u16 Fly]) ∧ l.length ≤ co ∧ Kd.R (Kd.int .u16) 44 w' w.heap.size (fun _ => True) (.slice Ao l.length co) l) ∧ Below w.heap.size w w' := by
 have HL := Aside0.mk hl
 have HC3 := Aside0.mk hc3
 have HN := Aside0.mk hm
 clear hl hc3 hm
 have hu55 := Try.underlying55
 have hu49 := Try.underlying49
 go_enter Try.func33, Try.ntmps33
 go_upto_region 1 with (first | ((with_reducible refine gate_dst (N := 2) rfl ?_); refine box_event ?hg (N := 2) ?hd (cs := #[.int .i64 F_, .int .i64 Bl, .int .i64 At, .slice A3 l.length c3, .int .u16 Fly]) (t := 55) ?hr ?_; (case hd => rfl); (case hg => rfl); (case hr => first | (go_simp; done) | (go_simp; rfl)); intro g1 hg w1 hbox hb; have HLX1 := Aside0.mk (show w.heap.size ≤ g1 by rw [hg]; exact Nat.le_refl _); have HB := Aside0.mk hb; have X1 := Aside0.mk hbox; clear hbox hb hg; have h0 := (blk_cell X1.out 0).trans rfl; have h1 := (blk_cell X1.out 1).trans rfl; have h2 := (blk_cell X1.out 2).trans rfl; have h3 := (blk_cell X1.out 3).trans rfl; have h4 := (blk_cell X1.out 4).trans rfl; have zh0 := blk_frozen X1.out 0; have zh1 := blk_frozen X1.out 1; have zh2 := blk_frozen X1.out 2; have zh3 := blk_frozen X1.out 3; have zh4 := blk_frozen X1.out 4) | ((with_reducible refine gate_dst (N := 4) rfl ?_); refine box_event ?hg (N := 4) ?hd (cs := #[.int .i64 0, .int .i64 0, .int .i64 0, .slice none 0 0, .int .u16 0]) (t := 55) ?hr ?_; (case hd => rfl); (case hg => rfl); (case hr => first | (go_simp; done) | (go_simp; rfl)); intro g2 hg w2 hbox hb; have HLX2 := Aside0.mk (show w.heap.size ≤ g2 by rw [hg]; exact HB.out.size); have HNE := Aside0.mk (show g2 ≠ g1 by rw [hg]; exact Nat.ne_of_gt (blk_lt X1.out)); have n0_ := Aside0.mk (below_step HB.out hb); have n1_ := Aside0.mk (blk_below X1.out hb); clear HB X1; have HB := n0_; have X1 := n1_; clear n0_ n1_; have X2 := Aside0.mk hbox; clear hbox hb hg; have r0 := (blk_cell X2.out 0).trans rfl; have r1 := (blk_cell X2.out 1).trans rfl; have r2 := (blk_cell X2.out 2).trans rfl; have r3 := (blk_cell X2.out 3).trans rfl; have r4 := (blk_cell X2.out 4).trans rfl; have zr0 := blk_frozen X2.out 0; have zr1 := blk_frozen X2.out 1; have zr2 := blk_frozen X2.out 2; have zr3 := blk_frozen X2.out 3; have zr4 := blk_frozen X2.out 4; clear h0 zh0 h1 zh1 h2 zh2 h3 zh3 h4 zh4; have h0 := (blk_cell X1.out 0).trans rfl; have h1 := (blk_cell X1.out 1).trans rfl; have h2 := (blk_cell X1.out 2).trans rfl; have h3 := (blk_cell X1.out 3).trans rfl; have h4 := (blk_cell X1.out 4).trans rfl; have zh0 := blk_frozen X1.out 0; have zh1 := blk_frozen X1.out 1; have zh2 := blk_frozen X1.out 2; have zh3 := blk_frozen X1.out 3; have zh4 := blk_frozen X1.out 4))
 simp only [Act.put, List.setIfInBounds_toArray, List.set_cons_zero, List.set_cons_succ]
 go_cut [] (fun wc => ∃ Ao co, Aside0 (Below w.heap.size w wc) ∧ Aside0 (wc.heap[g1]? = some (.cells #[.int .i64 F_, .int .i64 Bl, .int .i64 At, .slice Ao l.length co, .int .u16 Fly] 55 (0, 0))) ∧ Aside0 (wc.heap[g2]? = some (.cells #[.int .i64 0, .int .i64 0, .int .i64 0, .slice none 0 0, .int .u16 0] 55 (0, 0))) ∧ Aside0 (l.length ≤ co) ∧ Aside0 (Kd.R (Kd.int .u16) 44 wc w.heap.size (fun _ => True) (.slice Ao l.length co) l))
 case first =>
  go_wp2_with (go_at_call 69; go_loud ((with_reducible refine (copied_c F_ Bl At A3 c3 l Fly _ (Kd.C_below HL.out HB.out) HC3.out HN.out).mono ?_); rintro e w6 ⟨⟨Ao, co, rfl, hlo, hr⟩, hb⟩; have HLO := Aside0.mk hlo; have HR := Aside0.mk (Kd.R_lower hr HB.out.size); clear h0 zh0 h1 zh1 h2 zh2 h3 zh3 h4 zh4; clear r0 zr0 r1 zr1 r2 zr2 r3 zr3 r4 zr4; have n0_ := Aside0.mk (below_step HB.out hb); have n1_ := Aside0.mk (blk_below X1.out hb); have n2_ := Aside0.mk (blk_below X2.out hb); clear HB X1 X2; have HB := n0_; have X1 := n1_; have X2 := n2_; clear n0_ n1_ n2_; clear hlo hr hb; have h0 := (blk_cell X1.out 0).trans rfl; have h1 := (blk_cell X1.out 1).trans rfl; have h2 := (blk_cell X1.out 2).trans rfl; have h3 := (blk_cell X1.out 3).trans rfl; have h4 := (blk_cell X1.out 4).trans rfl; have zh0 := blk_frozen X1.out 0; have zh1 := blk_frozen X1.out 1; have zh2 := blk_frozen X1.out 2; have zh3 := blk_frozen X1.out 3; have zh4 := blk_frozen X1.out 4; have r0 := (blk_cell X2.out 0).trans rfl; have r1 := (blk_cell X2.out 1).trans rfl; have r2 := (blk_cell X2.out 2).trans rfl; have r3 := (blk_cell X2.out 3).trans rfl; have r4 := (blk_cell X2.out 4).trans rfl; have zr0 := blk_frozen X2.out 0; have zr1 := blk_frozen X2.out 1; have zr2 := blk_frozen X2.out 2; have zr3 := blk_frozen X2.out 3; have zr4 := blk_frozen X2.out 4))
  go_meet
  exact ⟨Ao, co, ⟨below_set (below_set (below_set (below_set (below_set (HB.out) HLX1.out) HLX1.out) HLX1.out) HLX1.out) HLX1.out⟩, ⟨set_blk _ _ (set_blk _ _ (set_blk _ _ (set_blk _ _ (set_blk _ _ (X1.out) rfl) rfl) rfl) rfl) rfl⟩, ⟨(blk_far (blk_far (blk_far (blk_far (blk_far X2.out (p := ⟨g1, 0, none⟩) HNE.out _) (p := ⟨g1, 1, none⟩) HNE.out _) (p := ⟨g1, 2, none⟩) HNE.out _) (p := ⟨g1, 3, none⟩) HNE.out _) (p := ⟨g1, 4, none⟩) HNE.out _)⟩, HLO, ⟨(Kd.R_mono (Kd.R_far (p := ⟨g1, 4, none⟩) (Kd.R_far (p := ⟨g1, 3, none⟩) (Kd.R_far (p := ⟨g1, 2, none⟩) (Kd.R_far (p := ⟨g1, 1, none⟩) (Kd.R_far (p := ⟨g1, 0, none⟩) (C_farg HR.out X1.out) (fun _ hk => hk.2) _) (fun _ hk => hk.2) _) (fun _ hk => hk.2) _) (fun _ hk => hk.2) _) (fun _ hk => hk.2) _) (fun _ _ => trivial))⟩⟩
 case rest =>
  clear h0 zh0 h1 zh1 h2 zh2 h3 zh3 h4 zh4; clear r0 zr0 r1 zr1 r2 zr2 r3 zr3 r4 zr4; clear HB X1 X2
  obtain ⟨Ao, co, HB, X1, X2, HLO, HR⟩ := hcut
  have h0 := (blk_cell X1.out 0).trans rfl
  have h1 := (blk_cell X1.out 1).trans rfl
  have h2 := (blk_cell X1.out 2).trans rfl
  have h3 := (blk_cell X1.out 3).trans rfl
  have h4 := (blk_cell X1.out 4).trans rfl
  have zh0 := blk_frozen X1.out 0
  have zh1 := blk_frozen X1.out 1
  have zh2 := blk_frozen X1.out 2
  have zh3 := blk_frozen X1.out 3
  have zh4 := blk_frozen X1.out 4
  go_upto_region 2 with (fail)
  go_cut [] (fun wc => ∃ Ao co, Aside0 (Below w.heap.size w wc) ∧ Aside0 (wc.heap[g1]? = some (.cells #[.int .i64 F_, .int .i64 n, .int .i64 0, .slice Ao l.length co, .int .u16 Fly] 55 (0, 0))) ∧ Aside0 (wc.heap[g2]? = some (.cells #[.int .i64 0, .int .i64 0, .int .i64 0, .slice none 0 0, .int .u16 0] 55 (0, 0))) ∧ Aside0 (l.length ≤ co) ∧ Aside0 (Kd.R (Kd.int .u16) 44 wc w.heap.size (fun _ => True) (.slice Ao l.length co) l))
  case first =>
   go_wp2
   go_meet
   exact ⟨Ao, co, ⟨below_set (below_set (HB.out) HLX1.out) HLX1.out⟩, ⟨set_blk _ _ (set_blk _ _ (X1.out) rfl) rfl⟩, ⟨(blk_far (blk_far X2.out (p := ⟨g1, 1, none⟩) HNE.out _) (p := ⟨g1, 2, none⟩) HNE.out _)⟩, HLO, ⟨(Kd.R_mono (Kd.R_far (p := ⟨g1, 2, none⟩) (Kd.R_far (p := ⟨g1, 1, none⟩) (C_farg HR.out X1.out) (fun _ hk => hk.2) _) (fun _ hk => hk.2) _) (fun _ _ => trivial))⟩⟩
  case rest =>
   clear h0 zh0 h1 zh1 h2 zh2 h3 zh3 h4 zh4; clear HB X1 X2 HLO HR
   obtain ⟨Ao, co, HB, X1, X2, HLO, HR⟩ := hcut
   have h0 := (blk_cell X1.out 0).trans rfl
   have h1 := (blk_cell X1.out 1).trans rfl
   have h2 := (blk_cell X1.out 2).trans rfl
   have h3 := (blk_cell X1.out 3).trans rfl
   have h4 := (blk_cell X1.out 4).trans rfl
   have zh0 := blk_frozen X1.out 0
   have zh1 := blk_frozen X1.out 1
   have zh2 := blk_frozen X1.out 2
   have zh3 := blk_frozen X1.out 3
   have zh4 := blk_frozen X1.out 4
   have r0 := (blk_cell X2.out 0).trans rfl
   have r1 := (blk_cell X2.out 1).trans rfl
   have r2 := (blk_cell X2.out 2).trans rfl
   have r3 := (blk_cell X2.out 3).trans rfl
   have r4 := (blk_cell X2.out 4).trans rfl
   have zr0 := blk_frozen X2.out 0
   have zr1 := blk_frozen X2.out 1
   have zr2 := blk_frozen X2.out 2
   have zr3 := blk_frozen X2.out 3
   have zr4 := blk_frozen X2.out 4
   go_wp2
   refine bodyPost_ret (results_cell_row rfl _ _ g2 55 #[.int .i64 F_, .int .i64 n, .int .i64 0, .slice Ao l.length co, .int .u16 Fly] (0, 0) _ rfl (set_blk _ _ (set_blk _ _ (set_blk _ _ (set_blk _ _ (set_blk _ _ (X2.out) rfl) rfl) rfl) rfl) rfl) Try.underlying55 rfl (by kernel_rfl)) rfl ?_
   exact ⟨⟨Ao, co, rfl, HLO.out, (Kd.R_mono (Kd.R_far (p := ⟨g2, 4, none⟩) (Kd.R_far (p := ⟨g2, 3, none⟩) (Kd.R_far (p := ⟨g2, 2, none⟩) (Kd.R_far (p := ⟨g2, 1, none⟩) (Kd.R_far (p := ⟨g2, 0, none⟩) (C_farg HR.out X2.out) (fun _ hk => hk.2) _) (fun _ hk => hk.2) _) (fun _ hk => hk.2) _) (fun _ hk => hk.2) _) (fun _ hk => hk.2) _) (fun _ _ => trivial))⟩, below_set (below_set (below_set (below_set (below_set (HB.out) HLX2.out) HLX2.out) HLX2.out) HLX2.out) HLX2.out⟩
end Go.Proofs.Ytbfialebaoeicaa.X
