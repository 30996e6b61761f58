/- Part 18 of the proof of the statement FrameRight: the words of the walks, the walks through the functions that it reaches, and the plain laws of what they compute. -/
import Derived.Test.YtbfialebaoeicaaMFrameRight16
import Derived.Laws.CopyOwn
import Derived.Laws.MakeOwn
import Derived.RegionTactic
import Derived.ChangeAlike
import Derived.Deep.QuietTactic
import Derived.BigQuiet
namespace Go.Proofs.Ytbfialebaoeicaa.X
open Go.RowKit Go.Proofs.YtbfialebaoeicaaW.PrintWords Go.Proofs.YtbfialebaoeicaaW.PrintLast Go.Proofs.YtbfialebaoeicaaW.PrintMore
set_option linter.all false
def okN (m : List S27) (n : Int) (l : List Int) : Bool := okF m n && decide ((l.length : Int) = (rd_T27 m n).f0)
def newR (m : List S27) (n : Int) (l : List Int) : List Int := l ++ List.replicate ((rd_T27 m n).f1.toNat - l.length) 0
def NewA (m : List S27) (n : Int) (l : List Int) (w w' : World) (e : Ending) : Prop :=
 (okN m n l = false ∧ e = .returned (.tuple #[.agg #[.int .i64 0, .int .i64 0, .int .i64 0, .slice none 0 0, .int .u16 0], .int .i64 1])) ∨
 (okN m n l = true ∧ ∃ v, e = .returned (.tuple #[.agg #[.int .i64 n, .int .i64 0, .int .i64 0, v, .int .u16 0], .int .i64 0]) ∧ Kd.R (Kd.int .u16) 44 w' w.heap.size (fun _ => True) v (newR m n l))
theorem okF_size {m : List S27} {n : Int} (h : okF m n = true) : 0 ≤ (rd_T27 m n).f0 ∧ (rd_T27 m n).f0 ≤ 8 ∧ (rd_T27 m n).f0 ≤ (rd_T27 m n).f1 ∧ (rd_T27 m n).f1 ≤ 256 := by
 unfold okF at h
 rw [Bool.and_eq_true] at h
 obtain ⟨h1, h2⟩ := h
 have h3 := win_at h2
 have hm := rd_mem' m z27 n h3.1 h3.2
 unfold rightR at h1
 simp only [Bool.and_eq_true, List.all_eq_true] at h1
 have h4 := h1.2 _ hm
 unfold funcR sizeR at h4
 simp only [Bool.and_eq_true, decide_eq_true_eq] at h4
 exact ⟨h4.1.1.1.1.1.1.1, h4.1.1.1.1.1.1.2, h4.1.1.1.1.1.2, h4.1.1.1.1.2⟩
theorem blk_new2 (w : World) (a b : Obj) : ((w.alloc a).alloc b).heap[w.heap.size + 1]? = some b := by
 have := blk_new (w.alloc a) b
 rwa [show (w.alloc a).heap.size = w.heap.size + 1 from Array.size_push _] at this
theorem made_nums (R : Nat) : madeCells #[.int .u16 0] R = (nums .u16 (List.replicate R 0)).toArray := by
 apply Array.toList_inj.1
 apply List.ext_getElem
 ·simp [nums, madeCells]
 ·intro i h1 h2
  simp [nums, madeCells, Nat.mod_one]
theorem row_R {w : World} {base g n : Nat} {xs : List Int} (hb : base ≤ g) (hn : xs.length = n) (hm : n ≤ 1000000) (h : w.heap[g]? = some (.cells (nums .u16 xs).toArray 44 (0, 0))) : Kd.R (Kd.int .u16) 44 w base (fun _ => True) (.slice (some ⟨g, 0, none⟩) n n) xs := by
 subst hn
 refine Kd.R_of_own ⟨by simp [encs], .inr ⟨g, xs.length, (nums .u16 xs).toArray, rfl, hb, h, Nat.le_refl _, by simp [maxLen]; omega, by simp [nums], by simp [nums, encs]; exact List.take_of_length_le (by simp)⟩⟩ (fun _ _ => trivial)
theorem new_row (R : Nat) (l : List Int) (h : l.length ≤ R) : ((nums .u16 (List.replicate R 0)).toArray.toList.take 0 ++ (nums .u16 l ++ (nums .u16 (List.replicate R 0)).toArray.toList.drop (0 + (nums .u16 l).length))).toArray = (nums .u16 (l ++ List.replicate (R - l.length) 0)).toArray := by
 simp [nums]
set_option maxHeartbeats 16000000 in
set_option maxRecDepth 100000 in
theorem new_l (m : List S27) (A0 : Option Addr) (c0 : Nat) (n : Int) (A2 : Option Addr) (c2 : Nat) (l : List Int) (w : World) (hm : Kd.C k27 w A0 m.length m) (hb : Bnd m) (hl : Kd.C (Kd.int .u16) w A2 l.length l) :
  Calls Try.prog 34 #[.agg #[.slice A0 m.length c0], .int .i64 n, .slice A2 l.length c2] w fun e w' => NewA m n l w w' e ∧ Below w.heap.size w w' := by
 have HM := Aside0.mk hm
 have HN := Aside0.mk hb
 have HL := Aside0.mk hl
 clear hm hb hl
 have hu24 := Try.underlying24
 have hu27 := Try.underlying27
 have hu55 := Try.underlying55
 have hu41 := Try.underlying41
 go_enter Try.func34, Try.ntmps34
 go_upto_region 1 with (first | ((with_reducible refine gate_dst (N := 3) rfl ?_); refine box_event ?hg (N := 3) ?hd (cs := #[.slice A0 m.length c0]) (t := 24) ?hr ?_; (case hd => rfl); (case hg => rfl); (case hr => first | (go_simp; done) | (go_simp; rfl)); intro g1 hg w1 hbox hb; have HB := Aside0.mk hb; have X1 := Aside0.mk hbox; clear hbox hb hg; have k0 := (blk_cell X1.out 0).trans rfl) | ((with_reducible refine gate_dst (N := 6) rfl ?_); refine box_event ?hg (N := 6) ?hd (cs := #[.int .i64 0, .int .i64 0, .int .i64 0, .slice none 0 0, .int .u16 0]) (t := 55) ?hr ?_; (case hd => rfl); (case hg => rfl); (case hr => first | (go_simp; done) | (go_simp; rfl)); intro g2 hg w2 hbox hb; have HLX2 := Aside0.mk (show w.heap.size ≤ g2 by rw [hg]; exact HB.out.size); have n0_ := Aside0.mk (below_step HB.out hb); have n1_ := Aside0.mk (blk_below X1.out hb); clear HB X1; have HB := n0_; have X1 := n1_; clear n0_ n1_; have X2 := Aside0.mk hbox; clear hbox hb hg; have r0 := (blk_cell X2.out 0).trans rfl; have r1 := (blk_cell X2.out 1).trans rfl; have r2 := (blk_cell X2.out 2).trans rfl; have r3 := (blk_cell X2.out 3).trans rfl; have r4 := (blk_cell X2.out 4).trans rfl; have zr0 := blk_frozen X2.out 0; have zr1 := blk_frozen X2.out 1; have zr2 := blk_frozen X2.out 2; have zr3 := blk_frozen X2.out 3; have zr4 := blk_frozen X2.out 4; clear k0; have k0 := (blk_cell X1.out 0).trans rfl))
 go_cut [8, 9] (fun v8 v9 wc => ∃ g5 : Nat, v8 = .pointer (some ⟨g5, 0, none⟩) ∧ v9 = .bool (okF m n) ∧ Aside0 (Below w.heap.size w wc) ∧ Aside0 (wc.heap[g2]? = some (.cells #[.int .i64 0, .int .i64 0, .int .i64 0, .slice none 0 0, .int .u16 0] 55 (0, 0))) ∧ Aside0 (∃ a b A1 k c1, wc.heap[g5]? = some (.cells #[.int .i64 a, .int .i64 b, .slice A1 k c1] 27 (0, 0)) ∧ FunB m n wc a b A1 k c1))
 case first =>
  go_wp2_with (go_at_call 76; (with_reducible refine (fun_l m A0 c0 n _ (Kd.C_below HM.out HB.out) HN.out).mono ?_); rintro e w6 ⟨⟨a, b, A1, k, c1, rfl, hf⟩, hb⟩; have HF := Aside0.mk (hf.mv hb); clear hf; clear r0 zr0 r1 zr1 r2 zr2 r3 zr3 r4 zr4; have n0_ := Aside0.mk (below_step HB.out hb); have n1_ := Aside0.mk (blk_below X2.out hb); clear HB X2; have HB := n0_; have X2 := n1_; clear n0_ n1_; clear hb)
  go_meet
  exact ⟨_, rfl, rfl, ⟨below_alloc HB.out _⟩, ⟨blk_alloc X2.out _⟩, ⟨_, _, _, _, _, blk_new _ _, HF.out.mv (below_alloc (Below.refl _ _) _)⟩⟩
 case rest =>
  clear HB X2 X1 k0; clear r0 zr0 r1 zr1 r2 zr2 r3 zr3 r4 zr4
  obtain ⟨g5, rfl, rfl, HB, X2, HF⟩ := hcut
  obtain ⟨a, b, A1, k, c1, hx, hf⟩ := HF.out
  have X5 := Aside0.mk hx
  clear HF hx
  have r0 := (blk_cell X2.out 0).trans rfl
  have r1 := (blk_cell X2.out 1).trans rfl
  have r2 := (blk_cell X2.out 2).trans rfl
  have r3 := (blk_cell X2.out 3).trans rfl
  have r4 := (blk_cell X2.out 4).trans rfl
  have zr0 := blk_frozen X2.out 0
  have zr1 := blk_frozen X2.out 1
  have zr2 := blk_frozen X2.out 2
  have zr3 := blk_frozen X2.out 3
  have zr4 := blk_frozen X2.out 4
  have q0 := (blk_cell X5.out 0).trans rfl
  have q1 := (blk_cell X5.out 1).trans rfl
  have q2 := (blk_cell X5.out 2).trans rfl
  rcases hf with ⟨hv, rfl, rfl, rfl, rfl, rfl⟩ | ⟨hv, rfl, rfl, rfl, hC⟩
  ·have HV := Aside0.mk (show okN m n l = false by unfold okN; rw [hv]; rfl)
   rw [hv]
   clear hv
   go_wp2
   refine bodyPost_ret (results_ct rfl _ _ g2 55 #[.int .i64 0, .int .i64 0, .int .i64 0, .slice none 0 0, .int .u16 0] (0, 0) _ rfl (set_blk _ _ (set_blk _ _ (set_blk _ _ (set_blk _ _ (set_blk _ _ (X2.out) rfl) rfl) rfl) rfl) rfl) Try.underlying55 rfl (by kernel_rfl)) rfl ?_
   exact ⟨.inl ⟨HV.out, rfl⟩, below_set (below_set (below_set (below_set (below_set (HB.out) HLX2.out) HLX2.out) HLX2.out) HLX2.out) HLX2.out⟩
  have HS := Aside0.mk (okF_size hv)
  have HVV := Aside0.mk hv
  clear hC
  cases b2 : ((l.length : Int) == (rd_T27 m n).f0) with
  | false =>
   have b3 : ((l.length : Int) != (rd_T27 m n).f0) = true := by rw [bne, b2]; rfl
   have HV := Aside0.mk (show okN m n l = false by unfold okN; rw [hv, decide_eq_false (beq_eq_false_iff_ne.1 b2)]; rfl)
   rw [hv]
   clear hv
   go_wp2
   refine bodyPost_ret (results_ct rfl _ _ g2 55 #[.int .i64 0, .int .i64 0, .int .i64 0, .slice none 0 0, .int .u16 0] (0, 0) _ rfl (set_blk _ _ (set_blk _ _ (set_blk _ _ (set_blk _ _ (set_blk _ _ (X2.out) rfl) rfl) rfl) rfl) rfl) Try.underlying55 rfl (by kernel_rfl)) rfl ?_
   exact ⟨.inl ⟨HV.out, rfl⟩, below_set (below_set (below_set (below_set (below_set (HB.out) HLX2.out) HLX2.out) HLX2.out) HLX2.out) HLX2.out⟩
  | true =>
   have b3 : ((l.length : Int) != (rd_T27 m n).f0) = false := by rw [bne, b2]; rfl
   have HV := Aside0.mk (show okN m n l = true by unfold okN; rw [hv, decide_eq_true (beq_iff_eq.1 b2)]; rfl)
   have HE := Aside0.mk (show (l.length : Int) = (rd_T27 m n).f0 from beq_iff_eq.1 b2)
   rw [hv]
   clear hv
   obtain ⟨R, hR⟩ : ∃ R : Nat, (rd_T27 m n).f1 = R := ⟨(rd_T27 m n).f1.toNat, by have := HS.out; omega⟩
   have HR := Aside0.mk hR
   rw [hR] at q1
   have HLR := Aside0.mk (show l.length ≤ R ∧ R ≤ 256 by have := HS.out; have := HE.out; omega)
   clear hR
   have hmk : ∀ W : World, (Instr.makeSlice 33 (.int .i64 (R : Int)) (.int .i64 (R : Int))).run Try.prog W = .ok (.slice (some ⟨W.heap.size, 0, none⟩) R R) (W.alloc (.cells (madeCells #[.int .u16 0] R) 44)) := by
    intro W
    obtain ⟨i0, hi, hzz⟩ := Option.map_eq_some_iff.1 info44
    simp only [Prod.mk.injEq] at hzz
    obtain ⟨hz0, hz1, hz2⟩ := hzz
    have := run_make (P := Try.prog) W 33 44 i0 _ Try.underlying33 hi hz0 .i64 .i64 (R : Int) (R : Int) (by omega) (by omega) (by rw [hz2]; have := HLR.out; omega) (by have := HLR.out; omega)
    rw [hz1] at this
    simpa [Value.cells] using this
   have HW := Aside0.mk (show newR m n l = l ++ List.replicate (R - l.length) 0 by unfold newR; rw [HR.out, Int.toNat_natCast])
   go_upto_region 4 with (fail)
   go_cut [10] (fun v10 wc => ∃ g7 gM : Nat, v10 = .pointer (some ⟨g7, 0, none⟩) ∧ Aside0 (Below w.heap.size w wc) ∧ Aside0 (wc.heap[g2]? = some (.cells #[.int .i64 0, .int .i64 0, .int .i64 0, .slice none 0 0, .int .u16 0] 55 (0, 0))) ∧ Aside0 (wc.heap[g7]? = some (.cells #[.int .i64 n, .int .i64 0, .int .i64 0, .slice (some ⟨gM, 0, none⟩) R R, .int .u16 0] 55 (0, 0))) ∧ Aside0 (wc.heap[gM]? = some (.cells (nums .u16 (List.replicate R 0)).toArray 44 (0, 0))) ∧ Aside0 (w.heap.size ≤ gM ∧ g2 ≠ gM ∧ g7 ≠ gM))
   case first =>
    go_wp2
    go_meet
    exact ⟨_, wc.heap.size, rfl, ⟨below_alloc (below_alloc HB.out _) _⟩, ⟨blk_alloc (blk_alloc X2.out _) _⟩, ⟨blk_new2 _ _ _⟩, ⟨by rw [← made_nums]; exact blk_alloc (blk_new _ _) _⟩, ⟨HB.out.size, Nat.ne_of_lt (blk_lt X2.out), by simp⟩⟩
   case rest =>
    clear HB X2 X5 hmk q0 q1 q2
    clear r0 zr0 r1 zr1 r2 zr2 r3 zr3 r4 zr4
    obtain ⟨g7, gM, rfl, HB, X2, X7, XM, HG⟩ := hcut
    have q0 := (blk_cell X7.out 0).trans rfl
    have q1 := (blk_cell X7.out 1).trans rfl
    have q2 := (blk_cell X7.out 2).trans rfl
    have q3 := (blk_cell X7.out 3).trans rfl
    have q4 := (blk_cell X7.out 4).trans rfl
    go_upto_region 5 with (fail)
    go_cut [] (fun wc => Aside0 (Below w.heap.size w wc) ∧ Aside0 (wc.heap[g2]? = some (.cells #[.int .i64 0, .int .i64 0, .int .i64 0, .slice none 0 0, .int .u16 0] 55 (0, 0))) ∧ Aside0 (wc.heap[g7]? = some (.cells #[.int .i64 n, .int .i64 0, .int .i64 0, .slice (some ⟨gM, 0, none⟩) R R, .int .u16 0] 55 (0, 0))) ∧ Aside0 (wc.heap[gM]? = some (.cells (nums .u16 (l ++ List.replicate (R - l.length) 0)).toArray 44 (0, 0))))
    case first =>
     by_cases h0 : l.length = 0
     ·have HE0 := Aside0.mk (List.eq_nil_of_length_eq_zero h0)
      go_wp2_with ((with_reducible refine gate_builtin (b := .copy) (xs := #[.tmp 33, .tmp 34]) rfl ?_); go_loud (refine wpList_copy_nothing rfl (.tmp 33) (.tmp 34) 33 33 rfl 44 Try.underlying33 (by kernel_rfl) _ _ _ _ _ _ rfl rfl (by have := HE0.out; subst this; simp) ?_))
      go_meet
      exact ⟨HB, X2, X7, ⟨by have h_ := HE0.out; subst h_; exact XM.out⟩⟩
     ·obtain ⟨ad, e1, hrow⟩ : ∃ ad, A2 = some ad ∧ ∀ j v, (nums .u16 l)[j]? = some v → wc.cell? (ad.add j) = some v := by
       obtain ⟨ad, e1, _⟩ := Kd.at_int (Kd.C_below HL.out HB.out) 0 (by omega) (by omega)
       refine ⟨ad, e1, fun j v hj => ?_⟩
       have hjl : j < l.length := by have := (List.getElem?_eq_some_iff.1 hj).1; simpa [nums] using this
       obtain ⟨ad', e', hc⟩ := Kd.at_int (Kd.C_below HL.out HB.out) (j : Int) (by omega) (by omega)
       rw [e1] at e'
       cases e'
       have hv : v = .int .u16 (l.getD j 0) := by simp [nums, hjl] at hj; rw [← hj]; simp [List.getD_eq_getElem?_getD, hjl]
       rw [hv]
       simpa [rd] using hc
      subst e1
      have HROW := Aside0.mk hrow
      clear hrow h0
      go_wp2_with ((with_reducible refine gate_builtin (b := .copy) (xs := #[.tmp 33, .tmp 34]) rfl ?_); go_loud (refine wpList_copy_own rfl (.tmp 33) (.tmp 34) 33 33 rfl 44 Try.underlying33 (by kernel_rfl) gM 0 R R ad l.length c2 rfl rfl _ 44 XM.out (nums .u16 l) (by rw [show Nat.min l.length R = l.length from Nat.min_eq_left HLR.out.1]; simp [nums]) HROW.out (by have := HLR.out; simp [nums]; omega) (by intro v hv; simp [nums] at hv; obtain ⟨x, _, rfl⟩ := hv; rfl) ?_))
      go_meet
      refine ⟨⟨below_setRow HB.out HG.out.1 _⟩, ⟨(setRow_other _ _ _ _ HG.out.2.1).trans X2.out⟩, ⟨(setRow_other _ _ _ _ HG.out.2.2).trans X7.out⟩, ⟨?_⟩⟩
      rw [← new_row R l HLR.out.1]
      exact setRow_heap _ _ _ _ _ _ XM.out
    case rest =>
     clear HB X2 X7 XM q0 q1 q2 q3 q4
     obtain ⟨HB, X2, X7, XM⟩ := hcut
     have r0 := (blk_cell X2.out 0).trans rfl
     have r1 := (blk_cell X2.out 1).trans rfl
     have r2 := (blk_cell X2.out 2).trans rfl
     have r3 := (blk_cell X2.out 3).trans rfl
     have r4 := (blk_cell X2.out 4).trans rfl
     have zr0 := blk_frozen X2.out 0
     have zr1 := blk_frozen X2.out 1
     have zr2 := blk_frozen X2.out 2
     have zr3 := blk_frozen X2.out 3
     have zr4 := blk_frozen X2.out 4
     have q0 := (blk_cell X7.out 0).trans rfl
     have q1 := (blk_cell X7.out 1).trans rfl
     have q2 := (blk_cell X7.out 2).trans rfl
     have q3 := (blk_cell X7.out 3).trans rfl
     have q4 := (blk_cell X7.out 4).trans rfl
     go_wp2
     refine bodyPost_ret (results_ct rfl _ _ g2 55 #[.int .i64 n, .int .i64 0, .int .i64 0, .slice (some ⟨gM, 0, none⟩) R R, .int .u16 0] (0, 0) _ rfl (set_blk _ _ (set_blk _ _ (set_blk _ _ (set_blk _ _ (set_blk _ _ (X2.out) rfl) rfl) rfl) rfl) rfl) Try.underlying55 rfl (by kernel_rfl)) rfl ?_
     refine ⟨.inr ⟨HV.out, _, rfl, ?_⟩, below_set (below_set (below_set (below_set (below_set (HB.out) HLX2.out) HLX2.out) HLX2.out) HLX2.out) HLX2.out⟩
     rw [HW.out]
     exact row_R HG.out.1 (by have := HLR.out; simp; omega) (by have := HLR.out; omega) (blk_far (blk_far (blk_far (blk_far (blk_far XM.out (p := ⟨g2, 0, none⟩) HG.out.2.1.symm _) (p := ⟨g2, 1, none⟩) HG.out.2.1.symm _) (p := ⟨g2, 2, none⟩) HG.out.2.1.symm _) (p := ⟨g2, 3, none⟩) HG.out.2.1.symm _) (p := ⟨g2, 4, none⟩) HG.out.2.1.symm _)
end Go.Proofs.Ytbfialebaoeicaa.X
namespace Go.Proofs.Ytbfialebaoeicaa.X
open Go.RowKit Go.Proofs.YtbfialebaoeicaaW.PrintWords Go.Proofs.YtbfialebaoeicaaW.PrintLast Go.Proofs.YtbfialebaoeicaaW.PrintMore
set_option linter.all false
theorem NewA.ok {m : List S27} {n : Int} {l : List Int} {w w' : World} {e : Ending} (h : NewA m n l w w' e) (ho : okN m n l = true) : ∃ v, e = .returned (.tuple #[.agg #[.int .i64 n, .int .i64 0, .int .i64 0, v, .int .u16 0], .int .i64 0]) ∧ Kd.R (Kd.int .u16) 44 w' w.heap.size (fun _ => True) v (newR m n l) := by
 rcases h with ⟨h1, _⟩ | ⟨_, h2⟩
 ·rw [ho] at h1
  cases h1
 ·exact h2
theorem blk_new3 (w : World) (a b c : Obj) : (((w.alloc a).alloc b).alloc c).heap[w.heap.size + 2]? = some c := by
 have := blk_new ((w.alloc a).alloc b) c
 rwa [show ((w.alloc a).alloc b).heap.size = w.heap.size + 2 by rw [show ((w.alloc a).alloc b).heap.size = (w.alloc a).heap.size + 1 from Array.size_push _, show (w.alloc a).heap.size = w.heap.size + 1 from Array.size_push _]] at this
def b0a : S41 := ⟨false, ⟨0, [], false, false⟩, [], ⟨1, 0, 0, 0, [], 0, 0, 0⟩⟩
def m0a : List S27 := [⟨0, 2, [b0a]⟩]
theorem C_one {α : Type} (d : Kd α) {w : World} {g : Nat} {t : TypeId} (x : α) (c : List Value) (hc : c.length = d.sz) (hK : d.K w x c) (h : w.heap[g]? = some (.cells c.toArray t (0, 0))) : Kd.C d w (some ⟨g, 0, none⟩) [x].length [x] := by
 refine ⟨rfl, by simp, fun _ => ⟨_, rfl, fun j q hj => ?_⟩⟩
 have hj0 : j = 0 := by have := (List.getElem?_eq_some_iff.1 hj).1; simp at this; exact this
 subst hj0
 simp at hj
 subst hj
 refine ⟨c, hc, hK, fun i u hu => ?_⟩
 have := blk_cell h i
 rw [Nat.zero_mul, Nat.zero_add, show (⟨g, 0, none⟩ : Addr).add i = ⟨g, i, none⟩ by cases i <;> simp [Addr.add], this]
 simpa using hu
theorem C_row {w : World} {g : Nat} {xs : List Int} (hm : xs.length ≤ 1000000) (h : w.heap[g]? = some (.cells (nums .u16 xs).toArray 44 (0, 0))) : Kd.C (Kd.int .u16) w (some ⟨g, 0, none⟩) xs.length xs := by
 have hr := row_R (base := 0) (Nat.zero_le g) rfl hm h
 obtain ⟨A, c, e, _, hC⟩ := Kd.R_reads hr
 injection e with e1 e2 e3
 rw [e1]
 exact hC
theorem nilk_C {α : Type} (d : Kd α) {w : World} : Kd.C d w none ([] : List α).length [] := ⟨rfl, by simp, fun h => by simp at h⟩
theorem m0a_C {w : World} {g1 g2 : Nat} (h1 : w.heap[g1]? = some (.cells #[.bool false, .int .i64 0, .slice none 0 0, .bool false, .bool false, .slice none 0 0, .int .i64 1, .int .i64 0, .int .i64 0, .int .i64 0, .slice none 0 0, .int .i64 0, .int .i64 0, .int .i64 0] 41 (0, 0)))
  (h2 : w.heap[g2]? = some (.cells #[.int .i64 0, .int .i64 2, .slice (some ⟨g1, 0, none⟩) 1 1] 27 (0, 0))) : Kd.C k27 w (some ⟨g2, 0, none⟩) m0a.length m0a :=
 C_one k27 ⟨0, 2, [b0a]⟩ [.int .i64 0, .int .i64 2, .slice (some ⟨g1, 0, none⟩) 1 1] rfl (k27_mk w ⟨0, 2, [b0a]⟩ (A2 := some ⟨g1, 0, none⟩) (c2 := 1) (by decide)
  (C_one k41 b0a [.bool false, .int .i64 0, .slice none 0 0, .bool false, .bool false, .slice none 0 0, .int .i64 1, .int .i64 0, .int .i64 0, .int .i64 0, .slice none 0 0, .int .i64 0, .int .i64 0, .int .i64 0] rfl
   (k41_mk w b0a (A2 := none) (c2 := 0) (by decide) (nilk_C _) (A5 := none) (c5 := 0) (by decide) (nilk_C _) (A10 := none) (c10 := 0) (by decide) (nilk_C _)) h1)) h2
theorem b0a_of {b : S41} (h : b ∈ [b0a]) : b = b0a := by simpa using h
theorem f0a_B : BndF ⟨0, 2, [b0a]⟩ := ⟨by decide, fun b hb => (by rw [b0a_of hb]; decide), fun b hb => (by rw [b0a_of hb]; decide), fun b hb => (by rw [b0a_of hb]; decide), fun b hb x hx => (by rw [b0a_of hb] at hx; cases hx)⟩
theorem m0a_B : Bnd m0a := ⟨by decide, fun f hf => (by rw [show f = ⟨0, 2, [b0a]⟩ by simpa [m0a] using hf]; exact f0a_B)⟩
theorem m0a_ok : okN m0a 0 [] = true := by decide +kernel
theorem m0a_new : newR m0a 0 [] = [0, 0] := by decide +kernel
theorem m0a_fr : frR m0a 0 0 0 2 = true := by decide +kernel
set_option maxHeartbeats 16000000 in
set_option maxRecDepth 100000 in
theorem awake5_c (w : World) : Calls Try.prog 27 #[] w fun e w' => e = .returned (.bool true) ∧ Below w.heap.size w w' := by
 have hu24 := Try.underlying24
 have hu27 := Try.underlying27
 have hu55 := Try.underlying55
 have hu41 := Try.underlying41
 have hu49 := Try.underlying49
 have hu35 := Try.underlying35
 have hu39 := Try.underlying39
 have HB := Aside0.mk (Below.refl w.heap.size w)
 go_enter Try.func27, Try.ntmps27
 go_upto_region 1 with (fail)
 go_cut [1, 2] (fun v1 v2 wc => ∃ g1 : Nat, v1 = .pointer (some ⟨g1, 0, none⟩) ∧ v2 = .bool true ∧ Aside0 (Below w.heap.size w wc) ∧ Aside0 (∃ Ao co, wc.heap[g1]? = some (.cells #[.int .i64 0, .int .i64 0, .int .i64 1, .slice Ao 3 co, .int .u16 0] 55 (0, 0)) ∧ Kd.C (Kd.int .u16) wc Ao 3 [3, 4, 7]))
 case first =>
  go_wp2_with (go_at_call 28; go_loud (refine (frame_Reckon.calls 5 0 0 0 (some ⟨w.heap.size, 0, none⟩) 3 [3, 4, 0] 0 3 2 0 1 0 0 none 0 [] 0 0 1 [3, 4, 7] 0 true _ (C_row (by decide) (blk_new _ _)) (by decide) nil_C (by decide) (by decide +kernel)).mono ?_); rintro e w6 ⟨v, rfl, hr, hb⟩; obtain ⟨Ao, co, rfl, hl, hC⟩ := Kd.R_reads hr; have HC := Aside0.mk hC; have HB6 := Aside0.mk ((below_alloc HB.out _).trans (hb.mono (below_size (below_alloc HB.out _)))); clear hr hb hC)
  go_meet
  exact ⟨_, rfl, rfl, ⟨below_alloc HB6.out _⟩, ⟨Ao, co, blk_new _ _, Kd.C_below HC.out (below_alloc (Below.refl _ _) _)⟩⟩
 case rest =>
  clear HB
  obtain ⟨g1, rfl, rfl, HB, X1⟩ := hcut
  go_upto_region 2 with (fail)
  go_cut [3] (fun v3 wc => ∃ g3 : Nat, v3 = .pointer (some ⟨g3, 0, none⟩) ∧ Aside0 (Below w.heap.size w wc) ∧ Aside0 (∃ Ao co, wc.heap[g1]? = some (.cells #[.int .i64 0, .int .i64 0, .int .i64 1, .slice Ao 3 co, .int .u16 0] 55 (0, 0)) ∧ Kd.C (Kd.int .u16) wc Ao 3 [3, 4, 7]) ∧ Aside0 (∃ gf, wc.heap[g3]? = some (.cells #[.slice (some ⟨gf, 0, none⟩) 1 1] 24 (0, 0)) ∧ Kd.C k27 wc (some ⟨gf, 0, none⟩) m0a.length m0a))
  case first =>
   go_wp2
   go_meet
   obtain ⟨Ao, co, hx, hC⟩ := X1.out
   exact ⟨_, rfl, ⟨below_alloc (below_alloc (below_alloc HB.out _) _) _⟩, ⟨Ao, co, blk_below hx (below_alloc (below_alloc (below_alloc (Below.refl _ wc) _) _) _), Kd.C_below hC (below_alloc (below_alloc (below_alloc (Below.refl _ wc) _) _) _)⟩, ⟨_, blk_new3 _ _ _ _, m0a_C (g1 := wc.heap.size) (blk_alloc (blk_alloc (blk_new _ _) _) _) (blk_alloc (blk_new2 _ _ _) _)⟩⟩
  case rest =>
   clear HB X1
   obtain ⟨g3, rfl, HB, X1, X3⟩ := hcut
   obtain ⟨gf, hx3, hC3⟩ := X3.out
   have Y3 := Aside0.mk hx3
   have HC3 := Aside0.mk hC3
   have m0 := (blk_cell Y3.out 0).trans rfl
   clear hx3 hC3
   go_upto_region 3 with (fail)
   go_cut [4, 5] (fun v4 v5 wc => ∃ g4 : Nat, v4 = .pointer (some ⟨g4, 0, none⟩) ∧ v5 = .int .i64 0 ∧ Aside0 (Below w.heap.size w wc) ∧ Aside0 (∃ Ao co, wc.heap[g1]? = some (.cells #[.int .i64 0, .int .i64 0, .int .i64 1, .slice Ao 3 co, .int .u16 0] 55 (0, 0)) ∧ Kd.C (Kd.int .u16) wc Ao 3 [3, 4, 7]) ∧ Aside0 (∃ gf, wc.heap[g3]? = some (.cells #[.slice (some ⟨gf, 0, none⟩) 1 1] 24 (0, 0)) ∧ Kd.C k27 wc (some ⟨gf, 0, none⟩) m0a.length m0a) ∧ Aside0 (∃ A c, wc.heap[g4]? = some (.cells #[.int .i64 0, .int .i64 0, .int .i64 0, .slice A 2 c, .int .u16 0] 55 (0, 0))))
   case first =>
    go_wp2_with (go_at_call 34; go_loud (refine (new_l m0a (some ⟨gf, 0, none⟩) 1 0 none 0 [] _ HC3.out m0a_B nilu_C).mono ?_); rintro e w6 ⟨ha, hb⟩; obtain ⟨v, rfl, hr⟩ := ha.ok m0a_ok; rw [m0a_new] at hr; obtain ⟨Ao2, co2, rfl, hl, hC⟩ := Kd.R_reads hr; have HBN := Aside0.mk hb; clear ha hr hl hC hb)
    go_meet
    obtain ⟨Ao, co, hx, hC⟩ := X1.out
    exact ⟨_, rfl, rfl, ⟨below_alloc (HB.out.trans (HBN.out.mono HB.out.size)) _⟩, ⟨Ao, co, blk_below hx (below_alloc HBN.out _), Kd.C_below hC (below_alloc HBN.out _)⟩, ⟨gf, blk_below Y3.out (below_alloc HBN.out _), Kd.C_below HC3.out (below_alloc HBN.out _)⟩, ⟨_, _, blk_new _ _⟩⟩
   case rest =>
    clear HB X1 X3 Y3 HC3 m0
    obtain ⟨g4, rfl, rfl, HB, X1, X3, X4⟩ := hcut
    obtain ⟨gf, hx3, hC3⟩ := X3.out
    have Y3 := Aside0.mk hx3
    have HC3 := Aside0.mk hC3
    obtain ⟨Ao, co, hx1, hC1⟩ := X1.out
    have Y1 := Aside0.mk hx1
    obtain ⟨A4, c4, hx4⟩ := X4.out
    have Y4 := Aside0.mk hx4
    obtain ⟨ad, e1, h7⟩ := Kd.at_int hC1 2 (by decide) (by decide)
    subst e1
    have h7' : wc.cell? ⟨ad.block, ad.off + 2, none⟩ = some (.int .u16 7) := h7
    clear hx1 hC1 hx3 hC3 hx4 h7 X1 X3 X4
    have r0 := (blk_cell Y1.out 0).trans rfl
    have r1 := (blk_cell Y1.out 1).trans rfl
    have r2 := (blk_cell Y1.out 2).trans rfl
    have r3 := (blk_cell Y1.out 3).trans rfl
    have r4 := (blk_cell Y1.out 4).trans rfl
    have m0 := (blk_cell Y3.out 0).trans rfl
    have s0 := (blk_cell Y4.out 0).trans rfl
    have s1 := (blk_cell Y4.out 1).trans rfl
    have s2 := (blk_cell Y4.out 2).trans rfl
    have s3 := (blk_cell Y4.out 3).trans rfl
    have s4 := (blk_cell Y4.out 4).trans rfl
    have HQ := Aside0.mk (Below.refl wc.heap.size wc)
    go_wp2_with (first | (go_at_call 36; go_loud (refine (fright_l m0a (some ⟨gf, 0, none⟩) 1 0 0 0 A4 c4 [0, 0] 0 _ (Kd.C_below HC3.out HQ.out) m0a_B).mono ?_); rintro e w6 ⟨he, hb⟩; rw [show frR m0a 0 0 0 ([0, 0] : List Int).length = true from m0a_fr] at he; subst he; have HB6 := Aside0.mk (HB.out.trans (hb.mono HB.out.size)); clear hb) | (go_at_call 31; go_loud (refine (frame_Catches.calls 5 0 none 0 [] true false 5 true _ nilu_C (by decide) (by decide +kernel)).mono ?_); rintro e w7 ⟨rfl, hb⟩; have HB7 := Aside0.mk (HB6.out.trans (hb.mono HB6.out.size)); clear hb))
    go_ret
    exact ⟨rfl, HB7.out⟩
end Go.Proofs.Ytbfialebaoeicaa.X
