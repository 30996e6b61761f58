/- Part 21 of the proof of the statement ShapeNames: the words of the walks, the walks through the functions that it reaches, and the plain laws of what they compute. -/
import Derived.Test.YtbfialebaoeicaaMShapeNames19
import Derived.RegionTactic
import Derived.ChangeAlike
import Derived.Deep.QuietTactic
import Derived.BigQuiet
import Derived.StillTailTactics
import Derived.Deep.MidRow
namespace Go.Proofs.Ytbfialebaoeicaa.X
open Go.RowKit Go.Proofs.YtbfialebaoeicaaW.PrintWords Go.Proofs.YtbfialebaoeicaaW.PrintLast Go.Proofs.YtbfialebaoeicaaW.PrintMore
set_option linter.all false
open Go.Proofs.Ytbfialebaoeicaa.G
theorem mod_at {a : Int} {n : Nat} (h : 0 ≤ a ∧ a ≤ 65535) (hn : 1 ≤ n) : 0 ≤ a.tmod n ∧ a.tmod n < (n : Int) := by
 rw [Int.tmod_eq_emod_of_nonneg h.1]
 exact ⟨Int.emod_nonneg _ (by omega), Int.emod_lt_of_pos _ (by omega)⟩
theorem tdiv_at {a : Int} (h : 0 ≤ a ∧ a ≤ 65535) (d : Int) (hd : 1 ≤ d) : 0 ≤ a.tdiv d ∧ a.tdiv d ≤ 65535 := by
 rw [Int.tdiv_eq_ediv_of_nonneg h.1]
 exact ⟨Int.ediv_nonneg h.1 (by omega), Int.le_trans (Int.ediv_le_self _ h.1) h.2⟩
theorem right_pos {m : List S27} (h : rightR m = true) : 1 ≤ m.length ∧ ∀ f ∈ m, 1 ≤ f.f2.length := by
 unfold rightR at h
 simp only [Bool.and_eq_true, List.all_eq_true, decide_eq_true_eq] at h
 refine ⟨h.1.1.1, fun f hf => ?_⟩
 have h1 := h.2 f hf
 unfold funcR sizeR at h1
 simp only [Bool.and_eq_true, decide_eq_true_eq] at h1
 exact h1.1.1.1.2
theorem right_put {m : List S27} {x y : Int} {b : S41} (hb : Bnd (putB m x y b)) (hn : rightR (putB m x y b) = false) (A : Option Addr) (c : Nat) (W : World) (h : Kd.C k27 W A m.length (putB m x y b)) : Calls Try.prog 16 #[.agg #[.slice A m.length c]] W fun e w' => e = .returned (.bool false) ∧ Below W.heap.size W w' := by
 have h2 := right_l (putB m x y b) A c W (by rw [putB_len]; exact h) hb
 rw [putB_len, hn] at h2
 exact h2
theorem same_put {m : List S27} {x y : Int} {b : S41} (hb : Bnd (putB m x y b)) (hn : eqL funcE (putB m x y b) m = false) (A : Option Addr) (c : Nat) (A0 : Option Addr) (c0 : Nat) (W : World) (h : Kd.C k27 W A m.length (putB m x y b)) (h0 : Kd.C k27 W A0 m.length m) : Calls Try.prog 25 #[.agg #[.slice A m.length c], .agg #[.slice A0 m.length c0]] W fun e w' => e = .returned (.bool false) ∧ Below W.heap.size W w' := by
 have h2 := same_c (putB m x y b) A c m A0 c0 W (by rw [putB_len]; exact h) h0 hb
 rw [putB_len, hn] at h2
 exact h2
set_option maxHeartbeats 16000000 in
set_option maxRecDepth 100000 in
theorem names_c (m : List S27) (A0 : Option Addr) (c0 : Nat) (a q : Int) (w : World) (hm : Kd.C k27 w A0 m.length m) (hc0 : m.length ≤ c0) (ha : 0 ≤ a ∧ a ≤ 65535) (hq : 0 ≤ q ∧ q ≤ 255) :
  Calls Try.prog 5 #[.agg #[.slice A0 m.length c0], .int .u16 a, .int .u8 q] w fun e w' => e = .returned (.bool true) ∧ Below w.heap.size w w' := by
 have HM := Aside0.mk hm
 have HC0 := Aside0.mk hc0
 have HA := Aside0.mk ha
 have HQ := Aside0.mk hq
 clear hm hc0 ha hq
 have hu24 := Try.underlying24
 have hu27 := Try.underlying27
 have hu41 := Try.underlying41
 have hu49 := Try.underlying49
 have hu35 := Try.underlying35
 have hu39 := Try.underlying39
 obtain ⟨sh, hs1, hs2⟩ := short_c m
 have HSH := Aside0.mk hs2
 clear hs2
 cases sh with
 | false =>
  go_enter Try.func5, Try.ntmps5
  go_wp2_with (first | ((with_reducible refine gate_dst (N := 3) rfl ?_); refine box_event ?hg (N := 3) ?hd (cs := #[.slice A0 m.length c0]) (t := 24) ?hr ?_; (case hd => rfl); (case hg => rfl); (case hr => first | (go_simp; done) | (go_simp; rfl)); intro g3 hg w3 hbox hb; have HLX3 := Aside0.mk (show w.heap.size ≤ g3 by rw [hg]; exact Nat.le_refl _); have HB := Aside0.mk hb; have X3 := Aside0.mk hbox; clear hbox hb hg; have m0 := (blk_cell X3.out 0).trans rfl; have zm0 := blk_frozen X3.out 0) | (go_at_call 14; go_loud ((with_reducible refine (awake2_c _).mono ?_); rintro e w8 ⟨rfl, hb⟩; clear m0 zm0; replace HB := Aside0.mk (below_step HB.out hb); replace X3 := Aside0.mk (blk_below X3.out hb); clear hb; have m0 := (blk_cell X3.out 0).trans rfl; have zm0 := blk_frozen X3.out 0)) | (go_at_call 15; go_loud ((with_reducible refine (HSH.out A0 c0 _ (Kd.C_below HM.out HB.out) HC0.out).mono ?_); rintro e w8 ⟨rfl, hb⟩; clear m0 zm0; replace HB := Aside0.mk (below_step HB.out hb); replace X3 := Aside0.mk (blk_below X3.out hb); clear hb; have m0 := (blk_cell X3.out 0).trans rfl; have zm0 := blk_frozen X3.out 0)))
  go_ret
  exact ⟨rfl, HB.out⟩
 | true =>
  have HS := Aside0.mk (hs1 rfl)
  have HBND := Aside0.mk (Sh.bnd (hs1 rfl))
  have HN := Aside0.mk (Sh_bc (hs1 rfl))
  clear hs1
  cases hr : rightR m with
  | false =>
   have HRR := Aside0.mk hr
   clear hr
   go_enter Try.func5, Try.ntmps5
   go_wp2_with (first | ((with_reducible refine gate_dst (N := 3) rfl ?_); refine box_event ?hg (N := 3) ?hd (cs := #[.slice A0 m.length c0]) (t := 24) ?hr ?_; (case hd => rfl); (case hg => rfl); (case hr => first | (go_simp; done) | (go_simp; rfl)); intro g3 hg w3 hbox hb; have HLX3 := Aside0.mk (show w.heap.size ≤ g3 by rw [hg]; exact Nat.le_refl _); have HB := Aside0.mk hb; have X3 := Aside0.mk hbox; clear hbox hb hg; have m0 := (blk_cell X3.out 0).trans rfl; have zm0 := blk_frozen X3.out 0) | (go_at_call 14; go_loud ((with_reducible refine (awake2_c _).mono ?_); rintro e w8 ⟨rfl, hb⟩; clear m0 zm0; replace HB := Aside0.mk (below_step HB.out hb); replace X3 := Aside0.mk (blk_below X3.out hb); clear hb; have m0 := (blk_cell X3.out 0).trans rfl; have zm0 := blk_frozen X3.out 0)) | (go_at_call 15; go_loud ((with_reducible refine (HSH.out A0 c0 _ (Kd.C_below HM.out HB.out) HC0.out).mono ?_); rintro e w8 ⟨rfl, hb⟩; clear m0 zm0; replace HB := Aside0.mk (below_step HB.out hb); replace X3 := Aside0.mk (blk_below X3.out hb); clear hb; have m0 := (blk_cell X3.out 0).trans rfl; have zm0 := blk_frozen X3.out 0)) | (go_at_call 16; go_loud ((with_reducible refine (right_l m A0 c0 _ (Kd.C_below HM.out HB.out) HBND.out).mono ?_); rintro e w8 ⟨he, hb⟩; rw [HRR.out] at he; subst he; clear m0 zm0; replace HB := Aside0.mk (below_step HB.out hb); replace X3 := Aside0.mk (blk_below X3.out hb); clear hb; have m0 := (blk_cell X3.out 0).trans rfl; have zm0 := blk_frozen X3.out 0)))
   go_ret
   exact ⟨rfl, HB.out⟩
  | true =>
   have HRR := Aside0.mk hr
   have HPOS := Aside0.mk (right_pos hr)
   clear hr
   go_enter Try.func5, Try.ntmps5
   go_upto_region 5 with (first | ((with_reducible refine gate_dst (N := 3) rfl ?_); refine box_event ?hg (N := 3) ?hd (cs := #[.slice A0 m.length c0]) (t := 24) ?hr ?_; (case hd => rfl); (case hg => rfl); (case hr => first | (go_simp; done) | (go_simp; rfl)); intro g3 hg w3 hbox hb; have HLX3 := Aside0.mk (show w.heap.size ≤ g3 by rw [hg]; exact Nat.le_refl _); have HB := Aside0.mk hb; have X3 := Aside0.mk hbox; clear hbox hb hg; have m0 := (blk_cell X3.out 0).trans rfl; have zm0 := blk_frozen X3.out 0) | (go_at_call 14; go_loud ((with_reducible refine (awake2_c _).mono ?_); rintro e w8 ⟨rfl, hb⟩; clear m0 zm0; replace HB := Aside0.mk (below_step HB.out hb); replace X3 := Aside0.mk (blk_below X3.out hb); clear hb; have m0 := (blk_cell X3.out 0).trans rfl; have zm0 := blk_frozen X3.out 0)) | (go_at_call 15; go_loud ((with_reducible refine (HSH.out A0 c0 _ (Kd.C_below HM.out HB.out) HC0.out).mono ?_); rintro e w8 ⟨rfl, hb⟩; clear m0 zm0; replace HB := Aside0.mk (below_step HB.out hb); replace X3 := Aside0.mk (blk_below X3.out hb); clear hb; have m0 := (blk_cell X3.out 0).trans rfl; have zm0 := blk_frozen X3.out 0)) | (go_at_call 16; go_loud ((with_reducible refine (right_l m A0 c0 _ (Kd.C_below HM.out HB.out) HBND.out).mono ?_); rintro e w8 ⟨he, hb⟩; rw [HRR.out] at he; subst he; clear m0 zm0; replace HB := Aside0.mk (below_step HB.out hb); replace X3 := Aside0.mk (blk_below X3.out hb); clear hb; have m0 := (blk_cell X3.out 0).trans rfl; have zm0 := blk_frozen X3.out 0)))
   go_cut [7] (fun v7 wc => ∃ g7 g0 c B0 N : Nat, v7 = .pointer (some ⟨g7, 0, none⟩) ∧ Aside0 (Below w.heap.size w wc) ∧ Aside0 (wc.heap[g3]? = some (.cells #[.slice A0 m.length c0] 24 (0, 0))) ∧ Aside0 (wc.heap[g7]? = some (.cells #[.slice (some ⟨g0, 0, none⟩) m.length c] 24 (0, 0))) ∧ Aside0 (Kd.S sF 27 wc B0 (fun k => k < N) (.slice (some ⟨g0, 0, none⟩) m.length c) m) ∧ Aside0 (w.heap.size ≤ B0 ∧ g3 < B0 ∧ N ≤ g7 ∧ g3 ≠ g7))
   case first =>
    go_wp2_with (go_at_call 24; go_loud ((with_reducible refine (copy_c m A0 c0 _ (Kd.C_below HM.out HB.out) HC0.out HN.out).mono ?_); rintro e w6 ⟨⟨v6, rfl, hs⟩, hb⟩; obtain ⟨g0, c, rfl, hg0, hg1, _⟩ := Kd.S_form (d := sF) hs (by have := HPOS.out.1; omega); have HSM := Aside0.mk (Kd.S_mono (Kd.S_bound hs) (fun k hk => hk.2.2.1)); have HB6 := Aside0.mk hb; have HLT3 := Aside0.mk (blk_lt X3.out); clear hs hb hg0 hg1))
    go_meet
    exact ⟨_, g0, c, _, w6.heap.size, rfl, ⟨below_alloc (HB.out.trans (HB6.out.mono HB.out.size)) _⟩, ⟨blk_alloc (blk_below X3.out HB6.out) _⟩, ⟨blk_new _ _⟩, ⟨Kd.S_alloc HSM.out _⟩, ⟨HB.out.size, HLT3.out, Nat.le_refl _, Nat.ne_of_lt (Nat.lt_of_lt_of_le HLT3.out HB6.out.size)⟩⟩
   case rest =>
    clear m0 zm0
    clear HB X3
    obtain ⟨g7, g0, c, B0, N, rfl, HB, X3, X7, HSM, HG⟩ := hcut
    have hl0 : (m.length : Int) ≠ 0 := by have := HPOS.out.1; omega
    have hl1 : ((m.length : Int) == 0) = false := beq_eq_false_iff_ne.2 hl0
    have hl2 : ((m.length : Int) = 0) = False := eq_false hl0
    have HX := Aside0.mk (mod_at HA.out HPOS.out.1)
    have hwa : IntKind.i64.wrap a = a := (i64_w a).trans (wrap_in a (by have := HA.out; omega) (by have := HA.out; omega))
    have hl3 : (m = []) = False := eq_false (fun e => hl0 (by rw [e]; rfl))
    generalize hx : a.tmod (m.length : Int) = x at HX
    have p1 : (0 ≤ x) = True := eq_true HX.out.1
    have p2 : (x < (m.length : Int)) = True := eq_true HX.out.2
    go_upto_region 6 with (fail)
    go_cut [8] (fun v8 wd => v8 = .pointer (some ⟨g0, x.toNat * 3, none⟩) ∧ Aside0 (Below w.heap.size w wd) ∧ Aside0 (wd.heap[g3]? = some (.cells #[.slice A0 m.length c0] 24 (0, 0))) ∧ Aside0 (wd.heap[g7]? = some (.cells #[.slice (some ⟨g0, 0, none⟩) m.length c] 24 (0, 0))) ∧ Aside0 (Kd.S sF 27 wd B0 (fun k => k < N) (.slice (some ⟨g0, 0, none⟩) m.length c) m))
    case first =>
     go_wp2
     refine start_ (S := (fun W : World => Below wc.heap.size wc W)) (ds := []) #[bF,bF,bF,bF,bF,bF,bF,bF,bF,bF] (by kernel_rfl) (by rfl) (by rfl) (below_drew (Below.refl _ _)) (fun hS => ?_)
     refine pure_ (i := 0) (N := some 23) (v := .pointer (some ⟨g7, 0, none⟩)) (a' := ?axna1) #[bT,bF,bF,bF,bF,bF,bF,bF,bF,bF] rfl rfl (by kernel_rfl) (fun _ _ _ h => h) (Or.inl ⟨by rfl, ?yyna1⟩) ?hana1 ?hhna1
     case yyna1 => intro W; go_simp; done
     case hana1 => try simp only [Act.put, sA_, sZ_, sS_]; exact rfl
     refine take_ (i := 1) (N := some 24) (v := .slice (some ⟨g0, 0, none⟩) m.length c) (a' := ?axna2) #[bT,bT,bF,bF,bF,bF,bF,bF,bF,bF] rfl rfl (by kernel_rfl) (fun _ _ _ h => h) (Or.inl ⟨by rfl, ?yyna2⟩) hS ?hana2 ?hhna2
     case yyna2 => intro W hW; have n0 := (blk_cell (blk_below X7.out hW) 0).trans rfl; go_simp; done
     case hana2 => try simp only [Act.put, sA_, sZ_, sS_]; exact rfl
     refine take_ (i := 2) (N := some 25) (v := .int .u16 a) (a' := ?axna3) #[bT,bT,bT,bF,bF,bF,bF,bF,bF,bF] rfl rfl (by kernel_rfl) (fun _ _ _ h => h) (Or.inl ⟨by rfl, ?yyna3⟩) hS ?hana3 ?hhna3
     case yyna3 => intro W hW; have n0 := (blk_cell (blk_below X7.out hW) 0).trans rfl; go_simp; done
     case hana3 => try simp only [Act.put, sA_, sZ_, sS_]; exact rfl
     refine take_ (i := 3) (N := some 26) (v := .int .i64 a) (a' := ?axna4) #[bT,bT,bT,bT,bF,bF,bF,bF,bF,bF] rfl rfl (by kernel_rfl) (fun _ _ _ h => h) (Or.inl ⟨by rfl, ?yyna4⟩) hS ?hana4 ?hhna4
     case yyna4 => intro W hW; have n0 := (blk_cell (blk_below X7.out hW) 0).trans rfl; go_simp; done
     case hana4 => try simp only [Act.put, sA_, sZ_, sS_]; exact rfl
     refine pure_ (i := 4) (N := some 27) (v := .pointer (some ⟨g7, 0, none⟩)) (a' := ?axna5) #[bT,bT,bT,bT,bT,bF,bF,bF,bF,bF] rfl rfl (by kernel_rfl) (fun _ _ _ h => h) (Or.inl ⟨by rfl, ?yyna5⟩) ?hana5 ?hhna5
     case yyna5 => intro W; go_simp; done
     case hana5 => try simp only [Act.put, sA_, sZ_, sS_]; exact rfl
     refine take_ (i := 5) (N := some 28) (v := .slice (some ⟨g0, 0, none⟩) m.length c) (a' := ?axna6) #[bT,bT,bT,bT,bT,bT,bF,bF,bF,bF] rfl rfl (by kernel_rfl) (fun _ _ _ h => h) (Or.inl ⟨by rfl, ?yyna6⟩) hS ?hana6 ?hhna6
     case yyna6 => intro W hW; have n0 := (blk_cell (blk_below X7.out hW) 0).trans rfl; go_simp; done
     case hana6 => try simp only [Act.put, sA_, sZ_, sS_]; exact rfl
     refine take_ (i := 6) (N := some 29) (v := .int .i64 m.length) (a' := ?axna7) #[bT,bT,bT,bT,bT,bT,bT,bF,bF,bF] rfl rfl (by kernel_rfl) (fun _ _ _ h => h) (Or.inl ⟨by rfl, ?yyna7⟩) hS ?hana7 ?hhna7
     case yyna7 => intro W hW; have n0 := (blk_cell (blk_below X7.out hW) 0).trans rfl; go_simp; done
     case hana7 => try simp only [Act.put, sA_, sZ_, sS_]; exact rfl
     refine take_ (i := 7) (N := some 30) (v := .int .i64 x) (a' := ?axna8) #[bT,bT,bT,bT,bT,bT,bT,bT,bF,bF] rfl rfl (by kernel_rfl) (fun _ _ _ h => h) (Or.inl ⟨by rfl, ?yyna8⟩) hS ?hana8 ?hhna8
     case yyna8 => intro W hW; have n0 := (blk_cell (blk_below X7.out hW) 0).trans rfl; go_simp; done
     case hana8 => try simp only [Act.put, sA_, sZ_, sS_]; exact rfl
     refine take_ (i := 8) (N := some 31) (v := .pointer (some ⟨g0, x.toNat * 3, none⟩)) (a' := ?axna9) #[bT,bT,bT,bT,bT,bT,bT,bT,bT,bF] rfl rfl (by kernel_rfl) (fun _ _ _ h => h) (Or.inl ⟨by rfl, ?yyna9⟩) hS ?hana9 ?hhna9
     case yyna9 => intro W hW; have n0 := (blk_cell (blk_below X7.out hW) 0).trans rfl; go_simp; done
     case hana9 => try simp only [Act.put, sA_, sZ_, sS_]; exact rfl
     refine take_ (i := 9) (N := some 8) (v := .pointer (some ⟨g0, x.toNat * 3, none⟩)) (a' := ?axna10) #[bT,bT,bT,bT,bT,bT,bT,bT,bT,bT] rfl rfl (by kernel_rfl) (fun _ _ _ h => h) (Or.inl ⟨by rfl, ?yyna10⟩) hS ?hana10 ?hhna10
     case yyna10 => intro W hW; have n0 := (blk_cell (blk_below X7.out hW) 0).trans rfl; go_simp; done
     case hana10 => try simp only [Act.put, sA_, sZ_, sS_]; exact rfl
     refine done_ (by kernel_rfl) ?_
     go_wp2
     go_meet
     exact ⟨rfl, ⟨HB.out.trans (hS.mono HB.out.size)⟩, ⟨blk_below X3.out hS⟩, ⟨blk_below X7.out hS⟩, ⟨Kd.S_below HSM.out hS⟩⟩
    case rest =>
     clear hl0 hl1 hl2 hl3 hx p1 p2 HB X3 X7 HSM
     obtain ⟨rfl, HB, X3, X7, HSM⟩ := hcut
     have HMF := Aside0.mk (show rd_T27 m x ∈ m from rd_mem' m z27 x HX.out.1 HX.out.2)
     have hl0 : ((rd_T27 m x).f2.length : Int) ≠ 0 := by have := HPOS.out.2 _ HMF.out; omega
     have hl1 : (((rd_T27 m x).f2.length : Int) == 0) = false := beq_eq_false_iff_ne.2 hl0
     have hl2 : (((rd_T27 m x).f2.length : Int) = 0) = False := eq_false hl0
     have hl3 : ((rd_T27 m x).f2 = []) = False := eq_false (fun e => hl0 (by rw [e]; rfl))
     have hwd : IntKind.i64.wrap (a.tdiv 5) = a.tdiv 5 := (i64_w _).trans (wrap_in _ (by have := tdiv_at HA.out 5 (by decide); omega) (by have := tdiv_at HA.out 5 (by decide); omega))
     have HY := Aside0.mk (show 0 ≤ ((a.tdiv 5).tmod ((rd_T27 m x).f2.length : Int)) ∧ ((a.tdiv 5).tmod ((rd_T27 m x).f2.length : Int)) < ((rd_T27 m x).f2.length : Int) by have h5 := tdiv_at HA.out 5 (by decide); rw [Int.tmod_eq_emod_of_nonneg h5.1]; exact ⟨Int.emod_nonneg _ hl0, Int.emod_lt_of_pos _ (by have := HPOS.out.2 _ HMF.out; omega)⟩)
     generalize hy : ((a.tdiv 5).tmod ((rd_T27 m x).f2.length : Int)) = y at HY
     obtain ⟨b, hb⟩ : ∃ b, rd_T41 (rd_T27 m x).f2 y = b := ⟨_, rfl⟩
     have HBX := Aside0.mk hb
     clear hb
     obtain ⟨gb, c2, ⟨hr1, hr2⟩, ⟨hg0, hg1, hg2⟩, ⟨k0, k1, k3, k4, k6, k7, k8, k9, k11, k12, k13⟩, hfz, _⟩ := SM_block HSM.out x y HX.out.1 HX.out.2 HY.out.1 HY.out.2 HBX.out
     have HGB := Aside0.mk (And.intro hg0 hg2)
     have p3 : (0 ≤ y) = True := eq_true HY.out.1
     have p4 : (y < ((rd_T27 m x).f2.length : Int)) = True := eq_true HY.out.2
     clear hg0 hg1 hg2 hfz
     go_upto_region 7 with (fail)
     go_cut [9] (fun v9 wd => v9 = .pointer (some ⟨gb, y.toNat * 14, none⟩) ∧ Aside0 (Below w.heap.size w wd) ∧ Aside0 (wd.heap[g3]? = some (.cells #[.slice A0 m.length c0] 24 (0, 0))) ∧ Aside0 (wd.heap[g7]? = some (.cells #[.slice (some ⟨g0, 0, none⟩) m.length c] 24 (0, 0))) ∧ Aside0 (Kd.S sF 27 wd B0 (fun k => k < N) (.slice (some ⟨g0, 0, none⟩) m.length c) m) ∧ Aside0 (wd.cell? ⟨g0, x.toNat * 3 + 2, none⟩ = some (.slice (some ⟨gb, 0, none⟩) (rd_T27 m x).f2.length c2)))
     case first =>
      go_wp2
      refine start_ (S := (fun W : World => Below wc.heap.size wc W)) (ds := []) #[bF,bF,bF,bF,bF,bF,bF,bF,bF,bF,bF,bF,bF,bF,bF] (by kernel_rfl) (by rfl) (by rfl) (below_drew (Below.refl _ _)) (fun hS => ?_)
      refine take_ (i := 0) (N := some 32) (v := .pointer (some ⟨g0, x.toNat * 3, none⟩)) (a' := ?axnb1) #[bT,bF,bF,bF,bF,bF,bF,bF,bF,bF,bF,bF,bF,bF,bF] rfl rfl (by kernel_rfl) (fun _ _ _ h => h) (Or.inl ⟨by rfl, ?yynb1⟩) hS ?hanb1 ?hhnb1
      case yynb1 => intro W hW; have y2 := pw_cell_below hW hr2; go_simp; done
      case hanb1 => try simp only [Act.put, sA_, sZ_, sS_]; exact rfl
      refine take_ (i := 1) (N := some 33) (v := .pointer (some ⟨g0, x.toNat * 3, none⟩)) (a' := ?axnb2) #[bT,bT,bF,bF,bF,bF,bF,bF,bF,bF,bF,bF,bF,bF,bF] rfl rfl (by kernel_rfl) (fun _ _ _ h => h) (Or.inl ⟨by rfl, ?yynb2⟩) hS ?hanb2 ?hhnb2
      case yynb2 => intro W hW; have y2 := pw_cell_below hW hr2; go_simp; done
      case hanb2 => try simp only [Act.put, sA_, sZ_, sS_]; exact rfl
      refine take_ (i := 2) (N := some 34) (v := .pointer (some ⟨g0, x.toNat * 3 + 2, none⟩)) (a' := ?axnb3) #[bT,bT,bT,bF,bF,bF,bF,bF,bF,bF,bF,bF,bF,bF,bF] rfl rfl (by kernel_rfl) (fun _ _ _ h => h) (Or.inl ⟨by rfl, ?yynb3⟩) hS ?hanb3 ?hhnb3
      case yynb3 => intro W hW; have y2 := pw_cell_below hW hr2; go_simp; done
      case hanb3 => try simp only [Act.put, sA_, sZ_, sS_]; exact rfl
      refine take_ (i := 3) (N := some 35) (v := .slice (some ⟨gb, 0, none⟩) (rd_T27 m x).f2.length c2) (a' := ?axnb4) #[bT,bT,bT,bT,bF,bF,bF,bF,bF,bF,bF,bF,bF,bF,bF] rfl rfl (by kernel_rfl) (fun _ _ _ h => h) (Or.inl ⟨by rfl, ?yynb4⟩) hS ?hanb4 ?hhnb4
      case yynb4 => intro W hW; have y2 := pw_cell_below hW hr2; go_simp; done
      case hanb4 => try simp only [Act.put, sA_, sZ_, sS_]; exact rfl
      refine take_ (i := 4) (N := some 36) (v := .int .u16 a) (a' := ?axnb5) #[bT,bT,bT,bT,bT,bF,bF,bF,bF,bF,bF,bF,bF,bF,bF] rfl rfl (by kernel_rfl) (fun _ _ _ h => h) (Or.inl ⟨by rfl, ?yynb5⟩) hS ?hanb5 ?hhnb5
      case yynb5 => intro W hW; have y2 := pw_cell_below hW hr2; go_simp; done
      case hanb5 => try simp only [Act.put, sA_, sZ_, sS_]; exact rfl
      refine take_ (i := 5) (N := some 37) (v := .int .i64 a) (a' := ?axnb6) #[bT,bT,bT,bT,bT,bT,bF,bF,bF,bF,bF,bF,bF,bF,bF] rfl rfl (by kernel_rfl) (fun _ _ _ h => h) (Or.inl ⟨by rfl, ?yynb6⟩) hS ?hanb6 ?hhnb6
      case yynb6 => intro W hW; have y2 := pw_cell_below hW hr2; go_simp; done
      case hanb6 => try simp only [Act.put, sA_, sZ_, sS_]; exact rfl
      refine take_ (i := 6) (N := some 38) (v := .int .i64 (a.tdiv 5)) (a' := ?axnb7) #[bT,bT,bT,bT,bT,bT,bT,bF,bF,bF,bF,bF,bF,bF,bF] rfl rfl (by kernel_rfl) (fun _ _ _ h => h) (Or.inl ⟨by rfl, ?yynb7⟩) hS ?hanb7 ?hhnb7
      case yynb7 => intro W hW; have y2 := pw_cell_below hW hr2; go_simp; done
      case hanb7 => try simp only [Act.put, sA_, sZ_, sS_]; exact rfl
      refine take_ (i := 7) (N := some 39) (v := .pointer (some ⟨g0, x.toNat * 3, none⟩)) (a' := ?axnb8) #[bT,bT,bT,bT,bT,bT,bT,bT,bF,bF,bF,bF,bF,bF,bF] rfl rfl (by kernel_rfl) (fun _ _ _ h => h) (Or.inl ⟨by rfl, ?yynb8⟩) hS ?hanb8 ?hhnb8
      case yynb8 => intro W hW; have y2 := pw_cell_below hW hr2; go_simp; done
      case hanb8 => try simp only [Act.put, sA_, sZ_, sS_]; exact rfl
      refine take_ (i := 8) (N := some 40) (v := .pointer (some ⟨g0, x.toNat * 3, none⟩)) (a' := ?axnb9) #[bT,bT,bT,bT,bT,bT,bT,bT,bT,bF,bF,bF,bF,bF,bF] rfl rfl (by kernel_rfl) (fun _ _ _ h => h) (Or.inl ⟨by rfl, ?yynb9⟩) hS ?hanb9 ?hhnb9
      case yynb9 => intro W hW; have y2 := pw_cell_below hW hr2; go_simp; done
      case hanb9 => try simp only [Act.put, sA_, sZ_, sS_]; exact rfl
      refine take_ (i := 9) (N := some 41) (v := .pointer (some ⟨g0, x.toNat * 3 + 2, none⟩)) (a' := ?axnb10) #[bT,bT,bT,bT,bT,bT,bT,bT,bT,bT,bF,bF,bF,bF,bF] rfl rfl (by kernel_rfl) (fun _ _ _ h => h) (Or.inl ⟨by rfl, ?yynb10⟩) hS ?hanb10 ?hhnb10
      case yynb10 => intro W hW; have y2 := pw_cell_below hW hr2; go_simp; done
      case hanb10 => try simp only [Act.put, sA_, sZ_, sS_]; exact rfl
      refine take_ (i := 10) (N := some 42) (v := .slice (some ⟨gb, 0, none⟩) (rd_T27 m x).f2.length c2) (a' := ?axnb11) #[bT,bT,bT,bT,bT,bT,bT,bT,bT,bT,bT,bF,bF,bF,bF] rfl rfl (by kernel_rfl) (fun _ _ _ h => h) (Or.inl ⟨by rfl, ?yynb11⟩) hS ?hanb11 ?hhnb11
      case yynb11 => intro W hW; have y2 := pw_cell_below hW hr2; go_simp; done
      case hanb11 => try simp only [Act.put, sA_, sZ_, sS_]; exact rfl
      refine take_ (i := 11) (N := some 43) (v := .int .i64 (rd_T27 m x).f2.length) (a' := ?axnb12) #[bT,bT,bT,bT,bT,bT,bT,bT,bT,bT,bT,bT,bF,bF,bF] rfl rfl (by kernel_rfl) (fun _ _ _ h => h) (Or.inl ⟨by rfl, ?yynb12⟩) hS ?hanb12 ?hhnb12
      case yynb12 => intro W hW; have y2 := pw_cell_below hW hr2; go_simp; done
      case hanb12 => try simp only [Act.put, sA_, sZ_, sS_]; exact rfl
      refine take_ (i := 12) (N := some 44) (v := .int .i64 y) (a' := ?axnb13) #[bT,bT,bT,bT,bT,bT,bT,bT,bT,bT,bT,bT,bT,bF,bF] rfl rfl (by kernel_rfl) (fun _ _ _ h => h) (Or.inl ⟨by rfl, ?yynb13⟩) hS ?hanb13 ?hhnb13
      case yynb13 => intro W hW; have y2 := pw_cell_below hW hr2; go_simp; done
      case hanb13 => try simp only [Act.put, sA_, sZ_, sS_]; exact rfl
      refine take_ (i := 13) (N := some 45) (v := .pointer (some ⟨gb, y.toNat * 14, none⟩)) (a' := ?axnb14) #[bT,bT,bT,bT,bT,bT,bT,bT,bT,bT,bT,bT,bT,bT,bF] rfl rfl (by kernel_rfl) (fun _ _ _ h => h) (Or.inl ⟨by rfl, ?yynb14⟩) hS ?hanb14 ?hhnb14
      case yynb14 => intro W hW; have y2 := pw_cell_below hW hr2; go_simp; done
      case hanb14 => try simp only [Act.put, sA_, sZ_, sS_]; exact rfl
      refine take_ (i := 14) (N := some 9) (v := .pointer (some ⟨gb, y.toNat * 14, none⟩)) (a' := ?axnb15) #[bT,bT,bT,bT,bT,bT,bT,bT,bT,bT,bT,bT,bT,bT,bT] rfl rfl (by kernel_rfl) (fun _ _ _ h => h) (Or.inl ⟨by rfl, ?yynb15⟩) hS ?hanb15 ?hhnb15
      case yynb15 => intro W hW; have y2 := pw_cell_below hW hr2; go_simp; done
      case hanb15 => try simp only [Act.put, sA_, sZ_, sS_]; exact rfl
      refine done_ (by kernel_rfl) ?_
      go_wp2
      go_meet
      exact ⟨rfl, ⟨HB.out.trans (hS.mono HB.out.size)⟩, ⟨blk_below X3.out hS⟩, ⟨blk_below X7.out hS⟩, ⟨Kd.S_below HSM.out hS⟩, ⟨pw_cell_below hS hr2⟩⟩
     case rest =>
      clear hl0 hl1 hl2 hl3 hy hwd p3 p4 hr1 hr2 k0 k1 k3 k4 k6 k7 k8 k9 k11 k12 k13
      clear HB X3 X7 HSM
      obtain ⟨rfl, HB, X3, X7, HSM, HR2⟩ := hcut
      obtain ⟨gb', c2', ⟨hr1, hr2⟩, ⟨hg0, hg1, hg2⟩, ⟨k0, k1, k3, k4, k6, k7, k8, k9, k11, k12, k13⟩, hfz, hTo, hF, hA, hDst⟩ := SM_block HSM.out x y HX.out.1 HX.out.2 HY.out.1 HY.out.2 HBX.out
      have e_ := HR2.out.symm.trans hr2
      simp only [Option.some.injEq, Value.slice.injEq, Addr.mk.injEq, and_true, true_and] at e_
      obtain ⟨e1_, e2_⟩ := e_
      subst e1_
      subst e2_
      clear HR2
      have HFO := Aside0.mk (And.intro hTo (And.intro hF (And.intro hA hDst)))
      have HGG := Aside0.mk (show w.heap.size ≤ gb ∧ g3 ≠ gb ∧ g7 ≠ gb by have := HG.out; have := HGB.out; omega)
      clear hTo hF hA hDst hg0 hg1 hg2 hwa
      have m0 := (blk_cell X3.out 0).trans rfl
      have zm0 := blk_frozen X3.out 0
      have n0 := (blk_cell X7.out 0).trans rfl
      have zn0 := blk_frozen X7.out 0
      have z11 := hfz 11
      have z9 := hfz 9
      have z7 := hfz 7
      have z1 := hfz 1
      clear hfz
      have hq4 : q.tmod 4 = 0 ∨ q.tmod 4 = 1 ∨ q.tmod 4 = 2 ∨ q.tmod 4 = 3 := by have h_ := Int.tmod_eq_emod_of_nonneg (b := 4) HQ.out.1; omega
      rcases hq4 with hq4 | hq4 | hq4 | hq4
      ·skip
       by_cases hk2 : b.f3.f0 = 2
       skip
       ·have hk := hk2
        have b2 : (b.f3.f0 != 2) = false := by rw [hk]; rfl
        have HKD := Aside0.mk hk
        clear hk hk2
        have HNO := Aside0.mk (putB_no HX.out.1 HX.out.2 HY.out.1 HY.out.2 (b := (setTo b ((rd_T27 m x).f2.length : Int))) (by have h_ := no_to (putB m x y (setTo b ((rd_T27 m x).f2.length : Int))) ⟨(rd_T27 m x).f0, (rd_T27 m x).f1, (rd_T27 m x).f2.set y.toNat (setTo b ((rd_T27 m x).f2.length : Int))⟩ b (.inl HKD.out); rw [show (⟨(rd_T27 m x).f0, (rd_T27 m x).f1, (rd_T27 m x).f2.set y.toNat (setTo b ((rd_T27 m x).f2.length : Int))⟩ : S27).f2.length = (rd_T27 m x).f2.length from List.length_set ..] at h_; exact h_))
        have HNE := Aside0.mk (putB_ne HRR.out HNO.out)
        have HBN := Aside0.mk (bnd_put HBND.out HX.out.1 HX.out.2 HY.out.1 HY.out.2 HBX.out (b' := (setTo b ((rd_T27 m x).f2.length : Int))) rfl rfl rfl)
        have HSN := Aside0.mk (HFO.out.1 ((rd_T27 m x).f2.length : Int))
        have HCM := Aside0.mk (show Kd.C k27 (wc.setCell ⟨gb, y.toNat * 14 + 11, none⟩ (.int .i64 ((rd_T27 m x).f2.length : Int))) (some ⟨g0, 0, none⟩) m.length (putB m x y (setTo b ((rd_T27 m x).f2.length : Int))) from by have h_ := (Kd.S_reads' (d := sF) HSN.out).2.2; rw [putB_len] at h_; exact h_)
        have HB_ := Aside0.mk (show Below w.heap.size w (wc.setCell ⟨gb, y.toNat * 14 + 11, none⟩ (.int .i64 ((rd_T27 m x).f2.length : Int))) from below_set HB.out HGG.out.1)
        have X3_ := Aside0.mk (show (wc.setCell ⟨gb, y.toNat * 14 + 11, none⟩ (.int .i64 ((rd_T27 m x).f2.length : Int))).heap[g3]? = some (.cells #[.slice A0 m.length c0] 24 (0, 0)) from blk_far X3.out (p := ⟨gb, _, none⟩) HGG.out.2.1 _)
        have X7_ := Aside0.mk (show (wc.setCell ⟨gb, y.toNat * 14 + 11, none⟩ (.int .i64 ((rd_T27 m x).f2.length : Int))).heap[g7]? = some (.cells #[.slice (some ⟨g0, 0, none⟩) m.length c] 24 (0, 0)) from blk_far X7.out (p := ⟨gb, _, none⟩) HGG.out.2.2 _)
        clear HB X3 X7 HSM HSN
        have HB := HB_
        have X3 := X3_
        have X7 := X7_
        clear HB_ X3_ X7_
        have ma0 := (blk_cell X3.out 0).trans rfl
        have zma0 := blk_frozen X3.out 0
        have na0 := (blk_cell X7.out 0).trans rfl
        have zna0 := blk_frozen X7.out 0
        go_wp2_with (first | (go_at_call 16; first | ((with_reducible refine (right_put HBN.out HNO.out _ _ _ HCM.out).mono ?_); rintro e w8 ⟨rfl, hb⟩; clear ma0 zma0 na0 zna0; replace HB := Aside0.mk (below_step HB.out hb); replace X3 := Aside0.mk (blk_below X3.out hb); replace X7 := Aside0.mk (blk_below X7.out hb); replace HCM := Aside0.mk (Kd.C_below HCM.out hb); clear hb; have ma0 := (blk_cell X3.out 0).trans rfl; have zma0 := blk_frozen X3.out 0; have na0 := (blk_cell X7.out 0).trans rfl; have zna0 := blk_frozen X7.out 0) | ((with_reducible refine (right_l m A0 c0 _ (Kd.C_below HM.out HB.out) HBND.out).mono ?_); rintro e w8 ⟨he, hb⟩; rw [HRR.out] at he; subst he; clear ma0 zma0 na0 zna0; replace HB := Aside0.mk (below_step HB.out hb); replace X3 := Aside0.mk (blk_below X3.out hb); replace X7 := Aside0.mk (blk_below X7.out hb); replace HCM := Aside0.mk (Kd.C_below HCM.out hb); clear hb; have ma0 := (blk_cell X3.out 0).trans rfl; have zma0 := blk_frozen X3.out 0; have na0 := (blk_cell X7.out 0).trans rfl; have zna0 := blk_frozen X7.out 0)) | (go_at_call 25; go_loud ((with_reducible refine (same_put HBN.out HNE.out _ _ A0 c0 _ HCM.out (Kd.C_below HM.out HB.out)).mono ?_); rintro e w8 ⟨rfl, hb⟩; clear ma0 zma0 na0 zna0; replace HB := Aside0.mk (below_step HB.out hb); replace X3 := Aside0.mk (blk_below X3.out hb); replace X7 := Aside0.mk (blk_below X7.out hb); replace HCM := Aside0.mk (Kd.C_below HCM.out hb); clear hb; have ma0 := (blk_cell X3.out 0).trans rfl; have zma0 := blk_frozen X3.out 0; have na0 := (blk_cell X7.out 0).trans rfl; have zna0 := blk_frozen X7.out 0)))
        go_ret
        exact ⟨rfl, HB.out⟩
       by_cases hk3 : b.f3.f0 = 3
       skip
       ·have hk := hk3
        have b2 : (b.f3.f0 != 2) = true := by rw [hk]; rfl
        have b3 : (b.f3.f0 != 3) = false := by rw [hk]; rfl
        have HKD := Aside0.mk hk
        clear hk hk2 hk3
        have HNO := Aside0.mk (putB_no HX.out.1 HX.out.2 HY.out.1 HY.out.2 (b := (setTo b ((rd_T27 m x).f2.length : Int))) (by have h_ := no_to (putB m x y (setTo b ((rd_T27 m x).f2.length : Int))) ⟨(rd_T27 m x).f0, (rd_T27 m x).f1, (rd_T27 m x).f2.set y.toNat (setTo b ((rd_T27 m x).f2.length : Int))⟩ b (.inr (.inl HKD.out)); rw [show (⟨(rd_T27 m x).f0, (rd_T27 m x).f1, (rd_T27 m x).f2.set y.toNat (setTo b ((rd_T27 m x).f2.length : Int))⟩ : S27).f2.length = (rd_T27 m x).f2.length from List.length_set ..] at h_; exact h_))
        have HNE := Aside0.mk (putB_ne HRR.out HNO.out)
        have HBN := Aside0.mk (bnd_put HBND.out HX.out.1 HX.out.2 HY.out.1 HY.out.2 HBX.out (b' := (setTo b ((rd_T27 m x).f2.length : Int))) rfl rfl rfl)
        have HSN := Aside0.mk (HFO.out.1 ((rd_T27 m x).f2.length : Int))
        have HCM := Aside0.mk (show Kd.C k27 (wc.setCell ⟨gb, y.toNat * 14 + 11, none⟩ (.int .i64 ((rd_T27 m x).f2.length : Int))) (some ⟨g0, 0, none⟩) m.length (putB m x y (setTo b ((rd_T27 m x).f2.length : Int))) from by have h_ := (Kd.S_reads' (d := sF) HSN.out).2.2; rw [putB_len] at h_; exact h_)
        have HB_ := Aside0.mk (show Below w.heap.size w (wc.setCell ⟨gb, y.toNat * 14 + 11, none⟩ (.int .i64 ((rd_T27 m x).f2.length : Int))) from below_set HB.out HGG.out.1)
        have X3_ := Aside0.mk (show (wc.setCell ⟨gb, y.toNat * 14 + 11, none⟩ (.int .i64 ((rd_T27 m x).f2.length : Int))).heap[g3]? = some (.cells #[.slice A0 m.length c0] 24 (0, 0)) from blk_far X3.out (p := ⟨gb, _, none⟩) HGG.out.2.1 _)
        have X7_ := Aside0.mk (show (wc.setCell ⟨gb, y.toNat * 14 + 11, none⟩ (.int .i64 ((rd_T27 m x).f2.length : Int))).heap[g7]? = some (.cells #[.slice (some ⟨g0, 0, none⟩) m.length c] 24 (0, 0)) from blk_far X7.out (p := ⟨gb, _, none⟩) HGG.out.2.2 _)
        clear HB X3 X7 HSM HSN
        have HB := HB_
        have X3 := X3_
        have X7 := X7_
        clear HB_ X3_ X7_
        have ma0 := (blk_cell X3.out 0).trans rfl
        have zma0 := blk_frozen X3.out 0
        have na0 := (blk_cell X7.out 0).trans rfl
        have zna0 := blk_frozen X7.out 0
        go_wp2_with (first | (go_at_call 16; first | ((with_reducible refine (right_put HBN.out HNO.out _ _ _ HCM.out).mono ?_); rintro e w8 ⟨rfl, hb⟩; clear ma0 zma0 na0 zna0; replace HB := Aside0.mk (below_step HB.out hb); replace X3 := Aside0.mk (blk_below X3.out hb); replace X7 := Aside0.mk (blk_below X7.out hb); replace HCM := Aside0.mk (Kd.C_below HCM.out hb); clear hb; have ma0 := (blk_cell X3.out 0).trans rfl; have zma0 := blk_frozen X3.out 0; have na0 := (blk_cell X7.out 0).trans rfl; have zna0 := blk_frozen X7.out 0) | ((with_reducible refine (right_l m A0 c0 _ (Kd.C_below HM.out HB.out) HBND.out).mono ?_); rintro e w8 ⟨he, hb⟩; rw [HRR.out] at he; subst he; clear ma0 zma0 na0 zna0; replace HB := Aside0.mk (below_step HB.out hb); replace X3 := Aside0.mk (blk_below X3.out hb); replace X7 := Aside0.mk (blk_below X7.out hb); replace HCM := Aside0.mk (Kd.C_below HCM.out hb); clear hb; have ma0 := (blk_cell X3.out 0).trans rfl; have zma0 := blk_frozen X3.out 0; have na0 := (blk_cell X7.out 0).trans rfl; have zna0 := blk_frozen X7.out 0)) | (go_at_call 25; go_loud ((with_reducible refine (same_put HBN.out HNE.out _ _ A0 c0 _ HCM.out (Kd.C_below HM.out HB.out)).mono ?_); rintro e w8 ⟨rfl, hb⟩; clear ma0 zma0 na0 zna0; replace HB := Aside0.mk (below_step HB.out hb); replace X3 := Aside0.mk (blk_below X3.out hb); replace X7 := Aside0.mk (blk_below X7.out hb); replace HCM := Aside0.mk (Kd.C_below HCM.out hb); clear hb; have ma0 := (blk_cell X3.out 0).trans rfl; have zma0 := blk_frozen X3.out 0; have na0 := (blk_cell X7.out 0).trans rfl; have zna0 := blk_frozen X7.out 0)))
        go_ret
        exact ⟨rfl, HB.out⟩
       by_cases hk4 : b.f3.f0 = 4
       skip
       ·have hk := hk4
        have b2 : (b.f3.f0 != 2) = true := by rw [hk]; rfl
        have b3 : (b.f3.f0 != 3) = true := by rw [hk]; rfl
        have b4 : (b.f3.f0 != 4) = false := by rw [hk]; rfl
        have HKD := Aside0.mk hk
        clear hk hk2 hk3 hk4
        have HNO := Aside0.mk (putB_no HX.out.1 HX.out.2 HY.out.1 HY.out.2 (b := (setTo b ((rd_T27 m x).f2.length : Int))) (by have h_ := no_to (putB m x y (setTo b ((rd_T27 m x).f2.length : Int))) ⟨(rd_T27 m x).f0, (rd_T27 m x).f1, (rd_T27 m x).f2.set y.toNat (setTo b ((rd_T27 m x).f2.length : Int))⟩ b (.inr (.inr (HKD.out))); rw [show (⟨(rd_T27 m x).f0, (rd_T27 m x).f1, (rd_T27 m x).f2.set y.toNat (setTo b ((rd_T27 m x).f2.length : Int))⟩ : S27).f2.length = (rd_T27 m x).f2.length from List.length_set ..] at h_; exact h_))
        have HNE := Aside0.mk (putB_ne HRR.out HNO.out)
        have HBN := Aside0.mk (bnd_put HBND.out HX.out.1 HX.out.2 HY.out.1 HY.out.2 HBX.out (b' := (setTo b ((rd_T27 m x).f2.length : Int))) rfl rfl rfl)
        have HSN := Aside0.mk (HFO.out.1 ((rd_T27 m x).f2.length : Int))
        have HCM := Aside0.mk (show Kd.C k27 (wc.setCell ⟨gb, y.toNat * 14 + 11, none⟩ (.int .i64 ((rd_T27 m x).f2.length : Int))) (some ⟨g0, 0, none⟩) m.length (putB m x y (setTo b ((rd_T27 m x).f2.length : Int))) from by have h_ := (Kd.S_reads' (d := sF) HSN.out).2.2; rw [putB_len] at h_; exact h_)
        have HB_ := Aside0.mk (show Below w.heap.size w (wc.setCell ⟨gb, y.toNat * 14 + 11, none⟩ (.int .i64 ((rd_T27 m x).f2.length : Int))) from below_set HB.out HGG.out.1)
        have X3_ := Aside0.mk (show (wc.setCell ⟨gb, y.toNat * 14 + 11, none⟩ (.int .i64 ((rd_T27 m x).f2.length : Int))).heap[g3]? = some (.cells #[.slice A0 m.length c0] 24 (0, 0)) from blk_far X3.out (p := ⟨gb, _, none⟩) HGG.out.2.1 _)
        have X7_ := Aside0.mk (show (wc.setCell ⟨gb, y.toNat * 14 + 11, none⟩ (.int .i64 ((rd_T27 m x).f2.length : Int))).heap[g7]? = some (.cells #[.slice (some ⟨g0, 0, none⟩) m.length c] 24 (0, 0)) from blk_far X7.out (p := ⟨gb, _, none⟩) HGG.out.2.2 _)
        clear HB X3 X7 HSM HSN
        have HB := HB_
        have X3 := X3_
        have X7 := X7_
        clear HB_ X3_ X7_
        have ma0 := (blk_cell X3.out 0).trans rfl
        have zma0 := blk_frozen X3.out 0
        have na0 := (blk_cell X7.out 0).trans rfl
        have zna0 := blk_frozen X7.out 0
        go_wp2_with (first | (go_at_call 16; first | ((with_reducible refine (right_put HBN.out HNO.out _ _ _ HCM.out).mono ?_); rintro e w8 ⟨rfl, hb⟩; clear ma0 zma0 na0 zna0; replace HB := Aside0.mk (below_step HB.out hb); replace X3 := Aside0.mk (blk_below X3.out hb); replace X7 := Aside0.mk (blk_below X7.out hb); replace HCM := Aside0.mk (Kd.C_below HCM.out hb); clear hb; have ma0 := (blk_cell X3.out 0).trans rfl; have zma0 := blk_frozen X3.out 0; have na0 := (blk_cell X7.out 0).trans rfl; have zna0 := blk_frozen X7.out 0) | ((with_reducible refine (right_l m A0 c0 _ (Kd.C_below HM.out HB.out) HBND.out).mono ?_); rintro e w8 ⟨he, hb⟩; rw [HRR.out] at he; subst he; clear ma0 zma0 na0 zna0; replace HB := Aside0.mk (below_step HB.out hb); replace X3 := Aside0.mk (blk_below X3.out hb); replace X7 := Aside0.mk (blk_below X7.out hb); replace HCM := Aside0.mk (Kd.C_below HCM.out hb); clear hb; have ma0 := (blk_cell X3.out 0).trans rfl; have zma0 := blk_frozen X3.out 0; have na0 := (blk_cell X7.out 0).trans rfl; have zna0 := blk_frozen X7.out 0)) | (go_at_call 25; go_loud ((with_reducible refine (same_put HBN.out HNE.out _ _ A0 c0 _ HCM.out (Kd.C_below HM.out HB.out)).mono ?_); rintro e w8 ⟨rfl, hb⟩; clear ma0 zma0 na0 zna0; replace HB := Aside0.mk (below_step HB.out hb); replace X3 := Aside0.mk (blk_below X3.out hb); replace X7 := Aside0.mk (blk_below X7.out hb); replace HCM := Aside0.mk (Kd.C_below HCM.out hb); clear hb; have ma0 := (blk_cell X3.out 0).trans rfl; have zma0 := blk_frozen X3.out 0; have na0 := (blk_cell X7.out 0).trans rfl; have zna0 := blk_frozen X7.out 0)))
        go_ret
        exact ⟨rfl, HB.out⟩
       have b2 : (b.f3.f0 != 2) = true := bne_iff_ne.2 hk2
       have b3 : (b.f3.f0 != 3) = true := bne_iff_ne.2 hk3
       have b4 : (b.f3.f0 != 4) = true := bne_iff_ne.2 hk4
       clear hk2 hk3 hk4
       go_wp2
       go_ret
       exact ⟨rfl, HB.out⟩
      ·skip
       by_cases hk4 : b.f3.f0 = 4
       skip
       ·have hk := hk4
        have b4 : (b.f3.f0 != 4) = false := by rw [hk]; rfl
        have HKD := Aside0.mk hk
        clear hk hk4
        have HNO := Aside0.mk (putB_no HX.out.1 HX.out.2 HY.out.1 HY.out.2 (b := (setF b (m.length : Int))) (by have h_ := no_f (putB m x y (setF b (m.length : Int))) ⟨(rd_T27 m x).f0, (rd_T27 m x).f1, (rd_T27 m x).f2.set y.toNat (setF b (m.length : Int))⟩ b HKD.out; rw [putB_len] at h_; exact h_))
        have HNE := Aside0.mk (putB_ne HRR.out HNO.out)
        have HBN := Aside0.mk (bnd_put HBND.out HX.out.1 HX.out.2 HY.out.1 HY.out.2 HBX.out (b' := (setF b (m.length : Int))) rfl rfl rfl)
        have HSN := Aside0.mk (HFO.out.2.1 (m.length : Int))
        have HCM := Aside0.mk (show Kd.C k27 (wc.setCell ⟨gb, y.toNat * 14 + 9, none⟩ (.int .i64 (m.length : Int))) (some ⟨g0, 0, none⟩) m.length (putB m x y (setF b (m.length : Int))) from by have h_ := (Kd.S_reads' (d := sF) HSN.out).2.2; rw [putB_len] at h_; exact h_)
        have HB_ := Aside0.mk (show Below w.heap.size w (wc.setCell ⟨gb, y.toNat * 14 + 9, none⟩ (.int .i64 (m.length : Int))) from below_set HB.out HGG.out.1)
        have X3_ := Aside0.mk (show (wc.setCell ⟨gb, y.toNat * 14 + 9, none⟩ (.int .i64 (m.length : Int))).heap[g3]? = some (.cells #[.slice A0 m.length c0] 24 (0, 0)) from blk_far X3.out (p := ⟨gb, _, none⟩) HGG.out.2.1 _)
        have X7_ := Aside0.mk (show (wc.setCell ⟨gb, y.toNat * 14 + 9, none⟩ (.int .i64 (m.length : Int))).heap[g7]? = some (.cells #[.slice (some ⟨g0, 0, none⟩) m.length c] 24 (0, 0)) from blk_far X7.out (p := ⟨gb, _, none⟩) HGG.out.2.2 _)
        clear HB X3 X7 HSM HSN
        have HB := HB_
        have X3 := X3_
        have X7 := X7_
        clear HB_ X3_ X7_
        have ma0 := (blk_cell X3.out 0).trans rfl
        have zma0 := blk_frozen X3.out 0
        have na0 := (blk_cell X7.out 0).trans rfl
        have zna0 := blk_frozen X7.out 0
        go_wp2_with (first | (go_at_call 16; first | ((with_reducible refine (right_put HBN.out HNO.out _ _ _ HCM.out).mono ?_); rintro e w8 ⟨rfl, hb⟩; clear ma0 zma0 na0 zna0; replace HB := Aside0.mk (below_step HB.out hb); replace X3 := Aside0.mk (blk_below X3.out hb); replace X7 := Aside0.mk (blk_below X7.out hb); replace HCM := Aside0.mk (Kd.C_below HCM.out hb); clear hb; have ma0 := (blk_cell X3.out 0).trans rfl; have zma0 := blk_frozen X3.out 0; have na0 := (blk_cell X7.out 0).trans rfl; have zna0 := blk_frozen X7.out 0) | ((with_reducible refine (right_l m A0 c0 _ (Kd.C_below HM.out HB.out) HBND.out).mono ?_); rintro e w8 ⟨he, hb⟩; rw [HRR.out] at he; subst he; clear ma0 zma0 na0 zna0; replace HB := Aside0.mk (below_step HB.out hb); replace X3 := Aside0.mk (blk_below X3.out hb); replace X7 := Aside0.mk (blk_below X7.out hb); replace HCM := Aside0.mk (Kd.C_below HCM.out hb); clear hb; have ma0 := (blk_cell X3.out 0).trans rfl; have zma0 := blk_frozen X3.out 0; have na0 := (blk_cell X7.out 0).trans rfl; have zna0 := blk_frozen X7.out 0)) | (go_at_call 25; go_loud ((with_reducible refine (same_put HBN.out HNE.out _ _ A0 c0 _ HCM.out (Kd.C_below HM.out HB.out)).mono ?_); rintro e w8 ⟨rfl, hb⟩; clear ma0 zma0 na0 zna0; replace HB := Aside0.mk (below_step HB.out hb); replace X3 := Aside0.mk (blk_below X3.out hb); replace X7 := Aside0.mk (blk_below X7.out hb); replace HCM := Aside0.mk (Kd.C_below HCM.out hb); clear hb; have ma0 := (blk_cell X3.out 0).trans rfl; have zma0 := blk_frozen X3.out 0; have na0 := (blk_cell X7.out 0).trans rfl; have zna0 := blk_frozen X7.out 0)))
        go_ret
        exact ⟨rfl, HB.out⟩
       have b4 : (b.f3.f0 != 4) = true := bne_iff_ne.2 hk4
       clear hk4
       go_wp2
       go_ret
       exact ⟨rfl, HB.out⟩
      ·skip
       by_cases hk1 : b.f3.f0 = 1
       skip
       ·have hk := hk1
        have b1 : (b.f3.f0 != 1) = false := by rw [hk]; rfl
        have HKD := Aside0.mk hk
        clear hk hk1
        have HNO := Aside0.mk (putB_no HX.out.1 HX.out.2 HY.out.1 HY.out.2 (b := (setA b (rd_T27 m x).f1)) (no_a (putB m x y (setA b (rd_T27 m x).f1)) ⟨(rd_T27 m x).f0, (rd_T27 m x).f1, (rd_T27 m x).f2.set y.toNat (setA b (rd_T27 m x).f1)⟩ b (.inl HKD.out)))
        have HNE := Aside0.mk (putB_ne HRR.out HNO.out)
        have HBN := Aside0.mk (bnd_put HBND.out HX.out.1 HX.out.2 HY.out.1 HY.out.2 HBX.out (b' := (setA b (rd_T27 m x).f1)) rfl rfl rfl)
        have HSN := Aside0.mk (HFO.out.2.2.1 (rd_T27 m x).f1)
        have HCM := Aside0.mk (show Kd.C k27 (wc.setCell ⟨gb, y.toNat * 14 + 7, none⟩ (.int .i64 (rd_T27 m x).f1)) (some ⟨g0, 0, none⟩) m.length (putB m x y (setA b (rd_T27 m x).f1)) from by have h_ := (Kd.S_reads' (d := sF) HSN.out).2.2; rw [putB_len] at h_; exact h_)
        have HB_ := Aside0.mk (show Below w.heap.size w (wc.setCell ⟨gb, y.toNat * 14 + 7, none⟩ (.int .i64 (rd_T27 m x).f1)) from below_set HB.out HGG.out.1)
        have X3_ := Aside0.mk (show (wc.setCell ⟨gb, y.toNat * 14 + 7, none⟩ (.int .i64 (rd_T27 m x).f1)).heap[g3]? = some (.cells #[.slice A0 m.length c0] 24 (0, 0)) from blk_far X3.out (p := ⟨gb, _, none⟩) HGG.out.2.1 _)
        have X7_ := Aside0.mk (show (wc.setCell ⟨gb, y.toNat * 14 + 7, none⟩ (.int .i64 (rd_T27 m x).f1)).heap[g7]? = some (.cells #[.slice (some ⟨g0, 0, none⟩) m.length c] 24 (0, 0)) from blk_far X7.out (p := ⟨gb, _, none⟩) HGG.out.2.2 _)
        clear HB X3 X7 HSM HSN
        have HB := HB_
        have X3 := X3_
        have X7 := X7_
        clear HB_ X3_ X7_
        have ma0 := (blk_cell X3.out 0).trans rfl
        have zma0 := blk_frozen X3.out 0
        have na0 := (blk_cell X7.out 0).trans rfl
        have zna0 := blk_frozen X7.out 0
        go_wp2_with (first | (go_at_call 16; first | ((with_reducible refine (right_put HBN.out HNO.out _ _ _ HCM.out).mono ?_); rintro e w8 ⟨rfl, hb⟩; clear ma0 zma0 na0 zna0; replace HB := Aside0.mk (below_step HB.out hb); replace X3 := Aside0.mk (blk_below X3.out hb); replace X7 := Aside0.mk (blk_below X7.out hb); replace HCM := Aside0.mk (Kd.C_below HCM.out hb); clear hb; have ma0 := (blk_cell X3.out 0).trans rfl; have zma0 := blk_frozen X3.out 0; have na0 := (blk_cell X7.out 0).trans rfl; have zna0 := blk_frozen X7.out 0) | ((with_reducible refine (right_l m A0 c0 _ (Kd.C_below HM.out HB.out) HBND.out).mono ?_); rintro e w8 ⟨he, hb⟩; rw [HRR.out] at he; subst he; clear ma0 zma0 na0 zna0; replace HB := Aside0.mk (below_step HB.out hb); replace X3 := Aside0.mk (blk_below X3.out hb); replace X7 := Aside0.mk (blk_below X7.out hb); replace HCM := Aside0.mk (Kd.C_below HCM.out hb); clear hb; have ma0 := (blk_cell X3.out 0).trans rfl; have zma0 := blk_frozen X3.out 0; have na0 := (blk_cell X7.out 0).trans rfl; have zna0 := blk_frozen X7.out 0)) | (go_at_call 25; go_loud ((with_reducible refine (same_put HBN.out HNE.out _ _ A0 c0 _ HCM.out (Kd.C_below HM.out HB.out)).mono ?_); rintro e w8 ⟨rfl, hb⟩; clear ma0 zma0 na0 zna0; replace HB := Aside0.mk (below_step HB.out hb); replace X3 := Aside0.mk (blk_below X3.out hb); replace X7 := Aside0.mk (blk_below X7.out hb); replace HCM := Aside0.mk (Kd.C_below HCM.out hb); clear hb; have ma0 := (blk_cell X3.out 0).trans rfl; have zma0 := blk_frozen X3.out 0; have na0 := (blk_cell X7.out 0).trans rfl; have zna0 := blk_frozen X7.out 0)))
        go_ret
        exact ⟨rfl, HB.out⟩
       by_cases hk5 : b.f3.f0 = 5
       skip
       ·have hk := hk5
        have b1 : (b.f3.f0 != 1) = true := by rw [hk]; rfl
        have b5 : (b.f3.f0 != 5) = false := by rw [hk]; rfl
        have HKD := Aside0.mk hk
        clear hk hk1 hk5
        have HNO := Aside0.mk (putB_no HX.out.1 HX.out.2 HY.out.1 HY.out.2 (b := (setA b (rd_T27 m x).f1)) (no_a (putB m x y (setA b (rd_T27 m x).f1)) ⟨(rd_T27 m x).f0, (rd_T27 m x).f1, (rd_T27 m x).f2.set y.toNat (setA b (rd_T27 m x).f1)⟩ b (.inr (.inl HKD.out))))
        have HNE := Aside0.mk (putB_ne HRR.out HNO.out)
        have HBN := Aside0.mk (bnd_put HBND.out HX.out.1 HX.out.2 HY.out.1 HY.out.2 HBX.out (b' := (setA b (rd_T27 m x).f1)) rfl rfl rfl)
        have HSN := Aside0.mk (HFO.out.2.2.1 (rd_T27 m x).f1)
        have HCM := Aside0.mk (show Kd.C k27 (wc.setCell ⟨gb, y.toNat * 14 + 7, none⟩ (.int .i64 (rd_T27 m x).f1)) (some ⟨g0, 0, none⟩) m.length (putB m x y (setA b (rd_T27 m x).f1)) from by have h_ := (Kd.S_reads' (d := sF) HSN.out).2.2; rw [putB_len] at h_; exact h_)
        have HB_ := Aside0.mk (show Below w.heap.size w (wc.setCell ⟨gb, y.toNat * 14 + 7, none⟩ (.int .i64 (rd_T27 m x).f1)) from below_set HB.out HGG.out.1)
        have X3_ := Aside0.mk (show (wc.setCell ⟨gb, y.toNat * 14 + 7, none⟩ (.int .i64 (rd_T27 m x).f1)).heap[g3]? = some (.cells #[.slice A0 m.length c0] 24 (0, 0)) from blk_far X3.out (p := ⟨gb, _, none⟩) HGG.out.2.1 _)
        have X7_ := Aside0.mk (show (wc.setCell ⟨gb, y.toNat * 14 + 7, none⟩ (.int .i64 (rd_T27 m x).f1)).heap[g7]? = some (.cells #[.slice (some ⟨g0, 0, none⟩) m.length c] 24 (0, 0)) from blk_far X7.out (p := ⟨gb, _, none⟩) HGG.out.2.2 _)
        clear HB X3 X7 HSM HSN
        have HB := HB_
        have X3 := X3_
        have X7 := X7_
        clear HB_ X3_ X7_
        have ma0 := (blk_cell X3.out 0).trans rfl
        have zma0 := blk_frozen X3.out 0
        have na0 := (blk_cell X7.out 0).trans rfl
        have zna0 := blk_frozen X7.out 0
        go_wp2_with (first | (go_at_call 16; first | ((with_reducible refine (right_put HBN.out HNO.out _ _ _ HCM.out).mono ?_); rintro e w8 ⟨rfl, hb⟩; clear ma0 zma0 na0 zna0; replace HB := Aside0.mk (below_step HB.out hb); replace X3 := Aside0.mk (blk_below X3.out hb); replace X7 := Aside0.mk (blk_below X7.out hb); replace HCM := Aside0.mk (Kd.C_below HCM.out hb); clear hb; have ma0 := (blk_cell X3.out 0).trans rfl; have zma0 := blk_frozen X3.out 0; have na0 := (blk_cell X7.out 0).trans rfl; have zna0 := blk_frozen X7.out 0) | ((with_reducible refine (right_l m A0 c0 _ (Kd.C_below HM.out HB.out) HBND.out).mono ?_); rintro e w8 ⟨he, hb⟩; rw [HRR.out] at he; subst he; clear ma0 zma0 na0 zna0; replace HB := Aside0.mk (below_step HB.out hb); replace X3 := Aside0.mk (blk_below X3.out hb); replace X7 := Aside0.mk (blk_below X7.out hb); replace HCM := Aside0.mk (Kd.C_below HCM.out hb); clear hb; have ma0 := (blk_cell X3.out 0).trans rfl; have zma0 := blk_frozen X3.out 0; have na0 := (blk_cell X7.out 0).trans rfl; have zna0 := blk_frozen X7.out 0)) | (go_at_call 25; go_loud ((with_reducible refine (same_put HBN.out HNE.out _ _ A0 c0 _ HCM.out (Kd.C_below HM.out HB.out)).mono ?_); rintro e w8 ⟨rfl, hb⟩; clear ma0 zma0 na0 zna0; replace HB := Aside0.mk (below_step HB.out hb); replace X3 := Aside0.mk (blk_below X3.out hb); replace X7 := Aside0.mk (blk_below X7.out hb); replace HCM := Aside0.mk (Kd.C_below HCM.out hb); clear hb; have ma0 := (blk_cell X3.out 0).trans rfl; have zma0 := blk_frozen X3.out 0; have na0 := (blk_cell X7.out 0).trans rfl; have zna0 := blk_frozen X7.out 0)))
        go_ret
        exact ⟨rfl, HB.out⟩
       by_cases hk3 : b.f3.f0 = 3
       skip
       ·have hk := hk3
        have b1 : (b.f3.f0 != 1) = true := by rw [hk]; rfl
        have b5 : (b.f3.f0 != 5) = true := by rw [hk]; rfl
        have b3 : (b.f3.f0 != 3) = false := by rw [hk]; rfl
        have HKD := Aside0.mk hk
        clear hk hk1 hk5 hk3
        have HNO := Aside0.mk (putB_no HX.out.1 HX.out.2 HY.out.1 HY.out.2 (b := (setA b (rd_T27 m x).f1)) (no_a (putB m x y (setA b (rd_T27 m x).f1)) ⟨(rd_T27 m x).f0, (rd_T27 m x).f1, (rd_T27 m x).f2.set y.toNat (setA b (rd_T27 m x).f1)⟩ b (.inr (.inr (HKD.out)))))
        have HNE := Aside0.mk (putB_ne HRR.out HNO.out)
        have HBN := Aside0.mk (bnd_put HBND.out HX.out.1 HX.out.2 HY.out.1 HY.out.2 HBX.out (b' := (setA b (rd_T27 m x).f1)) rfl rfl rfl)
        have HSN := Aside0.mk (HFO.out.2.2.1 (rd_T27 m x).f1)
        have HCM := Aside0.mk (show Kd.C k27 (wc.setCell ⟨gb, y.toNat * 14 + 7, none⟩ (.int .i64 (rd_T27 m x).f1)) (some ⟨g0, 0, none⟩) m.length (putB m x y (setA b (rd_T27 m x).f1)) from by have h_ := (Kd.S_reads' (d := sF) HSN.out).2.2; rw [putB_len] at h_; exact h_)
        have HB_ := Aside0.mk (show Below w.heap.size w (wc.setCell ⟨gb, y.toNat * 14 + 7, none⟩ (.int .i64 (rd_T27 m x).f1)) from below_set HB.out HGG.out.1)
        have X3_ := Aside0.mk (show (wc.setCell ⟨gb, y.toNat * 14 + 7, none⟩ (.int .i64 (rd_T27 m x).f1)).heap[g3]? = some (.cells #[.slice A0 m.length c0] 24 (0, 0)) from blk_far X3.out (p := ⟨gb, _, none⟩) HGG.out.2.1 _)
        have X7_ := Aside0.mk (show (wc.setCell ⟨gb, y.toNat * 14 + 7, none⟩ (.int .i64 (rd_T27 m x).f1)).heap[g7]? = some (.cells #[.slice (some ⟨g0, 0, none⟩) m.length c] 24 (0, 0)) from blk_far X7.out (p := ⟨gb, _, none⟩) HGG.out.2.2 _)
        clear HB X3 X7 HSM HSN
        have HB := HB_
        have X3 := X3_
        have X7 := X7_
        clear HB_ X3_ X7_
        have ma0 := (blk_cell X3.out 0).trans rfl
        have zma0 := blk_frozen X3.out 0
        have na0 := (blk_cell X7.out 0).trans rfl
        have zna0 := blk_frozen X7.out 0
        go_wp2_with (first | (go_at_call 16; first | ((with_reducible refine (right_put HBN.out HNO.out _ _ _ HCM.out).mono ?_); rintro e w8 ⟨rfl, hb⟩; clear ma0 zma0 na0 zna0; replace HB := Aside0.mk (below_step HB.out hb); replace X3 := Aside0.mk (blk_below X3.out hb); replace X7 := Aside0.mk (blk_below X7.out hb); replace HCM := Aside0.mk (Kd.C_below HCM.out hb); clear hb; have ma0 := (blk_cell X3.out 0).trans rfl; have zma0 := blk_frozen X3.out 0; have na0 := (blk_cell X7.out 0).trans rfl; have zna0 := blk_frozen X7.out 0) | ((with_reducible refine (right_l m A0 c0 _ (Kd.C_below HM.out HB.out) HBND.out).mono ?_); rintro e w8 ⟨he, hb⟩; rw [HRR.out] at he; subst he; clear ma0 zma0 na0 zna0; replace HB := Aside0.mk (below_step HB.out hb); replace X3 := Aside0.mk (blk_below X3.out hb); replace X7 := Aside0.mk (blk_below X7.out hb); replace HCM := Aside0.mk (Kd.C_below HCM.out hb); clear hb; have ma0 := (blk_cell X3.out 0).trans rfl; have zma0 := blk_frozen X3.out 0; have na0 := (blk_cell X7.out 0).trans rfl; have zna0 := blk_frozen X7.out 0)) | (go_at_call 25; go_loud ((with_reducible refine (same_put HBN.out HNE.out _ _ A0 c0 _ HCM.out (Kd.C_below HM.out HB.out)).mono ?_); rintro e w8 ⟨rfl, hb⟩; clear ma0 zma0 na0 zna0; replace HB := Aside0.mk (below_step HB.out hb); replace X3 := Aside0.mk (blk_below X3.out hb); replace X7 := Aside0.mk (blk_below X7.out hb); replace HCM := Aside0.mk (Kd.C_below HCM.out hb); clear hb; have ma0 := (blk_cell X3.out 0).trans rfl; have zma0 := blk_frozen X3.out 0; have na0 := (blk_cell X7.out 0).trans rfl; have zna0 := blk_frozen X7.out 0)))
        go_ret
        exact ⟨rfl, HB.out⟩
       have b1 : (b.f3.f0 != 1) = true := bne_iff_ne.2 hk1
       have b5 : (b.f3.f0 != 5) = true := bne_iff_ne.2 hk5
       have b3 : (b.f3.f0 != 3) = true := bne_iff_ne.2 hk3
       clear hk1 hk5 hk3
       go_wp2
       go_ret
       exact ⟨rfl, HB.out⟩
      ·skip
       cases hld : b.f0 with
       | false =>
        rw [hld] at k0
        go_wp2
        go_ret
        exact ⟨rfl, HB.out⟩
       | true =>
        rw [hld] at k0
        have HKD := Aside0.mk hld
        clear hld
        have HNO := Aside0.mk (putB_no HX.out.1 HX.out.2 HY.out.1 HY.out.2 (b := (setDst b (rd_T27 m x).f1)) (no_dst (putB m x y (setDst b (rd_T27 m x).f1)) ⟨(rd_T27 m x).f0, (rd_T27 m x).f1, (rd_T27 m x).f2.set y.toNat (setDst b (rd_T27 m x).f1)⟩ b HKD.out))
        have HNE := Aside0.mk (putB_ne HRR.out HNO.out)
        have HBN := Aside0.mk (bnd_put HBND.out HX.out.1 HX.out.2 HY.out.1 HY.out.2 HBX.out (b' := (setDst b (rd_T27 m x).f1)) rfl rfl rfl)
        have HSN := Aside0.mk (HFO.out.2.2.2 (rd_T27 m x).f1)
        have HCM := Aside0.mk (show Kd.C k27 (wc.setCell ⟨gb, y.toNat * 14 + 1, none⟩ (.int .i64 (rd_T27 m x).f1)) (some ⟨g0, 0, none⟩) m.length (putB m x y (setDst b (rd_T27 m x).f1)) from by have h_ := (Kd.S_reads' (d := sF) HSN.out).2.2; rw [putB_len] at h_; exact h_)
        have HB_ := Aside0.mk (show Below w.heap.size w (wc.setCell ⟨gb, y.toNat * 14 + 1, none⟩ (.int .i64 (rd_T27 m x).f1)) from below_set HB.out HGG.out.1)
        have X3_ := Aside0.mk (show (wc.setCell ⟨gb, y.toNat * 14 + 1, none⟩ (.int .i64 (rd_T27 m x).f1)).heap[g3]? = some (.cells #[.slice A0 m.length c0] 24 (0, 0)) from blk_far X3.out (p := ⟨gb, _, none⟩) HGG.out.2.1 _)
        have X7_ := Aside0.mk (show (wc.setCell ⟨gb, y.toNat * 14 + 1, none⟩ (.int .i64 (rd_T27 m x).f1)).heap[g7]? = some (.cells #[.slice (some ⟨g0, 0, none⟩) m.length c] 24 (0, 0)) from blk_far X7.out (p := ⟨gb, _, none⟩) HGG.out.2.2 _)
        clear HB X3 X7 HSM HSN
        have HB := HB_
        have X3 := X3_
        have X7 := X7_
        clear HB_ X3_ X7_
        have ma0 := (blk_cell X3.out 0).trans rfl
        have zma0 := blk_frozen X3.out 0
        have na0 := (blk_cell X7.out 0).trans rfl
        have zna0 := blk_frozen X7.out 0
        go_wp2_with (first | (go_at_call 16; first | ((with_reducible refine (right_put HBN.out HNO.out _ _ _ HCM.out).mono ?_); rintro e w8 ⟨rfl, hb⟩; clear ma0 zma0 na0 zna0; replace HB := Aside0.mk (below_step HB.out hb); replace X3 := Aside0.mk (blk_below X3.out hb); replace X7 := Aside0.mk (blk_below X7.out hb); replace HCM := Aside0.mk (Kd.C_below HCM.out hb); clear hb; have ma0 := (blk_cell X3.out 0).trans rfl; have zma0 := blk_frozen X3.out 0; have na0 := (blk_cell X7.out 0).trans rfl; have zna0 := blk_frozen X7.out 0) | ((with_reducible refine (right_l m A0 c0 _ (Kd.C_below HM.out HB.out) HBND.out).mono ?_); rintro e w8 ⟨he, hb⟩; rw [HRR.out] at he; subst he; clear ma0 zma0 na0 zna0; replace HB := Aside0.mk (below_step HB.out hb); replace X3 := Aside0.mk (blk_below X3.out hb); replace X7 := Aside0.mk (blk_below X7.out hb); replace HCM := Aside0.mk (Kd.C_below HCM.out hb); clear hb; have ma0 := (blk_cell X3.out 0).trans rfl; have zma0 := blk_frozen X3.out 0; have na0 := (blk_cell X7.out 0).trans rfl; have zna0 := blk_frozen X7.out 0)) | (go_at_call 25; go_loud ((with_reducible refine (same_put HBN.out HNE.out _ _ A0 c0 _ HCM.out (Kd.C_below HM.out HB.out)).mono ?_); rintro e w8 ⟨rfl, hb⟩; clear ma0 zma0 na0 zna0; replace HB := Aside0.mk (below_step HB.out hb); replace X3 := Aside0.mk (blk_below X3.out hb); replace X7 := Aside0.mk (blk_below X7.out hb); replace HCM := Aside0.mk (Kd.C_below HCM.out hb); clear hb; have ma0 := (blk_cell X3.out 0).trans rfl; have zma0 := blk_frozen X3.out 0; have na0 := (blk_cell X7.out 0).trans rfl; have zna0 := blk_frozen X7.out 0)))
        go_ret
        exact ⟨rfl, HB.out⟩
end Go.Proofs.Ytbfialebaoeicaa.X
namespace Go.Proofs.Ytbfialebaoeicaa.X
open Go.RowKit Go.Proofs.YtbfialebaoeicaaW.PrintWords
set_option linter.all false
theorem law_names.calls (A0 : Option Addr) (c0 : Nat) (m : List S27) (a q : Int) (r : Bool) (w : World) (hm : Kd.C k27 w A0 m.length m) (hc0 : m.length ≤ c0) (h : (0 ≤ a ∧ a ≤ 65535) ∧ (0 ≤ q ∧ q ≤ 255)) :
  Calls Try.prog 5 #[.agg #[.slice A0 m.length c0], .int .u16 a, .int .u8 q] w fun e w' => e = .returned (.bool true) ∧ Below w.heap.size w w' :=
 names_c m A0 c0 a q w hm hc0 h.1 h.2
end Go.Proofs.Ytbfialebaoeicaa.X
namespace Go.Proofs.Ytbfialebaoeicaa.Pure
open Go.Proofs.Ytbfialebaoeicaa.X
set_option linter.all false
theorem ShapeNames (m : List S27) (a : Int) (wa : (Go.Lit.int .u16 a).wf = true) (q : Int) (wq : (Go.Lit.int .u8 q).wf = true) : ∃ _ : Unit, (0 ≤ a ∧ a ≤ 65535) ∧ (0 ≤ q ∧ q ≤ 255) := ⟨(), by simp [Go.Lit.wf, Go.IntKind.min, Go.IntKind.max, Go.IntKind.signed, Go.IntKind.bits] at wa wq; omega⟩
end Go.Proofs.Ytbfialebaoeicaa.Pure
