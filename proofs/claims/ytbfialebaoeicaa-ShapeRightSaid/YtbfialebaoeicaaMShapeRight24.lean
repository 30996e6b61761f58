/- Part 25 of the proof of the statement ShapeRight: the words of the walks, the walks through the functions that it reaches, and the plain laws of what they compute. -/
import Derived.Test.YtbfialebaoeicaaMShapeRight23
import Derived.RegionTactic
import Derived.ChangeAlike
import Derived.Deep.QuietTactic
import Derived.BigQuiet
import Derived.Deep.MidRow
namespace Go.Proofs.Ytbfialebaoeicaa.X
open Go.RowKit Go.Proofs.YtbfialebaoeicaaW.PrintWords Go.Proofs.YtbfialebaoeicaaW.PrintLast Go.Proofs.YtbfialebaoeicaaW.PrintMore
set_option linter.all false
open Go.Proofs.Ytbfialebaoeicaa.G
theorem ClnP.below {bs : List S41} {w w' : World} {A : Option Addr} (h : ClnP bs w A) (hb : Below w.heap.size w w') : ClnP bs w' A := by
 obtain ⟨out, h1, h2⟩ := h
 exact ⟨out, Kd.C_below h1 hb, h2⟩
theorem ClnP.both {bs : List S41} {w : World} {A A' : Option Addr} (h : ClnP bs w A) (h' : ClnP bs w A') : ∃ out : List Bool, Kd.C Kd.bool w A bs.length out ∧ Kd.C Kd.bool w A' bs.length out := by
 obtain ⟨o1, h1, h2, h3⟩ := h
 obtain ⟨o2, g1, g2, g3⟩ := h'
 have e := Cl.same_marks h2 g2 h3 g3
 subst e
 exact ⟨o1, h1, g1⟩
theorem short1_c (f : S27) : ∃ r, (r = true → Sh [f]) ∧ ∀ (A1 : Option Addr) (c1 g : Nat) (w : World), w.heap[g]? = some (.cells #[.int .i64 f.f0, .int .i64 f.f1, .slice A1 f.f2.length c1] 27 (0, 0)) → Kd.C k41 w A1 f.f2.length f.f2 → f.f2.length ≤ c1 →
  Calls Try.prog 15 #[.agg #[.slice (some ⟨g, 0, none⟩) 1 1]] w fun e w' => e = .returned (.bool r) ∧ Below w.heap.size w w' := by
 obtain ⟨r, hs, h⟩ := short_c [f]
 exact ⟨r, hs, fun A1 c1 g w hb hC hc => h (some ⟨g, 0, none⟩) 1 w (C_uno k27 f [.int .i64 f.f0, .int .i64 f.f1, .slice A1 f.f2.length c1] rfl (k27_mk w f (A2 := A1) (c2 := c1) hc hC) hb) (Nat.le_refl _)⟩
theorem ints_eq (A : Option Addr) (c : Nat) (l : List Int) (A' : Option Addr) (c' : Nat) (r : List Int) (n : Nat) (w : World) (hl : Kd.C (Kd.int .i64) w A l.length l) (hr : Kd.C (Kd.int .i64) w A' n r) (hb : l.length ≤ 2) (e : l = r) :
  Calls Try.prog 22 #[.slice A l.length c, .slice A' n c'] w fun e w' => e = .returned (.bool true) ∧ Below w.heap.size w w' := by
 obtain rfl : r.length = n := hr.1
 have h := ints_c A c l A' c' r w hl hr (by omega)
 rw [beq_iff_eq.2 e] at h
 exact h
theorem bndF_of {f : S27} (h : Sh [f]) : BndF f := (Sh.bnd h).f f (List.mem_singleton.2 rfl)
theorem len_of {f : S27} (h : Sh [f]) : f.f2.length ≤ 1000000 := by have := (h.fn f (List.mem_singleton.2 rfl)).len; omega
set_option maxHeartbeats 16000000 in
set_option maxRecDepth 100000 in
theorem sright_c (m : List S27) (A0 : Option Addr) (c0 : Nat) (f : S27) (A1 : Option Addr) (c1 : Nat) (w : World) (hm : Kd.C k27 w A0 m.length m) (hc0 : m.length ≤ c0) (hf : Kd.C k41 w A1 f.f2.length f.f2) (hc1 : f.f2.length ≤ c1) :
  Calls Try.prog 3 #[.agg #[.slice A0 m.length c0], .agg #[.int .i64 f.f0, .int .i64 f.f1, .slice A1 f.f2.length c1]] w fun e w' => e = .returned (.bool true) ∧ Below w.heap.size w w' := by
 have HM := Aside0.mk hm
 have HCM := Aside0.mk hc0
 have HF := Aside0.mk hf
 have HCF := Aside0.mk hc1
 clear hm hc0 hf hc1
 have hu24 := Try.underlying24
 have hu27 := Try.underlying27
 have hu41 := Try.underlying41
 have hu49 := Try.underlying49
 have hu35 := Try.underlying35
 have hu39 := Try.underlying39
 obtain ⟨sm, hs1, hs2⟩ := short_c m
 have HSM := Aside0.mk hs2
 clear hs2
 obtain ⟨sf, hs3, hs4⟩ := short1_c f
 have HSF := Aside0.mk hs4
 clear hs4
 go_enter Try.func3, Try.ntmps3
 go_upto_region 3 with (first | ((with_reducible refine gate_dst (N := 2) rfl ?_); refine box_event ?hg (N := 2) ?hd (cs := #[.slice A0 m.length c0]) (t := 24) ?hr ?_; (case hd => rfl); (case hg => rfl); (case hr => first | (go_simp; done) | (go_simp; rfl)); intro g2 hg w2 hbox hb; have HLX2 := Aside0.mk (show w.heap.size ≤ g2 by rw [hg]; exact Nat.le_refl _); have HB := Aside0.mk hb; have X2 := Aside0.mk hbox; clear hbox hb hg; have m0 := (blk_cell X2.out 0).trans rfl; have zm0 := blk_frozen X2.out 0) | ((with_reducible refine gate_dst (N := 3) rfl ?_); refine box_event ?hg (N := 3) ?hd (cs := #[.int .i64 f.f0, .int .i64 f.f1, .slice A1 f.f2.length c1]) (t := 27) ?hr ?_; (case hd => rfl); (case hg => rfl); (case hr => first | (go_simp; done) | (go_simp; rfl)); intro g3 hg w3 hbox hb; have HLX3 := Aside0.mk (show w.heap.size ≤ g3 by rw [hg]; exact HB.out.size); replace HB := Aside0.mk (below_step HB.out hb); replace X2 := Aside0.mk (blk_below X2.out hb); have X3 := Aside0.mk hbox; clear hbox hb hg; obtain ⟨n0, n1, n2⟩ := cl3 X3.out; obtain ⟨zn0, zn1, zn2⟩ := fz3 X3.out; clear m0 zm0; have m0 := (blk_cell X2.out 0).trans rfl; have zm0 := blk_frozen X2.out 0) | (go_at_call 14; go_loud ((with_reducible refine (awake2_c _).mono ?_); rintro e w8 ⟨rfl, hb⟩; clear m0 zm0 n0 zn0 n1 zn1 n2 zn2; replace HB := Aside0.mk (below_step HB.out hb); replace X2 := Aside0.mk (blk_below X2.out hb); replace X3 := Aside0.mk (blk_below X3.out hb); clear hb; have m0 := (blk_cell X2.out 0).trans rfl; obtain ⟨n0, n1, n2⟩ := cl3 X3.out)))
 go_cut [21] (fun v21 wc => v21 = .bool (!(sm && sf)) ∧ Aside0 (Below w.heap.size w wc) ∧ Aside0 (wc.heap[g2]? = some (.cells #[.slice A0 m.length c0] 24 (0, 0))) ∧ Aside0 (wc.heap[g3]? = some (.cells #[.int .i64 f.f0, .int .i64 f.f1, .slice A1 f.f2.length c1] 27 (0, 0))))
 case first =>
  skip
  cases sm <;> cases sf <;> (go_wp2_with (first | (go_at_call 15; (with_reducible refine (HSM.out A0 c0 _ (Kd.C_below HM.out HB.out) HCM.out).mono ?_); rintro e w8 ⟨rfl, hb⟩; clear m0 n0 n1 n2; replace HB := Aside0.mk (below_step HB.out hb); replace X2 := Aside0.mk (blk_below X2.out hb); replace X3 := Aside0.mk (blk_below X3.out hb); clear hb; have m0 := (blk_cell X2.out 0).trans rfl; obtain ⟨n0, n1, n2⟩ := cl3 X3.out) | (go_at_call 15; (with_reducible refine (HSF.out A1 c1 _ _ (blk_new _ _) (Kd.C_below HF.out (below_alloc HB.out _)) HCF.out).mono ?_); rintro e w8 ⟨rfl, hb⟩; clear m0 n0 n1 n2; replace HB := Aside0.mk (below_step (below_alloc HB.out _) hb); replace X2 := Aside0.mk (blk_below (blk_alloc X2.out _) hb); replace X3 := Aside0.mk (blk_below (blk_alloc X3.out _) hb); clear hb; have m0 := (blk_cell X2.out 0).trans rfl; obtain ⟨n0, n1, n2⟩ := cl3 X3.out)); go_meet; exact ⟨rfl, HB, X2, X3⟩)
 case rest =>
  clear m0 n0 n1 n2
  clear HB X2 X3
  obtain ⟨rfl, HB, X2, X3⟩ := hcut
  have m0 := (blk_cell X2.out 0).trans rfl
  obtain ⟨n0, n1, n2⟩ := cl3 X3.out
  cases hs : (sm && sf) with
  | false =>
   go_wp2
   go_ret
   exact ⟨rfl, HB.out⟩
  | true =>
   obtain ⟨ha_, hb_⟩ := Bool.and_eq_true_iff.1 hs
   have HBM := Aside0.mk (Sh.bnd (hs1 ha_))
   have HBF := Aside0.mk (bndF_of (hs3 hb_))
   have HLF := Aside0.mk (len_of (hs3 hb_))
   clear hs1 hs3 hs ha_ hb_
   go_upto_region 5 with (fail)
   go_cut [35] (fun v35 wd => v35 = .bool false ∧ Aside0 (Below w.heap.size w wd) ∧ Aside0 (wd.heap[g2]? = some (.cells #[.slice A0 m.length c0] 24 (0, 0))) ∧ Aside0 (wd.heap[g3]? = some (.cells #[.int .i64 f.f0, .int .i64 f.f1, .slice A1 f.f2.length c1] 27 (0, 0))))
   case first =>
    go_wp2
    refine start_ (S := (fun W : World => Below wc.heap.size wc W)) (ds := []) #[bF,bF,bF,bF,bF,bF,bF,bF,bF,bF,bF,bF,bF,bF] (by kernel_rfl) (by rfl) (by rfl) (below_drew (Below.refl _ _)) (fun hS => ?_)
    refine take_ (i := 0) (N := some 22) (v := .agg #[.slice A0 m.length c0]) (a' := ?axra1) #[bT,bF,bF,bF,bF,bF,bF,bF,bF,bF,bF,bF,bF,bF] rfl rfl (by kernel_rfl) (fun _ _ _ h => h) (Or.inl ⟨by rfl, ?yyra1⟩) hS ?hara1 ?hhra1
    case yyra1 => intro W hW; have m0 := (blk_cell (blk_below X2.out hW) 0).trans rfl; obtain ⟨n0, n1, n2⟩ := cl3 (blk_below X3.out hW); go_simp; done
    case hara1 => try simp only [Act.put, sA_, sZ_, sS_]; exact rfl
    refine take_ (i := 2) (N := some 24) (v := .agg #[.slice A0 m.length c0]) (a' := ?axra2) #[bT,bF,bT,bF,bF,bF,bF,bF,bF,bF,bF,bF,bF,bF] rfl rfl (by kernel_rfl) (fun _ _ _ h => h) (Or.inl ⟨by rfl, ?yyra2⟩) hS ?hara2 ?hhra2
    case yyra2 => intro W hW; have m0 := (blk_cell (blk_below X2.out hW) 0).trans rfl; obtain ⟨n0, n1, n2⟩ := cl3 (blk_below X3.out hW); go_simp; done
    case hara2 => try simp only [Act.put, sA_, sZ_, sS_]; exact rfl
    refine one_ (i := 1) (N := some 23) #[bT,bT,bT,bF,bF,bF,bF,bF,bF,bF,bF,bF,bF,bF] rfl rfl (by kernel_rfl) (by decide) (fun K hK => ?_)
    refine goes_ Try.func16 (by kernel_rfl) rfl #[.agg #[.slice A0 m.length c0]] (by rfl) rfl rfl (by simp only [List.map_toArray, List.map_cons, List.map_nil]; rfl) ?_
    refine (right_l m A0 c0 _ (Kd.C_below (Kd.C_below HM.out HB.out) hS) HBM.out).mono ?_
    rintro e w7 ⟨rfl, hb⟩
    refine ⟨_, rfl, ?_⟩
    have hS' := hS.trans (hb.mono hS.size)
    clear hb
    refine hK _ _ hS' (fun hS => ?_)
    clear hK K
    try simp only [Act.put, sA_, sZ_, sS_]
    refine one_ (i := 3) (N := some 25) #[bT,bT,bT,bT,bF,bF,bF,bF,bF,bF,bF,bF,bF,bF] rfl rfl (by kernel_rfl) (by decide) (fun K hK => ?_)
    refine goes_ Try.func17 (by kernel_rfl) rfl #[.agg #[.slice A0 m.length c0]] (by rfl) rfl rfl (by simp only [List.map_toArray, List.map_cons, List.map_nil]; rfl) ?_
    refine (right_c m A0 c0 _ (Kd.C_below (Kd.C_below HM.out HB.out) hS) HBM.out).mono ?_
    rintro e w7 ⟨rfl, hb⟩
    refine ⟨_, rfl, ?_⟩
    have hS' := hS.trans (hb.mono hS.size)
    clear hb
    refine hK _ _ hS' (fun hS => ?_)
    clear hK K
    try simp only [Act.put, sA_, sZ_, sS_]
    refine take_ (i := 4) (N := some 26) (v := .bool false) (a' := ?axra3) #[bT,bT,bT,bT,bT,bF,bF,bF,bF,bF,bF,bF,bF,bF] rfl rfl (by kernel_rfl) (fun _ _ _ h => h) (Or.inl ⟨by rfl, ?yyra3⟩) hS ?hara3 ?hhra3
    case yyra3 => intro W hW; have m0 := (blk_cell (blk_below X2.out hW) 0).trans rfl; obtain ⟨n0, n1, n2⟩ := cl3 (blk_below X3.out hW); go_simp; done
    case hara3 => try simp only [Act.put, sA_, sZ_, sS_]; exact rfl
    refine take_ (i := 5) (N := some 27) (v := .bool false) (a' := ?axra4) #[bT,bT,bT,bT,bT,bT,bF,bF,bF,bF,bF,bF,bF,bF] rfl rfl (by kernel_rfl) (fun _ _ _ h => h) (Or.inl ⟨by rfl, ?yyra4⟩) hS ?hara4 ?hhra4
    case yyra4 => intro W hW; have m0 := (blk_cell (blk_below X2.out hW) 0).trans rfl; obtain ⟨n0, n1, n2⟩ := cl3 (blk_below X3.out hW); go_simp; done
    case hara4 => try simp only [Act.put, sA_, sZ_, sS_]; exact rfl
    refine take_ (i := 6) (N := some 28) (v := .agg #[.slice A0 m.length c0]) (a' := ?axra5) #[bT,bT,bT,bT,bT,bT,bT,bF,bF,bF,bF,bF,bF,bF] rfl rfl (by kernel_rfl) (fun _ _ _ h => h) (Or.inl ⟨by rfl, ?yyra5⟩) hS ?hara5 ?hhra5
    case yyra5 => intro W hW; have m0 := (blk_cell (blk_below X2.out hW) 0).trans rfl; obtain ⟨n0, n1, n2⟩ := cl3 (blk_below X3.out hW); go_simp; done
    case hara5 => try simp only [Act.put, sA_, sZ_, sS_]; exact rfl
    refine take_ (i := 7) (N := some 29) (v := .agg #[.int .i64 f.f0, .int .i64 f.f1, .slice A1 f.f2.length c1]) (a' := ?axra6) #[bT,bT,bT,bT,bT,bT,bT,bT,bF,bF,bF,bF,bF,bF] rfl rfl (by kernel_rfl) (fun _ _ _ h => h) (Or.inl ⟨by rfl, ?yyra6⟩) hS ?hara6 ?hhra6
    case yyra6 => intro W hW; have m0 := (blk_cell (blk_below X2.out hW) 0).trans rfl; obtain ⟨n0, n1, n2⟩ := cl3 (blk_below X3.out hW); go_simp; done
    case hara6 => try simp only [Act.put, sA_, sZ_, sS_]; exact rfl
    refine take_ (i := 9) (N := some 31) (v := .agg #[.slice A0 m.length c0]) (a' := ?axra7) #[bT,bT,bT,bT,bT,bT,bT,bT,bF,bT,bF,bF,bF,bF] rfl rfl (by kernel_rfl) (fun _ _ _ h => h) (Or.inl ⟨by rfl, ?yyra7⟩) hS ?hara7 ?hhra7
    case yyra7 => intro W hW; have m0 := (blk_cell (blk_below X2.out hW) 0).trans rfl; obtain ⟨n0, n1, n2⟩ := cl3 (blk_below X3.out hW); go_simp; done
    case hara7 => try simp only [Act.put, sA_, sZ_, sS_]; exact rfl
    refine take_ (i := 10) (N := some 32) (v := .agg #[.int .i64 f.f0, .int .i64 f.f1, .slice A1 f.f2.length c1]) (a' := ?axra8) #[bT,bT,bT,bT,bT,bT,bT,bT,bF,bT,bT,bF,bF,bF] rfl rfl (by kernel_rfl) (fun _ _ _ h => h) (Or.inl ⟨by rfl, ?yyra8⟩) hS ?hara8 ?hhra8
    case yyra8 => intro W hW; have m0 := (blk_cell (blk_below X2.out hW) 0).trans rfl; obtain ⟨n0, n1, n2⟩ := cl3 (blk_below X3.out hW); go_simp; done
    case hara8 => try simp only [Act.put, sA_, sZ_, sS_]; exact rfl
    refine one_ (i := 8) (N := some 30) #[bT,bT,bT,bT,bT,bT,bT,bT,bT,bT,bT,bF,bF,bF] rfl rfl (by kernel_rfl) (by decide) (fun K hK => ?_)
    refine goes_ Try.func18 (by kernel_rfl) rfl #[.agg #[.slice A0 m.length c0], .agg #[.int .i64 f.f0, .int .i64 f.f1, .slice A1 f.f2.length c1]] (by rfl) rfl rfl (by simp only [List.map_toArray, List.map_cons, List.map_nil]; rfl) ?_
    refine (func_l m A0 c0 f A1 c1 _ (Kd.C_below (Kd.C_below HM.out HB.out) hS) (Kd.C_below (Kd.C_below HF.out HB.out) hS) HBF.out).mono ?_
    rintro e w7 ⟨rfl, hb⟩
    refine ⟨_, rfl, ?_⟩
    have hS' := hS.trans (hb.mono hS.size)
    clear hb
    refine hK _ _ hS' (fun hS => ?_)
    clear hK K
    try simp only [Act.put, sA_, sZ_, sS_]
    refine one_ (i := 11) (N := some 33) #[bT,bT,bT,bT,bT,bT,bT,bT,bT,bT,bT,bT,bF,bF] rfl rfl (by kernel_rfl) (by decide) (fun K hK => ?_)
    refine goes_ Try.func19 (by kernel_rfl) rfl #[.agg #[.slice A0 m.length c0], .agg #[.int .i64 f.f0, .int .i64 f.f1, .slice A1 f.f2.length c1]] (by rfl) rfl rfl (by simp only [List.map_toArray, List.map_cons, List.map_nil]; rfl) ?_
    refine (func_c m A0 c0 f A1 c1 _ (Kd.C_below (Kd.C_below HM.out HB.out) hS) (Kd.C_below (Kd.C_below HF.out HB.out) hS) HBF.out).mono ?_
    rintro e w7 ⟨rfl, hb⟩
    refine ⟨_, rfl, ?_⟩
    have hS' := hS.trans (hb.mono hS.size)
    clear hb
    refine hK _ _ hS' (fun hS => ?_)
    clear hK K
    try simp only [Act.put, sA_, sZ_, sS_]
    refine take_ (i := 12) (N := some 34) (v := .bool false) (a' := ?axra9) #[bT,bT,bT,bT,bT,bT,bT,bT,bT,bT,bT,bT,bT,bF] rfl rfl (by kernel_rfl) (fun _ _ _ h => h) (Or.inl ⟨by rfl, ?yyra9⟩) hS ?hara9 ?hhra9
    case yyra9 => intro W hW; have m0 := (blk_cell (blk_below X2.out hW) 0).trans rfl; obtain ⟨n0, n1, n2⟩ := cl3 (blk_below X3.out hW); go_simp; done
    case hara9 => try simp only [Act.put, sA_, sZ_, sS_]; exact rfl
    refine take_ (i := 13) (N := some 35) (v := .bool false) (a' := ?axra10) #[bT,bT,bT,bT,bT,bT,bT,bT,bT,bT,bT,bT,bT,bT] rfl rfl (by kernel_rfl) (fun _ _ _ h => h) (Or.inl ⟨by rfl, ?yyra10⟩) hS ?hara10 ?hhra10
    case yyra10 => intro W hW; have m0 := (blk_cell (blk_below X2.out hW) 0).trans rfl; obtain ⟨n0, n1, n2⟩ := cl3 (blk_below X3.out hW); go_simp; done
    case hara10 => try simp only [Act.put, sA_, sZ_, sS_]; exact rfl
    refine done_ (by kernel_rfl) ?_
    go_wp2
    go_meet
    exact ⟨rfl, ⟨HB.out.trans (hS.mono HB.out.size)⟩, ⟨blk_below X2.out hS⟩, ⟨blk_below X3.out hS⟩⟩
   case rest =>
    clear m0 n0 n1 n2
    clear HB X2 X3
    obtain ⟨rfl, HB, X2, X3⟩ := hcut
    have m0 := (blk_cell X2.out 0).trans rfl
    obtain ⟨n0, n1, n2⟩ := cl3 X3.out
    go_upto_region 7 with (fail)
    go_cut [5, 6] (fun v5 v6 wd => ∃ (AA AB : Option Addr) (cA cB : Nat), v5 = .slice AA f.f2.length cA ∧ v6 = .slice AB f.f2.length cB ∧ Aside0 (Below w.heap.size w wd) ∧ Aside0 (wd.heap[g2]? = some (.cells #[.slice A0 m.length c0] 24 (0, 0))) ∧ Aside0 (wd.heap[g3]? = some (.cells #[.int .i64 f.f0, .int .i64 f.f1, .slice A1 f.f2.length c1] 27 (0, 0))) ∧ Aside0 (ClnP f.f2 wd AA) ∧ Aside0 (ClnP f.f2 wd AB))
    case first =>
     go_wp2
     refine start_ (S := (fun W : World => Below wc.heap.size wc W)) (ds := []) #[bF,bF,bF,bF,bF,bF] (by kernel_rfl) (by rfl) (by rfl) (below_drew (Below.refl _ _)) (fun hS => ?_)
     refine take_ (i := 0) (N := some 36) (v := .agg #[.int .i64 f.f0, .int .i64 f.f1, .slice A1 f.f2.length c1]) (a' := ?axrb1) #[bT,bF,bF,bF,bF,bF] rfl rfl (by kernel_rfl) (fun _ _ _ h => h) (Or.inl ⟨by rfl, ?yyrb1⟩) hS ?harb1 ?hhrb1
     case yyrb1 => intro W hW; have m0 := (blk_cell (blk_below X2.out hW) 0).trans rfl; obtain ⟨n0, n1, n2⟩ := cl3 (blk_below X3.out hW); go_simp; done
     case harb1 => try simp only [Act.put, sA_, sZ_, sS_]; exact rfl
     refine take_ (i := 2) (N := some 38) (v := .agg #[.int .i64 f.f0, .int .i64 f.f1, .slice A1 f.f2.length c1]) (a' := ?axrb2) #[bT,bF,bT,bF,bF,bF] rfl rfl (by kernel_rfl) (fun _ _ _ h => h) (Or.inl ⟨by rfl, ?yyrb2⟩) hS ?harb2 ?hhrb2
     case yyrb2 => intro W hW; have m0 := (blk_cell (blk_below X2.out hW) 0).trans rfl; obtain ⟨n0, n1, n2⟩ := cl3 (blk_below X3.out hW); go_simp; done
     case harb2 => try simp only [Act.put, sA_, sZ_, sS_]; exact rfl
     refine one_ (i := 1) (N := some 37) #[bT,bT,bT,bF,bF,bF] rfl rfl (by kernel_rfl) (by decide) (fun K hK => ?_)
     refine goes_ Try.func20 (by kernel_rfl) rfl #[.agg #[.int .i64 f.f0, .int .i64 f.f1, .slice A1 f.f2.length c1]] (by rfl) rfl rfl (by simp only [List.map_toArray, List.map_cons, List.map_nil]; rfl) ?_
     refine (cleans_c f A1 c1 _ (Kd.C_below (Kd.C_below HF.out HB.out) hS) HLF.out).mono ?_
     rintro e w7 ⟨⟨AA, ⟨cA, rfl⟩, hcl⟩, hb⟩
     refine ⟨_, rfl, ?_⟩
     have HPA := Aside0.mk hcl
     have hS' := hS.trans (hb.mono hS.size)
     clear hb
     clear hcl
     refine hK _ _ hS' (fun hS => ?_)
     clear hK K
     try simp only [Act.put, sA_, sZ_, sS_]
     refine one_ (i := 3) (N := some 39) #[bT,bT,bT,bT,bF,bF] rfl rfl (by kernel_rfl) (by decide) (fun K hK => ?_)
     refine goes_ Try.func21 (by kernel_rfl) rfl #[.agg #[.int .i64 f.f0, .int .i64 f.f1, .slice A1 f.f2.length c1]] (by rfl) rfl rfl (by simp only [List.map_toArray, List.map_cons, List.map_nil]; rfl) ?_
     refine (rcleans_c f A1 c1 _ (Kd.C_below (Kd.C_below HF.out HB.out) hS) HCF.out HLF.out).mono ?_
     rintro e w7 ⟨⟨AB, ⟨cB, rfl⟩, hcl⟩, hb⟩
     refine ⟨_, rfl, ?_⟩
     have HPB := Aside0.mk hcl
     have HPA2 := Aside0.mk (HPA.out.below hb)
     clear HPA
     have hS' := hS.trans (hb.mono hS.size)
     clear hb
     clear hcl
     refine hK _ _ hS' (fun hS => ?_)
     clear hK K
     try simp only [Act.put, sA_, sZ_, sS_]
     refine take_ (i := 4) (N := some 5) (v := .slice AA f.f2.length cA) (a' := ?axrb3) #[bT,bT,bT,bT,bT,bF] rfl rfl (by kernel_rfl) (fun _ _ _ h => h) (Or.inl ⟨by rfl, ?yyrb3⟩) hS ?harb3 ?hhrb3
     case yyrb3 => intro W hW; have m0 := (blk_cell (blk_below X2.out hW) 0).trans rfl; obtain ⟨n0, n1, n2⟩ := cl3 (blk_below X3.out hW); go_simp; done
     case harb3 => try simp only [Act.put, sA_, sZ_, sS_]; exact rfl
     refine take_ (i := 5) (N := some 6) (v := .slice AB f.f2.length cB) (a' := ?axrb4) #[bT,bT,bT,bT,bT,bT] rfl rfl (by kernel_rfl) (fun _ _ _ h => h) (Or.inl ⟨by rfl, ?yyrb4⟩) hS ?harb4 ?hhrb4
     case yyrb4 => intro W hW; have m0 := (blk_cell (blk_below X2.out hW) 0).trans rfl; obtain ⟨n0, n1, n2⟩ := cl3 (blk_below X3.out hW); go_simp; done
     case harb4 => try simp only [Act.put, sA_, sZ_, sS_]; exact rfl
     refine done_ (by kernel_rfl) ?_
     go_wp2
     go_meet
     exact ⟨AA, AB, cA, cB, rfl, rfl, ⟨HB.out.trans (hS.mono HB.out.size)⟩, ⟨blk_below X2.out hS⟩, ⟨blk_below X3.out hS⟩, HPA2, HPB⟩
    case rest =>
     clear m0 n0 n1 n2
     clear HB X2 X3
     obtain ⟨AA, AB, cA, cB, rfl, rfl, HB, X2, X3, HPA, HPB⟩ := hcut
     obtain ⟨out, hoa, hob⟩ := HPA.out.both HPB.out
     have HOA := Aside0.mk hoa
     have HOB := Aside0.mk hob
     clear hoa hob HPA HPB
     have m0 := (blk_cell X2.out 0).trans rfl
     obtain ⟨n0, n1, n2⟩ := cl3 X3.out
     have hl1 : ((f.f2.length : Int) != (f.f2.length : Int)) = false := bne_self_eq_false _
     go_wp2
     clear m0 n0 n1 n2
     clear hl1
     go_loopg [7] 1000000 (fun gg s wr => ∃ x : Int, s = .int .i64 x ∧ Aside0 (0 ≤ x ∧ x ≤ f.f2.length ∧ (f.f2.length : Int) - x ≤ gg) ∧ Aside0 (Below w.heap.size w wr) ∧ Aside0 (wr.heap[g2]? = some (.cells #[.slice A0 m.length c0] 24 (0, 0))) ∧ Aside0 (wr.heap[g3]? = some (.cells #[.int .i64 f.f0, .int .i64 f.f1, .slice A1 f.f2.length c1] 27 (0, 0))) ∧ Aside0 (Kd.C Kd.bool wr AA f.f2.length out) ∧ Aside0 (Kd.C Kd.bool wr AB f.f2.length out))
     case atStart => exact ⟨0, rfl, ⟨by have := HLF.out; omega⟩, HB, X2, X3, HOA, HOB⟩
     case round =>
      clear HB X2 X3 HOA HOB
      obtain ⟨x, rfl, HX, HB, X2, X3, HOA, HOB⟩ := hrel
      have m0 := (blk_cell X2.out 0).trans rfl
      obtain ⟨n0, n1, n2⟩ := cl3 X3.out
      by_cases hlt : x < (f.f2.length : Int)
      rotate_left
      ·have hd : decide (x < (f.f2.length : Int)) = false := decide_eq_false hlt
       clear hlt
       go_wp2
       go_ret
       exact ⟨rfl, HB.out⟩
      have hd : decide (x < (f.f2.length : Int)) = true := decide_eq_true hlt
      have HLT := Aside0.mk hlt
      clear hlt
      have p1 : (0 ≤ x) = True := eq_true HX.out.1
      have p2 : (x < (f.f2.length : Int)) = True := eq_true HLT.out
      obtain ⟨aa, e1, ya⟩ := Kd.at_bool HOA.out x HX.out.1 HLT.out
      subst e1
      obtain ⟨ab, e1, yb⟩ := Kd.at_bool HOB.out x HX.out.1 HLT.out
      subst e1
      generalize rdOf false out x = bx at ya yb
      have hbx : (bx != bx) = false := by cases bx <;> rfl
      go_upto_region 13 with (fail)
      go_cut [7, 59] from 45 to 100 (fun v7 v59 wd => v7 = .int .i64 x ∧ v59 = .bool false ∧ Aside0 (Below w.heap.size w wd) ∧ Aside0 (wd.heap[g2]? = some (.cells #[.slice A0 m.length c0] 24 (0, 0))) ∧ Aside0 (wd.heap[g3]? = some (.cells #[.int .i64 f.f0, .int .i64 f.f1, .slice A1 f.f2.length c1] 27 (0, 0))) ∧ Aside0 (Kd.C Kd.bool wd (some aa) f.f2.length out) ∧ Aside0 (Kd.C Kd.bool wd (some ab) f.f2.length out))
      case first =>
       go_wp2
       go_quiet (fail)
       go_wp2
       go_meet
       exact ⟨rfl, rfl, ⟨pw_below_drewN HB.out _⟩, ⟨blk_drewN X2.out _⟩, ⟨blk_drewN X3.out _⟩, ⟨Kd.C_drewN HOA.out _⟩, ⟨Kd.C_drewN HOB.out _⟩⟩
      case rest =>
       clear m0 n0 n1 n2
       clear ya yb hbx hd HB X2 X3 HOA HOB
       obtain ⟨rfl, rfl, HB, X2, X3, HOA, HOB⟩ := hcut
       have m0 := (blk_cell X2.out 0).trans rfl
       obtain ⟨n0, n1, n2⟩ := cl3 X3.out
       obtain ⟨ad, B4, e4, B5, e5, B6, e6, e1, y0, y1, y2, y3, y4, y5, y6, y7, y8, y9, y10, y11, y12, y13, hrest⟩ := at_T41 (Kd.C_below HF.out HB.out) x HX.out.1 HLT.out
       subst e1
       have HREST := Aside0.mk hrest
       clear hrest
       obtain ⟨b, hb⟩ : ∃ b, rd_T41 f.f2 x = b := ⟨_, rfl⟩
       rw [hb] at y0 y1 y2 y3 y4 y5 y6 y7 y8 y9 y10 y11 y12 y13 HREST
       have HBE := Aside0.mk hb
       clear hb
       go_upto_region 15 with (fail)
       go_cut [8] (fun v8 wd => ∃ g8 : Nat, v8 = .pointer (some ⟨g8, 0, none⟩) ∧ Aside0 (Below w.heap.size w wd) ∧ Aside0 (wd.heap[g2]? = some (.cells #[.slice A0 m.length c0] 24 (0, 0))) ∧ Aside0 (wd.heap[g3]? = some (.cells #[.int .i64 f.f0, .int .i64 f.f1, .slice (some ad) f.f2.length c1] 27 (0, 0))) ∧ Aside0 (Kd.C Kd.bool wd (some aa) f.f2.length out) ∧ Aside0 (Kd.C Kd.bool wd (some ab) f.f2.length out) ∧ Aside0 (wd.heap[g8]? = some (.cells #[.int .i64 b.f3.f0, .int .i64 b.f3.f1, .int .i64 b.f3.f2, .int .i64 b.f3.f3, .slice B6 b.f3.f4.length e6, .int .i64 b.f3.f5, .int .i64 b.f3.f6, .int .i64 b.f3.f7] 39 (0, 0))))
       case first =>
        go_wp2
        go_meet
        exact ⟨_, rfl, ⟨below_alloc HB.out _⟩, ⟨blk_alloc X2.out _⟩, ⟨blk_alloc X3.out _⟩, ⟨Kd.C_alloc HOA.out _⟩, ⟨Kd.C_alloc HOB.out _⟩, ⟨blk_new _ _⟩⟩
       case rest =>
        clear m0 n0 n1 n2
        clear y0 y1 y2 y3 y4 y5 y6 y7 y8 y9 y10 y11 y12 y13
        clear HB X2 X3 HOA HOB HREST
        obtain ⟨g8, rfl, HB, X2, X3, HOA, HOB, X8⟩ := hcut
        have m0 := (blk_cell X2.out 0).trans rfl
        obtain ⟨n0, n1, n2⟩ := cl3 X3.out
        obtain ⟨k0, k1, k2, k3, k4, k5, k6, k7⟩ := cl8 X8.out
        have HW := Aside0.mk (Below.refl wc.heap.size wc)
        by_cases hk2 : b.f3.f0 = 2
        ·have hk := hk2
         have b2 : (b.f3.f0 == 2) = true := by rw [hk]; rfl
         have b3 : (b.f3.f0 == 3) = false := by first | (rw [hk]; rfl) | exact beq_eq_false_iff_ne.2 hk3
         have b4 : (b.f3.f0 == 4) = false := by first | (rw [hk]; rfl) | exact beq_eq_false_iff_ne.2 hk4
         have HGL0 : glB b = [b.f3.f5] := by unfold glB; rw [if_pos (.inl hk)]
         clear hk hk2
         have HGL := Aside0.mk (show glB b = [b.f3.f5] from HGL0)
         clear HGL0
         have RT := Aside0.mk (Kd.R_nil (Kd.int .i64) 3 wc wc.heap.size (fun _ => True))
         have RC := Aside0.mk (show Kd.C (Kd.int .i64) wc none 0 ([] : List Int) from Kd.C_nil (Kd.int .i64) wc)
         skip
         go_upto_region 21 with (first | ((with_reducible refine gate_builtin (b := .append) (xs := #[.tmp 79, .tmp 82]) rfl ?_); at_builtin; go_loud (refine Kd.R_append (Kd.int .i64) (w0 := wc) wc.heap.size rfl (.tmp 79) (.tmp 82) 37 3 _ _ rfl Try.underlying37 info3 rfl (Nat.succ_pos _) (by omega) (.slice none 0 0) [] b.f3.f5 [.int .i64 b.f3.f5] (fun _ => True) (fun _ => False) rfl rfl rfl (fun _ h => h.elim) (fun _ _ => trivial) RT.out HW.out HW.out.size (by simp) ?_; intro v1 w9 hq hb hg hat; clear k0 k1 k2 k3 k4 k5 k6 k7; clear m0 n0 n1 n2; clear RT HW RC; have HW := Aside0.mk hb; obtain ⟨AR1, cR1, rfl, _, hCR⟩ := Kd.R_reads hq; have RT := Aside0.mk hq; have RC := Aside0.mk (show Kd.C (Kd.int .i64) w9 AR1 1 [b.f3.f5] from hCR); clear hq hb hg hat hCR; obtain ⟨k0, k1, k2, k3, k4, k5, k6, k7⟩ := cl8 (blk_below X8.out HW.out); have m0 := (blk_cell (blk_below X2.out HW.out) 0).trans rfl; obtain ⟨n0, n1, n2⟩ := cl3 (blk_below X3.out HW.out))))
         go_cut [7, 100] (fun v7 v100 wd => v7 = .int .i64 x ∧ v100 = .bool false ∧ Aside0 (Below wc.heap.size wc wd))
         case first =>
          obtain ⟨_, D4, d4, D5, d5, D6, d6, e1, y0, y1, y2, y3, y4, y5, y6, y7, y8, y9, y10, y11, y12, y13, hrest⟩ := at_T41 (Kd.C_below (Kd.C_below HF.out HB.out) HW.out) x HX.out.1 HLT.out
          injection e1 with e1
          subst e1
          have HREST := Aside0.mk hrest
          clear hrest
          rw [HBE.out] at y0 y1 y2 y3 y4 y5 y6 y7 y8 y9 y10 y11 y12 y13 HREST
          go_wp2_with (first | (go_at_call 23; go_loud ((with_reducible refine (goals_c b D4 d4 D5 d5 D6 d6 _ HREST.out.2.1 HREST.out.1 HREST.out.2.2.2.1 HREST.out.2.2.1 HREST.out.2.2.2.2.2 HREST.out.2.2.2.2.1).mono ?_); rintro e w6 ⟨⟨AG, cG, rfl, hg⟩, hb⟩; clear k0 k1 k2 k3 k4 k5 k6 k7; clear m0 n0 n1 n2; clear y0 y1 y2 y3 y4 y5 y6 y7 y8 y9 y10 y11 y12 y13; clear HREST; have HW2 := Aside0.mk (below_step HW.out hb); have RC2 := Aside0.mk (Kd.C_below RC.out hb); have HG := Aside0.mk hg; clear HW RC RT hg hb; have HW := HW2; have RC := RC2; clear HW2 RC2)) | (go_at_call 22; go_loud ((with_reducible refine (ints_eq AG cG (glB b) _ _ [b.f3.f5] _ _ HG.out RC.out (glB_len b) HGL.out).mono ?_); rintro e w7 ⟨rfl, hb⟩; have HW2 := Aside0.mk (below_step HW.out hb); clear HW HG RC hb; have HW := HW2; clear HW2)))
          go_meet
          exact ⟨rfl, rfl, HW⟩
         case rest =>
          obtain ⟨rfl, rfl, HW⟩ := hcut
          go_wp2
          have W1 := Aside0.mk (show wrap64 (x + 1) = x + 1 from wrap_in _ (by have := HX.out; omega) (by have := HLT.out; have := HLF.out; omega))
          go_roundg ((f.f2.length : Int) - (x + 1)).toNat
          case measure => have h1_ := HX.out; have h2_ := HLT.out; omega
          case rel => exact ⟨x + 1, by first | (rw [W1.out]; done) | rfl | (simp only [W1.out]; done), ⟨by have := HX.out; have := HLT.out; omega⟩, ⟨HB.out.trans (HW.out.mono HB.out.size)⟩, ⟨blk_below X2.out HW.out⟩, ⟨blk_below X3.out HW.out⟩, ⟨Kd.C_below HOA.out HW.out⟩, ⟨Kd.C_below HOB.out HW.out⟩⟩
        by_cases hk3 : b.f3.f0 = 3
        ·have hk := hk3
         have b2 : (b.f3.f0 == 2) = false := by first | (rw [hk]; rfl) | exact beq_eq_false_iff_ne.2 hk2
         have b3 : (b.f3.f0 == 3) = true := by rw [hk]; rfl
         have b4 : (b.f3.f0 == 4) = false := by first | (rw [hk]; rfl) | exact beq_eq_false_iff_ne.2 hk4
         have HGL0 : glB b = [b.f3.f5, b.f3.f6] := by unfold glB; rw [if_neg (by omega), if_pos hk]
         clear hk hk2 hk3
         have HGL := Aside0.mk (show glB b = [b.f3.f5, b.f3.f6] from HGL0)
         clear HGL0
         have RT := Aside0.mk (Kd.R_nil (Kd.int .i64) 3 wc wc.heap.size (fun _ => True))
         have RC := Aside0.mk (show Kd.C (Kd.int .i64) wc none 0 ([] : List Int) from Kd.C_nil (Kd.int .i64) wc)
         skip
         go_upto_region 21 with (first | ((with_reducible refine gate_builtin (b := .append) (xs := #[.tmp 79, .tmp 82]) rfl ?_); at_builtin; go_loud (refine Kd.R_append (Kd.int .i64) (w0 := wc) wc.heap.size rfl (.tmp 79) (.tmp 82) 37 3 _ _ rfl Try.underlying37 info3 rfl (Nat.succ_pos _) (by omega) (.slice none 0 0) [] b.f3.f5 [.int .i64 b.f3.f5] (fun _ => True) (fun _ => False) rfl rfl rfl (fun _ h => h.elim) (fun _ _ => trivial) RT.out HW.out HW.out.size (by simp) ?_; intro v1 w9 hq hb hg hat; clear k0 k1 k2 k3 k4 k5 k6 k7; clear m0 n0 n1 n2; clear RT HW RC; have HW := Aside0.mk hb; obtain ⟨AR1, cR1, rfl, _, hCR⟩ := Kd.R_reads hq; have RT := Aside0.mk hq; have RC := Aside0.mk (show Kd.C (Kd.int .i64) w9 AR1 1 [b.f3.f5] from hCR); clear hq hb hg hat hCR; obtain ⟨k0, k1, k2, k3, k4, k5, k6, k7⟩ := cl8 (blk_below X8.out HW.out); have m0 := (blk_cell (blk_below X2.out HW.out) 0).trans rfl; obtain ⟨n0, n1, n2⟩ := cl3 (blk_below X3.out HW.out))) | ((with_reducible refine gate_builtin (b := .append) (xs := #[.tmp 87, .tmp 90]) rfl ?_); at_builtin; go_loud (refine Kd.R_append (Kd.int .i64) (w0 := wc) wc.heap.size rfl (.tmp 87) (.tmp 90) 37 3 _ _ rfl Try.underlying37 info3 rfl (Nat.succ_pos _) (by omega) (.slice AR1 1 cR1) [b.f3.f5] b.f3.f6 [.int .i64 b.f3.f6] (fun _ => True) (fun _ => False) rfl rfl rfl (fun _ h => h.elim) (fun _ _ => trivial) RT.out HW.out HW.out.size (by simp) ?_; intro v1 w9 hq hb hg hat; clear k0 k1 k2 k3 k4 k5 k6 k7; clear m0 n0 n1 n2; clear RT HW RC; have HW := Aside0.mk hb; obtain ⟨AR2, cR2, rfl, _, hCR⟩ := Kd.R_reads hq; have RT := Aside0.mk hq; have RC := Aside0.mk (show Kd.C (Kd.int .i64) w9 AR2 2 [b.f3.f5, b.f3.f6] from hCR); clear hq hb hg hat hCR; obtain ⟨k0, k1, k2, k3, k4, k5, k6, k7⟩ := cl8 (blk_below X8.out HW.out); have m0 := (blk_cell (blk_below X2.out HW.out) 0).trans rfl; obtain ⟨n0, n1, n2⟩ := cl3 (blk_below X3.out HW.out))))
         go_cut [7, 100] (fun v7 v100 wd => v7 = .int .i64 x ∧ v100 = .bool false ∧ Aside0 (Below wc.heap.size wc wd))
         case first =>
          obtain ⟨_, D4, d4, D5, d5, D6, d6, e1, y0, y1, y2, y3, y4, y5, y6, y7, y8, y9, y10, y11, y12, y13, hrest⟩ := at_T41 (Kd.C_below (Kd.C_below HF.out HB.out) HW.out) x HX.out.1 HLT.out
          injection e1 with e1
          subst e1
          have HREST := Aside0.mk hrest
          clear hrest
          rw [HBE.out] at y0 y1 y2 y3 y4 y5 y6 y7 y8 y9 y10 y11 y12 y13 HREST
          go_wp2_with (first | (go_at_call 23; go_loud ((with_reducible refine (goals_c b D4 d4 D5 d5 D6 d6 _ HREST.out.2.1 HREST.out.1 HREST.out.2.2.2.1 HREST.out.2.2.1 HREST.out.2.2.2.2.2 HREST.out.2.2.2.2.1).mono ?_); rintro e w6 ⟨⟨AG, cG, rfl, hg⟩, hb⟩; clear k0 k1 k2 k3 k4 k5 k6 k7; clear m0 n0 n1 n2; clear y0 y1 y2 y3 y4 y5 y6 y7 y8 y9 y10 y11 y12 y13; clear HREST; have HW2 := Aside0.mk (below_step HW.out hb); have RC2 := Aside0.mk (Kd.C_below RC.out hb); have HG := Aside0.mk hg; clear HW RC RT hg hb; have HW := HW2; have RC := RC2; clear HW2 RC2)) | (go_at_call 22; go_loud ((with_reducible refine (ints_eq AG cG (glB b) _ _ [b.f3.f5, b.f3.f6] _ _ HG.out RC.out (glB_len b) HGL.out).mono ?_); rintro e w7 ⟨rfl, hb⟩; have HW2 := Aside0.mk (below_step HW.out hb); clear HW HG RC hb; have HW := HW2; clear HW2)))
          go_meet
          exact ⟨rfl, rfl, HW⟩
         case rest =>
          obtain ⟨rfl, rfl, HW⟩ := hcut
          go_wp2
          have W1 := Aside0.mk (show wrap64 (x + 1) = x + 1 from wrap_in _ (by have := HX.out; omega) (by have := HLT.out; have := HLF.out; omega))
          go_roundg ((f.f2.length : Int) - (x + 1)).toNat
          case measure => have h1_ := HX.out; have h2_ := HLT.out; omega
          case rel => exact ⟨x + 1, by first | (rw [W1.out]; done) | rfl | (simp only [W1.out]; done), ⟨by have := HX.out; have := HLT.out; omega⟩, ⟨HB.out.trans (HW.out.mono HB.out.size)⟩, ⟨blk_below X2.out HW.out⟩, ⟨blk_below X3.out HW.out⟩, ⟨Kd.C_below HOA.out HW.out⟩, ⟨Kd.C_below HOB.out HW.out⟩⟩
        by_cases hk4 : b.f3.f0 = 4
        ·have hk := hk4
         have b2 : (b.f3.f0 == 2) = false := by first | (rw [hk]; rfl) | exact beq_eq_false_iff_ne.2 hk2
         have b3 : (b.f3.f0 == 3) = false := by first | (rw [hk]; rfl) | exact beq_eq_false_iff_ne.2 hk3
         have b4 : (b.f3.f0 == 4) = true := by rw [hk]; rfl
         have HGL0 : glB b = [b.f3.f5] := by unfold glB; rw [if_pos (.inr hk)]
         clear hk hk2 hk3 hk4
         have HGL := Aside0.mk (show glB b = [b.f3.f5] from HGL0)
         clear HGL0
         have RT := Aside0.mk (Kd.R_nil (Kd.int .i64) 3 wc wc.heap.size (fun _ => True))
         have RC := Aside0.mk (show Kd.C (Kd.int .i64) wc none 0 ([] : List Int) from Kd.C_nil (Kd.int .i64) wc)
         skip
         go_upto_region 21 with (first | ((with_reducible refine gate_builtin (b := .append) (xs := #[.tmp 79, .tmp 82]) rfl ?_); at_builtin; go_loud (refine Kd.R_append (Kd.int .i64) (w0 := wc) wc.heap.size rfl (.tmp 79) (.tmp 82) 37 3 _ _ rfl Try.underlying37 info3 rfl (Nat.succ_pos _) (by omega) (.slice none 0 0) [] b.f3.f5 [.int .i64 b.f3.f5] (fun _ => True) (fun _ => False) rfl rfl rfl (fun _ h => h.elim) (fun _ _ => trivial) RT.out HW.out HW.out.size (by simp) ?_; intro v1 w9 hq hb hg hat; clear k0 k1 k2 k3 k4 k5 k6 k7; clear m0 n0 n1 n2; clear RT HW RC; have HW := Aside0.mk hb; obtain ⟨AR1, cR1, rfl, _, hCR⟩ := Kd.R_reads hq; have RT := Aside0.mk hq; have RC := Aside0.mk (show Kd.C (Kd.int .i64) w9 AR1 1 [b.f3.f5] from hCR); clear hq hb hg hat hCR; obtain ⟨k0, k1, k2, k3, k4, k5, k6, k7⟩ := cl8 (blk_below X8.out HW.out); have m0 := (blk_cell (blk_below X2.out HW.out) 0).trans rfl; obtain ⟨n0, n1, n2⟩ := cl3 (blk_below X3.out HW.out))))
         go_cut [7, 100] (fun v7 v100 wd => v7 = .int .i64 x ∧ v100 = .bool false ∧ Aside0 (Below wc.heap.size wc wd))
         case first =>
          obtain ⟨_, D4, d4, D5, d5, D6, d6, e1, y0, y1, y2, y3, y4, y5, y6, y7, y8, y9, y10, y11, y12, y13, hrest⟩ := at_T41 (Kd.C_below (Kd.C_below HF.out HB.out) HW.out) x HX.out.1 HLT.out
          injection e1 with e1
          subst e1
          have HREST := Aside0.mk hrest
          clear hrest
          rw [HBE.out] at y0 y1 y2 y3 y4 y5 y6 y7 y8 y9 y10 y11 y12 y13 HREST
          go_wp2_with (first | (go_at_call 23; go_loud ((with_reducible refine (goals_c b D4 d4 D5 d5 D6 d6 _ HREST.out.2.1 HREST.out.1 HREST.out.2.2.2.1 HREST.out.2.2.1 HREST.out.2.2.2.2.2 HREST.out.2.2.2.2.1).mono ?_); rintro e w6 ⟨⟨AG, cG, rfl, hg⟩, hb⟩; clear k0 k1 k2 k3 k4 k5 k6 k7; clear m0 n0 n1 n2; clear y0 y1 y2 y3 y4 y5 y6 y7 y8 y9 y10 y11 y12 y13; clear HREST; have HW2 := Aside0.mk (below_step HW.out hb); have RC2 := Aside0.mk (Kd.C_below RC.out hb); have HG := Aside0.mk hg; clear HW RC RT hg hb; have HW := HW2; have RC := RC2; clear HW2 RC2)) | (go_at_call 22; go_loud ((with_reducible refine (ints_eq AG cG (glB b) _ _ [b.f3.f5] _ _ HG.out RC.out (glB_len b) HGL.out).mono ?_); rintro e w7 ⟨rfl, hb⟩; have HW2 := Aside0.mk (below_step HW.out hb); clear HW HG RC hb; have HW := HW2; clear HW2)))
          go_meet
          exact ⟨rfl, rfl, HW⟩
         case rest =>
          obtain ⟨rfl, rfl, HW⟩ := hcut
          go_wp2
          have W1 := Aside0.mk (show wrap64 (x + 1) = x + 1 from wrap_in _ (by have := HX.out; omega) (by have := HLT.out; have := HLF.out; omega))
          go_roundg ((f.f2.length : Int) - (x + 1)).toNat
          case measure => have h1_ := HX.out; have h2_ := HLT.out; omega
          case rel => exact ⟨x + 1, by first | (rw [W1.out]; done) | rfl | (simp only [W1.out]; done), ⟨by have := HX.out; have := HLT.out; omega⟩, ⟨HB.out.trans (HW.out.mono HB.out.size)⟩, ⟨blk_below X2.out HW.out⟩, ⟨blk_below X3.out HW.out⟩, ⟨Kd.C_below HOA.out HW.out⟩, ⟨Kd.C_below HOB.out HW.out⟩⟩
        have b2 : (b.f3.f0 == 2) = false := beq_eq_false_iff_ne.2 hk2
        have b3 : (b.f3.f0 == 3) = false := beq_eq_false_iff_ne.2 hk3
        have b4 : (b.f3.f0 == 4) = false := beq_eq_false_iff_ne.2 hk4
        have HGL0 : glB b = [] := by unfold glB; rw [if_neg (by omega), if_neg hk3]
        clear hk2 hk3 hk4
        have HGL := Aside0.mk (show glB b = [] from HGL0)
        clear HGL0
        have RT := Aside0.mk (Kd.R_nil (Kd.int .i64) 3 wc wc.heap.size (fun _ => True))
        have RC := Aside0.mk (show Kd.C (Kd.int .i64) wc none 0 ([] : List Int) from Kd.C_nil (Kd.int .i64) wc)
        skip
        go_upto_region 21 with (first | fail)
        go_cut [7, 100] (fun v7 v100 wd => v7 = .int .i64 x ∧ v100 = .bool false ∧ Aside0 (Below wc.heap.size wc wd))
        case first =>
         obtain ⟨_, D4, d4, D5, d5, D6, d6, e1, y0, y1, y2, y3, y4, y5, y6, y7, y8, y9, y10, y11, y12, y13, hrest⟩ := at_T41 (Kd.C_below (Kd.C_below HF.out HB.out) HW.out) x HX.out.1 HLT.out
         injection e1 with e1
         subst e1
         have HREST := Aside0.mk hrest
         clear hrest
         rw [HBE.out] at y0 y1 y2 y3 y4 y5 y6 y7 y8 y9 y10 y11 y12 y13 HREST
         go_wp2_with (first | (go_at_call 23; go_loud ((with_reducible refine (goals_c b D4 d4 D5 d5 D6 d6 _ HREST.out.2.1 HREST.out.1 HREST.out.2.2.2.1 HREST.out.2.2.1 HREST.out.2.2.2.2.2 HREST.out.2.2.2.2.1).mono ?_); rintro e w6 ⟨⟨AG, cG, rfl, hg⟩, hb⟩; clear k0 k1 k2 k3 k4 k5 k6 k7; clear m0 n0 n1 n2; clear y0 y1 y2 y3 y4 y5 y6 y7 y8 y9 y10 y11 y12 y13; clear HREST; have HW2 := Aside0.mk (below_step HW.out hb); have RC2 := Aside0.mk (Kd.C_below RC.out hb); have HG := Aside0.mk hg; clear HW RC RT hg hb; have HW := HW2; have RC := RC2; clear HW2 RC2)) | (go_at_call 22; go_loud ((with_reducible refine (ints_eq AG cG (glB b) _ _ [] _ _ HG.out RC.out (glB_len b) HGL.out).mono ?_); rintro e w7 ⟨rfl, hb⟩; have HW2 := Aside0.mk (below_step HW.out hb); clear HW HG RC hb; have HW := HW2; clear HW2)))
         go_meet
         exact ⟨rfl, rfl, HW⟩
        case rest =>
         obtain ⟨rfl, rfl, HW⟩ := hcut
         go_wp2
         have W1 := Aside0.mk (show wrap64 (x + 1) = x + 1 from wrap_in _ (by have := HX.out; omega) (by have := HLT.out; have := HLF.out; omega))
         go_roundg ((f.f2.length : Int) - (x + 1)).toNat
         case measure => have h1_ := HX.out; have h2_ := HLT.out; omega
         case rel => exact ⟨x + 1, by first | (rw [W1.out]; done) | rfl | (simp only [W1.out]; done), ⟨by have := HX.out; have := HLT.out; omega⟩, ⟨HB.out.trans (HW.out.mono HB.out.size)⟩, ⟨blk_below X2.out HW.out⟩, ⟨blk_below X3.out HW.out⟩, ⟨Kd.C_below HOA.out HW.out⟩, ⟨Kd.C_below HOB.out HW.out⟩⟩
end Go.Proofs.Ytbfialebaoeicaa.X
