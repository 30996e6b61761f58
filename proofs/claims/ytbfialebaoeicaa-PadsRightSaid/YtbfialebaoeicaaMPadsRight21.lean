/- Part 22 of the proof of the statement PadsRight: the words of the walks, the walks through the functions that it reaches, and the plain laws of what they compute. -/
import Derived.Test.YtbfialebaoeicaaMPadsRight20
import Derived.RegionTactic
import Derived.ChangeAlike
import Derived.Deep.QuietTactic
import Derived.BigQuiet
import Derived.Deep.MidRow
namespace Go.Proofs.Ytbfialebaoeicaa.X
open Go.RowKit Go.Proofs.YtbfialebaoeicaaW.PrintWords Go.Proofs.YtbfialebaoeicaaW.PrintLast Go.Proofs.YtbfialebaoeicaaW.PrintMore
set_option linter.all false
theorem SF_C {w : World} {base : Nat} {ok : Nat → Prop} {A : Option Addr} {n c : Nat} {m : List S27} (h : Kd.S sF 27 w base ok (.slice A n c) m) : Kd.C k27 w A m.length m := (Kd.S_reads' (d := sF) h).2.2
theorem there_cells {w : World} {g o n : Nat} {cs : List Value} (hc : ∀ j u, cs[j]? = some u → w.cell? ⟨g, o + j, none⟩ = some u) (hf : ∀ j, w.frozen? ⟨g, o + j, none⟩ = false) (k : Nat) (hn : k + n ≤ cs.length) : w.there g (o + k) n := by
 intro j hj
 have hl : k + j < cs.length := by omega
 refine ⟨?_, by rw [Nat.add_assoc]; exact hf (k + j)⟩
 rw [Nat.add_assoc, hc (k + j) _ (List.getElem?_eq_getElem hl)]
 rfl
theorem there_same {w w1 : World} {g o n : Nat} (h : w.there g o n) (e : w1.heap[g]? = w.heap[g]?) : w1.there g o n := by
 intro j hj
 have := h j hj
 simp only [World.cell?, World.frozen?] at this ⊢
 rw [e]
 exact this
def padsM (m : List S27) : List S27 := if rightR m = true then m.map padF else m
def padsE (m : List S27) : Int := if rightR m = true then 0 else 1
set_option maxHeartbeats 16000000 in
set_option maxRecDepth 100000 in
theorem pmod_c (m : List S27) (A0 : Option Addr) (c0 : Nat) (w : World) (hm : Kd.C k27 w A0 m.length m) (hc : m.length ≤ c0) (hb : BC m) (hd : Bnd m) :
  Calls Try.prog 41 #[.agg #[.slice A0 m.length c0]] w fun e w' => (∃ v, e = .returned (.tuple #[.agg #[v], .int .i64 (padsE m)]) ∧ SM w' w.heap.size (fun _ => True) v (padsM m)) ∧ Below w.heap.size w w' := by
 have HMC := Aside0.mk hm
 have HC := Aside0.mk hc
 have HN := Aside0.mk hb
 have HND := Aside0.mk hd
 clear hm hc hb hd
 have hu24 := Try.underlying24
 have hu27 := Try.underlying27
 have hu41 := Try.underlying41
 have hu49 := Try.underlying49
 have hu35 := Try.underlying35
 have hu39 := Try.underlying39
 go_enter Try.func41, Try.ntmps41
 go_upto_region 1 with (first | ((with_reducible refine gate_dst (N := 1) rfl ?_); refine box_event ?hg (N := 1) ?hd (cs := #[.slice A0 m.length c0]) (t := 24) ?hr ?_; (case hd => rfl); (case hg => rfl); (case hr => first | (go_simp; done) | (go_simp; rfl)); intro g1 hg w1 hbox hb; have HLX1 := Aside0.mk (show w.heap.size ≤ g1 by rw [hg]; exact Nat.le_refl _); have HB := Aside0.mk hb; have X1 := Aside0.mk hbox; clear hbox hb hg; have m0 := (blk_cell X1.out 0).trans rfl; have zm0 := blk_frozen X1.out 0) | ((with_reducible refine gate_dst (N := 2) rfl ?_); refine box_event ?hg (N := 2) ?hd (cs := #[.slice none 0 0]) (t := 24) ?hr ?_; (case hd => rfl); (case hg => rfl); (case hr => first | (go_simp; done) | (go_simp; rfl)); intro g2 hg w2 hbox hb; have HLX2 := Aside0.mk (show w.heap.size ≤ g2 by rw [hg]; exact HB.out.size); have HNE := Aside0.mk (show g2 ≠ g1 by rw [hg]; exact Nat.ne_of_gt (blk_lt X1.out)); replace HB := Aside0.mk (below_step HB.out hb); replace X1 := Aside0.mk (blk_below X1.out hb); have X2 := Aside0.mk hbox; clear hbox hb hg; have n0 := (blk_cell X2.out 0).trans rfl; have zn0 := blk_frozen X2.out 0; have m0 := (blk_cell X1.out 0).trans rfl; have zm0 := blk_frozen X1.out 0))
 try simp only [Act.put, sA_, sZ_, sS_]
 go_cut [] (fun wc => ∃ (A : Option Addr) (c B0 : Nat), Aside0 (w.heap.size ≤ B0 ∧ g1 < B0 ∧ g2 < B0 ∧ m.length ≤ c) ∧ Aside0 (Below w.heap.size w wc) ∧ Aside0 (wc.heap[g1]? = some (.cells #[.slice A m.length c] 24 (0, 0))) ∧ Aside0 (wc.heap[g2]? = some (.cells #[.slice none 0 0] 24 (0, 0))) ∧ Aside0 (Kd.S sF 27 wc B0 (fun _ => True) (.slice A m.length c) m))
 case first =>
  go_wp2_with (go_at_call 24; go_loud ((with_reducible refine (copy_c m A0 c0 _ (Kd.C_below HMC.out HB.out) HC.out HN.out).mono ?_); rintro e w6 ⟨⟨v6, rfl, hs⟩, hb⟩; obtain ⟨A, c, rfl, hlc, _⟩ := SM_reads hs; have HM := Aside0.mk hs; have HLC := Aside0.mk hlc; have OB := HB; have O1 := X1; have O2 := X2; replace HB := Aside0.mk (below_step HB.out hb); replace X1 := Aside0.mk (blk_below X1.out hb); replace X2 := Aside0.mk (blk_below X2.out hb); clear hs hlc hb m0 zm0 n0 zn0; have m0 := (blk_cell X1.out 0).trans rfl; have zm0 := blk_frozen X1.out 0))
  go_meet
  exact ⟨A, c, _, ⟨OB.out.size, blk_lt O1.out, blk_lt O2.out, HLC.out⟩, ⟨below_set HB.out HLX1.out⟩, ⟨set_blk 0 _ X1.out rfl⟩, ⟨blk_far X2.out (p := ⟨g1, 0, none⟩) HNE.out _⟩, ⟨Kd.S_set HM.out X1.out (by decide) _ _⟩⟩
 case rest =>
  clear m0 zm0 n0 zn0
  clear HB X1 X2
  obtain ⟨A, c, B0, HG, HB, X1, X2, HM⟩ := hcut
  have m0 := (blk_cell X1.out 0).trans rfl
  have zm0 := blk_frozen X1.out 0
  have n0 := (blk_cell X2.out 0).trans rfl
  have zn0 := blk_frozen X2.out 0
  cases hr : rightR m with
  | false =>
   have HR := Aside0.mk hr
   go_wp2_with (go_at_call 16; go_loud ((with_reducible refine (right_l m A c _ (SF_C HM.out) HND.out).mono ?_); rintro e w6 ⟨he, hb⟩; rw [HR.out] at he; subst he; clear m0 zm0 n0 zn0; replace HB := Aside0.mk (below_step HB.out hb); replace X1 := Aside0.mk (blk_below X1.out hb); replace X2 := Aside0.mk (blk_below X2.out hb); replace HM := Aside0.mk (Kd.S_below HM.out hb); clear hb; have m0 := (blk_cell X1.out 0).trans rfl; have zm0 := blk_frozen X1.out 0; have n0 := (blk_cell X2.out 0).trans rfl; have zn0 := blk_frozen X2.out 0))
   refine bodyPost_ret (results_ct rfl _ _ g2 24 #[.slice A m.length c] (0, 0) _ rfl (set_blk 0 _ X2.out rfl) Try.underlying24 rfl (by kernel_rfl)) rfl ?_
   exact ⟨⟨_, by unfold padsE; rw [if_neg (by rw [HR.out]; simp)]; rfl, by unfold padsM; rw [if_neg (by rw [HR.out]; simp)]; exact Kd.S_mono (Kd.S_lower (Kd.S_set HM.out X2.out (by decide) _ _) HG.out.1) (fun _ _ => trivial)⟩, below_set HB.out HLX2.out⟩
  | true =>
   have HR := Aside0.mk hr
   clear hr
   go_wp2_with (go_at_call 16; go_loud ((with_reducible refine (right_l m A c _ (SF_C HM.out) HND.out).mono ?_); rintro e w6 ⟨he, hb⟩; rw [HR.out] at he; subst he; clear m0 zm0 n0 zn0; replace HB := Aside0.mk (below_step HB.out hb); replace X1 := Aside0.mk (blk_below X1.out hb); replace X2 := Aside0.mk (blk_below X2.out hb); replace HM := Aside0.mk (Kd.S_below HM.out hb); clear hb; have m0 := (blk_cell X1.out 0).trans rfl; have zm0 := blk_frozen X1.out 0; have n0 := (blk_cell X2.out 0).trans rfl; have zn0 := blk_frozen X2.out 0))
   clear m0 zm0 n0 zn0
   go_loopg [17] 1000000 (fun gg s wr => ∃ x : Int, s = .int .i64 x ∧ Aside0 (0 ≤ x ∧ x ≤ m.length ∧ (m.length : Int) - x ≤ gg) ∧ Aside0 (Below w.heap.size w wr) ∧ Aside0 (wr.heap[g1]? = some (.cells #[.slice A m.length c] 24 (0, 0))) ∧ Aside0 (wr.heap[g2]? = some (.cells #[.slice none 0 0] 24 (0, 0))) ∧ Aside0 (Kd.S sF 27 wr B0 (fun _ => True) (.slice A m.length c) (upTo padF m x.toNat)))
   case atStart => exact ⟨0, rfl, ⟨by have := HN.out.nf; omega⟩, HB, X1, X2, ⟨by rw [show (0 : Int).toNat = 0 from rfl, upTo_zero]; exact HM.out⟩⟩
   case round =>
    clear HB X1 X2 HM
    obtain ⟨x, rfl, HX, HB, X1, X2, HM⟩ := hrel
    have m0 := (blk_cell X1.out 0).trans rfl
    have zm0 := blk_frozen X1.out 0
    have n0 := (blk_cell X2.out 0).trans rfl
    have zn0 := blk_frozen X2.out 0
    by_cases hlt : x < (m.length : Int)
    rotate_left
    ·have hd : decide (x < (m.length : Int)) = false := decide_eq_false hlt
     have HLT := Aside0.mk hlt
     clear hlt
     go_wp2
     refine bodyPost_ret (results_ct rfl _ _ g2 24 #[.slice A m.length c] (0, 0) _ rfl (set_blk 0 _ X2.out rfl) Try.underlying24 rfl (by kernel_rfl)) rfl ?_
     exact ⟨⟨_, by unfold padsE; rw [if_pos HR.out]; rfl, by unfold padsM; rw [if_pos HR.out, ← upTo_all padF m (i := x.toNat) (by have := HLT.out; have := HX.out; omega)]; exact Kd.S_mono (Kd.S_lower (Kd.S_set HM.out X2.out (by decide) _ _) HG.out.1) (fun _ _ => trivial)⟩, below_set HB.out HLX2.out⟩
    have hd : decide (x < (m.length : Int)) = true := decide_eq_true hlt
    have HLT := Aside0.mk hlt
    clear hlt
    have p1 : (0 ≤ x) = True := eq_true HX.out.1
    have p2 : (x < (m.length : Int)) = True := eq_true HLT.out
    obtain ⟨g0, c', e1, hg0, hg1, _⟩ := Kd.S_form HM.out (by rw [upTo_len]; have := HLT.out; have := HX.out; omega)
    rw [upTo_len] at e1
    injection e1 with e1 _ e2
    subst e1
    subst e2
    have HG0 := Aside0.mk (And.intro hg0 hg1)
    clear hg0 hg1
    obtain ⟨okF, cF, hcl, hM, hcc, hok, hH⟩ := Kd.S_lend HM.out z27 x HX.out.1 HLT.out
    rw [upTo_get] at hM
    have HMB := Aside0.mk (rd_mem' m z27 x HX.out.1 HLT.out)
    generalize hfx : m.getD x.toNat z27 = f at hM HMB
    have HFX := Aside0.mk hfx
    clear hfx
    obtain ⟨v2, rfl, hS2⟩ := hM
    obtain ⟨A2, c2, rfl, hl2, hC2⟩ := Kd.S_reads hS2
    have y0 : wr.cell? ⟨g0, x.toNat * 3, none⟩ = some (.int .i64 f.f0) := hcc 0 _ rfl
    have y1 : wr.cell? ⟨g0, x.toNat * 3 + 1, none⟩ = some (.int .i64 f.f1) := hcc 1 _ rfl
    have y2 : wr.cell? ⟨g0, x.toNat * 3 + 2, none⟩ = some (.slice A2 f.f2.length c2) := hcc 2 _ rfl
    obtain ⟨okP, N6, HH, HS, HOK, HN6⟩ : ∃ (okP : Nat → Prop) (N6 : Nat), Aside0 (Kd.H sF 27 wr B0 (fun _ => True) (.slice (some ⟨g0, 0, none⟩) m.length c) (upTo padF m x.toNat) x okP [.int .i64 f.f0, .int .i64 f.f1, .slice A2 f.f2.length c2]) ∧ Aside0 (Kd.S sB 41 wr B0 okP (.slice A2 f.f2.length c2) f.f2) ∧ Aside0 (∀ k, N6 ≤ k → okP k) ∧ Aside0 (N6 = wr.heap.size) := ⟨_, wr.heap.size, ⟨Kd.H_widen hH⟩, ⟨Kd.S_mono hS2 (fun k hk => .inl hk)⟩, ⟨fun k hk => .inr ⟨trivial, hk⟩⟩, ⟨rfl⟩⟩
    clear hH hS2 hC2 hl2 hcc hok hcl
    go_upto_region 6 with (fail)
    go_cut [5, 17] from 17 to 72 (fun v5 v17 wc => ∃ g5 : Nat, v5 = .pointer (some ⟨g5, 0, none⟩) ∧ v17 = .int .i64 x ∧ Aside0 (Below w.heap.size w wc) ∧ Aside0 (wc.heap[g1]? = some (.cells #[.slice (some ⟨g0, 0, none⟩) m.length c] 24 (0, 0))) ∧ Aside0 (wc.heap[g2]? = some (.cells #[.slice none 0 0] 24 (0, 0))) ∧ Aside0 (wc.heap[g5]? = some (.cells #[.int .i64 f.f0, .int .i64 f.f1, .slice A2 f.f2.length c2] 27 (0, 0))) ∧ Aside0 (Kd.H sF 27 wc B0 (fun _ => True) (.slice (some ⟨g0, 0, none⟩) m.length c) (upTo padF m x.toNat) x okP [.int .i64 f.f0, .int .i64 f.f1, .slice A2 f.f2.length c2]) ∧ Aside0 (Kd.S sB 41 wc B0 okP (.slice A2 f.f2.length c2) f.f2) ∧ Aside0 (N6 ≤ wc.heap.size))
    case first =>
     go_wp2
     go_meet
     exact ⟨_, rfl, rfl, ⟨below_alloc HB.out _⟩, ⟨blk_alloc X1.out _⟩, ⟨blk_alloc X2.out _⟩, ⟨blk_new _ _⟩, ⟨Kd.H_alloc HH.out _⟩, ⟨Kd.S_alloc HS.out _⟩, ⟨by rw [HN6.out]; exact (below_alloc (Below.refl _ _) _).size⟩⟩
    case rest =>
     clear m0 zm0 n0 zn0
     clear y0 y1 y2 HB X1 X2 HM HH HS HN6 p1 p2 hd
     obtain ⟨g5, rfl, rfl, HB, X1, X2, X5, HH, HS, HZ⟩ := hcut
     have m0 := (blk_cell X1.out 0).trans rfl
     have zm0 := blk_frozen X1.out 0
     have n0 := (blk_cell X2.out 0).trans rfl
     have zn0 := blk_frozen X2.out 0
     obtain ⟨f0, f1, f2⟩ := cl3 X5.out
     go_wp2
     clear m0 zm0 n0 zn0
     clear f0 f1 f2
     go_loopg [24] 1000000 (fun gg s wr => ∃ y : Int, s = .int .i64 y ∧ Aside0 (0 ≤ y ∧ y ≤ f.f2.length ∧ (f.f2.length : Int) - y ≤ gg) ∧ Aside0 (Below w.heap.size w wr) ∧ Aside0 (wr.heap[g1]? = some (.cells #[.slice (some ⟨g0, 0, none⟩) m.length c] 24 (0, 0))) ∧ Aside0 (wr.heap[g2]? = some (.cells #[.slice none 0 0] 24 (0, 0))) ∧ Aside0 (wr.heap[g5]? = some (.cells #[.int .i64 f.f0, .int .i64 f.f1, .slice A2 f.f2.length c2] 27 (0, 0))) ∧ Aside0 (Kd.H sF 27 wr B0 (fun _ => True) (.slice (some ⟨g0, 0, none⟩) m.length c) (upTo padF m x.toNat) x okP [.int .i64 f.f0, .int .i64 f.f1, .slice A2 f.f2.length c2]) ∧ Aside0 (Kd.S sB 41 wr B0 okP (.slice A2 f.f2.length c2) (upTo (padB f) f.f2 y.toNat)) ∧ Aside0 (N6 ≤ wr.heap.size))
     case atStart => exact ⟨0, rfl, ⟨by have := HN.out.nb f HMB.out; omega⟩, HB, X1, X2, X5, HH, ⟨by rw [show (0 : Int).toNat = 0 from rfl, upTo_zero]; exact HS.out⟩, HZ⟩
     case round =>
      clear HB X1 X2 X5 HH HS HZ
      obtain ⟨y, rfl, HY, HB, X1, X2, X5, HH, HS, HZ⟩ := hrel
      have m0 := (blk_cell X1.out 0).trans rfl
      have zm0 := blk_frozen X1.out 0
      have n0 := (blk_cell X2.out 0).trans rfl
      have zn0 := blk_frozen X2.out 0
      obtain ⟨f0, f1, f2⟩ := cl3 X5.out
      by_cases hlt : y < (f.f2.length : Int)
      rotate_left
      ·have hd : decide (y < (f.f2.length : Int)) = false := decide_eq_false hlt
       have HLY := Aside0.mk hlt
       clear hlt
       have HNX := Aside0.mk (show Kd.S sF 27 wr B0 (fun _ => True) (.slice (some ⟨g0, 0, none⟩) m.length c) (upTo padF m (x + 1).toNat) from by rw [← upTo_set padF m z27 x HX.out.1 HLT.out (u := padF f) (by rw [HFX.out])]; exact Kd.H_back HH.out ⟨_, rfl, (by rw [← upTo_all (padB f) f.f2 (i := y.toNat) (by have := HLY.out; have := HY.out; omega)]; exact HS.out : Kd.S sB 41 wr B0 okP (.slice A2 f.f2.length c2) (f.f2.map (padB f)))⟩ (fun _ hk => hk))
       go_wp2
       have W1 := Aside0.mk (show wrap64 (x + 1) = x + 1 from wrap_in _ (by have := HX.out; omega) (by have := HLT.out; have := HN.out.nf; omega))
       go_roundg ((m.length : Int) - (x + 1)).toNat
       case measure => have h1_ := HX.out; have h2_ := HLT.out; omega
       case rel => exact ⟨x + 1, by first | (rw [W1.out]; done) | rfl | (simp only [W1.out]; done), ⟨by have := HX.out; have := HLT.out; omega⟩, HB, X1, X2, HNX⟩
      have hd : decide (y < (f.f2.length : Int)) = true := decide_eq_true hlt
      have HLY := Aside0.mk hlt
      clear hlt
      have p1 : (0 ≤ y) = True := eq_true HY.out.1
      have p2 : (y < (f.f2.length : Int)) = True := eq_true HLY.out
      obtain ⟨gb, c2', e1, hg0, hg1, _⟩ := Kd.S_form HS.out (by rw [upTo_len]; have := HLY.out; have := HY.out; omega)
      rw [upTo_len] at e1
      injection e1 with e1 _ e2
      subst e1
      subst e2
      have HGB := Aside0.mk (And.intro hg0 hg1)
      clear hg0 hg1
      have HMY := Aside0.mk (rd_mem' f.f2 z41 y HY.out.1 HLY.out)
      have HBS := Aside0.mk (rd_some f.f2 z41 y HY.out.1 HLY.out)
      generalize hbx : f.f2.getD y.toNat z41 = b at HMY HBS
      have HBX := Aside0.mk hbx
      clear hbx
      have HLT0 := Aside0.mk (show w.heap.size ≤ gb ∧ g1 ≠ gb ∧ g2 ≠ gb ∧ B0 ≤ gb by have := HG.out; have := HGB.out; omega)
      have HGP := Aside0.mk (show okP gb from (Kd.S_R HS.out).1 gb rfl)
      obtain ⟨okB, cB, hcl, hM, hcc, hfr, hokB, hHB⟩ := Kd.S_elem HS.out z41 y HY.out.1 HLY.out
      rw [show (upTo (padB f) f.f2 y.toNat).getD y.toNat z41 = b from (upTo_get _ _ _ _).trans HBX.out] at hM
      obtain ⟨v4, v5, v10, t_, rfl, hR4, hS5, hR10⟩ := hM
      obtain ⟨A4, c4, rfl, hl4, hC4⟩ := Kd.R_reads hR4
      obtain ⟨A5, c5, rfl, hl5, hC5⟩ := Kd.S_reads hS5
      obtain ⟨A6, c6, rfl, hl6, hC6⟩ := Kd.R_reads hR10
      have x1 : wr.cell? ⟨gb, y.toNat * 14 + 1, none⟩ = some (.int .i64 b.f1.f0) := hcc 1 _ rfl
      have x2 : wr.cell? ⟨gb, y.toNat * 14 + 2, none⟩ = some (.slice A4 b.f1.f1.length c4) := hcc 2 _ rfl
      have x3 : wr.cell? ⟨gb, y.toNat * 14 + 3, none⟩ = some (.bool b.f1.f2) := hcc 3 _ rfl
      have x4 : wr.cell? ⟨gb, y.toNat * 14 + 4, none⟩ = some (.bool b.f1.f3) := hcc 4 _ rfl
      have C4 := Aside0.mk hC4
      have L4 := Aside0.mk hl4
      clear hcl hcc hfr hokB hHB hR4 hS5 hR10 hl5 hC5 hl6 hC6
      clear hC4 hl4
      go_upto_region 11 with (fail)
      go_cut [24] from 24 to 71 (fun v24 wc => v24 = .int .i64 y ∧ Aside0 (Below w.heap.size w wc) ∧ Aside0 (wc.heap[g1]? = some (.cells #[.slice (some ⟨g0, 0, none⟩) m.length c] 24 (0, 0))) ∧ Aside0 (wc.heap[g2]? = some (.cells #[.slice none 0 0] 24 (0, 0))) ∧ Aside0 (wc.heap[g5]? = some (.cells #[.int .i64 f.f0, .int .i64 f.f1, .slice (some ⟨gb, 0, none⟩) f.f2.length c2] 27 (0, 0))) ∧ Aside0 (Kd.H sF 27 wc B0 (fun _ => True) (.slice (some ⟨g0, 0, none⟩) m.length c) (upTo padF m x.toNat) x okP [.int .i64 f.f0, .int .i64 f.f1, .slice (some ⟨gb, 0, none⟩) f.f2.length c2]) ∧ Aside0 (Kd.S sB 41 wc B0 okP (.slice (some ⟨gb, 0, none⟩) f.f2.length c2) ((upTo (padB f) f.f2 y.toNat).set y.toNat (trimB b))) ∧ Aside0 (N6 ≤ wc.heap.size))
      case first =>
       go_wp2_with (first | (go_at_call 45; go_loud ((with_reducible refine (trim_c b.f1 A4 c4 _ C4.out L4.out (by have := HN.out.nc f HMB.out b HMY.out; omega)).mono ?_); rintro e w6 ⟨⟨v6, rfl, hr⟩, hb⟩; obtain ⟨D4, k4, rfl, hlk, _⟩ := Kd.R_reads hr; have HR4 := Aside0.mk hr; have HSZ := Aside0.mk hb.size; have HS6 := Aside0.mk (Kd.S_old HS.out hb); clear m0 zm0 n0 zn0; clear f0 f1 f2; clear x1 x2 x3 x4 C4 L4; replace HB := Aside0.mk (below_step HB.out hb); replace X1 := Aside0.mk (blk_below X1.out hb); replace X2 := Aside0.mk (blk_below X2.out hb); replace X5 := Aside0.mk (blk_below X5.out hb); replace HH := Aside0.mk (Kd.H_below HH.out hb); clear hr hb hlk); obtain ⟨okB, cB, hcl, hM, hcc, hfr, hokB, hHB⟩ := Kd.S_elem (show Kd.S sB 41 w6 B0 (fun k => okP k ∧ ¬ wr.heap.size ≤ k) (.slice (some ⟨gb, 0, none⟩) f.f2.length c2) (upTo (padB f) f.f2 y.toNat) from Kd.S_mono HS6.out (fun k hk => ⟨hk.1, by have := hk.2; omega⟩)) z41 y HY.out.1 HLY.out; rw [show (upTo (padB f) f.f2 y.toNat).getD y.toNat z41 = b from (upTo_get _ _ _ _).trans HBX.out] at hM; obtain ⟨v4, v5, v10, t_, rfl, hR4, hS5, hR10⟩ := hM; obtain ⟨A4, c4, rfl, hl4, hC4⟩ := Kd.R_reads hR4; obtain ⟨A5, c5, rfl, hl5, hC5⟩ := Kd.S_reads hS5; obtain ⟨A6, c6, rfl, hl6, hC6⟩ := Kd.R_reads hR10; have HTH := Aside0.mk (show w6.there gb (y.toNat * 14 + 1) 4 from there_cells (n := 4) hcc hfr 1 (by rw [hcl]; exact (by decide : 1 + 4 ≤ 14))); have HHB := Aside0.mk hHB; have HR := Aside0.mk (And.intro hS5 (And.intro hR10 hokB)); clear hcl hcc hfr hokB hHB hR4 hS5 hR10 hl4 hC4 hl5 hC5 hl6 hC6) | ((with_reducible refine gate_store (t := 35) (p := 38) rfl ?_); refine wpList_store_mid rfl _ (.tmp 38) (.tmp 36) rfl gb (y.toNat * 14 + 1) #[.int .i64 (trimP b.f1).f0, .slice D4 (trimP b.f1).f1.length k4, .bool (trimP b.f1).f2, .bool (trimP b.f1).f3] ?hx ?hy ?th (by kernel_rfl) (by kernel_rfl) ?_; (case th => exact HTH.out); (case hx => first | rfl | (go_simp; done)); (case hy => first | rfl | (go_simp; done))))
       go_meet
       have HQ := Kd.S_seg (d := sB) (okg := fun k => wr.heap.size ≤ k) (x' := trimB b) (okp := fun k => okB k ∨ wr.heap.size ≤ k) (j := 1) (seg := [.int .i64 (trimP b.f1).f0, .slice D4 (trimP b.f1).f1.length k4, .bool (trimP b.f1).f2, .bool (trimP b.f1).f3]) HHB.out HY.out.1 HLY.out (by show 1 + 4 ≤ 14; omega) (sB_of (x := trimB b) (ok2 := fun k => wr.heap.size ≤ k) (Kd.R_mono (Kd.R_lower (Kd.R_bound HR4.out) (Nat.le_trans HGB.out.1 (Nat.le_of_lt HGB.out.2))) (fun k hk => hk.2.1)) HR.out.1 HR.out.2.1 (fun k hk => .inr hk) (fun k hk => .inl hk.1) (fun k hk => .inl hk.1) (fun k hk h5 => (HR.out.2.2 k h5.1).1.2 hk) (fun k hk h5 => (HR.out.2.2 k h5.1).1.2 hk) (fun k hk h5 => by have := hk.2; have := h5.2; omega)) (fun k hk => hk) (fun k hk => ⟨HOK.out k (Nat.le_trans HZ.out hk), by have := HGB.out.2; omega⟩)
       exact ⟨rfl, ⟨setL_below HB.out HLT0.out.1 _ _⟩, ⟨setL_far X1.out HLT0.out.2.1 _ _⟩, ⟨setL_far X2.out HLT0.out.2.2.1 _ _⟩, ⟨setL_far X5.out (fun e => Kd.S_ne HS6.out X5.out (by decide) (congrArg some e)) _ _⟩, ⟨Kd.H_step HH.out (fun k _ hk _ => setCells_far _ _ k (fun e => hk (e ▸ HGP.out)))⟩, ⟨HQ.1⟩, ⟨by rw [setL_size]; exact Nat.le_trans HZ.out HSZ.out⟩⟩
      case rest =>
       clear x1 x2 x3 x4 C4 L4 HB X1 X2 X5 HH HS HZ hd
       clear m0 zm0 n0 zn0
       clear f0 f1 f2
       obtain ⟨rfl, HB, X1, X2, X5, HH, HS, HZ⟩ := hcut
       have m0 := (blk_cell X1.out 0).trans rfl
       have zm0 := blk_frozen X1.out 0
       have n0 := (blk_cell X2.out 0).trans rfl
       have zn0 := blk_frozen X2.out 0
       obtain ⟨f0, f1, f2⟩ := cl3 X5.out
       obtain ⟨okB, cB, hcl, hM, hcc, hfr, hokB, hHB⟩ := Kd.S_elem HS.out z41 y HY.out.1 HLY.out
       rw [show ((upTo (padB f) f.f2 y.toNat).set y.toNat (trimB b)).getD y.toNat z41 = trimB b from set_get _ _ _ _ (by rw [upTo_len]; have := HLY.out; have := HY.out; omega)] at hM
       obtain ⟨v4, v5, v10, t_, rfl, hR4, hS5, hR10⟩ := hM
       obtain ⟨E4, e4, rfl, hl4, hC4⟩ := Kd.R_reads hR4
       obtain ⟨E5, e5, rfl, hl5, hC5⟩ := Kd.S_reads hS5
       obtain ⟨E6, e6, rfl, hl6, hC6⟩ := Kd.R_reads hR10
       have x5 : wc.cell? ⟨gb, y.toNat * 14 + 5, none⟩ = some (.slice E5 b.f2.length e5) := hcc 5 _ rfl
       have x6 : wc.cell? ⟨gb, y.toNat * 14 + 6, none⟩ = some (.int .i64 b.f3.f0) := hcc 6 _ rfl
       have x13 : wc.cell? ⟨gb, y.toNat * 14 + 13, none⟩ = some (.int .i64 b.f3.f7) := hcc 13 _ rfl
       clear hcl hcc hfr hokB hHB hR4 hS5 hR10 hl5 hC5 hl6 hC6
       clear hC4 hl4
       go_upto_region 12 with (fail)
       go_cut [64, 24] from 24 to 71 (fun v64 v24 wd => v64 = .bool (goesB f b) ∧ v24 = .int .i64 y ∧ Aside0 (Below w.heap.size w wd) ∧ Aside0 (wd.heap[g1]? = some (.cells #[.slice (some ⟨g0, 0, none⟩) m.length c] 24 (0, 0))) ∧ Aside0 (wd.heap[g2]? = some (.cells #[.slice none 0 0] 24 (0, 0))) ∧ Aside0 (wd.heap[g5]? = some (.cells #[.int .i64 f.f0, .int .i64 f.f1, .slice (some ⟨gb, 0, none⟩) f.f2.length c2] 27 (0, 0))) ∧ Aside0 (Kd.H sF 27 wd B0 (fun _ => True) (.slice (some ⟨g0, 0, none⟩) m.length c) (upTo padF m x.toNat) x okP [.int .i64 f.f0, .int .i64 f.f1, .slice (some ⟨gb, 0, none⟩) f.f2.length c2]) ∧ Aside0 (Kd.S sB 41 wd B0 okP (.slice (some ⟨gb, 0, none⟩) f.f2.length c2) ((upTo (padB f) f.f2 y.toNat).set y.toNat (trimB b))) ∧ Aside0 (N6 ≤ wd.heap.size))
       case first =>
        go_wp2
        cases hk : (b.f3.f0 == 4) with
        | false =>
         refine start_ (S := (fun W : World => Below wc.heap.size wc W)) (ds := []) #[bF,bF,bF,bF,bF,bF,bF,bF,bF,bF,bF,bF,bF,bF,bF,bF,bF,bF,bF,bF,bF,bF,bF,bF,bF,bF] (by kernel_rfl) (by rfl) (by rfl) (below_drew (Below.refl _ _)) (fun hS => ?_)
         refine take_ (i := 0) (N := some 39) (v := .pointer (some ⟨gb, y.toNat * 14, none⟩)) (a' := ?axra1) #[bT,bF,bF,bF,bF,bF,bF,bF,bF,bF,bF,bF,bF,bF,bF,bF,bF,bF,bF,bF,bF,bF,bF,bF,bF,bF] rfl rfl (by kernel_rfl) (fun _ _ _ h => h) (Or.inl ⟨by rfl, ?yyra1⟩) hS ?hara1 ?hhra1
         case yyra1 => intro W hW; have q5 := pw_cell_below hW x5; have q6 := pw_cell_below hW x6; have q13 := pw_cell_below hW x13; have qf := (blk_cell (blk_below X5.out hW) 2).trans rfl; go_simp; done
         case hara1 => try simp only [Act.put, sA_, sZ_, sS_]; exact rfl
         refine take_ (i := 1) (N := some 40) (v := .pointer (some ⟨gb, y.toNat * 14, none⟩)) (a' := ?axra2) #[bT,bT,bF,bF,bF,bF,bF,bF,bF,bF,bF,bF,bF,bF,bF,bF,bF,bF,bF,bF,bF,bF,bF,bF,bF,bF] rfl rfl (by kernel_rfl) (fun _ _ _ h => h) (Or.inl ⟨by rfl, ?yyra2⟩) hS ?hara2 ?hhra2
         case yyra2 => intro W hW; have q5 := pw_cell_below hW x5; have q6 := pw_cell_below hW x6; have q13 := pw_cell_below hW x13; have qf := (blk_cell (blk_below X5.out hW) 2).trans rfl; go_simp; done
         case hara2 => try simp only [Act.put, sA_, sZ_, sS_]; exact rfl
         refine take_ (i := 2) (N := some 41) (v := .pointer (some ⟨gb, y.toNat * 14 + 6, none⟩)) (a' := ?axra3) #[bT,bT,bT,bF,bF,bF,bF,bF,bF,bF,bF,bF,bF,bF,bF,bF,bF,bF,bF,bF,bF,bF,bF,bF,bF,bF] rfl rfl (by kernel_rfl) (fun _ _ _ h => h) (Or.inl ⟨by rfl, ?yyra3⟩) hS ?hara3 ?hhra3
         case yyra3 => intro W hW; have q5 := pw_cell_below hW x5; have q6 := pw_cell_below hW x6; have q13 := pw_cell_below hW x13; have qf := (blk_cell (blk_below X5.out hW) 2).trans rfl; go_simp; done
         case hara3 => try simp only [Act.put, sA_, sZ_, sS_]; exact rfl
         refine take_ (i := 3) (N := some 42) (v := .pointer (some ⟨gb, y.toNat * 14 + 6, none⟩)) (a' := ?axra4) #[bT,bT,bT,bT,bF,bF,bF,bF,bF,bF,bF,bF,bF,bF,bF,bF,bF,bF,bF,bF,bF,bF,bF,bF,bF,bF] rfl rfl (by kernel_rfl) (fun _ _ _ h => h) (Or.inl ⟨by rfl, ?yyra4⟩) hS ?hara4 ?hhra4
         case yyra4 => intro W hW; have q5 := pw_cell_below hW x5; have q6 := pw_cell_below hW x6; have q13 := pw_cell_below hW x13; have qf := (blk_cell (blk_below X5.out hW) 2).trans rfl; go_simp; done
         case hara4 => try simp only [Act.put, sA_, sZ_, sS_]; exact rfl
         refine take_ (i := 4) (N := some 43) (v := .int .i64 b.f3.f0) (a' := ?axra5) #[bT,bT,bT,bT,bT,bF,bF,bF,bF,bF,bF,bF,bF,bF,bF,bF,bF,bF,bF,bF,bF,bF,bF,bF,bF,bF] rfl rfl (by kernel_rfl) (fun _ _ _ h => h) (Or.inl ⟨by rfl, ?yyra5⟩) hS ?hara5 ?hhra5
         case yyra5 => intro W hW; have q5 := pw_cell_below hW x5; have q6 := pw_cell_below hW x6; have q13 := pw_cell_below hW x13; have qf := (blk_cell (blk_below X5.out hW) 2).trans rfl; go_simp; done
         case hara5 => try simp only [Act.put, sA_, sZ_, sS_]; exact rfl
         refine take_ (i := 5) (N := some 44) (v := .bool false) (a' := ?axra6) #[bT,bT,bT,bT,bT,bT,bF,bF,bF,bF,bF,bF,bF,bF,bF,bF,bF,bF,bF,bF,bF,bF,bF,bF,bF,bF] rfl rfl (by kernel_rfl) (fun _ _ _ h => h) (Or.inl ⟨by rfl, ?yyra6⟩) hS ?hara6 ?hhra6
         case yyra6 => intro W hW; have q5 := pw_cell_below hW x5; have q6 := pw_cell_below hW x6; have q13 := pw_cell_below hW x13; have qf := (blk_cell (blk_below X5.out hW) 2).trans rfl; go_simp; done
         case hara6 => try simp only [Act.put, sA_, sZ_, sS_]; exact rfl
         refine take_ (i := 6) (N := some 45) (v := .bool false) (a' := ?axra7) #[bT,bT,bT,bT,bT,bT,bT,bF,bF,bF,bF,bF,bF,bF,bF,bF,bF,bF,bF,bF,bF,bF,bF,bF,bF,bF] rfl rfl (by kernel_rfl) (fun _ _ _ h => h) (Or.inl ⟨by rfl, ?yyra7⟩) hS ?hara7 ?hhra7
         case yyra7 => intro W hW; have q5 := pw_cell_below hW x5; have q6 := pw_cell_below hW x6; have q13 := pw_cell_below hW x13; have qf := (blk_cell (blk_below X5.out hW) 2).trans rfl; go_simp; done
         case hara7 => try simp only [Act.put, sA_, sZ_, sS_]; exact rfl
         refine take_ (i := 7) (N := some 46) (v := undef) (a' := ?axra8) #[bT,bT,bT,bT,bT,bT,bT,bT,bF,bF,bF,bF,bF,bF,bF,bF,bF,bF,bF,bF,bF,bF,bF,bF,bF,bF] rfl rfl (by kernel_rfl) (fun _ _ _ h => h) (Or.inr ⟨by rfl, rfl⟩) hS ?hara8 ?hhra8
         case hara8 => try simp only [Act.put, sA_, sZ_, sS_]; exact rfl
         refine take_ (i := 8) (N := some 47) (v := undef) (a' := ?axra9) #[bT,bT,bT,bT,bT,bT,bT,bT,bT,bF,bF,bF,bF,bF,bF,bF,bF,bF,bF,bF,bF,bF,bF,bF,bF,bF] rfl rfl (by kernel_rfl) (fun _ _ _ h => h) (Or.inr ⟨by rfl, rfl⟩) hS ?hara9 ?hhra9
         case hara9 => try simp only [Act.put, sA_, sZ_, sS_]; exact rfl
         refine take_ (i := 9) (N := some 48) (v := undef) (a' := ?axra10) #[bT,bT,bT,bT,bT,bT,bT,bT,bT,bT,bF,bF,bF,bF,bF,bF,bF,bF,bF,bF,bF,bF,bF,bF,bF,bF] rfl rfl (by kernel_rfl) (fun _ _ _ h => h) (Or.inr ⟨by rfl, rfl⟩) hS ?hara10 ?hhra10
         case hara10 => try simp only [Act.put, sA_, sZ_, sS_]; exact rfl
         refine take_ (i := 10) (N := some 49) (v := undef) (a' := ?axra11) #[bT,bT,bT,bT,bT,bT,bT,bT,bT,bT,bT,bF,bF,bF,bF,bF,bF,bF,bF,bF,bF,bF,bF,bF,bF,bF] rfl rfl (by kernel_rfl) (fun _ _ _ h => h) (Or.inr ⟨by rfl, rfl⟩) hS ?hara11 ?hhra11
         case hara11 => try simp only [Act.put, sA_, sZ_, sS_]; exact rfl
         refine take_ (i := 11) (N := some 50) (v := undef) (a' := ?axra12) #[bT,bT,bT,bT,bT,bT,bT,bT,bT,bT,bT,bT,bF,bF,bF,bF,bF,bF,bF,bF,bF,bF,bF,bF,bF,bF] rfl rfl (by kernel_rfl) (fun _ _ _ h => h) (Or.inr ⟨by rfl, rfl⟩) hS ?hara12 ?hhra12
         case hara12 => try simp only [Act.put, sA_, sZ_, sS_]; exact rfl
         refine take_ (i := 12) (N := some 51) (v := undef) (a' := ?axra13) #[bT,bT,bT,bT,bT,bT,bT,bT,bT,bT,bT,bT,bT,bF,bF,bF,bF,bF,bF,bF,bF,bF,bF,bF,bF,bF] rfl rfl (by kernel_rfl) (fun _ _ _ h => h) (Or.inr ⟨by rfl, rfl⟩) hS ?hara13 ?hhra13
         case hara13 => try simp only [Act.put, sA_, sZ_, sS_]; exact rfl
         refine take_ (i := 13) (N := some 52) (v := .bool false) (a' := ?axra14) #[bT,bT,bT,bT,bT,bT,bT,bT,bT,bT,bT,bT,bT,bT,bF,bF,bF,bF,bF,bF,bF,bF,bF,bF,bF,bF] rfl rfl (by kernel_rfl) (fun _ _ _ h => h) (Or.inl ⟨by rfl, ?yyra14⟩) hS ?hara14 ?hhra14
         case yyra14 => intro W hW; have q5 := pw_cell_below hW x5; have q6 := pw_cell_below hW x6; have q13 := pw_cell_below hW x13; have qf := (blk_cell (blk_below X5.out hW) 2).trans rfl; go_simp; done
         case hara14 => try simp only [Act.put, sA_, sZ_, sS_]; exact rfl
         refine take_ (i := 14) (N := some 53) (v := .bool false) (a' := ?axra15) #[bT,bT,bT,bT,bT,bT,bT,bT,bT,bT,bT,bT,bT,bT,bT,bF,bF,bF,bF,bF,bF,bF,bF,bF,bF,bF] rfl rfl (by kernel_rfl) (fun _ _ _ h => h) (Or.inl ⟨by rfl, ?yyra15⟩) hS ?hara15 ?hhra15
         case yyra15 => intro W hW; have q5 := pw_cell_below hW x5; have q6 := pw_cell_below hW x6; have q13 := pw_cell_below hW x13; have qf := (blk_cell (blk_below X5.out hW) 2).trans rfl; go_simp; done
         case hara15 => try simp only [Act.put, sA_, sZ_, sS_]; exact rfl
         refine take_ (i := 15) (N := some 54) (v := undef) (a' := ?axra16) #[bT,bT,bT,bT,bT,bT,bT,bT,bT,bT,bT,bT,bT,bT,bT,bT,bF,bF,bF,bF,bF,bF,bF,bF,bF,bF] rfl rfl (by kernel_rfl) (fun _ _ _ h => h) (Or.inr ⟨by rfl, rfl⟩) hS ?hara16 ?hhra16
         case hara16 => try simp only [Act.put, sA_, sZ_, sS_]; exact rfl
         refine take_ (i := 16) (N := some 55) (v := undef) (a' := ?axra17) #[bT,bT,bT,bT,bT,bT,bT,bT,bT,bT,bT,bT,bT,bT,bT,bT,bT,bF,bF,bF,bF,bF,bF,bF,bF,bF] rfl rfl (by kernel_rfl) (fun _ _ _ h => h) (Or.inr ⟨by rfl, rfl⟩) hS ?hara17 ?hhra17
         case hara17 => try simp only [Act.put, sA_, sZ_, sS_]; exact rfl
         refine take_ (i := 17) (N := some 56) (v := undef) (a' := ?axra18) #[bT,bT,bT,bT,bT,bT,bT,bT,bT,bT,bT,bT,bT,bT,bT,bT,bT,bT,bF,bF,bF,bF,bF,bF,bF,bF] rfl rfl (by kernel_rfl) (fun _ _ _ h => h) (Or.inr ⟨by rfl, rfl⟩) hS ?hara18 ?hhra18
         case hara18 => try simp only [Act.put, sA_, sZ_, sS_]; exact rfl
         refine take_ (i := 18) (N := some 57) (v := undef) (a' := ?axra19) #[bT,bT,bT,bT,bT,bT,bT,bT,bT,bT,bT,bT,bT,bT,bT,bT,bT,bT,bT,bF,bF,bF,bF,bF,bF,bF] rfl rfl (by kernel_rfl) (fun _ _ _ h => h) (Or.inr ⟨by rfl, rfl⟩) hS ?hara19 ?hhra19
         case hara19 => try simp only [Act.put, sA_, sZ_, sS_]; exact rfl
         refine take_ (i := 19) (N := some 58) (v := undef) (a' := ?axra20) #[bT,bT,bT,bT,bT,bT,bT,bT,bT,bT,bT,bT,bT,bT,bT,bT,bT,bT,bT,bT,bF,bF,bF,bF,bF,bF] rfl rfl (by kernel_rfl) (fun _ _ _ h => h) (Or.inr ⟨by rfl, rfl⟩) hS ?hara20 ?hhra20
         case hara20 => try simp only [Act.put, sA_, sZ_, sS_]; exact rfl
         refine take_ (i := 20) (N := some 59) (v := undef) (a' := ?axra21) #[bT,bT,bT,bT,bT,bT,bT,bT,bT,bT,bT,bT,bT,bT,bT,bT,bT,bT,bT,bT,bT,bF,bF,bF,bF,bF] rfl rfl (by kernel_rfl) (fun _ _ _ h => h) (Or.inr ⟨by rfl, rfl⟩) hS ?hara21 ?hhra21
         case hara21 => try simp only [Act.put, sA_, sZ_, sS_]; exact rfl
         refine take_ (i := 21) (N := some 60) (v := undef) (a' := ?axra22) #[bT,bT,bT,bT,bT,bT,bT,bT,bT,bT,bT,bT,bT,bT,bT,bT,bT,bT,bT,bT,bT,bT,bF,bF,bF,bF] rfl rfl (by kernel_rfl) (fun _ _ _ h => h) (Or.inr ⟨by rfl, rfl⟩) hS ?hara22 ?hhra22
         case hara22 => try simp only [Act.put, sA_, sZ_, sS_]; exact rfl
         refine take_ (i := 22) (N := some 61) (v := undef) (a' := ?axra23) #[bT,bT,bT,bT,bT,bT,bT,bT,bT,bT,bT,bT,bT,bT,bT,bT,bT,bT,bT,bT,bT,bT,bT,bF,bF,bF] rfl rfl (by kernel_rfl) (fun _ _ _ h => h) (Or.inr ⟨by rfl, rfl⟩) hS ?hara23 ?hhra23
         case hara23 => try simp only [Act.put, sA_, sZ_, sS_]; exact rfl
         refine take_ (i := 23) (N := some 62) (v := undef) (a' := ?axra24) #[bT,bT,bT,bT,bT,bT,bT,bT,bT,bT,bT,bT,bT,bT,bT,bT,bT,bT,bT,bT,bT,bT,bT,bT,bF,bF] rfl rfl (by kernel_rfl) (fun _ _ _ h => h) (Or.inr ⟨by rfl, rfl⟩) hS ?hara24 ?hhra24
         case hara24 => try simp only [Act.put, sA_, sZ_, sS_]; exact rfl
         refine take_ (i := 24) (N := some 63) (v := undef) (a' := ?axra25) #[bT,bT,bT,bT,bT,bT,bT,bT,bT,bT,bT,bT,bT,bT,bT,bT,bT,bT,bT,bT,bT,bT,bT,bT,bT,bF] rfl rfl (by kernel_rfl) (fun _ _ _ h => h) (Or.inr ⟨by rfl, rfl⟩) hS ?hara25 ?hhra25
         case hara25 => try simp only [Act.put, sA_, sZ_, sS_]; exact rfl
         refine take_ (i := 25) (N := some 64) (v := .bool false) (a' := ?axra26) #[bT,bT,bT,bT,bT,bT,bT,bT,bT,bT,bT,bT,bT,bT,bT,bT,bT,bT,bT,bT,bT,bT,bT,bT,bT,bT] rfl rfl (by kernel_rfl) (fun _ _ _ h => h) (Or.inl ⟨by rfl, ?yyra26⟩) hS ?hara26 ?hhra26
         case yyra26 => intro W hW; have q5 := pw_cell_below hW x5; have q6 := pw_cell_below hW x6; have q13 := pw_cell_below hW x13; have qf := (blk_cell (blk_below X5.out hW) 2).trans rfl; go_simp; done
         case hara26 => try simp only [Act.put, sA_, sZ_, sS_]; exact rfl
         refine done_ (by kernel_rfl) ?_
         go_wp2
         go_meet
         exact ⟨congrArg Value.bool (by unfold goesB; rw [hk]; rfl), rfl, ⟨HB.out.trans (hS.mono HB.out.size)⟩, ⟨blk_below X1.out hS⟩, ⟨blk_below X2.out hS⟩, ⟨blk_below X5.out hS⟩, ⟨Kd.H_below HH.out hS⟩, ⟨Kd.S_below HS.out hS⟩, ⟨Nat.le_trans HZ.out hS.size⟩⟩
        | true =>
         have h4 : b.f3.f0 = 4 := by simpa using hk
         cases hl : decide ((b.f2.length : Int) < 64) with
         | false =>
          refine start_ (S := (fun W : World => Below wc.heap.size wc W)) (ds := []) #[bF,bF,bF,bF,bF,bF,bF,bF,bF,bF,bF,bF,bF,bF,bF,bF,bF,bF,bF,bF,bF,bF,bF,bF,bF,bF] (by kernel_rfl) (by rfl) (by rfl) (below_drew (Below.refl _ _)) (fun hS => ?_)
          refine take_ (i := 0) (N := some 39) (v := .pointer (some ⟨gb, y.toNat * 14, none⟩)) (a' := ?axrb1) #[bT,bF,bF,bF,bF,bF,bF,bF,bF,bF,bF,bF,bF,bF,bF,bF,bF,bF,bF,bF,bF,bF,bF,bF,bF,bF] rfl rfl (by kernel_rfl) (fun _ _ _ h => h) (Or.inl ⟨by rfl, ?yyrb1⟩) hS ?harb1 ?hhrb1
          case yyrb1 => intro W hW; have q5 := pw_cell_below hW x5; have q6 := pw_cell_below hW x6; have q13 := pw_cell_below hW x13; have qf := (blk_cell (blk_below X5.out hW) 2).trans rfl; go_simp; done
          case harb1 => try simp only [Act.put, sA_, sZ_, sS_]; exact rfl
          refine take_ (i := 1) (N := some 40) (v := .pointer (some ⟨gb, y.toNat * 14, none⟩)) (a' := ?axrb2) #[bT,bT,bF,bF,bF,bF,bF,bF,bF,bF,bF,bF,bF,bF,bF,bF,bF,bF,bF,bF,bF,bF,bF,bF,bF,bF] rfl rfl (by kernel_rfl) (fun _ _ _ h => h) (Or.inl ⟨by rfl, ?yyrb2⟩) hS ?harb2 ?hhrb2
          case yyrb2 => intro W hW; have q5 := pw_cell_below hW x5; have q6 := pw_cell_below hW x6; have q13 := pw_cell_below hW x13; have qf := (blk_cell (blk_below X5.out hW) 2).trans rfl; go_simp; done
          case harb2 => try simp only [Act.put, sA_, sZ_, sS_]; exact rfl
          refine take_ (i := 2) (N := some 41) (v := .pointer (some ⟨gb, y.toNat * 14 + 6, none⟩)) (a' := ?axrb3) #[bT,bT,bT,bF,bF,bF,bF,bF,bF,bF,bF,bF,bF,bF,bF,bF,bF,bF,bF,bF,bF,bF,bF,bF,bF,bF] rfl rfl (by kernel_rfl) (fun _ _ _ h => h) (Or.inl ⟨by rfl, ?yyrb3⟩) hS ?harb3 ?hhrb3
          case yyrb3 => intro W hW; have q5 := pw_cell_below hW x5; have q6 := pw_cell_below hW x6; have q13 := pw_cell_below hW x13; have qf := (blk_cell (blk_below X5.out hW) 2).trans rfl; go_simp; done
          case harb3 => try simp only [Act.put, sA_, sZ_, sS_]; exact rfl
          refine take_ (i := 3) (N := some 42) (v := .pointer (some ⟨gb, y.toNat * 14 + 6, none⟩)) (a' := ?axrb4) #[bT,bT,bT,bT,bF,bF,bF,bF,bF,bF,bF,bF,bF,bF,bF,bF,bF,bF,bF,bF,bF,bF,bF,bF,bF,bF] rfl rfl (by kernel_rfl) (fun _ _ _ h => h) (Or.inl ⟨by rfl, ?yyrb4⟩) hS ?harb4 ?hhrb4
          case yyrb4 => intro W hW; have q5 := pw_cell_below hW x5; have q6 := pw_cell_below hW x6; have q13 := pw_cell_below hW x13; have qf := (blk_cell (blk_below X5.out hW) 2).trans rfl; go_simp; done
          case harb4 => try simp only [Act.put, sA_, sZ_, sS_]; exact rfl
          refine take_ (i := 4) (N := some 43) (v := .int .i64 b.f3.f0) (a' := ?axrb5) #[bT,bT,bT,bT,bT,bF,bF,bF,bF,bF,bF,bF,bF,bF,bF,bF,bF,bF,bF,bF,bF,bF,bF,bF,bF,bF] rfl rfl (by kernel_rfl) (fun _ _ _ h => h) (Or.inl ⟨by rfl, ?yyrb5⟩) hS ?harb5 ?hhrb5
          case yyrb5 => intro W hW; have q5 := pw_cell_below hW x5; have q6 := pw_cell_below hW x6; have q13 := pw_cell_below hW x13; have qf := (blk_cell (blk_below X5.out hW) 2).trans rfl; go_simp; done
          case harb5 => try simp only [Act.put, sA_, sZ_, sS_]; exact rfl
          refine take_ (i := 5) (N := some 44) (v := .bool true) (a' := ?axrb6) #[bT,bT,bT,bT,bT,bT,bF,bF,bF,bF,bF,bF,bF,bF,bF,bF,bF,bF,bF,bF,bF,bF,bF,bF,bF,bF] rfl rfl (by kernel_rfl) (fun _ _ _ h => h) (Or.inl ⟨by rfl, ?yyrb6⟩) hS ?harb6 ?hhrb6
          case yyrb6 => intro W hW; have q5 := pw_cell_below hW x5; have q6 := pw_cell_below hW x6; have q13 := pw_cell_below hW x13; have qf := (blk_cell (blk_below X5.out hW) 2).trans rfl; go_simp; done
          case harb6 => try simp only [Act.put, sA_, sZ_, sS_]; exact rfl
          refine take_ (i := 6) (N := some 45) (v := .bool true) (a' := ?axrb7) #[bT,bT,bT,bT,bT,bT,bT,bF,bF,bF,bF,bF,bF,bF,bF,bF,bF,bF,bF,bF,bF,bF,bF,bF,bF,bF] rfl rfl (by kernel_rfl) (fun _ _ _ h => h) (Or.inl ⟨by rfl, ?yyrb7⟩) hS ?harb7 ?hhrb7
          case yyrb7 => intro W hW; have q5 := pw_cell_below hW x5; have q6 := pw_cell_below hW x6; have q13 := pw_cell_below hW x13; have qf := (blk_cell (blk_below X5.out hW) 2).trans rfl; go_simp; done
          case harb7 => try simp only [Act.put, sA_, sZ_, sS_]; exact rfl
          refine take_ (i := 7) (N := some 46) (v := .pointer (some ⟨gb, y.toNat * 14, none⟩)) (a' := ?axrb8) #[bT,bT,bT,bT,bT,bT,bT,bT,bF,bF,bF,bF,bF,bF,bF,bF,bF,bF,bF,bF,bF,bF,bF,bF,bF,bF] rfl rfl (by kernel_rfl) (fun _ _ _ h => h) (Or.inl ⟨by rfl, ?yyrb8⟩) hS ?harb8 ?hhrb8
          case yyrb8 => intro W hW; have q5 := pw_cell_below hW x5; have q6 := pw_cell_below hW x6; have q13 := pw_cell_below hW x13; have qf := (blk_cell (blk_below X5.out hW) 2).trans rfl; go_simp; done
          case harb8 => try simp only [Act.put, sA_, sZ_, sS_]; exact rfl
          refine take_ (i := 8) (N := some 47) (v := .pointer (some ⟨gb, y.toNat * 14, none⟩)) (a' := ?axrb9) #[bT,bT,bT,bT,bT,bT,bT,bT,bT,bF,bF,bF,bF,bF,bF,bF,bF,bF,bF,bF,bF,bF,bF,bF,bF,bF] rfl rfl (by kernel_rfl) (fun _ _ _ h => h) (Or.inl ⟨by rfl, ?yyrb9⟩) hS ?harb9 ?hhrb9
          case yyrb9 => intro W hW; have q5 := pw_cell_below hW x5; have q6 := pw_cell_below hW x6; have q13 := pw_cell_below hW x13; have qf := (blk_cell (blk_below X5.out hW) 2).trans rfl; go_simp; done
          case harb9 => try simp only [Act.put, sA_, sZ_, sS_]; exact rfl
          refine take_ (i := 9) (N := some 48) (v := .pointer (some ⟨gb, y.toNat * 14 + 5, none⟩)) (a' := ?axrb10) #[bT,bT,bT,bT,bT,bT,bT,bT,bT,bT,bF,bF,bF,bF,bF,bF,bF,bF,bF,bF,bF,bF,bF,bF,bF,bF] rfl rfl (by kernel_rfl) (fun _ _ _ h => h) (Or.inl ⟨by rfl, ?yyrb10⟩) hS ?harb10 ?hhrb10
          case yyrb10 => intro W hW; have q5 := pw_cell_below hW x5; have q6 := pw_cell_below hW x6; have q13 := pw_cell_below hW x13; have qf := (blk_cell (blk_below X5.out hW) 2).trans rfl; go_simp; done
          case harb10 => try simp only [Act.put, sA_, sZ_, sS_]; exact rfl
          refine take_ (i := 10) (N := some 49) (v := .slice E5 b.f2.length e5) (a' := ?axrb11) #[bT,bT,bT,bT,bT,bT,bT,bT,bT,bT,bT,bF,bF,bF,bF,bF,bF,bF,bF,bF,bF,bF,bF,bF,bF,bF] rfl rfl (by kernel_rfl) (fun _ _ _ h => h) (Or.inl ⟨by rfl, ?yyrb11⟩) hS ?harb11 ?hhrb11
          case yyrb11 => intro W hW; have q5 := pw_cell_below hW x5; have q6 := pw_cell_below hW x6; have q13 := pw_cell_below hW x13; have qf := (blk_cell (blk_below X5.out hW) 2).trans rfl; go_simp; done
          case harb11 => try simp only [Act.put, sA_, sZ_, sS_]; exact rfl
          refine take_ (i := 11) (N := some 50) (v := .int .i64 b.f2.length) (a' := ?axrb12) #[bT,bT,bT,bT,bT,bT,bT,bT,bT,bT,bT,bT,bF,bF,bF,bF,bF,bF,bF,bF,bF,bF,bF,bF,bF,bF] rfl rfl (by kernel_rfl) (fun _ _ _ h => h) (Or.inl ⟨by rfl, ?yyrb12⟩) hS ?harb12 ?hhrb12
          case yyrb12 => intro W hW; have q5 := pw_cell_below hW x5; have q6 := pw_cell_below hW x6; have q13 := pw_cell_below hW x13; have qf := (blk_cell (blk_below X5.out hW) 2).trans rfl; go_simp; done
          case harb12 => try simp only [Act.put, sA_, sZ_, sS_]; exact rfl
          refine take_ (i := 12) (N := some 51) (v := .bool false) (a' := ?axrb13) #[bT,bT,bT,bT,bT,bT,bT,bT,bT,bT,bT,bT,bT,bF,bF,bF,bF,bF,bF,bF,bF,bF,bF,bF,bF,bF] rfl rfl (by kernel_rfl) (fun _ _ _ h => h) (Or.inl ⟨by rfl, ?yyrb13⟩) hS ?harb13 ?hhrb13
          case yyrb13 => intro W hW; have q5 := pw_cell_below hW x5; have q6 := pw_cell_below hW x6; have q13 := pw_cell_below hW x13; have qf := (blk_cell (blk_below X5.out hW) 2).trans rfl; go_simp; done
          case harb13 => try simp only [Act.put, sA_, sZ_, sS_]; exact rfl
          refine take_ (i := 13) (N := some 52) (v := .bool false) (a' := ?axrb14) #[bT,bT,bT,bT,bT,bT,bT,bT,bT,bT,bT,bT,bT,bT,bF,bF,bF,bF,bF,bF,bF,bF,bF,bF,bF,bF] rfl rfl (by kernel_rfl) (fun _ _ _ h => h) (Or.inl ⟨by rfl, ?yyrb14⟩) hS ?harb14 ?hhrb14
          case yyrb14 => intro W hW; have q5 := pw_cell_below hW x5; have q6 := pw_cell_below hW x6; have q13 := pw_cell_below hW x13; have qf := (blk_cell (blk_below X5.out hW) 2).trans rfl; go_simp; done
          case harb14 => try simp only [Act.put, sA_, sZ_, sS_]; exact rfl
          refine take_ (i := 14) (N := some 53) (v := .bool false) (a' := ?axrb15) #[bT,bT,bT,bT,bT,bT,bT,bT,bT,bT,bT,bT,bT,bT,bT,bF,bF,bF,bF,bF,bF,bF,bF,bF,bF,bF] rfl rfl (by kernel_rfl) (fun _ _ _ h => h) (Or.inl ⟨by rfl, ?yyrb15⟩) hS ?harb15 ?hhrb15
          case yyrb15 => intro W hW; have q5 := pw_cell_below hW x5; have q6 := pw_cell_below hW x6; have q13 := pw_cell_below hW x13; have qf := (blk_cell (blk_below X5.out hW) 2).trans rfl; go_simp; done
          case harb15 => try simp only [Act.put, sA_, sZ_, sS_]; exact rfl
          refine take_ (i := 15) (N := some 54) (v := undef) (a' := ?axrb16) #[bT,bT,bT,bT,bT,bT,bT,bT,bT,bT,bT,bT,bT,bT,bT,bT,bF,bF,bF,bF,bF,bF,bF,bF,bF,bF] rfl rfl (by kernel_rfl) (fun _ _ _ h => h) (Or.inr ⟨by rfl, rfl⟩) hS ?harb16 ?hhrb16
          case harb16 => try simp only [Act.put, sA_, sZ_, sS_]; exact rfl
          refine take_ (i := 16) (N := some 55) (v := undef) (a' := ?axrb17) #[bT,bT,bT,bT,bT,bT,bT,bT,bT,bT,bT,bT,bT,bT,bT,bT,bT,bF,bF,bF,bF,bF,bF,bF,bF,bF] rfl rfl (by kernel_rfl) (fun _ _ _ h => h) (Or.inr ⟨by rfl, rfl⟩) hS ?harb17 ?hhrb17
          case harb17 => try simp only [Act.put, sA_, sZ_, sS_]; exact rfl
          refine take_ (i := 17) (N := some 56) (v := undef) (a' := ?axrb18) #[bT,bT,bT,bT,bT,bT,bT,bT,bT,bT,bT,bT,bT,bT,bT,bT,bT,bT,bF,bF,bF,bF,bF,bF,bF,bF] rfl rfl (by kernel_rfl) (fun _ _ _ h => h) (Or.inr ⟨by rfl, rfl⟩) hS ?harb18 ?hhrb18
          case harb18 => try simp only [Act.put, sA_, sZ_, sS_]; exact rfl
          refine take_ (i := 18) (N := some 57) (v := undef) (a' := ?axrb19) #[bT,bT,bT,bT,bT,bT,bT,bT,bT,bT,bT,bT,bT,bT,bT,bT,bT,bT,bT,bF,bF,bF,bF,bF,bF,bF] rfl rfl (by kernel_rfl) (fun _ _ _ h => h) (Or.inr ⟨by rfl, rfl⟩) hS ?harb19 ?hhrb19
          case harb19 => try simp only [Act.put, sA_, sZ_, sS_]; exact rfl
          refine take_ (i := 19) (N := some 58) (v := undef) (a' := ?axrb20) #[bT,bT,bT,bT,bT,bT,bT,bT,bT,bT,bT,bT,bT,bT,bT,bT,bT,bT,bT,bT,bF,bF,bF,bF,bF,bF] rfl rfl (by kernel_rfl) (fun _ _ _ h => h) (Or.inr ⟨by rfl, rfl⟩) hS ?harb20 ?hhrb20
          case harb20 => try simp only [Act.put, sA_, sZ_, sS_]; exact rfl
          refine take_ (i := 20) (N := some 59) (v := undef) (a' := ?axrb21) #[bT,bT,bT,bT,bT,bT,bT,bT,bT,bT,bT,bT,bT,bT,bT,bT,bT,bT,bT,bT,bT,bF,bF,bF,bF,bF] rfl rfl (by kernel_rfl) (fun _ _ _ h => h) (Or.inr ⟨by rfl, rfl⟩) hS ?harb21 ?hhrb21
          case harb21 => try simp only [Act.put, sA_, sZ_, sS_]; exact rfl
          refine take_ (i := 21) (N := some 60) (v := undef) (a' := ?axrb22) #[bT,bT,bT,bT,bT,bT,bT,bT,bT,bT,bT,bT,bT,bT,bT,bT,bT,bT,bT,bT,bT,bT,bF,bF,bF,bF] rfl rfl (by kernel_rfl) (fun _ _ _ h => h) (Or.inr ⟨by rfl, rfl⟩) hS ?harb22 ?hhrb22
          case harb22 => try simp only [Act.put, sA_, sZ_, sS_]; exact rfl
          refine take_ (i := 22) (N := some 61) (v := undef) (a' := ?axrb23) #[bT,bT,bT,bT,bT,bT,bT,bT,bT,bT,bT,bT,bT,bT,bT,bT,bT,bT,bT,bT,bT,bT,bT,bF,bF,bF] rfl rfl (by kernel_rfl) (fun _ _ _ h => h) (Or.inr ⟨by rfl, rfl⟩) hS ?harb23 ?hhrb23
          case harb23 => try simp only [Act.put, sA_, sZ_, sS_]; exact rfl
          refine take_ (i := 23) (N := some 62) (v := undef) (a' := ?axrb24) #[bT,bT,bT,bT,bT,bT,bT,bT,bT,bT,bT,bT,bT,bT,bT,bT,bT,bT,bT,bT,bT,bT,bT,bT,bF,bF] rfl rfl (by kernel_rfl) (fun _ _ _ h => h) (Or.inr ⟨by rfl, rfl⟩) hS ?harb24 ?hhrb24
          case harb24 => try simp only [Act.put, sA_, sZ_, sS_]; exact rfl
          refine take_ (i := 24) (N := some 63) (v := undef) (a' := ?axrb25) #[bT,bT,bT,bT,bT,bT,bT,bT,bT,bT,bT,bT,bT,bT,bT,bT,bT,bT,bT,bT,bT,bT,bT,bT,bT,bF] rfl rfl (by kernel_rfl) (fun _ _ _ h => h) (Or.inr ⟨by rfl, rfl⟩) hS ?harb25 ?hhrb25
          case harb25 => try simp only [Act.put, sA_, sZ_, sS_]; exact rfl
          refine take_ (i := 25) (N := some 64) (v := .bool false) (a' := ?axrb26) #[bT,bT,bT,bT,bT,bT,bT,bT,bT,bT,bT,bT,bT,bT,bT,bT,bT,bT,bT,bT,bT,bT,bT,bT,bT,bT] rfl rfl (by kernel_rfl) (fun _ _ _ h => h) (Or.inl ⟨by rfl, ?yyrb26⟩) hS ?harb26 ?hhrb26
          case yyrb26 => intro W hW; have q5 := pw_cell_below hW x5; have q6 := pw_cell_below hW x6; have q13 := pw_cell_below hW x13; have qf := (blk_cell (blk_below X5.out hW) 2).trans rfl; go_simp; done
          case harb26 => try simp only [Act.put, sA_, sZ_, sS_]; exact rfl
          refine done_ (by kernel_rfl) ?_
          go_wp2
          go_meet
          exact ⟨congrArg Value.bool (by unfold goesB; rw [hk, hl]; rfl), rfl, ⟨HB.out.trans (hS.mono HB.out.size)⟩, ⟨blk_below X1.out hS⟩, ⟨blk_below X2.out hS⟩, ⟨blk_below X5.out hS⟩, ⟨Kd.H_below HH.out hS⟩, ⟨Kd.S_below HS.out hS⟩, ⟨Nat.le_trans HZ.out hS.size⟩⟩
         | true =>
          have hpi := pad_in HR.out HMB.out HMY.out h4
          have p3 : (0 ≤ b.f3.f7) = True := eq_true hpi.1
          have p4 : (b.f3.f7 < (f.f2.length : Int)) = True := eq_true hpi.2
          have hnq := noth_at f y.toNat b.f3.f7.toNat z41 y.toNat b HBS.out
          obtain ⟨okQ, cQ, hcl, hM, hcc, hfr, hokQ, hHQ⟩ := Kd.S_elem HS.out z41 b.f3.f7 hpi.1 hpi.2
          generalize ((upTo (padB f) f.f2 y.toNat).set y.toNat (trimB b)).getD b.f3.f7.toNat z41 = q at hM hnq
          obtain ⟨v4, v5, v10, t2_, rfl, hR4, hS5, hR10⟩ := hM
          obtain ⟨F4, h4_, rfl, hl4, hC4⟩ := Kd.R_reads hR4
          obtain ⟨F5, h5_, rfl, hl5, hC5⟩ := Kd.S_reads hS5
          obtain ⟨F6, h6_, rfl, hl6, hC6⟩ := Kd.R_reads hR10
          have z0 : wc.cell? ⟨gb, b.f3.f7.toNat * 14, none⟩ = some (.bool q.f0) := hcc 0 _ rfl
          have z1 : wc.cell? ⟨gb, b.f3.f7.toNat * 14 + 1, none⟩ = some (.int .i64 q.f1.f0) := hcc 1 _ rfl
          have z2 : wc.cell? ⟨gb, b.f3.f7.toNat * 14 + 2, none⟩ = some (.slice F4 q.f1.f1.length h4_) := hcc 2 _ rfl
          have z3 : wc.cell? ⟨gb, b.f3.f7.toNat * 14 + 3, none⟩ = some (.bool q.f1.f2) := hcc 3 _ rfl
          have z4 : wc.cell? ⟨gb, b.f3.f7.toNat * 14 + 4, none⟩ = some (.bool q.f1.f3) := hcc 4 _ rfl
          have z5 : wc.cell? ⟨gb, b.f3.f7.toNat * 14 + 5, none⟩ = some (.slice F5 q.f2.length h5_) := hcc 5 _ rfl
          have z6 : wc.cell? ⟨gb, b.f3.f7.toNat * 14 + 6, none⟩ = some (.int .i64 q.f3.f0) := hcc 6 _ rfl
          have z7 : wc.cell? ⟨gb, b.f3.f7.toNat * 14 + 7, none⟩ = some (.int .i64 q.f3.f1) := hcc 7 _ rfl
          have z8 : wc.cell? ⟨gb, b.f3.f7.toNat * 14 + 8, none⟩ = some (.int .i64 q.f3.f2) := hcc 8 _ rfl
          have z9 : wc.cell? ⟨gb, b.f3.f7.toNat * 14 + 9, none⟩ = some (.int .i64 q.f3.f3) := hcc 9 _ rfl
          have z10 : wc.cell? ⟨gb, b.f3.f7.toNat * 14 + 10, none⟩ = some (.slice F6 q.f3.f4.length h6_) := hcc 10 _ rfl
          have z11 : wc.cell? ⟨gb, b.f3.f7.toNat * 14 + 11, none⟩ = some (.int .i64 q.f3.f5) := hcc 11 _ rfl
          have z12 : wc.cell? ⟨gb, b.f3.f7.toNat * 14 + 12, none⟩ = some (.int .i64 q.f3.f6) := hcc 12 _ rfl
          have z13 : wc.cell? ⟨gb, b.f3.f7.toNat * 14 + 13, none⟩ = some (.int .i64 q.f3.f7) := hcc 13 _ rfl
          clear hcl hcc hfr hokQ hHQ hR4 hS5 hR10
          refine start_ (S := (fun W : World => Below wc.heap.size wc W)) (ds := []) #[bF,bF,bF,bF,bF,bF,bF,bF,bF,bF,bF,bF,bF,bF,bF,bF,bF,bF,bF,bF,bF,bF,bF,bF,bF,bF] (by kernel_rfl) (by rfl) (by rfl) (below_drew (Below.refl _ _)) (fun hS => ?_)
          refine take_ (i := 0) (N := some 39) (v := .pointer (some ⟨gb, y.toNat * 14, none⟩)) (a' := ?axrc1) #[bT,bF,bF,bF,bF,bF,bF,bF,bF,bF,bF,bF,bF,bF,bF,bF,bF,bF,bF,bF,bF,bF,bF,bF,bF,bF] rfl rfl (by kernel_rfl) (fun _ _ _ h => h) (Or.inl ⟨by rfl, ?yyrc1⟩) hS ?harc1 ?hhrc1
          case yyrc1 => intro W hW; have q5 := pw_cell_below hW x5; have q6 := pw_cell_below hW x6; have q13 := pw_cell_below hW x13; have qf := (blk_cell (blk_below X5.out hW) 2).trans rfl; have qz0 := pw_cell_below hW z0; have qz1 := pw_cell_below hW z1; have qz2 := pw_cell_below hW z2; have qz3 := pw_cell_below hW z3; have qz4 := pw_cell_below hW z4; have qz5 := pw_cell_below hW z5; have qz6 := pw_cell_below hW z6; have qz7 := pw_cell_below hW z7; have qz8 := pw_cell_below hW z8; have qz9 := pw_cell_below hW z9; have qz10 := pw_cell_below hW z10; have qz11 := pw_cell_below hW z11; have qz12 := pw_cell_below hW z12; have qz13 := pw_cell_below hW z13; go_simp; done
          case harc1 => try simp only [Act.put, sA_, sZ_, sS_]; exact rfl
          refine take_ (i := 1) (N := some 40) (v := .pointer (some ⟨gb, y.toNat * 14, none⟩)) (a' := ?axrc2) #[bT,bT,bF,bF,bF,bF,bF,bF,bF,bF,bF,bF,bF,bF,bF,bF,bF,bF,bF,bF,bF,bF,bF,bF,bF,bF] rfl rfl (by kernel_rfl) (fun _ _ _ h => h) (Or.inl ⟨by rfl, ?yyrc2⟩) hS ?harc2 ?hhrc2
          case yyrc2 => intro W hW; have q5 := pw_cell_below hW x5; have q6 := pw_cell_below hW x6; have q13 := pw_cell_below hW x13; have qf := (blk_cell (blk_below X5.out hW) 2).trans rfl; have qz0 := pw_cell_below hW z0; have qz1 := pw_cell_below hW z1; have qz2 := pw_cell_below hW z2; have qz3 := pw_cell_below hW z3; have qz4 := pw_cell_below hW z4; have qz5 := pw_cell_below hW z5; have qz6 := pw_cell_below hW z6; have qz7 := pw_cell_below hW z7; have qz8 := pw_cell_below hW z8; have qz9 := pw_cell_below hW z9; have qz10 := pw_cell_below hW z10; have qz11 := pw_cell_below hW z11; have qz12 := pw_cell_below hW z12; have qz13 := pw_cell_below hW z13; go_simp; done
          case harc2 => try simp only [Act.put, sA_, sZ_, sS_]; exact rfl
          refine take_ (i := 2) (N := some 41) (v := .pointer (some ⟨gb, y.toNat * 14 + 6, none⟩)) (a' := ?axrc3) #[bT,bT,bT,bF,bF,bF,bF,bF,bF,bF,bF,bF,bF,bF,bF,bF,bF,bF,bF,bF,bF,bF,bF,bF,bF,bF] rfl rfl (by kernel_rfl) (fun _ _ _ h => h) (Or.inl ⟨by rfl, ?yyrc3⟩) hS ?harc3 ?hhrc3
          case yyrc3 => intro W hW; have q5 := pw_cell_below hW x5; have q6 := pw_cell_below hW x6; have q13 := pw_cell_below hW x13; have qf := (blk_cell (blk_below X5.out hW) 2).trans rfl; have qz0 := pw_cell_below hW z0; have qz1 := pw_cell_below hW z1; have qz2 := pw_cell_below hW z2; have qz3 := pw_cell_below hW z3; have qz4 := pw_cell_below hW z4; have qz5 := pw_cell_below hW z5; have qz6 := pw_cell_below hW z6; have qz7 := pw_cell_below hW z7; have qz8 := pw_cell_below hW z8; have qz9 := pw_cell_below hW z9; have qz10 := pw_cell_below hW z10; have qz11 := pw_cell_below hW z11; have qz12 := pw_cell_below hW z12; have qz13 := pw_cell_below hW z13; go_simp; done
          case harc3 => try simp only [Act.put, sA_, sZ_, sS_]; exact rfl
          refine take_ (i := 3) (N := some 42) (v := .pointer (some ⟨gb, y.toNat * 14 + 6, none⟩)) (a' := ?axrc4) #[bT,bT,bT,bT,bF,bF,bF,bF,bF,bF,bF,bF,bF,bF,bF,bF,bF,bF,bF,bF,bF,bF,bF,bF,bF,bF] rfl rfl (by kernel_rfl) (fun _ _ _ h => h) (Or.inl ⟨by rfl, ?yyrc4⟩) hS ?harc4 ?hhrc4
          case yyrc4 => intro W hW; have q5 := pw_cell_below hW x5; have q6 := pw_cell_below hW x6; have q13 := pw_cell_below hW x13; have qf := (blk_cell (blk_below X5.out hW) 2).trans rfl; have qz0 := pw_cell_below hW z0; have qz1 := pw_cell_below hW z1; have qz2 := pw_cell_below hW z2; have qz3 := pw_cell_below hW z3; have qz4 := pw_cell_below hW z4; have qz5 := pw_cell_below hW z5; have qz6 := pw_cell_below hW z6; have qz7 := pw_cell_below hW z7; have qz8 := pw_cell_below hW z8; have qz9 := pw_cell_below hW z9; have qz10 := pw_cell_below hW z10; have qz11 := pw_cell_below hW z11; have qz12 := pw_cell_below hW z12; have qz13 := pw_cell_below hW z13; go_simp; done
          case harc4 => try simp only [Act.put, sA_, sZ_, sS_]; exact rfl
          refine take_ (i := 4) (N := some 43) (v := .int .i64 b.f3.f0) (a' := ?axrc5) #[bT,bT,bT,bT,bT,bF,bF,bF,bF,bF,bF,bF,bF,bF,bF,bF,bF,bF,bF,bF,bF,bF,bF,bF,bF,bF] rfl rfl (by kernel_rfl) (fun _ _ _ h => h) (Or.inl ⟨by rfl, ?yyrc5⟩) hS ?harc5 ?hhrc5
          case yyrc5 => intro W hW; have q5 := pw_cell_below hW x5; have q6 := pw_cell_below hW x6; have q13 := pw_cell_below hW x13; have qf := (blk_cell (blk_below X5.out hW) 2).trans rfl; have qz0 := pw_cell_below hW z0; have qz1 := pw_cell_below hW z1; have qz2 := pw_cell_below hW z2; have qz3 := pw_cell_below hW z3; have qz4 := pw_cell_below hW z4; have qz5 := pw_cell_below hW z5; have qz6 := pw_cell_below hW z6; have qz7 := pw_cell_below hW z7; have qz8 := pw_cell_below hW z8; have qz9 := pw_cell_below hW z9; have qz10 := pw_cell_below hW z10; have qz11 := pw_cell_below hW z11; have qz12 := pw_cell_below hW z12; have qz13 := pw_cell_below hW z13; go_simp; done
          case harc5 => try simp only [Act.put, sA_, sZ_, sS_]; exact rfl
          refine take_ (i := 5) (N := some 44) (v := .bool true) (a' := ?axrc6) #[bT,bT,bT,bT,bT,bT,bF,bF,bF,bF,bF,bF,bF,bF,bF,bF,bF,bF,bF,bF,bF,bF,bF,bF,bF,bF] rfl rfl (by kernel_rfl) (fun _ _ _ h => h) (Or.inl ⟨by rfl, ?yyrc6⟩) hS ?harc6 ?hhrc6
          case yyrc6 => intro W hW; have q5 := pw_cell_below hW x5; have q6 := pw_cell_below hW x6; have q13 := pw_cell_below hW x13; have qf := (blk_cell (blk_below X5.out hW) 2).trans rfl; have qz0 := pw_cell_below hW z0; have qz1 := pw_cell_below hW z1; have qz2 := pw_cell_below hW z2; have qz3 := pw_cell_below hW z3; have qz4 := pw_cell_below hW z4; have qz5 := pw_cell_below hW z5; have qz6 := pw_cell_below hW z6; have qz7 := pw_cell_below hW z7; have qz8 := pw_cell_below hW z8; have qz9 := pw_cell_below hW z9; have qz10 := pw_cell_below hW z10; have qz11 := pw_cell_below hW z11; have qz12 := pw_cell_below hW z12; have qz13 := pw_cell_below hW z13; go_simp; done
          case harc6 => try simp only [Act.put, sA_, sZ_, sS_]; exact rfl
          refine take_ (i := 6) (N := some 45) (v := .bool true) (a' := ?axrc7) #[bT,bT,bT,bT,bT,bT,bT,bF,bF,bF,bF,bF,bF,bF,bF,bF,bF,bF,bF,bF,bF,bF,bF,bF,bF,bF] rfl rfl (by kernel_rfl) (fun _ _ _ h => h) (Or.inl ⟨by rfl, ?yyrc7⟩) hS ?harc7 ?hhrc7
          case yyrc7 => intro W hW; have q5 := pw_cell_below hW x5; have q6 := pw_cell_below hW x6; have q13 := pw_cell_below hW x13; have qf := (blk_cell (blk_below X5.out hW) 2).trans rfl; have qz0 := pw_cell_below hW z0; have qz1 := pw_cell_below hW z1; have qz2 := pw_cell_below hW z2; have qz3 := pw_cell_below hW z3; have qz4 := pw_cell_below hW z4; have qz5 := pw_cell_below hW z5; have qz6 := pw_cell_below hW z6; have qz7 := pw_cell_below hW z7; have qz8 := pw_cell_below hW z8; have qz9 := pw_cell_below hW z9; have qz10 := pw_cell_below hW z10; have qz11 := pw_cell_below hW z11; have qz12 := pw_cell_below hW z12; have qz13 := pw_cell_below hW z13; go_simp; done
          case harc7 => try simp only [Act.put, sA_, sZ_, sS_]; exact rfl
          refine take_ (i := 7) (N := some 46) (v := .pointer (some ⟨gb, y.toNat * 14, none⟩)) (a' := ?axrc8) #[bT,bT,bT,bT,bT,bT,bT,bT,bF,bF,bF,bF,bF,bF,bF,bF,bF,bF,bF,bF,bF,bF,bF,bF,bF,bF] rfl rfl (by kernel_rfl) (fun _ _ _ h => h) (Or.inl ⟨by rfl, ?yyrc8⟩) hS ?harc8 ?hhrc8
          case yyrc8 => intro W hW; have q5 := pw_cell_below hW x5; have q6 := pw_cell_below hW x6; have q13 := pw_cell_below hW x13; have qf := (blk_cell (blk_below X5.out hW) 2).trans rfl; have qz0 := pw_cell_below hW z0; have qz1 := pw_cell_below hW z1; have qz2 := pw_cell_below hW z2; have qz3 := pw_cell_below hW z3; have qz4 := pw_cell_below hW z4; have qz5 := pw_cell_below hW z5; have qz6 := pw_cell_below hW z6; have qz7 := pw_cell_below hW z7; have qz8 := pw_cell_below hW z8; have qz9 := pw_cell_below hW z9; have qz10 := pw_cell_below hW z10; have qz11 := pw_cell_below hW z11; have qz12 := pw_cell_below hW z12; have qz13 := pw_cell_below hW z13; go_simp; done
          case harc8 => try simp only [Act.put, sA_, sZ_, sS_]; exact rfl
          refine take_ (i := 8) (N := some 47) (v := .pointer (some ⟨gb, y.toNat * 14, none⟩)) (a' := ?axrc9) #[bT,bT,bT,bT,bT,bT,bT,bT,bT,bF,bF,bF,bF,bF,bF,bF,bF,bF,bF,bF,bF,bF,bF,bF,bF,bF] rfl rfl (by kernel_rfl) (fun _ _ _ h => h) (Or.inl ⟨by rfl, ?yyrc9⟩) hS ?harc9 ?hhrc9
          case yyrc9 => intro W hW; have q5 := pw_cell_below hW x5; have q6 := pw_cell_below hW x6; have q13 := pw_cell_below hW x13; have qf := (blk_cell (blk_below X5.out hW) 2).trans rfl; have qz0 := pw_cell_below hW z0; have qz1 := pw_cell_below hW z1; have qz2 := pw_cell_below hW z2; have qz3 := pw_cell_below hW z3; have qz4 := pw_cell_below hW z4; have qz5 := pw_cell_below hW z5; have qz6 := pw_cell_below hW z6; have qz7 := pw_cell_below hW z7; have qz8 := pw_cell_below hW z8; have qz9 := pw_cell_below hW z9; have qz10 := pw_cell_below hW z10; have qz11 := pw_cell_below hW z11; have qz12 := pw_cell_below hW z12; have qz13 := pw_cell_below hW z13; go_simp; done
          case harc9 => try simp only [Act.put, sA_, sZ_, sS_]; exact rfl
          refine take_ (i := 9) (N := some 48) (v := .pointer (some ⟨gb, y.toNat * 14 + 5, none⟩)) (a' := ?axrc10) #[bT,bT,bT,bT,bT,bT,bT,bT,bT,bT,bF,bF,bF,bF,bF,bF,bF,bF,bF,bF,bF,bF,bF,bF,bF,bF] rfl rfl (by kernel_rfl) (fun _ _ _ h => h) (Or.inl ⟨by rfl, ?yyrc10⟩) hS ?harc10 ?hhrc10
          case yyrc10 => intro W hW; have q5 := pw_cell_below hW x5; have q6 := pw_cell_below hW x6; have q13 := pw_cell_below hW x13; have qf := (blk_cell (blk_below X5.out hW) 2).trans rfl; have qz0 := pw_cell_below hW z0; have qz1 := pw_cell_below hW z1; have qz2 := pw_cell_below hW z2; have qz3 := pw_cell_below hW z3; have qz4 := pw_cell_below hW z4; have qz5 := pw_cell_below hW z5; have qz6 := pw_cell_below hW z6; have qz7 := pw_cell_below hW z7; have qz8 := pw_cell_below hW z8; have qz9 := pw_cell_below hW z9; have qz10 := pw_cell_below hW z10; have qz11 := pw_cell_below hW z11; have qz12 := pw_cell_below hW z12; have qz13 := pw_cell_below hW z13; go_simp; done
          case harc10 => try simp only [Act.put, sA_, sZ_, sS_]; exact rfl
          refine take_ (i := 10) (N := some 49) (v := .slice E5 b.f2.length e5) (a' := ?axrc11) #[bT,bT,bT,bT,bT,bT,bT,bT,bT,bT,bT,bF,bF,bF,bF,bF,bF,bF,bF,bF,bF,bF,bF,bF,bF,bF] rfl rfl (by kernel_rfl) (fun _ _ _ h => h) (Or.inl ⟨by rfl, ?yyrc11⟩) hS ?harc11 ?hhrc11
          case yyrc11 => intro W hW; have q5 := pw_cell_below hW x5; have q6 := pw_cell_below hW x6; have q13 := pw_cell_below hW x13; have qf := (blk_cell (blk_below X5.out hW) 2).trans rfl; have qz0 := pw_cell_below hW z0; have qz1 := pw_cell_below hW z1; have qz2 := pw_cell_below hW z2; have qz3 := pw_cell_below hW z3; have qz4 := pw_cell_below hW z4; have qz5 := pw_cell_below hW z5; have qz6 := pw_cell_below hW z6; have qz7 := pw_cell_below hW z7; have qz8 := pw_cell_below hW z8; have qz9 := pw_cell_below hW z9; have qz10 := pw_cell_below hW z10; have qz11 := pw_cell_below hW z11; have qz12 := pw_cell_below hW z12; have qz13 := pw_cell_below hW z13; go_simp; done
          case harc11 => try simp only [Act.put, sA_, sZ_, sS_]; exact rfl
          refine take_ (i := 11) (N := some 50) (v := .int .i64 b.f2.length) (a' := ?axrc12) #[bT,bT,bT,bT,bT,bT,bT,bT,bT,bT,bT,bT,bF,bF,bF,bF,bF,bF,bF,bF,bF,bF,bF,bF,bF,bF] rfl rfl (by kernel_rfl) (fun _ _ _ h => h) (Or.inl ⟨by rfl, ?yyrc12⟩) hS ?harc12 ?hhrc12
          case yyrc12 => intro W hW; have q5 := pw_cell_below hW x5; have q6 := pw_cell_below hW x6; have q13 := pw_cell_below hW x13; have qf := (blk_cell (blk_below X5.out hW) 2).trans rfl; have qz0 := pw_cell_below hW z0; have qz1 := pw_cell_below hW z1; have qz2 := pw_cell_below hW z2; have qz3 := pw_cell_below hW z3; have qz4 := pw_cell_below hW z4; have qz5 := pw_cell_below hW z5; have qz6 := pw_cell_below hW z6; have qz7 := pw_cell_below hW z7; have qz8 := pw_cell_below hW z8; have qz9 := pw_cell_below hW z9; have qz10 := pw_cell_below hW z10; have qz11 := pw_cell_below hW z11; have qz12 := pw_cell_below hW z12; have qz13 := pw_cell_below hW z13; go_simp; done
          case harc12 => try simp only [Act.put, sA_, sZ_, sS_]; exact rfl
          refine take_ (i := 12) (N := some 51) (v := .bool true) (a' := ?axrc13) #[bT,bT,bT,bT,bT,bT,bT,bT,bT,bT,bT,bT,bT,bF,bF,bF,bF,bF,bF,bF,bF,bF,bF,bF,bF,bF] rfl rfl (by kernel_rfl) (fun _ _ _ h => h) (Or.inl ⟨by rfl, ?yyrc13⟩) hS ?harc13 ?hhrc13
          case yyrc13 => intro W hW; have q5 := pw_cell_below hW x5; have q6 := pw_cell_below hW x6; have q13 := pw_cell_below hW x13; have qf := (blk_cell (blk_below X5.out hW) 2).trans rfl; have qz0 := pw_cell_below hW z0; have qz1 := pw_cell_below hW z1; have qz2 := pw_cell_below hW z2; have qz3 := pw_cell_below hW z3; have qz4 := pw_cell_below hW z4; have qz5 := pw_cell_below hW z5; have qz6 := pw_cell_below hW z6; have qz7 := pw_cell_below hW z7; have qz8 := pw_cell_below hW z8; have qz9 := pw_cell_below hW z9; have qz10 := pw_cell_below hW z10; have qz11 := pw_cell_below hW z11; have qz12 := pw_cell_below hW z12; have qz13 := pw_cell_below hW z13; go_simp; done
          case harc13 => try simp only [Act.put, sA_, sZ_, sS_]; exact rfl
          refine take_ (i := 13) (N := some 52) (v := .bool true) (a' := ?axrc14) #[bT,bT,bT,bT,bT,bT,bT,bT,bT,bT,bT,bT,bT,bT,bF,bF,bF,bF,bF,bF,bF,bF,bF,bF,bF,bF] rfl rfl (by kernel_rfl) (fun _ _ _ h => h) (Or.inl ⟨by rfl, ?yyrc14⟩) hS ?harc14 ?hhrc14
          case yyrc14 => intro W hW; have q5 := pw_cell_below hW x5; have q6 := pw_cell_below hW x6; have q13 := pw_cell_below hW x13; have qf := (blk_cell (blk_below X5.out hW) 2).trans rfl; have qz0 := pw_cell_below hW z0; have qz1 := pw_cell_below hW z1; have qz2 := pw_cell_below hW z2; have qz3 := pw_cell_below hW z3; have qz4 := pw_cell_below hW z4; have qz5 := pw_cell_below hW z5; have qz6 := pw_cell_below hW z6; have qz7 := pw_cell_below hW z7; have qz8 := pw_cell_below hW z8; have qz9 := pw_cell_below hW z9; have qz10 := pw_cell_below hW z10; have qz11 := pw_cell_below hW z11; have qz12 := pw_cell_below hW z12; have qz13 := pw_cell_below hW z13; go_simp; done
          case harc14 => try simp only [Act.put, sA_, sZ_, sS_]; exact rfl
          refine take_ (i := 14) (N := some 53) (v := .bool true) (a' := ?axrc15) #[bT,bT,bT,bT,bT,bT,bT,bT,bT,bT,bT,bT,bT,bT,bT,bF,bF,bF,bF,bF,bF,bF,bF,bF,bF,bF] rfl rfl (by kernel_rfl) (fun _ _ _ h => h) (Or.inl ⟨by rfl, ?yyrc15⟩) hS ?harc15 ?hhrc15
          case yyrc15 => intro W hW; have q5 := pw_cell_below hW x5; have q6 := pw_cell_below hW x6; have q13 := pw_cell_below hW x13; have qf := (blk_cell (blk_below X5.out hW) 2).trans rfl; have qz0 := pw_cell_below hW z0; have qz1 := pw_cell_below hW z1; have qz2 := pw_cell_below hW z2; have qz3 := pw_cell_below hW z3; have qz4 := pw_cell_below hW z4; have qz5 := pw_cell_below hW z5; have qz6 := pw_cell_below hW z6; have qz7 := pw_cell_below hW z7; have qz8 := pw_cell_below hW z8; have qz9 := pw_cell_below hW z9; have qz10 := pw_cell_below hW z10; have qz11 := pw_cell_below hW z11; have qz12 := pw_cell_below hW z12; have qz13 := pw_cell_below hW z13; go_simp; done
          case harc15 => try simp only [Act.put, sA_, sZ_, sS_]; exact rfl
          refine take_ (i := 15) (N := some 54) (v := .pointer (some ⟨g5, 2, none⟩)) (a' := ?axrc16) #[bT,bT,bT,bT,bT,bT,bT,bT,bT,bT,bT,bT,bT,bT,bT,bT,bF,bF,bF,bF,bF,bF,bF,bF,bF,bF] rfl rfl (by kernel_rfl) (fun _ _ _ h => h) (Or.inl ⟨by rfl, ?yyrc16⟩) hS ?harc16 ?hhrc16
          case yyrc16 => intro W hW; have q5 := pw_cell_below hW x5; have q6 := pw_cell_below hW x6; have q13 := pw_cell_below hW x13; have qf := (blk_cell (blk_below X5.out hW) 2).trans rfl; have qz0 := pw_cell_below hW z0; have qz1 := pw_cell_below hW z1; have qz2 := pw_cell_below hW z2; have qz3 := pw_cell_below hW z3; have qz4 := pw_cell_below hW z4; have qz5 := pw_cell_below hW z5; have qz6 := pw_cell_below hW z6; have qz7 := pw_cell_below hW z7; have qz8 := pw_cell_below hW z8; have qz9 := pw_cell_below hW z9; have qz10 := pw_cell_below hW z10; have qz11 := pw_cell_below hW z11; have qz12 := pw_cell_below hW z12; have qz13 := pw_cell_below hW z13; go_simp; done
          case harc16 => try simp only [Act.put, sA_, sZ_, sS_]; exact rfl
          refine take_ (i := 16) (N := some 55) (v := .slice (some ⟨gb, 0, none⟩) f.f2.length c2) (a' := ?axrc17) #[bT,bT,bT,bT,bT,bT,bT,bT,bT,bT,bT,bT,bT,bT,bT,bT,bT,bF,bF,bF,bF,bF,bF,bF,bF,bF] rfl rfl (by kernel_rfl) (fun _ _ _ h => h) (Or.inl ⟨by rfl, ?yyrc17⟩) hS ?harc17 ?hhrc17
          case yyrc17 => intro W hW; have q5 := pw_cell_below hW x5; have q6 := pw_cell_below hW x6; have q13 := pw_cell_below hW x13; have qf := (blk_cell (blk_below X5.out hW) 2).trans rfl; have qz0 := pw_cell_below hW z0; have qz1 := pw_cell_below hW z1; have qz2 := pw_cell_below hW z2; have qz3 := pw_cell_below hW z3; have qz4 := pw_cell_below hW z4; have qz5 := pw_cell_below hW z5; have qz6 := pw_cell_below hW z6; have qz7 := pw_cell_below hW z7; have qz8 := pw_cell_below hW z8; have qz9 := pw_cell_below hW z9; have qz10 := pw_cell_below hW z10; have qz11 := pw_cell_below hW z11; have qz12 := pw_cell_below hW z12; have qz13 := pw_cell_below hW z13; go_simp; done
          case harc17 => try simp only [Act.put, sA_, sZ_, sS_]; exact rfl
          refine take_ (i := 17) (N := some 56) (v := .pointer (some ⟨gb, y.toNat * 14, none⟩)) (a' := ?axrc18) #[bT,bT,bT,bT,bT,bT,bT,bT,bT,bT,bT,bT,bT,bT,bT,bT,bT,bT,bF,bF,bF,bF,bF,bF,bF,bF] rfl rfl (by kernel_rfl) (fun _ _ _ h => h) (Or.inl ⟨by rfl, ?yyrc18⟩) hS ?harc18 ?hhrc18
          case yyrc18 => intro W hW; have q5 := pw_cell_below hW x5; have q6 := pw_cell_below hW x6; have q13 := pw_cell_below hW x13; have qf := (blk_cell (blk_below X5.out hW) 2).trans rfl; have qz0 := pw_cell_below hW z0; have qz1 := pw_cell_below hW z1; have qz2 := pw_cell_below hW z2; have qz3 := pw_cell_below hW z3; have qz4 := pw_cell_below hW z4; have qz5 := pw_cell_below hW z5; have qz6 := pw_cell_below hW z6; have qz7 := pw_cell_below hW z7; have qz8 := pw_cell_below hW z8; have qz9 := pw_cell_below hW z9; have qz10 := pw_cell_below hW z10; have qz11 := pw_cell_below hW z11; have qz12 := pw_cell_below hW z12; have qz13 := pw_cell_below hW z13; go_simp; done
          case harc18 => try simp only [Act.put, sA_, sZ_, sS_]; exact rfl
          refine take_ (i := 18) (N := some 57) (v := .pointer (some ⟨gb, y.toNat * 14, none⟩)) (a' := ?axrc19) #[bT,bT,bT,bT,bT,bT,bT,bT,bT,bT,bT,bT,bT,bT,bT,bT,bT,bT,bT,bF,bF,bF,bF,bF,bF,bF] rfl rfl (by kernel_rfl) (fun _ _ _ h => h) (Or.inl ⟨by rfl, ?yyrc19⟩) hS ?harc19 ?hhrc19
          case yyrc19 => intro W hW; have q5 := pw_cell_below hW x5; have q6 := pw_cell_below hW x6; have q13 := pw_cell_below hW x13; have qf := (blk_cell (blk_below X5.out hW) 2).trans rfl; have qz0 := pw_cell_below hW z0; have qz1 := pw_cell_below hW z1; have qz2 := pw_cell_below hW z2; have qz3 := pw_cell_below hW z3; have qz4 := pw_cell_below hW z4; have qz5 := pw_cell_below hW z5; have qz6 := pw_cell_below hW z6; have qz7 := pw_cell_below hW z7; have qz8 := pw_cell_below hW z8; have qz9 := pw_cell_below hW z9; have qz10 := pw_cell_below hW z10; have qz11 := pw_cell_below hW z11; have qz12 := pw_cell_below hW z12; have qz13 := pw_cell_below hW z13; go_simp; done
          case harc19 => try simp only [Act.put, sA_, sZ_, sS_]; exact rfl
          refine take_ (i := 19) (N := some 58) (v := .pointer (some ⟨gb, y.toNat * 14 + 6, none⟩)) (a' := ?axrc20) #[bT,bT,bT,bT,bT,bT,bT,bT,bT,bT,bT,bT,bT,bT,bT,bT,bT,bT,bT,bT,bF,bF,bF,bF,bF,bF] rfl rfl (by kernel_rfl) (fun _ _ _ h => h) (Or.inl ⟨by rfl, ?yyrc20⟩) hS ?harc20 ?hhrc20
          case yyrc20 => intro W hW; have q5 := pw_cell_below hW x5; have q6 := pw_cell_below hW x6; have q13 := pw_cell_below hW x13; have qf := (blk_cell (blk_below X5.out hW) 2).trans rfl; have qz0 := pw_cell_below hW z0; have qz1 := pw_cell_below hW z1; have qz2 := pw_cell_below hW z2; have qz3 := pw_cell_below hW z3; have qz4 := pw_cell_below hW z4; have qz5 := pw_cell_below hW z5; have qz6 := pw_cell_below hW z6; have qz7 := pw_cell_below hW z7; have qz8 := pw_cell_below hW z8; have qz9 := pw_cell_below hW z9; have qz10 := pw_cell_below hW z10; have qz11 := pw_cell_below hW z11; have qz12 := pw_cell_below hW z12; have qz13 := pw_cell_below hW z13; go_simp; done
          case harc20 => try simp only [Act.put, sA_, sZ_, sS_]; exact rfl
          refine take_ (i := 20) (N := some 59) (v := .pointer (some ⟨gb, y.toNat * 14 + 13, none⟩)) (a' := ?axrc21) #[bT,bT,bT,bT,bT,bT,bT,bT,bT,bT,bT,bT,bT,bT,bT,bT,bT,bT,bT,bT,bT,bF,bF,bF,bF,bF] rfl rfl (by kernel_rfl) (fun _ _ _ h => h) (Or.inl ⟨by rfl, ?yyrc21⟩) hS ?harc21 ?hhrc21
          case yyrc21 => intro W hW; have q5 := pw_cell_below hW x5; have q6 := pw_cell_below hW x6; have q13 := pw_cell_below hW x13; have qf := (blk_cell (blk_below X5.out hW) 2).trans rfl; have qz0 := pw_cell_below hW z0; have qz1 := pw_cell_below hW z1; have qz2 := pw_cell_below hW z2; have qz3 := pw_cell_below hW z3; have qz4 := pw_cell_below hW z4; have qz5 := pw_cell_below hW z5; have qz6 := pw_cell_below hW z6; have qz7 := pw_cell_below hW z7; have qz8 := pw_cell_below hW z8; have qz9 := pw_cell_below hW z9; have qz10 := pw_cell_below hW z10; have qz11 := pw_cell_below hW z11; have qz12 := pw_cell_below hW z12; have qz13 := pw_cell_below hW z13; go_simp; done
          case harc21 => try simp only [Act.put, sA_, sZ_, sS_]; exact rfl
          refine take_ (i := 21) (N := some 60) (v := .int .i64 b.f3.f7) (a' := ?axrc22) #[bT,bT,bT,bT,bT,bT,bT,bT,bT,bT,bT,bT,bT,bT,bT,bT,bT,bT,bT,bT,bT,bT,bF,bF,bF,bF] rfl rfl (by kernel_rfl) (fun _ _ _ h => h) (Or.inl ⟨by rfl, ?yyrc22⟩) hS ?harc22 ?hhrc22
          case yyrc22 => intro W hW; have q5 := pw_cell_below hW x5; have q6 := pw_cell_below hW x6; have q13 := pw_cell_below hW x13; have qf := (blk_cell (blk_below X5.out hW) 2).trans rfl; have qz0 := pw_cell_below hW z0; have qz1 := pw_cell_below hW z1; have qz2 := pw_cell_below hW z2; have qz3 := pw_cell_below hW z3; have qz4 := pw_cell_below hW z4; have qz5 := pw_cell_below hW z5; have qz6 := pw_cell_below hW z6; have qz7 := pw_cell_below hW z7; have qz8 := pw_cell_below hW z8; have qz9 := pw_cell_below hW z9; have qz10 := pw_cell_below hW z10; have qz11 := pw_cell_below hW z11; have qz12 := pw_cell_below hW z12; have qz13 := pw_cell_below hW z13; go_simp; done
          case harc22 => try simp only [Act.put, sA_, sZ_, sS_]; exact rfl
          refine take_ (i := 22) (N := some 61) (v := .pointer (some ⟨gb, b.f3.f7.toNat * 14, none⟩)) (a' := ?axrc23) #[bT,bT,bT,bT,bT,bT,bT,bT,bT,bT,bT,bT,bT,bT,bT,bT,bT,bT,bT,bT,bT,bT,bT,bF,bF,bF] rfl rfl (by kernel_rfl) (fun _ _ _ h => h) (Or.inl ⟨by rfl, ?yyrc23⟩) hS ?harc23 ?hhrc23
          case yyrc23 => intro W hW; have q5 := pw_cell_below hW x5; have q6 := pw_cell_below hW x6; have q13 := pw_cell_below hW x13; have qf := (blk_cell (blk_below X5.out hW) 2).trans rfl; have qz0 := pw_cell_below hW z0; have qz1 := pw_cell_below hW z1; have qz2 := pw_cell_below hW z2; have qz3 := pw_cell_below hW z3; have qz4 := pw_cell_below hW z4; have qz5 := pw_cell_below hW z5; have qz6 := pw_cell_below hW z6; have qz7 := pw_cell_below hW z7; have qz8 := pw_cell_below hW z8; have qz9 := pw_cell_below hW z9; have qz10 := pw_cell_below hW z10; have qz11 := pw_cell_below hW z11; have qz12 := pw_cell_below hW z12; have qz13 := pw_cell_below hW z13; go_simp; done
          case harc23 => try simp only [Act.put, sA_, sZ_, sS_]; exact rfl
          refine take_ (i := 23) (N := some 62) (v := .agg #[.bool q.f0, .int .i64 q.f1.f0, .slice F4 q.f1.f1.length h4_, .bool q.f1.f2, .bool q.f1.f3, .slice F5 q.f2.length h5_, .int .i64 q.f3.f0, .int .i64 q.f3.f1, .int .i64 q.f3.f2, .int .i64 q.f3.f3, .slice F6 q.f3.f4.length h6_, .int .i64 q.f3.f5, .int .i64 q.f3.f6, .int .i64 q.f3.f7]) (a' := ?axrc24) #[bT,bT,bT,bT,bT,bT,bT,bT,bT,bT,bT,bT,bT,bT,bT,bT,bT,bT,bT,bT,bT,bT,bT,bT,bF,bF] rfl rfl (by kernel_rfl) (fun _ _ _ h => h) (Or.inl ⟨by rfl, ?yyrc24⟩) hS ?harc24 ?hhrc24
          case yyrc24 => intro W hW; have q5 := pw_cell_below hW x5; have q6 := pw_cell_below hW x6; have q13 := pw_cell_below hW x13; have qf := (blk_cell (blk_below X5.out hW) 2).trans rfl; have qz0 := pw_cell_below hW z0; have qz1 := pw_cell_below hW z1; have qz2 := pw_cell_below hW z2; have qz3 := pw_cell_below hW z3; have qz4 := pw_cell_below hW z4; have qz5 := pw_cell_below hW z5; have qz6 := pw_cell_below hW z6; have qz7 := pw_cell_below hW z7; have qz8 := pw_cell_below hW z8; have qz9 := pw_cell_below hW z9; have qz10 := pw_cell_below hW z10; have qz11 := pw_cell_below hW z11; have qz12 := pw_cell_below hW z12; have qz13 := pw_cell_below hW z13; go_simp; done
          case harc24 => try simp only [Act.put, sA_, sZ_, sS_]; exact rfl
          refine one_ (i := 24) (N := some 63) #[bT,bT,bT,bT,bT,bT,bT,bT,bT,bT,bT,bT,bT,bT,bT,bT,bT,bT,bT,bT,bT,bT,bT,bT,bT,bF] rfl rfl (by kernel_rfl) (by decide) (fun K hK => ?_)
          refine goes_ Try.func42 (by kernel_rfl) rfl #[.agg #[.bool q.f0, .int .i64 q.f1.f0, .slice F4 q.f1.f1.length h4_, .bool q.f1.f2, .bool q.f1.f3, .slice F5 q.f2.length h5_, .int .i64 q.f3.f0, .int .i64 q.f3.f1, .int .i64 q.f3.f2, .int .i64 q.f3.f3, .slice F6 q.f3.f4.length h6_, .int .i64 q.f3.f5, .int .i64 q.f3.f6, .int .i64 q.f3.f7]] (by rfl) rfl rfl (by simp only [List.map_toArray, List.map_cons, List.map_nil]; rfl) ?_
          refine (noth_c q F4 h4_ F5 h5_ F6 h6_ _ (Kd.C_below hC4 hS) hl4 (Kd.C_below hC5 hS) hl5 (Kd.C_below hC6 hS) hl6).mono ?_
          rintro e w7 ⟨rfl, hb⟩
          refine ⟨_, rfl, ?_⟩
          have hS' := hS.trans (hb.mono hS.size)
          clear hb
          refine hK _ _ hS' (fun hS => ?_)
          clear hK K
          try simp only [Act.put, sA_, sZ_, sS_]
          refine take_ (i := 25) (N := some 64) (v := .bool (nothB q)) (a' := ?axrc25) #[bT,bT,bT,bT,bT,bT,bT,bT,bT,bT,bT,bT,bT,bT,bT,bT,bT,bT,bT,bT,bT,bT,bT,bT,bT,bT] rfl rfl (by kernel_rfl) (fun _ _ _ h => h) (Or.inl ⟨by rfl, ?yyrc25⟩) hS ?harc25 ?hhrc25
          case yyrc25 => intro W hW; have q5 := pw_cell_below hW x5; have q6 := pw_cell_below hW x6; have q13 := pw_cell_below hW x13; have qf := (blk_cell (blk_below X5.out hW) 2).trans rfl; have qz0 := pw_cell_below hW z0; have qz1 := pw_cell_below hW z1; have qz2 := pw_cell_below hW z2; have qz3 := pw_cell_below hW z3; have qz4 := pw_cell_below hW z4; have qz5 := pw_cell_below hW z5; have qz6 := pw_cell_below hW z6; have qz7 := pw_cell_below hW z7; have qz8 := pw_cell_below hW z8; have qz9 := pw_cell_below hW z9; have qz10 := pw_cell_below hW z10; have qz11 := pw_cell_below hW z11; have qz12 := pw_cell_below hW z12; have qz13 := pw_cell_below hW z13; go_simp; done
          case harc25 => try simp only [Act.put, sA_, sZ_, sS_]; exact rfl
          refine done_ (by kernel_rfl) ?_
          go_wp2
          go_meet
          exact ⟨congrArg Value.bool (by unfold goesB; rw [hk, hl]; exact hnq), rfl, ⟨HB.out.trans (hS.mono HB.out.size)⟩, ⟨blk_below X1.out hS⟩, ⟨blk_below X2.out hS⟩, ⟨blk_below X5.out hS⟩, ⟨Kd.H_below HH.out hS⟩, ⟨Kd.S_below HS.out hS⟩, ⟨Nat.le_trans HZ.out hS.size⟩⟩
       case rest =>
        clear x5 x6 x13 HB X1 X2 X5 HH HS HZ
        clear m0 zm0 n0 zn0
        clear f0 f1 f2
        obtain ⟨rfl, rfl, HB, X1, X2, X5, HH, HS, HZ⟩ := hcut
        have m0 := (blk_cell X1.out 0).trans rfl
        have zm0 := blk_frozen X1.out 0
        have n0 := (blk_cell X2.out 0).trans rfl
        have zn0 := blk_frozen X2.out 0
        obtain ⟨f0, f1, f2⟩ := cl3 X5.out
        cases hg_ : goesB f b with
        | false =>
         have HGO := Aside0.mk hg_
         clear hg_
         go_wp2
         have W1 := Aside0.mk (show wrap64 (y + 1) = y + 1 from wrap_in _ (by have := HY.out; omega) (by have := HLY.out; have := HN.out.nb f HMB.out; omega))
         go_roundg ((f.f2.length : Int) - (y + 1)).toNat
         case measure => have h1_ := HY.out; have h2_ := HLY.out; omega
         case rel => exact ⟨y + 1, by first | (rw [W1.out]; done) | rfl | (simp only [W1.out]; done), ⟨by have := HY.out; have := HLY.out; omega⟩, HB, X1, X2, X5, HH, ⟨by rw [← upTo_set (padB f) f.f2 z41 y HY.out.1 HLY.out (u := trimB b) (by rw [HBX.out]; unfold padB; rw [if_neg (by rw [HGO.out]; simp)])]; exact HS.out⟩, HZ⟩
        | true =>
         have HGO := Aside0.mk hg_
         clear hg_
         have hSB : Kd.S sB 41 wc B0 (fun k => okP k ∧ ¬ wc.heap.size ≤ k) (.slice (some ⟨gb, 0, none⟩) f.f2.length c2) ((upTo (padB f) f.f2 y.toNat).set y.toNat (trimB b)) := Kd.S_mono (Kd.S_bound HS.out) (fun k hk => ⟨hk.1, by have := hk.2.2.1; omega⟩)
         obtain ⟨okB, cB, hcl, hM, hcc, hfr, hokB, hHB⟩ := Kd.S_elem hSB z41 y HY.out.1 HLY.out
         rw [show ((upTo (padB f) f.f2 y.toNat).set y.toNat (trimB b)).getD y.toNat z41 = trimB b from set_get _ _ _ _ (by rw [upTo_len]; have := HLY.out; have := HY.out; omega)] at hM
         obtain ⟨v4, v5, v10, t_, rfl, hR4, hS5, hR10⟩ := hM
         obtain ⟨E4, e4, rfl, hl4, hC4⟩ := Kd.R_reads hR4
         obtain ⟨E5, e5, rfl, hl5, hC5⟩ := Kd.S_reads hS5
         obtain ⟨E6, e6, rfl, hl6, hC6⟩ := Kd.R_reads hR10
         have x0 : wc.cell? ⟨gb, y.toNat * 14, none⟩ = some (.bool (trimB b).f0) := hcc 0 _ rfl
         have x1 : wc.cell? ⟨gb, y.toNat * 14 + 1, none⟩ = some (.int .i64 (trimB b).f1.f0) := hcc 1 _ rfl
         have x2 : wc.cell? ⟨gb, y.toNat * 14 + 2, none⟩ = some (.slice E4 (trimB b).f1.f1.length e4) := hcc 2 _ rfl
         have x3 : wc.cell? ⟨gb, y.toNat * 14 + 3, none⟩ = some (.bool (trimB b).f1.f2) := hcc 3 _ rfl
         have x4 : wc.cell? ⟨gb, y.toNat * 14 + 4, none⟩ = some (.bool (trimB b).f1.f3) := hcc 4 _ rfl
         have x5 : wc.cell? ⟨gb, y.toNat * 14 + 5, none⟩ = some (.slice E5 (trimB b).f2.length e5) := hcc 5 _ rfl
         have x6 : wc.cell? ⟨gb, y.toNat * 14 + 6, none⟩ = some (.int .i64 (trimB b).f3.f0) := hcc 6 _ rfl
         have x7 : wc.cell? ⟨gb, y.toNat * 14 + 7, none⟩ = some (.int .i64 (trimB b).f3.f1) := hcc 7 _ rfl
         have x8 : wc.cell? ⟨gb, y.toNat * 14 + 8, none⟩ = some (.int .i64 (trimB b).f3.f2) := hcc 8 _ rfl
         have x9 : wc.cell? ⟨gb, y.toNat * 14 + 9, none⟩ = some (.int .i64 (trimB b).f3.f3) := hcc 9 _ rfl
         have x10 : wc.cell? ⟨gb, y.toNat * 14 + 10, none⟩ = some (.slice E6 (trimB b).f3.f4.length e6) := hcc 10 _ rfl
         have x11 : wc.cell? ⟨gb, y.toNat * 14 + 11, none⟩ = some (.int .i64 (trimB b).f3.f5) := hcc 11 _ rfl
         have x12 : wc.cell? ⟨gb, y.toNat * 14 + 12, none⟩ = some (.int .i64 (trimB b).f3.f6) := hcc 12 _ rfl
         have x13 : wc.cell? ⟨gb, y.toNat * 14 + 13, none⟩ = some (.int .i64 (trimB b).f3.f7) := hcc 13 _ rfl
         obtain ⟨ceb, tyb⟩ := Kd.S_typed HS.out gb rfl
         have HBS0 := Aside0.mk (show B0 ≤ wc.heap.size from Nat.le_trans HLT0.out.2.2.2 (Nat.le_of_lt (Kd.S_lt HS.out gb rfl)))
         have O5 := X5
         have H5 := Aside0.mk hS5
         have H10 := Aside0.mk hR10
         have H4 := Aside0.mk hR4
         have HOB := Aside0.mk hokB
         have HHB := Aside0.mk hHB
         have HTH := Aside0.mk (show wc.there gb (y.toNat * 14) 14 from there_cells (n := 14) hcc hfr 0 (by rw [hcl]; exact (by decide : 0 + 14 ≤ 14)))
         have HO5 := Aside0.mk (show ∀ k, Value.ownBlock (.slice E5 (trimB b).f2.length e5) = some k → okB k ∧ t_ k = 1 from fun k hk => (Kd.S_R hS5).1 k hk)
         have HTY := Aside0.mk tyb
         have HNI := Aside0.mk (show (trimB b).f2.length ≤ 1000 from HN.out.ni f HMB.out b HMY.out)
         have HDJ := Aside0.mk (show ∀ k, (fun k => okB k ∧ t_ k = 2) k → ¬ (fun k => okB k ∧ t_ k = 1) k from by rintro k ⟨_, h2⟩ ⟨_, h1⟩; omega)
         clear hSB hcl hcc hfr hokB hHB hR4 hS5 hR10 hl4 hC4 hl5 hC5 hl6 hC6 tyb
         go_wp2_with (first | (go_at_call 77; go_loud ((with_reducible refine (round_c (trimB b) E4 e4 E5 e5 E6 e6 _ B0 (fun k => okB k ∧ t_ k = 1) (fun k => okB k ∧ t_ k = 2) HBS0.out H5.out H10.out HDJ.out HNI.out).mono ?_); rintro e w7 ⟨⟨A5', c5', rfl, hs⟩, hg⟩; clear m0 zm0 n0 zn0; clear f0 f1 f2; clear x0 x1 x2 x3 x4 x5 x6 x7 x8 x9 x10 x11 x12 x13; have N0 := Aside0.mk (Below.grown HB.out hg HB.out.size (fun k hk => Nat.le_trans HG.out.1 (Kd.S_base H5.out k hk))); have N1 := Aside0.mk (blk_grown X1.out hg (Kd.S_ne H5.out X1.out (by decide))); have N2 := Aside0.mk (blk_grown X2.out hg (Kd.S_ne H5.out X2.out (by decide))); have N5 := Aside0.mk (blk_grown X5.out hg (Kd.S_ne H5.out X5.out (by decide))); have N6_ := Aside0.mk (Kd.H_grown HH.out hg (fun k hk => (HOB.out k (HO5.out k hk).1).1.1)); have N7 := Aside0.mk (Kd.H_grown HHB.out hg (fun k hk => (HO5.out k hk).1)); have N8 := Aside0.mk (Kd.R_grown H4.out hg (fun k hk e => by have h1_ := (HO5.out k e.symm).2; have h2_ := hk.2; omega)); have N9 := Aside0.mk (there_same HTH.out (hg.block gb (blk_lt HTY.out) (Kd.S_ne H5.out HTY.out (by decide)))); have HSZ := Aside0.mk hg.size; have HS5 := Aside0.mk hs; clear HB X1 X2 X5 HH HHB H4 HTH hs hg; have HB := N0; have X1 := N1; have X2 := N2; have X5 := N5; have HH := N6_; have HHB := N7; have H4 := N8; have HTH := N9; clear N0 N1 N2 N5 N6_ N7 N8 N9)) | ((with_reducible refine gate_store (t := 41) (p := 70) rfl ?_); refine wpList_store_mid rfl _ (.tmp 70) (.tmp 69) rfl gb (y.toNat * 14) #[.bool (trimB b).f0, .int .i64 (trimB b).f1.f0, .slice E4 (trimB b).f1.f1.length e4, .bool (trimB b).f1.f2, .bool (trimB b).f1.f3, .slice A5' ((trimB b).f2.length + 1) c5', .int .i64 2, .int .i64 0, .int .i64 0, .int .i64 0, .slice none 0 0, .int .i64 (trimB b).f3.f5, .int .i64 0, .int .i64 0] ?hx ?hy ?th (by kernel_rfl) (by kernel_rfl) ?_; (case th => exact HTH.out); (case hx => first | rfl | (go_simp; done)); (case hy => first | rfl | (go_simp; done))))
         have HQ := Kd.S_seg (d := sB) (okg := fun k => wc.heap.size ≤ k) (x' := roundB (trimB b)) (okp := fun k => okB k ∨ wc.heap.size ≤ k) (j := 0) (seg := [.bool (trimB b).f0, .int .i64 (trimB b).f1.f0, .slice E4 (trimB b).f1.f1.length e4, .bool (trimB b).f1.f2, .bool (trimB b).f1.f3, .slice A5' ((trimB b).f2.length + 1) c5', .int .i64 2, .int .i64 0, .int .i64 0, .int .i64 0, .slice none 0 0, .int .i64 (trimB b).f3.f5, .int .i64 0, .int .i64 0]) HHB.out HY.out.1 HLY.out (by show 0 + 14 ≤ 14; omega) (sB_of (x := roundB (trimB b)) (ok2 := fun k => okB k ∧ t_ k = 0) (ok5 := fun k => (okB k ∧ t_ k = 1) ∨ (okB k ∧ t_ k = 2) ∨ wc.heap.size ≤ k) (ok10 := fun _ => False) H4.out (by rw [show (roundB (trimB b)).f2 = (trimB b).f2 ++ [newI (trimB b)] from rfl]; exact HS5.out) (Kd.R_nil _ _ _ _ _) (fun k hk => .inl hk.1) (fun k hk => hk.elim (fun h => .inl h.1) (fun h => h.elim (fun h => .inl h.1) .inr)) (fun k hk => hk.elim) (fun k hk h5 => h5.elim (fun h => by have := hk.2; have := h.2; omega) (fun h => h.elim (fun h => by have := hk.2; have := h.2; omega) (fun h => (HOB.out k hk.1).1.2 h))) (fun k _ h => h) (fun k _ h => h)) (fun k hk => hk) (fun k hk => ⟨HOK.out k (Nat.le_trans HZ.out hk), by have := blk_lt HTY.out; omega⟩)
         have HQ1 := Aside0.mk HQ.1
         clear HQ
         have W1 := Aside0.mk (show wrap64 (y + 1) = y + 1 from wrap_in _ (by have := HY.out; omega) (by have := HLY.out; have := HN.out.nb f HMB.out; omega))
         go_roundg ((f.f2.length : Int) - (y + 1)).toNat
         case measure => have h1_ := HY.out; have h2_ := HLY.out; omega
         case rel => exact ⟨y + 1, by first | (rw [W1.out]; done) | rfl | (simp only [W1.out]; done), ⟨by have := HY.out; have := HLY.out; omega⟩, ⟨setL_below HB.out HLT0.out.1 _ _⟩, ⟨setL_far X1.out HLT0.out.2.1 _ _⟩, ⟨setL_far X2.out HLT0.out.2.2.1 _ _⟩, ⟨setL_far X5.out (fun e => Kd.S_ne HS.out (show wc.heap[g5]? = _ from O5.out) (by decide) (congrArg some e)) _ _⟩, ⟨Kd.H_step HH.out (fun k _ hk _ => setCells_far _ _ k (fun e => hk (e ▸ HGP.out)))⟩, ⟨by rw [← upTo_set (padB f) f.f2 z41 y HY.out.1 HLY.out (u := roundB (trimB b)) (by rw [HBX.out]; unfold padB; rw [if_pos HGO.out])]; exact (by have h_ := HQ1.out; rw [set_set] at h_; exact h_)⟩, ⟨by rw [setL_size]; exact Nat.le_trans HZ.out HSZ.out⟩⟩
end Go.Proofs.Ytbfialebaoeicaa.X
namespace Go.Proofs.Ytbfialebaoeicaa.X
open Go.RowKit Go.Proofs.YtbfialebaoeicaaW.PrintWords Go.Proofs.YtbfialebaoeicaaW.PrintLast Go.Proofs.YtbfialebaoeicaaW.PrintMore
set_option linter.all false
def okF (m : List S27) (n : Int) : Bool := rightR m && win n m.length
end Go.Proofs.Ytbfialebaoeicaa.X
