/- Part 25 of the proof of the statement ShapeCopies: the words of the walks, the walks through the functions that it reaches, and the plain laws of what they compute. -/
import Derived.Test.YtbfialebaoeicaaMShapeCopies23
import Derived.RegionTactic
import Derived.ChangeAlike
import Derived.Deep.QuietTactic
import Derived.BigQuiet
import Derived.StillTailTactics
import Derived.Deep.MidRow
namespace Go.Proofs.Ytbfialebaoeicaa.X
open Go.RowKit Go.Proofs.YtbfialebaoeicaaW.PrintWords Go.Proofs.YtbfialebaoeicaaW.PrintLast Go.Proofs.YtbfialebaoeicaaW.PrintMore
set_option linter.all false
open Go.Proofs.Ytbfialebaoeicaa.G
theorem ss_c_no {a : List S27} {x y : Int} {b : S41} (hb : Bnd (putB a x y b)) (hn : eqL funcE (putB a x y b) a = false) (A : Option Addr) (c : Nat) (A' : Option Addr) (c' : Nat) (W : World) (h : Kd.C k27 W A a.length (putB a x y b)) (h' : Kd.C k27 W A' a.length a) : Calls Try.prog 25 #[.agg #[.slice A a.length c], .agg #[.slice A' a.length c']] W fun e w' => e = .returned (.bool false) ∧ Below W.heap.size W w' := by
 have h2 := same_c (putB a x y b) A c a A' c' W (by rw [putB_len]; exact h) h' hb
 rw [putB_len, hn] at h2
 exact h2
theorem rs_c_no {a : List S27} {x y : Int} {b : S41} (hb : Bnd (putB a x y b)) (hn : eqL funcE (putB a x y b) a = false) (A : Option Addr) (c : Nat) (A' : Option Addr) (c' : Nat) (W : World) (h : Kd.C k27 W A a.length (putB a x y b)) (h' : Kd.C k27 W A' a.length a) : Calls Try.prog 26 #[.agg #[.slice A a.length c], .agg #[.slice A' a.length c']] W fun e w' => e = .returned (.bool false) ∧ Below W.heap.size W w' := by
 have h2 := rsame_c (putB a x y b) A c a A' c' W (by rw [putB_len]; exact h) h' hb
 rw [putB_len, hn] at h2
 exact h2
theorem cell_other {w : World} {p q : Addr} {u : Value} (h : q.block ≠ p.block) : (w.setCell p u).cell? q = w.cell? q := by
 simp [World.cell?, Below.heap_setCell w p u q.block h]
theorem tmod_n {a : Int} {n : Nat} (h : 0 ≤ a) (hn : 1 ≤ n) : 0 ≤ a.tmod n ∧ a.tmod n < (n : Int) := by
 rw [Int.tmod_eq_emod_of_nonneg h]
 exact ⟨Int.emod_nonneg _ (by omega), Int.emod_lt_of_pos _ (by omega)⟩
theorem tdiv_n {a : Int} (h : 0 ≤ a ∧ a ≤ 65535) (d : Int) (hd : 1 ≤ d) : 0 ≤ a.tdiv d ∧ a.tdiv d ≤ 65535 := by
 rw [Int.tdiv_eq_ediv_of_nonneg h.1]
 exact ⟨Int.ediv_nonneg h.1 (by omega), Int.le_trans (Int.ediv_le_self _ h.1) h.2⟩
structure BkB (v : Int) (b : S41) : Prop where
 tov : b.f3.f5 = v
 ni : b.f2.length ≤ 1000000
 nc : b.f1.f1.length ≤ 20
 ne : b.f3.f4.length ≤ 1000000
 na : ∀ i ∈ b.f2, i.f6.length ≤ 1000000
theorem BkB.i1 {v u : Int} {b : S41} (h : BkB v b) (hp : 0 < b.f2.length) : BkB v ⟨b.f0, b.f1, b.f2.set 0 (ins1 (rd_T49 b.f2 0) u), b.f3⟩ := ⟨h.tov, by show (b.f2.set 0 _).length ≤ _; rw [List.length_set]; exact h.ni, h.nc, h.ne, fun i hi => by
 rcases List.mem_or_eq_of_mem_set (show i ∈ b.f2.set 0 _ from hi) with hi | rfl
 ·exact h.na i hi
 ·exact h.na (rd_T49 b.f2 0) (show rd_T49 b.f2 0 ∈ b.f2 from rd_mem' b.f2 z49 0 (by omega) (by omega))⟩
theorem BkB.i6 {v u : Int} {b : S41} (h : BkB v b) (hp : 0 < b.f2.length) : BkB v ⟨b.f0, b.f1, b.f2.set 0 (ins6 (rd_T49 b.f2 0) ((rd_T49 b.f2 0).f6.set 0 u)), b.f3⟩ := ⟨h.tov, by show (b.f2.set 0 _).length ≤ _; rw [List.length_set]; exact h.ni, h.nc, h.ne, fun i hi => by
 rcases List.mem_or_eq_of_mem_set (show i ∈ b.f2.set 0 _ from hi) with hi | rfl
 ·exact h.na i hi
 ·show ((rd_T49 b.f2 0).f6.set 0 u).length ≤ _
  rw [List.length_set]
  exact h.na (rd_T49 b.f2 0) (show rd_T49 b.f2 0 ∈ b.f2 from rd_mem' b.f2 z49 0 (by omega) (by omega))⟩
theorem bk_start {a : List S27} {f : S27} {b1 : S41} (h : Bnd a) (hf : f ∈ a) (hb : b1 ∈ f.f2) (v : Int) : BkB v (setTo b1 v) := ⟨rfl, (h.f f hf).ni b1 hb, (h.f f hf).nc b1 hb, (h.f f hf).ne b1 hb, (h.f f hf).na b1 hb⟩
theorem BkB.c0 {v u : Int} {b : S41} (h : BkB v b) : BkB v ⟨b.f0, ⟨b.f1.f0, b.f1.f1.set 0 u, b.f1.f2, b.f1.f3⟩, b.f2, b.f3⟩ := ⟨h.tov, h.ni, by show (b.f1.f1.set 0 u).length ≤ _; rw [List.length_set]; exact h.nc, h.ne, h.na⟩
set_option maxHeartbeats 16000000 in
set_option maxRecDepth 100000 in
theorem copies_c (a : List S27) (A0 : Option Addr) (c0 : Nat) (b : List S27) (B0 : Option Addr) (e0 : Nat) (t : Int) (w : World) (ha : Kd.C k27 w A0 a.length a) (hca : a.length ≤ c0) (hb : Kd.C k27 w B0 b.length b) (hcb : b.length ≤ e0) (ht : 0 ≤ t ∧ t ≤ 65535) :
  Calls Try.prog 4 #[.agg #[.slice A0 a.length c0], .agg #[.slice B0 b.length e0], .int .u16 t] w fun e w' => e = .returned (.bool true) ∧ Below w.heap.size w w' := by
 have HA := Aside0.mk ha
 have HCA := Aside0.mk hca
 have HBB := Aside0.mk hb
 have HCB := Aside0.mk hcb
 have HT := Aside0.mk ht
 clear ha hca hb hcb ht
 have hu24 := Try.underlying24
 have hu27 := Try.underlying27
 have hu41 := Try.underlying41
 have hu49 := Try.underlying49
 have hu35 := Try.underlying35
 have hu39 := Try.underlying39
 obtain ⟨sa, hs1, hs2⟩ := short_c a
 have HSA := Aside0.mk hs2
 clear hs2
 obtain ⟨sb, hs3, hs4⟩ := short_c b
 have HSB := Aside0.mk hs4
 clear hs4
 go_enter Try.func4, Try.ntmps4
 go_upto_region 3 with (first | ((with_reducible refine gate_dst (N := 3) rfl ?_); refine box_event ?hg (N := 3) ?hd (cs := #[.slice A0 a.length c0]) (t := 24) ?hr ?_; (case hd => rfl); (case hg => rfl); (case hr => first | (go_simp; done) | (go_simp; rfl)); intro g3 hg w3 hbox hb; have HLX3 := Aside0.mk (show w.heap.size ≤ g3 by rw [hg]; exact Nat.le_refl _); have HB := Aside0.mk hb; have X3 := Aside0.mk hbox; clear hbox hb hg; have m0 := (blk_cell X3.out 0).trans rfl; have zm0 := blk_frozen X3.out 0) | ((with_reducible refine gate_dst (N := 4) rfl ?_); refine box_event ?hg (N := 4) ?hd (cs := #[.slice B0 b.length e0]) (t := 24) ?hr ?_; (case hd => rfl); (case hg => rfl); (case hr => first | (go_simp; done) | (go_simp; rfl)); intro g4 hg w4 hbox hb; have HLX4 := Aside0.mk (show w.heap.size ≤ g4 by rw [hg]; exact HB.out.size); replace HB := Aside0.mk (below_step HB.out hb); replace X3 := Aside0.mk (blk_below X3.out hb); have X4 := Aside0.mk hbox; clear hbox hb hg; have n0 := (blk_cell X4.out 0).trans rfl; have zn0 := blk_frozen X4.out 0; clear m0 zm0; have m0 := (blk_cell X3.out 0).trans rfl; have zm0 := blk_frozen X3.out 0) | (go_at_call 14; go_loud ((with_reducible refine (awake2_c _).mono ?_); rintro e w8 ⟨rfl, hb⟩; clear m0 zm0 n0 zn0; replace HB := Aside0.mk (below_step HB.out hb); replace X3 := Aside0.mk (blk_below X3.out hb); replace X4 := Aside0.mk (blk_below X4.out hb); clear hb; have m0 := (blk_cell X3.out 0).trans rfl; have zm0 := blk_frozen X3.out 0; have n0 := (blk_cell X4.out 0).trans rfl; have zn0 := blk_frozen X4.out 0)))
 go_cut [20] (fun v20 wc => v20 = .bool (!(sa && sb)) ∧ Aside0 (Below w.heap.size w wc) ∧ Aside0 (wc.heap[g3]? = some (.cells #[.slice A0 a.length c0] 24 (0, 0))) ∧ Aside0 (wc.heap[g4]? = some (.cells #[.slice B0 b.length e0] 24 (0, 0))))
 case first =>
  cases sa <;> cases sb <;> (go_wp2_with (go_at_call 15; first | ((with_reducible refine (HSA.out A0 c0 _ (Kd.C_below HA.out HB.out) HCA.out).mono ?_); rintro e w8 ⟨rfl, hb⟩; clear m0 zm0 n0 zn0; replace HB := Aside0.mk (below_step HB.out hb); replace X3 := Aside0.mk (blk_below X3.out hb); replace X4 := Aside0.mk (blk_below X4.out hb); clear hb; have m0 := (blk_cell X3.out 0).trans rfl; have zm0 := blk_frozen X3.out 0; have n0 := (blk_cell X4.out 0).trans rfl; have zn0 := blk_frozen X4.out 0) | ((with_reducible refine (HSB.out B0 e0 _ (Kd.C_below HBB.out HB.out) HCB.out).mono ?_); rintro e w8 ⟨rfl, hb⟩; clear m0 zm0 n0 zn0; replace HB := Aside0.mk (below_step HB.out hb); replace X3 := Aside0.mk (blk_below X3.out hb); replace X4 := Aside0.mk (blk_below X4.out hb); clear hb; have m0 := (blk_cell X3.out 0).trans rfl; have zm0 := blk_frozen X3.out 0; have n0 := (blk_cell X4.out 0).trans rfl; have zn0 := blk_frozen X4.out 0)); go_meet; exact ⟨rfl, HB, X3, X4⟩)
 case rest =>
  clear m0 zm0 n0 zn0
  clear HB X3 X4
  obtain ⟨rfl, HB, X3, X4⟩ := hcut
  have m0 := (blk_cell X3.out 0).trans rfl
  have zm0 := blk_frozen X3.out 0
  have n0 := (blk_cell X4.out 0).trans rfl
  have zn0 := blk_frozen X4.out 0
  cases hs : (sa && sb) with
  | false =>
   go_wp2
   go_ret
   exact ⟨rfl, HB.out⟩
  | true =>
   obtain ⟨ha_, hb_⟩ := Bool.and_eq_true_iff.1 hs
   have HBND := Aside0.mk (Sh.bnd (hs1 ha_))
   have HN := Aside0.mk (Sh_bc (hs1 ha_))
   clear hs1 hs3 hs ha_ hb_
   go_upto_region 5 with (fail)
   go_cut [7, 8] (fun v7 v8 wc => ∃ (g7 g8 : Nat) (D1 D2 : Option Addr) (k1 k2 lo1 hi1 lo2 hi2 : Nat), v7 = .pointer (some ⟨g7, 0, none⟩) ∧ v8 = .pointer (some ⟨g8, 0, none⟩) ∧ Aside0 (Below w.heap.size w wc) ∧ Aside0 (wc.heap[g3]? = some (.cells #[.slice A0 a.length c0] 24 (0, 0))) ∧ Aside0 (wc.heap[g4]? = some (.cells #[.slice B0 b.length e0] 24 (0, 0))) ∧ Aside0 (wc.heap[g7]? = some (.cells #[.slice D1 a.length k1] 24 (0, 0))) ∧ Aside0 (wc.heap[g8]? = some (.cells #[.slice D2 a.length k2] 24 (0, 0))) ∧ Aside0 (Kd.S sF 27 wc lo1 (fun k => lo1 ≤ k ∧ k < hi1) (.slice D1 a.length k1) a) ∧ Aside0 (Kd.S sF 27 wc lo2 (fun k => lo2 ≤ k) (.slice D2 a.length k2) a) ∧ Aside0 (w.heap.size ≤ lo1 ∧ hi1 ≤ lo2 ∧ g3 < lo1 ∧ g4 < lo1 ∧ (g7 < lo1 ∨ hi1 ≤ g7) ∧ (g8 < lo1 ∨ hi1 ≤ g8)))
   case first =>
    have HG34 := Aside0.mk (And.intro (blk_lt X3.out) (And.intro (blk_lt X4.out) HB.out.size))
    refine r5c a A0 c0 g3 _ (Kd.C_below HA.out HB.out) HCA.out HN.out X3.out (by intro c a N v w h; cases N <;> exact h) (fun D1 D2 k1 k2 g7 g8 lo1 hi1 lo2 hi2 W hS x7 x8 s1 s2 hnum => ?_)
    go_wp2
    go_meet
    exact ⟨g7, g8, D1, D2, k1, k2, lo1, hi1, lo2, hi2, rfl, rfl, ⟨HB.out.trans (hS.mono HB.out.size)⟩, ⟨blk_below X3.out hS⟩, ⟨blk_below X4.out hS⟩, ⟨x7⟩, ⟨x8⟩, ⟨Kd.S_mono (Kd.S_bound s1) (fun k hk => ⟨hk.2.1, hk.1⟩)⟩, ⟨Kd.S_mono (Kd.S_bound s2) (fun k hk => hk.2.1)⟩, ⟨by have := HG34.out; omega, hnum.2.2.1, by have := HG34.out; omega, by have := HG34.out; omega, hnum.2.2.2.2.2.2.2.1, hnum.2.2.2.2.2.2.2.2.1⟩⟩
   case rest =>
    clear m0 zm0 n0 zn0
    clear HB X3 X4
    obtain ⟨g7, g8, D1, D2, k1, k2, lo1, hi1, lo2, hi2, rfl, rfl, HB, X3, X4, X7, X8, S1, S2, HG⟩ := hcut
    go_upto_region 6 with (fail)
    go_cut [43] (fun v43 wd => v43 = .bool false ∧ Aside0 (Below w.heap.size w wd) ∧ Aside0 (wd.heap[g3]? = some (.cells #[.slice A0 a.length c0] 24 (0, 0))) ∧ Aside0 (wd.heap[g4]? = some (.cells #[.slice B0 b.length e0] 24 (0, 0))) ∧ Aside0 (wd.heap[g7]? = some (.cells #[.slice D1 a.length k1] 24 (0, 0))) ∧ Aside0 (wd.heap[g8]? = some (.cells #[.slice D2 a.length k2] 24 (0, 0))) ∧ Aside0 (Kd.S sF 27 wd lo1 (fun k => lo1 ≤ k ∧ k < hi1) (.slice D1 a.length k1) a) ∧ Aside0 (Kd.S sF 27 wd lo2 (fun k => lo2 ≤ k) (.slice D2 a.length k2) a))
    case first =>
     have HC1 := Aside0.mk ((Kd.S_reads' (d := sF) S1.out).2.2)
     refine r6c a A0 c0 b B0 e0 D1 k1 g3 g4 g7 wc (Kd.C_below HA.out HB.out) (Kd.C_below HBB.out HB.out) HC1.out HBND.out X3.out X4.out X7.out (by intro c a N v w h; cases N <;> exact h) (fun W hS => ?_)
     go_wp2
     go_meet
     exact ⟨rfl, ⟨HB.out.trans (hS.mono HB.out.size)⟩, ⟨blk_below X3.out hS⟩, ⟨blk_below X4.out hS⟩, ⟨blk_below X7.out hS⟩, ⟨blk_below X8.out hS⟩, ⟨Kd.S_below S1.out hS⟩, ⟨Kd.S_below S2.out hS⟩⟩
    case rest =>
     clear HB X3 X4 X7 X8 S1 S2
     obtain ⟨rfl, HB, X3, X4, X7, X8, S1, S2⟩ := hcut
     have p0 := (blk_cell X7.out 0).trans rfl
     have zp0 := blk_frozen X7.out 0
     by_cases hl0 : a.length = 0
     ·have hz : ((a.length : Int) == 0) = true := by rw [hl0]; rfl
      have hl3 : (a = []) = True := eq_true (List.eq_nil_of_length_eq_zero hl0)
      have hz2 : (a.length == 0) = true := beq_iff_eq.2 hl0
      clear hl0
      go_wp2
      go_ret
      exact ⟨rfl, HB.out⟩
     have hz0 : (a.length : Int) ≠ 0 := by omega
     have hz : ((a.length : Int) == 0) = false := beq_eq_false_iff_ne.2 hz0
     have hl2 : ((a.length : Int) = 0) = False := eq_false hz0
     have hl3 : (a = []) = False := eq_false (fun e => hl0 (by rw [e]; rfl))
     have hz2 : (a.length == 0) = false := beq_eq_false_iff_ne.2 hl0
     have HX := Aside0.mk (tmod_n HT.out.1 (show 1 ≤ a.length by omega))
     generalize hx : t.tmod (a.length : Int) = x at HX
     have hwa : IntKind.i64.wrap t = t := (i64_w t).trans (wrap_in t (by have := HT.out; omega) (by have := HT.out; omega))
     have p1 : (0 ≤ x) = True := eq_true HX.out.1
     have p2 : (x < (a.length : Int)) = True := eq_true HX.out.2
     obtain ⟨g0, c0_, he, hg0, hg1, _⟩ := Kd.S_form (d := sF) S1.out (by omega)
     injection he with he _ he2
     subst he
     subst he2
     have HG0 := Aside0.mk ((Kd.S_R S1.out).1 g0 rfl)
     clear hg0 hg1
     obtain ⟨oki, cF, hcl, hM, hcc, hok, hH⟩ := Kd.S_lend S1.out z27 x HX.out.1 HX.out.2
     obtain ⟨v2, rfl, hS2⟩ := hM
     obtain ⟨A2, c2, rfl, _, _⟩ := Kd.S_reads (d := sB) (show Kd.S sB 41 wc lo1 oki v2 (rd_T27 a x).f2 from hS2)
     have y0 : wc.cell? ⟨g0, x.toNat * 3, none⟩ = some (.int .i64 (rd_T27 a x).f0) := hcc 0 _ rfl
     have y1 : wc.cell? ⟨g0, x.toNat * 3 + 1, none⟩ = some (.int .i64 (rd_T27 a x).f1) := hcc 1 _ rfl
     have y2 : wc.cell? ⟨g0, x.toNat * 3 + 2, none⟩ = some (.slice A2 (rd_T27 a x).f2.length c2) := hcc 2 _ rfl
     clear hcl hcc hok hH hS2
     go_upto_region 10 with (fail)
     go_cut [9] (fun v9 wd => ∃ g9 : Nat, v9 = .pointer (some ⟨g9, 0, none⟩) ∧ Aside0 (Below w.heap.size w wd) ∧ Aside0 (wd.heap[g3]? = some (.cells #[.slice A0 a.length c0] 24 (0, 0))) ∧ Aside0 (wd.heap[g4]? = some (.cells #[.slice B0 b.length e0] 24 (0, 0))) ∧ Aside0 (wd.heap[g7]? = some (.cells #[.slice (some ⟨g0, 0, none⟩) a.length k1] 24 (0, 0))) ∧ Aside0 (wd.heap[g8]? = some (.cells #[.slice D2 a.length k2] 24 (0, 0))) ∧ Aside0 (Kd.S sF 27 wd lo1 (fun k => lo1 ≤ k ∧ k < hi1) (.slice (some ⟨g0, 0, none⟩) a.length k1) a) ∧ Aside0 (Kd.S sF 27 wd lo2 (fun k => lo2 ≤ k) (.slice D2 a.length k2) a) ∧ Aside0 (wd.heap[g9]? = some (.cells #[.int .i64 (rd_T27 a x).f0, .int .i64 (rd_T27 a x).f1, .slice A2 (rd_T27 a x).f2.length c2] 27 (0, 0))) ∧ Aside0 (wd.cell? ⟨g0, x.toNat * 3 + 2, none⟩ = some (.slice A2 (rd_T27 a x).f2.length c2)) ∧ Aside0 (w.heap.size ≤ g9))
     case first =>
      refine r10c a A2 c2 k1 g0 g7 t x wc X7.out p1 p2 hx hwa hz hl2 hl3 y0 y1 y2 (by intro c a N v w h; cases N <;> exact h) (fun g9 W hS hx9 hn9 => ?_)
      go_wp2
      go_meet
      exact ⟨g9, rfl, ⟨HB.out.trans (hS.mono HB.out.size)⟩, ⟨blk_below X3.out hS⟩, ⟨blk_below X4.out hS⟩, ⟨blk_below X7.out hS⟩, ⟨blk_below X8.out hS⟩, ⟨Kd.S_below S1.out hS⟩, ⟨Kd.S_below S2.out hS⟩, ⟨hx9⟩, ⟨pw_cell_below hS y2⟩, ⟨Nat.le_trans HB.out.size hn9⟩⟩
     case rest =>
      clear hz0 hz hl2 hl3 hz2 hx hwa p1 p2 y0 y1 y2
      clear p0 zp0
      clear HB X3 X4 X7 X8 S1 S2
      obtain ⟨g9, rfl, HB, X3, X4, X7, X8, S1, S2, X9, HR2, HG9⟩ := hcut
      obtain ⟨f0, f1, f2⟩ := cl3 X9.out
      by_cases hl1 : (rd_T27 a x).f2.length = 0
      ·have hz : (((rd_T27 a x).f2.length : Int) == 0) = true := by rw [hl1]; rfl
       have hl3 : ((rd_T27 a x).f2 = []) = True := eq_true (List.eq_nil_of_length_eq_zero hl1)
       have hz2 : ((rd_T27 a x).f2.length == 0) = true := beq_iff_eq.2 hl1
       clear hl1
       go_wp2
       go_ret
       exact ⟨rfl, HB.out⟩
      have hz0 : ((rd_T27 a x).f2.length : Int) ≠ 0 := by omega
      have hz : (((rd_T27 a x).f2.length : Int) == 0) = false := beq_eq_false_iff_ne.2 hz0
      have hl2 : (((rd_T27 a x).f2.length : Int) = 0) = False := eq_false hz0
      have hl3 : ((rd_T27 a x).f2 = []) = False := eq_false (fun e => hl1 (by rw [e]; rfl))
      have hz2 : ((rd_T27 a x).f2.length == 0) = false := beq_eq_false_iff_ne.2 hl1
      have HY := Aside0.mk (tmod_n (tdiv_n HT.out 7 (by decide)).1 (show 1 ≤ (rd_T27 a x).f2.length by omega))
      generalize hy : ((t.tdiv 7).tmod ((rd_T27 a x).f2.length : Int)) = y at HY
      have hwa : IntKind.i64.wrap t = t := (i64_w t).trans (wrap_in t (by have := HT.out; omega) (by have := HT.out; omega))
      have hwd : IntKind.i64.wrap (t.tdiv 7) = t.tdiv 7 := (i64_w _).trans (wrap_in _ (by have := tdiv_n HT.out 7 (by decide); omega) (by have := tdiv_n HT.out 7 (by decide); omega))
      have p3 : (0 ≤ y) = True := eq_true HY.out.1
      have p4 : (y < ((rd_T27 a x).f2.length : Int)) = True := eq_true HY.out.2
      obtain ⟨b1, hb1⟩ : ∃ b1, rd_T41 (rd_T27 a x).f2 y = b1 := ⟨_, rfl⟩
      have HBX := Aside0.mk hb1
      clear hb1
      obtain ⟨gb, c2', _, _, _, _, hr2, _⟩ := SM_rows S1.out x y HX.out.1 HX.out.2 HY.out.1 HY.out.2 HBX.out
      have e_ := HR2.out.symm.trans hr2
      simp only [Option.some.injEq, Value.slice.injEq, true_and] at e_
      obtain ⟨e1_, e2_⟩ := e_
      subst e1_
      subst e2_
      clear hr2
      go_upto_region 13 with (fail)
      go_cut [10] (fun v10 wd => v10 = .pointer (some ⟨gb, y.toNat * 14, none⟩) ∧ Aside0 (Below w.heap.size w wd) ∧ Aside0 (wd.heap[g3]? = some (.cells #[.slice A0 a.length c0] 24 (0, 0))) ∧ Aside0 (wd.heap[g4]? = some (.cells #[.slice B0 b.length e0] 24 (0, 0))) ∧ Aside0 (wd.heap[g7]? = some (.cells #[.slice (some ⟨g0, 0, none⟩) a.length k1] 24 (0, 0))) ∧ Aside0 (wd.heap[g8]? = some (.cells #[.slice D2 a.length k2] 24 (0, 0))) ∧ Aside0 (Kd.S sF 27 wd lo1 (fun k => lo1 ≤ k ∧ k < hi1) (.slice (some ⟨g0, 0, none⟩) a.length k1) a) ∧ Aside0 (Kd.S sF 27 wd lo2 (fun k => lo2 ≤ k) (.slice D2 a.length k2) a) ∧ Aside0 (wd.cell? ⟨g0, x.toNat * 3 + 2, none⟩ = some (.slice (some ⟨gb, 0, none⟩) (rd_T27 a x).f2.length c2)))
      case first =>
       refine r13c a c2 gb g9 t x y wc X9.out p3 p4 hy hwa hwd hz hl2 hl3 (by intro c a N v w h; cases N <;> exact h) (fun W hS => ?_)
       go_wp2
       go_meet
       exact ⟨rfl, ⟨HB.out.trans (hS.mono HB.out.size)⟩, ⟨blk_below X3.out hS⟩, ⟨blk_below X4.out hS⟩, ⟨blk_below X7.out hS⟩, ⟨blk_below X8.out hS⟩, ⟨Kd.S_below S1.out hS⟩, ⟨Kd.S_below S2.out hS⟩, ⟨pw_cell_below hS HR2.out⟩⟩
      case rest =>
       clear hz0 hz hl2 hl3 hz2 hy hwa hwd p3 p4 f0 f1 f2 X9 HR2
       clear HB X3 X4 X7 X8 S1 S2
       obtain ⟨rfl, HB, X3, X4, X7, X8, S1, S2, HR2⟩ := hcut
       obtain ⟨gb', c2', v4, v5, ok4, ok5, hr2, ⟨hq0, hq1, hq2, hq3⟩, ⟨hv4, hv5, hv11, hz11⟩, hR4, hR5, hk4, hk5, hTo, hC4, hC5⟩ := SM_rows S1.out x y HX.out.1 HX.out.2 HY.out.1 HY.out.2 (HBX.out)
       have e_ := HR2.out.symm.trans hr2
       simp only [Option.some.injEq, Value.slice.injEq, Addr.mk.injEq, and_true, true_and] at e_
       obtain ⟨e1_, e2_⟩ := e_
       subst e1_
       subst e2_
       clear hr2
       have HQ := Aside0.mk (show gb ≠ g0 ∧ g3 ≠ gb ∧ g4 ≠ gb ∧ g7 ≠ gb ∧ g8 ≠ gb ∧ w.heap.size ≤ gb ∧ gb < lo2 by have := HG.out; omega)
       clear hq0 hq1 hq2 hq3
       have HBK := Aside0.mk (show BkB (wrap64 (b1.f3.f5 + 1)) (setTo b1 (wrap64 (b1.f3.f5 + 1))) from bk_start HBND.out (rd_mem' a z27 x HX.out.1 HX.out.2 : (rd_T27 a x) ∈ a) (by rw [← HBX.out]; exact rd_mem' _ z41 y HY.out.1 HY.out.2 : b1 ∈ (rd_T27 a x).f2) _)
       have HSN := Aside0.mk (hTo (wrap64 (b1.f3.f5 + 1)))
       go_upto_region 14 with (fail)
       go_cut [] (fun wd => Aside0 (Below w.heap.size w wd) ∧ Aside0 (wd.heap[g3]? = some (.cells #[.slice A0 a.length c0] 24 (0, 0))) ∧ Aside0 (wd.heap[g4]? = some (.cells #[.slice B0 b.length e0] 24 (0, 0))) ∧ Aside0 (wd.heap[g7]? = some (.cells #[.slice (some ⟨g0, 0, none⟩) a.length k1] 24 (0, 0))) ∧ Aside0 (wd.heap[g8]? = some (.cells #[.slice D2 a.length k2] 24 (0, 0))) ∧ Aside0 (Kd.S sF 27 wd lo1 (fun k => lo1 ≤ k ∧ k < hi1) (.slice (some ⟨g0, 0, none⟩) a.length k1) (putB a x y (setTo b1 (wrap64 (b1.f3.f5 + 1))))) ∧ Aside0 (Kd.S sF 27 wd lo2 (fun k => lo2 ≤ k) (.slice D2 a.length k2) a) ∧ Aside0 (wd.cell? ⟨g0, x.toNat * 3 + 2, none⟩ = some (.slice (some ⟨gb, 0, none⟩) (rd_T27 a x).f2.length c2)))
       case first =>
        go_wp2
        go_meet
        exact ⟨⟨below_set HB.out HQ.out.2.2.2.2.2.1⟩, ⟨blk_far X3.out (p := ⟨gb, _, none⟩) HQ.out.2.1 _⟩, ⟨blk_far X4.out (p := ⟨gb, _, none⟩) HQ.out.2.2.1 _⟩, ⟨blk_far X7.out (p := ⟨gb, _, none⟩) HQ.out.2.2.2.1 _⟩, ⟨blk_far X8.out (p := ⟨gb, _, none⟩) HQ.out.2.2.2.2.1 _⟩, HSN, ⟨Kd.S_far (p := ⟨gb, _, none⟩) S2.out (fun k hk => show k ≠ gb by have := HQ.out; omega) _⟩, ⟨(cell_other (q := ⟨g0, x.toNat * 3 + 2, none⟩) (p := ⟨gb, _, none⟩) (Ne.symm HQ.out.1)).trans HR2.out⟩⟩
       case rest =>
        clear hv4 hv5 hv11 hz11 hR4 hR5 hk4 hk5 hTo hC4 hC5 HQ
        clear HSN HB X3 X4 X7 X8 S1 S2 HR2
        obtain ⟨HB, X3, X4, X7, X8, S1, S2, HR2⟩ := hcut
        have HNQ := Aside0.mk (show (wrap64 (b1.f3.f5 + 1)) ≠ b1.f3.f5 from wrap_ne _)
        generalize hbk : setTo b1 (wrap64 (b1.f3.f5 + 1)) = bk at S1 HBK
        clear hbk
        generalize (wrap64 (b1.f3.f5 + 1)) = tv at HBK HNQ
        obtain ⟨gb', c2', v4, v5, ok4, ok5, hr2, ⟨hq0, hq1, hq2, hq3⟩, ⟨hv4, hv5, hv11, hz11⟩, hR4, hR5, hk4, hk5, hC4, hC5⟩ := SM_rowsP S1.out HX.out.1 HX.out.2 HY.out.1 HY.out.2
        have e_ := HR2.out.symm.trans hr2
        simp only [Option.some.injEq, Value.slice.injEq, Addr.mk.injEq, and_true, true_and] at e_
        obtain ⟨e1_, e2_⟩ := e_
        subst e1_
        subst e2_
        clear hr2
        have HQ := Aside0.mk (show gb ≠ g0 ∧ g3 ≠ gb ∧ g4 ≠ gb ∧ g7 ≠ gb ∧ g8 ≠ gb ∧ w.heap.size ≤ gb ∧ gb < lo2 by have := HG.out; omega)
        clear hq0 hq1 hq2 hq3
        obtain ⟨A5, c5, hv⟩ := Kd.S_slice hR5
        rw [hv] at hv5
        go_upto_region 15 with (fail)
        go_cut [86] (fun vv wd => ∃ bb : Bool, vv = .bool bb ∧ Aside0 (bb = decide (0 < bk.f2.length)) ∧ Aside0 (Below w.heap.size w wd) ∧ Aside0 (wd.heap[g3]? = some (.cells #[.slice A0 a.length c0] 24 (0, 0))) ∧ Aside0 (wd.heap[g4]? = some (.cells #[.slice B0 b.length e0] 24 (0, 0))) ∧ Aside0 (wd.heap[g7]? = some (.cells #[.slice (some ⟨g0, 0, none⟩) a.length k1] 24 (0, 0))) ∧ Aside0 (wd.heap[g8]? = some (.cells #[.slice D2 a.length k2] 24 (0, 0))) ∧ Aside0 (Kd.S sF 27 wd lo1 (fun k => lo1 ≤ k ∧ k < hi1) (.slice (some ⟨g0, 0, none⟩) a.length k1) (putB a x y bk)) ∧ Aside0 (Kd.S sF 27 wd lo2 (fun k => lo2 ≤ k) (.slice D2 a.length k2) a) ∧ Aside0 (wd.cell? ⟨g0, x.toNat * 3 + 2, none⟩ = some (.slice (some ⟨gb, 0, none⟩) (rd_T27 a x).f2.length c2)))
        case first =>
         go_wp2
         go_meet
         exact ⟨_, rfl, ⟨by first | rfl | (simp; done)⟩, HB, X3, X4, X7, X8, S1, S2, HR2⟩
        case rest =>
         clear hv hv4 hv5 hv11 hz11 hR4 hR5 hk4 hk5 hC4 hC5 HQ
         clear HB X3 X4 X7 X8 S1 S2 HR2
         obtain ⟨bb, rfl, HBB, HB, X3, X4, X7, X8, S1, S2, HR2⟩ := hcut
         go_upto_if 86 with (fail)
         go_cut [] (fun wd => ∃ bk : S41, Aside0 (Below w.heap.size w wd) ∧ Aside0 (wd.heap[g3]? = some (.cells #[.slice A0 a.length c0] 24 (0, 0))) ∧ Aside0 (wd.heap[g4]? = some (.cells #[.slice B0 b.length e0] 24 (0, 0))) ∧ Aside0 (wd.heap[g7]? = some (.cells #[.slice (some ⟨g0, 0, none⟩) a.length k1] 24 (0, 0))) ∧ Aside0 (wd.heap[g8]? = some (.cells #[.slice D2 a.length k2] 24 (0, 0))) ∧ Aside0 (Kd.S sF 27 wd lo1 (fun k => lo1 ≤ k ∧ k < hi1) (.slice (some ⟨g0, 0, none⟩) a.length k1) (putB a x y bk)) ∧ Aside0 (Kd.S sF 27 wd lo2 (fun k => lo2 ≤ k) (.slice D2 a.length k2) a) ∧ Aside0 (wd.cell? ⟨g0, x.toNat * 3 + 2, none⟩ = some (.slice (some ⟨gb, 0, none⟩) (rd_T27 a x).f2.length c2)) ∧ Aside0 (BkB tv bk))
         case first =>
          cases bb with
          | false =>
           go_wp2
           go_meet
           exact ⟨bk, HB, X3, X4, X7, X8, S1, S2, HR2, HBK⟩
          | true =>
           obtain ⟨gb', c2', v4, v5, ok4, ok5, hr2, ⟨hq0, hq1, hq2, hq3⟩, ⟨hv4, hv5, hv11, hz11⟩, hR4, hR5, hk4, hk5, hC4, hC5⟩ := SM_rowsP S1.out HX.out.1 HX.out.2 HY.out.1 HY.out.2
           have e_ := HR2.out.symm.trans hr2
           simp only [Option.some.injEq, Value.slice.injEq, Addr.mk.injEq, and_true, true_and] at e_
           obtain ⟨e1_, e2_⟩ := e_
           subst e1_
           subst e2_
           clear hr2
           have HQ := Aside0.mk (show gb ≠ g0 ∧ g3 ≠ gb ∧ g4 ≠ gb ∧ g7 ≠ gb ∧ g8 ≠ gb ∧ w.heap.size ≤ gb ∧ gb < lo2 by have := HG.out; omega)
           clear hq0 hq1 hq2 hq3
           have hp : 0 < bk.f2.length := of_decide_eq_true HBB.out.symm
           obtain ⟨gi, ci, v6, ok6, hvi, hgi, ⟨hj1, hzj, hj6⟩, hR6, hk6, hI1, hI6⟩ := SI_first hR5 hp
           subst hvi
           have q1 : (0 < bk.f2.length) = True := eq_true hp
           have HQI := Aside0.mk (show gi ≠ g0 ∧ g3 ≠ gi ∧ g4 ≠ gi ∧ g7 ≠ gi ∧ g8 ≠ gi ∧ w.heap.size ≤ gi ∧ gi < lo2 by have := HG.out; have := hk5 gi hgi; omega)
           have HSI := Aside0.mk (hC5 ⟨gi, 1, none⟩ (.int .i64 (wrap64 ((rd_T49 bk.f2 0).f1 + 1))) _ hgi (hI1 (wrap64 ((rd_T49 bk.f2 0).f1 + 1))))
           have HBI := Aside0.mk (BkB.i1 (u := wrap64 ((rd_T49 bk.f2 0).f1 + 1)) HBK.out hp)
           have HPI := Aside0.mk hp
           go_upto_region 16 with (fail)
           go_cut [] (fun wd => Aside0 (Below w.heap.size w wd) ∧ Aside0 (wd.heap[g3]? = some (.cells #[.slice A0 a.length c0] 24 (0, 0))) ∧ Aside0 (wd.heap[g4]? = some (.cells #[.slice B0 b.length e0] 24 (0, 0))) ∧ Aside0 (wd.heap[g7]? = some (.cells #[.slice (some ⟨g0, 0, none⟩) a.length k1] 24 (0, 0))) ∧ Aside0 (wd.heap[g8]? = some (.cells #[.slice D2 a.length k2] 24 (0, 0))) ∧ Aside0 (Kd.S sF 27 wd lo1 (fun k => lo1 ≤ k ∧ k < hi1) (.slice (some ⟨g0, 0, none⟩) a.length k1) (putB a x y ⟨bk.f0, bk.f1, bk.f2.set 0 (ins1 (rd_T49 bk.f2 0) (wrap64 ((rd_T49 bk.f2 0).f1 + 1))), bk.f3⟩)) ∧ Aside0 (Kd.S sF 27 wd lo2 (fun k => lo2 ≤ k) (.slice D2 a.length k2) a) ∧ Aside0 (wd.cell? ⟨g0, x.toNat * 3 + 2, none⟩ = some (.slice (some ⟨gb, 0, none⟩) (rd_T27 a x).f2.length c2)))
           case first =>
            go_wp2
            go_meet
            exact ⟨⟨below_set HB.out HQI.out.2.2.2.2.2.1⟩, ⟨blk_far X3.out (p := ⟨gi, _, none⟩) HQI.out.2.1 _⟩, ⟨blk_far X4.out (p := ⟨gi, _, none⟩) HQI.out.2.2.1 _⟩, ⟨blk_far X7.out (p := ⟨gi, _, none⟩) HQI.out.2.2.2.1 _⟩, ⟨blk_far X8.out (p := ⟨gi, _, none⟩) HQI.out.2.2.2.2.1 _⟩, HSI, ⟨Kd.S_far (p := ⟨gi, _, none⟩) S2.out (fun k hk => show k ≠ gi by have := HQI.out; omega) _⟩, ⟨(cell_other (q := ⟨g0, x.toNat * 3 + 2, none⟩) (p := ⟨gi, _, none⟩) (Ne.symm HQI.out.1)).trans HR2.out⟩⟩
           case rest =>
            clear q1 hp hv4 hv5 hv11 hz11 hR4 hR5 hk4 hk5 hC4 hC5 HQ hgi hj1 hzj hj6 hR6 hk6 hI1 hI6
            clear HSI HBK HQI HB X3 X4 X7 X8 S1 S2 HR2
            obtain ⟨HB, X3, X4, X7, X8, S1, S2, HR2⟩ := hcut
            have HPB := Aside0.mk (show 0 < (⟨bk.f0, bk.f1, bk.f2.set 0 (ins1 (rd_T49 bk.f2 0) (wrap64 ((rd_T49 bk.f2 0).f1 + 1))), bk.f3⟩ : S41).f2.length by show 0 < (bk.f2.set 0 _).length; rw [List.length_set]; exact HPI.out)
            generalize (⟨bk.f0, bk.f1, bk.f2.set 0 (ins1 (rd_T49 bk.f2 0) (wrap64 ((rd_T49 bk.f2 0).f1 + 1))), bk.f3⟩ : S41) = bj at S1 HBI HPB
            obtain ⟨gb', c2', v4, v5, ok4, ok5, hr2, ⟨hq0, hq1, hq2, hq3⟩, ⟨hv4, hv5, hv11, hz11⟩, hR4, hR5, hk4, hk5, hC4, hC5⟩ := SM_rowsP S1.out HX.out.1 HX.out.2 HY.out.1 HY.out.2
            have e_ := HR2.out.symm.trans hr2
            simp only [Option.some.injEq, Value.slice.injEq, Addr.mk.injEq, and_true, true_and] at e_
            obtain ⟨e1_, e2_⟩ := e_
            subst e1_
            subst e2_
            clear hr2
            have HQ := Aside0.mk (show gb ≠ g0 ∧ g3 ≠ gb ∧ g4 ≠ gb ∧ g7 ≠ gb ∧ g8 ≠ gb ∧ w.heap.size ≤ gb ∧ gb < lo2 by have := HG.out; omega)
            clear hq0 hq1 hq2 hq3
            obtain ⟨gi', ci', v6, ok6, hvi, hgi, ⟨hj1, hzj, hj6⟩, hR6, hk6, hI1, hI6⟩ := SI_first hR5 HPB.out
            subst hvi
            have q1 : (0 < bj.f2.length) = True := eq_true HPB.out
            obtain ⟨A6, c6, hv⟩ := Kd.R_slice hR6
            rw [hv] at hj6
            by_cases hp : 0 < (rd_T49 bj.f2 0).f6.length
            rotate_left
            ·skip
             have d1 : decide ((0 : Int) < ((rd_T49 bj.f2 0).f6.length : Int)) = false := decide_eq_false (by omega)
             have d2 : decide (0 < (rd_T49 bj.f2 0).f6.length) = false := decide_eq_false (by omega)
             clear hp hv
             go_wp2
             go_meet
             exact ⟨bj, HB, X3, X4, X7, X8, S1, S2, HR2, HBI⟩
            obtain ⟨ga, ca, hva, hga, hw1, hw2, hwr⟩ := R_first hR6 hp
            rw [hva] at hv
            injection hv with hvx _ hvy
            subst hvx
            subst hvy
            subst hva
            have d1 : decide ((0 : Int) < ((rd_T49 bj.f2 0).f6.length : Int)) = true := decide_eq_true (by omega)
            have d2 : decide (0 < (rd_T49 bj.f2 0).f6.length) = true := decide_eq_true (by omega)
            have q2 : (0 < (rd_T49 bj.f2 0).f6.length) = True := eq_true hp
            have HQI := Aside0.mk (show ga ≠ g0 ∧ g3 ≠ ga ∧ g4 ≠ ga ∧ g7 ≠ ga ∧ g8 ≠ ga ∧ w.heap.size ≤ ga ∧ ga < lo2 by have := HG.out; have := hk5 ga (hk6 ga hga).1; omega)
            have HSI := Aside0.mk (hC5 ⟨ga, 0, none⟩ (.int .i64 (wrap64 (rd (rd_T49 bj.f2 0).f6 0 + 1))) _ (hk6 ga hga).1 (hI6 ⟨ga, 0, none⟩ (.int .i64 (wrap64 (rd (rd_T49 bj.f2 0).f6 0 + 1))) _ hga (hwr (wrap64 (rd (rd_T49 bj.f2 0).f6 0 + 1)))))
            have HBJ := Aside0.mk (BkB.i6 (u := wrap64 (rd (rd_T49 bj.f2 0).f6 0 + 1)) HBI.out HPB.out)
            go_wp2
            go_meet
            exact ⟨_, ⟨below_set HB.out HQI.out.2.2.2.2.2.1⟩, ⟨blk_far X3.out (p := ⟨ga, _, none⟩) HQI.out.2.1 _⟩, ⟨blk_far X4.out (p := ⟨ga, _, none⟩) HQI.out.2.2.1 _⟩, ⟨blk_far X7.out (p := ⟨ga, _, none⟩) HQI.out.2.2.2.1 _⟩, ⟨blk_far X8.out (p := ⟨ga, _, none⟩) HQI.out.2.2.2.2.1 _⟩, HSI, ⟨Kd.S_far (p := ⟨ga, _, none⟩) S2.out (fun k hk => show k ≠ ga by have := HQI.out; omega) _⟩, ⟨(cell_other (q := ⟨g0, x.toNat * 3 + 2, none⟩) (p := ⟨ga, _, none⟩) (Ne.symm HQI.out.1)).trans HR2.out⟩, HBJ⟩
         case rest =>
          clear HBK HBB HB X3 X4 X7 X8 S1 S2 HR2
          obtain ⟨bk', HB, X3, X4, X7, X8, S1, S2, HR2, HBK⟩ := hcut
          obtain ⟨gb', c2', v4, v5, ok4, ok5, hr2, ⟨hq0, hq1, hq2, hq3⟩, ⟨hv4, hv5, hv11, hz11⟩, hR4, hR5, hk4, hk5, hC4, hC5⟩ := SM_rowsP S1.out HX.out.1 HX.out.2 HY.out.1 HY.out.2
          have e_ := HR2.out.symm.trans hr2
          simp only [Option.some.injEq, Value.slice.injEq, Addr.mk.injEq, and_true, true_and] at e_
          obtain ⟨e1_, e2_⟩ := e_
          subst e1_
          subst e2_
          clear hr2
          have HQ := Aside0.mk (show gb ≠ g0 ∧ g3 ≠ gb ∧ g4 ≠ gb ∧ g7 ≠ gb ∧ g8 ≠ gb ∧ w.heap.size ≤ gb ∧ gb < lo2 by have := HG.out; omega)
          clear hq0 hq1 hq2 hq3
          obtain ⟨A5, c5, hv⟩ := Kd.R_slice hR4
          rw [hv] at hv4
          go_upto_region 19 with (fail)
          go_cut [123] (fun vv wd => ∃ bb : Bool, vv = .bool bb ∧ Aside0 (bb = decide (0 < bk'.f1.f1.length)) ∧ Aside0 (Below w.heap.size w wd) ∧ Aside0 (wd.heap[g3]? = some (.cells #[.slice A0 a.length c0] 24 (0, 0))) ∧ Aside0 (wd.heap[g4]? = some (.cells #[.slice B0 b.length e0] 24 (0, 0))) ∧ Aside0 (wd.heap[g7]? = some (.cells #[.slice (some ⟨g0, 0, none⟩) a.length k1] 24 (0, 0))) ∧ Aside0 (wd.heap[g8]? = some (.cells #[.slice D2 a.length k2] 24 (0, 0))) ∧ Aside0 (Kd.S sF 27 wd lo1 (fun k => lo1 ≤ k ∧ k < hi1) (.slice (some ⟨g0, 0, none⟩) a.length k1) (putB a x y bk')) ∧ Aside0 (Kd.S sF 27 wd lo2 (fun k => lo2 ≤ k) (.slice D2 a.length k2) a) ∧ Aside0 (wd.cell? ⟨g0, x.toNat * 3 + 2, none⟩ = some (.slice (some ⟨gb, 0, none⟩) (rd_T27 a x).f2.length c2)))
          case first =>
           go_wp2
           go_meet
           exact ⟨_, rfl, ⟨by first | rfl | (simp; done)⟩, HB, X3, X4, X7, X8, S1, S2, HR2⟩
          case rest =>
           clear hv hv4 hv5 hv11 hz11 hR4 hR5 hk4 hk5 hC4 hC5 HQ
           clear HB X3 X4 X7 X8 S1 S2 HR2
           obtain ⟨bb, rfl, HBB, HB, X3, X4, X7, X8, S1, S2, HR2⟩ := hcut
           go_upto_if 123 with (fail)
           go_cut [] (fun wd => ∃ bk : S41, Aside0 (Below w.heap.size w wd) ∧ Aside0 (wd.heap[g3]? = some (.cells #[.slice A0 a.length c0] 24 (0, 0))) ∧ Aside0 (wd.heap[g4]? = some (.cells #[.slice B0 b.length e0] 24 (0, 0))) ∧ Aside0 (wd.heap[g7]? = some (.cells #[.slice (some ⟨g0, 0, none⟩) a.length k1] 24 (0, 0))) ∧ Aside0 (wd.heap[g8]? = some (.cells #[.slice D2 a.length k2] 24 (0, 0))) ∧ Aside0 (Kd.S sF 27 wd lo1 (fun k => lo1 ≤ k ∧ k < hi1) (.slice (some ⟨g0, 0, none⟩) a.length k1) (putB a x y bk)) ∧ Aside0 (Kd.S sF 27 wd lo2 (fun k => lo2 ≤ k) (.slice D2 a.length k2) a) ∧ Aside0 (wd.cell? ⟨g0, x.toNat * 3 + 2, none⟩ = some (.slice (some ⟨gb, 0, none⟩) (rd_T27 a x).f2.length c2)) ∧ Aside0 (BkB tv bk))
           case first =>
            cases bb with
            | false =>
             go_wp2
             go_meet
             exact ⟨bk', HB, X3, X4, X7, X8, S1, S2, HR2, HBK⟩
            | true =>
             obtain ⟨gb', c2', v4, v5, ok4, ok5, hr2, ⟨hq0, hq1, hq2, hq3⟩, ⟨hv4, hv5, hv11, hz11⟩, hR4, hR5, hk4, hk5, hC4, hC5⟩ := SM_rowsP S1.out HX.out.1 HX.out.2 HY.out.1 HY.out.2
             have e_ := HR2.out.symm.trans hr2
             simp only [Option.some.injEq, Value.slice.injEq, Addr.mk.injEq, and_true, true_and] at e_
             obtain ⟨e1_, e2_⟩ := e_
             subst e1_
             subst e2_
             clear hr2
             have HQ := Aside0.mk (show gb ≠ g0 ∧ g3 ≠ gb ∧ g4 ≠ gb ∧ g7 ≠ gb ∧ g8 ≠ gb ∧ w.heap.size ≤ gb ∧ gb < lo2 by have := HG.out; omega)
             clear hq0 hq1 hq2 hq3
             have hp : 0 < bk'.f1.f1.length := of_decide_eq_true HBB.out.symm
             obtain ⟨gc, cc, hva, hgc, hw1, hw2, hwr⟩ := R_first hR4 hp
             subst hva
             have q2 : (0 < bk'.f1.f1.length) = True := eq_true hp
             have HQI := Aside0.mk (show gc ≠ g0 ∧ g3 ≠ gc ∧ g4 ≠ gc ∧ g7 ≠ gc ∧ g8 ≠ gc ∧ w.heap.size ≤ gc ∧ gc < lo2 by have := HG.out; have := hk4 gc hgc; omega)
             have HSI := Aside0.mk (hC4 ⟨gc, 0, none⟩ (.int .u16 (IntKind.u16.wrap (rd bk'.f1.f1 0 + 1))) _ hgc (hwr (IntKind.u16.wrap (rd bk'.f1.f1 0 + 1))))
             have HBJ := Aside0.mk (BkB.c0 (u := (IntKind.u16.wrap (rd bk'.f1.f1 0 + 1))) HBK.out)
             go_wp2
             go_meet
             exact ⟨_, ⟨below_set HB.out HQI.out.2.2.2.2.2.1⟩, ⟨blk_far X3.out (p := ⟨gc, _, none⟩) HQI.out.2.1 _⟩, ⟨blk_far X4.out (p := ⟨gc, _, none⟩) HQI.out.2.2.1 _⟩, ⟨blk_far X7.out (p := ⟨gc, _, none⟩) HQI.out.2.2.2.1 _⟩, ⟨blk_far X8.out (p := ⟨gc, _, none⟩) HQI.out.2.2.2.2.1 _⟩, HSI, ⟨Kd.S_far (p := ⟨gc, _, none⟩) S2.out (fun k hk => show k ≠ gc by have := HQI.out; omega) _⟩, ⟨(cell_other (q := ⟨g0, x.toNat * 3 + 2, none⟩) (p := ⟨gc, _, none⟩) (Ne.symm HQI.out.1)).trans HR2.out⟩, HBJ⟩
           case rest =>
            clear HBK HBB HB X3 X4 X7 X8 S1 S2 HR2
            obtain ⟨bk, HB, X3, X4, X7, X8, S1, S2, HR2, HBK⟩ := hcut
            have HBN := Aside0.mk (bnd_put2 HBND.out HX.out.1 HX.out.2 (y := y) HBK.out.ni HBK.out.nc HBK.out.ne HBK.out.na)
            have HNE := Aside0.mk (putB_differs HX.out.1 HX.out.2 HY.out.1 HY.out.2 (b := bk) (by rw [HBK.out.tov, HBX.out]; exact HNQ.out))
            have HC1 := Aside0.mk (show Kd.C k27 wc (some ⟨g0, 0, none⟩) a.length (putB a x y bk) from by have h_ := (Kd.S_reads' (d := sF) S1.out).2.2; rw [putB_len] at h_; exact h_)
            have HC2 := Aside0.mk (show Kd.C k27 wc D2 a.length a from (Kd.S_reads' (d := sF) S2.out).2.2)
            have m0 := (blk_cell X3.out 0).trans rfl
            have zm0 := blk_frozen X3.out 0
            have p0 := (blk_cell X7.out 0).trans rfl
            have zp0 := blk_frozen X7.out 0
            have r0 := (blk_cell X8.out 0).trans rfl
            have zr0 := blk_frozen X8.out 0
            go_wp2_with (first | (go_at_call 25; go_loud ((with_reducible refine (ss_c_no HBN.out HNE.out _ _ A0 c0 _ HC1.out (Kd.C_below HA.out HB.out)).mono ?_); rintro e w8 ⟨rfl, hb⟩; clear m0 zm0 p0 zp0 r0 zr0; replace HB := Aside0.mk (below_step HB.out hb); replace X3 := Aside0.mk (blk_below X3.out hb); replace X7 := Aside0.mk (blk_below X7.out hb); replace X8 := Aside0.mk (blk_below X8.out hb); replace HC1 := Aside0.mk (Kd.C_below HC1.out hb); replace HC2 := Aside0.mk (Kd.C_below HC2.out hb); clear hb; have m0 := (blk_cell X3.out 0).trans rfl; have zm0 := blk_frozen X3.out 0; have p0 := (blk_cell X7.out 0).trans rfl; have zp0 := blk_frozen X7.out 0; have r0 := (blk_cell X8.out 0).trans rfl; have zr0 := blk_frozen X8.out 0)) | (go_at_call 26; (first | ((with_reducible refine (rs_c a D2 k2 A0 c0 _ HC2.out (Kd.C_below HA.out HB.out) HBND.out).mono ?_); rintro e w8 ⟨rfl, hb⟩; clear m0 zm0 p0 zp0 r0 zr0; replace HB := Aside0.mk (below_step HB.out hb); replace X3 := Aside0.mk (blk_below X3.out hb); replace X7 := Aside0.mk (blk_below X7.out hb); replace X8 := Aside0.mk (blk_below X8.out hb); replace HC1 := Aside0.mk (Kd.C_below HC1.out hb); replace HC2 := Aside0.mk (Kd.C_below HC2.out hb); clear hb; have m0 := (blk_cell X3.out 0).trans rfl; have zm0 := blk_frozen X3.out 0; have p0 := (blk_cell X7.out 0).trans rfl; have zp0 := blk_frozen X7.out 0; have r0 := (blk_cell X8.out 0).trans rfl; have zr0 := blk_frozen X8.out 0) | ((with_reducible refine (rs_c_no HBN.out HNE.out _ _ A0 c0 _ HC1.out (Kd.C_below HA.out HB.out)).mono ?_); rintro e w8 ⟨rfl, hb⟩; clear m0 zm0 p0 zp0 r0 zr0; replace HB := Aside0.mk (below_step HB.out hb); replace X3 := Aside0.mk (blk_below X3.out hb); replace X7 := Aside0.mk (blk_below X7.out hb); replace X8 := Aside0.mk (blk_below X8.out hb); replace HC1 := Aside0.mk (Kd.C_below HC1.out hb); replace HC2 := Aside0.mk (Kd.C_below HC2.out hb); clear hb; have m0 := (blk_cell X3.out 0).trans rfl; have zm0 := blk_frozen X3.out 0; have p0 := (blk_cell X7.out 0).trans rfl; have zp0 := blk_frozen X7.out 0; have r0 := (blk_cell X8.out 0).trans rfl; have zr0 := blk_frozen X8.out 0))))
            go_ret
            exact ⟨rfl, HB.out⟩
end Go.Proofs.Ytbfialebaoeicaa.X
