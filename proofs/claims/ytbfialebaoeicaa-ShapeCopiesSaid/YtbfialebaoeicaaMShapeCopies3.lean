/- Part 4 of the proof of the statement ShapeCopies: the words of the walks, the walks through the functions that it reaches, and the plain laws of what they compute. -/
import Derived.Test.YtbfialebaoeicaaMShapeCopies2
import Derived.RegionTactic
import Derived.ChangeAlike
import Derived.Deep.QuietTactic
import Derived.BigQuiet
namespace Go.Proofs.Ytbfialebaoeicaa.X
open Go.RowKit Go.Proofs.YtbfialebaoeicaaW.PrintWords Go.Proofs.YtbfialebaoeicaaW.PrintLast Go.Proofs.YtbfialebaoeicaaW.PrintMore
set_option linter.all false
structure BC (m : List S27) : Prop where
 nf : m.length ≤ 1000
 nb : ∀ f ∈ m, f.f2.length ≤ 1000
 ni : ∀ f ∈ m, ∀ b ∈ f.f2, b.f2.length ≤ 1000
 nc : ∀ f ∈ m, ∀ b ∈ f.f2, b.f1.f1.length ≤ 1000
 ne : ∀ f ∈ m, ∀ b ∈ f.f2, b.f3.f4.length ≤ 1000
 na : ∀ f ∈ m, ∀ b ∈ f.f2, ∀ x ∈ b.f2, x.f6.length ≤ 1000
theorem PL_cF {w0 w : World} {base bE N : Nat} {v : Value} {xs : List S27} {i i' : Nat} {inner : List Value} (h : PL sF 27 w0 w base bE N v xs i i' inner) {g n c p : Nat} {u : Value} (hv : v = .slice (some ⟨g, 0, none⟩) n c) (o : Nat) (ho : o < 3) {cs : List Value} (hs : seg inner sF.sz p = cs) (hu : cs[o]? = some u) : w.cell? ⟨g, p * 3 + o, none⟩ = some u ∧ w.frozen? ⟨g, p * 3 + o, none⟩ = false := PL_seg h hv o ho hs hu
theorem PL_cB {w0 w : World} {base bE N : Nat} {v : Value} {xs : List S41} {i i' : Nat} {inner : List Value} (h : PL sB 41 w0 w base bE N v xs i i' inner) {g n c p : Nat} {u : Value} (hv : v = .slice (some ⟨g, 0, none⟩) n c) (o : Nat) (ho : o < 14) {cs : List Value} (hs : seg inner sB.sz p = cs) (hu : cs[o]? = some u) : w.cell? ⟨g, p * 14 + o, none⟩ = some u ∧ w.frozen? ⟨g, p * 14 + o, none⟩ = false := PL_seg h hv o ho hs hu
theorem PL_cI {w0 w : World} {base bE N : Nat} {v : Value} {xs : List S49} {i i' : Nat} {inner : List Value} (h : PL k49 49 w0 w base bE N v xs i i' inner) {g n c p : Nat} {u : Value} (hv : v = .slice (some ⟨g, 0, none⟩) n c) (o : Nat) (ho : o < 7) {cs : List Value} (hs : seg inner k49.sz p = cs) (hu : cs[o]? = some u) : w.cell? ⟨g, p * 7 + o, none⟩ = some u ∧ w.frozen? ⟨g, p * 7 + o, none⟩ = false := PL_seg h hv o ho hs hu
theorem e_int {k : IntKind} {e t : Nat} (h : e ≠ t) : ∀ q, q ∈ e :: (Kd.int k).E → q ≠ t := by
 intro q hq
 rcases List.mem_cons.1 hq with rfl | hq
 ·exact h
 ·simp [Kd.int, Kd.scalar] at hq
theorem rd_some {α : Type} (l : List α) (z : α) (x : Int) (h0 : 0 ≤ x) (h1 : x < (l.length : Int)) : l[x.toNat]? = some (l.getD x.toNat z) := by
 have hl : x.toNat < l.length := by omega
 rw [List.getD_eq_getElem?_getD, List.getElem?_eq_getElem hl]
 rfl
set_option maxHeartbeats 16000000 in
set_option maxRecDepth 100000 in
theorem copy_c (m : List S27) (A0 : Option Addr) (c0 : Nat) (w : World) (hm : Kd.C k27 w A0 m.length m) (hc : m.length ≤ c0) (hb : BC m) :
  Calls Try.prog 24 #[.agg #[.slice A0 m.length c0]] w fun e w' => (∃ v, e = .returned (.agg #[v]) ∧ SM w' w.heap.size (fun _ => True) v m) ∧ Below w.heap.size w w' := by
 have HM := Aside0.mk hm
 have HC := Aside0.mk hc
 have HN := Aside0.mk hb
 clear hm hc hb
 have hu24 := Try.underlying24
 have hu27 := Try.underlying27
 have hu41 := Try.underlying41
 have hu49 := Try.underlying49
 have hu35 := Try.underlying35
 have hu39 := Try.underlying39
 go_enter Try.func24, Try.ntmps24
 go_upto_region 1 with (first | ((with_reducible refine gate_dst (N := 1) rfl ?_); refine box_event ?hg (N := 1) ?hd (cs := #[.slice A0 m.length c0]) (t := 24) ?hr ?_; (case hd => rfl); (case hg => rfl); (case hr => first | (go_simp; done) | (go_simp; rfl)); intro g1 hg w1 hbox hb; have HLX1 := Aside0.mk (show w.heap.size ≤ g1 by rw [hg]; exact Nat.le_refl _); have HB := Aside0.mk hb; have X1 := Aside0.mk hbox; clear hbox hb hg; have m0 := (blk_cell X1.out 0).trans rfl; have zm0 := blk_frozen X1.out 0) | ((with_reducible refine gate_dst (N := 2) rfl ?_); refine box_event ?hg (N := 2) ?hd (cs := #[.slice none 0 0]) (t := 24) ?hr ?_; (case hd => rfl); (case hg => rfl); (case hr => first | (go_simp; done) | (go_simp; rfl)); intro g2 hg w2 hbox hb; have HLX2 := Aside0.mk (show w.heap.size ≤ g2 by rw [hg]; exact HB.out.size); have HNE := Aside0.mk (show g2 ≠ g1 by rw [hg]; exact Nat.ne_of_gt (blk_lt X1.out)); replace HB := Aside0.mk (below_step HB.out hb); replace X1 := Aside0.mk (blk_below X1.out hb); have X2 := Aside0.mk hbox; clear hbox hb hg; have n0 := (blk_cell X2.out 0).trans rfl; have zn0 := blk_frozen X2.out 0; have m0 := (blk_cell X1.out 0).trans rfl; have zm0 := blk_frozen X1.out 0))
 try simp only [Act.put, sA_, sZ_, sS_]
 go_cut [] (fun wc => ∃ (A : Option Addr) (c B0 : Nat) (inner : List Value), Aside0 (w.heap.size ≤ B0 ∧ g1 < B0 ∧ g2 < B0 ∧ m.length ≤ c) ∧ Aside0 (Below w.heap.size w wc) ∧ Aside0 (wc.heap[g1]? = some (.cells #[.slice A m.length c] 24 (0, 0))) ∧ Aside0 (wc.heap[g2]? = some (.cells #[.slice none 0 0] 24 (0, 0))) ∧ Aside0 (PL sF 27 w wc B0 B0 wc.heap.size (.slice A m.length c) m 0 0 inner))
 case first =>
  have HG1 := Aside0.mk (blk_lt X1.out)
  have HG2 := Aside0.mk (blk_lt X2.out)
  go_wp2_with (go_at_call 59; go_loud ((with_reducible refine (cl_F w A0 c0 m _ HM.out HB.out HC.out (by have := HN.out.nf; omega)).mono ?_); rintro e w6 ⟨⟨A, c, inner, rfl, hlc, hp⟩, hb⟩; have HP := Aside0.mk hp; have HLC := Aside0.mk hlc; have OB := HB; have O1 := X1; have O2 := X2; replace HB := Aside0.mk (below_step HB.out hb); replace X1 := Aside0.mk (blk_below X1.out hb); replace X2 := Aside0.mk (blk_below X2.out hb); clear hp hlc hb m0 zm0 n0 zn0; have m0 := (blk_cell X1.out 0).trans rfl; have zm0 := blk_frozen X1.out 0))
  go_meet
  exact ⟨A, c, _, inner, ⟨OB.out.size, blk_lt O1.out, blk_lt O2.out, HLC.out⟩, ⟨below_set HB.out HLX1.out⟩, ⟨set_blk 0 _ X1.out rfl⟩, ⟨blk_far X2.out (p := ⟨g1, 0, none⟩) HNE.out _⟩, ⟨PL_up (PL_elder HP.out (blk_lt O1.out) _) (Nat.le_of_eq (size_set _ _ _).symm)⟩⟩
 case rest =>
  clear m0 zm0 n0 zn0
  clear HB X1 X2
  obtain ⟨A, c, B0, inner, HG, HB, X1, X2, HP⟩ := hcut
  have m0 := (blk_cell X1.out 0).trans rfl
  have zm0 := blk_frozen X1.out 0
  have n0 := (blk_cell X2.out 0).trans rfl
  have zn0 := blk_frozen X2.out 0
  go_wp2
  clear m0 zm0 n0 zn0
  go_loopg [15] 1000000 (fun gg s wr => ∃ (x : Int) (inner : List Value), s = .int .i64 x ∧ Aside0 (0 ≤ x ∧ x ≤ m.length ∧ (m.length : Int) - x ≤ gg) ∧ Aside0 (Below w.heap.size w wr) ∧ Aside0 (wr.heap[g1]? = some (.cells #[.slice A m.length c] 24 (0, 0))) ∧ Aside0 (wr.heap[g2]? = some (.cells #[.slice none 0 0] 24 (0, 0))) ∧ Aside0 (PL sF 27 w wr B0 B0 wr.heap.size (.slice A m.length c) m x.toNat x.toNat inner))
  case atStart => exact ⟨0, inner, rfl, ⟨by have := HN.out.nf; omega⟩, HB, X1, X2, HP⟩
  case round =>
   clear HB X1 X2 HP
   obtain ⟨x, inner, rfl, HX, HB, X1, X2, HP⟩ := hrel
   have m0 := (blk_cell X1.out 0).trans rfl
   have zm0 := blk_frozen X1.out 0
   have n0 := (blk_cell X2.out 0).trans rfl
   have zn0 := blk_frozen X2.out 0
   by_cases hlt : x < (m.length : Int)
   rotate_left
   ·have hd : decide (x < (m.length : Int)) = false := decide_eq_false hlt
    have HLT := Aside0.mk hlt
    clear hlt
    go_wp2
    refine bodyPost_ret (results_cell_row rfl _ _ g2 24 #[.slice A m.length c] (0, 0) _ rfl (set_blk 0 _ X2.out rfl) Try.underlying24 rfl (by kernel_rfl)) rfl ?_
    exact ⟨⟨_, rfl, Kd.S_mono (Kd.S_lower (PL_all (PL_elder HP.out HG.out.2.2.1 _) (by have := HLT.out; have := HX.out; omega)) HG.out.1) (fun _ _ => trivial)⟩, below_set HB.out HLX2.out⟩
   have hd : decide (x < (m.length : Int)) = true := decide_eq_true hlt
   have HLT := Aside0.mk hlt
   clear hlt
   have p1 : (0 ≤ x) = True := eq_true HX.out.1
   have p2 : (x < (m.length : Int)) = True := eq_true HLT.out
   obtain ⟨g0, c', e1, hg0, hg1⟩ := PL_form HP.out (by have := HLT.out; have := HX.out; omega)
   injection e1 with e1 _ e2
   subst e1
   subst e2
   have HG0 := Aside0.mk (And.intro hg0 hg1)
   clear hg0 hg1
   have HMB := Aside0.mk (rd_mem' m z27 x HX.out.1 HLT.out)
   have HSM := Aside0.mk (rd_some m z27 x HX.out.1 HLT.out)
   have hrd : m.getD x.toNat z27 = rd_T27 m x := rfl
   rw [hrd] at HMB HSM
   clear hrd
   generalize rd_T27 m x = f at HMB HSM
   obtain ⟨hK, hP⟩ := PL_open HP.out HSM.out
   obtain ⟨A1, c1, hcs, hl1, hC1⟩ := k27_open hK
   have HQ := Aside0.mk hP
   have HC1 := Aside0.mk hC1
   have HL1 := Aside0.mk hl1
   have HCS := Aside0.mk hcs
   clear hK hP hC1 hl1 hcs HP
   have y2 := (PL_cF HQ.out rfl 2 (by decide) HCS.out rfl).1
   have zy2 := (PL_cF HQ.out rfl 2 (by decide) HCS.out rfl).2
   have HB1 := Aside0.mk (show B0 ≤ wr.heap.size from Nat.le_trans HG0.out.1 (Nat.le_of_lt HG0.out.2))
   go_upto_region 6 with (fail)
   go_cut [15] from 15 to 98 (fun v15 wc => ∃ (A2 : Option Addr) (c2 B1 : Nat) (inner innerB : List Value), v15 = .int .i64 x ∧ Aside0 (f.f2.length ≤ c2 ∧ B1 = wr.heap.size ∧ B1 ≤ wc.heap.size) ∧ Aside0 (Below w.heap.size w wc) ∧ Aside0 (wc.heap[g1]? = some (.cells #[.slice (some ⟨g0, 0, none⟩) m.length c] 24 (0, 0))) ∧ Aside0 (wc.heap[g2]? = some (.cells #[.slice none 0 0] 24 (0, 0))) ∧ Aside0 (PL sF 27 w wc B0 B0 B1 (.slice (some ⟨g0, 0, none⟩) m.length c) m x.toNat (x.toNat + 1) inner) ∧ Aside0 (seg inner sF.sz x.toNat = [.int .i64 f.f0, .int .i64 f.f1, .slice A2 f.f2.length c2]) ∧ Aside0 (PL sB 41 w wc B1 B1 wc.heap.size (.slice A2 f.f2.length c2) f.f2 0 0 innerB))
   case first =>
    go_wp2_with (go_at_call 60; go_loud ((with_reducible refine (cl_B w A1 c1 f.f2 _ HC1.out HB.out HL1.out (by have := HN.out.nb f HMB.out; omega)).mono ?_); rintro e w6 ⟨⟨A2, c2, innerB, rfl, hlc, hp⟩, hb⟩; have HPB := Aside0.mk hp; have HLC := Aside0.mk hlc; have HSZ := Aside0.mk hb.size; replace HB := Aside0.mk (below_step HB.out hb); replace X1 := Aside0.mk (blk_below X1.out hb); replace X2 := Aside0.mk (blk_below X2.out hb); replace HQ := Aside0.mk (PL_below HQ.out hb); clear hp hlc hb y2 zy2 m0 zm0 n0 zn0; have m0 := (blk_cell X1.out 0).trans rfl; have zm0 := blk_frozen X1.out 0; have n0 := (blk_cell X2.out 0).trans rfl; have zn0 := blk_frozen X2.out 0; have y2 := (PL_cF HQ.out rfl 2 (by decide) HCS.out rfl).1; have zy2 := (PL_cF HQ.out rfl 2 (by decide) HCS.out rfl).2))
    go_meet
    exact ⟨A2, c2, _, _, innerB, rfl, ⟨HLC.out, rfl, Nat.le_trans HSZ.out (Nat.le_of_eq (size_set _ _ _).symm)⟩, ⟨below_set HB.out (Nat.le_trans HG.out.1 HG0.out.1)⟩, ⟨blk_far X1.out (p := ⟨g0, _, none⟩) (Nat.ne_of_lt (Nat.lt_of_lt_of_le HG.out.2.1 HG0.out.1)) _⟩, ⟨blk_far X2.out (p := ⟨g0, _, none⟩) (Nat.ne_of_lt (Nat.lt_of_lt_of_le HG.out.2.2.1 HG0.out.1)) _⟩, ⟨PL_set HQ.out 2 (by decide) _⟩, ⟨by rw [seg_set_eq _ _ (by decide), HCS.out]; rfl⟩, ⟨PL_up (PL_elder HPB.out HG0.out.2 _) (Nat.le_of_eq (size_set _ _ _).symm)⟩⟩
   case rest =>
    clear m0 zm0 n0 zn0
    clear y2 zy2
    clear HB X1 X2 HQ HCS p1 p2 hd
    obtain ⟨A2, c2, B1, innerF, innerB, rfl, HS2, HB, X1, X2, HQ, HCS, HPB⟩ := hcut
    have HB1' := Aside0.mk (show B0 ≤ B1 by rw [HS2.out.2.1]; exact HB1.out)
    have m0 := (blk_cell X1.out 0).trans rfl
    have zm0 := blk_frozen X1.out 0
    have n0 := (blk_cell X2.out 0).trans rfl
    have zn0 := blk_frozen X2.out 0
    have y2 := (PL_cF HQ.out rfl 2 (by decide) HCS.out rfl).1
    have zy2 := (PL_cF HQ.out rfl 2 (by decide) HCS.out rfl).2
    go_wp2
    clear m0 zm0 n0 zn0
    clear y2 zy2
    go_loopg [35] 1000000 (fun gg s wr => ∃ (y : Int) (innerB : List Value), s = .int .i64 y ∧ Aside0 (0 ≤ y ∧ y ≤ f.f2.length ∧ (f.f2.length : Int) - y ≤ gg) ∧ Aside0 (Below w.heap.size w wr) ∧ Aside0 (wr.heap[g1]? = some (.cells #[.slice (some ⟨g0, 0, none⟩) m.length c] 24 (0, 0))) ∧ Aside0 (wr.heap[g2]? = some (.cells #[.slice none 0 0] 24 (0, 0))) ∧ Aside0 (PL sF 27 w wr B0 B0 B1 (.slice (some ⟨g0, 0, none⟩) m.length c) m x.toNat (x.toNat + 1) innerF) ∧ Aside0 (PL sB 41 w wr B1 B1 wr.heap.size (.slice A2 f.f2.length c2) f.f2 y.toNat y.toNat innerB) ∧ Aside0 (B1 ≤ wr.heap.size))
    case atStart => exact ⟨0, innerB, rfl, ⟨by have := HN.out.nb f HMB.out; omega⟩, HB, X1, X2, HQ, HPB, ⟨HS2.out.2.2⟩⟩
    case round =>
     clear HB X1 X2 HQ HPB
     obtain ⟨y, innerB, rfl, HY, HB, X1, X2, HQ, HPB, HZ⟩ := hrel
     have m0 := (blk_cell X1.out 0).trans rfl
     have zm0 := blk_frozen X1.out 0
     have n0 := (blk_cell X2.out 0).trans rfl
     have zn0 := blk_frozen X2.out 0
     have y2 := (PL_cF HQ.out rfl 2 (by decide) HCS.out rfl).1
     have zy2 := (PL_cF HQ.out rfl 2 (by decide) HCS.out rfl).2
     by_cases hlt : y < (f.f2.length : Int)
     rotate_left
     ·have hd : decide (y < (f.f2.length : Int)) = false := decide_eq_false hlt
      have HLY := Aside0.mk hlt
      clear hlt
      have HNX := Aside0.mk (PL_next HQ.out HSM.out HZ.out (by rw [HCS.out]; exact ⟨_, rfl, Kd.S_mono (Kd.S_lower (Kd.S_bound (PL_all HPB.out (by have := HLY.out; have := HY.out; omega))) HB1'.out) (fun k hk => hk.2.1)⟩))
      go_wp2
      have W1 := Aside0.mk (show wrap64 (x + 1) = x + 1 from wrap_in _ (by have := HX.out; omega) (by have := HLT.out; have := HN.out.nf; omega))
      have T1 := Aside0.mk (show (x + 1).toNat = x.toNat + 1 by have := HX.out; omega)
      go_roundg ((m.length : Int) - (x + 1)).toNat
      case measure => have h1_ := HX.out; have h2_ := HLT.out; omega
      case rel => exact ⟨x + 1, _, by first | (rw [W1.out]; done) | rfl | (simp only [W1.out]; done), ⟨by have := HX.out; have := HLT.out; omega⟩, HB, X1, X2, ⟨by rw [T1.out]; exact HNX.out⟩⟩
     have hd : decide (y < (f.f2.length : Int)) = true := decide_eq_true hlt
     have HLY := Aside0.mk hlt
     clear hlt
     have p1 : (0 ≤ y) = True := eq_true HY.out.1
     have p2 : (y < (f.f2.length : Int)) = True := eq_true HLY.out
     obtain ⟨gb, c2', e1, hg0, hg1⟩ := PL_form HPB.out (by have := HLY.out; have := HY.out; omega)
     injection e1 with e1 _ e2
     subst e1
     subst e2
     have HGB := Aside0.mk (And.intro hg0 hg1)
     clear hg0 hg1
     have HMC := Aside0.mk (rd_mem' f.f2 z41 y HY.out.1 HLY.out)
     have HSB := Aside0.mk (rd_some f.f2 z41 y HY.out.1 HLY.out)
     have hrd : f.f2.getD y.toNat z41 = rd_T41 f.f2 y := rfl
     rw [hrd] at HMC HSB
     clear hrd
     generalize rd_T41 f.f2 y = b at HMC HSB
     obtain ⟨hK, hP⟩ := PL_open HPB.out HSB.out
     obtain ⟨A4, c4, A5, c5, A6, c6, hcs, hl4, hC4, hl5, hC5, hl6, hC6⟩ := k41_open hK
     have HPC := Aside0.mk hP
     have C4 := Aside0.mk hC4
     have C5 := Aside0.mk hC5
     have C6 := Aside0.mk hC6
     have HL := Aside0.mk (And.intro hl4 (And.intro hl5 hl6))
     have HCB := Aside0.mk hcs
     clear hK hP hC4 hC5 hC6 hl4 hl5 hl6 hcs HPB
     have x2 := (PL_cB HPC.out rfl 2 (by decide) HCB.out rfl).1
     have zx2 := (PL_cB HPC.out rfl 2 (by decide) HCB.out rfl).2
     have x5 := (PL_cB HPC.out rfl 5 (by decide) HCB.out rfl).1
     have zx5 := (PL_cB HPC.out rfl 5 (by decide) HCB.out rfl).2
     have x10 := (PL_cB HPC.out rfl 10 (by decide) HCB.out rfl).1
     have zx10 := (PL_cB HPC.out rfl 10 (by decide) HCB.out rfl).2
     go_upto_region 11 with (fail)
     go_cut [35] from 35 to 97 (fun v35 wc => ∃ (D4 : Option Addr) (k4 : Nat) (D5 : Option Addr) (k5 : Nat) (D6 : Option Addr) (k6 B2 N1 N2 N3 : Nat) (innerB innerI : List Value), v35 = .int .i64 y ∧ Aside0 (B2 = wr.heap.size ∧ B2 ≤ N1 ∧ N1 ≤ N2 ∧ N2 ≤ N3 ∧ N3 ≤ wc.heap.size ∧ b.f2.length ≤ k5) ∧ Aside0 (∀ k, Value.ownBlock (.slice D5 b.f2.length k5) = some k → N1 ≤ k ∧ k < N2) ∧ Aside0 (Below w.heap.size w wc) ∧ Aside0 (wc.heap[g1]? = some (.cells #[.slice (some ⟨g0, 0, none⟩) m.length c] 24 (0, 0))) ∧ Aside0 (wc.heap[g2]? = some (.cells #[.slice none 0 0] 24 (0, 0))) ∧ Aside0 (PL sF 27 w wc B0 B0 B1 (.slice (some ⟨g0, 0, none⟩) m.length c) m x.toNat (x.toNat + 1) innerF) ∧ Aside0 (PL sB 41 w wc B1 B1 B2 (.slice (some ⟨gb, 0, none⟩) f.f2.length c2) f.f2 y.toNat (y.toNat + 1) innerB) ∧ Aside0 (seg innerB sB.sz y.toNat = [.bool b.f0, .int .i64 b.f1.f0, .slice D4 b.f1.f1.length k4, .bool b.f1.f2, .bool b.f1.f3, .slice D5 b.f2.length k5, .int .i64 b.f3.f0, .int .i64 b.f3.f1, .int .i64 b.f3.f2, .int .i64 b.f3.f3, .slice D6 b.f3.f4.length k6, .int .i64 b.f3.f5, .int .i64 b.f3.f6, .int .i64 b.f3.f7]) ∧ Aside0 (Kd.R (Kd.int .u16) 44 wc B2 (fun k => k < N1) (.slice D4 b.f1.f1.length k4) b.f1.f1) ∧ Aside0 (Kd.R (Kd.int .i64) 3 wc N2 (fun k => k < N3) (.slice D6 b.f3.f4.length k6) b.f3.f4) ∧ Aside0 (PL k49 49 w wc N1 N3 wc.heap.size (.slice D5 b.f2.length k5) b.f2 0 0 innerI))
     case first =>
      go_wp2
      refine start_ (S := (fun W : World => Below wr.heap.size wr W)) (ds := [23, 26, 30]) #[bF,bF,bF,bF,bF,bF,bF,bF,bF,bF,bF,bF,bF,bF,bF,bF,bF,bF,bF,bF,bF,bF,bF,bF,bF,bF,bF,bF,bF,bF,bF] (by kernel_rfl) (by rfl) (by rfl) (below_drew (Below.refl _ _)) (fun hS => ?_)
      refine pure_ (i := 0) (N := some 44) (v := .pointer (some ⟨gb, y.toNat * 14, none⟩)) (a' := ?axr1) #[bT,bF,bF,bF,bF,bF,bF,bF,bF,bF,bF,bF,bF,bF,bF,bF,bF,bF,bF,bF,bF,bF,bF,bF,bF,bF,bF,bF,bF,bF,bF] rfl rfl (by kernel_rfl) (fun _ _ _ h => h) (Or.inl ⟨by rfl, ?yyr1⟩) ?har1 ?hhr1
      case yyr1 => intro W; go_simp; done
      case har1 => try simp only [Act.put, sA_, sZ_, sS_]; exact rfl
      refine pure_ (i := 1) (N := some 45) (v := .pointer (some ⟨gb, y.toNat * 14, none⟩)) (a' := ?axr2) #[bT,bT,bF,bF,bF,bF,bF,bF,bF,bF,bF,bF,bF,bF,bF,bF,bF,bF,bF,bF,bF,bF,bF,bF,bF,bF,bF,bF,bF,bF,bF] rfl rfl (by kernel_rfl) (fun _ _ _ h => h) (Or.inl ⟨by rfl, ?yyr2⟩) ?har2 ?hhr2
      case yyr2 => intro W; go_simp; done
      case har2 => try simp only [Act.put, sA_, sZ_, sS_]; exact rfl
      refine pure_ (i := 2) (N := some 46) (v := .pointer (some ⟨gb, y.toNat * 14, none⟩)) (a' := ?axr3) #[bT,bT,bT,bF,bF,bF,bF,bF,bF,bF,bF,bF,bF,bF,bF,bF,bF,bF,bF,bF,bF,bF,bF,bF,bF,bF,bF,bF,bF,bF,bF] rfl rfl (by kernel_rfl) (fun _ _ _ h => h) (Or.inl ⟨by rfl, ?yyr3⟩) ?har3 ?hhr3
      case yyr3 => intro W; go_simp; done
      case har3 => try simp only [Act.put, sA_, sZ_, sS_]; exact rfl
      refine pure_ (i := 3) (N := some 47) (v := .pointer (some ⟨gb, y.toNat * 14, none⟩)) (a' := ?axr4) #[bT,bT,bT,bT,bF,bF,bF,bF,bF,bF,bF,bF,bF,bF,bF,bF,bF,bF,bF,bF,bF,bF,bF,bF,bF,bF,bF,bF,bF,bF,bF] rfl rfl (by kernel_rfl) (fun _ _ _ h => h) (Or.inl ⟨by rfl, ?yyr4⟩) ?har4 ?hhr4
      case yyr4 => intro W; go_simp; done
      case har4 => try simp only [Act.put, sA_, sZ_, sS_]; exact rfl
      refine pure_ (i := 4) (N := some 48) (v := .pointer (some ⟨gb, y.toNat * 14, none⟩)) (a' := ?axr5) #[bT,bT,bT,bT,bT,bF,bF,bF,bF,bF,bF,bF,bF,bF,bF,bF,bF,bF,bF,bF,bF,bF,bF,bF,bF,bF,bF,bF,bF,bF,bF] rfl rfl (by kernel_rfl) (fun _ _ _ h => h) (Or.inl ⟨by rfl, ?yyr5⟩) ?har5 ?hhr5
      case yyr5 => intro W; go_simp; done
      case har5 => try simp only [Act.put, sA_, sZ_, sS_]; exact rfl
      refine pure_ (i := 5) (N := some 49) (v := .pointer (some ⟨gb, y.toNat * 14 + 1, none⟩)) (a' := ?axr6) #[bT,bT,bT,bT,bT,bT,bF,bF,bF,bF,bF,bF,bF,bF,bF,bF,bF,bF,bF,bF,bF,bF,bF,bF,bF,bF,bF,bF,bF,bF,bF] rfl rfl (by kernel_rfl) (fun _ _ _ h => h) (Or.inl ⟨by rfl, ?yyr6⟩) ?har6 ?hhr6
      case yyr6 => intro W; go_simp; done
      case har6 => try simp only [Act.put, sA_, sZ_, sS_]; exact rfl
      refine pure_ (i := 6) (N := some 50) (v := .pointer (some ⟨gb, y.toNat * 14 + 2, none⟩)) (a' := ?axr7) #[bT,bT,bT,bT,bT,bT,bT,bF,bF,bF,bF,bF,bF,bF,bF,bF,bF,bF,bF,bF,bF,bF,bF,bF,bF,bF,bF,bF,bF,bF,bF] rfl rfl (by kernel_rfl) (fun _ _ _ h => h) (Or.inl ⟨by rfl, ?yyr7⟩) ?har7 ?hhr7
      case yyr7 => intro W; go_simp; done
      case har7 => try simp only [Act.put, sA_, sZ_, sS_]; exact rfl
      refine take_ (i := 7) (N := some 51) (v := .slice A4 b.f1.f1.length c4) (a' := ?axr8) #[bT,bT,bT,bT,bT,bT,bT,bT,bF,bF,bF,bF,bF,bF,bF,bF,bF,bF,bF,bF,bF,bF,bF,bF,bF,bF,bF,bF,bF,bF,bF] rfl rfl (by kernel_rfl) (fun _ _ _ h => h) (Or.inl ⟨by rfl, ?yyr8⟩) hS ?har8 ?hhr8
      case yyr8 => intro W hW; have q2 := pw_cell_below hW x2; have q5 := pw_cell_below hW x5; have q10 := pw_cell_below hW x10; go_simp; done
      case har8 => try simp only [Act.put, sA_, sZ_, sS_]; exact rfl
      refine pure_ (i := 9) (N := some 53) (v := .pointer (some ⟨gb, y.toNat * 14, none⟩)) (a' := ?axr9) #[bT,bT,bT,bT,bT,bT,bT,bT,bF,bT,bF,bF,bF,bF,bF,bF,bF,bF,bF,bF,bF,bF,bF,bF,bF,bF,bF,bF,bF,bF,bF] rfl rfl (by kernel_rfl) (fun _ _ _ h => h) (Or.inl ⟨by rfl, ?yyr9⟩) ?har9 ?hhr9
      case yyr9 => intro W; go_simp; done
      case har9 => try simp only [Act.put, sA_, sZ_, sS_]; exact rfl
      refine pure_ (i := 10) (N := some 54) (v := .pointer (some ⟨gb, y.toNat * 14, none⟩)) (a' := ?axr10) #[bT,bT,bT,bT,bT,bT,bT,bT,bF,bT,bT,bF,bF,bF,bF,bF,bF,bF,bF,bF,bF,bF,bF,bF,bF,bF,bF,bF,bF,bF,bF] rfl rfl (by kernel_rfl) (fun _ _ _ h => h) (Or.inl ⟨by rfl, ?yyr10⟩) ?har10 ?hhr10
      case yyr10 => intro W; go_simp; done
      case har10 => try simp only [Act.put, sA_, sZ_, sS_]; exact rfl
      refine pure_ (i := 11) (N := some 55) (v := .pointer (some ⟨gb, y.toNat * 14 + 5, none⟩)) (a' := ?axr11) #[bT,bT,bT,bT,bT,bT,bT,bT,bF,bT,bT,bT,bF,bF,bF,bF,bF,bF,bF,bF,bF,bF,bF,bF,bF,bF,bF,bF,bF,bF,bF] rfl rfl (by kernel_rfl) (fun _ _ _ h => h) (Or.inl ⟨by rfl, ?yyr11⟩) ?har11 ?hhr11
      case yyr11 => intro W; go_simp; done
      case har11 => try simp only [Act.put, sA_, sZ_, sS_]; exact rfl
      refine take_ (i := 12) (N := some 56) (v := .slice A5 b.f2.length c5) (a' := ?axr12) #[bT,bT,bT,bT,bT,bT,bT,bT,bF,bT,bT,bT,bT,bF,bF,bF,bF,bF,bF,bF,bF,bF,bF,bF,bF,bF,bF,bF,bF,bF,bF] rfl rfl (by kernel_rfl) (fun _ _ _ h => h) (Or.inl ⟨by rfl, ?yyr12⟩) hS ?har12 ?hhr12
      case yyr12 => intro W hW; have q2 := pw_cell_below hW x2; have q5 := pw_cell_below hW x5; have q10 := pw_cell_below hW x10; go_simp; done
      case har12 => try simp only [Act.put, sA_, sZ_, sS_]; exact rfl
      refine pure_ (i := 14) (N := some 58) (v := .pointer (some ⟨gb, y.toNat * 14, none⟩)) (a' := ?axr13) #[bT,bT,bT,bT,bT,bT,bT,bT,bF,bT,bT,bT,bT,bF,bT,bF,bF,bF,bF,bF,bF,bF,bF,bF,bF,bF,bF,bF,bF,bF,bF] rfl rfl (by kernel_rfl) (fun _ _ _ h => h) (Or.inl ⟨by rfl, ?yyr13⟩) ?har13 ?hhr13
      case yyr13 => intro W; go_simp; done
      case har13 => try simp only [Act.put, sA_, sZ_, sS_]; exact rfl
      refine pure_ (i := 15) (N := some 59) (v := .pointer (some ⟨gb, y.toNat * 14, none⟩)) (a' := ?axr14) #[bT,bT,bT,bT,bT,bT,bT,bT,bF,bT,bT,bT,bT,bF,bT,bT,bF,bF,bF,bF,bF,bF,bF,bF,bF,bF,bF,bF,bF,bF,bF] rfl rfl (by kernel_rfl) (fun _ _ _ h => h) (Or.inl ⟨by rfl, ?yyr14⟩) ?har14 ?hhr14
      case yyr14 => intro W; go_simp; done
      case har14 => try simp only [Act.put, sA_, sZ_, sS_]; exact rfl
      refine pure_ (i := 16) (N := some 60) (v := .pointer (some ⟨gb, y.toNat * 14 + 6, none⟩)) (a' := ?axr15) #[bT,bT,bT,bT,bT,bT,bT,bT,bF,bT,bT,bT,bT,bF,bT,bT,bT,bF,bF,bF,bF,bF,bF,bF,bF,bF,bF,bF,bF,bF,bF] rfl rfl (by kernel_rfl) (fun _ _ _ h => h) (Or.inl ⟨by rfl, ?yyr15⟩) ?har15 ?hhr15
      case yyr15 => intro W; go_simp; done
      case har15 => try simp only [Act.put, sA_, sZ_, sS_]; exact rfl
      refine pure_ (i := 17) (N := some 61) (v := .pointer (some ⟨gb, y.toNat * 14 + 10, none⟩)) (a' := ?axr16) #[bT,bT,bT,bT,bT,bT,bT,bT,bF,bT,bT,bT,bT,bF,bT,bT,bT,bT,bF,bF,bF,bF,bF,bF,bF,bF,bF,bF,bF,bF,bF] rfl rfl (by kernel_rfl) (fun _ _ _ h => h) (Or.inl ⟨by rfl, ?yyr16⟩) ?har16 ?hhr16
      case yyr16 => intro W; go_simp; done
      case har16 => try simp only [Act.put, sA_, sZ_, sS_]; exact rfl
      refine take_ (i := 18) (N := some 62) (v := .slice A6 b.f3.f4.length c6) (a' := ?axr17) #[bT,bT,bT,bT,bT,bT,bT,bT,bF,bT,bT,bT,bT,bF,bT,bT,bT,bT,bT,bF,bF,bF,bF,bF,bF,bF,bF,bF,bF,bF,bF] rfl rfl (by kernel_rfl) (fun _ _ _ h => h) (Or.inl ⟨by rfl, ?yyr17⟩) hS ?har17 ?hhr17
      case yyr17 => intro W hW; have q2 := pw_cell_below hW x2; have q5 := pw_cell_below hW x5; have q10 := pw_cell_below hW x10; go_simp; done
      case har17 => try simp only [Act.put, sA_, sZ_, sS_]; exact rfl
      refine one_ (i := 8) (N := some 52) #[bT,bT,bT,bT,bT,bT,bT,bT,bT,bT,bT,bT,bT,bF,bT,bT,bT,bT,bT,bF,bF,bF,bF,bF,bF,bF,bF,bF,bF,bF,bF] rfl rfl (by kernel_rfl) (by decide) (fun K hK => ?_)
      refine goes_ Try.func61 (by kernel_rfl) rfl #[.slice A4 b.f1.f1.length c4] (by rfl) rfl rfl (by simp only [List.map_toArray, List.map_cons, List.map_nil]; rfl) ?_
      refine (sl_Clone_u16 A4 c4 b.f1.f1 _ (Kd.C_below C4.out (HB.out.trans (hS.mono HB.out.size))) HL.out.1 (by have := HN.out.nc f HMB.out b HMC.out; omega)).mono ?_
      rintro e w6 ⟨v6, rfl, hr, hb⟩
      refine ⟨_, rfl, ?_⟩
      obtain ⟨D4, k4, rfl, hlc4, _⟩ := Kd.R_reads hr
      have HR4 := Aside0.mk (show Kd.R (Kd.int .u16) 44 w6 wr.heap.size (fun k => k < w6.heap.size) (.slice D4 b.f1.f1.length k4) b.f1.f1 from Kd.R_mono (Kd.R_bound hr) (fun k hk => hk.2.2.1))
      have hS' := hS.trans (hb.mono hS.size)
      have HS6 := Aside0.mk (show wr.heap.size ≤ w6.heap.size from hb.size)
      clear hr hb hlc4
      refine hK _ _ hS' (fun hS => ?_)
      clear hK K
      try simp only [Act.put, sA_, sZ_, sS_]
      refine one_ (i := 13) (N := some 57) #[bT,bT,bT,bT,bT,bT,bT,bT,bT,bT,bT,bT,bT,bT,bT,bT,bT,bT,bT,bF,bF,bF,bF,bF,bF,bF,bF,bF,bF,bF,bF] rfl rfl (by kernel_rfl) (by decide) (fun K hK => ?_)
      refine goes_ Try.func62 (by kernel_rfl) rfl #[.slice A5 b.f2.length c5] (by rfl) rfl rfl (by simp only [List.map_toArray, List.map_cons, List.map_nil]; rfl) ?_
      refine (cl_I w A5 c5 b.f2 _ C5.out (HB.out.trans (hS.mono HB.out.size)) HL.out.2.1 (by have := HN.out.ni f HMB.out b HMC.out; omega)).mono ?_
      rintro e w7 ⟨⟨D5, k5, innerI, rfl, hlc5, hp⟩, hb⟩
      refine ⟨_, rfl, ?_⟩
      have HPI := Aside0.mk hp
      have HR4' := Aside0.mk (Kd.R_below HR4.out hb)
      clear HR4
      have hS' := hS.trans (hb.mono hS.size)
      have HS7 := Aside0.mk (show w6.heap.size ≤ w7.heap.size from hb.size)
      have HLK5 := Aside0.mk hlc5
      clear hp hb hlc5
      refine hK _ _ hS' (fun hS => ?_)
      clear hK K
      try simp only [Act.put, sA_, sZ_, sS_]
      refine one_ (i := 19) (N := some 63) #[bT,bT,bT,bT,bT,bT,bT,bT,bT,bT,bT,bT,bT,bT,bT,bT,bT,bT,bT,bT,bF,bF,bF,bF,bF,bF,bF,bF,bF,bF,bF] rfl rfl (by kernel_rfl) (by decide) (fun K hK => ?_)
      refine goes_ Try.func63 (by kernel_rfl) rfl #[.slice A6 b.f3.f4.length c6] (by rfl) rfl rfl (by simp only [List.map_toArray, List.map_cons, List.map_nil]; rfl) ?_
      refine (sl_Clone_int A6 c6 b.f3.f4 _ (Kd.C_below C6.out (HB.out.trans (hS.mono HB.out.size))) HL.out.2.2 (by have := HN.out.ne f HMB.out b HMC.out; omega)).mono ?_
      rintro e w8 ⟨v8, rfl, hr, hb⟩
      refine ⟨_, rfl, ?_⟩
      obtain ⟨D6, k6, rfl, hlc6, _⟩ := Kd.R_reads hr
      have HR6 := Aside0.mk (show Kd.R (Kd.int .i64) 3 w8 w7.heap.size (fun k => k < w8.heap.size) (.slice D6 b.f3.f4.length k6) b.f3.f4 from Kd.R_mono (Kd.R_bound hr) (fun k hk => hk.2.2.1))
      have HR4 := Aside0.mk (Kd.R_below HR4'.out hb)
      have HPJ := Aside0.mk (PL_below HPI.out hb)
      clear HR4'
      have hS' := hS.trans (hb.mono hS.size)
      have HS8 := Aside0.mk (show w7.heap.size ≤ w8.heap.size from hb.size)
      clear hr hb hlc6
      refine hK _ _ hS' (fun hS => ?_)
      clear hK K
      try simp only [Act.put, sA_, sZ_, sS_]
      refine pure_ (i := 20) (N := some 64) (v := .pointer (some ⟨gb, y.toNat * 14, none⟩)) (a' := ?axr18) #[bT,bT,bT,bT,bT,bT,bT,bT,bT,bT,bT,bT,bT,bT,bT,bT,bT,bT,bT,bT,bT,bF,bF,bF,bF,bF,bF,bF,bF,bF,bF] rfl rfl (by kernel_rfl) (fun _ _ _ h => h) (Or.inl ⟨by rfl, ?yyr18⟩) ?har18 ?hhr18
      case yyr18 => intro W; go_simp; done
      case har18 => try simp only [Act.put, sA_, sZ_, sS_]; exact rfl
      refine pure_ (i := 21) (N := some 65) (v := .pointer (some ⟨gb, y.toNat * 14 + 1, none⟩)) (a' := ?axr19) #[bT,bT,bT,bT,bT,bT,bT,bT,bT,bT,bT,bT,bT,bT,bT,bT,bT,bT,bT,bT,bT,bT,bF,bF,bF,bF,bF,bF,bF,bF,bF] rfl rfl (by kernel_rfl) (fun _ _ _ h => h) (Or.inl ⟨by rfl, ?yyr19⟩) ?har19 ?hhr19
      case yyr19 => intro W; go_simp; done
      case har19 => try simp only [Act.put, sA_, sZ_, sS_]; exact rfl
      refine pure_ (i := 22) (N := some 66) (v := .pointer (some ⟨gb, y.toNat * 14 + 2, none⟩)) (a' := ?axr20) #[bT,bT,bT,bT,bT,bT,bT,bT,bT,bT,bT,bT,bT,bT,bT,bT,bT,bT,bT,bT,bT,bT,bT,bF,bF,bF,bF,bF,bF,bF,bF] rfl rfl (by kernel_rfl) (fun _ _ _ h => h) (Or.inl ⟨by rfl, ?yyr20⟩) ?har20 ?hhr20
      case yyr20 => intro W; go_simp; done
      case har20 => try simp only [Act.put, sA_, sZ_, sS_]; exact rfl
      have hb := hS
      replace HB := Aside0.mk (below_step HB.out hb)
      replace X1 := Aside0.mk (blk_below X1.out hb)
      replace X2 := Aside0.mk (blk_below X2.out hb)
      replace HQ := Aside0.mk (PL_below HQ.out hb)
      replace HPC := Aside0.mk (PL_below HPC.out hb)
      clear hb
      clear x2 zx2 x5 zx5 x10 zx10
      clear m0 zm0 n0 zn0
      clear y2 zy2
      have HS0 := Aside0.mk (show wr.heap.size ≤ w6.heap.size ∧ w6.heap.size ≤ w7.heap.size ∧ w7.heap.size ≤ w8.heap.size from ⟨HS6.out, HS7.out, HS8.out⟩)
      have x2 := (PL_cB HPC.out rfl 2 (by decide) HCB.out rfl).1
      have zx2 := (PL_cB HPC.out rfl 2 (by decide) HCB.out rfl).2
      have x5 := (PL_cB HPC.out rfl 5 (by decide) HCB.out rfl).1
      have zx5 := (PL_cB HPC.out rfl 5 (by decide) HCB.out rfl).2
      have x10 := (PL_cB HPC.out rfl 10 (by decide) HCB.out rfl).1
      have zx10 := (PL_cB HPC.out rfl 10 (by decide) HCB.out rfl).2
      refine last_ (i := 23) (N := none) #[bT,bT,bT,bT,bT,bT,bT,bT,bT,bT,bT,bT,bT,bT,bT,bT,bT,bT,bT,bT,bT,bT,bT,bT,bF,bF,bF,bF,bF,bF,bF] rfl rfl (by kernel_rfl) (by decide) (fun K hK => ?_)
      refine skip_ (w1 := ?_) (by rfl) rfl ?_ ?_
      rotate_left
      ·go_simp
       rfl
      refine hK _ _ ?_
      clear hK K
      try simp only [Act.put, sA_, sZ_, sS_]
      have HPC1 := Aside0.mk (PL_set HPC.out 2 (by decide) (.slice D4 b.f1.f1.length k4))
      have HCB1 := Aside0.mk (show seg _ sB.sz y.toNat = [.bool b.f0, .int .i64 b.f1.f0, .slice D4 b.f1.f1.length k4, .bool b.f1.f2, .bool b.f1.f3, .slice A5 b.f2.length c5, .int .i64 b.f3.f0, .int .i64 b.f3.f1, .int .i64 b.f3.f2, .int .i64 b.f3.f3, .slice A6 b.f3.f4.length c6, .int .i64 b.f3.f5, .int .i64 b.f3.f6, .int .i64 b.f3.f7] from (seg_set_eq _ (sz := sB.sz) (j := y.toNat) (o := 2) (.slice D4 b.f1.f1.length k4) (by decide)).trans (by rw [HCB.out]; rfl))
      refine pure_ (i := 24) (N := some 67) (v := .pointer (some ⟨gb, y.toNat * 14, none⟩)) (a' := ?axr21) #[bT,bT,bT,bT,bT,bT,bT,bT,bT,bT,bT,bT,bT,bT,bT,bT,bT,bT,bT,bT,bT,bT,bT,bT,bT,bF,bF,bF,bF,bF,bF] rfl rfl (by kernel_rfl) (fun _ _ _ h => h) (Or.inl ⟨by rfl, ?yyr21⟩) ?har21 ?hhr21
      case yyr21 => intro W; go_simp; done
      case har21 => try simp only [Act.put, sA_, sZ_, sS_]; exact rfl
      refine pure_ (i := 25) (N := some 68) (v := .pointer (some ⟨gb, y.toNat * 14 + 5, none⟩)) (a' := ?axr22) #[bT,bT,bT,bT,bT,bT,bT,bT,bT,bT,bT,bT,bT,bT,bT,bT,bT,bT,bT,bT,bT,bT,bT,bT,bT,bT,bF,bF,bF,bF,bF] rfl rfl (by kernel_rfl) (fun _ _ _ h => h) (Or.inl ⟨by rfl, ?yyr22⟩) ?har22 ?hhr22
      case yyr22 => intro W; go_simp; done
      case har22 => try simp only [Act.put, sA_, sZ_, sS_]; exact rfl
      refine last_ (i := 26) (N := none) #[bT,bT,bT,bT,bT,bT,bT,bT,bT,bT,bT,bT,bT,bT,bT,bT,bT,bT,bT,bT,bT,bT,bT,bT,bT,bT,bT,bF,bF,bF,bF] rfl rfl (by kernel_rfl) (by decide) (fun K hK => ?_)
      refine skip_ (w1 := ?_) (by rfl) rfl ?_ ?_
      rotate_left
      ·go_simp
       rfl
      refine hK _ _ ?_
      clear hK K
      try simp only [Act.put, sA_, sZ_, sS_]
      have HPC2 := Aside0.mk (PL_set HPC1.out 5 (by decide) (.slice D5 b.f2.length k5))
      have HCB2 := Aside0.mk (show seg _ sB.sz y.toNat = [.bool b.f0, .int .i64 b.f1.f0, .slice D4 b.f1.f1.length k4, .bool b.f1.f2, .bool b.f1.f3, .slice D5 b.f2.length k5, .int .i64 b.f3.f0, .int .i64 b.f3.f1, .int .i64 b.f3.f2, .int .i64 b.f3.f3, .slice A6 b.f3.f4.length c6, .int .i64 b.f3.f5, .int .i64 b.f3.f6, .int .i64 b.f3.f7] from (seg_set_eq _ (sz := sB.sz) (j := y.toNat) (o := 5) (.slice D5 b.f2.length k5) (by decide)).trans (by rw [HCB1.out]; rfl))
      refine pure_ (i := 27) (N := some 69) (v := .pointer (some ⟨gb, y.toNat * 14, none⟩)) (a' := ?axr23) #[bT,bT,bT,bT,bT,bT,bT,bT,bT,bT,bT,bT,bT,bT,bT,bT,bT,bT,bT,bT,bT,bT,bT,bT,bT,bT,bT,bT,bF,bF,bF] rfl rfl (by kernel_rfl) (fun _ _ _ h => h) (Or.inl ⟨by rfl, ?yyr23⟩) ?har23 ?hhr23
      case yyr23 => intro W; go_simp; done
      case har23 => try simp only [Act.put, sA_, sZ_, sS_]; exact rfl
      refine pure_ (i := 28) (N := some 70) (v := .pointer (some ⟨gb, y.toNat * 14 + 6, none⟩)) (a' := ?axr24) #[bT,bT,bT,bT,bT,bT,bT,bT,bT,bT,bT,bT,bT,bT,bT,bT,bT,bT,bT,bT,bT,bT,bT,bT,bT,bT,bT,bT,bT,bF,bF] rfl rfl (by kernel_rfl) (fun _ _ _ h => h) (Or.inl ⟨by rfl, ?yyr24⟩) ?har24 ?hhr24
      case yyr24 => intro W; go_simp; done
      case har24 => try simp only [Act.put, sA_, sZ_, sS_]; exact rfl
      refine pure_ (i := 29) (N := some 71) (v := .pointer (some ⟨gb, y.toNat * 14 + 10, none⟩)) (a' := ?axr25) #[bT,bT,bT,bT,bT,bT,bT,bT,bT,bT,bT,bT,bT,bT,bT,bT,bT,bT,bT,bT,bT,bT,bT,bT,bT,bT,bT,bT,bT,bT,bF] rfl rfl (by kernel_rfl) (fun _ _ _ h => h) (Or.inl ⟨by rfl, ?yyr25⟩) ?har25 ?hhr25
      case yyr25 => intro W; go_simp; done
      case har25 => try simp only [Act.put, sA_, sZ_, sS_]; exact rfl
      refine last_ (i := 30) (N := none) #[bT,bT,bT,bT,bT,bT,bT,bT,bT,bT,bT,bT,bT,bT,bT,bT,bT,bT,bT,bT,bT,bT,bT,bT,bT,bT,bT,bT,bT,bT,bT] rfl rfl (by kernel_rfl) (by decide) (fun K hK => ?_)
      refine skip_ (w1 := ?_) (by rfl) rfl ?_ ?_
      rotate_left
      ·go_simp
       rfl
      refine hK _ _ ?_
      clear hK K
      try simp only [Act.put, sA_, sZ_, sS_]
      have HPC3 := Aside0.mk (PL_set HPC2.out 10 (by decide) (.slice D6 b.f3.f4.length k6))
      have HCB3 := Aside0.mk (show seg _ sB.sz y.toNat = [.bool b.f0, .int .i64 b.f1.f0, .slice D4 b.f1.f1.length k4, .bool b.f1.f2, .bool b.f1.f3, .slice D5 b.f2.length k5, .int .i64 b.f3.f0, .int .i64 b.f3.f1, .int .i64 b.f3.f2, .int .i64 b.f3.f3, .slice D6 b.f3.f4.length k6, .int .i64 b.f3.f5, .int .i64 b.f3.f6, .int .i64 b.f3.f7] from (seg_set_eq _ (sz := sB.sz) (j := y.toNat) (o := 10) (.slice D6 b.f3.f4.length k6) (by decide)).trans (by rw [HCB2.out]; rfl))
      refine done_ (by kernel_rfl) ?_
      go_wp2
      go_meet
      have HLT0 := Aside0.mk (show w.heap.size ≤ gb ∧ g1 ≠ gb ∧ g2 ≠ gb ∧ gb < w6.heap.size by have := HG.out; have := HB1'.out; have := HGB.out; have := HS0.out; omega)
      obtain ⟨ce0, ty0⟩ := PL_typed HPC.out
      obtain ⟨ce1, ty1⟩ := PL_typed HPC1.out
      obtain ⟨ce2, ty2⟩ := PL_typed HPC2.out
      exact ⟨D4, k4, D5, k5, D6, k6, _, w6.heap.size, w7.heap.size, w8.heap.size, _, innerI, rfl, ⟨rfl, HS0.out.1, HS0.out.2.1, HS0.out.2.2, Nat.le_of_eq (by rw [size_set, size_set, size_set]), HLK5.out⟩, ⟨fun k hk => ⟨own_base HPI.out.2.1 k hk, HPI.out.1.2 k hk⟩⟩, ⟨below_set (below_set (below_set (HB.out) HLT0.out.1) HLT0.out.1) HLT0.out.1⟩, ⟨(blk_far (blk_far (blk_far X1.out (p := ⟨gb, _, none⟩) HLT0.out.2.1 _) (p := ⟨gb, _, none⟩) HLT0.out.2.1 _) (p := ⟨gb, _, none⟩) HLT0.out.2.1 _)⟩, ⟨(blk_far (blk_far (blk_far X2.out (p := ⟨gb, _, none⟩) HLT0.out.2.2.1 _) (p := ⟨gb, _, none⟩) HLT0.out.2.2.1 _) (p := ⟨gb, _, none⟩) HLT0.out.2.2.1 _)⟩, ⟨(PL_young (PL_young (PL_young HQ.out HGB.out.1 _) HGB.out.1 _) HGB.out.1 _)⟩, HPC3, HCB3, ⟨(Kd.R_set (Kd.R_set (Kd.R_set HR4.out ty0 (e_int (by decide)) _ _) ty1 (e_int (by decide)) _ _) ty2 (e_int (by decide)) _ _)⟩, ⟨(Kd.R_set (Kd.R_set (Kd.R_set HR6.out ty0 (e_int (by decide)) _ _) ty1 (e_int (by decide)) _ _) ty2 (e_int (by decide)) _ _)⟩, ⟨PL_up (PL_rebase (PL_elder (PL_elder (PL_elder HPJ.out HLT0.out.2.2.2 _) HLT0.out.2.2.2 _) HLT0.out.2.2.2 _) (by have := HS0.out; omega)) (by have := HS0.out; simp only [size_set]; omega)⟩⟩
     case rest =>
      clear x2 zx2 x5 zx5 x10 zx10
      clear m0 zm0 n0 zn0
      clear y2 zy2
      clear HB X1 X2 HQ HPC HCB p1 p2 hd
      obtain ⟨D4, k4, D5, k5, D6, k6, B2, N1, N2, N3, innerB, innerI, rfl, HSN, HO5, HB, X1, X2, HQ, HPC, HCB, R4, R6, HPI⟩ := hcut
      have HZ2 := Aside0.mk (show B1 ≤ B2 by have := HZ.out; have := HSN.out; omega)
      have m0 := (blk_cell X1.out 0).trans rfl
      have zm0 := blk_frozen X1.out 0
      have n0 := (blk_cell X2.out 0).trans rfl
      have zn0 := blk_frozen X2.out 0
      have y2 := (PL_cF HQ.out rfl 2 (by decide) HCS.out rfl).1
      have zy2 := (PL_cF HQ.out rfl 2 (by decide) HCS.out rfl).2
      have x2 := (PL_cB HPC.out rfl 2 (by decide) HCB.out rfl).1
      have zx2 := (PL_cB HPC.out rfl 2 (by decide) HCB.out rfl).2
      have x5 := (PL_cB HPC.out rfl 5 (by decide) HCB.out rfl).1
      have zx5 := (PL_cB HPC.out rfl 5 (by decide) HCB.out rfl).2
      have x10 := (PL_cB HPC.out rfl 10 (by decide) HCB.out rfl).1
      have zx10 := (PL_cB HPC.out rfl 10 (by decide) HCB.out rfl).2
      go_wp2
      clear x2 zx2 x5 zx5 x10 zx10
      clear m0 zm0 n0 zn0
      clear y2 zy2
      go_loopg [77] 1000000 (fun gg s wr => ∃ (z : Int) (innerI : List Value), s = .int .i64 z ∧ Aside0 (0 ≤ z ∧ z ≤ b.f2.length ∧ (b.f2.length : Int) - z ≤ gg) ∧ Aside0 (Below w.heap.size w wr) ∧ Aside0 (wr.heap[g1]? = some (.cells #[.slice (some ⟨g0, 0, none⟩) m.length c] 24 (0, 0))) ∧ Aside0 (wr.heap[g2]? = some (.cells #[.slice none 0 0] 24 (0, 0))) ∧ Aside0 (PL sF 27 w wr B0 B0 B1 (.slice (some ⟨g0, 0, none⟩) m.length c) m x.toNat (x.toNat + 1) innerF) ∧ Aside0 (PL sB 41 w wr B1 B1 B2 (.slice (some ⟨gb, 0, none⟩) f.f2.length c2) f.f2 y.toNat (y.toNat + 1) innerB) ∧ Aside0 (Kd.R (Kd.int .u16) 44 wr B2 (fun k => k < N1) (.slice D4 b.f1.f1.length k4) b.f1.f1) ∧ Aside0 (Kd.R (Kd.int .i64) 3 wr N2 (fun k => k < N3) (.slice D6 b.f3.f4.length k6) b.f3.f4) ∧ Aside0 (PL k49 49 w wr N1 N3 wr.heap.size (.slice D5 b.f2.length k5) b.f2 z.toNat z.toNat innerI) ∧ Aside0 (N3 ≤ wr.heap.size))
      case atStart => exact ⟨0, innerI, rfl, ⟨by have := HN.out.ni f HMB.out b HMC.out; omega⟩, HB, X1, X2, HQ, HPC, R4, R6, HPI, ⟨HSN.out.2.2.2.2.1⟩⟩
      case round =>
       clear HB X1 X2 HQ HPC R4 R6 HPI
       obtain ⟨z, innerI, rfl, HZZ, HB, X1, X2, HQ, HPC, R4, R6, HPI, HZ3⟩ := hrel
       have m0 := (blk_cell X1.out 0).trans rfl
       have zm0 := blk_frozen X1.out 0
       have n0 := (blk_cell X2.out 0).trans rfl
       have zn0 := blk_frozen X2.out 0
       have y2 := (PL_cF HQ.out rfl 2 (by decide) HCS.out rfl).1
       have zy2 := (PL_cF HQ.out rfl 2 (by decide) HCS.out rfl).2
       have x2 := (PL_cB HPC.out rfl 2 (by decide) HCB.out rfl).1
       have zx2 := (PL_cB HPC.out rfl 2 (by decide) HCB.out rfl).2
       have x5 := (PL_cB HPC.out rfl 5 (by decide) HCB.out rfl).1
       have zx5 := (PL_cB HPC.out rfl 5 (by decide) HCB.out rfl).2
       have x10 := (PL_cB HPC.out rfl 10 (by decide) HCB.out rfl).1
       have zx10 := (PL_cB HPC.out rfl 10 (by decide) HCB.out rfl).2
       by_cases hlt : z < (b.f2.length : Int)
       rotate_left
       ·have hd : decide (z < (b.f2.length : Int)) = false := decide_eq_false hlt
        have HLI := Aside0.mk hlt
        clear hlt
        have HNX := Aside0.mk (PL_next HPC.out HSB.out (by have := HZ3.out; have := HSN.out; omega) (by rw [HCB.out]; exact sB_of (ok2 := fun k => B2 ≤ k ∧ k < N1) (ok5 := fun k => (N1 ≤ k ∧ k < N2) ∨ N3 ≤ k) (ok10 := fun k => N2 ≤ k ∧ k < N3) (Kd.R_mono (Kd.R_lower (Kd.R_bound R4.out) HZ2.out) (fun k hk => ⟨hk.2.1, hk.1⟩)) (Kd.S_mono (Kd.S_lower (PL_all HPI.out (by have := HLI.out; have := HZZ.out; omega)) (by have := HZ2.out; have := HSN.out; omega)) (fun k hk => hk.2.elim (fun h => .inl (HO5.out k h)) .inr)) (Kd.R_mono (Kd.R_lower (Kd.R_bound R6.out) (by have := HZ2.out; have := HSN.out; omega)) (fun k hk => ⟨hk.2.1, hk.1⟩)) (fun k hk => hk.1) (fun k hk => by have := HSN.out; omega) (fun k hk => by have := HSN.out; omega) (fun k hk => by have := HSN.out; omega) (fun k hk => by have := HSN.out; omega) (fun k hk => by have := HSN.out; omega)))
        go_wp2
        have W1 := Aside0.mk (show wrap64 (y + 1) = y + 1 from wrap_in _ (by have := HY.out; omega) (by have := HLY.out; have := HN.out.nb f HMB.out; omega))
        have T1 := Aside0.mk (show (y + 1).toNat = y.toNat + 1 by have := HY.out; omega)
        go_roundg ((f.f2.length : Int) - (y + 1)).toNat
        case measure => have h1_ := HY.out; have h2_ := HLY.out; omega
        case rel => exact ⟨y + 1, _, by first | (rw [W1.out]; done) | rfl | (simp only [W1.out]; done), ⟨by have := HY.out; have := HLY.out; omega⟩, HB, X1, X2, HQ, ⟨by rw [T1.out]; exact HNX.out⟩, ⟨by have := HZ3.out; have := HSN.out; have := HZ2.out; omega⟩⟩
       have hd : decide (z < (b.f2.length : Int)) = true := decide_eq_true hlt
       have HLI := Aside0.mk hlt
       clear hlt
       have p1 : (0 ≤ z) = True := eq_true HZZ.out.1
       have p2 : (z < (b.f2.length : Int)) = True := eq_true HLI.out
       obtain ⟨gi, k5', e1, hg0, hg1⟩ := PL_form HPI.out (by have := HLI.out; have := HZZ.out; omega)
       injection e1 with e1 _ e2
       subst e1
       subst e2
       have HGI := Aside0.mk (And.intro hg0 hg1)
       clear hg0 hg1
       have HMI := Aside0.mk (rd_mem' b.f2 z49 z HZZ.out.1 HLI.out)
       have HSI := Aside0.mk (rd_some b.f2 z49 z HZZ.out.1 HLI.out)
       have hrd : b.f2.getD z.toNat z49 = rd_T49 b.f2 z := rfl
       rw [hrd] at HMI HSI
       clear hrd
       generalize rd_T49 b.f2 z = q at HMI HSI
       obtain ⟨hK, hP⟩ := PL_open HPI.out HSI.out
       obtain ⟨A7, c7, hcs, hl7, hC7⟩ := k49_open hK
       have HPJ := Aside0.mk hP
       have C7 := Aside0.mk hC7
       have HL7 := Aside0.mk hl7
       have HCI := Aside0.mk hcs
       clear hK hP hC7 hl7 hcs HPI
       have v6 := (PL_cI HPJ.out rfl 6 (by decide) HCI.out rfl).1
       have zv6 := (PL_cI HPJ.out rfl 6 (by decide) HCI.out rfl).2
       go_wp2
       refine start_ (S := (fun W : World => Below wr.heap.size wr W)) (ds := [16]) #[bF,bF,bF,bF,bF,bF,bF,bF,bF,bF,bF,bF,bF,bF,bF,bF,bF] (by kernel_rfl) (by rfl) (by rfl) (below_drew (Below.refl _ _)) (fun hS => ?_)
       refine pure_ (i := 0) (N := some 80) (v := .pointer (some ⟨gb, y.toNat * 14, none⟩)) (a' := ?axs1) #[bT,bF,bF,bF,bF,bF,bF,bF,bF,bF,bF,bF,bF,bF,bF,bF,bF] rfl rfl (by kernel_rfl) (fun _ _ _ h => h) (Or.inl ⟨by rfl, ?yys1⟩) ?has1 ?hhs1
       case yys1 => intro W; go_simp; done
       case has1 => try simp only [Act.put, sA_, sZ_, sS_]; exact rfl
       refine pure_ (i := 1) (N := some 81) (v := .pointer (some ⟨gb, y.toNat * 14, none⟩)) (a' := ?axs2) #[bT,bT,bF,bF,bF,bF,bF,bF,bF,bF,bF,bF,bF,bF,bF,bF,bF] rfl rfl (by kernel_rfl) (fun _ _ _ h => h) (Or.inl ⟨by rfl, ?yys2⟩) ?has2 ?hhs2
       case yys2 => intro W; go_simp; done
       case has2 => try simp only [Act.put, sA_, sZ_, sS_]; exact rfl
       refine pure_ (i := 2) (N := some 82) (v := .pointer (some ⟨gb, y.toNat * 14 + 5, none⟩)) (a' := ?axs3) #[bT,bT,bT,bF,bF,bF,bF,bF,bF,bF,bF,bF,bF,bF,bF,bF,bF] rfl rfl (by kernel_rfl) (fun _ _ _ h => h) (Or.inl ⟨by rfl, ?yys3⟩) ?has3 ?hhs3
       case yys3 => intro W; go_simp; done
       case has3 => try simp only [Act.put, sA_, sZ_, sS_]; exact rfl
       refine take_ (i := 3) (N := some 83) (v := .slice (some ⟨gi, 0, none⟩) b.f2.length k5) (a' := ?axs4) #[bT,bT,bT,bT,bF,bF,bF,bF,bF,bF,bF,bF,bF,bF,bF,bF,bF] rfl rfl (by kernel_rfl) (fun _ _ _ h => h) (Or.inl ⟨by rfl, ?yys4⟩) hS ?has4 ?hhs4
       case yys4 => intro W hW; have q5 := pw_cell_below hW x5; have q6 := pw_cell_below hW v6; go_simp; done
       case has4 => try simp only [Act.put, sA_, sZ_, sS_]; exact rfl
       refine pure_ (i := 4) (N := some 84) (v := .int .i64 z) (a' := ?axs5) #[bT,bT,bT,bT,bT,bF,bF,bF,bF,bF,bF,bF,bF,bF,bF,bF,bF] rfl rfl (by kernel_rfl) (fun _ _ _ h => h) (Or.inl ⟨by rfl, ?yys5⟩) ?has5 ?hhs5
       case yys5 => intro W; go_simp; done
       case has5 => try simp only [Act.put, sA_, sZ_, sS_]; exact rfl
       refine pure_ (i := 5) (N := some 85) (v := .pointer (some ⟨gb, y.toNat * 14, none⟩)) (a' := ?axs6) #[bT,bT,bT,bT,bT,bT,bF,bF,bF,bF,bF,bF,bF,bF,bF,bF,bF] rfl rfl (by kernel_rfl) (fun _ _ _ h => h) (Or.inl ⟨by rfl, ?yys6⟩) ?has6 ?hhs6
       case yys6 => intro W; go_simp; done
       case has6 => try simp only [Act.put, sA_, sZ_, sS_]; exact rfl
       refine pure_ (i := 6) (N := some 86) (v := .pointer (some ⟨gb, y.toNat * 14, none⟩)) (a' := ?axs7) #[bT,bT,bT,bT,bT,bT,bT,bF,bF,bF,bF,bF,bF,bF,bF,bF,bF] rfl rfl (by kernel_rfl) (fun _ _ _ h => h) (Or.inl ⟨by rfl, ?yys7⟩) ?has7 ?hhs7
       case yys7 => intro W; go_simp; done
       case has7 => try simp only [Act.put, sA_, sZ_, sS_]; exact rfl
       refine pure_ (i := 7) (N := some 87) (v := .pointer (some ⟨gb, y.toNat * 14 + 5, none⟩)) (a' := ?axs8) #[bT,bT,bT,bT,bT,bT,bT,bT,bF,bF,bF,bF,bF,bF,bF,bF,bF] rfl rfl (by kernel_rfl) (fun _ _ _ h => h) (Or.inl ⟨by rfl, ?yys8⟩) ?has8 ?hhs8
       case yys8 => intro W; go_simp; done
       case has8 => try simp only [Act.put, sA_, sZ_, sS_]; exact rfl
       refine take_ (i := 8) (N := some 88) (v := .slice (some ⟨gi, 0, none⟩) b.f2.length k5) (a' := ?axs9) #[bT,bT,bT,bT,bT,bT,bT,bT,bT,bF,bF,bF,bF,bF,bF,bF,bF] rfl rfl (by kernel_rfl) (fun _ _ _ h => h) (Or.inl ⟨by rfl, ?yys9⟩) hS ?has9 ?hhs9
       case yys9 => intro W hW; have q5 := pw_cell_below hW x5; have q6 := pw_cell_below hW v6; go_simp; done
       case has9 => try simp only [Act.put, sA_, sZ_, sS_]; exact rfl
       refine pure_ (i := 9) (N := some 89) (v := .int .i64 z) (a' := ?axs10) #[bT,bT,bT,bT,bT,bT,bT,bT,bT,bT,bF,bF,bF,bF,bF,bF,bF] rfl rfl (by kernel_rfl) (fun _ _ _ h => h) (Or.inl ⟨by rfl, ?yys10⟩) ?has10 ?hhs10
       case yys10 => intro W; go_simp; done
       case has10 => try simp only [Act.put, sA_, sZ_, sS_]; exact rfl
       refine pure_ (i := 10) (N := some 90) (v := .pointer (some ⟨gi, z.toNat * 7, none⟩)) (a' := ?axs11) #[bT,bT,bT,bT,bT,bT,bT,bT,bT,bT,bT,bF,bF,bF,bF,bF,bF] rfl rfl (by kernel_rfl) (fun _ _ _ h => h) (Or.inl ⟨by rfl, ?yys11⟩) ?has11 ?hhs11
       case yys11 => intro W; go_simp; done
       case has11 => try simp only [Act.put, sA_, sZ_, sS_]; exact rfl
       refine pure_ (i := 11) (N := some 91) (v := .pointer (some ⟨gi, z.toNat * 7 + 6, none⟩)) (a' := ?axs12) #[bT,bT,bT,bT,bT,bT,bT,bT,bT,bT,bT,bT,bF,bF,bF,bF,bF] rfl rfl (by kernel_rfl) (fun _ _ _ h => h) (Or.inl ⟨by rfl, ?yys12⟩) ?has12 ?hhs12
       case yys12 => intro W; go_simp; done
       case has12 => try simp only [Act.put, sA_, sZ_, sS_]; exact rfl
       refine take_ (i := 12) (N := some 92) (v := .slice A7 q.f6.length c7) (a' := ?axs13) #[bT,bT,bT,bT,bT,bT,bT,bT,bT,bT,bT,bT,bT,bF,bF,bF,bF] rfl rfl (by kernel_rfl) (fun _ _ _ h => h) (Or.inl ⟨by rfl, ?yys13⟩) hS ?has13 ?hhs13
       case yys13 => intro W hW; have q5 := pw_cell_below hW x5; have q6 := pw_cell_below hW v6; go_simp; done
       case has13 => try simp only [Act.put, sA_, sZ_, sS_]; exact rfl
       refine one_ (i := 13) (N := some 93) #[bT,bT,bT,bT,bT,bT,bT,bT,bT,bT,bT,bT,bT,bT,bF,bF,bF] rfl rfl (by kernel_rfl) (by decide) (fun K hK => ?_)
       refine goes_ Try.func63 (by kernel_rfl) rfl #[.slice A7 q.f6.length c7] (by rfl) rfl rfl (by simp only [List.map_toArray, List.map_cons, List.map_nil]; rfl) ?_
       refine (sl_Clone_int A7 c7 q.f6 _ (Kd.C_below C7.out (HB.out.trans (hS.mono HB.out.size))) HL7.out (by have := HN.out.na f HMB.out b HMC.out q HMI.out; omega)).mono ?_
       rintro e w9 ⟨v9, rfl, hr, hb⟩
       refine ⟨_, rfl, ?_⟩
       obtain ⟨D7, k7, rfl, hlc7, _⟩ := Kd.R_reads hr
       have HR7 := Aside0.mk (show Kd.R (Kd.int .i64) 3 w9 wr.heap.size (fun k => wr.heap.size ≤ k) (.slice D7 q.f6.length k7) q.f6 from Kd.R_mono (Kd.R_bound hr) (fun k hk => hk.2.1))
       have hS' := hS.trans (hb.mono hS.size)
       have HS9 := Aside0.mk (show wr.heap.size ≤ w9.heap.size from hb.size)
       clear hr hb hlc7
       refine hK _ _ hS' (fun hS => ?_)
       clear hK K
       try simp only [Act.put, sA_, sZ_, sS_]
       refine pure_ (i := 14) (N := some 94) (v := .pointer (some ⟨gi, z.toNat * 7, none⟩)) (a' := ?axs14) #[bT,bT,bT,bT,bT,bT,bT,bT,bT,bT,bT,bT,bT,bT,bT,bF,bF] rfl rfl (by kernel_rfl) (fun _ _ _ h => h) (Or.inl ⟨by rfl, ?yys14⟩) ?has14 ?hhs14
       case yys14 => intro W; go_simp; done
       case has14 => try simp only [Act.put, sA_, sZ_, sS_]; exact rfl
       refine pure_ (i := 15) (N := some 95) (v := .pointer (some ⟨gi, z.toNat * 7 + 6, none⟩)) (a' := ?axs15) #[bT,bT,bT,bT,bT,bT,bT,bT,bT,bT,bT,bT,bT,bT,bT,bT,bF] rfl rfl (by kernel_rfl) (fun _ _ _ h => h) (Or.inl ⟨by rfl, ?yys15⟩) ?has15 ?hhs15
       case yys15 => intro W; go_simp; done
       case has15 => try simp only [Act.put, sA_, sZ_, sS_]; exact rfl
       have hb := hS
       replace HB := Aside0.mk (below_step HB.out hb)
       replace X1 := Aside0.mk (blk_below X1.out hb)
       replace X2 := Aside0.mk (blk_below X2.out hb)
       replace HQ := Aside0.mk (PL_below HQ.out hb)
       replace HPC := Aside0.mk (PL_below HPC.out hb)
       replace R4 := Aside0.mk (Kd.R_below R4.out hb)
       replace R6 := Aside0.mk (Kd.R_below R6.out hb)
       replace HPJ := Aside0.mk (PL_below HPJ.out hb)
       clear hb
       clear x2 zx2 x5 zx5 x10 zx10
       clear m0 zm0 n0 zn0
       clear y2 zy2
       clear v6 zv6
       have v6 := (PL_cI HPJ.out rfl 6 (by decide) HCI.out rfl).1
       have zv6 := (PL_cI HPJ.out rfl 6 (by decide) HCI.out rfl).2
       refine last_ (i := 16) (N := none) #[bT,bT,bT,bT,bT,bT,bT,bT,bT,bT,bT,bT,bT,bT,bT,bT,bT] rfl rfl (by kernel_rfl) (by decide) (fun K hK => ?_)
       refine skip_ (w1 := ?_) (by rfl) rfl ?_ ?_
       rotate_left
       ·go_simp
        rfl
       refine hK _ _ ?_
       clear hK K
       try simp only [Act.put, sA_, sZ_, sS_]
       refine done_ (by kernel_rfl) ?_
       go_wp2
       clear v6 zv6
       have HLT0 := Aside0.mk (show w.heap.size ≤ gi ∧ g1 ≠ gi ∧ g2 ≠ gi ∧ B1 ≤ gi ∧ B2 ≤ gi by have := HG.out; have := HB1'.out; have := HGI.out; have := HSN.out; have := HZ2.out; omega)
       obtain ⟨ce0, ty0⟩ := PL_typed HPJ.out
       have HP1 := Aside0.mk (PL_set HPJ.out 6 (by decide) (.slice D7 q.f6.length k7))
       have HCI1 := Aside0.mk (show seg _ k49.sz z.toNat = [.int .i64 q.f0, .int .i64 q.f1, .int .i64 q.f2, .int .i64 q.f3, .int .u16 q.f4, .int .i64 q.f5, .slice D7 q.f6.length k7] from (seg_set_eq _ (sz := k49.sz) (j := z.toNat) (o := 6) (.slice D7 q.f6.length k7) (by decide)).trans (by rw [HCI.out]; rfl))
       have HP2 := Aside0.mk (PL_next HP1.out HSI.out (by rw [size_set]; exact HS9.out) (by rw [HCI1.out]; exact k49_mkM _ _ _ q (Kd.R_lower (Kd.R_set HR7.out ty0 (e_int (by decide)) _ _) HZ3.out)))
       have W1 := Aside0.mk (show wrap64 (z + 1) = z + 1 from wrap_in _ (by have := HZZ.out; omega) (by have := HLI.out; have := HN.out.ni f HMB.out b HMC.out; omega))
       have T1 := Aside0.mk (show (z + 1).toNat = z.toNat + 1 by have := HZZ.out; omega)
       go_roundg ((b.f2.length : Int) - (z + 1)).toNat
       case measure => have h1_ := HZZ.out; have h2_ := HLI.out; omega
       case rel => exact ⟨z + 1, _, by first | (rw [W1.out]; done) | rfl | (simp only [W1.out]; done), ⟨by have := HZZ.out; have := HLI.out; omega⟩, ⟨below_set HB.out HLT0.out.1⟩, ⟨blk_far X1.out (p := ⟨gi, _, none⟩) HLT0.out.2.1 _⟩, ⟨blk_far X2.out (p := ⟨gi, _, none⟩) HLT0.out.2.2.1 _⟩, ⟨PL_young HQ.out HLT0.out.2.2.2.1 _⟩, ⟨PL_young HPC.out HLT0.out.2.2.2.2 _⟩, ⟨Kd.R_set R4.out ty0 (e_int (by decide)) _ _⟩, ⟨Kd.R_set R6.out ty0 (e_int (by decide)) _ _⟩, ⟨by rw [T1.out]; exact HP2.out⟩, ⟨by rw [size_set]; have := HZ3.out; have := HS9.out; omega⟩⟩
end Go.Proofs.Ytbfialebaoeicaa.X
