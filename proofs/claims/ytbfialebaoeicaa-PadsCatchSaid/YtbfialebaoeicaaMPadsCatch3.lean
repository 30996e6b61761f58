/- Part 4 of the proof of the statement PadsCatch: the words of the walks, the walks through the functions that it reaches, and the plain laws of what they compute. -/
import Derived.Test.YtbfialebaoeicaaMPadsCatch2
import Derived.RegionTactic
import Derived.ChangeAlike
import Derived.Deep.QuietTactic
import Derived.BigQuiet
import Derived.Deep.MidRow
namespace Go.Proofs.Ytbfialebaoeicaa.X
open Go.RowKit Go.Proofs.YtbfialebaoeicaaW.PrintWords Go.Proofs.YtbfialebaoeicaaW.PrintLast Go.Proofs.YtbfialebaoeicaaW.PrintMore
set_option linter.all false
structure BC (m : List S27) : Prop where
 nf : m.length ≤ 1000
 nb : ∀ f ∈ m, f.f2.length ≤ 1000
 ni : ∀ f ∈ m, ∀ b ∈ f.f2, b.f2.length ≤ 1000
 nc : ∀ f ∈ m, ∀ b ∈ f.f2, b.f1.f1.length ≤ 1000
 ne : ∀ f ∈ m, ∀ b ∈ f.f2, b.f3.f4.length ≤ 1000
 na : ∀ f ∈ m, ∀ b ∈ f.f2, ∀ x ∈ b.f2, x.f6.length ≤ 1000
theorem PL_cF {w0 w : World} {base bE N : Nat} {v : Value} {xs : List S27} {i i' : Nat} {inner : List Value} (h : PL sF 27 w0 w base bE N v xs i i' inner) {g n c p : Nat} {u : Value} (hv : v = .slice (some ⟨g, 0, none⟩) n c) (o : Nat) (ho : o < 3) {cs : List Value} (hs : seg inner sF.sz p = cs) (hu : cs[o]? = some u) : w.cell? ⟨g, p * 3 + o, none⟩ = some u ∧ w.frozen? ⟨g, p * 3 + o, none⟩ = false := PL_seg h hv o ho hs hu
theorem PL_cB {w0 w : World} {base bE N : Nat} {v : Value} {xs : List S41} {i i' : Nat} {inner : List Value} (h : PL sB 41 w0 w base bE N v xs i i' inner) {g n c p : Nat} {u : Value} (hv : v = .slice (some ⟨g, 0, none⟩) n c) (o : Nat) (ho : o < 14) {cs : List Value} (hs : seg inner sB.sz p = cs) (hu : cs[o]? = some u) : w.cell? ⟨g, p * 14 + o, none⟩ = some u ∧ w.frozen? ⟨g, p * 14 + o, none⟩ = false := PL_seg h hv o ho hs hu
theorem PL_cI {w0 w : World} {base bE N : Nat} {v : Value} {xs : List S49} {i i' : Nat} {inner : List Value} (h : PL k49 49 w0 w base bE N v xs i i' inner) {g n c p : Nat} {u : Value} (hv : v = .slice (some ⟨g, 0, none⟩) n c) (o : Nat) (ho : o < 7) {cs : List Value} (hs : seg inner k49.sz p = cs) (hu : cs[o]? = some u) : w.cell? ⟨g, p * 7 + o, none⟩ = some u ∧ w.frozen? ⟨g, p * 7 + o, none⟩ = false := PL_seg h hv o ho hs hu
theorem e_int {k : IntKind} {e t : Nat} (h : e ≠ t) : ∀ q, q ∈ e :: (Kd.int k).E → q ≠ t := by
 intro q hq
 rcases List.mem_cons.1 hq with rfl | hq
 ·exact h
 ·simp [Kd.int, Kd.scalar] at hq
theorem rd_some {α : Type} (l : List α) (z : α) (x : Int) (h0 : 0 ≤ x) (h1 : x < (l.length : Int)) : l[x.toNat]? = some (l.getD x.toNat z) := by
 have hl : x.toNat < l.length := by omega
 rw [List.getD_eq_getElem?_getD, List.getElem?_eq_getElem hl]
 rfl
set_option maxHeartbeats 16000000 in
set_option maxRecDepth 100000 in
theorem copy_c (m : List S27) (A0 : Option Addr) (c0 : Nat) (w : World) (hm : Kd.C k27 w A0 m.length m) (hc : m.length ≤ c0) (hb : BC m) :
  Calls Try.prog 24 #[.agg #[.slice A0 m.length c0]] w fun e w' => (∃ v, e = .returned (.agg #[v]) ∧ SM w' w.heap.size (fun _ => True) v m) ∧ Below w.heap.size w w' := by
 have HM := Aside0.mk hm
 have HC := Aside0.mk hc
 have HN := Aside0.mk hb
 clear hm hc hb
 have hu24 := Try.underlying24
 have hu27 := Try.underlying27
 have hu41 := Try.underlying41
 have hu49 := Try.underlying49
 have hu35 := Try.underlying35
 have hu39 := Try.underlying39
 go_enter Try.func24, Try.ntmps24
 go_upto_region 1 with (first | ((with_reducible refine gate_dst (N := 1) rfl ?_); refine box_event ?hg (N := 1) ?hd (cs := #[.slice A0 m.length c0]) (t := 24) ?hr ?_; (case hd => rfl); (case hg => rfl); (case hr => first | (go_simp; done) | (go_simp; rfl)); intro g1 hg w1 hbox hb; have HLX1 := Aside0.mk (show w.heap.size ≤ g1 by rw [hg]; exact Nat.le_refl _); have HB := Aside0.mk hb; have X1 := Aside0.mk hbox; clear hbox hb hg; have m0 := (blk_cell X1.out 0).trans rfl; have zm0 := blk_frozen X1.out 0) | ((with_reducible refine gate_dst (N := 2) rfl ?_); refine box_event ?hg (N := 2) ?hd (cs := #[.slice none 0 0]) (t := 24) ?hr ?_; (case hd => rfl); (case hg => rfl); (case hr => first | (go_simp; done) | (go_simp; rfl)); intro g2 hg w2 hbox hb; have HLX2 := Aside0.mk (show w.heap.size ≤ g2 by rw [hg]; exact HB.out.size); have HNE := Aside0.mk (show g2 ≠ g1 by rw [hg]; exact Nat.ne_of_gt (blk_lt X1.out)); have n0_ := Aside0.mk (below_step HB.out hb); have n1_ := Aside0.mk (blk_below X1.out hb); clear HB X1; have HB := n0_; have X1 := n1_; clear n0_ n1_; have X2 := Aside0.mk hbox; clear hbox hb hg; have n0 := (blk_cell X2.out 0).trans rfl; have zn0 := blk_frozen X2.out 0; have m0 := (blk_cell X1.out 0).trans rfl; have zm0 := blk_frozen X1.out 0))
 try simp only [Act.put, List.setIfInBounds_toArray, List.set_cons_zero, List.set_cons_succ]
 go_cut [] (fun wc => ∃ (A : Option Addr) (c B0 : Nat) (inner : List Value), Aside0 (w.heap.size ≤ B0 ∧ g1 < B0 ∧ g2 < B0 ∧ m.length ≤ c) ∧ Aside0 (Below w.heap.size w wc) ∧ Aside0 (wc.heap[g1]? = some (.cells #[.slice A m.length c] 24 (0, 0))) ∧ Aside0 (wc.heap[g2]? = some (.cells #[.slice none 0 0] 24 (0, 0))) ∧ Aside0 (PL sF 27 w wc B0 B0 wc.heap.size (.slice A m.length c) m 0 0 inner))
 case first =>
  have HG1 := Aside0.mk (blk_lt X1.out)
  have HG2 := Aside0.mk (blk_lt X2.out)
  go_wp2_with (go_at_call 59; go_loud ((with_reducible refine (cl_F w A0 c0 m _ HM.out HB.out HC.out (by have := HN.out.nf; omega)).mono ?_); rintro e w6 ⟨⟨A, c, inner, rfl, hlc, hp⟩, hb⟩; have HP := Aside0.mk hp; have HLC := Aside0.mk hlc; have OB := HB; have O1 := X1; have O2 := X2; have n0_ := Aside0.mk (below_step HB.out hb); have n1_ := Aside0.mk (blk_below X1.out hb); have n2_ := Aside0.mk (blk_below X2.out hb); clear HB X1 X2; have HB := n0_; have X1 := n1_; have X2 := n2_; clear n0_ n1_ n2_; clear hp hlc hb m0 zm0 n0 zn0; have m0 := (blk_cell X1.out 0).trans rfl; have zm0 := blk_frozen X1.out 0))
  go_meet
  exact ⟨A, c, _, inner, ⟨OB.out.size, blk_lt O1.out, blk_lt O2.out, HLC.out⟩, ⟨below_set HB.out HLX1.out⟩, ⟨set_blk 0 _ X1.out rfl⟩, ⟨blk_far X2.out (p := ⟨g1, 0, none⟩) HNE.out _⟩, ⟨PL_up (PL_elder HP.out (blk_lt O1.out) _) (Nat.le_of_eq (size_set _ _ _).symm)⟩⟩
 case rest =>
  clear m0 zm0 n0 zn0
  clear HB X1 X2
  obtain ⟨A, c, B0, inner, HG, HB, X1, X2, HP⟩ := hcut
  have m0 := (blk_cell X1.out 0).trans rfl
  have zm0 := blk_frozen X1.out 0
  have n0 := (blk_cell X2.out 0).trans rfl
  have zn0 := blk_frozen X2.out 0
  go_wp2
  clear m0 zm0 n0 zn0
  go_loopg [15] 1000000 (fun gg s wr => ∃ (x : Int) (inner : List Value), s = .int .i64 x ∧ Aside0 (0 ≤ x ∧ x ≤ m.length ∧ (m.length : Int) - x ≤ gg) ∧ Aside0 (Below w.heap.size w wr) ∧ Aside0 (wr.heap[g1]? = some (.cells #[.slice A m.length c] 24 (0, 0))) ∧ Aside0 (wr.heap[g2]? = some (.cells #[.slice none 0 0] 24 (0, 0))) ∧ Aside0 (PL sF 27 w wr B0 B0 wr.heap.size (.slice A m.length c) m x.toNat x.toNat inner))
  case atStart => exact ⟨0, inner, rfl, ⟨by have := HN.out.nf; omega⟩, HB, X1, X2, HP⟩
  case round =>
   clear HB X1 X2 HP
   obtain ⟨x, inner, rfl, HX, HB, X1, X2, HP⟩ := hrel
   have m0 := (blk_cell X1.out 0).trans rfl
   have zm0 := blk_frozen X1.out 0
   have n0 := (blk_cell X2.out 0).trans rfl
   have zn0 := blk_frozen X2.out 0
   by_cases hlt : x < (m.length : Int)
   rotate_left
   ·have hd : decide (x < (m.length : Int)) = false := decide_eq_false hlt
    have HLT := Aside0.mk hlt
    clear hlt
    go_wp2
    refine bodyPost_ret (results_cell_row rfl _ _ g2 24 #[.slice A m.length c] (0, 0) _ rfl (set_blk 0 _ X2.out rfl) Try.underlying24 rfl (by kernel_rfl)) rfl ?_
    exact ⟨⟨_, rfl, Kd.S_mono (Kd.S_lower (PL_all (PL_elder HP.out HG.out.2.2.1 _) (by have := HLT.out; have := HX.out; omega)) HG.out.1) (fun _ _ => trivial)⟩, below_set HB.out HLX2.out⟩
   have hd : decide (x < (m.length : Int)) = true := decide_eq_true hlt
   have HLT := Aside0.mk hlt
   clear hlt
   have p1 : (0 ≤ x) = True := eq_true HX.out.1
   have p2 : (x < (m.length : Int)) = True := eq_true HLT.out
   obtain ⟨g0, c', e1, hg0, hg1⟩ := PL_form HP.out (by have := HLT.out; have := HX.out; omega)
   injection e1 with e1 _ e2
   subst e1
   subst e2
   have HG0 := Aside0.mk (And.intro hg0 hg1)
   clear hg0 hg1
   have HMB := Aside0.mk (rd_mem' m z27 x HX.out.1 HLT.out)
   have HSM := Aside0.mk (rd_some m z27 x HX.out.1 HLT.out)
   have hrd : m.getD x.toNat z27 = rd_T27 m x := rfl
   rw [hrd] at HMB HSM
   clear hrd
   generalize rd_T27 m x = f at HMB HSM
   obtain ⟨hK, hP⟩ := PL_open HP.out HSM.out
   obtain ⟨A1, c1, hcs, hl1, hC1⟩ := k27_open hK
   have HQ := Aside0.mk hP
   have HC1 := Aside0.mk hC1
   have HL1 := Aside0.mk hl1
   have HCS := Aside0.mk hcs
   clear hK hP hC1 hl1 hcs HP
   have y2 := (PL_cF HQ.out rfl 2 (by decide) HCS.out rfl).1
   have zy2 := (PL_cF HQ.out rfl 2 (by decide) HCS.out rfl).2
   have HB1 := Aside0.mk (show B0 ≤ wr.heap.size from Nat.le_trans HG0.out.1 (Nat.le_of_lt HG0.out.2))
   go_upto_region 6 with (fail)
   go_cut [15] from 15 to 98 (fun v15 wc => ∃ (A2 : Option Addr) (c2 B1 : Nat) (inner innerB : List Value), v15 = .int .i64 x ∧ Aside0 (f.f2.length ≤ c2 ∧ B1 = wr.heap.size ∧ B1 ≤ wc.heap.size) ∧ Aside0 (Below w.heap.size w wc) ∧ Aside0 (wc.heap[g1]? = some (.cells #[.slice (some ⟨g0, 0, none⟩) m.length c] 24 (0, 0))) ∧ Aside0 (wc.heap[g2]? = some (.cells #[.slice none 0 0] 24 (0, 0))) ∧ Aside0 (PL sF 27 w wc B0 B0 B1 (.slice (some ⟨g0, 0, none⟩) m.length c) m x.toNat (x.toNat + 1) inner) ∧ Aside0 (seg inner sF.sz x.toNat = [.int .i64 f.f0, .int .i64 f.f1, .slice A2 f.f2.length c2]) ∧ Aside0 (PL sB 41 w wc B1 B1 wc.heap.size (.slice A2 f.f2.length c2) f.f2 0 0 innerB))
   case first =>
    go_wp2_with (go_at_call 60; go_loud ((with_reducible refine (cl_B w A1 c1 f.f2 _ HC1.out HB.out HL1.out (by have := HN.out.nb f HMB.out; omega)).mono ?_); rintro e w6 ⟨⟨A2, c2, innerB, rfl, hlc, hp⟩, hb⟩; have HPB := Aside0.mk hp; have HLC := Aside0.mk hlc; have HSZ := Aside0.mk hb.size; have n0_ := Aside0.mk (below_step HB.out hb); have n1_ := Aside0.mk (blk_below X1.out hb); have n2_ := Aside0.mk (blk_below X2.out hb); have n3_ := Aside0.mk (PL_below HQ.out hb); clear HB X1 X2 HQ; have HB := n0_; have X1 := n1_; have X2 := n2_; have HQ := n3_; clear n0_ n1_ n2_ n3_; clear hp hlc hb y2 zy2 m0 zm0 n0 zn0; have m0 := (blk_cell X1.out 0).trans rfl; have zm0 := blk_frozen X1.out 0; have n0 := (blk_cell X2.out 0).trans rfl; have zn0 := blk_frozen X2.out 0; have y2 := (PL_cF HQ.out rfl 2 (by decide) HCS.out rfl).1; have zy2 := (PL_cF HQ.out rfl 2 (by decide) HCS.out rfl).2))
    go_meet
    exact ⟨A2, c2, _, _, innerB, rfl, ⟨HLC.out, rfl, Nat.le_trans HSZ.out (Nat.le_of_eq (size_set _ _ _).symm)⟩, ⟨below_set HB.out (Nat.le_trans HG.out.1 HG0.out.1)⟩, ⟨blk_far X1.out (p := ⟨g0, _, none⟩) (Nat.ne_of_lt (Nat.lt_of_lt_of_le HG.out.2.1 HG0.out.1)) _⟩, ⟨blk_far X2.out (p := ⟨g0, _, none⟩) (Nat.ne_of_lt (Nat.lt_of_lt_of_le HG.out.2.2.1 HG0.out.1)) _⟩, ⟨PL_set HQ.out 2 (by decide) _⟩, ⟨by rw [seg_set_eq _ _ (by decide), HCS.out]; rfl⟩, ⟨PL_up (PL_elder HPB.out HG0.out.2 _) (Nat.le_of_eq (size_set _ _ _).symm)⟩⟩
   case rest =>
    clear m0 zm0 n0 zn0
    clear y2 zy2
    clear HB X1 X2 HQ HCS p1 p2 hd
    obtain ⟨A2, c2, B1, innerF, innerB, rfl, HS2, HB, X1, X2, HQ, HCS, HPB⟩ := hcut
    have HB1' := Aside0.mk (show B0 ≤ B1 by rw [HS2.out.2.1]; exact HB1.out)
    have m0 := (blk_cell X1.out 0).trans rfl
    have zm0 := blk_frozen X1.out 0
    have n0 := (blk_cell X2.out 0).trans rfl
    have zn0 := blk_frozen X2.out 0
    have y2 := (PL_cF HQ.out rfl 2 (by decide) HCS.out rfl).1
    have zy2 := (PL_cF HQ.out rfl 2 (by decide) HCS.out rfl).2
    go_wp2
    clear m0 zm0 n0 zn0
    clear y2 zy2
    go_loopg [35] 1000000 (fun gg s wr => ∃ (y : Int) (innerB : List Value), s = .int .i64 y ∧ Aside0 (0 ≤ y ∧ y ≤ f.f2.length ∧ (f.f2.length : Int) - y ≤ gg) ∧ Aside0 (Below w.heap.size w wr) ∧ Aside0 (wr.heap[g1]? = some (.cells #[.slice (some ⟨g0, 0, none⟩) m.length c] 24 (0, 0))) ∧ Aside0 (wr.heap[g2]? = some (.cells #[.slice none 0 0] 24 (0, 0))) ∧ Aside0 (PL sF 27 w wr B0 B0 B1 (.slice (some ⟨g0, 0, none⟩) m.length c) m x.toNat (x.toNat + 1) innerF) ∧ Aside0 (PL sB 41 w wr B1 B1 wr.heap.size (.slice A2 f.f2.length c2) f.f2 y.toNat y.toNat innerB) ∧ Aside0 (B1 ≤ wr.heap.size))
    case atStart => exact ⟨0, innerB, rfl, ⟨by have := HN.out.nb f HMB.out; omega⟩, HB, X1, X2, HQ, HPB, ⟨HS2.out.2.2⟩⟩
    case round =>
     clear HB X1 X2 HQ HPB
     obtain ⟨y, innerB, rfl, HY, HB, X1, X2, HQ, HPB, HZ⟩ := hrel
     have m0 := (blk_cell X1.out 0).trans rfl
     have zm0 := blk_frozen X1.out 0
     have n0 := (blk_cell X2.out 0).trans rfl
     have zn0 := blk_frozen X2.out 0
     have y2 := (PL_cF HQ.out rfl 2 (by decide) HCS.out rfl).1
     have zy2 := (PL_cF HQ.out rfl 2 (by decide) HCS.out rfl).2
     by_cases hlt : y < (f.f2.length : Int)
     rotate_left
     ·have hd : decide (y < (f.f2.length : Int)) = false := decide_eq_false hlt
      have HLY := Aside0.mk hlt
      clear hlt
      have HNX := Aside0.mk (PL_next HQ.out HSM.out HZ.out (by rw [HCS.out]; exact ⟨_, rfl, Kd.S_mono (Kd.S_lower (Kd.S_bound (PL_all HPB.out (by have := HLY.out; have := HY.out; omega))) HB1'.out) (fun k hk => hk.2.1)⟩))
      go_wp2
      have W1 := Aside0.mk (show wrap64 (x + 1) = x + 1 from wrap_in _ (by have := HX.out; omega) (by have := HLT.out; have := HN.out.nf; omega))
      have T1 := Aside0.mk (show (x + 1).toNat = x.toNat + 1 by have := HX.out; omega)
      go_roundg ((m.length : Int) - (x + 1)).toNat
      case measure => have h1_ := HX.out; have h2_ := HLT.out; omega
      case rel => exact ⟨x + 1, _, by first | (rw [W1.out]; done) | rfl | (simp only [W1.out]; done), ⟨by have := HX.out; have := HLT.out; omega⟩, HB, X1, X2, ⟨by rw [T1.out]; exact HNX.out⟩⟩
     have hd : decide (y < (f.f2.length : Int)) = true := decide_eq_true hlt
     have HLY := Aside0.mk hlt
     clear hlt
     have p1 : (0 ≤ y) = True := eq_true HY.out.1
     have p2 : (y < (f.f2.length : Int)) = True := eq_true HLY.out
     obtain ⟨gb, c2', e1, hg0, hg1⟩ := PL_form HPB.out (by have := HLY.out; have := HY.out; omega)
     injection e1 with e1 _ e2
     subst e1
     subst e2
     have HGB := Aside0.mk (And.intro hg0 hg1)
     clear hg0 hg1
     have HMC := Aside0.mk (rd_mem' f.f2 z41 y HY.out.1 HLY.out)
     have HSB := Aside0.mk (rd_some f.f2 z41 y HY.out.1 HLY.out)
     have hrd : f.f2.getD y.toNat z41 = rd_T41 f.f2 y := rfl
     rw [hrd] at HMC HSB
     clear hrd
     generalize rd_T41 f.f2 y = b at HMC HSB
     obtain ⟨hK, hP⟩ := PL_open HPB.out HSB.out
     obtain ⟨A4, c4, A5, c5, A6, c6, hcs, hl4, hC4, hl5, hC5, hl6, hC6⟩ := k41_open hK
     have HPC := Aside0.mk hP
     have C4 := Aside0.mk hC4
     have C5 := Aside0.mk hC5
     have C6 := Aside0.mk hC6
     have HL := Aside0.mk (And.intro hl4 (And.intro hl5 hl6))
     have HCB := Aside0.mk hcs
     clear hK hP hC4 hC5 hC6 hl4 hl5 hl6 hcs HPB
     have x2 := (PL_cB HPC.out rfl 2 (by decide) HCB.out rfl).1
     have zx2 := (PL_cB HPC.out rfl 2 (by decide) HCB.out rfl).2
     have x5 := (PL_cB HPC.out rfl 5 (by decide) HCB.out rfl).1
     have zx5 := (PL_cB HPC.out rfl 5 (by decide) HCB.out rfl).2
     have x10 := (PL_cB HPC.out rfl 10 (by decide) HCB.out rfl).1
     have zx10 := (PL_cB HPC.out rfl 10 (by decide) HCB.out rfl).2
     go_upto_region 11 with (fail)
     go_cut [35] from 35 to 97 (fun v35 wc => ∃ (D4 : Option Addr) (k4 : Nat) (D5 : Option Addr) (k5 : Nat) (D6 : Option Addr) (k6 B2 N1 N2 N3 : Nat) (innerB innerI : List Value), v35 = .int .i64 y ∧ Aside0 (B2 = wr.heap.size ∧ B2 ≤ N1 ∧ N1 ≤ N2 ∧ N2 ≤ N3 ∧ N3 ≤ wc.heap.size ∧ b.f2.length ≤ k5) ∧ Aside0 (∀ k, Value.ownBlock (.slice D5 b.f2.length k5) = some k → N1 ≤ k ∧ k < N2) ∧ Aside0 (Below w.heap.size w wc) ∧ Aside0 (wc.heap[g1]? = some (.cells #[.slice (some ⟨g0, 0, none⟩) m.length c] 24 (0, 0))) ∧ Aside0 (wc.heap[g2]? = some (.cells #[.slice none 0 0] 24 (0, 0))) ∧ Aside0 (PL sF 27 w wc B0 B0 B1 (.slice (some ⟨g0, 0, none⟩) m.length c) m x.toNat (x.toNat + 1) innerF) ∧ Aside0 (PL sB 41 w wc B1 B1 B2 (.slice (some ⟨gb, 0, none⟩) f.f2.length c2) f.f2 y.toNat (y.toNat + 1) innerB) ∧ Aside0 (seg innerB sB.sz y.toNat = [.bool b.f0, .int .i64 b.f1.f0, .slice D4 b.f1.f1.length k4, .bool b.f1.f2, .bool b.f1.f3, .slice D5 b.f2.length k5, .int .i64 b.f3.f0, .int .i64 b.f3.f1, .int .i64 b.f3.f2, .int .i64 b.f3.f3, .slice D6 b.f3.f4.length k6, .int .i64 b.f3.f5, .int .i64 b.f3.f6, .int .i64 b.f3.f7]) ∧ Aside0 (Kd.R (Kd.int .u16) 44 wc B2 (fun k => k < N1) (.slice D4 b.f1.f1.length k4) b.f1.f1) ∧ Aside0 (Kd.R (Kd.int .i64) 3 wc N2 (fun k => k < N3) (.slice D6 b.f3.f4.length k6) b.f3.f4) ∧ Aside0 (PL k49 49 w wc N1 N3 wc.heap.size (.slice D5 b.f2.length k5) b.f2 0 0 innerI))
     case first =>
      go_wp2
      refine start_ (S := (fun W : World => Below wr.heap.size wr W)) (ds := [23, 26, 30]) #[false, false, false, false, false, false, false, false, false, false, false, false, false, false, false, false, false, false, false, false, false, false, false, false, false, false, false, false, false, false, false] (by kernel_rfl) (by rfl) (by rfl) (below_drew (Below.refl _ _)) (fun hS => ?_)
      refine pure_ (i := 0) (N := some 44) (v := .pointer (some ⟨gb, y.toNat * 14, none⟩)) (a' := ?axr1) #[true, false, false, false, false, false, false, false, false, false, false, false, false, false, false, false, false, false, false, false, false, false, false, false, false, false, false, false, false, false, false] rfl rfl (by kernel_rfl) (fun _ _ _ h => h) (Or.inl ⟨by rfl, ?yyr1⟩) ?har1 ?hhr1
      case yyr1 => intro W; go_simp; done
      case har1 => try simp only [Act.put, List.setIfInBounds_toArray, List.set_cons_zero, List.set_cons_succ]; exact rfl
      refine pure_ (i := 1) (N := some 45) (v := .pointer (some ⟨gb, y.toNat * 14, none⟩)) (a' := ?axr2) #[true, true, false, false, false, false, false, false, false, false, false, false, false, false, false, false, false, false, false, false, false, false, false, false, false, false, false, false, false, false, false] rfl rfl (by kernel_rfl) (fun _ _ _ h => h) (Or.inl ⟨by rfl, ?yyr2⟩) ?har2 ?hhr2
      case yyr2 => intro W; go_simp; done
      case har2 => try simp only [Act.put, List.setIfInBounds_toArray, List.set_cons_zero, List.set_cons_succ]; exact rfl
      refine pure_ (i := 2) (N := some 46) (v := .pointer (some ⟨gb, y.toNat * 14, none⟩)) (a' := ?axr3) #[true, true, true, false, false, false, false, false, false, false, false, false, false, false, false, false, false, false, false, false, false, false, false, false, false, false, false, false, false, false, false] rfl rfl (by kernel_rfl) (fun _ _ _ h => h) (Or.inl ⟨by rfl, ?yyr3⟩) ?har3 ?hhr3
      case yyr3 => intro W; go_simp; done
      case har3 => try simp only [Act.put, List.setIfInBounds_toArray, List.set_cons_zero, List.set_cons_succ]; exact rfl
      refine pure_ (i := 3) (N := some 47) (v := .pointer (some ⟨gb, y.toNat * 14, none⟩)) (a' := ?axr4) #[true, true, true, true, false, false, false, false, false, false, false, false, false, false, false, false, false, false, false, false, false, false, false, false, false, false, false, false, false, false, false] rfl rfl (by kernel_rfl) (fun _ _ _ h => h) (Or.inl ⟨by rfl, ?yyr4⟩) ?har4 ?hhr4
      case yyr4 => intro W; go_simp; done
      case har4 => try simp only [Act.put, List.setIfInBounds_toArray, List.set_cons_zero, List.set_cons_succ]; exact rfl
      refine pure_ (i := 4) (N := some 48) (v := .pointer (some ⟨gb, y.toNat * 14, none⟩)) (a' := ?axr5) #[true, true, true, true, true, false, false, false, false, false, false, false, false, false, false, false, false, false, false, false, false, false, false, false, false, false, false, false, false, false, false] rfl rfl (by kernel_rfl) (fun _ _ _ h => h) (Or.inl ⟨by rfl, ?yyr5⟩) ?har5 ?hhr5
      case yyr5 => intro W; go_simp; done
      case har5 => try simp only [Act.put, List.setIfInBounds_toArray, List.set_cons_zero, List.set_cons_succ]; exact rfl
      refine pure_ (i := 5) (N := some 49) (v := .pointer (some ⟨gb, y.toNat * 14 + 1, none⟩)) (a' := ?axr6) #[true, true, true, true, true, true, false, false, false, false, false, false, false, false, false, false, false, false, false, false, false, false, false, false, false, false, false, false, false, false, false] rfl rfl (by kernel_rfl) (fun _ _ _ h => h) (Or.inl ⟨by rfl, ?yyr6⟩) ?har6 ?hhr6
      case yyr6 => intro W; go_simp; done
      case har6 => try simp only [Act.put, List.setIfInBounds_toArray, List.set_cons_zero, List.set_cons_succ]; exact rfl
      refine pure_ (i := 6) (N := some 50) (v := .pointer (some ⟨gb, y.toNat * 14 + 2, none⟩)) (a' := ?axr7) #[true, true, true, true, true, true, true, false, false, false, false, false, false, false, false, false, false, false, false, false, false, false, false, false, false, false, false, false, false, false, false] rfl rfl (by kernel_rfl) (fun _ _ _ h => h) (Or.inl ⟨by rfl, ?yyr7⟩) ?har7 ?hhr7
      case yyr7 => intro W; go_simp; done
      case har7 => try simp only [Act.put, List.setIfInBounds_toArray, List.set_cons_zero, List.set_cons_succ]; exact rfl
      refine take_ (i := 7) (N := some 51) (v := .slice A4 b.f1.f1.length c4) (a' := ?axr8) #[true, true, true, true, true, true, true, true, false, false, false, false, false, false, false, false, false, false, false, false, false, false, false, false, false, false, false, false, false, false, false] rfl rfl (by kernel_rfl) (fun _ _ _ h => h) (Or.inl ⟨by rfl, ?yyr8⟩) hS ?har8 ?hhr8
      case yyr8 => intro W hW; have q2 := pw_cell_below hW x2; have q5 := pw_cell_below hW x5; have q10 := pw_cell_below hW x10; go_simp; done
      case har8 => try simp only [Act.put, List.setIfInBounds_toArray, List.set_cons_zero, List.set_cons_succ]; exact rfl
      refine pure_ (i := 9) (N := some 53) (v := .pointer (some ⟨gb, y.toNat * 14, none⟩)) (a' := ?axr9) #[true, true, true, true, true, true, true, true, false, true, false, false, false, false, false, false, false, false, false, false, false, false, false, false, false, false, false, false, false, false, false] rfl rfl (by kernel_rfl) (fun _ _ _ h => h) (Or.inl ⟨by rfl, ?yyr9⟩) ?har9 ?hhr9
      case yyr9 => intro W; go_simp; done
      case har9 => try simp only [Act.put, List.setIfInBounds_toArray, List.set_cons_zero, List.set_cons_succ]; exact rfl
      refine pure_ (i := 10) (N := some 54) (v := .pointer (some ⟨gb, y.toNat * 14, none⟩)) (a' := ?axr10) #[true, true, true, true, true, true, true, true, false, true, true, false, false, false, false, false, false, false, false, false, false, false, false, false, false, false, false, false, false, false, false] rfl rfl (by kernel_rfl) (fun _ _ _ h => h) (Or.inl ⟨by rfl, ?yyr10⟩) ?har10 ?hhr10
      case yyr10 => intro W; go_simp; done
      case har10 => try simp only [Act.put, List.setIfInBounds_toArray, List.set_cons_zero, List.set_cons_succ]; exact rfl
      refine pure_ (i := 11) (N := some 55) (v := .pointer (some ⟨gb, y.toNat * 14 + 5, none⟩)) (a' := ?axr11) #[true, true, true, true, true, true, true, true, false, true, true, true, false, false, false, false, false, false, false, false, false, false, false, false, false, false, false, false, false, false, false] rfl rfl (by kernel_rfl) (fun _ _ _ h => h) (Or.inl ⟨by rfl, ?yyr11⟩) ?har11 ?hhr11
      case yyr11 => intro W; go_simp; done
      case har11 => try simp only [Act.put, List.setIfInBounds_toArray, List.set_cons_zero, List.set_cons_succ]; exact rfl
      refine take_ (i := 12) (N := some 56) (v := .slice A5 b.f2.length c5) (a' := ?axr12) #[true, true, true, true, true, true, true, true, false, true, true, true, true, false, false, false, false, false, false, false, false, false, false, false, false, false, false, false, false, false, false] rfl rfl (by kernel_rfl) (fun _ _ _ h => h) (Or.inl ⟨by rfl, ?yyr12⟩) hS ?har12 ?hhr12
      case yyr12 => intro W hW; have q2 := pw_cell_below hW x2; have q5 := pw_cell_below hW x5; have q10 := pw_cell_below hW x10; go_simp; done
      case har12 => try simp only [Act.put, List.setIfInBounds_toArray, List.set_cons_zero, List.set_cons_succ]; exact rfl
      refine pure_ (i := 14) (N := some 58) (v := .pointer (some ⟨gb, y.toNat * 14, none⟩)) (a' := ?axr13) #[true, true, true, true, true, true, true, true, false, true, true, true, true, false, true, false, false, false, false, false, false, false, false, false, false, false, false, false, false, false, false] rfl rfl (by kernel_rfl) (fun _ _ _ h => h) (Or.inl ⟨by rfl, ?yyr13⟩) ?har13 ?hhr13
      case yyr13 => intro W; go_simp; done
      case har13 => try simp only [Act.put, List.setIfInBounds_toArray, List.set_cons_zero, List.set_cons_succ]; exact rfl
      refine pure_ (i := 15) (N := some 59) (v := .pointer (some ⟨gb, y.toNat * 14, none⟩)) (a' := ?axr14) #[true, true, true, true, true, true, true, true, false, true, true, true, true, false, true, true, false, false, false, false, false, false, false, false, false, false, false, false, false, false, false] rfl rfl (by kernel_rfl) (fun _ _ _ h => h) (Or.inl ⟨by rfl, ?yyr14⟩) ?har14 ?hhr14
      case yyr14 => intro W; go_simp; done
      case har14 => try simp only [Act.put, List.setIfInBounds_toArray, List.set_cons_zero, List.set_cons_succ]; exact rfl
      refine pure_ (i := 16) (N := some 60) (v := .pointer (some ⟨gb, y.toNat * 14 + 6, none⟩)) (a' := ?axr15) #[true, true, true, true, true, true, true, true, false, true, true, true, true, false, true, true, true, false, false, false, false, false, false, false, false, false, false, false, false, false, false] rfl rfl (by kernel_rfl) (fun _ _ _ h => h) (Or.inl ⟨by rfl, ?yyr15⟩) ?har15 ?hhr15
      case yyr15 => intro W; go_simp; done
      case har15 => try simp only [Act.put, List.setIfInBounds_toArray, List.set_cons_zero, List.set_cons_succ]; exact rfl
      refine pure_ (i := 17) (N := some 61) (v := .pointer (some ⟨gb, y.toNat * 14 + 10, none⟩)) (a' := ?axr16) #[true, true, true, true, true, true, true, true, false, true, true, true, true, false, true, true, true, true, false, false, false, false, false, false, false, false, false, false, false, false, false] rfl rfl (by kernel_rfl) (fun _ _ _ h => h) (Or.inl ⟨by rfl, ?yyr16⟩) ?har16 ?hhr16
      case yyr16 => intro W; go_simp; done
      case har16 => try simp only [Act.put, List.setIfInBounds_toArray, List.set_cons_zero, List.set_cons_succ]; exact rfl
      refine take_ (i := 18) (N := some 62) (v := .slice A6 b.f3.f4.length c6) (a' := ?axr17) #[true, true, true, true, true, true, true, true, false, true, true, true, true, false, true, true, true, true, true, false, false, false, false, false, false, false, false, false, false, false, false] rfl rfl (by kernel_rfl) (fun _ _ _ h => h) (Or.inl ⟨by rfl, ?yyr17⟩) hS ?har17 ?hhr17
      case yyr17 => intro W hW; have q2 := pw_cell_below hW x2; have q5 := pw_cell_below hW x5; have q10 := pw_cell_below hW x10; go_simp; done
      case har17 => try simp only [Act.put, List.setIfInBounds_toArray, List.set_cons_zero, List.set_cons_succ]; exact rfl
      refine one_ (i := 8) (N := some 52) #[true, true, true, true, true, true, true, true, true, true, true, true, true, false, true, true, true, true, true, false, false, false, false, false, false, false, false, false, false, false, false] rfl rfl (by kernel_rfl) (by decide) (fun K hK => ?_)
      refine goes_ Try.func61 (by kernel_rfl) rfl #[.slice A4 b.f1.f1.length c4] (by rfl) rfl rfl (by simp only [List.map_toArray, List.map_cons, List.map_nil]; rfl) ?_
      refine (sl_Clone_u16 A4 c4 b.f1.f1 _ (Kd.C_below C4.out (HB.out.trans (hS.mono HB.out.size))) HL.out.1 (by have := HN.out.nc f HMB.out b HMC.out; omega)).mono ?_
      rintro e w6 ⟨v6, rfl, hr, hb⟩
      refine ⟨_, rfl, ?_⟩
      obtain ⟨D4, k4, rfl, hlc4, _⟩ := Kd.R_reads hr
      have HR4 := Aside0.mk (show Kd.R (Kd.int .u16) 44 w6 wr.heap.size (fun k => k < w6.heap.size) (.slice D4 b.f1.f1.length k4) b.f1.f1 from Kd.R_mono (Kd.R_bound hr) (fun k hk => hk.2.2.1))
      have hS' := hS.trans (hb.mono hS.size)
      have HS6 := Aside0.mk (show wr.heap.size ≤ w6.heap.size from hb.size)
      clear hr hb hlc4
      refine hK _ _ hS' (fun hS => ?_)
      clear hK K
      try simp only [Act.put, List.setIfInBounds_toArray, List.set_cons_zero, List.set_cons_succ]
      refine one_ (i := 13) (N := some 57) #[true, true, true, true, true, true, true, true, true, true, true, true, true, true, true, true, true, true, true, false, false, false, false, false, false, false, false, false, false, false, false] rfl rfl (by kernel_rfl) (by decide) (fun K hK => ?_)
      refine goes_ Try.func62 (by kernel_rfl) rfl #[.slice A5 b.f2.length c5] (by rfl) rfl rfl (by simp only [List.map_toArray, List.map_cons, List.map_nil]; rfl) ?_
      refine (cl_I w A5 c5 b.f2 _ C5.out (HB.out.trans (hS.mono HB.out.size)) HL.out.2.1 (by have := HN.out.ni f HMB.out b HMC.out; omega)).mono ?_
      rintro e w7 ⟨⟨D5, k5, innerI, rfl, hlc5, hp⟩, hb⟩
      refine ⟨_, rfl, ?_⟩
      have HPI := Aside0.mk hp
      have HR4' := Aside0.mk (Kd.R_below HR4.out hb)
      clear HR4
      have hS' := hS.trans (hb.mono hS.size)
      have HS7 := Aside0.mk (show w6.heap.size ≤ w7.heap.size from hb.size)
      have HLK5 := Aside0.mk hlc5
      clear hp hb hlc5
      refine hK _ _ hS' (fun hS => ?_)
      clear hK K
      try simp only [Act.put, List.setIfInBounds_toArray, List.set_cons_zero, List.set_cons_succ]
      refine one_ (i := 19) (N := some 63) #[true, true, true, true, true, true, true, true, true, true, true, true, true, true, true, true, true, true, true, true, false, false, false, false, false, false, false, false, false, false, false] rfl rfl (by kernel_rfl) (by decide) (fun K hK => ?_)
      refine goes_ Try.func63 (by kernel_rfl) rfl #[.slice A6 b.f3.f4.length c6] (by rfl) rfl rfl (by simp only [List.map_toArray, List.map_cons, List.map_nil]; rfl) ?_
      refine (sl_Clone_int A6 c6 b.f3.f4 _ (Kd.C_below C6.out (HB.out.trans (hS.mono HB.out.size))) HL.out.2.2 (by have := HN.out.ne f HMB.out b HMC.out; omega)).mono ?_
      rintro e w8 ⟨v8, rfl, hr, hb⟩
      refine ⟨_, rfl, ?_⟩
      obtain ⟨D6, k6, rfl, hlc6, _⟩ := Kd.R_reads hr
      have HR6 := Aside0.mk (show Kd.R (Kd.int .i64) 3 w8 w7.heap.size (fun k => k < w8.heap.size) (.slice D6 b.f3.f4.length k6) b.f3.f4 from Kd.R_mono (Kd.R_bound hr) (fun k hk => hk.2.2.1))
      have HR4 := Aside0.mk (Kd.R_below HR4'.out hb)
      have HPJ := Aside0.mk (PL_below HPI.out hb)
      clear HR4'
      have hS' := hS.trans (hb.mono hS.size)
      have HS8 := Aside0.mk (show w7.heap.size ≤ w8.heap.size from hb.size)
      clear hr hb hlc6
      refine hK _ _ hS' (fun hS => ?_)
      clear hK K
      try simp only [Act.put, List.setIfInBounds_toArray, List.set_cons_zero, List.set_cons_succ]
      refine pure_ (i := 20) (N := some 64) (v := .pointer (some ⟨gb, y.toNat * 14, none⟩)) (a' := ?axr18) #[true, true, true, true, true, true, true, true, true, true, true, true, true, true, true, true, true, true, true, true, true, false, false, false, false, false, false, false, false, false, false] rfl rfl (by kernel_rfl) (fun _ _ _ h => h) (Or.inl ⟨by rfl, ?yyr18⟩) ?har18 ?hhr18
      case yyr18 => intro W; go_simp; done
      case har18 => try simp only [Act.put, List.setIfInBounds_toArray, List.set_cons_zero, List.set_cons_succ]; exact rfl
      refine pure_ (i := 21) (N := some 65) (v := .pointer (some ⟨gb, y.toNat * 14 + 1, none⟩)) (a' := ?axr19) #[true, true, true, true, true, true, true, true, true, true, true, true, true, true, true, true, true, true, true, true, true, true, false, false, false, false, false, false, false, false, false] rfl rfl (by kernel_rfl) (fun _ _ _ h => h) (Or.inl ⟨by rfl, ?yyr19⟩) ?har19 ?hhr19
      case yyr19 => intro W; go_simp; done
      case har19 => try simp only [Act.put, List.setIfInBounds_toArray, List.set_cons_zero, List.set_cons_succ]; exact rfl
      refine pure_ (i := 22) (N := some 66) (v := .pointer (some ⟨gb, y.toNat * 14 + 2, none⟩)) (a' := ?axr20) #[true, true, true, true, true, true, true, true, true, true, true, true, true, true, true, true, true, true, true, true, true, true, true, false, false, false, false, false, false, false, false] rfl rfl (by kernel_rfl) (fun _ _ _ h => h) (Or.inl ⟨by rfl, ?yyr20⟩) ?har20 ?hhr20
      case yyr20 => intro W; go_simp; done
      case har20 => try simp only [Act.put, List.setIfInBounds_toArray, List.set_cons_zero, List.set_cons_succ]; exact rfl
      have hb := hS
      have n0_ := Aside0.mk (below_step HB.out hb)
      have n1_ := Aside0.mk (blk_below X1.out hb)
      have n2_ := Aside0.mk (blk_below X2.out hb)
      have n3_ := Aside0.mk (PL_below HQ.out hb)
      have n4_ := Aside0.mk (PL_below HPC.out hb)
      clear HB X1 X2 HQ HPC
      have HB := n0_
      have X1 := n1_
      have X2 := n2_
      have HQ := n3_
      have HPC := n4_
      clear n0_ n1_ n2_ n3_ n4_
      clear hb
      clear x2 zx2 x5 zx5 x10 zx10
      clear m0 zm0 n0 zn0
      clear y2 zy2
      have HS0 := Aside0.mk (show wr.heap.size ≤ w6.heap.size ∧ w6.heap.size ≤ w7.heap.size ∧ w7.heap.size ≤ w8.heap.size from ⟨HS6.out, HS7.out, HS8.out⟩)
      have x2 := (PL_cB HPC.out rfl 2 (by decide) HCB.out rfl).1
      have zx2 := (PL_cB HPC.out rfl 2 (by decide) HCB.out rfl).2
      have x5 := (PL_cB HPC.out rfl 5 (by decide) HCB.out rfl).1
      have zx5 := (PL_cB HPC.out rfl 5 (by decide) HCB.out rfl).2
      have x10 := (PL_cB HPC.out rfl 10 (by decide) HCB.out rfl).1
      have zx10 := (PL_cB HPC.out rfl 10 (by decide) HCB.out rfl).2
      refine last_ (i := 23) (N := none) #[true, true, true, true, true, true, true, true, true, true, true, true, true, true, true, true, true, true, true, true, true, true, true, true, false, false, false, false, false, false, false] rfl rfl (by kernel_rfl) (by decide) (fun K hK => ?_)
      refine skip_ (w1 := ?_) (by rfl) rfl ?_ ?_
      rotate_left
      ·go_simp
       rfl
      refine hK _ _ ?_
      clear hK K
      try simp only [Act.put, List.setIfInBounds_toArray, List.set_cons_zero, List.set_cons_succ]
      have HPC1 := Aside0.mk (PL_set HPC.out 2 (by decide) (.slice D4 b.f1.f1.length k4))
      have HCB1 := Aside0.mk (show seg _ sB.sz y.toNat = [.bool b.f0, .int .i64 b.f1.f0, .slice D4 b.f1.f1.length k4, .bool b.f1.f2, .bool b.f1.f3, .slice A5 b.f2.length c5, .int .i64 b.f3.f0, .int .i64 b.f3.f1, .int .i64 b.f3.f2, .int .i64 b.f3.f3, .slice A6 b.f3.f4.length c6, .int .i64 b.f3.f5, .int .i64 b.f3.f6, .int .i64 b.f3.f7] from (seg_set_eq _ (sz := sB.sz) (j := y.toNat) (o := 2) (.slice D4 b.f1.f1.length k4) (by decide)).trans (by rw [HCB.out]; rfl))
      refine pure_ (i := 24) (N := some 67) (v := .pointer (some ⟨gb, y.toNat * 14, none⟩)) (a' := ?axr21) #[true, true, true, true, true, true, true, true, true, true, true, true, true, true, true, true, true, true, true, true, true, true, true, true, true, false, false, false, false, false, false] rfl rfl (by kernel_rfl) (fun _ _ _ h => h) (Or.inl ⟨by rfl, ?yyr21⟩) ?har21 ?hhr21
      case yyr21 => intro W; go_simp; done
      case har21 => try simp only [Act.put, List.setIfInBounds_toArray, List.set_cons_zero, List.set_cons_succ]; exact rfl
      refine pure_ (i := 25) (N := some 68) (v := .pointer (some ⟨gb, y.toNat * 14 + 5, none⟩)) (a' := ?axr22) #[true, true, true, true, true, true, true, true, true, true, true, true, true, true, true, true, true, true, true, true, true, true, true, true, true, true, false, false, false, false, false] rfl rfl (by kernel_rfl) (fun _ _ _ h => h) (Or.inl ⟨by rfl, ?yyr22⟩) ?har22 ?hhr22
      case yyr22 => intro W; go_simp; done
      case har22 => try simp only [Act.put, List.setIfInBounds_toArray, List.set_cons_zero, List.set_cons_succ]; exact rfl
      refine last_ (i := 26) (N := none) #[true, true, true, true, true, true, true, true, true, true, true, true, true, true, true, true, true, true, true, true, true, true, true, true, true, true, true, false, false, false, false] rfl rfl (by kernel_rfl) (by decide) (fun K hK => ?_)
      refine skip_ (w1 := ?_) (by rfl) rfl ?_ ?_
      rotate_left
      ·go_simp
       rfl
      refine hK _ _ ?_
      clear hK K
      try simp only [Act.put, List.setIfInBounds_toArray, List.set_cons_zero, List.set_cons_succ]
      have HPC2 := Aside0.mk (PL_set HPC1.out 5 (by decide) (.slice D5 b.f2.length k5))
      have HCB2 := Aside0.mk (show seg _ sB.sz y.toNat = [.bool b.f0, .int .i64 b.f1.f0, .slice D4 b.f1.f1.length k4, .bool b.f1.f2, .bool b.f1.f3, .slice D5 b.f2.length k5, .int .i64 b.f3.f0, .int .i64 b.f3.f1, .int .i64 b.f3.f2, .int .i64 b.f3.f3, .slice A6 b.f3.f4.length c6, .int .i64 b.f3.f5, .int .i64 b.f3.f6, .int .i64 b.f3.f7] from (seg_set_eq _ (sz := sB.sz) (j := y.toNat) (o := 5) (.slice D5 b.f2.length k5) (by decide)).trans (by rw [HCB1.out]; rfl))
      refine pure_ (i := 27) (N := some 69) (v := .pointer (some ⟨gb, y.toNat * 14, none⟩)) (a' := ?axr23) #[true, true, true, true, true, true, true, true, true, true, true, true, true, true, true, true, true, true, true, true, true, true, true, true, true, true, true, true, false, false, false] rfl rfl (by kernel_rfl) (fun _ _ _ h => h) (Or.inl ⟨by rfl, ?yyr23⟩) ?har23 ?hhr23
      case yyr23 => intro W; go_simp; done
      case har23 => try simp only [Act.put, List.setIfInBounds_toArray, List.set_cons_zero, List.set_cons_succ]; exact rfl
      refine pure_ (i := 28) (N := some 70) (v := .pointer (some ⟨gb, y.toNat * 14 + 6, none⟩)) (a' := ?axr24) #[true, true, true, true, true, true, true, true, true, true, true, true, true, true, true, true, true, true, true, true, true, true, true, true, true, true, true, true, true, false, false] rfl rfl (by kernel_rfl) (fun _ _ _ h => h) (Or.inl ⟨by rfl, ?yyr24⟩) ?har24 ?hhr24
      case yyr24 => intro W; go_simp; done
      case har24 => try simp only [Act.put, List.setIfInBounds_toArray, List.set_cons_zero, List.set_cons_succ]; exact rfl
      refine pure_ (i := 29) (N := some 71) (v := .pointer (some ⟨gb, y.toNat * 14 + 10, none⟩)) (a' := ?axr25) #[true, true, true, true, true, true, true, true, true, true, true, true, true, true, true, true, true, true, true, true, true, true, true, true, true, true, true, true, true, true, false] rfl rfl (by kernel_rfl) (fun _ _ _ h => h) (Or.inl ⟨by rfl, ?yyr25⟩) ?har25 ?hhr25
      case yyr25 => intro W; go_simp; done
      case har25 => try simp only [Act.put, List.setIfInBounds_toArray, List.set_cons_zero, List.set_cons_succ]; exact rfl
      refine last_ (i := 30) (N := none) #[true, true, true, true, true, true, true, true, true, true, true, true, true, true, true, true, true, true, true, true, true, true, true, true, true, true, true, true, true, true, true] rfl rfl (by kernel_rfl) (by decide) (fun K hK => ?_)
      refine skip_ (w1 := ?_) (by rfl) rfl ?_ ?_
      rotate_left
      ·go_simp
       rfl
      refine hK _ _ ?_
      clear hK K
      try simp only [Act.put, List.setIfInBounds_toArray, List.set_cons_zero, List.set_cons_succ]
      have HPC3 := Aside0.mk (PL_set HPC2.out 10 (by decide) (.slice D6 b.f3.f4.length k6))
      have HCB3 := Aside0.mk (show seg _ sB.sz y.toNat = [.bool b.f0, .int .i64 b.f1.f0, .slice D4 b.f1.f1.length k4, .bool b.f1.f2, .bool b.f1.f3, .slice D5 b.f2.length k5, .int .i64 b.f3.f0, .int .i64 b.f3.f1, .int .i64 b.f3.f2, .int .i64 b.f3.f3, .slice D6 b.f3.f4.length k6, .int .i64 b.f3.f5, .int .i64 b.f3.f6, .int .i64 b.f3.f7] from (seg_set_eq _ (sz := sB.sz) (j := y.toNat) (o := 10) (.slice D6 b.f3.f4.length k6) (by decide)).trans (by rw [HCB2.out]; rfl))
      refine done_ (by kernel_rfl) ?_
      go_wp2
      go_meet
      have HLT0 := Aside0.mk (show w.heap.size ≤ gb ∧ g1 ≠ gb ∧ g2 ≠ gb ∧ gb < w6.heap.size by have := HG.out; have := HB1'.out; have := HGB.out; have := HS0.out; omega)
      obtain ⟨ce0, ty0⟩ := PL_typed HPC.out
      obtain ⟨ce1, ty1⟩ := PL_typed HPC1.out
      obtain ⟨ce2, ty2⟩ := PL_typed HPC2.out
      exact ⟨D4, k4, D5, k5, D6, k6, _, w6.heap.size, w7.heap.size, w8.heap.size, _, innerI, rfl, ⟨rfl, HS0.out.1, HS0.out.2.1, HS0.out.2.2, Nat.le_of_eq (by rw [size_set, size_set, size_set]), HLK5.out⟩, ⟨fun k hk => ⟨own_base HPI.out.2.1 k hk, HPI.out.1.2 k hk⟩⟩, ⟨below_set (below_set (below_set (HB.out) HLT0.out.1) HLT0.out.1) HLT0.out.1⟩, ⟨(blk_far (blk_far (blk_far X1.out (p := ⟨gb, _, none⟩) HLT0.out.2.1 _) (p := ⟨gb, _, none⟩) HLT0.out.2.1 _) (p := ⟨gb, _, none⟩) HLT0.out.2.1 _)⟩, ⟨(blk_far (blk_far (blk_far X2.out (p := ⟨gb, _, none⟩) HLT0.out.2.2.1 _) (p := ⟨gb, _, none⟩) HLT0.out.2.2.1 _) (p := ⟨gb, _, none⟩) HLT0.out.2.2.1 _)⟩, ⟨(PL_young (PL_young (PL_young HQ.out HGB.out.1 _) HGB.out.1 _) HGB.out.1 _)⟩, HPC3, HCB3, ⟨(Kd.R_set (Kd.R_set (Kd.R_set HR4.out ty0 (e_int (by decide)) _ _) ty1 (e_int (by decide)) _ _) ty2 (e_int (by decide)) _ _)⟩, ⟨(Kd.R_set (Kd.R_set (Kd.R_set HR6.out ty0 (e_int (by decide)) _ _) ty1 (e_int (by decide)) _ _) ty2 (e_int (by decide)) _ _)⟩, ⟨PL_up (PL_rebase (PL_elder (PL_elder (PL_elder HPJ.out HLT0.out.2.2.2 _) HLT0.out.2.2.2 _) HLT0.out.2.2.2 _) (by have := HS0.out; omega)) (by have := HS0.out; simp only [size_set]; omega)⟩⟩
     case rest =>
      clear x2 zx2 x5 zx5 x10 zx10
      clear m0 zm0 n0 zn0
      clear y2 zy2
      clear HB X1 X2 HQ HPC HCB p1 p2 hd
      obtain ⟨D4, k4, D5, k5, D6, k6, B2, N1, N2, N3, innerB, innerI, rfl, HSN, HO5, HB, X1, X2, HQ, HPC, HCB, R4, R6, HPI⟩ := hcut
      have HZ2 := Aside0.mk (show B1 ≤ B2 by have := HZ.out; have := HSN.out; omega)
      have m0 := (blk_cell X1.out 0).trans rfl
      have zm0 := blk_frozen X1.out 0
      have n0 := (blk_cell X2.out 0).trans rfl
      have zn0 := blk_frozen X2.out 0
      have y2 := (PL_cF HQ.out rfl 2 (by decide) HCS.out rfl).1
      have zy2 := (PL_cF HQ.out rfl 2 (by decide) HCS.out rfl).2
      have x2 := (PL_cB HPC.out rfl 2 (by decide) HCB.out rfl).1
      have zx2 := (PL_cB HPC.out rfl 2 (by decide) HCB.out rfl).2
      have x5 := (PL_cB HPC.out rfl 5 (by decide) HCB.out rfl).1
      have zx5 := (PL_cB HPC.out rfl 5 (by decide) HCB.out rfl).2
      have x10 := (PL_cB HPC.out rfl 10 (by decide) HCB.out rfl).1
      have zx10 := (PL_cB HPC.out rfl 10 (by decide) HCB.out rfl).2
      go_wp2
      clear x2 zx2 x5 zx5 x10 zx10
      clear m0 zm0 n0 zn0
      clear y2 zy2
      go_loopg [77] 1000000 (fun gg s wr => ∃ (z : Int) (innerI : List Value), s = .int .i64 z ∧ Aside0 (0 ≤ z ∧ z ≤ b.f2.length ∧ (b.f2.length : Int) - z ≤ gg) ∧ Aside0 (Below w.heap.size w wr) ∧ Aside0 (wr.heap[g1]? = some (.cells #[.slice (some ⟨g0, 0, none⟩) m.length c] 24 (0, 0))) ∧ Aside0 (wr.heap[g2]? = some (.cells #[.slice none 0 0] 24 (0, 0))) ∧ Aside0 (PL sF 27 w wr B0 B0 B1 (.slice (some ⟨g0, 0, none⟩) m.length c) m x.toNat (x.toNat + 1) innerF) ∧ Aside0 (PL sB 41 w wr B1 B1 B2 (.slice (some ⟨gb, 0, none⟩) f.f2.length c2) f.f2 y.toNat (y.toNat + 1) innerB) ∧ Aside0 (Kd.R (Kd.int .u16) 44 wr B2 (fun k => k < N1) (.slice D4 b.f1.f1.length k4) b.f1.f1) ∧ Aside0 (Kd.R (Kd.int .i64) 3 wr N2 (fun k => k < N3) (.slice D6 b.f3.f4.length k6) b.f3.f4) ∧ Aside0 (PL k49 49 w wr N1 N3 wr.heap.size (.slice D5 b.f2.length k5) b.f2 z.toNat z.toNat innerI) ∧ Aside0 (N3 ≤ wr.heap.size))
      case atStart => exact ⟨0, innerI, rfl, ⟨by have := HN.out.ni f HMB.out b HMC.out; omega⟩, HB, X1, X2, HQ, HPC, R4, R6, HPI, ⟨HSN.out.2.2.2.2.1⟩⟩
      case round =>
       clear HB X1 X2 HQ HPC R4 R6 HPI
       obtain ⟨z, innerI, rfl, HZZ, HB, X1, X2, HQ, HPC, R4, R6, HPI, HZ3⟩ := hrel
       have m0 := (blk_cell X1.out 0).trans rfl
       have zm0 := blk_frozen X1.out 0
       have n0 := (blk_cell X2.out 0).trans rfl
       have zn0 := blk_frozen X2.out 0
       have y2 := (PL_cF HQ.out rfl 2 (by decide) HCS.out rfl).1
       have zy2 := (PL_cF HQ.out rfl 2 (by decide) HCS.out rfl).2
       have x2 := (PL_cB HPC.out rfl 2 (by decide) HCB.out rfl).1
       have zx2 := (PL_cB HPC.out rfl 2 (by decide) HCB.out rfl).2
       have x5 := (PL_cB HPC.out rfl 5 (by decide) HCB.out rfl).1
       have zx5 := (PL_cB HPC.out rfl 5 (by decide) HCB.out rfl).2
       have x10 := (PL_cB HPC.out rfl 10 (by decide) HCB.out rfl).1
       have zx10 := (PL_cB HPC.out rfl 10 (by decide) HCB.out rfl).2
       by_cases hlt : z < (b.f2.length : Int)
       rotate_left
       ·have hd : decide (z < (b.f2.length : Int)) = false := decide_eq_false hlt
        have HLI := Aside0.mk hlt
        clear hlt
        have HNX := Aside0.mk (PL_next HPC.out HSB.out (by have := HZ3.out; have := HSN.out; omega) (by rw [HCB.out]; exact sB_of (ok2 := fun k => B2 ≤ k ∧ k < N1) (ok5 := fun k => (N1 ≤ k ∧ k < N2) ∨ N3 ≤ k) (ok10 := fun k => N2 ≤ k ∧ k < N3) (Kd.R_mono (Kd.R_lower (Kd.R_bound R4.out) HZ2.out) (fun k hk => ⟨hk.2.1, hk.1⟩)) (Kd.S_mono (Kd.S_lower (PL_all HPI.out (by have := HLI.out; have := HZZ.out; omega)) (by have := HZ2.out; have := HSN.out; omega)) (fun k hk => hk.2.elim (fun h => .inl (HO5.out k h)) .inr)) (Kd.R_mono (Kd.R_lower (Kd.R_bound R6.out) (by have := HZ2.out; have := HSN.out; omega)) (fun k hk => ⟨hk.2.1, hk.1⟩)) (fun k hk => hk.1) (fun k hk => by have := HSN.out; omega) (fun k hk => by have := HSN.out; omega) (fun k hk => by have := HSN.out; omega) (fun k hk => by have := HSN.out; omega) (fun k hk => by have := HSN.out; omega)))
        go_wp2
        have W1 := Aside0.mk (show wrap64 (y + 1) = y + 1 from wrap_in _ (by have := HY.out; omega) (by have := HLY.out; have := HN.out.nb f HMB.out; omega))
        have T1 := Aside0.mk (show (y + 1).toNat = y.toNat + 1 by have := HY.out; omega)
        go_roundg ((f.f2.length : Int) - (y + 1)).toNat
        case measure => have h1_ := HY.out; have h2_ := HLY.out; omega
        case rel => exact ⟨y + 1, _, by first | (rw [W1.out]; done) | rfl | (simp only [W1.out]; done), ⟨by have := HY.out; have := HLY.out; omega⟩, HB, X1, X2, HQ, ⟨by rw [T1.out]; exact HNX.out⟩, ⟨by have := HZ3.out; have := HSN.out; have := HZ2.out; omega⟩⟩
       have hd : decide (z < (b.f2.length : Int)) = true := decide_eq_true hlt
       have HLI := Aside0.mk hlt
       clear hlt
       have p1 : (0 ≤ z) = True := eq_true HZZ.out.1
       have p2 : (z < (b.f2.length : Int)) = True := eq_true HLI.out
       obtain ⟨gi, k5', e1, hg0, hg1⟩ := PL_form HPI.out (by have := HLI.out; have := HZZ.out; omega)
       injection e1 with e1 _ e2
       subst e1
       subst e2
       have HGI := Aside0.mk (And.intro hg0 hg1)
       clear hg0 hg1
       have HMI := Aside0.mk (rd_mem' b.f2 z49 z HZZ.out.1 HLI.out)
       have HSI := Aside0.mk (rd_some b.f2 z49 z HZZ.out.1 HLI.out)
       have hrd : b.f2.getD z.toNat z49 = rd_T49 b.f2 z := rfl
       rw [hrd] at HMI HSI
       clear hrd
       generalize rd_T49 b.f2 z = q at HMI HSI
       obtain ⟨hK, hP⟩ := PL_open HPI.out HSI.out
       obtain ⟨A7, c7, hcs, hl7, hC7⟩ := k49_open hK
       have HPJ := Aside0.mk hP
       have C7 := Aside0.mk hC7
       have HL7 := Aside0.mk hl7
       have HCI := Aside0.mk hcs
       clear hK hP hC7 hl7 hcs HPI
       have v6 := (PL_cI HPJ.out rfl 6 (by decide) HCI.out rfl).1
       have zv6 := (PL_cI HPJ.out rfl 6 (by decide) HCI.out rfl).2
       go_wp2
       refine start_ (S := (fun W : World => Below wr.heap.size wr W)) (ds := [16]) #[false, false, false, false, false, false, false, false, false, false, false, false, false, false, false, false, false] (by kernel_rfl) (by rfl) (by rfl) (below_drew (Below.refl _ _)) (fun hS => ?_)
       refine pure_ (i := 0) (N := some 80) (v := .pointer (some ⟨gb, y.toNat * 14, none⟩)) (a' := ?axs1) #[true, false, false, false, false, false, false, false, false, false, false, false, false, false, false, false, false] rfl rfl (by kernel_rfl) (fun _ _ _ h => h) (Or.inl ⟨by rfl, ?yys1⟩) ?has1 ?hhs1
       case yys1 => intro W; go_simp; done
       case has1 => try simp only [Act.put, List.setIfInBounds_toArray, List.set_cons_zero, List.set_cons_succ]; exact rfl
       refine pure_ (i := 1) (N := some 81) (v := .pointer (some ⟨gb, y.toNat * 14, none⟩)) (a' := ?axs2) #[true, true, false, false, false, false, false, false, false, false, false, false, false, false, false, false, false] rfl rfl (by kernel_rfl) (fun _ _ _ h => h) (Or.inl ⟨by rfl, ?yys2⟩) ?has2 ?hhs2
       case yys2 => intro W; go_simp; done
       case has2 => try simp only [Act.put, List.setIfInBounds_toArray, List.set_cons_zero, List.set_cons_succ]; exact rfl
       refine pure_ (i := 2) (N := some 82) (v := .pointer (some ⟨gb, y.toNat * 14 + 5, none⟩)) (a' := ?axs3) #[true, true, true, false, false, false, false, false, false, false, false, false, false, false, false, false, false] rfl rfl (by kernel_rfl) (fun _ _ _ h => h) (Or.inl ⟨by rfl, ?yys3⟩) ?has3 ?hhs3
       case yys3 => intro W; go_simp; done
       case has3 => try simp only [Act.put, List.setIfInBounds_toArray, List.set_cons_zero, List.set_cons_succ]; exact rfl
       refine take_ (i := 3) (N := some 83) (v := .slice (some ⟨gi, 0, none⟩) b.f2.length k5) (a' := ?axs4) #[true, true, true, true, false, false, false, false, false, false, false, false, false, false, false, false, false] rfl rfl (by kernel_rfl) (fun _ _ _ h => h) (Or.inl ⟨by rfl, ?yys4⟩) hS ?has4 ?hhs4
       case yys4 => intro W hW; have q5 := pw_cell_below hW x5; have q6 := pw_cell_below hW v6; go_simp; done
       case has4 => try simp only [Act.put, List.setIfInBounds_toArray, List.set_cons_zero, List.set_cons_succ]; exact rfl
       refine pure_ (i := 4) (N := some 84) (v := .int .i64 z) (a' := ?axs5) #[true, true, true, true, true, false, false, false, false, false, false, false, false, false, false, false, false] rfl rfl (by kernel_rfl) (fun _ _ _ h => h) (Or.inl ⟨by rfl, ?yys5⟩) ?has5 ?hhs5
       case yys5 => intro W; go_simp; done
       case has5 => try simp only [Act.put, List.setIfInBounds_toArray, List.set_cons_zero, List.set_cons_succ]; exact rfl
       refine pure_ (i := 5) (N := some 85) (v := .pointer (some ⟨gb, y.toNat * 14, none⟩)) (a' := ?axs6) #[true, true, true, true, true, true, false, false, false, false, false, false, false, false, false, false, false] rfl rfl (by kernel_rfl) (fun _ _ _ h => h) (Or.inl ⟨by rfl, ?yys6⟩) ?has6 ?hhs6
       case yys6 => intro W; go_simp; done
       case has6 => try simp only [Act.put, List.setIfInBounds_toArray, List.set_cons_zero, List.set_cons_succ]; exact rfl
       refine pure_ (i := 6) (N := some 86) (v := .pointer (some ⟨gb, y.toNat * 14, none⟩)) (a' := ?axs7) #[true, true, true, true, true, true, true, false, false, false, false, false, false, false, false, false, false] rfl rfl (by kernel_rfl) (fun _ _ _ h => h) (Or.inl ⟨by rfl, ?yys7⟩) ?has7 ?hhs7
       case yys7 => intro W; go_simp; done
       case has7 => try simp only [Act.put, List.setIfInBounds_toArray, List.set_cons_zero, List.set_cons_succ]; exact rfl
       refine pure_ (i := 7) (N := some 87) (v := .pointer (some ⟨gb, y.toNat * 14 + 5, none⟩)) (a' := ?axs8) #[true, true, true, true, true, true, true, true, false, false, false, false, false, false, false, false, false] rfl rfl (by kernel_rfl) (fun _ _ _ h => h) (Or.inl ⟨by rfl, ?yys8⟩) ?has8 ?hhs8
       case yys8 => intro W; go_simp; done
       case has8 => try simp only [Act.put, List.setIfInBounds_toArray, List.set_cons_zero, List.set_cons_succ]; exact rfl
       refine take_ (i := 8) (N := some 88) (v := .slice (some ⟨gi, 0, none⟩) b.f2.length k5) (a' := ?axs9) #[true, true, true, true, true, true, true, true, true, false, false, false, false, false, false, false, false] rfl rfl (by kernel_rfl) (fun _ _ _ h => h) (Or.inl ⟨by rfl, ?yys9⟩) hS ?has9 ?hhs9
       case yys9 => intro W hW; have q5 := pw_cell_below hW x5; have q6 := pw_cell_below hW v6; go_simp; done
       case has9 => try simp only [Act.put, List.setIfInBounds_toArray, List.set_cons_zero, List.set_cons_succ]; exact rfl
       refine pure_ (i := 9) (N := some 89) (v := .int .i64 z) (a' := ?axs10) #[true, true, true, true, true, true, true, true, true, true, false, false, false, false, false, false, false] rfl rfl (by kernel_rfl) (fun _ _ _ h => h) (Or.inl ⟨by rfl, ?yys10⟩) ?has10 ?hhs10
       case yys10 => intro W; go_simp; done
       case has10 => try simp only [Act.put, List.setIfInBounds_toArray, List.set_cons_zero, List.set_cons_succ]; exact rfl
       refine pure_ (i := 10) (N := some 90) (v := .pointer (some ⟨gi, z.toNat * 7, none⟩)) (a' := ?axs11) #[true, true, true, true, true, true, true, true, true, true, true, false, false, false, false, false, false] rfl rfl (by kernel_rfl) (fun _ _ _ h => h) (Or.inl ⟨by rfl, ?yys11⟩) ?has11 ?hhs11
       case yys11 => intro W; go_simp; done
       case has11 => try simp only [Act.put, List.setIfInBounds_toArray, List.set_cons_zero, List.set_cons_succ]; exact rfl
       refine pure_ (i := 11) (N := some 91) (v := .pointer (some ⟨gi, z.toNat * 7 + 6, none⟩)) (a' := ?axs12) #[true, true, true, true, true, true, true, true, true, true, true, true, false, false, false, false, false] rfl rfl (by kernel_rfl) (fun _ _ _ h => h) (Or.inl ⟨by rfl, ?yys12⟩) ?has12 ?hhs12
       case yys12 => intro W; go_simp; done
       case has12 => try simp only [Act.put, List.setIfInBounds_toArray, List.set_cons_zero, List.set_cons_succ]; exact rfl
       refine take_ (i := 12) (N := some 92) (v := .slice A7 q.f6.length c7) (a' := ?axs13) #[true, true, true, true, true, true, true, true, true, true, true, true, true, false, false, false, false] rfl rfl (by kernel_rfl) (fun _ _ _ h => h) (Or.inl ⟨by rfl, ?yys13⟩) hS ?has13 ?hhs13
       case yys13 => intro W hW; have q5 := pw_cell_below hW x5; have q6 := pw_cell_below hW v6; go_simp; done
       case has13 => try simp only [Act.put, List.setIfInBounds_toArray, List.set_cons_zero, List.set_cons_succ]; exact rfl
       refine one_ (i := 13) (N := some 93) #[true, true, true, true, true, true, true, true, true, true, true, true, true, true, false, false, false] rfl rfl (by kernel_rfl) (by decide) (fun K hK => ?_)
       refine goes_ Try.func63 (by kernel_rfl) rfl #[.slice A7 q.f6.length c7] (by rfl) rfl rfl (by simp only [List.map_toArray, List.map_cons, List.map_nil]; rfl) ?_
       refine (sl_Clone_int A7 c7 q.f6 _ (Kd.C_below C7.out (HB.out.trans (hS.mono HB.out.size))) HL7.out (by have := HN.out.na f HMB.out b HMC.out q HMI.out; omega)).mono ?_
       rintro e w9 ⟨v9, rfl, hr, hb⟩
       refine ⟨_, rfl, ?_⟩
       obtain ⟨D7, k7, rfl, hlc7, _⟩ := Kd.R_reads hr
       have HR7 := Aside0.mk (show Kd.R (Kd.int .i64) 3 w9 wr.heap.size (fun k => wr.heap.size ≤ k) (.slice D7 q.f6.length k7) q.f6 from Kd.R_mono (Kd.R_bound hr) (fun k hk => hk.2.1))
       have hS' := hS.trans (hb.mono hS.size)
       have HS9 := Aside0.mk (show wr.heap.size ≤ w9.heap.size from hb.size)
       clear hr hb hlc7
       refine hK _ _ hS' (fun hS => ?_)
       clear hK K
       try simp only [Act.put, List.setIfInBounds_toArray, List.set_cons_zero, List.set_cons_succ]
       refine pure_ (i := 14) (N := some 94) (v := .pointer (some ⟨gi, z.toNat * 7, none⟩)) (a' := ?axs14) #[true, true, true, true, true, true, true, true, true, true, true, true, true, true, true, false, false] rfl rfl (by kernel_rfl) (fun _ _ _ h => h) (Or.inl ⟨by rfl, ?yys14⟩) ?has14 ?hhs14
       case yys14 => intro W; go_simp; done
       case has14 => try simp only [Act.put, List.setIfInBounds_toArray, List.set_cons_zero, List.set_cons_succ]; exact rfl
       refine pure_ (i := 15) (N := some 95) (v := .pointer (some ⟨gi, z.toNat * 7 + 6, none⟩)) (a' := ?axs15) #[true, true, true, true, true, true, true, true, true, true, true, true, true, true, true, true, false] rfl rfl (by kernel_rfl) (fun _ _ _ h => h) (Or.inl ⟨by rfl, ?yys15⟩) ?has15 ?hhs15
       case yys15 => intro W; go_simp; done
       case has15 => try simp only [Act.put, List.setIfInBounds_toArray, List.set_cons_zero, List.set_cons_succ]; exact rfl
       have hb := hS
       have n0_ := Aside0.mk (below_step HB.out hb)
       have n1_ := Aside0.mk (blk_below X1.out hb)
       have n2_ := Aside0.mk (blk_below X2.out hb)
       have n3_ := Aside0.mk (PL_below HQ.out hb)
       have n4_ := Aside0.mk (PL_below HPC.out hb)
       have n5_ := Aside0.mk (Kd.R_below R4.out hb)
       have n6_ := Aside0.mk (Kd.R_below R6.out hb)
       have n7_ := Aside0.mk (PL_below HPJ.out hb)
       clear HB X1 X2 HQ HPC R4 R6 HPJ
       have HB := n0_
       have X1 := n1_
       have X2 := n2_
       have HQ := n3_
       have HPC := n4_
       have R4 := n5_
       have R6 := n6_
       have HPJ := n7_
       clear n0_ n1_ n2_ n3_ n4_ n5_ n6_ n7_
       clear hb
       clear x2 zx2 x5 zx5 x10 zx10
       clear m0 zm0 n0 zn0
       clear y2 zy2
       clear v6 zv6
       have v6 := (PL_cI HPJ.out rfl 6 (by decide) HCI.out rfl).1
       have zv6 := (PL_cI HPJ.out rfl 6 (by decide) HCI.out rfl).2
       refine last_ (i := 16) (N := none) #[true, true, true, true, true, true, true, true, true, true, true, true, true, true, true, true, true] rfl rfl (by kernel_rfl) (by decide) (fun K hK => ?_)
       refine skip_ (w1 := ?_) (by rfl) rfl ?_ ?_
       rotate_left
       ·go_simp
        rfl
       refine hK _ _ ?_
       clear hK K
       try simp only [Act.put, List.setIfInBounds_toArray, List.set_cons_zero, List.set_cons_succ]
       refine done_ (by kernel_rfl) ?_
       go_wp2
       clear v6 zv6
       have HLT0 := Aside0.mk (show w.heap.size ≤ gi ∧ g1 ≠ gi ∧ g2 ≠ gi ∧ B1 ≤ gi ∧ B2 ≤ gi by have := HG.out; have := HB1'.out; have := HGI.out; have := HSN.out; have := HZ2.out; omega)
       obtain ⟨ce0, ty0⟩ := PL_typed HPJ.out
       have HP1 := Aside0.mk (PL_set HPJ.out 6 (by decide) (.slice D7 q.f6.length k7))
       have HCI1 := Aside0.mk (show seg _ k49.sz z.toNat = [.int .i64 q.f0, .int .i64 q.f1, .int .i64 q.f2, .int .i64 q.f3, .int .u16 q.f4, .int .i64 q.f5, .slice D7 q.f6.length k7] from (seg_set_eq _ (sz := k49.sz) (j := z.toNat) (o := 6) (.slice D7 q.f6.length k7) (by decide)).trans (by rw [HCI.out]; rfl))
       have HP2 := Aside0.mk (PL_next HP1.out HSI.out (by rw [size_set]; exact HS9.out) (by rw [HCI1.out]; exact k49_mkM _ _ _ q (Kd.R_lower (Kd.R_set HR7.out ty0 (e_int (by decide)) _ _) HZ3.out)))
       have W1 := Aside0.mk (show wrap64 (z + 1) = z + 1 from wrap_in _ (by have := HZZ.out; omega) (by have := HLI.out; have := HN.out.ni f HMB.out b HMC.out; omega))
       have T1 := Aside0.mk (show (z + 1).toNat = z.toNat + 1 by have := HZZ.out; omega)
       go_roundg ((b.f2.length : Int) - (z + 1)).toNat
       case measure => have h1_ := HZZ.out; have h2_ := HLI.out; omega
       case rel => exact ⟨z + 1, _, by first | (rw [W1.out]; done) | rfl | (simp only [W1.out]; done), ⟨by have := HZZ.out; have := HLI.out; omega⟩, ⟨below_set HB.out HLT0.out.1⟩, ⟨blk_far X1.out (p := ⟨gi, _, none⟩) HLT0.out.2.1 _⟩, ⟨blk_far X2.out (p := ⟨gi, _, none⟩) HLT0.out.2.2.1 _⟩, ⟨PL_young HQ.out HLT0.out.2.2.2.1 _⟩, ⟨PL_young HPC.out HLT0.out.2.2.2.2 _⟩, ⟨Kd.R_set R4.out ty0 (e_int (by decide)) _ _⟩, ⟨Kd.R_set R6.out ty0 (e_int (by decide)) _ _⟩, ⟨by rw [T1.out]; exact HP2.out⟩, ⟨by rw [size_set]; have := HZ3.out; have := HS9.out; omega⟩⟩
end Go.Proofs.Ytbfialebaoeicaa.X
namespace Go.Proofs.Ytbfialebaoeicaa.X
open Go.RowKit Go.Proofs.YtbfialebaoeicaaW.PrintWords Go.Proofs.YtbfialebaoeicaaW.PrintLast Go.Proofs.YtbfialebaoeicaaW.PrintMore
set_option linter.all false
def trimP (p : S35) : S35 := if p.f2 = true then ⟨p.f0, [], true, false⟩ else p
def nothB (b : S41) : Bool := b.f0 && !b.f1.f2 && decide (b.f1.f1.length = 0) && decide (b.f2.length = 0) && (b.f3.f0 == 6)
def newI (b : S41) : S49 := ⟨11, b.f3.f2, 0, 0, 0, b.f3.f3, b.f3.f4⟩
def roundB (b : S41) : S41 := ⟨b.f0, b.f1, b.f2 ++ [newI b], ⟨2, 0, 0, 0, [], b.f3.f5, 0, 0⟩⟩
theorem trim_f (p : S35) (hn : p.f1.length ≤ 1000) : pads_Trim.f p.f0 p.f1 p.f2 p.f3 = some ((trimP p).f0, (trimP p).f1, (trimP p).f2, (trimP p).f3) := by
 unfold pads_Trim.f slices_Clone_uint16_uint16.f trimP
 rw [if_pos (by omega)]
 by_cases h : p.f2 = true
 ·simp [h]
 ·simp [h]
theorem trim_c (p : S35) (A : Option Addr) (c : Nat) (w : World) (hl : Kd.C (Kd.int .u16) w A p.f1.length p.f1) (hc : p.f1.length ≤ c) (hn : p.f1.length ≤ 1000) :
  Calls Try.prog 45 #[.agg #[.int .i64 p.f0, .slice A p.f1.length c, .bool p.f2, .bool p.f3]] w fun e w' => (∃ v, e = .returned (.agg #[.int .i64 (trimP p).f0, v, .bool (trimP p).f2, .bool (trimP p).f3]) ∧ Kd.R (Kd.int .u16) 44 w' w.heap.size (fun _ => True) v (trimP p).f1) ∧ Below w.heap.size w w' := by
 refine (pads_Trim.calls p.f0 A c p.f1 p.f2 p.f3 _ _ _ _ w hl hc (trim_f p hn)).mono ?_
 rintro e w' ⟨v, rfl, hr, hb⟩
 exact ⟨⟨v, rfl, hr⟩, hb⟩
theorem noth_f (b : S41) : pads_Nothing.f b.f0 b.f1.f0 b.f1.f1 b.f1.f2 b.f1.f3 b.f2 b.f3.f0 b.f3.f1 b.f3.f2 b.f3.f3 b.f3.f4 b.f3.f5 b.f3.f6 b.f3.f7 = some (nothB b) := by
 unfold pads_Nothing.f nothB
 by_cases h0 : b.f0 = true
 ·rw [if_pos h0, h0]
  by_cases h1 : b.f1.f2 = true
  ·rw [if_pos h1, h1]; rfl
  ·rw [if_neg h1, show b.f1.f2 = false by simpa using h1]
   by_cases h2 : b.f1.f1.length = 0
   ·rw [if_pos (by omega), decide_eq_true h2]
    by_cases h3 : b.f2.length = 0
    ·rw [if_pos (by omega), decide_eq_true h3]; rfl
    ·rw [if_neg (by omega), decide_eq_false h3]; rfl
   ·rw [if_neg (by omega), decide_eq_false h2]; rfl
 ·rw [if_neg h0, show b.f0 = false by simpa using h0]; rfl
theorem noth_c (b : S41) (A4 : Option Addr) (c4 : Nat) (A5 : Option Addr) (c5 : Nat) (A6 : Option Addr) (c6 : Nat) (w : World) (h4 : Kd.C (Kd.int .u16) w A4 b.f1.f1.length b.f1.f1) (k4 : b.f1.f1.length ≤ c4) (h5 : Kd.C k49 w A5 b.f2.length b.f2) (k5 : b.f2.length ≤ c5) (h6 : Kd.C (Kd.int .i64) w A6 b.f3.f4.length b.f3.f4) (k6 : b.f3.f4.length ≤ c6) :
  Calls Try.prog 42 #[.agg #[.bool b.f0, .int .i64 b.f1.f0, .slice A4 b.f1.f1.length c4, .bool b.f1.f2, .bool b.f1.f3, .slice A5 b.f2.length c5, .int .i64 b.f3.f0, .int .i64 b.f3.f1, .int .i64 b.f3.f2, .int .i64 b.f3.f3, .slice A6 b.f3.f4.length c6, .int .i64 b.f3.f5, .int .i64 b.f3.f6, .int .i64 b.f3.f7]] w fun e w' => e = .returned (.bool (nothB b)) ∧ Below w.heap.size w w' :=
 pads_Nothing.calls b.f0 b.f1.f0 A4 c4 b.f1.f1 b.f1.f2 b.f1.f3 A5 c5 b.f2 b.f3.f0 b.f3.f1 b.f3.f2 b.f3.f3 A6 c6 b.f3.f4 b.f3.f5 b.f3.f6 b.f3.f7 _ w h4 k4 h5 k5 h6 k6 (noth_f b)
theorem grown_put {w W : World} {row : Option Nat} (h : w.grownBy W row) {p : Addr} (hp : w.heap.size ≤ p.block) (u : Value) : w.grownBy (W.setCell p u) row :=
 ⟨h.os, h.tape, h.output, by rw [size_set]; exact h.size, fun i hi hne => (Below.heap_setCell W p u i (by omega)).trans (h.block i hi hne)⟩
def putL (cs : Array Value) (o : Nat) : List Value → Array Value
 | [] => cs
 | v :: r => putL (cs.setIfInBounds o v) (o + 1) r
theorem setL_blk {g : Nat} {t : TypeId} : ∀ (l : List Value) (o : Nat) {w : World} {cs cs' : Array Value} (h : w.heap[g]? = some (.cells cs t (0, 0))) (e : putL cs o l = cs'), (w.setCells g o l).heap[g]? = some (.cells cs' t (0, 0))
 | [], o, w, cs, cs', h, e => by rw [← e]; exact h
 | v :: r, o, w, cs, cs', h, e => setL_blk r (o + 1) (w := w.setCell ⟨g, o, none⟩ v) (blk_set h o v) e
theorem setL_far {w : World} {g k : Nat} {x : Obj} (h : w.heap[k]? = some x) (hk : k ≠ g) (l : List Value) (o : Nat) : (w.setCells g o l).heap[k]? = some x := (setCells_far l o k hk).trans h
theorem setL_size (w : World) (g o : Nat) (l : List Value) : (w.setCells g o l).heap.size = w.heap.size := (setCells_same g l o w).2.2.2
theorem setL_grown {w W : World} {row : Option Nat} (h : w.grownBy W row) {g : Nat} (hg : w.heap.size ≤ g) (o : Nat) (l : List Value) : w.grownBy (W.setCells g o l) row := by
 obtain ⟨h1, h2, h3, h4⟩ := setCells_same g l o W
 exact ⟨h1.trans h.os, h2.trans h.tape, h3.trans h.output, by rw [h4]; exact h.size, fun i hi hne => (setCells_far l o i (by omega)).trans (h.block i hi hne)⟩
theorem setL_below {B : Nat} {w W : World} (h : Below B w W) {g : Nat} (hg : B ≤ g) (o : Nat) (l : List Value) : Below B w (W.setCells g o l) := by
 obtain ⟨h1, h2, h3, h4⟩ := setCells_same g l o W
 exact ⟨h1.trans h.os, h2.trans h.tape, h3.trans h.output, by rw [h4]; exact h.size, fun i hi => (setCells_far l o i (by omega)).trans (h.block i hi)⟩
theorem setL_S {α : Type} {d : Kd α} {e : Nat} {w : World} {base : Nat} {ok : Nat → Prop} {v : Value} {xs : List α} (h : Kd.S d e w base ok v xs) {g t : Nat} {cells : Array Value} (hb : w.heap[g]? = some (.cells cells t (0, 0))) (ht : ∀ q, q ∈ e :: d.E → q ≠ t) (o : Nat) (l : List Value) : Kd.S d e (w.setCells g o l) base ok v xs :=
 Kd.S_mono (Kd.S_step (Kd.S_types h hb ht) (fun k hk _ => setCells_far l o k hk.2)) (fun _ hk => hk.1)
theorem there_blk {w : World} {g : Nat} {t : TypeId} {cs : Array Value} (h : w.heap[g]? = some (.cells cs t (0, 0))) (o n : Nat) (hn : o + n ≤ cs.size) : w.there g o n := by
 intro j hj
 refine ⟨?_, blk_frozen h _⟩
 rw [blk_cell h, Array.getElem?_eq_getElem (by omega)]
 rfl
set_option maxHeartbeats 16000000 in
set_option maxRecDepth 100000 in
theorem round_c (b : S41) (A4 : Option Addr) (c4 : Nat) (A5 : Option Addr) (c5 : Nat) (A6 : Option Addr) (c6 : Nat) (w : World) (base : Nat) (ok5 okA : Nat → Prop) (hbs : base ≤ w.heap.size) (h5 : Kd.S k49 49 w base ok5 (.slice A5 b.f2.length c5) b.f2) (h6 : Kd.R (Kd.int .i64) 3 w base okA (.slice A6 b.f3.f4.length c6) b.f3.f4) (hd : ∀ k, okA k → ¬ ok5 k) (hn : b.f2.length ≤ 1000) :
  Calls Try.prog 77 #[.agg #[.bool b.f0, .int .i64 b.f1.f0, .slice A4 b.f1.f1.length c4, .bool b.f1.f2, .bool b.f1.f3, .slice A5 b.f2.length c5, .int .i64 b.f3.f0, .int .i64 b.f3.f1, .int .i64 b.f3.f2, .int .i64 b.f3.f3, .slice A6 b.f3.f4.length c6, .int .i64 b.f3.f5, .int .i64 b.f3.f6, .int .i64 b.f3.f7]] w fun e w' => (∃ A5' c5', e = .returned (.agg #[.bool b.f0, .int .i64 b.f1.f0, .slice A4 b.f1.f1.length c4, .bool b.f1.f2, .bool b.f1.f3, .slice A5' (b.f2.length + 1) c5', .int .i64 2, .int .i64 0, .int .i64 0, .int .i64 0, .slice none 0 0, .int .i64 b.f3.f5, .int .i64 0, .int .i64 0]) ∧ Kd.S k49 49 w' base (fun k => ok5 k ∨ okA k ∨ w.heap.size ≤ k) (.slice A5' (b.f2.length + 1) c5') (b.f2 ++ [newI b])) ∧ w.grownBy w' (Value.ownBlock (.slice A5 b.f2.length c5)) := by
 have H5 := Aside0.mk h5
 have H6 := Aside0.mk h6
 have HD := Aside0.mk hd
 have HN := Aside0.mk hn
 have HBS := Aside0.mk hbs
 clear h5 h6 hd hn hbs
 have hu41 := Try.underlying41
 have hu39 := Try.underlying39
 have hu49 := Try.underlying49
 have hu35 := Try.underlying35
 go_enter Try.func77, Try.ntmps77
 go_upto_region 1 with (first | ((with_reducible refine gate_dst (N := 1) rfl ?_); refine box_event ?hg (N := 1) ?hd (cs := #[.bool b.f0, .int .i64 b.f1.f0, .slice A4 b.f1.f1.length c4, .bool b.f1.f2, .bool b.f1.f3, .slice A5 b.f2.length c5, .int .i64 b.f3.f0, .int .i64 b.f3.f1, .int .i64 b.f3.f2, .int .i64 b.f3.f3, .slice A6 b.f3.f4.length c6, .int .i64 b.f3.f5, .int .i64 b.f3.f6, .int .i64 b.f3.f7]) (t := 41) ?hr ?_; (case hd => rfl); (case hg => rfl); (case hr => first | (go_simp; done) | (go_simp; rfl)); intro g1 hg w1 hbox hb; have HLX1 := Aside0.mk (show w.heap.size ≤ g1 by rw [hg]; exact Nat.le_refl _); have n0_ := Aside0.mk (Kd.S_below H5.out hb); have n1_ := Aside0.mk (Kd.R_below H6.out hb); clear H5 H6; have H5 := n0_; have H6 := n1_; clear n0_ n1_; have HB := Aside0.mk hb; have X1 := Aside0.mk hbox; clear hbox hb hg; have h0 := (blk_cell X1.out 0).trans rfl; have h1 := (blk_cell X1.out 1).trans rfl; have h2 := (blk_cell X1.out 2).trans rfl; have h3 := (blk_cell X1.out 3).trans rfl; have h4 := (blk_cell X1.out 4).trans rfl; have h5 := (blk_cell X1.out 5).trans rfl; have h6 := (blk_cell X1.out 6).trans rfl; have h7 := (blk_cell X1.out 7).trans rfl; have h8 := (blk_cell X1.out 8).trans rfl; have h9 := (blk_cell X1.out 9).trans rfl; have h10 := (blk_cell X1.out 10).trans rfl; have h11 := (blk_cell X1.out 11).trans rfl; have h12 := (blk_cell X1.out 12).trans rfl; have h13 := (blk_cell X1.out 13).trans rfl; have zh0 := blk_frozen X1.out 0; have zh1 := blk_frozen X1.out 1; have zh2 := blk_frozen X1.out 2; have zh3 := blk_frozen X1.out 3; have zh4 := blk_frozen X1.out 4; have zh5 := blk_frozen X1.out 5; have zh6 := blk_frozen X1.out 6; have zh7 := blk_frozen X1.out 7; have zh8 := blk_frozen X1.out 8; have zh9 := blk_frozen X1.out 9; have zh10 := blk_frozen X1.out 10; have zh11 := blk_frozen X1.out 11; have zh12 := blk_frozen X1.out 12; have zh13 := blk_frozen X1.out 13) | ((with_reducible refine gate_dst (N := 2) rfl ?_); refine box_event ?hg (N := 2) ?hd (cs := #[.bool false, .int .i64 0, .slice none 0 0, .bool false, .bool false, .slice none 0 0, .int .i64 0, .int .i64 0, .int .i64 0, .int .i64 0, .slice none 0 0, .int .i64 0, .int .i64 0, .int .i64 0]) (t := 41) ?hr ?_; (case hd => rfl); (case hg => rfl); (case hr => first | (go_simp; done) | (go_simp; rfl)); intro g2 hg w2 hbox hb; have HLX2 := Aside0.mk (show w.heap.size ≤ g2 by rw [hg]; exact HB.out.size); have HNE := Aside0.mk (show g2 ≠ g1 by rw [hg]; exact Nat.ne_of_gt (blk_lt X1.out)); have n0_ := Aside0.mk (below_step HB.out hb); have n1_ := Aside0.mk (blk_below X1.out hb); have n2_ := Aside0.mk (Kd.S_below H5.out hb); have n3_ := Aside0.mk (Kd.R_below H6.out hb); clear HB X1 H5 H6; have HB := n0_; have X1 := n1_; have H5 := n2_; have H6 := n3_; clear n0_ n1_ n2_ n3_; have X2 := Aside0.mk hbox; clear hbox hb hg; have r0 := (blk_cell X2.out 0).trans rfl; have r1 := (blk_cell X2.out 1).trans rfl; have r2 := (blk_cell X2.out 2).trans rfl; have r3 := (blk_cell X2.out 3).trans rfl; have r4 := (blk_cell X2.out 4).trans rfl; have r5 := (blk_cell X2.out 5).trans rfl; have r6 := (blk_cell X2.out 6).trans rfl; have r7 := (blk_cell X2.out 7).trans rfl; have r8 := (blk_cell X2.out 8).trans rfl; have r9 := (blk_cell X2.out 9).trans rfl; have r10 := (blk_cell X2.out 10).trans rfl; have r11 := (blk_cell X2.out 11).trans rfl; have r12 := (blk_cell X2.out 12).trans rfl; have r13 := (blk_cell X2.out 13).trans rfl; have zr0 := blk_frozen X2.out 0; have zr1 := blk_frozen X2.out 1; have zr2 := blk_frozen X2.out 2; have zr3 := blk_frozen X2.out 3; have zr4 := blk_frozen X2.out 4; have zr5 := blk_frozen X2.out 5; have zr6 := blk_frozen X2.out 6; have zr7 := blk_frozen X2.out 7; have zr8 := blk_frozen X2.out 8; have zr9 := blk_frozen X2.out 9; have zr10 := blk_frozen X2.out 10; have zr11 := blk_frozen X2.out 11; have zr12 := blk_frozen X2.out 12; have zr13 := blk_frozen X2.out 13; clear h0 zh0 h1 zh1 h2 zh2 h3 zh3 h4 zh4 h5 zh5 h6 zh6 h7 zh7 h8 zh8 h9 zh9 h10 zh10 h11 zh11 h12 zh12 h13 zh13; have h0 := (blk_cell X1.out 0).trans rfl; have h1 := (blk_cell X1.out 1).trans rfl; have h2 := (blk_cell X1.out 2).trans rfl; have h3 := (blk_cell X1.out 3).trans rfl; have h4 := (blk_cell X1.out 4).trans rfl; have h5 := (blk_cell X1.out 5).trans rfl; have h6 := (blk_cell X1.out 6).trans rfl; have h7 := (blk_cell X1.out 7).trans rfl; have h8 := (blk_cell X1.out 8).trans rfl; have h9 := (blk_cell X1.out 9).trans rfl; have h10 := (blk_cell X1.out 10).trans rfl; have h11 := (blk_cell X1.out 11).trans rfl; have h12 := (blk_cell X1.out 12).trans rfl; have h13 := (blk_cell X1.out 13).trans rfl; have zh0 := blk_frozen X1.out 0; have zh1 := blk_frozen X1.out 1; have zh2 := blk_frozen X1.out 2; have zh3 := blk_frozen X1.out 3; have zh4 := blk_frozen X1.out 4; have zh5 := blk_frozen X1.out 5; have zh6 := blk_frozen X1.out 6; have zh7 := blk_frozen X1.out 7; have zh8 := blk_frozen X1.out 8; have zh9 := blk_frozen X1.out 9; have zh10 := blk_frozen X1.out 10; have zh11 := blk_frozen X1.out 11; have zh12 := blk_frozen X1.out 12; have zh13 := blk_frozen X1.out 13))
 try simp only [Act.put, List.setIfInBounds_toArray, List.set_cons_zero, List.set_cons_succ]
 go_cut [3] (fun v3 wc => ∃ g3 : Nat, v3 = .pointer (some ⟨g3, 0, none⟩) ∧ Aside0 (w.heap.size ≤ g3 ∧ g3 ≠ g1 ∧ g3 ≠ g2) ∧ Aside0 (Below w.heap.size w wc) ∧ Aside0 (wc.heap[g1]? = some (.cells #[.bool b.f0, .int .i64 b.f1.f0, .slice A4 b.f1.f1.length c4, .bool b.f1.f2, .bool b.f1.f3, .slice A5 b.f2.length c5, .int .i64 b.f3.f0, .int .i64 b.f3.f1, .int .i64 b.f3.f2, .int .i64 b.f3.f3, .slice A6 b.f3.f4.length c6, .int .i64 b.f3.f5, .int .i64 b.f3.f6, .int .i64 b.f3.f7] 41 (0, 0))) ∧ Aside0 (wc.heap[g2]? = some (.cells #[.bool false, .int .i64 0, .slice none 0 0, .bool false, .bool false, .slice none 0 0, .int .i64 0, .int .i64 0, .int .i64 0, .int .i64 0, .slice none 0 0, .int .i64 0, .int .i64 0, .int .i64 0] 41 (0, 0))) ∧ Aside0 (wc.heap[g3]? = some (.cells #[.int .i64 b.f3.f0, .int .i64 b.f3.f1, .int .i64 b.f3.f2, .int .i64 b.f3.f3, .slice A6 b.f3.f4.length c6, .int .i64 b.f3.f5, .int .i64 b.f3.f6, .int .i64 b.f3.f7] 39 (0, 0))) ∧ Aside0 (Kd.S k49 49 wc base ok5 (.slice A5 b.f2.length c5) b.f2) ∧ Aside0 (Kd.R (Kd.int .i64) 3 wc base okA (.slice A6 b.f3.f4.length c6) b.f3.f4))
 case first =>
  go_wp2
  go_meet
  exact ⟨_, rfl, ⟨HB.out.size, Nat.ne_of_gt (blk_lt X1.out), Nat.ne_of_gt (blk_lt X2.out)⟩, ⟨below_alloc HB.out _⟩, ⟨blk_alloc X1.out _⟩, ⟨blk_alloc X2.out _⟩, ⟨blk_new _ _⟩, ⟨Kd.S_alloc H5.out _⟩, ⟨Kd.R_alloc H6.out _⟩⟩
 case rest =>
  clear h0 zh0 h1 zh1 h2 zh2 h3 zh3 h4 zh4 h5 zh5 h6 zh6 h7 zh7 h8 zh8 h9 zh9 h10 zh10 h11 zh11 h12 zh12 h13 zh13
  clear r0 zr0 r1 zr1 r2 zr2 r3 zr3 r4 zr4 r5 zr5 r6 zr6 r7 zr7 r8 zr8 r9 zr9 r10 zr10 r11 zr11 r12 zr12 r13 zr13
  clear HB X1 X2 H5 H6
  obtain ⟨g3, rfl, HG3, HB, X1, X2, X3, H5, H6⟩ := hcut
  have h0 := (blk_cell X1.out 0).trans rfl
  have h1 := (blk_cell X1.out 1).trans rfl
  have h2 := (blk_cell X1.out 2).trans rfl
  have h3 := (blk_cell X1.out 3).trans rfl
  have h4 := (blk_cell X1.out 4).trans rfl
  have h5 := (blk_cell X1.out 5).trans rfl
  have h6 := (blk_cell X1.out 6).trans rfl
  have h7 := (blk_cell X1.out 7).trans rfl
  have h8 := (blk_cell X1.out 8).trans rfl
  have h9 := (blk_cell X1.out 9).trans rfl
  have h10 := (blk_cell X1.out 10).trans rfl
  have h11 := (blk_cell X1.out 11).trans rfl
  have h12 := (blk_cell X1.out 12).trans rfl
  have h13 := (blk_cell X1.out 13).trans rfl
  have zh0 := blk_frozen X1.out 0
  have zh1 := blk_frozen X1.out 1
  have zh2 := blk_frozen X1.out 2
  have zh3 := blk_frozen X1.out 3
  have zh4 := blk_frozen X1.out 4
  have zh5 := blk_frozen X1.out 5
  have zh6 := blk_frozen X1.out 6
  have zh7 := blk_frozen X1.out 7
  have zh8 := blk_frozen X1.out 8
  have zh9 := blk_frozen X1.out 9
  have zh10 := blk_frozen X1.out 10
  have zh11 := blk_frozen X1.out 11
  have zh12 := blk_frozen X1.out 12
  have zh13 := blk_frozen X1.out 13
  have e0 := (blk_cell X3.out 0).trans rfl
  have e1 := (blk_cell X3.out 1).trans rfl
  have e2 := (blk_cell X3.out 2).trans rfl
  have e3 := (blk_cell X3.out 3).trans rfl
  have e4 := (blk_cell X3.out 4).trans rfl
  have e5 := (blk_cell X3.out 5).trans rfl
  have e6 := (blk_cell X3.out 6).trans rfl
  have e7 := (blk_cell X3.out 7).trans rfl
  go_upto_region 2 with (fail)
  go_cut [] (fun wc => ∃ A5' c5', Aside0 (w.grownBy wc (Value.ownBlock (.slice A5 b.f2.length c5))) ∧ Aside0 (wc.heap[g1]? = some (.cells #[.bool b.f0, .int .i64 b.f1.f0, .slice A4 b.f1.f1.length c4, .bool b.f1.f2, .bool b.f1.f3, .slice A5' (b.f2.length + 1) c5', .int .i64 b.f3.f0, .int .i64 b.f3.f1, .int .i64 b.f3.f2, .int .i64 b.f3.f3, .slice A6 b.f3.f4.length c6, .int .i64 b.f3.f5, .int .i64 b.f3.f6, .int .i64 b.f3.f7] 41 (0, 0))) ∧ Aside0 (wc.heap[g2]? = some (.cells #[.bool false, .int .i64 0, .slice none 0 0, .bool false, .bool false, .slice none 0 0, .int .i64 0, .int .i64 0, .int .i64 0, .int .i64 0, .slice none 0 0, .int .i64 0, .int .i64 0, .int .i64 0] 41 (0, 0))) ∧ Aside0 (wc.heap[g3]? = some (.cells #[.int .i64 b.f3.f0, .int .i64 b.f3.f1, .int .i64 b.f3.f2, .int .i64 b.f3.f3, .slice A6 b.f3.f4.length c6, .int .i64 b.f3.f5, .int .i64 b.f3.f6, .int .i64 b.f3.f7] 39 (0, 0))) ∧ Aside0 (Kd.S k49 49 wc base (fun k => ok5 k ∨ okA k ∨ w.heap.size ≤ k) (.slice A5' (b.f2.length + 1) c5') (b.f2 ++ [newI b])))
  case first =>
   go_wp2_with ((with_reducible refine gate_builtin (b := .append) (xs := #[.tmp 7, .tmp 15]) rfl ?_); at_builtin; refine Kd.S_append k49 base rfl (.tmp 7) (.tmp 15) 36 49 _ _ rfl Try.underlying36 infoI rfl (Nat.succ_pos _) (by omega) (.slice A5 b.f2.length c5) b.f2 (newI b) [.int .i64 11, .int .i64 b.f3.f2, .int .i64 0, .int .i64 0, .int .u16 0, .int .i64 b.f3.f3, .slice A6 b.f3.f4.length c6] (fun k => ok5 k ∨ okA k ∨ w.heap.size ≤ k) okA rfl rfl ?aP ?aK ?aF ?aO (Below.refl base _) ?aS ?aL ?_; (case aP => exact k49_mkM _ _ _ (newI b) H6.out); (case aK => exact (fun k hk => ⟨.inr (.inl hk), fun e' => HD.out k hk ((Kd.S_R H5.out).1 k e'.symm)⟩)); (case aF => exact (fun k hk => .inr (.inr (Nat.le_trans HB.out.size hk)))); (case aO => exact (Kd.S_mono H5.out (fun k hk => ⟨.inl hk, fun h => HD.out k h hk⟩))); (case aS => exact (Nat.le_trans HBS.out HB.out.size)); (case aL => have := HN.out; omega); intro v1 w9 hs hb1 hg hat; obtain ⟨A5', c5', rfl, hlc, _⟩ := Kd.S_reads hs; rw [show (b.f2 ++ [newI b]).length = b.f2.length + 1 from by simp] at hs ⊢; have HS := Aside0.mk hs; have HGR := Aside0.mk (World.grownBy.trans (grown_of_below HB.out _) hg); have N1 := Aside0.mk (blk_grown X1.out hg (Kd.S_ne H5.out X1.out (by decide))); have N2 := Aside0.mk (blk_grown X2.out hg (Kd.S_ne H5.out X2.out (by decide))); have N3 := Aside0.mk (blk_grown X3.out hg (Kd.S_ne H5.out X3.out (by decide))); clear h0 zh0 h1 zh1 h2 zh2 h3 zh3 h4 zh4 h5 zh5 h6 zh6 h7 zh7 h8 zh8 h9 zh9 h10 zh10 h11 zh11 h12 zh12 h13 zh13 e0 e1 e2 e3 e4 e5 e6 e7; clear X1 X2 X3 H5 H6 HB hs hb1 hg hat hlc; have X1 := N1; have X2 := N2; have X3 := N3; clear N1 N2 N3; have h0 := (blk_cell X1.out 0).trans rfl; have h1 := (blk_cell X1.out 1).trans rfl; have h2 := (blk_cell X1.out 2).trans rfl; have h3 := (blk_cell X1.out 3).trans rfl; have h4 := (blk_cell X1.out 4).trans rfl; have h5 := (blk_cell X1.out 5).trans rfl; have h6 := (blk_cell X1.out 6).trans rfl; have h7 := (blk_cell X1.out 7).trans rfl; have h8 := (blk_cell X1.out 8).trans rfl; have h9 := (blk_cell X1.out 9).trans rfl; have h10 := (blk_cell X1.out 10).trans rfl; have h11 := (blk_cell X1.out 11).trans rfl; have h12 := (blk_cell X1.out 12).trans rfl; have h13 := (blk_cell X1.out 13).trans rfl; have zh0 := blk_frozen X1.out 0; have zh1 := blk_frozen X1.out 1; have zh2 := blk_frozen X1.out 2; have zh3 := blk_frozen X1.out 3; have zh4 := blk_frozen X1.out 4; have zh5 := blk_frozen X1.out 5; have zh6 := blk_frozen X1.out 6; have zh7 := blk_frozen X1.out 7; have zh8 := blk_frozen X1.out 8; have zh9 := blk_frozen X1.out 9; have zh10 := blk_frozen X1.out 10; have zh11 := blk_frozen X1.out 11; have zh12 := blk_frozen X1.out 12; have zh13 := blk_frozen X1.out 13; have e0 := (blk_cell X3.out 0).trans rfl; have e1 := (blk_cell X3.out 1).trans rfl; have e2 := (blk_cell X3.out 2).trans rfl; have e3 := (blk_cell X3.out 3).trans rfl; have e4 := (blk_cell X3.out 4).trans rfl; have e5 := (blk_cell X3.out 5).trans rfl; have e6 := (blk_cell X3.out 6).trans rfl; have e7 := (blk_cell X3.out 7).trans rfl)
   go_meet
   exact ⟨A5', c5', ⟨grown_put HGR.out HLX1.out _⟩, ⟨set_blk _ _ (X1.out) rfl⟩, ⟨blk_far X2.out (p := ⟨g1, 5, none⟩) HNE.out _⟩, ⟨blk_far X3.out (p := ⟨g1, 5, none⟩) HG3.out.2.1 _⟩, ⟨Kd.S_set HS.out X1.out (by decide) _ _⟩⟩
  case rest =>
   clear h0 zh0 h1 zh1 h2 zh2 h3 zh3 h4 zh4 h5 zh5 h6 zh6 h7 zh7 h8 zh8 h9 zh9 h10 zh10 h11 zh11 h12 zh12 h13 zh13 e0 e1 e2 e3 e4 e5 e6 e7
   clear HB X1 X2 X3 H5 H6
   obtain ⟨A5', c5', HGR, X1, X2, X3, HS⟩ := hcut
   have h0 := (blk_cell X1.out 0).trans rfl
   have h1 := (blk_cell X1.out 1).trans rfl
   have h2 := (blk_cell X1.out 2).trans rfl
   have h3 := (blk_cell X1.out 3).trans rfl
   have h4 := (blk_cell X1.out 4).trans rfl
   have h5 := (blk_cell X1.out 5).trans rfl
   have h6 := (blk_cell X1.out 6).trans rfl
   have h7 := (blk_cell X1.out 7).trans rfl
   have h8 := (blk_cell X1.out 8).trans rfl
   have h9 := (blk_cell X1.out 9).trans rfl
   have h10 := (blk_cell X1.out 10).trans rfl
   have h11 := (blk_cell X1.out 11).trans rfl
   have h12 := (blk_cell X1.out 12).trans rfl
   have h13 := (blk_cell X1.out 13).trans rfl
   have zh0 := blk_frozen X1.out 0
   have zh1 := blk_frozen X1.out 1
   have zh2 := blk_frozen X1.out 2
   have zh3 := blk_frozen X1.out 3
   have zh4 := blk_frozen X1.out 4
   have zh5 := blk_frozen X1.out 5
   have zh6 := blk_frozen X1.out 6
   have zh7 := blk_frozen X1.out 7
   have zh8 := blk_frozen X1.out 8
   have zh9 := blk_frozen X1.out 9
   have zh10 := blk_frozen X1.out 10
   have zh11 := blk_frozen X1.out 11
   have zh12 := blk_frozen X1.out 12
   have zh13 := blk_frozen X1.out 13
   have e0 := (blk_cell X3.out 0).trans rfl
   have e1 := (blk_cell X3.out 1).trans rfl
   have e2 := (blk_cell X3.out 2).trans rfl
   have e3 := (blk_cell X3.out 3).trans rfl
   have e4 := (blk_cell X3.out 4).trans rfl
   have e5 := (blk_cell X3.out 5).trans rfl
   have e6 := (blk_cell X3.out 6).trans rfl
   have e7 := (blk_cell X3.out 7).trans rfl
   go_upto_region 3 with (fail)
   go_cut [] (fun wc => Aside0 (w.grownBy wc (Value.ownBlock (.slice A5 b.f2.length c5))) ∧ Aside0 (wc.heap[g1]? = some (.cells #[.bool b.f0, .int .i64 b.f1.f0, .slice A4 b.f1.f1.length c4, .bool b.f1.f2, .bool b.f1.f3, .slice A5' (b.f2.length + 1) c5', .int .i64 2, .int .i64 0, .int .i64 0, .int .i64 0, .slice none 0 0, .int .i64 b.f3.f5, .int .i64 0, .int .i64 0] 41 (0, 0))) ∧ Aside0 (wc.heap[g2]? = some (.cells #[.bool false, .int .i64 0, .slice none 0 0, .bool false, .bool false, .slice none 0 0, .int .i64 0, .int .i64 0, .int .i64 0, .int .i64 0, .slice none 0 0, .int .i64 0, .int .i64 0, .int .i64 0] 41 (0, 0))) ∧ Aside0 (Kd.S k49 49 wc base (fun k => ok5 k ∨ okA k ∨ w.heap.size ≤ k) (.slice A5' (b.f2.length + 1) c5') (b.f2 ++ [newI b])))
   case first =>
    go_wp2_with ((with_reducible refine gate_store (t := 39) (p := 21) rfl ?_); refine wpList_store_mid rfl _ (.tmp 21) (.tmp 20) rfl g1 6 #[.int .i64 2, .int .i64 0, .int .i64 0, .int .i64 0, .slice none 0 0, .int .i64 b.f3.f5, .int .i64 0, .int .i64 0] ?hx ?hy (there_blk X1.out 6 8 (Nat.le_refl 14)) (by kernel_rfl) (by kernel_rfl) ?_; (case hx => first | rfl | (go_simp; done)); (case hy => first | rfl | (go_simp; done)))
    go_meet
    exact ⟨⟨setL_grown HGR.out HLX1.out _ _⟩, ⟨setL_blk _ _ X1.out (by kernel_rfl)⟩, ⟨setL_far X2.out HNE.out _ _⟩, ⟨setL_S HS.out X1.out (by decide) _ _⟩⟩
   case rest =>
    clear h0 zh0 h1 zh1 h2 zh2 h3 zh3 h4 zh4 h5 zh5 h6 zh6 h7 zh7 h8 zh8 h9 zh9 h10 zh10 h11 zh11 h12 zh12 h13 zh13 e0 e1 e2 e3 e4 e5 e6 e7
    clear HGR X1 X2 X3 HS
    obtain ⟨HGR, X1, X2, HS⟩ := hcut
    have h0 := (blk_cell X1.out 0).trans rfl
    have h1 := (blk_cell X1.out 1).trans rfl
    have h2 := (blk_cell X1.out 2).trans rfl
    have h3 := (blk_cell X1.out 3).trans rfl
    have h4 := (blk_cell X1.out 4).trans rfl
    have h5 := (blk_cell X1.out 5).trans rfl
    have h6 := (blk_cell X1.out 6).trans rfl
    have h7 := (blk_cell X1.out 7).trans rfl
    have h8 := (blk_cell X1.out 8).trans rfl
    have h9 := (blk_cell X1.out 9).trans rfl
    have h10 := (blk_cell X1.out 10).trans rfl
    have h11 := (blk_cell X1.out 11).trans rfl
    have h12 := (blk_cell X1.out 12).trans rfl
    have h13 := (blk_cell X1.out 13).trans rfl
    go_wp2_with ((with_reducible refine gate_store (t := 41) (p := 2) rfl ?_); refine wpList_store_mid rfl _ (.tmp 2) (.tmp 22) rfl g2 0 #[.bool b.f0, .int .i64 b.f1.f0, .slice A4 b.f1.f1.length c4, .bool b.f1.f2, .bool b.f1.f3, .slice A5' (b.f2.length + 1) c5', .int .i64 2, .int .i64 0, .int .i64 0, .int .i64 0, .slice none 0 0, .int .i64 b.f3.f5, .int .i64 0, .int .i64 0] ?hx ?hy (there_blk X2.out 0 14 (Nat.le_refl 14)) (by kernel_rfl) (by kernel_rfl) ?_; (case hx => first | rfl | (go_simp; done)); (case hy => first | rfl | (go_simp; done)))
    refine bodyPost_ret (results_cell_row rfl _ _ g2 41 #[.bool b.f0, .int .i64 b.f1.f0, .slice A4 b.f1.f1.length c4, .bool b.f1.f2, .bool b.f1.f3, .slice A5' (b.f2.length + 1) c5', .int .i64 2, .int .i64 0, .int .i64 0, .int .i64 0, .slice none 0 0, .int .i64 b.f3.f5, .int .i64 0, .int .i64 0] (0, 0) _ rfl (setL_blk _ _ X2.out (by kernel_rfl)) Try.underlying41 rfl (by kernel_rfl)) rfl ?_
    exact ⟨⟨A5', c5', rfl, setL_S HS.out X2.out (by decide) _ _⟩, setL_grown HGR.out HLX2.out _ _⟩
end Go.Proofs.Ytbfialebaoeicaa.X
