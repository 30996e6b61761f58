/- Part 6 of the proof of the statement PadsCount: the words of the walks, the walks through the functions that it reaches, and the plain laws of what they compute. -/
import Derived.Test.YtbfialebaoeicaaMPadsCount4
import Derived.RegionTactic
import Derived.ChangeAlike
import Derived.Deep.QuietTactic
import Derived.BigQuiet
import Derived.Deep.MidRow
namespace Go.Proofs.Ytbfialebaoeicaa.X
open Go.RowKit Go.Proofs.YtbfialebaoeicaaW.PrintWords Go.Proofs.YtbfialebaoeicaaW.PrintLast Go.Proofs.YtbfialebaoeicaaW.PrintMore
set_option linter.all false
def trimP (p : S35) : S35 := if p.f2 = true then ⟨p.f0, [], true, false⟩ else p
def nothB (b : S41) : Bool := b.f0 && !b.f1.f2 && decide (b.f1.f1.length = 0) && decide (b.f2.length = 0) && (b.f3.f0 == 6)
def newI (b : S41) : S49 := ⟨11, b.f3.f2, 0, 0, 0, b.f3.f3, b.f3.f4⟩
def roundB (b : S41) : S41 := ⟨b.f0, b.f1, b.f2 ++ [newI b], ⟨2, 0, 0, 0, [], b.f3.f5, 0, 0⟩⟩
theorem trim_f (p : S35) (hn : p.f1.length ≤ 1000) : pads_Trim.f p.f0 p.f1 p.f2 p.f3 = some ((trimP p).f0, (trimP p).f1, (trimP p).f2, (trimP p).f3) := by
 unfold pads_Trim.f slices_Clone_uint16_uint16.f trimP
 rw [if_pos (by omega)]
 by_cases h : p.f2 = true
 ·simp [h]
 ·simp [h]
theorem trim_c (p : S35) (A : Option Addr) (c : Nat) (w : World) (hl : Kd.C (Kd.int .u16) w A p.f1.length p.f1) (hc : p.f1.length ≤ c) (hn : p.f1.length ≤ 1000) :
  Calls Try.prog 45 #[.agg #[.int .i64 p.f0, .slice A p.f1.length c, .bool p.f2, .bool p.f3]] w fun e w' => (∃ v, e = .returned (.agg #[.int .i64 (trimP p).f0, v, .bool (trimP p).f2, .bool (trimP p).f3]) ∧ Kd.R (Kd.int .u16) 44 w' w.heap.size (fun _ => True) v (trimP p).f1) ∧ Below w.heap.size w w' := by
 refine (pads_Trim.calls p.f0 A c p.f1 p.f2 p.f3 _ _ _ _ w hl hc (trim_f p hn)).mono ?_
 rintro e w' ⟨v, rfl, hr, hb⟩
 exact ⟨⟨v, rfl, hr⟩, hb⟩
theorem noth_f (b : S41) : pads_Nothing.f b.f0 b.f1.f0 b.f1.f1 b.f1.f2 b.f1.f3 b.f2 b.f3.f0 b.f3.f1 b.f3.f2 b.f3.f3 b.f3.f4 b.f3.f5 b.f3.f6 b.f3.f7 = some (nothB b) := by
 unfold pads_Nothing.f nothB
 by_cases h0 : b.f0 = true
 ·rw [if_pos h0, h0]
  by_cases h1 : b.f1.f2 = true
  ·rw [if_pos h1, h1]; rfl
  ·rw [if_neg h1, show b.f1.f2 = false by simpa using h1]
   by_cases h2 : b.f1.f1.length = 0
   ·rw [if_pos (by omega), decide_eq_true h2]
    by_cases h3 : b.f2.length = 0
    ·rw [if_pos (by omega), decide_eq_true h3]; rfl
    ·rw [if_neg (by omega), decide_eq_false h3]; rfl
   ·rw [if_neg (by omega), decide_eq_false h2]; rfl
 ·rw [if_neg h0, show b.f0 = false by simpa using h0]; rfl
theorem noth_c (b : S41) (A4 : Option Addr) (c4 : Nat) (A5 : Option Addr) (c5 : Nat) (A6 : Option Addr) (c6 : Nat) (w : World) (h4 : Kd.C (Kd.int .u16) w A4 b.f1.f1.length b.f1.f1) (k4 : b.f1.f1.length ≤ c4) (h5 : Kd.C k49 w A5 b.f2.length b.f2) (k5 : b.f2.length ≤ c5) (h6 : Kd.C (Kd.int .i64) w A6 b.f3.f4.length b.f3.f4) (k6 : b.f3.f4.length ≤ c6) :
  Calls Try.prog 42 #[.agg #[.bool b.f0, .int .i64 b.f1.f0, .slice A4 b.f1.f1.length c4, .bool b.f1.f2, .bool b.f1.f3, .slice A5 b.f2.length c5, .int .i64 b.f3.f0, .int .i64 b.f3.f1, .int .i64 b.f3.f2, .int .i64 b.f3.f3, .slice A6 b.f3.f4.length c6, .int .i64 b.f3.f5, .int .i64 b.f3.f6, .int .i64 b.f3.f7]] w fun e w' => e = .returned (.bool (nothB b)) ∧ Below w.heap.size w w' :=
 pads_Nothing.calls b.f0 b.f1.f0 A4 c4 b.f1.f1 b.f1.f2 b.f1.f3 A5 c5 b.f2 b.f3.f0 b.f3.f1 b.f3.f2 b.f3.f3 A6 c6 b.f3.f4 b.f3.f5 b.f3.f6 b.f3.f7 _ w h4 k4 h5 k5 h6 k6 (noth_f b)
theorem grown_put {w W : World} {row : Option Nat} (h : w.grownBy W row) {p : Addr} (hp : w.heap.size ≤ p.block) (u : Value) : w.grownBy (W.setCell p u) row :=
 ⟨h.os, h.tape, h.output, by rw [size_set]; exact h.size, fun i hi hne => (Below.heap_setCell W p u i (by omega)).trans (h.block i hi hne)⟩
def putL (cs : Array Value) (o : Nat) : List Value → Array Value
 | [] => cs
 | v :: r => putL (cs.setIfInBounds o v) (o + 1) r
theorem setL_blk {g : Nat} {t : TypeId} : ∀ (l : List Value) (o : Nat) {w : World} {cs cs' : Array Value} (h : w.heap[g]? = some (.cells cs t (0, 0))) (e : putL cs o l = cs'), (w.setCells g o l).heap[g]? = some (.cells cs' t (0, 0))
 | [], o, w, cs, cs', h, e => by rw [← e]; exact h
 | v :: r, o, w, cs, cs', h, e => setL_blk r (o + 1) (w := w.setCell ⟨g, o, none⟩ v) (blk_set h o v) e
theorem setL_far {w : World} {g k : Nat} {x : Obj} (h : w.heap[k]? = some x) (hk : k ≠ g) (l : List Value) (o : Nat) : (w.setCells g o l).heap[k]? = some x := (setCells_far l o k hk).trans h
theorem setL_size (w : World) (g o : Nat) (l : List Value) : (w.setCells g o l).heap.size = w.heap.size := (setCells_same g l o w).2.2.2
theorem setL_grown {w W : World} {row : Option Nat} (h : w.grownBy W row) {g : Nat} (hg : w.heap.size ≤ g) (o : Nat) (l : List Value) : w.grownBy (W.setCells g o l) row := by
 obtain ⟨h1, h2, h3, h4⟩ := setCells_same g l o W
 exact ⟨h1.trans h.os, h2.trans h.tape, h3.trans h.output, by rw [h4]; exact h.size, fun i hi hne => (setCells_far l o i (by omega)).trans (h.block i hi hne)⟩
theorem setL_below {B : Nat} {w W : World} (h : Below B w W) {g : Nat} (hg : B ≤ g) (o : Nat) (l : List Value) : Below B w (W.setCells g o l) := by
 obtain ⟨h1, h2, h3, h4⟩ := setCells_same g l o W
 exact ⟨h1.trans h.os, h2.trans h.tape, h3.trans h.output, by rw [h4]; exact h.size, fun i hi => (setCells_far l o i (by omega)).trans (h.block i hi)⟩
theorem setL_S {α : Type} {d : Kd α} {e : Nat} {w : World} {base : Nat} {ok : Nat → Prop} {v : Value} {xs : List α} (h : Kd.S d e w base ok v xs) {g t : Nat} {cells : Array Value} (hb : w.heap[g]? = some (.cells cells t (0, 0))) (ht : ∀ q, q ∈ e :: d.E → q ≠ t) (o : Nat) (l : List Value) : Kd.S d e (w.setCells g o l) base ok v xs :=
 Kd.S_mono (Kd.S_step (Kd.S_types h hb ht) (fun k hk _ => setCells_far l o k hk.2)) (fun _ hk => hk.1)
theorem there_blk {w : World} {g : Nat} {t : TypeId} {cs : Array Value} (h : w.heap[g]? = some (.cells cs t (0, 0))) (o n : Nat) (hn : o + n ≤ cs.size) : w.there g o n := by
 intro j hj
 refine ⟨?_, blk_frozen h _⟩
 rw [blk_cell h, Array.getElem?_eq_getElem (by omega)]
 rfl
set_option maxHeartbeats 16000000 in
set_option maxRecDepth 100000 in
theorem round_c (b : S41) (A4 : Option Addr) (c4 : Nat) (A5 : Option Addr) (c5 : Nat) (A6 : Option Addr) (c6 : Nat) (w : World) (base : Nat) (ok5 okA : Nat → Prop) (hbs : base ≤ w.heap.size) (h5 : Kd.S k49 49 w base ok5 (.slice A5 b.f2.length c5) b.f2) (h6 : Kd.R (Kd.int .i64) 3 w base okA (.slice A6 b.f3.f4.length c6) b.f3.f4) (hd : ∀ k, okA k → ¬ ok5 k) (hn : b.f2.length ≤ 1000) :
  Calls Try.prog 77 #[.agg #[.bool b.f0, .int .i64 b.f1.f0, .slice A4 b.f1.f1.length c4, .bool b.f1.f2, .bool b.f1.f3, .slice A5 b.f2.length c5, .int .i64 b.f3.f0, .int .i64 b.f3.f1, .int .i64 b.f3.f2, .int .i64 b.f3.f3, .slice A6 b.f3.f4.length c6, .int .i64 b.f3.f5, .int .i64 b.f3.f6, .int .i64 b.f3.f7]] w fun e w' => (∃ A5' c5', e = .returned (.agg #[.bool b.f0, .int .i64 b.f1.f0, .slice A4 b.f1.f1.length c4, .bool b.f1.f2, .bool b.f1.f3, .slice A5' (b.f2.length + 1) c5', .int .i64 2, .int .i64 0, .int .i64 0, .int .i64 0, .slice none 0 0, .int .i64 b.f3.f5, .int .i64 0, .int .i64 0]) ∧ Kd.S k49 49 w' base (fun k => ok5 k ∨ okA k ∨ w.heap.size ≤ k) (.slice A5' (b.f2.length + 1) c5') (b.f2 ++ [newI b])) ∧ w.grownBy w' (Value.ownBlock (.slice A5 b.f2.length c5)) := by
 have H5 := Aside0.mk h5
 have H6 := Aside0.mk h6
 have HD := Aside0.mk hd
 have HN := Aside0.mk hn
 have HBS := Aside0.mk hbs
 clear h5 h6 hd hn hbs
 have hu41 := Try.underlying41
 have hu39 := Try.underlying39
 have hu49 := Try.underlying49
 have hu35 := Try.underlying35
 go_enter Try.func77, Try.ntmps77
 go_upto_region 1 with (first | ((with_reducible refine gate_dst (N := 1) rfl ?_); refine box_event ?hg (N := 1) ?hd (cs := #[.bool b.f0, .int .i64 b.f1.f0, .slice A4 b.f1.f1.length c4, .bool b.f1.f2, .bool b.f1.f3, .slice A5 b.f2.length c5, .int .i64 b.f3.f0, .int .i64 b.f3.f1, .int .i64 b.f3.f2, .int .i64 b.f3.f3, .slice A6 b.f3.f4.length c6, .int .i64 b.f3.f5, .int .i64 b.f3.f6, .int .i64 b.f3.f7]) (t := 41) ?hr ?_; (case hd => rfl); (case hg => rfl); (case hr => first | (go_simp; done) | (go_simp; rfl)); intro g1 hg w1 hbox hb; have HLX1 := Aside0.mk (show w.heap.size ≤ g1 by rw [hg]; exact Nat.le_refl _); have n0_ := Aside0.mk (Kd.S_below H5.out hb); have n1_ := Aside0.mk (Kd.R_below H6.out hb); clear H5 H6; have H5 := n0_; have H6 := n1_; clear n0_ n1_; have HB := Aside0.mk hb; have X1 := Aside0.mk hbox; clear hbox hb hg; have h0 := (blk_cell X1.out 0).trans rfl; have h1 := (blk_cell X1.out 1).trans rfl; have h2 := (blk_cell X1.out 2).trans rfl; have h3 := (blk_cell X1.out 3).trans rfl; have h4 := (blk_cell X1.out 4).trans rfl; have h5 := (blk_cell X1.out 5).trans rfl; have h6 := (blk_cell X1.out 6).trans rfl; have h7 := (blk_cell X1.out 7).trans rfl; have h8 := (blk_cell X1.out 8).trans rfl; have h9 := (blk_cell X1.out 9).trans rfl; have h10 := (blk_cell X1.out 10).trans rfl; have h11 := (blk_cell X1.out 11).trans rfl; have h12 := (blk_cell X1.out 12).trans rfl; have h13 := (blk_cell X1.out 13).trans rfl; have zh0 := blk_frozen X1.out 0; have zh1 := blk_frozen X1.out 1; have zh2 := blk_frozen X1.out 2; have zh3 := blk_frozen X1.out 3; have zh4 := blk_frozen X1.out 4; have zh5 := blk_frozen X1.out 5; have zh6 := blk_frozen X1.out 6; have zh7 := blk_frozen X1.out 7; have zh8 := blk_frozen X1.out 8; have zh9 := blk_frozen X1.out 9; have zh10 := blk_frozen X1.out 10; have zh11 := blk_frozen X1.out 11; have zh12 := blk_frozen X1.out 12; have zh13 := blk_frozen X1.out 13) | ((with_reducible refine gate_dst (N := 2) rfl ?_); refine box_event ?hg (N := 2) ?hd (cs := #[.bool false, .int .i64 0, .slice none 0 0, .bool false, .bool false, .slice none 0 0, .int .i64 0, .int .i64 0, .int .i64 0, .int .i64 0, .slice none 0 0, .int .i64 0, .int .i64 0, .int .i64 0]) (t := 41) ?hr ?_; (case hd => rfl); (case hg => rfl); (case hr => first | (go_simp; done) | (go_simp; rfl)); intro g2 hg w2 hbox hb; have HLX2 := Aside0.mk (show w.heap.size ≤ g2 by rw [hg]; exact HB.out.size); have HNE := Aside0.mk (show g2 ≠ g1 by rw [hg]; exact Nat.ne_of_gt (blk_lt X1.out)); have n0_ := Aside0.mk (below_step HB.out hb); have n1_ := Aside0.mk (blk_below X1.out hb); have n2_ := Aside0.mk (Kd.S_below H5.out hb); have n3_ := Aside0.mk (Kd.R_below H6.out hb); clear HB X1 H5 H6; have HB := n0_; have X1 := n1_; have H5 := n2_; have H6 := n3_; clear n0_ n1_ n2_ n3_; have X2 := Aside0.mk hbox; clear hbox hb hg; have r0 := (blk_cell X2.out 0).trans rfl; have r1 := (blk_cell X2.out 1).trans rfl; have r2 := (blk_cell X2.out 2).trans rfl; have r3 := (blk_cell X2.out 3).trans rfl; have r4 := (blk_cell X2.out 4).trans rfl; have r5 := (blk_cell X2.out 5).trans rfl; have r6 := (blk_cell X2.out 6).trans rfl; have r7 := (blk_cell X2.out 7).trans rfl; have r8 := (blk_cell X2.out 8).trans rfl; have r9 := (blk_cell X2.out 9).trans rfl; have r10 := (blk_cell X2.out 10).trans rfl; have r11 := (blk_cell X2.out 11).trans rfl; have r12 := (blk_cell X2.out 12).trans rfl; have r13 := (blk_cell X2.out 13).trans rfl; have zr0 := blk_frozen X2.out 0; have zr1 := blk_frozen X2.out 1; have zr2 := blk_frozen X2.out 2; have zr3 := blk_frozen X2.out 3; have zr4 := blk_frozen X2.out 4; have zr5 := blk_frozen X2.out 5; have zr6 := blk_frozen X2.out 6; have zr7 := blk_frozen X2.out 7; have zr8 := blk_frozen X2.out 8; have zr9 := blk_frozen X2.out 9; have zr10 := blk_frozen X2.out 10; have zr11 := blk_frozen X2.out 11; have zr12 := blk_frozen X2.out 12; have zr13 := blk_frozen X2.out 13; clear h0 zh0 h1 zh1 h2 zh2 h3 zh3 h4 zh4 h5 zh5 h6 zh6 h7 zh7 h8 zh8 h9 zh9 h10 zh10 h11 zh11 h12 zh12 h13 zh13; have h0 := (blk_cell X1.out 0).trans rfl; have h1 := (blk_cell X1.out 1).trans rfl; have h2 := (blk_cell X1.out 2).trans rfl; have h3 := (blk_cell X1.out 3).trans rfl; have h4 := (blk_cell X1.out 4).trans rfl; have h5 := (blk_cell X1.out 5).trans rfl; have h6 := (blk_cell X1.out 6).trans rfl; have h7 := (blk_cell X1.out 7).trans rfl; have h8 := (blk_cell X1.out 8).trans rfl; have h9 := (blk_cell X1.out 9).trans rfl; have h10 := (blk_cell X1.out 10).trans rfl; have h11 := (blk_cell X1.out 11).trans rfl; have h12 := (blk_cell X1.out 12).trans rfl; have h13 := (blk_cell X1.out 13).trans rfl; have zh0 := blk_frozen X1.out 0; have zh1 := blk_frozen X1.out 1; have zh2 := blk_frozen X1.out 2; have zh3 := blk_frozen X1.out 3; have zh4 := blk_frozen X1.out 4; have zh5 := blk_frozen X1.out 5; have zh6 := blk_frozen X1.out 6; have zh7 := blk_frozen X1.out 7; have zh8 := blk_frozen X1.out 8; have zh9 := blk_frozen X1.out 9; have zh10 := blk_frozen X1.out 10; have zh11 := blk_frozen X1.out 11; have zh12 := blk_frozen X1.out 12; have zh13 := blk_frozen X1.out 13))
 try simp only [Act.put, List.setIfInBounds_toArray, List.set_cons_zero, List.set_cons_succ]
 go_cut [3] (fun v3 wc => ∃ g3 : Nat, v3 = .pointer (some ⟨g3, 0, none⟩) ∧ Aside0 (w.heap.size ≤ g3 ∧ g3 ≠ g1 ∧ g3 ≠ g2) ∧ Aside0 (Below w.heap.size w wc) ∧ Aside0 (wc.heap[g1]? = some (.cells #[.bool b.f0, .int .i64 b.f1.f0, .slice A4 b.f1.f1.length c4, .bool b.f1.f2, .bool b.f1.f3, .slice A5 b.f2.length c5, .int .i64 b.f3.f0, .int .i64 b.f3.f1, .int .i64 b.f3.f2, .int .i64 b.f3.f3, .slice A6 b.f3.f4.length c6, .int .i64 b.f3.f5, .int .i64 b.f3.f6, .int .i64 b.f3.f7] 41 (0, 0))) ∧ Aside0 (wc.heap[g2]? = some (.cells #[.bool false, .int .i64 0, .slice none 0 0, .bool false, .bool false, .slice none 0 0, .int .i64 0, .int .i64 0, .int .i64 0, .int .i64 0, .slice none 0 0, .int .i64 0, .int .i64 0, .int .i64 0] 41 (0, 0))) ∧ Aside0 (wc.heap[g3]? = some (.cells #[.int .i64 b.f3.f0, .int .i64 b.f3.f1, .int .i64 b.f3.f2, .int .i64 b.f3.f3, .slice A6 b.f3.f4.length c6, .int .i64 b.f3.f5, .int .i64 b.f3.f6, .int .i64 b.f3.f7] 39 (0, 0))) ∧ Aside0 (Kd.S k49 49 wc base ok5 (.slice A5 b.f2.length c5) b.f2) ∧ Aside0 (Kd.R (Kd.int .i64) 3 wc base okA (.slice A6 b.f3.f4.length c6) b.f3.f4))
 case first =>
  go_wp2
  go_meet
  exact ⟨_, rfl, ⟨HB.out.size, Nat.ne_of_gt (blk_lt X1.out), Nat.ne_of_gt (blk_lt X2.out)⟩, ⟨below_alloc HB.out _⟩, ⟨blk_alloc X1.out _⟩, ⟨blk_alloc X2.out _⟩, ⟨blk_new _ _⟩, ⟨Kd.S_alloc H5.out _⟩, ⟨Kd.R_alloc H6.out _⟩⟩
 case rest =>
  clear h0 zh0 h1 zh1 h2 zh2 h3 zh3 h4 zh4 h5 zh5 h6 zh6 h7 zh7 h8 zh8 h9 zh9 h10 zh10 h11 zh11 h12 zh12 h13 zh13
  clear r0 zr0 r1 zr1 r2 zr2 r3 zr3 r4 zr4 r5 zr5 r6 zr6 r7 zr7 r8 zr8 r9 zr9 r10 zr10 r11 zr11 r12 zr12 r13 zr13
  clear HB X1 X2 H5 H6
  obtain ⟨g3, rfl, HG3, HB, X1, X2, X3, H5, H6⟩ := hcut
  have h0 := (blk_cell X1.out 0).trans rfl
  have h1 := (blk_cell X1.out 1).trans rfl
  have h2 := (blk_cell X1.out 2).trans rfl
  have h3 := (blk_cell X1.out 3).trans rfl
  have h4 := (blk_cell X1.out 4).trans rfl
  have h5 := (blk_cell X1.out 5).trans rfl
  have h6 := (blk_cell X1.out 6).trans rfl
  have h7 := (blk_cell X1.out 7).trans rfl
  have h8 := (blk_cell X1.out 8).trans rfl
  have h9 := (blk_cell X1.out 9).trans rfl
  have h10 := (blk_cell X1.out 10).trans rfl
  have h11 := (blk_cell X1.out 11).trans rfl
  have h12 := (blk_cell X1.out 12).trans rfl
  have h13 := (blk_cell X1.out 13).trans rfl
  have zh0 := blk_frozen X1.out 0
  have zh1 := blk_frozen X1.out 1
  have zh2 := blk_frozen X1.out 2
  have zh3 := blk_frozen X1.out 3
  have zh4 := blk_frozen X1.out 4
  have zh5 := blk_frozen X1.out 5
  have zh6 := blk_frozen X1.out 6
  have zh7 := blk_frozen X1.out 7
  have zh8 := blk_frozen X1.out 8
  have zh9 := blk_frozen X1.out 9
  have zh10 := blk_frozen X1.out 10
  have zh11 := blk_frozen X1.out 11
  have zh12 := blk_frozen X1.out 12
  have zh13 := blk_frozen X1.out 13
  have e0 := (blk_cell X3.out 0).trans rfl
  have e1 := (blk_cell X3.out 1).trans rfl
  have e2 := (blk_cell X3.out 2).trans rfl
  have e3 := (blk_cell X3.out 3).trans rfl
  have e4 := (blk_cell X3.out 4).trans rfl
  have e5 := (blk_cell X3.out 5).trans rfl
  have e6 := (blk_cell X3.out 6).trans rfl
  have e7 := (blk_cell X3.out 7).trans rfl
  go_upto_region 2 with (fail)
  go_cut [] (fun wc => ∃ A5' c5', Aside0 (w.grownBy wc (Value.ownBlock (.slice A5 b.f2.length c5))) ∧ Aside0 (wc.heap[g1]? = some (.cells #[.bool b.f0, .int .i64 b.f1.f0, .slice A4 b.f1.f1.length c4, .bool b.f1.f2, .bool b.f1.f3, .slice A5' (b.f2.length + 1) c5', .int .i64 b.f3.f0, .int .i64 b.f3.f1, .int .i64 b.f3.f2, .int .i64 b.f3.f3, .slice A6 b.f3.f4.length c6, .int .i64 b.f3.f5, .int .i64 b.f3.f6, .int .i64 b.f3.f7] 41 (0, 0))) ∧ Aside0 (wc.heap[g2]? = some (.cells #[.bool false, .int .i64 0, .slice none 0 0, .bool false, .bool false, .slice none 0 0, .int .i64 0, .int .i64 0, .int .i64 0, .int .i64 0, .slice none 0 0, .int .i64 0, .int .i64 0, .int .i64 0] 41 (0, 0))) ∧ Aside0 (wc.heap[g3]? = some (.cells #[.int .i64 b.f3.f0, .int .i64 b.f3.f1, .int .i64 b.f3.f2, .int .i64 b.f3.f3, .slice A6 b.f3.f4.length c6, .int .i64 b.f3.f5, .int .i64 b.f3.f6, .int .i64 b.f3.f7] 39 (0, 0))) ∧ Aside0 (Kd.S k49 49 wc base (fun k => ok5 k ∨ okA k ∨ w.heap.size ≤ k) (.slice A5' (b.f2.length + 1) c5') (b.f2 ++ [newI b])))
  case first =>
   go_wp2_with ((with_reducible refine gate_builtin (b := .append) (xs := #[.tmp 7, .tmp 15]) rfl ?_); at_builtin; refine Kd.S_append k49 base rfl (.tmp 7) (.tmp 15) 36 49 _ _ rfl Try.underlying36 infoI rfl (Nat.succ_pos _) (by omega) (.slice A5 b.f2.length c5) b.f2 (newI b) [.int .i64 11, .int .i64 b.f3.f2, .int .i64 0, .int .i64 0, .int .u16 0, .int .i64 b.f3.f3, .slice A6 b.f3.f4.length c6] (fun k => ok5 k ∨ okA k ∨ w.heap.size ≤ k) okA rfl rfl ?aP ?aK ?aF ?aO (Below.refl base _) ?aS ?aL ?_; (case aP => exact k49_mkM _ _ _ (newI b) H6.out); (case aK => exact (fun k hk => ⟨.inr (.inl hk), fun e' => HD.out k hk ((Kd.S_R H5.out).1 k e'.symm)⟩)); (case aF => exact (fun k hk => .inr (.inr (Nat.le_trans HB.out.size hk)))); (case aO => exact (Kd.S_mono H5.out (fun k hk => ⟨.inl hk, fun h => HD.out k h hk⟩))); (case aS => exact (Nat.le_trans HBS.out HB.out.size)); (case aL => have := HN.out; omega); intro v1 w9 hs hb1 hg hat; obtain ⟨A5', c5', rfl, hlc, _⟩ := Kd.S_reads hs; rw [show (b.f2 ++ [newI b]).length = b.f2.length + 1 from by simp] at hs ⊢; have HS := Aside0.mk hs; have HGR := Aside0.mk (World.grownBy.trans (grown_of_below HB.out _) hg); have N1 := Aside0.mk (blk_grown X1.out hg (Kd.S_ne H5.out X1.out (by decide))); have N2 := Aside0.mk (blk_grown X2.out hg (Kd.S_ne H5.out X2.out (by decide))); have N3 := Aside0.mk (blk_grown X3.out hg (Kd.S_ne H5.out X3.out (by decide))); clear h0 zh0 h1 zh1 h2 zh2 h3 zh3 h4 zh4 h5 zh5 h6 zh6 h7 zh7 h8 zh8 h9 zh9 h10 zh10 h11 zh11 h12 zh12 h13 zh13 e0 e1 e2 e3 e4 e5 e6 e7; clear X1 X2 X3 H5 H6 HB hs hb1 hg hat hlc; have X1 := N1; have X2 := N2; have X3 := N3; clear N1 N2 N3; have h0 := (blk_cell X1.out 0).trans rfl; have h1 := (blk_cell X1.out 1).trans rfl; have h2 := (blk_cell X1.out 2).trans rfl; have h3 := (blk_cell X1.out 3).trans rfl; have h4 := (blk_cell X1.out 4).trans rfl; have h5 := (blk_cell X1.out 5).trans rfl; have h6 := (blk_cell X1.out 6).trans rfl; have h7 := (blk_cell X1.out 7).trans rfl; have h8 := (blk_cell X1.out 8).trans rfl; have h9 := (blk_cell X1.out 9).trans rfl; have h10 := (blk_cell X1.out 10).trans rfl; have h11 := (blk_cell X1.out 11).trans rfl; have h12 := (blk_cell X1.out 12).trans rfl; have h13 := (blk_cell X1.out 13).trans rfl; have zh0 := blk_frozen X1.out 0; have zh1 := blk_frozen X1.out 1; have zh2 := blk_frozen X1.out 2; have zh3 := blk_frozen X1.out 3; have zh4 := blk_frozen X1.out 4; have zh5 := blk_frozen X1.out 5; have zh6 := blk_frozen X1.out 6; have zh7 := blk_frozen X1.out 7; have zh8 := blk_frozen X1.out 8; have zh9 := blk_frozen X1.out 9; have zh10 := blk_frozen X1.out 10; have zh11 := blk_frozen X1.out 11; have zh12 := blk_frozen X1.out 12; have zh13 := blk_frozen X1.out 13; have e0 := (blk_cell X3.out 0).trans rfl; have e1 := (blk_cell X3.out 1).trans rfl; have e2 := (blk_cell X3.out 2).trans rfl; have e3 := (blk_cell X3.out 3).trans rfl; have e4 := (blk_cell X3.out 4).trans rfl; have e5 := (blk_cell X3.out 5).trans rfl; have e6 := (blk_cell X3.out 6).trans rfl; have e7 := (blk_cell X3.out 7).trans rfl)
   go_meet
   exact ⟨A5', c5', ⟨grown_put HGR.out HLX1.out _⟩, ⟨set_blk _ _ (X1.out) rfl⟩, ⟨blk_far X2.out (p := ⟨g1, 5, none⟩) HNE.out _⟩, ⟨blk_far X3.out (p := ⟨g1, 5, none⟩) HG3.out.2.1 _⟩, ⟨Kd.S_set HS.out X1.out (by decide) _ _⟩⟩
  case rest =>
   clear h0 zh0 h1 zh1 h2 zh2 h3 zh3 h4 zh4 h5 zh5 h6 zh6 h7 zh7 h8 zh8 h9 zh9 h10 zh10 h11 zh11 h12 zh12 h13 zh13 e0 e1 e2 e3 e4 e5 e6 e7
   clear HB X1 X2 X3 H5 H6
   obtain ⟨A5', c5', HGR, X1, X2, X3, HS⟩ := hcut
   have h0 := (blk_cell X1.out 0).trans rfl
   have h1 := (blk_cell X1.out 1).trans rfl
   have h2 := (blk_cell X1.out 2).trans rfl
   have h3 := (blk_cell X1.out 3).trans rfl
   have h4 := (blk_cell X1.out 4).trans rfl
   have h5 := (blk_cell X1.out 5).trans rfl
   have h6 := (blk_cell X1.out 6).trans rfl
   have h7 := (blk_cell X1.out 7).trans rfl
   have h8 := (blk_cell X1.out 8).trans rfl
   have h9 := (blk_cell X1.out 9).trans rfl
   have h10 := (blk_cell X1.out 10).trans rfl
   have h11 := (blk_cell X1.out 11).trans rfl
   have h12 := (blk_cell X1.out 12).trans rfl
   have h13 := (blk_cell X1.out 13).trans rfl
   have zh0 := blk_frozen X1.out 0
   have zh1 := blk_frozen X1.out 1
   have zh2 := blk_frozen X1.out 2
   have zh3 := blk_frozen X1.out 3
   have zh4 := blk_frozen X1.out 4
   have zh5 := blk_frozen X1.out 5
   have zh6 := blk_frozen X1.out 6
   have zh7 := blk_frozen X1.out 7
   have zh8 := blk_frozen X1.out 8
   have zh9 := blk_frozen X1.out 9
   have zh10 := blk_frozen X1.out 10
   have zh11 := blk_frozen X1.out 11
   have zh12 := blk_frozen X1.out 12
   have zh13 := blk_frozen X1.out 13
   have e0 := (blk_cell X3.out 0).trans rfl
   have e1 := (blk_cell X3.out 1).trans rfl
   have e2 := (blk_cell X3.out 2).trans rfl
   have e3 := (blk_cell X3.out 3).trans rfl
   have e4 := (blk_cell X3.out 4).trans rfl
   have e5 := (blk_cell X3.out 5).trans rfl
   have e6 := (blk_cell X3.out 6).trans rfl
   have e7 := (blk_cell X3.out 7).trans rfl
   go_upto_region 3 with (fail)
   go_cut [] (fun wc => Aside0 (w.grownBy wc (Value.ownBlock (.slice A5 b.f2.length c5))) ∧ Aside0 (wc.heap[g1]? = some (.cells #[.bool b.f0, .int .i64 b.f1.f0, .slice A4 b.f1.f1.length c4, .bool b.f1.f2, .bool b.f1.f3, .slice A5' (b.f2.length + 1) c5', .int .i64 2, .int .i64 0, .int .i64 0, .int .i64 0, .slice none 0 0, .int .i64 b.f3.f5, .int .i64 0, .int .i64 0] 41 (0, 0))) ∧ Aside0 (wc.heap[g2]? = some (.cells #[.bool false, .int .i64 0, .slice none 0 0, .bool false, .bool false, .slice none 0 0, .int .i64 0, .int .i64 0, .int .i64 0, .int .i64 0, .slice none 0 0, .int .i64 0, .int .i64 0, .int .i64 0] 41 (0, 0))) ∧ Aside0 (Kd.S k49 49 wc base (fun k => ok5 k ∨ okA k ∨ w.heap.size ≤ k) (.slice A5' (b.f2.length + 1) c5') (b.f2 ++ [newI b])))
   case first =>
    go_wp2_with ((with_reducible refine gate_store (t := 39) (p := 21) rfl ?_); refine wpList_store_mid rfl _ (.tmp 21) (.tmp 20) rfl g1 6 #[.int .i64 2, .int .i64 0, .int .i64 0, .int .i64 0, .slice none 0 0, .int .i64 b.f3.f5, .int .i64 0, .int .i64 0] ?hx ?hy (there_blk X1.out 6 8 (Nat.le_refl 14)) (by kernel_rfl) (by kernel_rfl) ?_; (case hx => first | rfl | (go_simp; done)); (case hy => first | rfl | (go_simp; done)))
    go_meet
    exact ⟨⟨setL_grown HGR.out HLX1.out _ _⟩, ⟨setL_blk _ _ X1.out (by kernel_rfl)⟩, ⟨setL_far X2.out HNE.out _ _⟩, ⟨setL_S HS.out X1.out (by decide) _ _⟩⟩
   case rest =>
    clear h0 zh0 h1 zh1 h2 zh2 h3 zh3 h4 zh4 h5 zh5 h6 zh6 h7 zh7 h8 zh8 h9 zh9 h10 zh10 h11 zh11 h12 zh12 h13 zh13 e0 e1 e2 e3 e4 e5 e6 e7
    clear HGR X1 X2 X3 HS
    obtain ⟨HGR, X1, X2, HS⟩ := hcut
    have h0 := (blk_cell X1.out 0).trans rfl
    have h1 := (blk_cell X1.out 1).trans rfl
    have h2 := (blk_cell X1.out 2).trans rfl
    have h3 := (blk_cell X1.out 3).trans rfl
    have h4 := (blk_cell X1.out 4).trans rfl
    have h5 := (blk_cell X1.out 5).trans rfl
    have h6 := (blk_cell X1.out 6).trans rfl
    have h7 := (blk_cell X1.out 7).trans rfl
    have h8 := (blk_cell X1.out 8).trans rfl
    have h9 := (blk_cell X1.out 9).trans rfl
    have h10 := (blk_cell X1.out 10).trans rfl
    have h11 := (blk_cell X1.out 11).trans rfl
    have h12 := (blk_cell X1.out 12).trans rfl
    have h13 := (blk_cell X1.out 13).trans rfl
    go_wp2_with ((with_reducible refine gate_store (t := 41) (p := 2) rfl ?_); refine wpList_store_mid rfl _ (.tmp 2) (.tmp 22) rfl g2 0 #[.bool b.f0, .int .i64 b.f1.f0, .slice A4 b.f1.f1.length c4, .bool b.f1.f2, .bool b.f1.f3, .slice A5' (b.f2.length + 1) c5', .int .i64 2, .int .i64 0, .int .i64 0, .int .i64 0, .slice none 0 0, .int .i64 b.f3.f5, .int .i64 0, .int .i64 0] ?hx ?hy (there_blk X2.out 0 14 (Nat.le_refl 14)) (by kernel_rfl) (by kernel_rfl) ?_; (case hx => first | rfl | (go_simp; done)); (case hy => first | rfl | (go_simp; done)))
    refine bodyPost_ret (results_cell_row rfl _ _ g2 41 #[.bool b.f0, .int .i64 b.f1.f0, .slice A4 b.f1.f1.length c4, .bool b.f1.f2, .bool b.f1.f3, .slice A5' (b.f2.length + 1) c5', .int .i64 2, .int .i64 0, .int .i64 0, .int .i64 0, .slice none 0 0, .int .i64 b.f3.f5, .int .i64 0, .int .i64 0] (0, 0) _ rfl (setL_blk _ _ X2.out (by kernel_rfl)) Try.underlying41 rfl (by kernel_rfl)) rfl ?_
    exact ⟨⟨A5', c5', rfl, setL_S HS.out X2.out (by decide) _ _⟩, setL_grown HGR.out HLX2.out _ _⟩
end Go.Proofs.Ytbfialebaoeicaa.X
