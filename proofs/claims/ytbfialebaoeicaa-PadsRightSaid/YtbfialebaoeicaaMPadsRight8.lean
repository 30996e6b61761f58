/- Part 9 of the proof of the statement PadsRight: the words of the walks, the walks through the functions that it reaches, and the plain laws of what they compute. -/
import Derived.Test.YtbfialebaoeicaaMPadsRight7
import Derived.RegionTactic
import Derived.ChangeAlike
import Derived.Deep.QuietTactic
import Derived.BigQuiet
import Derived.Deep.MidRow
namespace Go.Proofs.Ytbfialebaoeicaa.X
open Go.RowKit Go.Proofs.YtbfialebaoeicaaW.PrintWords Go.Proofs.YtbfialebaoeicaaW.PrintLast Go.Proofs.YtbfialebaoeicaaW.PrintMore
set_option linter.all false
def trimP (p : S35) : S35 := if p.f2 = true then ⟨p.f0, [], true, false⟩ else p
def nothB (b : S41) : Bool := b.f0 && !b.f1.f2 && decide (b.f1.f1.length = 0) && decide (b.f2.length = 0) && (b.f3.f0 == 6)
def newI (b : S41) : S49 := ⟨11, b.f3.f2, 0, 0, 0, b.f3.f3, b.f3.f4⟩
def roundB (b : S41) : S41 := ⟨b.f0, b.f1, b.f2 ++ [newI b], ⟨2, 0, 0, 0, [], b.f3.f5, 0, 0⟩⟩
theorem trim_f (p : S35) (hn : p.f1.length ≤ 1000) : pads_Trim.f p.f0 p.f1 p.f2 p.f3 = some ((trimP p).f0, (trimP p).f1, (trimP p).f2, (trimP p).f3) := by
 unfold pads_Trim.f slices_Clone_uint16_uint16.f trimP
 rw [if_pos (by omega)]
 by_cases h : p.f2 = true
 ·simp [h]
 ·simp [h]
theorem trim_c (p : S35) (A : Option Addr) (c : Nat) (w : World) (hl : Kd.C (Kd.int .u16) w A p.f1.length p.f1) (hc : p.f1.length ≤ c) (hn : p.f1.length ≤ 1000) :
  Calls Try.prog 45 #[.agg #[.int .i64 p.f0, .slice A p.f1.length c, .bool p.f2, .bool p.f3]] w fun e w' => (∃ v, e = .returned (.agg #[.int .i64 (trimP p).f0, v, .bool (trimP p).f2, .bool (trimP p).f3]) ∧ Kd.R (Kd.int .u16) 44 w' w.heap.size (fun _ => True) v (trimP p).f1) ∧ Below w.heap.size w w' := by
 refine (pads_Trim.calls p.f0 A c p.f1 p.f2 p.f3 _ _ _ _ w hl hc (trim_f p hn)).mono ?_
 rintro e w' ⟨v, rfl, hr, hb⟩
 exact ⟨⟨v, rfl, hr⟩, hb⟩
theorem noth_f (b : S41) : pads_Nothing.f b.f0 b.f1.f0 b.f1.f1 b.f1.f2 b.f1.f3 b.f2 b.f3.f0 b.f3.f1 b.f3.f2 b.f3.f3 b.f3.f4 b.f3.f5 b.f3.f6 b.f3.f7 = some (nothB b) := by
 unfold pads_Nothing.f nothB
 by_cases h0 : b.f0 = true
 ·rw [if_pos h0, h0]
  by_cases h1 : b.f1.f2 = true
  ·rw [if_pos h1, h1]; rfl
  ·rw [if_neg h1, show b.f1.f2 = false by simpa using h1]
   by_cases h2 : b.f1.f1.length = 0
   ·rw [if_pos (by omega), decide_eq_true h2]
    by_cases h3 : b.f2.length = 0
    ·rw [if_pos (by omega), decide_eq_true h3]; rfl
    ·rw [if_neg (by omega), decide_eq_false h3]; rfl
   ·rw [if_neg (by omega), decide_eq_false h2]; rfl
 ·rw [if_neg h0, show b.f0 = false by simpa using h0]; rfl
theorem noth_c (b : S41) (A4 : Option Addr) (c4 : Nat) (A5 : Option Addr) (c5 : Nat) (A6 : Option Addr) (c6 : Nat) (w : World) (h4 : Kd.C (Kd.int .u16) w A4 b.f1.f1.length b.f1.f1) (k4 : b.f1.f1.length ≤ c4) (h5 : Kd.C k49 w A5 b.f2.length b.f2) (k5 : b.f2.length ≤ c5) (h6 : Kd.C (Kd.int .i64) w A6 b.f3.f4.length b.f3.f4) (k6 : b.f3.f4.length ≤ c6) :
  Calls Try.prog 42 #[.agg #[.bool b.f0, .int .i64 b.f1.f0, .slice A4 b.f1.f1.length c4, .bool b.f1.f2, .bool b.f1.f3, .slice A5 b.f2.length c5, .int .i64 b.f3.f0, .int .i64 b.f3.f1, .int .i64 b.f3.f2, .int .i64 b.f3.f3, .slice A6 b.f3.f4.length c6, .int .i64 b.f3.f5, .int .i64 b.f3.f6, .int .i64 b.f3.f7]] w fun e w' => e = .returned (.bool (nothB b)) ∧ Below w.heap.size w w' :=
 pads_Nothing.calls b.f0 b.f1.f0 A4 c4 b.f1.f1 b.f1.f2 b.f1.f3 A5 c5 b.f2 b.f3.f0 b.f3.f1 b.f3.f2 b.f3.f3 A6 c6 b.f3.f4 b.f3.f5 b.f3.f6 b.f3.f7 _ w h4 k4 h5 k5 h6 k6 (noth_f b)
theorem grown_put {w W : World} {row : Option Nat} (h : w.grownBy W row) {p : Addr} (hp : w.heap.size ≤ p.block) (u : Value) : w.grownBy (W.setCell p u) row :=
 ⟨h.os, h.tape, h.output, by rw [size_set]; exact h.size, fun i hi hne => (Below.heap_setCell W p u i (by omega)).trans (h.block i hi hne)⟩
def putL (cs : Array Value) (o : Nat) : List Value → Array Value
 | [] => cs
 | v :: r => putL (cs.setIfInBounds o v) (o + 1) r
theorem setL_blk {g : Nat} {t : TypeId} : ∀ (l : List Value) (o : Nat) {w : World} {cs cs' : Array Value} (h : w.heap[g]? = some (.cells cs t (0, 0))) (e : putL cs o l = cs'), (w.setCells g o l).heap[g]? = some (.cells cs' t (0, 0))
 | [], o, w, cs, cs', h, e => by rw [← e]; exact h
 | v :: r, o, w, cs, cs', h, e => setL_blk r (o + 1) (w := w.setCell ⟨g, o, none⟩ v) (blk_set h o v) e
theorem setL_far {w : World} {g k : Nat} {x : Obj} (h : w.heap[k]? = some x) (hk : k ≠ g) (l : List Value) (o : Nat) : (w.setCells g o l).heap[k]? = some x := (setCells_far l o k hk).trans h
theorem setL_size (w : World) (g o : Nat) (l : List Value) : (w.setCells g o l).heap.size = w.heap.size := (setCells_same g l o w).2.2.2
theorem setL_grown {w W : World} {row : Option Nat} (h : w.grownBy W row) {g : Nat} (hg : w.heap.size ≤ g) (o : Nat) (l : List Value) : w.grownBy (W.setCells g o l) row := by
 obtain ⟨h1, h2, h3, h4⟩ := setCells_same g l o W
 exact ⟨h1.trans h.os, h2.trans h.tape, h3.trans h.output, by rw [h4]; exact h.size, fun i hi hne => (setCells_far l o i (by omega)).trans (h.block i hi hne)⟩
theorem setL_below {B : Nat} {w W : World} (h : Below B w W) {g : Nat} (hg : B ≤ g) (o : Nat) (l : List Value) : Below B w (W.setCells g o l) := by
 obtain ⟨h1, h2, h3, h4⟩ := setCells_same g l o W
 exact ⟨h1.trans h.os, h2.trans h.tape, h3.trans h.output, by rw [h4]; exact h.size, fun i hi => (setCells_far l o i (by omega)).trans (h.block i hi)⟩
theorem setL_S {α : Type} {d : Kd α} {e : Nat} {w : World} {base : Nat} {ok : Nat → Prop} {v : Value} {xs : List α} (h : Kd.S d e w base ok v xs) {g t : Nat} {cells : Array Value} (hb : w.heap[g]? = some (.cells cells t (0, 0))) (ht : ∀ q, q ∈ e :: d.E → q ≠ t) (o : Nat) (l : List Value) : Kd.S d e (w.setCells g o l) base ok v xs :=
 Kd.S_mono (Kd.S_step (Kd.S_types h hb ht) (fun k hk _ => setCells_far l o k hk.2)) (fun _ hk => hk.1)
theorem there_blk {w : World} {g : Nat} {t : TypeId} {cs : Array Value} (h : w.heap[g]? = some (.cells cs t (0, 0))) (o n : Nat) (hn : o + n ≤ cs.size) : w.there g o n := by
 intro j hj
 refine ⟨?_, blk_frozen h _⟩
 rw [blk_cell h, Array.getElem?_eq_getElem (by omega)]
 rfl
set_option maxHeartbeats 16000000 in
set_option maxRecDepth 100000 in
theorem round_c (b : S41) (A4 : Option Addr) (c4 : Nat) (A5 : Option Addr) (c5 : Nat) (A6 : Option Addr) (c6 : Nat) (w : World) (base : Nat) (ok5 okA : Nat → Prop) (hbs : base ≤ w.heap.size) (h5 : Kd.S k49 49 w base ok5 (.slice A5 b.f2.length c5) b.f2) (h6 : Kd.R (Kd.int .i64) 3 w base okA (.slice A6 b.f3.f4.length c6) b.f3.f4) (hd : ∀ k, okA k → ¬ ok5 k) (hn : b.f2.length ≤ 1000) :
  Calls Try.prog 77 #[.agg #[.bool b.f0, .int .i64 b.f1.f0, .slice A4 b.f1.f1.length c4, .bool b.f1.f2, .bool b.f1.f3, .slice A5 b.f2.length c5, .int .i64 b.f3.f0, .int .i64 b.f3.f1, .int .i64 b.f3.f2, .int .i64 b.f3.f3, .slice A6 b.f3.f4.length c6, .int .i64 b.f3.f5, .int .i64 b.f3.f6, .int .i64 b.f3.f7]] w fun e w' => (∃ A5' c5', e = .returned (.agg #[.bool b.f0, .int .i64 b.f1.f0, .slice A4 b.f1.f1.length c4, .bool b.f1.f2, .bool b.f1.f3, .slice A5' (b.f2.length + 1) c5', .int .i64 2, .int .i64 0, .int .i64 0, .int .i64 0, .slice none 0 0, .int .i64 b.f3.f5, .int .i64 0, .int .i64 0]) ∧ Kd.S k49 49 w' base (fun k => ok5 k ∨ okA k ∨ w.heap.size ≤ k) (.slice A5' (b.f2.length + 1) c5') (b.f2 ++ [newI b])) ∧ w.grownBy w' (Value.ownBlock (.slice A5 b.f2.length c5)) := by
 have H5 := Aside0.mk h5
 have H6 := Aside0.mk h6
 have HD := Aside0.mk hd
 have HN := Aside0.mk hn
 have HBS := Aside0.mk hbs
 clear h5 h6 hd hn hbs
 have hu41 := Try.underlying41
 have hu39 := Try.underlying39
 have hu49 := Try.underlying49
 have hu35 := Try.underlying35
 go_enter Try.func77, Try.ntmps77
 go_upto_region 1 with (first | ((with_reducible refine gate_dst (N := 1) rfl ?_); refine box_event ?hg (N := 1) ?hd (cs := #[.bool b.f0, .int .i64 b.f1.f0, .slice A4 b.f1.f1.length c4, .bool b.f1.f2, .bool b.f1.f3, .slice A5 b.f2.length c5, .int .i64 b.f3.f0, .int .i64 b.f3.f1, .int .i64 b.f3.f2, .int .i64 b.f3.f3, .slice A6 b.f3.f4.length c6, .int .i64 b.f3.f5, .int .i64 b.f3.f6, .int .i64 b.f3.f7]) (t := 41) ?hr ?_; (case hd => rfl); (case hg => rfl); (case hr => first | (go_simp; done) | (go_simp; rfl)); intro g1 hg w1 hbox hb; have HLX1 := Aside0.mk (show w.heap.size ≤ g1 by rw [hg]; exact Nat.le_refl _); replace H5 := Aside0.mk (Kd.S_below H5.out hb); replace H6 := Aside0.mk (Kd.R_below H6.out hb); have HB := Aside0.mk hb; have X1 := Aside0.mk hbox; clear hbox hb hg; obtain ⟨h0, h1, h2, h3, h4, h5, h6, h7, h8, h9, h10, h11, h12, h13⟩ := cl14 X1.out; obtain ⟨zh0, zh1, zh2, zh3, zh4, zh5, zh6, zh7, zh8, zh9, zh10, zh11, zh12, zh13⟩ := fz14 X1.out) | ((with_reducible refine gate_dst (N := 2) rfl ?_); refine box_event ?hg (N := 2) ?hd (cs := #[.bool false, .int .i64 0, .slice none 0 0, .bool false, .bool false, .slice none 0 0, .int .i64 0, .int .i64 0, .int .i64 0, .int .i64 0, .slice none 0 0, .int .i64 0, .int .i64 0, .int .i64 0]) (t := 41) ?hr ?_; (case hd => rfl); (case hg => rfl); (case hr => first | (go_simp; done) | (go_simp; rfl)); intro g2 hg w2 hbox hb; have HLX2 := Aside0.mk (show w.heap.size ≤ g2 by rw [hg]; exact HB.out.size); have HNE := Aside0.mk (show g2 ≠ g1 by rw [hg]; exact Nat.ne_of_gt (blk_lt X1.out)); replace HB := Aside0.mk (below_step HB.out hb); replace X1 := Aside0.mk (blk_below X1.out hb); replace H5 := Aside0.mk (Kd.S_below H5.out hb); replace H6 := Aside0.mk (Kd.R_below H6.out hb); have X2 := Aside0.mk hbox; clear hbox hb hg; obtain ⟨r0, r1, r2, r3, r4, r5, r6, r7, r8, r9, r10, r11, r12, r13⟩ := cl14 X2.out; obtain ⟨zr0, zr1, zr2, zr3, zr4, zr5, zr6, zr7, zr8, zr9, zr10, zr11, zr12, zr13⟩ := fz14 X2.out; clear h0 zh0 h1 zh1 h2 zh2 h3 zh3 h4 zh4 h5 zh5 h6 zh6 h7 zh7 h8 zh8 h9 zh9 h10 zh10 h11 zh11 h12 zh12 h13 zh13; obtain ⟨h0, h1, h2, h3, h4, h5, h6, h7, h8, h9, h10, h11, h12, h13⟩ := cl14 X1.out; obtain ⟨zh0, zh1, zh2, zh3, zh4, zh5, zh6, zh7, zh8, zh9, zh10, zh11, zh12, zh13⟩ := fz14 X1.out))
 try simp only [Act.put, sA_, sZ_, sS_]
 go_cut [3] (fun v3 wc => ∃ g3 : Nat, v3 = .pointer (some ⟨g3, 0, none⟩) ∧ Aside0 (w.heap.size ≤ g3 ∧ g3 ≠ g1 ∧ g3 ≠ g2) ∧ Aside0 (Below w.heap.size w wc) ∧ Aside0 (wc.heap[g1]? = some (.cells #[.bool b.f0, .int .i64 b.f1.f0, .slice A4 b.f1.f1.length c4, .bool b.f1.f2, .bool b.f1.f3, .slice A5 b.f2.length c5, .int .i64 b.f3.f0, .int .i64 b.f3.f1, .int .i64 b.f3.f2, .int .i64 b.f3.f3, .slice A6 b.f3.f4.length c6, .int .i64 b.f3.f5, .int .i64 b.f3.f6, .int .i64 b.f3.f7] 41 (0, 0))) ∧ Aside0 (wc.heap[g2]? = some (.cells #[.bool false, .int .i64 0, .slice none 0 0, .bool false, .bool false, .slice none 0 0, .int .i64 0, .int .i64 0, .int .i64 0, .int .i64 0, .slice none 0 0, .int .i64 0, .int .i64 0, .int .i64 0] 41 (0, 0))) ∧ Aside0 (wc.heap[g3]? = some (.cells #[.int .i64 b.f3.f0, .int .i64 b.f3.f1, .int .i64 b.f3.f2, .int .i64 b.f3.f3, .slice A6 b.f3.f4.length c6, .int .i64 b.f3.f5, .int .i64 b.f3.f6, .int .i64 b.f3.f7] 39 (0, 0))) ∧ Aside0 (Kd.S k49 49 wc base ok5 (.slice A5 b.f2.length c5) b.f2) ∧ Aside0 (Kd.R (Kd.int .i64) 3 wc base okA (.slice A6 b.f3.f4.length c6) b.f3.f4))
 case first =>
  go_wp2
  go_meet
  exact ⟨_, rfl, ⟨HB.out.size, Nat.ne_of_gt (blk_lt X1.out), Nat.ne_of_gt (blk_lt X2.out)⟩, ⟨below_alloc HB.out _⟩, ⟨blk_alloc X1.out _⟩, ⟨blk_alloc X2.out _⟩, ⟨blk_new _ _⟩, ⟨Kd.S_alloc H5.out _⟩, ⟨Kd.R_alloc H6.out _⟩⟩
 case rest =>
  clear h0 zh0 h1 zh1 h2 zh2 h3 zh3 h4 zh4 h5 zh5 h6 zh6 h7 zh7 h8 zh8 h9 zh9 h10 zh10 h11 zh11 h12 zh12 h13 zh13
  clear r0 zr0 r1 zr1 r2 zr2 r3 zr3 r4 zr4 r5 zr5 r6 zr6 r7 zr7 r8 zr8 r9 zr9 r10 zr10 r11 zr11 r12 zr12 r13 zr13
  clear HB X1 X2 H5 H6
  obtain ⟨g3, rfl, HG3, HB, X1, X2, X3, H5, H6⟩ := hcut
  obtain ⟨h0, h1, h2, h3, h4, h5, h6, h7, h8, h9, h10, h11, h12, h13⟩ := cl14 X1.out
  obtain ⟨zh0, zh1, zh2, zh3, zh4, zh5, zh6, zh7, zh8, zh9, zh10, zh11, zh12, zh13⟩ := fz14 X1.out
  obtain ⟨e0, e1, e2, e3, e4, e5, e6, e7⟩ := cl8 X3.out
  go_upto_region 2 with (fail)
  go_cut [] (fun wc => ∃ A5' c5', Aside0 (w.grownBy wc (Value.ownBlock (.slice A5 b.f2.length c5))) ∧ Aside0 (wc.heap[g1]? = some (.cells #[.bool b.f0, .int .i64 b.f1.f0, .slice A4 b.f1.f1.length c4, .bool b.f1.f2, .bool b.f1.f3, .slice A5' (b.f2.length + 1) c5', .int .i64 b.f3.f0, .int .i64 b.f3.f1, .int .i64 b.f3.f2, .int .i64 b.f3.f3, .slice A6 b.f3.f4.length c6, .int .i64 b.f3.f5, .int .i64 b.f3.f6, .int .i64 b.f3.f7] 41 (0, 0))) ∧ Aside0 (wc.heap[g2]? = some (.cells #[.bool false, .int .i64 0, .slice none 0 0, .bool false, .bool false, .slice none 0 0, .int .i64 0, .int .i64 0, .int .i64 0, .int .i64 0, .slice none 0 0, .int .i64 0, .int .i64 0, .int .i64 0] 41 (0, 0))) ∧ Aside0 (wc.heap[g3]? = some (.cells #[.int .i64 b.f3.f0, .int .i64 b.f3.f1, .int .i64 b.f3.f2, .int .i64 b.f3.f3, .slice A6 b.f3.f4.length c6, .int .i64 b.f3.f5, .int .i64 b.f3.f6, .int .i64 b.f3.f7] 39 (0, 0))) ∧ Aside0 (Kd.S k49 49 wc base (fun k => ok5 k ∨ okA k ∨ w.heap.size ≤ k) (.slice A5' (b.f2.length + 1) c5') (b.f2 ++ [newI b])))
  case first =>
   go_wp2_with ((with_reducible refine gate_builtin (b := .append) (xs := #[.tmp 7, .tmp 15]) rfl ?_); at_builtin; refine Kd.S_append k49 base rfl (.tmp 7) (.tmp 15) 36 49 _ _ rfl Try.underlying36 infoI rfl (Nat.succ_pos _) (by omega) (.slice A5 b.f2.length c5) b.f2 (newI b) [.int .i64 11, .int .i64 b.f3.f2, .int .i64 0, .int .i64 0, .int .u16 0, .int .i64 b.f3.f3, .slice A6 b.f3.f4.length c6] (fun k => ok5 k ∨ okA k ∨ w.heap.size ≤ k) okA rfl rfl ?aP ?aK ?aF ?aO (Below.refl base _) ?aS ?aL ?_; (case aP => exact k49_mkM _ _ _ (newI b) H6.out); (case aK => exact (fun k hk => ⟨.inr (.inl hk), fun e' => HD.out k hk ((Kd.S_R H5.out).1 k e'.symm)⟩)); (case aF => exact (fun k hk => .inr (.inr (Nat.le_trans HB.out.size hk)))); (case aO => exact (Kd.S_mono H5.out (fun k hk => ⟨.inl hk, fun h => HD.out k h hk⟩))); (case aS => exact (Nat.le_trans HBS.out HB.out.size)); (case aL => have := HN.out; omega); intro v1 w9 hs hb1 hg hat; obtain ⟨A5', c5', rfl, hlc, _⟩ := Kd.S_reads hs; rw [show (b.f2 ++ [newI b]).length = b.f2.length + 1 from by simp] at hs ⊢; have HS := Aside0.mk hs; have HGR := Aside0.mk (World.grownBy.trans (grown_of_below HB.out _) hg); have N1 := Aside0.mk (blk_grown X1.out hg (Kd.S_ne H5.out X1.out (by decide))); have N2 := Aside0.mk (blk_grown X2.out hg (Kd.S_ne H5.out X2.out (by decide))); have N3 := Aside0.mk (blk_grown X3.out hg (Kd.S_ne H5.out X3.out (by decide))); clear h0 zh0 h1 zh1 h2 zh2 h3 zh3 h4 zh4 h5 zh5 h6 zh6 h7 zh7 h8 zh8 h9 zh9 h10 zh10 h11 zh11 h12 zh12 h13 zh13 e0 e1 e2 e3 e4 e5 e6 e7; clear X1 X2 X3 H5 H6 HB hs hb1 hg hat hlc; have X1 := N1; have X2 := N2; have X3 := N3; clear N1 N2 N3; obtain ⟨h0, h1, h2, h3, h4, h5, h6, h7, h8, h9, h10, h11, h12, h13⟩ := cl14 X1.out; obtain ⟨zh0, zh1, zh2, zh3, zh4, zh5, zh6, zh7, zh8, zh9, zh10, zh11, zh12, zh13⟩ := fz14 X1.out; obtain ⟨e0, e1, e2, e3, e4, e5, e6, e7⟩ := cl8 X3.out)
   go_meet
   exact ⟨A5', c5', ⟨grown_put HGR.out HLX1.out _⟩, ⟨set_blk _ _ (X1.out) rfl⟩, ⟨blk_far X2.out (p := ⟨g1, 5, none⟩) HNE.out _⟩, ⟨blk_far X3.out (p := ⟨g1, 5, none⟩) HG3.out.2.1 _⟩, ⟨Kd.S_set HS.out X1.out (by decide) _ _⟩⟩
  case rest =>
   clear h0 zh0 h1 zh1 h2 zh2 h3 zh3 h4 zh4 h5 zh5 h6 zh6 h7 zh7 h8 zh8 h9 zh9 h10 zh10 h11 zh11 h12 zh12 h13 zh13 e0 e1 e2 e3 e4 e5 e6 e7
   clear HB X1 X2 X3 H5 H6
   obtain ⟨A5', c5', HGR, X1, X2, X3, HS⟩ := hcut
   obtain ⟨h0, h1, h2, h3, h4, h5, h6, h7, h8, h9, h10, h11, h12, h13⟩ := cl14 X1.out
   obtain ⟨zh0, zh1, zh2, zh3, zh4, zh5, zh6, zh7, zh8, zh9, zh10, zh11, zh12, zh13⟩ := fz14 X1.out
   obtain ⟨e0, e1, e2, e3, e4, e5, e6, e7⟩ := cl8 X3.out
   go_upto_region 3 with (fail)
   go_cut [] (fun wc => Aside0 (w.grownBy wc (Value.ownBlock (.slice A5 b.f2.length c5))) ∧ Aside0 (wc.heap[g1]? = some (.cells #[.bool b.f0, .int .i64 b.f1.f0, .slice A4 b.f1.f1.length c4, .bool b.f1.f2, .bool b.f1.f3, .slice A5' (b.f2.length + 1) c5', .int .i64 2, .int .i64 0, .int .i64 0, .int .i64 0, .slice none 0 0, .int .i64 b.f3.f5, .int .i64 0, .int .i64 0] 41 (0, 0))) ∧ Aside0 (wc.heap[g2]? = some (.cells #[.bool false, .int .i64 0, .slice none 0 0, .bool false, .bool false, .slice none 0 0, .int .i64 0, .int .i64 0, .int .i64 0, .int .i64 0, .slice none 0 0, .int .i64 0, .int .i64 0, .int .i64 0] 41 (0, 0))) ∧ Aside0 (Kd.S k49 49 wc base (fun k => ok5 k ∨ okA k ∨ w.heap.size ≤ k) (.slice A5' (b.f2.length + 1) c5') (b.f2 ++ [newI b])))
   case first =>
    go_wp2_with ((with_reducible refine gate_store (t := 39) (p := 21) rfl ?_); refine wpList_store_mid rfl _ (.tmp 21) (.tmp 20) rfl g1 6 #[.int .i64 2, .int .i64 0, .int .i64 0, .int .i64 0, .slice none 0 0, .int .i64 b.f3.f5, .int .i64 0, .int .i64 0] ?hx ?hy (there_blk X1.out 6 8 (Nat.le_refl 14)) (by kernel_rfl) (by kernel_rfl) ?_; (case hx => first | rfl | (go_simp; done)); (case hy => first | rfl | (go_simp; done)))
    go_meet
    exact ⟨⟨setL_grown HGR.out HLX1.out _ _⟩, ⟨setL_blk _ _ X1.out (by kernel_rfl)⟩, ⟨setL_far X2.out HNE.out _ _⟩, ⟨setL_S HS.out X1.out (by decide) _ _⟩⟩
   case rest =>
    clear h0 zh0 h1 zh1 h2 zh2 h3 zh3 h4 zh4 h5 zh5 h6 zh6 h7 zh7 h8 zh8 h9 zh9 h10 zh10 h11 zh11 h12 zh12 h13 zh13 e0 e1 e2 e3 e4 e5 e6 e7
    clear HGR X1 X2 X3 HS
    obtain ⟨HGR, X1, X2, HS⟩ := hcut
    obtain ⟨h0, h1, h2, h3, h4, h5, h6, h7, h8, h9, h10, h11, h12, h13⟩ := cl14 X1.out
    go_wp2_with ((with_reducible refine gate_store (t := 41) (p := 2) rfl ?_); refine wpList_store_mid rfl _ (.tmp 2) (.tmp 22) rfl g2 0 #[.bool b.f0, .int .i64 b.f1.f0, .slice A4 b.f1.f1.length c4, .bool b.f1.f2, .bool b.f1.f3, .slice A5' (b.f2.length + 1) c5', .int .i64 2, .int .i64 0, .int .i64 0, .int .i64 0, .slice none 0 0, .int .i64 b.f3.f5, .int .i64 0, .int .i64 0] ?hx ?hy (there_blk X2.out 0 14 (Nat.le_refl 14)) (by kernel_rfl) (by kernel_rfl) ?_; (case hx => first | rfl | (go_simp; done)); (case hy => first | rfl | (go_simp; done)))
    refine bodyPost_ret (results_cell_row rfl _ _ g2 41 #[.bool b.f0, .int .i64 b.f1.f0, .slice A4 b.f1.f1.length c4, .bool b.f1.f2, .bool b.f1.f3, .slice A5' (b.f2.length + 1) c5', .int .i64 2, .int .i64 0, .int .i64 0, .int .i64 0, .slice none 0 0, .int .i64 b.f3.f5, .int .i64 0, .int .i64 0] (0, 0) _ rfl (setL_blk _ _ X2.out (by kernel_rfl)) Try.underlying41 rfl (by kernel_rfl)) rfl ?_
    exact ⟨⟨A5', c5', rfl, setL_S HS.out X2.out (by decide) _ _⟩, setL_grown HGR.out HLX2.out _ _⟩
end Go.Proofs.Ytbfialebaoeicaa.X
namespace Go.Proofs.Ytbfialebaoeicaa.X
open Go.RowKit Go.Proofs.YtbfialebaoeicaaW.PrintWords Go.Proofs.YtbfialebaoeicaaW.PrintLast Go.Proofs.YtbfialebaoeicaaW.PrintMore
set_option linter.all false
theorem thr_cells {w : World} {g o n : Nat} {cs : List Value} (hc : ∀ j u, cs[j]? = some u → w.cell? ⟨g, o + j, none⟩ = some u) (hf : ∀ j, w.frozen? ⟨g, o + j, none⟩ = false) (k : Nat) (hn : k + n ≤ cs.length) : w.there g (o + k) n := by
 intro j hj
 have hl : k + j < cs.length := by omega
 refine ⟨?_, by rw [Nat.add_assoc]; exact hf (k + j)⟩
 rw [Nat.add_assoc, hc (k + j) _ (List.getElem?_eq_getElem hl)]
 rfl
theorem F_of_FK {W : World} {ok : Nat → Prop} {f : S27} {A2 : Option Addr} {c2 : Nat} (h : Kd.FK k27 W ok f [.int .i64 f.f0, .int .i64 f.f1, .slice A2 f.f2.length c2]) : Kd.F k41 W ok A2 f.f2.length f.f2 := fun W' hW => by
 obtain ⟨A, c, e, _, hC⟩ := k27_open (h W' hW)
 simp only [List.cons.injEq, Value.slice.injEq, and_true, true_and] at e
 rw [e.1]
 exact hC
theorem FK_of_F {W : World} {ok : Nat → Prop} {f : S27} {A2 : Option Addr} {c2 : Nat} (hc : f.f2.length ≤ c2) (h : Kd.F k41 W ok A2 f.f2.length f.f2) : Kd.FK k27 W ok f [.int .i64 f.f0, .int .i64 f.f1, .slice A2 f.f2.length c2] := fun W' hW => k27_mk W' f hc (h W' hW)
set_option maxHeartbeats 16000000 in
set_option maxRecDepth 100000 in
theorem w14_c (m : List S27) (A0 : Option Addr) (c0 : Nat) (n k : Int) (f : S27) (b : S41) (A4 : Option Addr) (c4 : Nat) (A5 : Option Addr) (c5 : Nat) (A6 : Option Addr) (c6 : Nat) (ok : Nat → Prop) (w : World) (hm : Kd.F k27 w ok A0 m.length m) (hc0 : m.length ≤ c0) (hl : m.length ≤ 999999) (hf : rd_T27 m n = f) (hn : 0 ≤ n ∧ n < (m.length : Int)) (hk : 0 ≤ k ∧ k < (f.f2.length : Int)) (hfl : f.f2.length ≤ 999999) (hb : Kd.FK k41 w ok b [.bool b.f0, .int .i64 b.f1.f0, .slice A4 b.f1.f1.length c4, .bool b.f1.f2, .bool b.f1.f3, .slice A5 b.f2.length c5, .int .i64 b.f3.f0, .int .i64 b.f3.f1, .int .i64 b.f3.f2, .int .i64 b.f3.f3, .slice A6 b.f3.f4.length c6, .int .i64 b.f3.f5, .int .i64 b.f3.f6, .int .i64 b.f3.f7]) :
  Calls Try.prog 99 #[.agg #[.slice A0 m.length c0], .int .i64 n, .int .i64 k, .agg #[.bool b.f0, .int .i64 b.f1.f0, .slice A4 b.f1.f1.length c4, .bool b.f1.f2, .bool b.f1.f3, .slice A5 b.f2.length c5, .int .i64 b.f3.f0, .int .i64 b.f3.f1, .int .i64 b.f3.f2, .int .i64 b.f3.f3, .slice A6 b.f3.f4.length c6, .int .i64 b.f3.f5, .int .i64 b.f3.f6, .int .i64 b.f3.f7]] w fun e w' => (∃ A c, e = .returned (.agg #[.slice A m.length c]) ∧ m.length ≤ c ∧ Kd.F k27 w' (fun k => ok k ∨ w.heap.size ≤ k) A m.length (m.set n.toNat ⟨f.f0, f.f1, f.f2.set k.toNat b⟩)) ∧ Below w.heap.size w w' := by
 have HM := Aside0.mk (Kd.F_bound hm)
 have HKB := Aside0.mk (Kd.FK_bound hb)
 have HNN := Aside0.mk hn
 have HKK := Aside0.mk hk
 have HL0 := Aside0.mk (And.intro hl hfl)
 have p1 : (0 ≤ n) = True := eq_true hn.1
 have p2 : (n < (m.length : Int)) = True := eq_true hn.2
 have p3 : (0 ≤ k) = True := eq_true hk.1
 have p4 : (k < (f.f2.length : Int)) = True := eq_true hk.2
 have HSM := Aside0.mk (show m.getD n.toNat z27 = f from hf)
 clear hm hb hn hk hl hfl hf
 have hu24 := Try.underlying24
 have hu27 := Try.underlying27
 have hu41 := Try.underlying41
 have hu49 := Try.underlying49
 have hu35 := Try.underlying35
 have hu39 := Try.underlying39
 go_enter Try.func99, Try.ntmps99
 go_upto_region 1 with (first | ((with_reducible refine gate_dst (N := 4) rfl ?_); refine box_event ?hg (N := 4) ?hd (cs := #[.slice A0 m.length c0]) (t := 24) ?hr ?_; (case hd => rfl); (case hg => rfl); (case hr => first | (go_simp; done) | (go_simp; rfl)); intro g4 hg w4 hbox hb; have HLX4 := Aside0.mk (show w.heap.size ≤ g4 by rw [hg]; exact Nat.le_refl _); have HB := Aside0.mk hb; have X4 := Aside0.mk hbox; clear hbox hb hg; have m0 := (blk_cell X4.out 0).trans rfl; have zm0 := blk_frozen X4.out 0) | ((with_reducible refine gate_dst (N := 7) rfl ?_); refine box_event ?hg (N := 7) ?hd (cs := #[.bool b.f0, .int .i64 b.f1.f0, .slice A4 b.f1.f1.length c4, .bool b.f1.f2, .bool b.f1.f3, .slice A5 b.f2.length c5, .int .i64 b.f3.f0, .int .i64 b.f3.f1, .int .i64 b.f3.f2, .int .i64 b.f3.f3, .slice A6 b.f3.f4.length c6, .int .i64 b.f3.f5, .int .i64 b.f3.f6, .int .i64 b.f3.f7]) (t := 41) ?hr ?_; (case hd => rfl); (case hg => rfl); (case hr => first | (go_simp; done) | (go_simp; rfl)); intro g7 hg w7 hbox hb; have HLX7 := Aside0.mk (show w.heap.size ≤ g7 by rw [hg]; exact HB.out.size); have HN7 := Aside0.mk (show g7 ≠ g4 by rw [hg]; exact Nat.ne_of_gt (blk_lt X4.out)); replace HB := Aside0.mk (below_step HB.out hb); replace X4 := Aside0.mk (blk_below X4.out hb); have X7 := Aside0.mk hbox; clear hbox hb hg; obtain ⟨h0, h1, h2, h3, h4, h5, h6, h7, h8, h9, h10, h11, h12, h13⟩ := cl14 X7.out; obtain ⟨zh0, zh1, zh2, zh3, zh4, zh5, zh6, zh7, zh8, zh9, zh10, zh11, zh12, zh13⟩ := fz14 X7.out) | ((with_reducible refine gate_dst (N := 8) rfl ?_); refine box_event ?hg (N := 8) ?hd (cs := #[.slice none 0 0]) (t := 24) ?hr ?_; (case hd => rfl); (case hg => rfl); (case hr => first | (go_simp; done) | (go_simp; rfl)); intro g8 hg w8 hbox hb; have HLX8 := Aside0.mk (show w.heap.size ≤ g8 by rw [hg]; exact HB.out.size); have HNE := Aside0.mk (show g8 ≠ g4 by rw [hg]; exact Nat.ne_of_gt (blk_lt X4.out)); replace HB := Aside0.mk (below_step HB.out hb); replace X4 := Aside0.mk (blk_below X4.out hb); replace X7 := Aside0.mk (blk_below X7.out hb); have X8 := Aside0.mk hbox; clear hbox hb hg; have r0 := (blk_cell X8.out 0).trans rfl; have zr0 := blk_frozen X8.out 0))
 try simp only [Act.put, sA_, sZ_, sS_]
 go_cut [9] (fun v9 wc => ∃ (g9 c9 B1 N1 : Nat), v9 = .slice (some ⟨g9, 0, none⟩) m.length c9 ∧ Aside0 (w.heap.size ≤ B1 ∧ B1 ≤ g9 ∧ g9 < N1 ∧ N1 ≤ wc.heap.size ∧ g4 < B1 ∧ g7 < B1 ∧ g8 < B1) ∧ Aside0 (Below w.heap.size w wc) ∧ Aside0 (wc.heap[g4]? = some (.cells #[.slice A0 m.length c0] 24 (0, 0))) ∧ Aside0 (wc.heap[g7]? = some (.cells #[.bool b.f0, .int .i64 b.f1.f0, .slice A4 b.f1.f1.length c4, .bool b.f1.f2, .bool b.f1.f3, .slice A5 b.f2.length c5, .int .i64 b.f3.f0, .int .i64 b.f3.f1, .int .i64 b.f3.f2, .int .i64 b.f3.f3, .slice A6 b.f3.f4.length c6, .int .i64 b.f3.f5, .int .i64 b.f3.f6, .int .i64 b.f3.f7] 41 (0, 0))) ∧ Aside0 (wc.heap[g8]? = some (.cells #[.slice none 0 0] 24 (0, 0))) ∧ Aside0 (Kd.N k27 27 wc B1 (fun k => (ok k ∧ k < w.heap.size) ∨ (B1 ≤ k ∧ k < N1)) (.slice (some ⟨g9, 0, none⟩) m.length c9) m))
 case first =>
  have HBS := Aside0.mk HB.out.size
  have HG4 := Aside0.mk (And.intro (blk_lt X4.out) (And.intro (blk_lt X7.out) (And.intro (blk_lt X8.out) HB.out.size)))
  go_wp2_with (first | ((with_reducible refine gate_dst (N := 11) rfl ?_); refine Kd.R_lit k27 _ 27 ?hg (N := 11) ?hd (xs := ([] : List S27)) (inner := []) (ok := fun k => w8.heap.size ≤ k) (okp := fun _ => False) ?hr ?hp (fun _ hk => hk.elim) (Nat.le_refl _) (Below.refl _ _) (Nat.le_refl _) (by simp) ?_; (case hd => rfl); (case hg => rfl); (case hr => first | (go_simp; done) | (go_simp; rfl)); (case hp => exact (Reps.none _ _)); intro v11 w11 ho5 hb5 hg_ hnew_; clear hg_ hnew_; have HO5 := Aside0.mk ho5; have HB5 := Aside0.mk hb5; clear m0 zm0 h0 zh0 h1 zh1 h2 zh2 h3 zh3 h4 zh4 h5 zh5 h6 zh6 h7 zh7 h8 zh8 h9 zh9 h10 zh10 h11 zh11 h12 zh12 h13 zh13 r0 zr0; have HBO := HB; have X4_ := X4; have X7_ := X7; have X8_ := X8; replace HB := Aside0.mk (below_step HB.out hb5); replace X4 := Aside0.mk (blk_below X4.out hb5); replace X7 := Aside0.mk (blk_below X7.out hb5); replace X8 := Aside0.mk (blk_below X8.out hb5); clear ho5 hb5; have m0 := (blk_cell X4.out 0).trans rfl; have zm0 := blk_frozen X4.out 0; obtain ⟨h0, h1, h2, h3, h4, h5, h6, h7, h8, h9, h10, h11, h12, h13⟩ := cl14 X7.out; obtain ⟨zh0, zh1, zh2, zh3, zh4, zh5, zh6, zh7, zh8, zh9, zh10, zh11, zh12, zh13⟩ := fz14 X7.out; have r0 := (blk_cell X8.out 0).trans rfl; have zr0 := blk_frozen X8.out 0) | ((with_reducible refine gate_builtin (b := .append) (xs := #[.tmp 11, .tmp 13]) rfl ?_); at_builtin; refine Kd.N_append_rows k27 (w0 := w8) w8.heap.size rfl (.tmp 11) (.tmp 13) 22 27 _ _ rfl Try.underlying22 infoF rfl (Nat.succ_pos _) (by omega) v11 ([] : List S27) m _ _ _ (fun k => (ok k ∧ k < w.heap.size) ∨ w8.heap.size ≤ k) (fun k => ok k ∧ k < w.heap.size) rfl rfl ?aO ?aR ?aP ?aF ?aB ?aS ?aL ?_; (case aR => exact (Kd.F_below HM.out HB.out)); (case aP => exact (fun k hk => ⟨.inl hk, fun e_ => by have h1_ := Kd.R_base HO5.out k e_.symm; have h2_ := And.intro hk.2 HBS.out; omega⟩)); (case aB => exact HB5.out); (case aF => exact (fun k hk => .inr (Nat.le_trans (below_size HB5.out) hk))); (case aO => exact Kd.N_mono (Kd.R_N HO5.out) (fun k hk => .inr hk)); (case aS => exact (below_size HB5.out)); (case aL => have := HL0.out; simp; omega); intro v14 w14 ho hb hg hat; rw [List.nil_append] at ho; obtain ⟨g9, c14, rfl, hg0, hg1, _⟩ := Kd.N_form ho (by have := HNN.out; omega); have HB9 := Aside0.mk hb; have HP9 := Aside0.mk (Kd.N_bound ho); have HG9 := Aside0.mk (And.intro hg0 hg1); clear ho hb hg hat hg0 hg1))
  go_meet
  exact ⟨g9, c14, w8.heap.size, _, rfl, ⟨HG4.out.2.2.2, HG9.out.1, HG9.out.2, Nat.le_refl _, HG4.out.1, HG4.out.2.1, HG4.out.2.2.1⟩, ⟨HBO.out.trans (HB9.out.mono HBO.out.size)⟩, ⟨blk_below X4_.out HB9.out⟩, ⟨blk_below X7_.out HB9.out⟩, ⟨blk_below X8_.out HB9.out⟩, ⟨Kd.N_mono HP9.out (fun k hk => hk.1.elim .inl (fun h => .inr ⟨h, hk.2⟩))⟩⟩
 case rest =>
  clear m0 zm0 h0 zh0 h1 zh1 h2 zh2 h3 zh3 h4 zh4 h5 zh5 h6 zh6 h7 zh7 h8 zh8 h9 zh9 h10 zh10 h11 zh11 h12 zh12 h13 zh13 r0 zr0
  clear HB X4 X7 X8
  obtain ⟨g9, c9, B1, N1, rfl, HG, HB, X4, X7, X8, HN9⟩ := hcut
  have m0 := (blk_cell X4.out 0).trans rfl
  have zm0 := blk_frozen X4.out 0
  obtain ⟨h0, h1, h2, h3, h4, h5, h6, h7, h8, h9, h10, h11, h12, h13⟩ := cl14 X7.out
  obtain ⟨zh0, zh1, zh2, zh3, zh4, zh5, zh6, zh7, zh8, zh9, zh10, zh11, zh12, zh13⟩ := fz14 X7.out
  have r0 := (blk_cell X8.out 0).trans rfl
  have zr0 := blk_frozen X8.out 0
  obtain ⟨cF, hcl, hFK, hcc, hfr⟩ := Kd.N_elem HN9.out z27 n HNN.out.1 HNN.out.2
  rw [HSM.out] at hFK
  obtain ⟨A2, c2, rfl, hl2, _⟩ := k27_open (Kd.FK_now hFK)
  have Y2 := Aside0.mk (show wc.cell? ⟨g9, n.toNat * 3 + 2, none⟩ = some (.slice A2 f.f2.length c2) from hcc 2 _ rfl)
  have y2 := Y2.out
  have HF2 := Aside0.mk (Kd.F_bound (F_of_FK hFK))
  clear hcl hFK hcc hfr hl2
  go_upto_region 2 with (fail)
  go_cut [10] (fun v10 wd => ∃ (g10 c10 B2 : Nat), v10 = .slice (some ⟨g10, 0, none⟩) f.f2.length c10 ∧ Aside0 (N1 ≤ B2 ∧ B2 ≤ g10) ∧ Aside0 (Below w.heap.size w wd) ∧ Aside0 (wd.heap[g4]? = some (.cells #[.slice A0 m.length c0] 24 (0, 0))) ∧ Aside0 (wd.heap[g7]? = some (.cells #[.bool b.f0, .int .i64 b.f1.f0, .slice A4 b.f1.f1.length c4, .bool b.f1.f2, .bool b.f1.f3, .slice A5 b.f2.length c5, .int .i64 b.f3.f0, .int .i64 b.f3.f1, .int .i64 b.f3.f2, .int .i64 b.f3.f3, .slice A6 b.f3.f4.length c6, .int .i64 b.f3.f5, .int .i64 b.f3.f6, .int .i64 b.f3.f7] 41 (0, 0))) ∧ Aside0 (wd.heap[g8]? = some (.cells #[.slice none 0 0] 24 (0, 0))) ∧ Aside0 (Kd.N k27 27 wd B1 (fun k => (ok k ∧ k < w.heap.size) ∨ (B1 ≤ k ∧ k < N1)) (.slice (some ⟨g9, 0, none⟩) m.length c9) m) ∧ Aside0 (Kd.N k41 41 wd B2 (fun k => (ok k ∧ k < w.heap.size) ∨ (B1 ≤ k ∧ k ≠ g9)) (.slice (some ⟨g10, 0, none⟩) f.f2.length c10) f.f2))
  case first =>
   go_wp2_with (first | ((with_reducible refine gate_dst (N := 15) rfl ?_); refine Kd.R_lit k41 _ 41 ?hg (N := 15) ?hd (xs := ([] : List S41)) (inner := []) (ok := fun k => wc.heap.size ≤ k) (okp := fun _ => False) ?hr ?hp (fun _ hk => hk.elim) (Nat.le_refl _) (Below.refl _ _) (Nat.le_refl _) (by simp) ?_; (case hd => rfl); (case hg => rfl); (case hr => first | (go_simp; done) | (go_simp; rfl)); (case hp => exact (Reps.none _ _)); intro v15 w15 ho5 hb5 hg_ hnew_; clear hg_ hnew_; have HO5 := Aside0.mk ho5; have HB5 := Aside0.mk hb5; clear m0 zm0 h0 zh0 h1 zh1 h2 zh2 h3 zh3 h4 zh4 h5 zh5 h6 zh6 h7 zh7 h8 zh8 h9 zh9 h10 zh10 h11 zh11 h12 zh12 h13 zh13 r0 zr0; have HBO := HB; have X4_ := X4; have X7_ := X7; have X8_ := X8; replace HB := Aside0.mk (below_step HB.out hb5); replace X4 := Aside0.mk (blk_below X4.out hb5); replace X7 := Aside0.mk (blk_below X7.out hb5); replace X8 := Aside0.mk (blk_below X8.out hb5); replace Y2 := Aside0.mk (pw_cell_below hb5 Y2.out); clear ho5 hb5; have m0 := (blk_cell X4.out 0).trans rfl; have zm0 := blk_frozen X4.out 0; obtain ⟨h0, h1, h2, h3, h4, h5, h6, h7, h8, h9, h10, h11, h12, h13⟩ := cl14 X7.out; obtain ⟨zh0, zh1, zh2, zh3, zh4, zh5, zh6, zh7, zh8, zh9, zh10, zh11, zh12, zh13⟩ := fz14 X7.out; have r0 := (blk_cell X8.out 0).trans rfl; have zr0 := blk_frozen X8.out 0; have y2 := Y2.out) | ((with_reducible refine gate_builtin (b := .append) (xs := #[.tmp 15, .tmp 20]) rfl ?_); at_builtin; refine Kd.N_append_rows k41 (w0 := wc) wc.heap.size rfl (.tmp 15) (.tmp 20) 25 41 _ _ rfl Try.underlying25 infoB rfl (Nat.succ_pos _) (by omega) v15 ([] : List S41) f.f2 _ _ _ (fun k => ((((ok k ∧ k < w.heap.size) ∨ (B1 ≤ k ∧ k < N1)) ∧ k ≠ g9) ∧ k < wc.heap.size) ∨ wc.heap.size ≤ k) (fun k => (((ok k ∧ k < w.heap.size) ∨ (B1 ≤ k ∧ k < N1)) ∧ k ≠ g9) ∧ k < wc.heap.size) rfl rfl ?aO ?aR ?aP ?aF ?aB ?aS ?aL ?_; (case aR => exact (Kd.F_below HF2.out HB5.out)); (case aP => exact (fun k hk => ⟨.inl hk, fun e_ => by have h1_ := Kd.R_base HO5.out k e_.symm; have h2_ := hk.2; omega⟩)); (case aB => exact HB5.out); (case aF => exact (fun k hk => .inr (Nat.le_trans (below_size HB5.out) hk))); (case aO => exact Kd.N_mono (Kd.R_N HO5.out) (fun k hk => .inr hk)); (case aS => exact (below_size HB5.out)); (case aL => have := HL0.out; simp; omega); intro v21 w21 ho hb hg hat; rw [List.nil_append] at ho; obtain ⟨g10, c21, rfl, hg0, hg1, _⟩ := Kd.N_form ho (by have := HKK.out; omega); have HB9 := Aside0.mk hb; have HP9 := Aside0.mk (Kd.N_bound ho); have HG9 := Aside0.mk (And.intro hg0 hg1); clear ho hb hg hat hg0 hg1))
   go_meet
   exact ⟨g10, c21, wc.heap.size, rfl, ⟨HG.out.2.2.2.1, HG9.out.1⟩, ⟨HBO.out.trans (HB9.out.mono HBO.out.size)⟩, ⟨blk_below X4_.out HB9.out⟩, ⟨blk_below X7_.out HB9.out⟩, ⟨blk_below X8_.out HB9.out⟩, ⟨Kd.N_below HN9.out HB9.out⟩, ⟨Kd.N_mono HP9.out (fun k hk => hk.1.elim (fun h => h.1.1.elim .inl (fun h2 => .inr ⟨h2.1, h.1.2⟩)) (fun h => .inr (by have := HG.out; omega)))⟩⟩
  case rest =>
   clear m0 zm0 h0 zh0 h1 zh1 h2 zh2 h3 zh3 h4 zh4 h5 zh5 h6 zh6 h7 zh7 h8 zh8 h9 zh9 h10 zh10 h11 zh11 h12 zh12 h13 zh13 r0 zr0
   clear y2 Y2 HB X4 X7 X8 HN9
   obtain ⟨g10, c10, B2, rfl, HG2, HB, X4, X7, X8, HN9, HN10⟩ := hcut
   have m0 := (blk_cell X4.out 0).trans rfl
   have zm0 := blk_frozen X4.out 0
   obtain ⟨h0, h1, h2, h3, h4, h5, h6, h7, h8, h9, h10, h11, h12, h13⟩ := cl14 X7.out
   obtain ⟨zh0, zh1, zh2, zh3, zh4, zh5, zh6, zh7, zh8, zh9, zh10, zh11, zh12, zh13⟩ := fz14 X7.out
   have r0 := (blk_cell X8.out 0).trans rfl
   have zr0 := blk_frozen X8.out 0
   obtain ⟨cB, hcl, _, hcc, hfr⟩ := Kd.N_elem HN10.out z41 k HKK.out.1 HKK.out.2
   have HTH := Aside0.mk (show wc.there g10 (k.toNat * 14) 14 from thr_cells (n := 14) hcc hfr 0 (by rw [hcl]; exact (by decide : 0 + 14 ≤ 14)))
   have hq := Kd.N_seg (d := k41) (okp := fun k => ok k ∧ k < w.heap.size) (x' := b) (j := 0) (seg := [.bool b.f0, .int .i64 b.f1.f0, .slice A4 b.f1.f1.length c4, .bool b.f1.f2, .bool b.f1.f3, .slice A5 b.f2.length c5, .int .i64 b.f3.f0, .int .i64 b.f3.f1, .int .i64 b.f3.f2, .int .i64 b.f3.f3, .slice A6 b.f3.f4.length c6, .int .i64 b.f3.f5, .int .i64 b.f3.f6, .int .i64 b.f3.f7]) HN10.out k HKK.out.1 HKK.out.2 hcl hcc (by show 0 + 14 ≤ 14; omega) (by rw [List.take_zero, List.nil_append, List.drop_of_length_le (by rw [hcl]; exact Nat.le_refl _), List.append_nil]; exact Kd.FK_below HKB.out HB.out) (fun k hk => ⟨.inl hk, by have := HG.out; have := HG2.out; have := hk.2; omega⟩)
   have HQ := Aside0.mk hq.1
   clear hcl hcc hfr hq
   go_upto_region 3 with (fail)
   go_cut [] (fun we => Aside0 (Below w.heap.size w we) ∧ Aside0 (we.heap[g4]? = some (.cells #[.slice A0 m.length c0] 24 (0, 0))) ∧ Aside0 (we.heap[g7]? = some (.cells #[.bool b.f0, .int .i64 b.f1.f0, .slice A4 b.f1.f1.length c4, .bool b.f1.f2, .bool b.f1.f3, .slice A5 b.f2.length c5, .int .i64 b.f3.f0, .int .i64 b.f3.f1, .int .i64 b.f3.f2, .int .i64 b.f3.f3, .slice A6 b.f3.f4.length c6, .int .i64 b.f3.f5, .int .i64 b.f3.f6, .int .i64 b.f3.f7] 41 (0, 0))) ∧ Aside0 (we.heap[g8]? = some (.cells #[.slice none 0 0] 24 (0, 0))) ∧ Aside0 (Kd.N k27 27 we B1 (fun k => (ok k ∧ k < w.heap.size) ∨ (B1 ≤ k ∧ k < N1)) (.slice (some ⟨g9, 0, none⟩) m.length c9) m) ∧ Aside0 (Kd.N k41 41 we B2 (fun k => (ok k ∧ k < w.heap.size) ∨ (B1 ≤ k ∧ k ≠ g9)) (.slice (some ⟨g10, 0, none⟩) f.f2.length c10) (f.f2.set k.toNat b)))
   case first =>
    go_wp2_with ((with_reducible refine gate_store (t := 41) (p := 25) rfl ?_); refine wpList_store_mid rfl _ (.tmp 25) (.tmp 24) rfl g10 (k.toNat * 14) #[.bool b.f0, .int .i64 b.f1.f0, .slice A4 b.f1.f1.length c4, .bool b.f1.f2, .bool b.f1.f3, .slice A5 b.f2.length c5, .int .i64 b.f3.f0, .int .i64 b.f3.f1, .int .i64 b.f3.f2, .int .i64 b.f3.f3, .slice A6 b.f3.f4.length c6, .int .i64 b.f3.f5, .int .i64 b.f3.f6, .int .i64 b.f3.f7] ?hx ?hy ?th (by kernel_rfl) (by kernel_rfl) ?_; (case th => exact HTH.out); (case hx => first | rfl | (go_simp; done)); (case hy => first | rfl | (go_simp; done)))
    go_meet
    exact ⟨⟨setL_below HB.out (by have := HG.out; have := HG2.out; omega) _ _⟩, ⟨setL_far X4.out (by have := HG.out; have := HG2.out; omega) _ _⟩, ⟨setL_far X7.out (by have := HG.out; have := HG2.out; omega) _ _⟩, ⟨setL_far X8.out (by have := HG.out; have := HG2.out; omega) _ _⟩, ⟨Kd.N_step HN9.out (fun k_ hk _ => setCells_far _ _ k_ (by have := HG.out; have := HG2.out; omega))⟩, HQ⟩
   case rest =>
    clear m0 zm0 h0 zh0 h1 zh1 h2 zh2 h3 zh3 h4 zh4 h5 zh5 h6 zh6 h7 zh7 h8 zh8 h9 zh9 h10 zh10 h11 zh11 h12 zh12 h13 zh13 r0 zr0
    clear HB X4 X7 X8 HN9 HN10 HTH HQ
    obtain ⟨HB, X4, X7, X8, HN9, HN10⟩ := hcut
    have m0 := (blk_cell X4.out 0).trans rfl
    have zm0 := blk_frozen X4.out 0
    obtain ⟨h0, h1, h2, h3, h4, h5, h6, h7, h8, h9, h10, h11, h12, h13⟩ := cl14 X7.out
    obtain ⟨zh0, zh1, zh2, zh3, zh4, zh5, zh6, zh7, zh8, zh9, zh10, zh11, zh12, zh13⟩ := fz14 X7.out
    have r0 := (blk_cell X8.out 0).trans rfl
    have zr0 := blk_frozen X8.out 0
    obtain ⟨cF, hcl, hFK, hcc, hfr⟩ := Kd.N_elem HN9.out z27 n HNN.out.1 HNN.out.2
    rw [HSM.out] at hFK
    obtain ⟨A3, c3, rfl, hl3, _⟩ := k27_open (Kd.FK_now hFK)
    have hc10 := (Kd.N_reads' HN10.out).2.1
    have hFB : Kd.FK k27 wc (fun k => (ok k ∧ k < w.heap.size) ∨ (B1 ≤ k ∧ k ≠ g9)) ⟨f.f0, f.f1, (f.f2.set k.toNat b)⟩ [.int .i64 f.f0, .int .i64 f.f1, .slice (some ⟨g10, 0, none⟩) f.f2.length c10] := by
     have h_ := FK_of_F (f := ⟨f.f0, f.f1, (f.f2.set k.toNat b)⟩) (A2 := some ⟨g10, 0, none⟩) (c2 := c10) (by rw [List.length_set]; exact hc10) (by rw [List.length_set]; exact Kd.N_F HN10.out)
     rw [List.length_set] at h_
     exact h_
    have hq := Kd.N_seg (d := k27) (okp := fun k => (ok k ∧ k < w.heap.size) ∨ (B1 ≤ k ∧ k ≠ g9)) (x' := ⟨f.f0, f.f1, (f.f2.set k.toNat b)⟩) (j := 2) (seg := [.slice (some ⟨g10, 0, none⟩) f.f2.length c10]) (Kd.N_mono (ok' := fun k => (ok k ∧ k < w.heap.size) ∨ B1 ≤ k) HN9.out (fun k hk => hk.elim .inl (fun h => .inr h.1))) n HNN.out.1 HNN.out.2 hcl hcc (by show 2 + 1 ≤ 3; omega) hFB (fun k hk => ⟨hk.elim .inl (fun h => .inr h.1), hk.elim (fun h => by have := HG.out; have := h.2; omega) (fun h => h.2)⟩)
    have HQ := Aside0.mk hq.1
    have hz2 : wc.frozen? ⟨g9, n.toNat * 3 + 2, none⟩ = false := hfr 2
    have hy2 : wc.cell? ⟨g9, n.toNat * 3 + 2, none⟩ = some (.slice A3 f.f2.length c3) := hcc 2 _ rfl
    clear hcl hFK hcc hfr hl3 hc10 hFB hq
    go_upto_region 4 with (fail)
    go_cut [9] (fun v9 wf => v9 = .slice (some ⟨g9, 0, none⟩) m.length c9 ∧ Aside0 (Below w.heap.size w wf) ∧ Aside0 (wf.heap[g4]? = some (.cells #[.slice A0 m.length c0] 24 (0, 0))) ∧ Aside0 (wf.heap[g7]? = some (.cells #[.bool b.f0, .int .i64 b.f1.f0, .slice A4 b.f1.f1.length c4, .bool b.f1.f2, .bool b.f1.f3, .slice A5 b.f2.length c5, .int .i64 b.f3.f0, .int .i64 b.f3.f1, .int .i64 b.f3.f2, .int .i64 b.f3.f3, .slice A6 b.f3.f4.length c6, .int .i64 b.f3.f5, .int .i64 b.f3.f6, .int .i64 b.f3.f7] 41 (0, 0))) ∧ Aside0 (wf.heap[g8]? = some (.cells #[.slice none 0 0] 24 (0, 0))) ∧ Aside0 (Kd.N k27 27 wf B1 (fun k => (ok k ∧ k < w.heap.size) ∨ B1 ≤ k) (.slice (some ⟨g9, 0, none⟩) m.length c9) (m.set n.toNat ⟨f.f0, f.f1, (f.f2.set k.toNat b)⟩)))
    case first =>
     go_wp2
     go_meet
     exact ⟨rfl, ⟨below_set HB.out (by have := HG.out; omega)⟩, ⟨blk_far X4.out (p := ⟨g9, _, none⟩) (by have := HG.out; show g4 ≠ g9; omega) _⟩, ⟨blk_far X7.out (p := ⟨g9, _, none⟩) (by have := HG.out; show g7 ≠ g9; omega) _⟩, ⟨blk_far X8.out (p := ⟨g9, _, none⟩) (by have := HG.out; show g8 ≠ g9; omega) _⟩, HQ⟩
    case rest =>
     clear m0 zm0 h0 zh0 h1 zh1 h2 zh2 h3 zh3 h4 zh4 h5 zh5 h6 zh6 h7 zh7 h8 zh8 h9 zh9 h10 zh10 h11 zh11 h12 zh12 h13 zh13 r0 zr0
     clear HB X4 X7 X8 HN9 HN10 hz2 hy2 HQ
     obtain ⟨rfl, HB, X4, X7, X8, HQ⟩ := hcut
     have m0 := (blk_cell X4.out 0).trans rfl
     have zm0 := blk_frozen X4.out 0
     obtain ⟨h0, h1, h2, h3, h4, h5, h6, h7, h8, h9, h10, h11, h12, h13⟩ := cl14 X7.out
     obtain ⟨zh0, zh1, zh2, zh3, zh4, zh5, zh6, zh7, zh8, zh9, zh10, zh11, zh12, zh13⟩ := fz14 X7.out
     have r0 := (blk_cell X8.out 0).trans rfl
     have zr0 := blk_frozen X8.out 0
     skip
     go_upto_region 5 with (fail)
     go_cut [] (fun wg => Aside0 (Below w.heap.size w wg) ∧ Aside0 (wg.heap[g4]? = some (.cells #[.slice (some ⟨g9, 0, none⟩) m.length c9] 24 (0, 0))) ∧ Aside0 (wg.heap[g7]? = some (.cells #[.bool b.f0, .int .i64 b.f1.f0, .slice A4 b.f1.f1.length c4, .bool b.f1.f2, .bool b.f1.f3, .slice A5 b.f2.length c5, .int .i64 b.f3.f0, .int .i64 b.f3.f1, .int .i64 b.f3.f2, .int .i64 b.f3.f3, .slice A6 b.f3.f4.length c6, .int .i64 b.f3.f5, .int .i64 b.f3.f6, .int .i64 b.f3.f7] 41 (0, 0))) ∧ Aside0 (wg.heap[g8]? = some (.cells #[.slice none 0 0] 24 (0, 0))) ∧ Aside0 (Kd.N k27 27 wg B1 (fun k => (ok k ∧ k < w.heap.size) ∨ B1 ≤ k) (.slice (some ⟨g9, 0, none⟩) m.length c9) (m.set n.toNat ⟨f.f0, f.f1, (f.f2.set k.toNat b)⟩)))
     case first =>
      go_wp2
      go_meet
      exact ⟨⟨below_set HB.out HLX4.out⟩, ⟨set_blk 0 _ X4.out rfl⟩, ⟨blk_far X7.out (p := ⟨g4, 0, none⟩) HN7.out _⟩, ⟨blk_far X8.out (p := ⟨g4, 0, none⟩) HNE.out _⟩, ⟨Kd.N_far (p := ⟨g4, 0, none⟩) HQ.out (fun k hk => show k ≠ g4 by have := HG.out; have := HLX4.out; omega) (.slice (some ⟨g9, 0, none⟩) m.length c9)⟩⟩
     case rest =>
      clear m0 zm0 h0 zh0 h1 zh1 h2 zh2 h3 zh3 h4 zh4 h5 zh5 h6 zh6 h7 zh7 h8 zh8 h9 zh9 h10 zh10 h11 zh11 h12 zh12 h13 zh13 r0 zr0
      clear HB X4 X7 X8 HQ
      obtain ⟨HB, X4, X7, X8, HQ⟩ := hcut
      have m0 := (blk_cell X4.out 0).trans rfl
      have zm0 := blk_frozen X4.out 0
      obtain ⟨h0, h1, h2, h3, h4, h5, h6, h7, h8, h9, h10, h11, h12, h13⟩ := cl14 X7.out
      obtain ⟨zh0, zh1, zh2, zh3, zh4, zh5, zh6, zh7, zh8, zh9, zh10, zh11, zh12, zh13⟩ := fz14 X7.out
      have r0 := (blk_cell X8.out 0).trans rfl
      have zr0 := blk_frozen X8.out 0
      go_wp2
      refine bodyPost_ret (results_cell_row rfl _ _ g8 24 #[.slice (some ⟨g9, 0, none⟩) m.length c9] (0, 0) _ rfl (set_blk 0 _ X8.out rfl) Try.underlying24 rfl (by kernel_rfl)) rfl ?_
      have hN := Kd.N_far (p := ⟨g8, 0, none⟩) HQ.out (fun k hk => show k ≠ g8 by have := HG.out; have := HLX8.out; omega) (.slice (some ⟨g9, 0, none⟩) m.length c9)
      exact ⟨⟨some ⟨g9, 0, none⟩, c9, rfl, by have := (Kd.N_reads' hN).2.1; exact this, Kd.F_mono (Kd.N_F hN) (fun k hk => hk.elim (fun h => .inl h.1) (fun h => .inr (by have := HG.out; omega)))⟩, below_set HB.out HLX8.out⟩
set_option maxHeartbeats 16000000 in
set_option maxRecDepth 100000 in
theorem wth_c (m : List S27) (A0 : Option Addr) (c0 : Nat) (n k : Int) (f : S27) (b : S41) (A4 : Option Addr) (c4 : Nat) (A5 : Option Addr) (c5 : Nat) (A6 : Option Addr) (c6 : Nat) (ok : Nat → Prop) (w : World) (hm : Kd.F k27 w ok A0 m.length m) (hc0 : m.length ≤ c0) (hl : m.length ≤ 999999) (hf : rd_T27 m n = f) (hn : 0 ≤ n ∧ n < (m.length : Int)) (hk : 0 ≤ k ∧ k < (f.f2.length : Int)) (hfl : f.f2.length ≤ 999999) (hb : Kd.FK k41 w ok b [.bool b.f0, .int .i64 b.f1.f0, .slice A4 b.f1.f1.length c4, .bool b.f1.f2, .bool b.f1.f3, .slice A5 b.f2.length c5, .int .i64 b.f3.f0, .int .i64 b.f3.f1, .int .i64 b.f3.f2, .int .i64 b.f3.f3, .slice A6 b.f3.f4.length c6, .int .i64 b.f3.f5, .int .i64 b.f3.f6, .int .i64 b.f3.f7]) :
  Calls Try.prog 78 #[.agg #[.slice A0 m.length c0], .int .i64 n, .int .i64 k, .agg #[.bool b.f0, .int .i64 b.f1.f0, .slice A4 b.f1.f1.length c4, .bool b.f1.f2, .bool b.f1.f3, .slice A5 b.f2.length c5, .int .i64 b.f3.f0, .int .i64 b.f3.f1, .int .i64 b.f3.f2, .int .i64 b.f3.f3, .slice A6 b.f3.f4.length c6, .int .i64 b.f3.f5, .int .i64 b.f3.f6, .int .i64 b.f3.f7]] w fun e w' => (∃ A c, e = .returned (.agg #[.slice A m.length c]) ∧ m.length ≤ c ∧ Kd.F k27 w' (fun k => ok k ∨ w.heap.size ≤ k) A m.length (m.set n.toNat ⟨f.f0, f.f1, f.f2.set k.toNat b⟩)) ∧ Below w.heap.size w w' := by
 have HWC := Aside0.mk (fun (w1 : World) (hw : Below w.heap.size w w1) => w14_c m A0 c0 n k f b A4 c4 A5 c5 A6 c6 (fun k => ok k ∧ k < w.heap.size) w1 (Kd.F_below (Kd.F_bound hm) hw) hc0 hl hf hn hk hfl (Kd.FK_below (Kd.FK_bound hb) hw))
 clear hm hb hl hf hn hk hfl hc0
 have hu24 := Try.underlying24
 have hu27 := Try.underlying27
 have hu41 := Try.underlying41
 have hu49 := Try.underlying49
 have hu35 := Try.underlying35
 have hu39 := Try.underlying39
 go_enter Try.func78, Try.ntmps78
 go_upto_region 1 with (first | ((with_reducible refine gate_dst (N := 4) rfl ?_); refine box_event ?hg (N := 4) ?hd (cs := #[.slice A0 m.length c0]) (t := 24) ?hr ?_; (case hd => rfl); (case hg => rfl); (case hr => first | (go_simp; done) | (go_simp; rfl)); intro g4 hg w4 hbox hb; have HLX4 := Aside0.mk (show w.heap.size ≤ g4 by rw [hg]; exact Nat.le_refl _); have HB := Aside0.mk hb; have X4 := Aside0.mk hbox; clear hbox hb hg; have m0 := (blk_cell X4.out 0).trans rfl; have zm0 := blk_frozen X4.out 0) | ((with_reducible refine gate_dst (N := 7) rfl ?_); refine box_event ?hg (N := 7) ?hd (cs := #[.bool b.f0, .int .i64 b.f1.f0, .slice A4 b.f1.f1.length c4, .bool b.f1.f2, .bool b.f1.f3, .slice A5 b.f2.length c5, .int .i64 b.f3.f0, .int .i64 b.f3.f1, .int .i64 b.f3.f2, .int .i64 b.f3.f3, .slice A6 b.f3.f4.length c6, .int .i64 b.f3.f5, .int .i64 b.f3.f6, .int .i64 b.f3.f7]) (t := 41) ?hr ?_; (case hd => rfl); (case hg => rfl); (case hr => first | (go_simp; done) | (go_simp; rfl)); intro g7 hg w7 hbox hb; have HLX7 := Aside0.mk (show w.heap.size ≤ g7 by rw [hg]; exact HB.out.size); have HN7 := Aside0.mk (show g7 ≠ g4 by rw [hg]; exact Nat.ne_of_gt (blk_lt X4.out)); replace HB := Aside0.mk (below_step HB.out hb); replace X4 := Aside0.mk (blk_below X4.out hb); have X7 := Aside0.mk hbox; clear hbox hb hg; obtain ⟨h0, h1, h2, h3, h4, h5, h6, h7, h8, h9, h10, h11, h12, h13⟩ := cl14 X7.out; obtain ⟨zh0, zh1, zh2, zh3, zh4, zh5, zh6, zh7, zh8, zh9, zh10, zh11, zh12, zh13⟩ := fz14 X7.out) | ((with_reducible refine gate_dst (N := 8) rfl ?_); refine box_event ?hg (N := 8) ?hd (cs := #[.slice none 0 0]) (t := 24) ?hr ?_; (case hd => rfl); (case hg => rfl); (case hr => first | (go_simp; done) | (go_simp; rfl)); intro g8 hg w8 hbox hb; have HLX8 := Aside0.mk (show w.heap.size ≤ g8 by rw [hg]; exact HB.out.size); replace HB := Aside0.mk (below_step HB.out hb); replace X4 := Aside0.mk (blk_below X4.out hb); replace X7 := Aside0.mk (blk_below X7.out hb); have X8 := Aside0.mk hbox; clear hbox hb hg; have r0 := (blk_cell X8.out 0).trans rfl; have zr0 := blk_frozen X8.out 0))
 clear m0 zm0 h0 zh0 h1 zh1 h2 zh2 h3 zh3 h4 zh4 h5 zh5 h6 zh6 h7 zh7 h8 zh8 h9 zh9 h10 zh10 h11 zh11 h12 zh12 h13 zh13 r0 zr0
 have m0 := (blk_cell X4.out 0).trans rfl
 have zm0 := blk_frozen X4.out 0
 obtain ⟨h0, h1, h2, h3, h4, h5, h6, h7, h8, h9, h10, h11, h12, h13⟩ := cl14 X7.out
 obtain ⟨zh0, zh1, zh2, zh3, zh4, zh5, zh6, zh7, zh8, zh9, zh10, zh11, zh12, zh13⟩ := fz14 X7.out
 have r0 := (blk_cell X8.out 0).trans rfl
 have zr0 := blk_frozen X8.out 0
 go_wp2_with (first | (go_at_call 99; go_loud ((with_reducible refine (HWC.out _ HB.out).mono ?_); rintro e w6 ⟨⟨A, c, rfl, hlc, hC⟩, hb⟩; have HLC := Aside0.mk hlc; have HC := Aside0.mk hC; have HS8 := Aside0.mk (And.intro (blk_lt X8.out) HB.out.size); clear m0 zm0 h0 zh0 h1 zh1 h2 zh2 h3 zh3 h4 zh4 h5 zh5 h6 zh6 h7 zh7 h8 zh8 h9 zh9 h10 zh10 h11 zh11 h12 zh12 h13 zh13 r0 zr0; replace HB := Aside0.mk (below_step HB.out hb); replace X8 := Aside0.mk (blk_below X8.out hb); clear hb hlc hC; have r0 := (blk_cell X8.out 0).trans rfl; have zr0 := blk_frozen X8.out 0)))
 refine bodyPost_ret (results_cell_row rfl _ _ g8 24 #[.slice A m.length c] (0, 0) _ rfl (set_blk 0 _ X8.out rfl) Try.underlying24 rfl (by kernel_rfl)) rfl ?_
 exact ⟨⟨A, c, rfl, HLC.out, Kd.F_mono (Kd.F_far (p := ⟨g8, 0, none⟩) HC.out (fun k hk => show k ≠ g8 from hk.elim (fun h => by have := h.2; have := HLX8.out; omega) (fun h => by have := HS8.out; omega)) _) (fun k hk => hk.elim (fun h => .inl h.1) (fun h => .inr (by have := HS8.out; omega)))⟩, below_set HB.out HLX8.out⟩
end Go.Proofs.Ytbfialebaoeicaa.X
namespace Go.Proofs.Ytbfialebaoeicaa.X
open Go.RowKit Go.Proofs.YtbfialebaoeicaaW.PrintWords Go.Proofs.YtbfialebaoeicaaW.PrintLast Go.Proofs.YtbfialebaoeicaaW.PrintMore
attribute [local go_sem] max2_int min2_int max_two min_two max_three min_three max_four min_four
set_option linter.all false
noncomputable section
def davitref15_Nothing.f (a0_0 : Bool) (a0_1 : Int) (l0_2 : List Int) (a0_3 : Bool) (a0_4 : Bool) (l0_5 : List (S49)) (a0_6 : Int) (a0_7 : Int) (a0_8 : Int) (a0_9 : Int) (l0_10 : List Int) (a0_11 : Int) (a0_12 : Int) (a0_13 : Int) : Option (Bool) := if a0_0 = true then (if (l0_5.length : Int) = 0 then (if a0_6 = 6 then (if (l0_2.length : Int) = 0 then (some (!a0_3)) else (some false)) else (some false)) else (some false)) else (some false)
set_option maxHeartbeats 8000000 in
set_option maxRecDepth 100000 in
theorem davitref15_Nothing.calls (a0_0 : Bool) (a0_1 : Int) (A0_2 : Option Addr) (c0_2 : Nat) (l0_2 : List Int) (a0_3 : Bool) (a0_4 : Bool) (A0_5 : Option Addr) (c0_5 : Nat) (l0_5 : List (S49)) (a0_6 : Int) (a0_7 : Int) (a0_8 : Int) (a0_9 : Int) (A0_10 : Option Addr) (c0_10 : Nat) (l0_10 : List Int) (a0_11 : Int) (a0_12 : Int) (a0_13 : Int) (r : Bool) (w : World) (hr0_2 : Kd.C (Kd.int .u16) w A0_2 l0_2.length l0_2) (hc0_2 : l0_2.length ≤ c0_2) (hr0_5 : Kd.C k49 w A0_5 l0_5.length l0_5) (hc0_5 : l0_5.length ≤ c0_5) (hr0_10 : Kd.C (Kd.int .i64) w A0_10 l0_10.length l0_10) (hc0_10 : l0_10.length ≤ c0_10) (h : davitref15_Nothing.f a0_0 a0_1 l0_2 a0_3 a0_4 l0_5 a0_6 a0_7 a0_8 a0_9 l0_10 a0_11 a0_12 a0_13 = some r) :
  Calls Try.prog 43 #[.agg #[.bool a0_0, .int .i64 a0_1, .slice A0_2 l0_2.length c0_2, .bool a0_3, .bool a0_4, .slice A0_5 l0_5.length c0_5, .int .i64 a0_6, .int .i64 a0_7, .int .i64 a0_8, .int .i64 a0_9, .slice A0_10 l0_10.length c0_10, .int .i64 a0_11, .int .i64 a0_12, .int .i64 a0_13]] w fun e w' => e = .returned (.bool r) ∧ Below w.heap.size w w' := by
 have hu41 := Try.underlying41
 have HR0_2 := Aside0.mk hr0_2
 have HC0_2 := Aside0.mk hc0_2
 clear hr0_2 hc0_2
 have HR0_5 := Aside0.mk hr0_5
 have HC0_5 := Aside0.mk hc0_5
 clear hr0_5 hc0_5
 have HR0_10 := Aside0.mk hr0_10
 have HC0_10 := Aside0.mk hc0_10
 clear hr0_10 hc0_10
 have HB := Aside0.mk (Below.refl w.heap.size w)
 have H : (if a0_0 = true then (if (l0_5.length : Int) = 0 then (if a0_6 = 6 then (if (l0_2.length : Int) = 0 then (some (!a0_3)) else (some false)) else (some false)) else (some false)) else (some false)) = some r := h
 clear h
 by_cases c2 : a0_0 = true
 ·subst c2
  have H1 : (if (l0_5.length : Int) = 0 then (if a0_6 = 6 then (if (l0_2.length : Int) = 0 then (some (!a0_3)) else (some false)) else (some false)) else (some false)) = some r := by rw [if_pos rfl] at H; exact H
  clear H
  have H := H1
  clear H1
  by_cases c3 : (l0_5.length : Int) = 0
  ·rw [if_pos c3] at H
   have c3b0 : ((l0_5.length : Int) == 0) = true := beq_iff_eq.mpr c3
   have c3b1 : ((l0_5.length : Int) != 0) = false := bne_eq_false_iff_eq.mpr c3
   clear c3
   by_cases c4 : a0_6 = 6
   ·rw [if_pos c4] at H
    have c4b0 : (a0_6 == 6) = true := beq_iff_eq.mpr c4
    have c4b1 : (a0_6 != 6) = false := bne_eq_false_iff_eq.mpr c4
    clear c4
    by_cases c5 : (l0_2.length : Int) = 0
    ·rw [if_pos c5] at H
     have c5b0 : ((l0_2.length : Int) == 0) = true := beq_iff_eq.mpr c5
     have c5b1 : ((l0_2.length : Int) != 0) = false := bne_eq_false_iff_eq.mpr c5
     clear c5
     obtain rfl := Option.some.inj H
     go_enter Try.func43, Try.ntmps43
     go_wp2_with (first | ((with_reducible refine gate_dst (N := 1) rfl ?_); (try (refine gate_guard (by rfl) ?_; dsimp only)); refine box_event ?hg (N := 1) ?hd (cs := #[.bool true, .int .i64 a0_1, .slice A0_2 l0_2.length c0_2, .bool a0_3, .bool a0_4, .slice A0_5 l0_5.length c0_5, .int .i64 a0_6, .int .i64 a0_7, .int .i64 a0_8, .int .i64 a0_9, .slice A0_10 l0_10.length c0_10, .int .i64 a0_11, .int .i64 a0_12, .int .i64 a0_13]) (t := 41) ?hr ?_; (case hd => rfl); (case hg => rfl); (case hr => first | (go_simp; done) | (go_simp; rfl)); intro gb495 hg w6 hbox hb; have n0_ := Aside0.mk (below_step (by repeat (first | (with_reducible first | exact HB.out | apply below_alloc | apply pw_below_drewN | apply below_drew1) | exact HB.out)) hb); have n1_ := Aside0.mk (hbox); have n2_ := Aside0.mk ((by rw [hg]; exact (below_size (by repeat (first | (with_reducible first | exact HB.out | apply below_alloc | apply pw_below_drewN | apply below_drew1) | exact HB.out))) : w.heap.size ≤ gb495)); have n3_ := Aside0.mk ((by rw [hg]; exact (below_size (by repeat (first | (with_reducible first | exact HB.out | apply below_alloc | apply pw_below_drewN | apply below_drew1) | exact HB.out))) : w.heap.size ≤ gb495)); clear HB; have HB := n0_; have BK495 := n1_; have GW495 := n2_; have GE495 := n3_; clear n0_ n1_ n2_ n3_; clear hb hbox hg; have hcz7_0 : w6.cell? ⟨gb495, 0, none⟩ = some (.bool true) := (blk_cell BK495.out 0).trans rfl; have hcz7_1 : w6.cell? ⟨gb495, 1, none⟩ = some (.int .i64 a0_1) := (blk_cell BK495.out 1).trans rfl; have hcz7_2 : w6.cell? ⟨gb495, 2, none⟩ = some (.slice A0_2 l0_2.length c0_2) := (blk_cell BK495.out 2).trans rfl; have hcz7_3 : w6.cell? ⟨gb495, 3, none⟩ = some (.bool a0_3) := (blk_cell BK495.out 3).trans rfl; have hcz7_4 : w6.cell? ⟨gb495, 4, none⟩ = some (.bool a0_4) := (blk_cell BK495.out 4).trans rfl; have hcz7_5 : w6.cell? ⟨gb495, 5, none⟩ = some (.slice A0_5 l0_5.length c0_5) := (blk_cell BK495.out 5).trans rfl; have hcz7_6 : w6.cell? ⟨gb495, 6, none⟩ = some (.int .i64 a0_6) := (blk_cell BK495.out 6).trans rfl; have hcz7_7 : w6.cell? ⟨gb495, 7, none⟩ = some (.int .i64 a0_7) := (blk_cell BK495.out 7).trans rfl; have hcz7_8 : w6.cell? ⟨gb495, 8, none⟩ = some (.int .i64 a0_8) := (blk_cell BK495.out 8).trans rfl; have hcz7_9 : w6.cell? ⟨gb495, 9, none⟩ = some (.int .i64 a0_9) := (blk_cell BK495.out 9).trans rfl; have hcz7_10 : w6.cell? ⟨gb495, 10, none⟩ = some (.slice A0_10 l0_10.length c0_10) := (blk_cell BK495.out 10).trans rfl; have hcz7_11 : w6.cell? ⟨gb495, 11, none⟩ = some (.int .i64 a0_11) := (blk_cell BK495.out 11).trans rfl; have hcz7_12 : w6.cell? ⟨gb495, 12, none⟩ = some (.int .i64 a0_12) := (blk_cell BK495.out 12).trans rfl; have hcz7_13 : w6.cell? ⟨gb495, 13, none⟩ = some (.int .i64 a0_13) := (blk_cell BK495.out 13).trans rfl; obtain ⟨hfz7_0, hfz7_1, hfz7_2, hfz7_3, hfz7_4, hfz7_5, hfz7_6, hfz7_7, hfz7_8, hfz7_9, hfz7_10, hfz7_11, hfz7_12, hfz7_13⟩ := fz14 BK495.out))
     go_ret
     exact ⟨by first | rfl | (simp [errW_none, errW_some] <;> rfl) | (simp [*, errW_none, errW_some] <;> rfl), by repeat (first | (with_reducible first | exact HB.out | apply below_alloc | apply pw_below_drewN | apply below_drew1 | refine below_set ?_ GE495.out) | exact HB.out)⟩
    ·rw [if_neg c5] at H
     have c5b0 : ((l0_2.length : Int) == 0) = false := beq_eq_false_iff_ne.mpr c5
     have c5b1 : ((l0_2.length : Int) != 0) = true := bne_iff_ne.mpr c5
     have c5b2 : ¬ (l0_2 = []) := fun h_ => c5 (by rw [h_]; rfl)
     obtain rfl := Option.some.inj H
     go_enter Try.func43, Try.ntmps43
     go_wp2_with (first | ((with_reducible refine gate_dst (N := 1) rfl ?_); (try (refine gate_guard (by rfl) ?_; dsimp only)); refine box_event ?hg (N := 1) ?hd (cs := #[.bool true, .int .i64 a0_1, .slice A0_2 l0_2.length c0_2, .bool a0_3, .bool a0_4, .slice A0_5 l0_5.length c0_5, .int .i64 a0_6, .int .i64 a0_7, .int .i64 a0_8, .int .i64 a0_9, .slice A0_10 l0_10.length c0_10, .int .i64 a0_11, .int .i64 a0_12, .int .i64 a0_13]) (t := 41) ?hr ?_; (case hd => rfl); (case hg => rfl); (case hr => first | (go_simp; done) | (go_simp; rfl)); intro gb495 hg w8 hbox hb; have n0_ := Aside0.mk (below_step (by repeat (first | (with_reducible first | exact HB.out | apply below_alloc | apply pw_below_drewN | apply below_drew1) | exact HB.out)) hb); have n1_ := Aside0.mk (hbox); have n2_ := Aside0.mk ((by rw [hg]; exact (below_size (by repeat (first | (with_reducible first | exact HB.out | apply below_alloc | apply pw_below_drewN | apply below_drew1) | exact HB.out))) : w.heap.size ≤ gb495)); have n3_ := Aside0.mk ((by rw [hg]; exact (below_size (by repeat (first | (with_reducible first | exact HB.out | apply below_alloc | apply pw_below_drewN | apply below_drew1) | exact HB.out))) : w.heap.size ≤ gb495)); clear HB; have HB := n0_; have BK495 := n1_; have GW495 := n2_; have GE495 := n3_; clear n0_ n1_ n2_ n3_; clear hb hbox hg; have hcz9_0 : w8.cell? ⟨gb495, 0, none⟩ = some (.bool true) := (blk_cell BK495.out 0).trans rfl; have hcz9_1 : w8.cell? ⟨gb495, 1, none⟩ = some (.int .i64 a0_1) := (blk_cell BK495.out 1).trans rfl; have hcz9_2 : w8.cell? ⟨gb495, 2, none⟩ = some (.slice A0_2 l0_2.length c0_2) := (blk_cell BK495.out 2).trans rfl; have hcz9_3 : w8.cell? ⟨gb495, 3, none⟩ = some (.bool a0_3) := (blk_cell BK495.out 3).trans rfl; have hcz9_4 : w8.cell? ⟨gb495, 4, none⟩ = some (.bool a0_4) := (blk_cell BK495.out 4).trans rfl; have hcz9_5 : w8.cell? ⟨gb495, 5, none⟩ = some (.slice A0_5 l0_5.length c0_5) := (blk_cell BK495.out 5).trans rfl; have hcz9_6 : w8.cell? ⟨gb495, 6, none⟩ = some (.int .i64 a0_6) := (blk_cell BK495.out 6).trans rfl; have hcz9_7 : w8.cell? ⟨gb495, 7, none⟩ = some (.int .i64 a0_7) := (blk_cell BK495.out 7).trans rfl; have hcz9_8 : w8.cell? ⟨gb495, 8, none⟩ = some (.int .i64 a0_8) := (blk_cell BK495.out 8).trans rfl; have hcz9_9 : w8.cell? ⟨gb495, 9, none⟩ = some (.int .i64 a0_9) := (blk_cell BK495.out 9).trans rfl; have hcz9_10 : w8.cell? ⟨gb495, 10, none⟩ = some (.slice A0_10 l0_10.length c0_10) := (blk_cell BK495.out 10).trans rfl; have hcz9_11 : w8.cell? ⟨gb495, 11, none⟩ = some (.int .i64 a0_11) := (blk_cell BK495.out 11).trans rfl; have hcz9_12 : w8.cell? ⟨gb495, 12, none⟩ = some (.int .i64 a0_12) := (blk_cell BK495.out 12).trans rfl; have hcz9_13 : w8.cell? ⟨gb495, 13, none⟩ = some (.int .i64 a0_13) := (blk_cell BK495.out 13).trans rfl; obtain ⟨hfz9_0, hfz9_1, hfz9_2, hfz9_3, hfz9_4, hfz9_5, hfz9_6, hfz9_7, hfz9_8, hfz9_9, hfz9_10, hfz9_11, hfz9_12, hfz9_13⟩ := fz14 BK495.out))
     go_ret
     exact ⟨by first | rfl | (simp [errW_none, errW_some] <;> rfl) | (simp [*, errW_none, errW_some] <;> rfl), by repeat (first | (with_reducible first | exact HB.out | apply below_alloc | apply pw_below_drewN | apply below_drew1 | refine below_set ?_ GE495.out) | exact HB.out)⟩
   ·rw [if_neg c4] at H
    have c4b0 : (a0_6 == 6) = false := beq_eq_false_iff_ne.mpr c4
    have c4b1 : (a0_6 != 6) = true := bne_iff_ne.mpr c4
    obtain rfl := Option.some.inj H
    go_enter Try.func43, Try.ntmps43
    go_wp2_with (first | ((with_reducible refine gate_dst (N := 1) rfl ?_); (try (refine gate_guard (by rfl) ?_; dsimp only)); refine box_event ?hg (N := 1) ?hd (cs := #[.bool true, .int .i64 a0_1, .slice A0_2 l0_2.length c0_2, .bool a0_3, .bool a0_4, .slice A0_5 l0_5.length c0_5, .int .i64 a0_6, .int .i64 a0_7, .int .i64 a0_8, .int .i64 a0_9, .slice A0_10 l0_10.length c0_10, .int .i64 a0_11, .int .i64 a0_12, .int .i64 a0_13]) (t := 41) ?hr ?_; (case hd => rfl); (case hg => rfl); (case hr => first | (go_simp; done) | (go_simp; rfl)); intro gb495 hg w10 hbox hb; have n0_ := Aside0.mk (below_step (by repeat (first | (with_reducible first | exact HB.out | apply below_alloc | apply pw_below_drewN | apply below_drew1) | exact HB.out)) hb); have n1_ := Aside0.mk (hbox); have n2_ := Aside0.mk ((by rw [hg]; exact (below_size (by repeat (first | (with_reducible first | exact HB.out | apply below_alloc | apply pw_below_drewN | apply below_drew1) | exact HB.out))) : w.heap.size ≤ gb495)); have n3_ := Aside0.mk ((by rw [hg]; exact (below_size (by repeat (first | (with_reducible first | exact HB.out | apply below_alloc | apply pw_below_drewN | apply below_drew1) | exact HB.out))) : w.heap.size ≤ gb495)); clear HB; have HB := n0_; have BK495 := n1_; have GW495 := n2_; have GE495 := n3_; clear n0_ n1_ n2_ n3_; clear hb hbox hg; have hcz11_0 : w10.cell? ⟨gb495, 0, none⟩ = some (.bool true) := (blk_cell BK495.out 0).trans rfl; have hcz11_1 : w10.cell? ⟨gb495, 1, none⟩ = some (.int .i64 a0_1) := (blk_cell BK495.out 1).trans rfl; have hcz11_2 : w10.cell? ⟨gb495, 2, none⟩ = some (.slice A0_2 l0_2.length c0_2) := (blk_cell BK495.out 2).trans rfl; have hcz11_3 : w10.cell? ⟨gb495, 3, none⟩ = some (.bool a0_3) := (blk_cell BK495.out 3).trans rfl; have hcz11_4 : w10.cell? ⟨gb495, 4, none⟩ = some (.bool a0_4) := (blk_cell BK495.out 4).trans rfl; have hcz11_5 : w10.cell? ⟨gb495, 5, none⟩ = some (.slice A0_5 l0_5.length c0_5) := (blk_cell BK495.out 5).trans rfl; have hcz11_6 : w10.cell? ⟨gb495, 6, none⟩ = some (.int .i64 a0_6) := (blk_cell BK495.out 6).trans rfl; have hcz11_7 : w10.cell? ⟨gb495, 7, none⟩ = some (.int .i64 a0_7) := (blk_cell BK495.out 7).trans rfl; have hcz11_8 : w10.cell? ⟨gb495, 8, none⟩ = some (.int .i64 a0_8) := (blk_cell BK495.out 8).trans rfl; have hcz11_9 : w10.cell? ⟨gb495, 9, none⟩ = some (.int .i64 a0_9) := (blk_cell BK495.out 9).trans rfl; have hcz11_10 : w10.cell? ⟨gb495, 10, none⟩ = some (.slice A0_10 l0_10.length c0_10) := (blk_cell BK495.out 10).trans rfl; have hcz11_11 : w10.cell? ⟨gb495, 11, none⟩ = some (.int .i64 a0_11) := (blk_cell BK495.out 11).trans rfl; have hcz11_12 : w10.cell? ⟨gb495, 12, none⟩ = some (.int .i64 a0_12) := (blk_cell BK495.out 12).trans rfl; have hcz11_13 : w10.cell? ⟨gb495, 13, none⟩ = some (.int .i64 a0_13) := (blk_cell BK495.out 13).trans rfl; obtain ⟨hfz11_0, hfz11_1, hfz11_2, hfz11_3, hfz11_4, hfz11_5, hfz11_6, hfz11_7, hfz11_8, hfz11_9, hfz11_10, hfz11_11, hfz11_12, hfz11_13⟩ := fz14 BK495.out))
    go_ret
    exact ⟨by first | rfl | (simp [errW_none, errW_some] <;> rfl) | (simp [*, errW_none, errW_some] <;> rfl), by repeat (first | (with_reducible first | exact HB.out | apply below_alloc | apply pw_below_drewN | apply below_drew1 | refine below_set ?_ GE495.out) | exact HB.out)⟩
  ·rw [if_neg c3] at H
   have c3b0 : ((l0_5.length : Int) == 0) = false := beq_eq_false_iff_ne.mpr c3
   have c3b1 : ((l0_5.length : Int) != 0) = true := bne_iff_ne.mpr c3
   have c3b2 : ¬ (l0_5 = []) := fun h_ => c3 (by rw [h_]; rfl)
   obtain rfl := Option.some.inj H
   go_enter Try.func43, Try.ntmps43
   go_wp2_with (first | ((with_reducible refine gate_dst (N := 1) rfl ?_); (try (refine gate_guard (by rfl) ?_; dsimp only)); refine box_event ?hg (N := 1) ?hd (cs := #[.bool true, .int .i64 a0_1, .slice A0_2 l0_2.length c0_2, .bool a0_3, .bool a0_4, .slice A0_5 l0_5.length c0_5, .int .i64 a0_6, .int .i64 a0_7, .int .i64 a0_8, .int .i64 a0_9, .slice A0_10 l0_10.length c0_10, .int .i64 a0_11, .int .i64 a0_12, .int .i64 a0_13]) (t := 41) ?hr ?_; (case hd => rfl); (case hg => rfl); (case hr => first | (go_simp; done) | (go_simp; rfl)); intro gb495 hg w12 hbox hb; have n0_ := Aside0.mk (below_step (by repeat (first | (with_reducible first | exact HB.out | apply below_alloc | apply pw_below_drewN | apply below_drew1) | exact HB.out)) hb); have n1_ := Aside0.mk (hbox); have n2_ := Aside0.mk ((by rw [hg]; exact (below_size (by repeat (first | (with_reducible first | exact HB.out | apply below_alloc | apply pw_below_drewN | apply below_drew1) | exact HB.out))) : w.heap.size ≤ gb495)); have n3_ := Aside0.mk ((by rw [hg]; exact (below_size (by repeat (first | (with_reducible first | exact HB.out | apply below_alloc | apply pw_below_drewN | apply below_drew1) | exact HB.out))) : w.heap.size ≤ gb495)); clear HB; have HB := n0_; have BK495 := n1_; have GW495 := n2_; have GE495 := n3_; clear n0_ n1_ n2_ n3_; clear hb hbox hg; have hcz13_0 : w12.cell? ⟨gb495, 0, none⟩ = some (.bool true) := (blk_cell BK495.out 0).trans rfl; have hcz13_1 : w12.cell? ⟨gb495, 1, none⟩ = some (.int .i64 a0_1) := (blk_cell BK495.out 1).trans rfl; have hcz13_2 : w12.cell? ⟨gb495, 2, none⟩ = some (.slice A0_2 l0_2.length c0_2) := (blk_cell BK495.out 2).trans rfl; have hcz13_3 : w12.cell? ⟨gb495, 3, none⟩ = some (.bool a0_3) := (blk_cell BK495.out 3).trans rfl; have hcz13_4 : w12.cell? ⟨gb495, 4, none⟩ = some (.bool a0_4) := (blk_cell BK495.out 4).trans rfl; have hcz13_5 : w12.cell? ⟨gb495, 5, none⟩ = some (.slice A0_5 l0_5.length c0_5) := (blk_cell BK495.out 5).trans rfl; have hcz13_6 : w12.cell? ⟨gb495, 6, none⟩ = some (.int .i64 a0_6) := (blk_cell BK495.out 6).trans rfl; have hcz13_7 : w12.cell? ⟨gb495, 7, none⟩ = some (.int .i64 a0_7) := (blk_cell BK495.out 7).trans rfl; have hcz13_8 : w12.cell? ⟨gb495, 8, none⟩ = some (.int .i64 a0_8) := (blk_cell BK495.out 8).trans rfl; have hcz13_9 : w12.cell? ⟨gb495, 9, none⟩ = some (.int .i64 a0_9) := (blk_cell BK495.out 9).trans rfl; have hcz13_10 : w12.cell? ⟨gb495, 10, none⟩ = some (.slice A0_10 l0_10.length c0_10) := (blk_cell BK495.out 10).trans rfl; have hcz13_11 : w12.cell? ⟨gb495, 11, none⟩ = some (.int .i64 a0_11) := (blk_cell BK495.out 11).trans rfl; have hcz13_12 : w12.cell? ⟨gb495, 12, none⟩ = some (.int .i64 a0_12) := (blk_cell BK495.out 12).trans rfl; have hcz13_13 : w12.cell? ⟨gb495, 13, none⟩ = some (.int .i64 a0_13) := (blk_cell BK495.out 13).trans rfl; obtain ⟨hfz13_0, hfz13_1, hfz13_2, hfz13_3, hfz13_4, hfz13_5, hfz13_6, hfz13_7, hfz13_8, hfz13_9, hfz13_10, hfz13_11, hfz13_12, hfz13_13⟩ := fz14 BK495.out))
   go_ret
   exact ⟨by first | rfl | (simp [errW_none, errW_some] <;> rfl) | (simp [*, errW_none, errW_some] <;> rfl), by repeat (first | (with_reducible first | exact HB.out | apply below_alloc | apply pw_below_drewN | apply below_drew1 | refine below_set ?_ GE495.out) | exact HB.out)⟩
 ·replace c2 := Bool.eq_false_iff.mpr c2
  subst c2
  have H1 : (some false) = some r := by rw [if_neg (show ¬ (false = true) by decide)] at H; exact H
  clear H
  have H := H1
  clear H1
  obtain rfl := Option.some.inj H
  go_enter Try.func43, Try.ntmps43
  go_wp2_with (first | ((with_reducible refine gate_dst (N := 1) rfl ?_); (try (refine gate_guard (by rfl) ?_; dsimp only)); refine box_event ?hg (N := 1) ?hd (cs := #[.bool false, .int .i64 a0_1, .slice A0_2 l0_2.length c0_2, .bool a0_3, .bool a0_4, .slice A0_5 l0_5.length c0_5, .int .i64 a0_6, .int .i64 a0_7, .int .i64 a0_8, .int .i64 a0_9, .slice A0_10 l0_10.length c0_10, .int .i64 a0_11, .int .i64 a0_12, .int .i64 a0_13]) (t := 41) ?hr ?_; (case hd => rfl); (case hg => rfl); (case hr => first | (go_simp; done) | (go_simp; rfl)); intro gb495 hg w14 hbox hb; have n0_ := Aside0.mk (below_step (by repeat (first | (with_reducible first | exact HB.out | apply below_alloc | apply pw_below_drewN | apply below_drew1) | exact HB.out)) hb); have n1_ := Aside0.mk (hbox); have n2_ := Aside0.mk ((by rw [hg]; exact (below_size (by repeat (first | (with_reducible first | exact HB.out | apply below_alloc | apply pw_below_drewN | apply below_drew1) | exact HB.out))) : w.heap.size ≤ gb495)); have n3_ := Aside0.mk ((by rw [hg]; exact (below_size (by repeat (first | (with_reducible first | exact HB.out | apply below_alloc | apply pw_below_drewN | apply below_drew1) | exact HB.out))) : w.heap.size ≤ gb495)); clear HB; have HB := n0_; have BK495 := n1_; have GW495 := n2_; have GE495 := n3_; clear n0_ n1_ n2_ n3_; clear hb hbox hg; have hcz15_0 : w14.cell? ⟨gb495, 0, none⟩ = some (.bool false) := (blk_cell BK495.out 0).trans rfl; have hcz15_1 : w14.cell? ⟨gb495, 1, none⟩ = some (.int .i64 a0_1) := (blk_cell BK495.out 1).trans rfl; have hcz15_2 : w14.cell? ⟨gb495, 2, none⟩ = some (.slice A0_2 l0_2.length c0_2) := (blk_cell BK495.out 2).trans rfl; have hcz15_3 : w14.cell? ⟨gb495, 3, none⟩ = some (.bool a0_3) := (blk_cell BK495.out 3).trans rfl; have hcz15_4 : w14.cell? ⟨gb495, 4, none⟩ = some (.bool a0_4) := (blk_cell BK495.out 4).trans rfl; have hcz15_5 : w14.cell? ⟨gb495, 5, none⟩ = some (.slice A0_5 l0_5.length c0_5) := (blk_cell BK495.out 5).trans rfl; have hcz15_6 : w14.cell? ⟨gb495, 6, none⟩ = some (.int .i64 a0_6) := (blk_cell BK495.out 6).trans rfl; have hcz15_7 : w14.cell? ⟨gb495, 7, none⟩ = some (.int .i64 a0_7) := (blk_cell BK495.out 7).trans rfl; have hcz15_8 : w14.cell? ⟨gb495, 8, none⟩ = some (.int .i64 a0_8) := (blk_cell BK495.out 8).trans rfl; have hcz15_9 : w14.cell? ⟨gb495, 9, none⟩ = some (.int .i64 a0_9) := (blk_cell BK495.out 9).trans rfl; have hcz15_10 : w14.cell? ⟨gb495, 10, none⟩ = some (.slice A0_10 l0_10.length c0_10) := (blk_cell BK495.out 10).trans rfl; have hcz15_11 : w14.cell? ⟨gb495, 11, none⟩ = some (.int .i64 a0_11) := (blk_cell BK495.out 11).trans rfl; have hcz15_12 : w14.cell? ⟨gb495, 12, none⟩ = some (.int .i64 a0_12) := (blk_cell BK495.out 12).trans rfl; have hcz15_13 : w14.cell? ⟨gb495, 13, none⟩ = some (.int .i64 a0_13) := (blk_cell BK495.out 13).trans rfl; obtain ⟨hfz15_0, hfz15_1, hfz15_2, hfz15_3, hfz15_4, hfz15_5, hfz15_6, hfz15_7, hfz15_8, hfz15_9, hfz15_10, hfz15_11, hfz15_12, hfz15_13⟩ := fz14 BK495.out))
  go_ret
  exact ⟨by first | rfl | (simp [errW_none, errW_some] <;> rfl) | (simp [*, errW_none, errW_some] <;> rfl), by repeat (first | (with_reducible first | exact HB.out | apply below_alloc | apply pw_below_drewN | apply below_drew1 | refine below_set ?_ GE495.out) | exact HB.out)⟩
end
end Go.Proofs.Ytbfialebaoeicaa.X
namespace Go.Proofs.Ytbfialebaoeicaa.X
open Go.RowKit Go.Proofs.YtbfialebaoeicaaW.PrintWords Go.Proofs.YtbfialebaoeicaaW.PrintLast Go.Proofs.YtbfialebaoeicaaW.PrintMore
set_option linter.all false
theorem hpI : Kd.Heap k49 := Kd.heap_iso _ (Kd.heap_pair (Kd.heap_int _) (Kd.heap_pair (Kd.heap_int _) (Kd.heap_pair (Kd.heap_int _) (Kd.heap_pair (Kd.heap_int _) (Kd.heap_pair (Kd.heap_int _) (Kd.heap_pair (Kd.heap_int _) (Kd.heap_slice _ (Kd.heap_int _))))))))
theorem hpP : Kd.Heap k35 := Kd.heap_iso _ (Kd.heap_pair (Kd.heap_int _) (Kd.heap_pair (Kd.heap_slice _ (Kd.heap_int _)) (Kd.heap_pair Kd.heap_bool Kd.heap_bool)))
theorem hpE : Kd.Heap k39 := Kd.heap_iso _ (Kd.heap_pair (Kd.heap_int _) (Kd.heap_pair (Kd.heap_int _) (Kd.heap_pair (Kd.heap_int _) (Kd.heap_pair (Kd.heap_int _) (Kd.heap_pair (Kd.heap_slice _ (Kd.heap_int _)) (Kd.heap_pair (Kd.heap_int _) (Kd.heap_pair (Kd.heap_int _) (Kd.heap_int _))))))))
theorem hpB : Kd.Heap k41 := Kd.heap_iso _ (Kd.heap_pair Kd.heap_bool (Kd.heap_pair hpP (Kd.heap_pair (Kd.heap_slice _ hpI) hpE)))
theorem hpF : Kd.Heap k27 := Kd.heap_iso _ (Kd.heap_pair (Kd.heap_int _) (Kd.heap_pair (Kd.heap_int _) (Kd.heap_slice _ hpB)))
theorem FF_at {W : World} {ok : Nat → Prop} {A : Option Addr} {n : Nat} {l : List S27} (h : Kd.F k27 W ok A n l) (i : Int) (h0 : 0 ≤ i) (h1 : i < n) {f : S27} (hf : rd_T27 l i = f) :
  ∃ ad A2 c2, A = some ad ∧ W.cell? (ad.add (i.toNat * 3)) = some (.int .i64 f.f0) ∧ W.cell? ⟨(ad.add (i.toNat * 3)).block, (ad.add (i.toNat * 3)).off + 1, none⟩ = some (.int .i64 f.f1) ∧ W.cell? ⟨(ad.add (i.toNat * 3)).block, (ad.add (i.toNat * 3)).off + 2, none⟩ = some (.slice A2 f.f2.length c2) ∧ f.f2.length ≤ c2 ∧ Kd.F k41 W ok A2 f.f2.length f.f2 := by
 obtain ⟨ad, c, e, _, hK, hc0, _⟩ := Kd.F_get h z27 i h0 h1
 rw [show l.getD i.toNat z27 = f from hf] at hK
 have hc : ∀ j u, c[j]? = some u → W.cell? (ad.add (i.toNat * 3 + j)) = some u := hc0
 obtain ⟨A2, c2, rfl, l2, _⟩ := k27_open (Kd.FK_now hK)
 exact ⟨ad, A2, c2, e, hc 0 _ rfl, by rw [← add_field _ _ 1 (by omega)]; exact hc 1 _ rfl, by rw [← add_field _ _ 2 (by omega)]; exact hc 2 _ rfl, l2, F_of_FK hK⟩
theorem FB_at {W : World} {ok : Nat → Prop} {A : Option Addr} {n : Nat} {l : List S41} (h : Kd.F k41 W ok A n l) (i : Int) (h0 : 0 ≤ i) (h1 : i < n) {b : S41} (hf : rd_T41 l i = b) :
  ∃ ad A4 c4 A5 c5 A6 c6, A = some ad ∧ W.cell? (ad.add (i.toNat * 14)) = some (.bool b.f0) ∧ W.cell? ⟨(ad.add (i.toNat * 14)).block, (ad.add (i.toNat * 14)).off + 1, none⟩ = some (.int .i64 b.f1.f0) ∧ W.cell? ⟨(ad.add (i.toNat * 14)).block, (ad.add (i.toNat * 14)).off + 2, none⟩ = some (.slice A4 b.f1.f1.length c4) ∧ W.cell? ⟨(ad.add (i.toNat * 14)).block, (ad.add (i.toNat * 14)).off + 3, none⟩ = some (.bool b.f1.f2) ∧ W.cell? ⟨(ad.add (i.toNat * 14)).block, (ad.add (i.toNat * 14)).off + 4, none⟩ = some (.bool b.f1.f3) ∧ W.cell? ⟨(ad.add (i.toNat * 14)).block, (ad.add (i.toNat * 14)).off + 5, none⟩ = some (.slice A5 b.f2.length c5) ∧ W.cell? ⟨(ad.add (i.toNat * 14)).block, (ad.add (i.toNat * 14)).off + 6, none⟩ = some (.int .i64 b.f3.f0) ∧ W.cell? ⟨(ad.add (i.toNat * 14)).block, (ad.add (i.toNat * 14)).off + 7, none⟩ = some (.int .i64 b.f3.f1) ∧ W.cell? ⟨(ad.add (i.toNat * 14)).block, (ad.add (i.toNat * 14)).off + 8, none⟩ = some (.int .i64 b.f3.f2) ∧ W.cell? ⟨(ad.add (i.toNat * 14)).block, (ad.add (i.toNat * 14)).off + 9, none⟩ = some (.int .i64 b.f3.f3) ∧ W.cell? ⟨(ad.add (i.toNat * 14)).block, (ad.add (i.toNat * 14)).off + 10, none⟩ = some (.slice A6 b.f3.f4.length c6) ∧ W.cell? ⟨(ad.add (i.toNat * 14)).block, (ad.add (i.toNat * 14)).off + 11, none⟩ = some (.int .i64 b.f3.f5) ∧ W.cell? ⟨(ad.add (i.toNat * 14)).block, (ad.add (i.toNat * 14)).off + 12, none⟩ = some (.int .i64 b.f3.f6) ∧ W.cell? ⟨(ad.add (i.toNat * 14)).block, (ad.add (i.toNat * 14)).off + 13, none⟩ = some (.int .i64 b.f3.f7) ∧ Kd.FK k41 W ok b [.bool b.f0, .int .i64 b.f1.f0, .slice A4 b.f1.f1.length c4, .bool b.f1.f2, .bool b.f1.f3, .slice A5 b.f2.length c5, .int .i64 b.f3.f0, .int .i64 b.f3.f1, .int .i64 b.f3.f2, .int .i64 b.f3.f3, .slice A6 b.f3.f4.length c6, .int .i64 b.f3.f5, .int .i64 b.f3.f6, .int .i64 b.f3.f7] := by
 obtain ⟨ad, c, e, _, hK, hc0, _⟩ := Kd.F_get h z41 i h0 h1
 rw [show l.getD i.toNat z41 = b from hf] at hK
 have hc : ∀ j u, c[j]? = some u → W.cell? (ad.add (i.toNat * 14 + j)) = some u := hc0
 obtain ⟨A4, c4, A5, c5, A6, c6, rfl, _⟩ := k41_open (Kd.FK_now hK)
 exact ⟨ad, A4, c4, A5, c5, A6, c6, e, hc 0 _ rfl, by rw [← add_field _ _ 1 (by omega)]; exact hc 1 _ rfl, by rw [← add_field _ _ 2 (by omega)]; exact hc 2 _ rfl, by rw [← add_field _ _ 3 (by omega)]; exact hc 3 _ rfl, by rw [← add_field _ _ 4 (by omega)]; exact hc 4 _ rfl, by rw [← add_field _ _ 5 (by omega)]; exact hc 5 _ rfl, by rw [← add_field _ _ 6 (by omega)]; exact hc 6 _ rfl, by rw [← add_field _ _ 7 (by omega)]; exact hc 7 _ rfl, by rw [← add_field _ _ 8 (by omega)]; exact hc 8 _ rfl, by rw [← add_field _ _ 9 (by omega)]; exact hc 9 _ rfl, by rw [← add_field _ _ 10 (by omega)]; exact hc 10 _ rfl, by rw [← add_field _ _ 11 (by omega)]; exact hc 11 _ rfl, by rw [← add_field _ _ 12 (by omega)]; exact hc 12 _ rfl, by rw [← add_field _ _ 13 (by omega)]; exact hc 13 _ rfl, hK⟩
theorem FK_parts {W : World} {ok : Nat → Prop} {b : S41} {A4 : Option Addr} {c4 : Nat} {A5 : Option Addr} {c5 : Nat} {A6 : Option Addr} {c6 : Nat} (h : Kd.FK k41 W ok b [.bool b.f0, .int .i64 b.f1.f0, .slice A4 b.f1.f1.length c4, .bool b.f1.f2, .bool b.f1.f3, .slice A5 b.f2.length c5, .int .i64 b.f3.f0, .int .i64 b.f3.f1, .int .i64 b.f3.f2, .int .i64 b.f3.f3, .slice A6 b.f3.f4.length c6, .int .i64 b.f3.f5, .int .i64 b.f3.f6, .int .i64 b.f3.f7]) :
  (b.f1.f1.length ≤ c4 ∧ b.f2.length ≤ c5 ∧ b.f3.f4.length ≤ c6) ∧ Kd.F (Kd.int .u16) W ok A4 b.f1.f1.length b.f1.f1 ∧ Kd.F k49 W ok A5 b.f2.length b.f2 ∧ Kd.F (Kd.int .i64) W ok A6 b.f3.f4.length b.f3.f4 := by
 have hx : ∀ W' : World, k41.K W' b [.bool b.f0, .int .i64 b.f1.f0, .slice A4 b.f1.f1.length c4, .bool b.f1.f2, .bool b.f1.f3, .slice A5 b.f2.length c5, .int .i64 b.f3.f0, .int .i64 b.f3.f1, .int .i64 b.f3.f2, .int .i64 b.f3.f3, .slice A6 b.f3.f4.length c6, .int .i64 b.f3.f5, .int .i64 b.f3.f6, .int .i64 b.f3.f7] → (b.f1.f1.length ≤ c4 ∧ b.f2.length ≤ c5 ∧ b.f3.f4.length ≤ c6) ∧ Kd.C (Kd.int .u16) W' A4 b.f1.f1.length b.f1.f1 ∧ Kd.C k49 W' A5 b.f2.length b.f2 ∧ Kd.C (Kd.int .i64) W' A6 b.f3.f4.length b.f3.f4 := by
  intro W' hK
  obtain ⟨B4, e4, B5, e5, B6, e6, e, l4, g4, l5, g5, l6, g6⟩ := k41_open hK
  simp only [List.cons.injEq, Value.slice.injEq, and_true, true_and] at e
  obtain ⟨⟨rfl, rfl⟩, ⟨rfl, rfl⟩, rfl, rfl⟩ := e
  exact ⟨⟨l4, l5, l6⟩, g4, g5, g6⟩
 exact ⟨(hx W (Kd.FK_now h)).1, fun W' hW => (hx W' (h W' hW)).2.1, fun W' hW => (hx W' (h W' hW)).2.2.1, fun W' hW => (hx W' (h W' hW)).2.2.2⟩
theorem FK_of {W : World} {ok : Nat → Prop} {b : S41} {A4 : Option Addr} {c4 : Nat} {A5 : Option Addr} {c5 : Nat} {A6 : Option Addr} {c6 : Nat} (l4 : b.f1.f1.length ≤ c4) (l5 : b.f2.length ≤ c5) (l6 : b.f3.f4.length ≤ c6) (h4 : Kd.F (Kd.int .u16) W ok A4 b.f1.f1.length b.f1.f1) (h5 : Kd.F k49 W ok A5 b.f2.length b.f2) (h6 : Kd.F (Kd.int .i64) W ok A6 b.f3.f4.length b.f3.f4) : Kd.FK k41 W ok b [.bool b.f0, .int .i64 b.f1.f0, .slice A4 b.f1.f1.length c4, .bool b.f1.f2, .bool b.f1.f3, .slice A5 b.f2.length c5, .int .i64 b.f3.f0, .int .i64 b.f3.f1, .int .i64 b.f3.f2, .int .i64 b.f3.f3, .slice A6 b.f3.f4.length c6, .int .i64 b.f3.f5, .int .i64 b.f3.f6, .int .i64 b.f3.f7] :=
 fun W' hW => k41_mk W' b l4 (h4 W' hW) l5 (h5 W' hW) l6 (h6 W' hW)
theorem C_lone {α : Type} (d : Kd α) {w : World} {g : Nat} {t : TypeId} (x : α) (cs : List Value) (hl : cs.length = d.sz) (hK : d.K w x cs) (h : w.heap[g]? = some (.cells cs.toArray t (0, 0))) : Kd.C d w (some ⟨g, 0, none⟩) 1 [x] := by
 refine ⟨rfl, by decide, fun _ => ⟨_, rfl, fun j p hj => ?_⟩⟩
 obtain rfl : j = 0 := by have := (List.getElem?_eq_some_iff.1 hj).1; simp at this; exact this
 simp at hj
 subst hj
 refine ⟨cs, hl, hK, fun i u hu => ?_⟩
 rw [Nat.zero_mul, Nat.zero_add, add_plain, blk_cell h i]
 simpa using hu
theorem F_one {α : Type} (d : Kd α) {W : World} {ok : Nat → Prop} {g : Nat} {t : TypeId} (x : α) (cs : List Value) (hl : cs.length = d.sz) (hK : Kd.FK d W ok x cs) (hg : W.heap[g]? = some (.cells cs.toArray t (0, 0))) : Kd.F d W (fun k => ok k ∨ k = g) (some ⟨g, 0, none⟩) 1 [x] := fun W' hW =>
 C_lone d x cs hl (hK W' (fun k hk hlt => hW k (.inl hk) hlt)) ((hW g (.inr rfl) (blk_lt hg)).trans hg)
theorem noth15_f (b : S41) : davitref15_Nothing.f b.f0 b.f1.f0 b.f1.f1 b.f1.f2 b.f1.f3 b.f2 b.f3.f0 b.f3.f1 b.f3.f2 b.f3.f3 b.f3.f4 b.f3.f5 b.f3.f6 b.f3.f7 = some (nothB b) := by
 unfold davitref15_Nothing.f nothB
 by_cases h0 : b.f0 = true
 ·rw [if_pos h0, h0]
  by_cases h3 : b.f2.length = 0
  ·rw [if_pos (by omega), decide_eq_true h3]
   by_cases h6 : b.f3.f0 = 6
   ·rw [if_pos h6, show (b.f3.f0 == 6) = true from beq_iff_eq.2 h6]
    by_cases h2 : b.f1.f1.length = 0
    ·rw [if_pos (by omega), decide_eq_true h2]; simp
    ·rw [if_neg (by omega), decide_eq_false h2]; simp
   ·rw [if_neg h6, show (b.f3.f0 == 6) = false from beq_eq_false_iff_ne.2 h6]; simp
  ·rw [if_neg (by omega), decide_eq_false h3]; simp
 ·rw [if_neg h0, show b.f0 = false by simpa using h0]; rfl
theorem noth15_c (b : S41) (A4 : Option Addr) (c4 : Nat) (A5 : Option Addr) (c5 : Nat) (A6 : Option Addr) (c6 : Nat) (w : World) (h4 : Kd.C (Kd.int .u16) w A4 b.f1.f1.length b.f1.f1) (k4 : b.f1.f1.length ≤ c4) (h5 : Kd.C k49 w A5 b.f2.length b.f2) (k5 : b.f2.length ≤ c5) (h6 : Kd.C (Kd.int .i64) w A6 b.f3.f4.length b.f3.f4) (k6 : b.f3.f4.length ≤ c6) :
  Calls Try.prog 43 #[.agg #[.bool b.f0, .int .i64 b.f1.f0, .slice A4 b.f1.f1.length c4, .bool b.f1.f2, .bool b.f1.f3, .slice A5 b.f2.length c5, .int .i64 b.f3.f0, .int .i64 b.f3.f1, .int .i64 b.f3.f2, .int .i64 b.f3.f3, .slice A6 b.f3.f4.length c6, .int .i64 b.f3.f5, .int .i64 b.f3.f6, .int .i64 b.f3.f7]] w fun e w' => e = .returned (.bool (nothB b)) ∧ Below w.heap.size w w' :=
 davitref15_Nothing.calls b.f0 b.f1.f0 A4 c4 b.f1.f1 b.f1.f2 b.f1.f3 A5 c5 b.f2 b.f3.f0 b.f3.f1 b.f3.f2 b.f3.f3 A6 c6 b.f3.f4 b.f3.f5 b.f3.f6 b.f3.f7 _ w h4 k4 h5 k5 h6 k6 (noth15_f b)
set_option maxHeartbeats 16000000 in
set_option maxRecDepth 100000 in
theorem trim15_c (p : S35) (A : Option Addr) (c : Nat) (w : World) (hc : p.f1.length ≤ c) :
  Calls Try.prog 46 #[.agg #[.int .i64 p.f0, .slice A p.f1.length c, .bool p.f2, .bool p.f3]] w fun e w' => (∃ D k, e = .returned (.agg #[.int .i64 (trimP p).f0, .slice D (trimP p).f1.length k, .bool (trimP p).f2, .bool (trimP p).f3]) ∧ (trimP p).f1.length ≤ k ∧ ((D = A ∧ (trimP p).f1 = p.f1) ∨ (D = none ∧ (trimP p).f1 = []))) ∧ Below w.heap.size w w' := by
 have hu35 := Try.underlying35
 have HC := Aside0.mk hc
 clear hc
 cases h2 : p.f2 with
 | false =>
  have hv : trimP p = p := by unfold trimP; rw [if_neg (by rw [h2]; simp)]
  have HV := Aside0.mk hv
  have H2 := Aside0.mk h2
  go_enter Try.func46, Try.ntmps46
  go_wp2_with (first | ((with_reducible refine gate_dst (N := 1) rfl ?_); refine box_event ?hg (N := 1) ?hd (cs := #[.int .i64 p.f0, .slice A p.f1.length c, .bool p.f2, .bool p.f3]) (t := 35) ?hr ?_; (case hd => rfl); (case hg => rfl); (case hr => first | (go_simp; done) | (go_simp; rfl)); intro g1 hg w1 hbox hb; have HLX1 := Aside0.mk (show w.heap.size ≤ g1 by rw [hg]; exact Nat.le_refl _); have HB := Aside0.mk hb; have X1 := Aside0.mk hbox; clear hbox hb hg; obtain ⟨h0, h1, h2, h3⟩ := cl4 X1.out; obtain ⟨zh0, zh1, zh2, zh3⟩ := fz4 X1.out) | ((with_reducible refine gate_dst (N := 2) rfl ?_); refine box_event ?hg (N := 2) ?hd (cs := #[.int .i64 0, .slice none 0 0, .bool false, .bool false]) (t := 35) ?hr ?_; (case hd => rfl); (case hg => rfl); (case hr => first | (go_simp; done) | (go_simp; rfl)); intro g2 hg w2 hbox hb; have HLX2 := Aside0.mk (show w.heap.size ≤ g2 by rw [hg]; exact HB.out.size); replace HB := Aside0.mk (below_step HB.out hb); replace X1 := Aside0.mk (blk_below X1.out hb); have X2 := Aside0.mk hbox; clear hbox hb hg; obtain ⟨r0, r1, r2, r3⟩ := cl4 X2.out; obtain ⟨zr0, zr1, zr2, zr3⟩ := fz4 X2.out; clear h0 zh0 h1 zh1 h2 zh2 h3 zh3; obtain ⟨h0, h1, h2, h3⟩ := cl4 X1.out; obtain ⟨zh0, zh1, zh2, zh3⟩ := fz4 X1.out))
  refine bodyPost_ret (results_cell_row rfl _ _ g2 35 #[.int .i64 p.f0, .slice A p.f1.length c, .bool false, .bool p.f3] (0, 0) _ rfl (set_blk 3 _ (set_blk 2 _ (set_blk 1 _ (set_blk 0 _ X2.out rfl) rfl) rfl) rfl) Try.underlying35 rfl (by kernel_rfl)) rfl ?_
  exact ⟨⟨A, c, by rw [HV.out, H2.out], by rw [HV.out]; exact HC.out, .inl ⟨rfl, by rw [HV.out]⟩⟩, by exact below_set (below_set (below_set (below_set HB.out HLX2.out) HLX2.out) HLX2.out) HLX2.out⟩
 | true =>
  have hv : trimP p = ⟨p.f0, [], true, false⟩ := by unfold trimP; rw [if_pos h2]
  have HV := Aside0.mk hv
  go_enter Try.func46, Try.ntmps46
  go_wp2_with (first | ((with_reducible refine gate_dst (N := 1) rfl ?_); refine box_event ?hg (N := 1) ?hd (cs := #[.int .i64 p.f0, .slice A p.f1.length c, .bool p.f2, .bool p.f3]) (t := 35) ?hr ?_; (case hd => rfl); (case hg => rfl); (case hr => first | (go_simp; done) | (go_simp; rfl)); intro g1 hg w1 hbox hb; have HLX1 := Aside0.mk (show w.heap.size ≤ g1 by rw [hg]; exact Nat.le_refl _); have HB := Aside0.mk hb; have X1 := Aside0.mk hbox; clear hbox hb hg; obtain ⟨h0, h1, h2, h3⟩ := cl4 X1.out; obtain ⟨zh0, zh1, zh2, zh3⟩ := fz4 X1.out) | ((with_reducible refine gate_dst (N := 2) rfl ?_); refine box_event ?hg (N := 2) ?hd (cs := #[.int .i64 0, .slice none 0 0, .bool false, .bool false]) (t := 35) ?hr ?_; (case hd => rfl); (case hg => rfl); (case hr => first | (go_simp; done) | (go_simp; rfl)); intro g2 hg w2 hbox hb; have HLX2 := Aside0.mk (show w.heap.size ≤ g2 by rw [hg]; exact HB.out.size); replace HB := Aside0.mk (below_step HB.out hb); replace X1 := Aside0.mk (blk_below X1.out hb); have X2 := Aside0.mk hbox; clear hbox hb hg; obtain ⟨r0, r1, r2, r3⟩ := cl4 X2.out; obtain ⟨zr0, zr1, zr2, zr3⟩ := fz4 X2.out; clear h0 zh0 h1 zh1 h2 zh2 h3 zh3; obtain ⟨h0, h1, h2, h3⟩ := cl4 X1.out; obtain ⟨zh0, zh1, zh2, zh3⟩ := fz4 X1.out))
  refine bodyPost_ret (results_cell_row rfl _ _ g2 35 #[.int .i64 p.f0, .slice none 0 0, .bool true, .bool false] (0, 0) _ rfl (set_blk 3 _ (set_blk 2 _ (set_blk 1 _ (set_blk 0 _ X2.out rfl) rfl) rfl) rfl) Try.underlying35 rfl (by kernel_rfl)) rfl ?_
  exact ⟨⟨none, 0, by rw [HV.out]; rfl, by rw [HV.out]; exact Nat.le_refl _, .inr ⟨rfl, by rw [HV.out]⟩⟩, by exact below_set (below_set (below_set (below_set HB.out HLX2.out) HLX2.out) HLX2.out) HLX2.out⟩
theorem trim15_F {p : S35} {W : World} {ok : Nat → Prop} {A D : Option Addr} (h : Kd.F (Kd.int .u16) W ok A p.f1.length p.f1) (hd : (D = A ∧ (trimP p).f1 = p.f1) ∨ (D = none ∧ (trimP p).f1 = [])) : Kd.F (Kd.int .u16) W ok D (trimP p).f1.length (trimP p).f1 := by
 rcases hd with ⟨rfl, e⟩ | ⟨rfl, e⟩
 ·rw [e]; exact h
 ·rw [e]; exact Kd.F_nil _ _ _
theorem FK_round {W : World} {ok : Nat → Prop} {b : S41} {A4 : Option Addr} {c4 : Nat} {D5 : Option Addr} {d5 : Nat} (l4 : b.f1.f1.length ≤ c4) (l5 : b.f2.length + 1 ≤ d5) (h4 : Kd.F (Kd.int .u16) W ok A4 b.f1.f1.length b.f1.f1) (h5 : Kd.F k49 W ok D5 (b.f2.length + 1) (b.f2 ++ [newI b])) : Kd.FK k41 W ok (roundB b) [.bool b.f0, .int .i64 b.f1.f0, .slice A4 b.f1.f1.length c4, .bool b.f1.f2, .bool b.f1.f3, .slice D5 (b.f2.length + 1) d5, .int .i64 2, .int .i64 0, .int .i64 0, .int .i64 0, .slice none 0 0, .int .i64 b.f3.f5, .int .i64 0, .int .i64 0] := fun W' hW => by
 have e : (roundB b).f2.length = b.f2.length + 1 := List.length_append
 have h_ := k41_mk W' (roundB b) (A2 := A4) (c2 := c4) l4 (h4 W' hW) (A5 := D5) (c5 := d5) (by rw [e]; exact l5) (by rw [e]; exact h5 W' hW) (A10 := none) (c10 := 0) (Nat.le_refl _) (Kd.F_now (Kd.F_nil (Kd.int .i64) W' (fun _ => True)))
 rw [e] at h_
 exact h_
end Go.Proofs.Ytbfialebaoeicaa.X
namespace Go.Proofs.Ytbfialebaoeicaa.X
open Go.RowKit Go.Proofs.YtbfialebaoeicaaW.PrintWords Go.Proofs.YtbfialebaoeicaaW.PrintLast Go.Proofs.YtbfialebaoeicaaW.PrintMore
set_option linter.all false
theorem mk_get {α : Type} (l : List α) (i : Nat) (h : i < (Array.mk l).size) : (Array.mk l)[i] = l[i]'h := rfl
set_option maxHeartbeats 16000000 in
set_option maxRecDepth 100000 in
theorem r19 {s0 s1 s2 s3 s4 s5 s6 s7 s10 s11 s12 s13 s14 s15 s16 s17 s18 s19 s20 s21 s22 s23 s24 s25 s26 s27 s28 s29 s30 s31 s32 s33 s34 s35 s36 s37 s38 s39 s40 s41 s42 s43 s44 s45 s46 s47 s48 s49 s50 s51 s52 s53 s54 s55 s56 s57 s58 s59 s60 s61 s62 s63 s64 s65 s66 s67 s68 s69 s70 s71 s72 s73 s74 s75 s76 s77 s78 s79 s80 s81 s82 s83 s84 s85 s86 s87 s88 s89 s90 s91 s92 s93 s94 s95 s96 s97 s98 s99 s100 s101 s102 s103 s104 s105 s106 s107 s108 s109 s110 s111 s112 s113 s114 s115 s116 s117 s118 s119 s120 : Value} {Q : Exit → Act → World → Prop} (b : S41) (A4 : Option Addr) (c4 : Nat) (A5 : Option Addr) (c5 : Nat) (A6 : Option Addr) (c6 : Nat) (g8 g9 : Nat) (ok : Nat → Prop) (wr : World)
  (h8 : wr.heap[g8]? = some (.cells #[.bool b.f0, .int .i64 b.f1.f0, .slice A4 b.f1.f1.length c4, .bool b.f1.f2, .bool b.f1.f3, .slice A5 b.f2.length c5, .int .i64 b.f3.f0, .int .i64 b.f3.f1, .int .i64 b.f3.f2, .int .i64 b.f3.f3, .slice A6 b.f3.f4.length c6, .int .i64 b.f3.f5, .int .i64 b.f3.f6, .int .i64 b.f3.f7] 41 (0, 0))) (h9 : wr.heap[g9]? = some (.cells #[.int .i64 b.f3.f0, .int .i64 b.f3.f1, .int .i64 b.f3.f2, .int .i64 b.f3.f3, .slice A6 b.f3.f4.length c6, .int .i64 b.f3.f5, .int .i64 b.f3.f6, .int .i64 b.f3.f7] 39 (0, 0))) (hfk : Kd.FK k41 wr ok b [.bool b.f0, .int .i64 b.f1.f0, .slice A4 b.f1.f1.length c4, .bool b.f1.f2, .bool b.f1.f3, .slice A5 b.f2.length c5, .int .i64 b.f3.f0, .int .i64 b.f3.f1, .int .i64 b.f3.f2, .int .i64 b.f3.f3, .slice A6 b.f3.f4.length c6, .int .i64 b.f3.f5, .int .i64 b.f3.f6, .int .i64 b.f3.f7]) (hn : b.f2.length ≤ 1000)
  (hP : ∀ c (a : Act) (N : Option Tmp) (v : Value) w, Q (.panic c) (a.put N v) w → Q (.panic c) a w)
  (hQ : ∀ (D5 : Option Addr) (d5 : Nat) (v97 v100 v108 : Value) (W : World), Below wr.heap.size wr W → b.f2.length + 1 ≤ d5 → Kd.F k49 W (fun k => ok k ∨ wr.heap.size ≤ k) D5 (b.f2.length + 1) (b.f2 ++ [newI b]) → Q .normal { tmps := #[s0, s1, s2, s3, s4, s5, s6, s7, .pointer (some ⟨g8, 0, none⟩), .pointer (some ⟨g9, 0, none⟩), s10, s11, s12, s13, s14, s15, s16, s17, s18, s19, s20, s21, s22, s23, s24, s25, s26, s27, s28, s29, s30, s31, s32, s33, s34, s35, s36, s37, s38, s39, s40, s41, s42, s43, s44, s45, s46, s47, s48, s49, s50, s51, s52, s53, s54, s55, s56, s57, s58, s59, s60, s61, s62, s63, s64, s65, s66, s67, s68, s69, s70, s71, s72, s73, s74, s75, s76, s77, s78, s79, s80, s81, s82, s83, s84, s85, s86, s87, s88, s89, s90, s91, s92, s93, s94, s95, s96, v97, .pointer (some ⟨g8, 5, none⟩), .slice A5 b.f2.length c5, v100, .pointer (some ⟨g9, 2, none⟩), .int .i64 b.f3.f2, .pointer (some ⟨g9, 3, none⟩), .int .i64 b.f3.f3, .pointer (some ⟨g9, 4, none⟩), .slice A6 b.f3.f4.length c6, .agg #[.int .i64 11, .int .i64 b.f3.f2, .int .i64 0, .int .i64 0, .int .u16 0, .int .i64 b.f3.f3, .slice A6 b.f3.f4.length c6], v108, .slice D5 (b.f2.length + 1) d5, .pointer (some ⟨g8, 5, none⟩), s111, s112, s113, s114, s115, s116, s117, s118, s119, s120], defers := [] } (W.setCell ⟨g8, 5, none⟩ (.slice D5 (b.f2.length + 1) d5))) :
  (Code.region 19 (opsOf Try.f47 19) true).wp Try.prog Q { tmps := #[s0, s1, s2, s3, s4, s5, s6, s7, .pointer (some ⟨g8, 0, none⟩), .pointer (some ⟨g9, 0, none⟩), s10, s11, s12, s13, s14, s15, s16, s17, s18, s19, s20, s21, s22, s23, s24, s25, s26, s27, s28, s29, s30, s31, s32, s33, s34, s35, s36, s37, s38, s39, s40, s41, s42, s43, s44, s45, s46, s47, s48, s49, s50, s51, s52, s53, s54, s55, s56, s57, s58, s59, s60, s61, s62, s63, s64, s65, s66, s67, s68, s69, s70, s71, s72, s73, s74, s75, s76, s77, s78, s79, s80, s81, s82, s83, s84, s85, s86, s87, s88, s89, s90, s91, s92, s93, s94, s95, s96, s97, s98, s99, s100, s101, s102, s103, s104, s105, s106, s107, s108, s109, s110, s111, s112, s113, s114, s115, s116, s117, s118, s119, s120], defers := [] } wr := by
 have H8 := Aside0.mk h8
 have H9 := Aside0.mk h9
 obtain ⟨hls, _, hp5, hp6⟩ := FK_parts (Kd.FK_bound hfk)
 have HP5 := Aside0.mk hp5
 have HP6 := Aside0.mk hp6
 have HLS := Aside0.mk hls
 have HN := Aside0.mk hn
 have HQQ := Aside0.mk hQ
 clear h8 h9 hfk hn hQ hls hp5 hp6
 have hu41 := Try.underlying41
 have hu39 := Try.underlying39
 have hu49 := Try.underlying49
 have HFN := Aside0.mk (fun (W : World) (hS : Below wr.heap.size wr W) => (fun W' hW' => k49_mk W' (newI b) HLS.out.2.2 (Kd.F_below HP6.out hS W' hW') : Kd.FK k49 W (fun k => ok k ∧ k < wr.heap.size) (newI b) [.int .i64 11, .int .i64 b.f3.f2, .int .i64 0, .int .i64 0, .int .u16 0, .int .i64 b.f3.f3, .slice A6 b.f3.f4.length c6]))
 conv in opsOf _ _ => whnf
 refine start_ (S := (fun W : World => Below wr.heap.size wr W)) (ds := [14]) #[bF,bF,bF,bF,bF,bF,bF,bF,bF,bF,bF,bF,bF,bF,bF] (by kernel_rfl) (by rfl) (by rfl) (below_drew (Below.refl _ _)) (fun hS => ?_)
 refine pure_ (i := 1) (N := some 98) (v := .pointer (some ⟨g8, 5, none⟩)) (a' := ?axrg1) #[bF,bT,bF,bF,bF,bF,bF,bF,bF,bF,bF,bF,bF,bF,bF] rfl rfl (by kernel_rfl) (fun c a w h => hP c a _ _ w h) (Or.inl ⟨by rfl, ?yyrg1⟩) ?harg1 ?hhrg1
 case yyrg1 => intro W; go_simp; done
 case harg1 => try simp only [Act.put, sA_, sZ_, sS_]; exact rfl
 refine take_ (i := 2) (N := some 99) (v := .slice A5 b.f2.length c5) (a' := ?axrg2) #[bF,bT,bT,bF,bF,bF,bF,bF,bF,bF,bF,bF,bF,bF,bF] rfl rfl (by kernel_rfl) (fun c a w h => hP c a _ _ w h) (Or.inl ⟨by rfl, ?yyrg2⟩) hS ?harg2 ?hhrg2
 case yyrg2 => intro W hW; have e5 := (blk_cell (blk_below H8.out hW) 5).trans rfl; have d2 := (blk_cell (blk_below H9.out hW) 2).trans rfl; have d3 := (blk_cell (blk_below H9.out hW) 3).trans rfl; have d4 := (blk_cell (blk_below H9.out hW) 4).trans rfl; go_simp; done
 case harg2 => try simp only [Act.put, sA_, sZ_, sS_]; exact rfl
 refine pure_ (i := 4) (N := some 101) (v := .pointer (some ⟨g9, 2, none⟩)) (a' := ?axrg3) #[bF,bT,bT,bF,bT,bF,bF,bF,bF,bF,bF,bF,bF,bF,bF] rfl rfl (by kernel_rfl) (fun c a w h => hP c a _ _ w h) (Or.inl ⟨by rfl, ?yyrg3⟩) ?harg3 ?hhrg3
 case yyrg3 => intro W; go_simp; done
 case harg3 => try simp only [Act.put, sA_, sZ_, sS_]; exact rfl
 refine take_ (i := 5) (N := some 102) (v := .int .i64 b.f3.f2) (a' := ?axrg4) #[bF,bT,bT,bF,bT,bT,bF,bF,bF,bF,bF,bF,bF,bF,bF] rfl rfl (by kernel_rfl) (fun c a w h => hP c a _ _ w h) (Or.inl ⟨by rfl, ?yyrg4⟩) hS ?harg4 ?hhrg4
 case yyrg4 => intro W hW; have e5 := (blk_cell (blk_below H8.out hW) 5).trans rfl; have d2 := (blk_cell (blk_below H9.out hW) 2).trans rfl; have d3 := (blk_cell (blk_below H9.out hW) 3).trans rfl; have d4 := (blk_cell (blk_below H9.out hW) 4).trans rfl; go_simp; done
 case harg4 => try simp only [Act.put, sA_, sZ_, sS_]; exact rfl
 refine pure_ (i := 6) (N := some 103) (v := .pointer (some ⟨g9, 3, none⟩)) (a' := ?axrg5) #[bF,bT,bT,bF,bT,bT,bT,bF,bF,bF,bF,bF,bF,bF,bF] rfl rfl (by kernel_rfl) (fun c a w h => hP c a _ _ w h) (Or.inl ⟨by rfl, ?yyrg5⟩) ?harg5 ?hhrg5
 case yyrg5 => intro W; go_simp; done
 case harg5 => try simp only [Act.put, sA_, sZ_, sS_]; exact rfl
 refine take_ (i := 7) (N := some 104) (v := .int .i64 b.f3.f3) (a' := ?axrg6) #[bF,bT,bT,bF,bT,bT,bT,bT,bF,bF,bF,bF,bF,bF,bF] rfl rfl (by kernel_rfl) (fun c a w h => hP c a _ _ w h) (Or.inl ⟨by rfl, ?yyrg6⟩) hS ?harg6 ?hhrg6
 case yyrg6 => intro W hW; have e5 := (blk_cell (blk_below H8.out hW) 5).trans rfl; have d2 := (blk_cell (blk_below H9.out hW) 2).trans rfl; have d3 := (blk_cell (blk_below H9.out hW) 3).trans rfl; have d4 := (blk_cell (blk_below H9.out hW) 4).trans rfl; go_simp; done
 case harg6 => try simp only [Act.put, sA_, sZ_, sS_]; exact rfl
 refine pure_ (i := 8) (N := some 105) (v := .pointer (some ⟨g9, 4, none⟩)) (a' := ?axrg7) #[bF,bT,bT,bF,bT,bT,bT,bT,bT,bF,bF,bF,bF,bF,bF] rfl rfl (by kernel_rfl) (fun c a w h => hP c a _ _ w h) (Or.inl ⟨by rfl, ?yyrg7⟩) ?harg7 ?hhrg7
 case yyrg7 => intro W; go_simp; done
 case harg7 => try simp only [Act.put, sA_, sZ_, sS_]; exact rfl
 refine take_ (i := 9) (N := some 106) (v := .slice A6 b.f3.f4.length c6) (a' := ?axrg8) #[bF,bT,bT,bF,bT,bT,bT,bT,bT,bT,bF,bF,bF,bF,bF] rfl rfl (by kernel_rfl) (fun c a w h => hP c a _ _ w h) (Or.inl ⟨by rfl, ?yyrg8⟩) hS ?harg8 ?hhrg8
 case yyrg8 => intro W hW; have e5 := (blk_cell (blk_below H8.out hW) 5).trans rfl; have d2 := (blk_cell (blk_below H9.out hW) 2).trans rfl; have d3 := (blk_cell (blk_below H9.out hW) 3).trans rfl; have d4 := (blk_cell (blk_below H9.out hW) 4).trans rfl; go_simp; done
 case harg8 => try simp only [Act.put, sA_, sZ_, sS_]; exact rfl
 refine pure_ (i := 10) (N := some 107) (v := .agg #[.int .i64 11, .int .i64 b.f3.f2, .int .i64 0, .int .i64 0, .int .u16 0, .int .i64 b.f3.f3, .slice A6 b.f3.f4.length c6]) (a' := ?axrg9) #[bF,bT,bT,bF,bT,bT,bT,bT,bT,bT,bT,bF,bF,bF,bF] rfl rfl (by kernel_rfl) (fun c a w h => hP c a _ _ w h) (Or.inl ⟨by rfl, ?yyrg9⟩) ?harg9 ?hhrg9
 case yyrg9 => intro W; go_simp; done
 case harg9 => try simp only [Act.put, sA_, sZ_, sS_]; exact rfl
 refine two_ (i := 0) (j := 11) (Ni := some 97) (Nj := some 108) #[bT,bT,bT,bF,bT,bT,bT,bT,bT,bT,bT,bF,bF,bF,bF] #[bF,bT,bT,bF,bT,bT,bT,bT,bT,bT,bT,bT,bF,bF,bF] rfl rfl rfl rfl (by kernel_rfl) (by decide) (by decide) (fun K hK => ?_) (fun K hK => ?_)
 ·skip
  refine Kd.R_lit_step k49 (w0 := wr) wr.heap.size 49 (by rfl) (N := 97) rfl (xs := ([] : List S49)) (inner := []) (ok := fun k => wr.heap.size ≤ k) (okp := fun _ => False) ?hr (Reps.none _ _) (fun _ h => h.elim) hS.size hS hS.size (by simp) ?_
  case hr => first | (go_simp; done) | (go_simp; rfl)
  intro v97 w97 ho hb hg hnew
  have HO := Aside0.mk (Kd.R_N ho)
  have HGL := Aside0.mk hg
  have HNW := Aside0.mk hnew
  clear ho hg hnew
  refine hK _ _ hb (fun hS => ?_)
  clear hK K
  try simp only [mk_get, List.getElem_cons_zero, List.getElem_cons_succ, Act.put, List.setIfInBounds_toArray, List.set_cons_zero, List.set_cons_succ]
  have HW97 := Aside0.mk HNW.out
  refine two_ (i := 3) (j := 11) (Ni := some 100) (Nj := some 108) #[bT,bT,bT,bT,bT,bT,bT,bT,bT,bT,bT,bF,bF,bF,bF] #[bT,bT,bT,bF,bT,bT,bT,bT,bT,bT,bT,bT,bF,bF,bF] rfl rfl rfl rfl (by kernel_rfl) (by decide) (by decide) (fun K hK => ?_) (fun K hK => ?_)
  ·skip
   refine Kd.N_append_rows_step k49 (w0 := wr) wr.heap.size (by rfl) (.tmp 97) (.tmp 99) 36 49 _ _ rfl Try.underlying36 infoI rfl (Nat.succ_pos _) (by omega) v97 ([] : List S49) b.f2 A5 _ c5 (fun k => (ok k ∧ k < wr.heap.size) ∨ wr.heap.size ≤ k) (fun k => ok k ∧ k < wr.heap.size) rfl rfl (Kd.N_mono HO.out (fun k h => .inr h)) (Kd.F_below HP5.out hS) (fun k hk => ⟨.inl hk, fun e_ => by have h1_ := Kd.N_base HO.out k e_.symm; have h2_ := hk.2; omega⟩) (fun k h => .inr (Nat.le_trans hS.size h)) hS hS.size (by have := HN.out; simp; omega) ?_
   intro v100 w100 ho hb hg hat
   rw [List.nil_append] at ho
   have HO2 := Aside0.mk ho
   have HGA := Aside0.mk hg
   have HAT := Aside0.mk hat
   clear ho hg hat
   refine hK _ _ hb (fun hS => ?_)
   clear hK K
   try simp only [mk_get, List.getElem_cons_zero, List.getElem_cons_succ, Act.put, List.setIfInBounds_toArray, List.set_cons_zero, List.set_cons_succ]
   refine one_ (i := 11) (N := some 108) #[bT,bT,bT,bT,bT,bT,bT,bT,bT,bT,bT,bT,bF,bF,bF] rfl rfl (by kernel_rfl) (by decide) (fun K hK => ?_)
   refine value_ (w1 := ?_) (v := ?_) (by rfl) rfl ?_ ?_
   rotate_left 2
   ·go_simp
    constructor
    ·rfl
    ·rfl
   have HX := Aside0.mk (show (World.alloc w100 (.cells #[.int .i64 11, .int .i64 b.f3.f2, .int .i64 0, .int .i64 0, .int .u16 0, .int .i64 b.f3.f3, .slice A6 b.f3.f4.length c6] 49 (0, 0))).heap[w100.heap.size]? = some (.cells #[.int .i64 11, .int .i64 b.f3.f2, .int .i64 0, .int .i64 0, .int .u16 0, .int .i64 b.f3.f3, .slice A6 b.f3.f4.length c6] 49 (0, 0)) from blk_new _ _)
   have HD := Aside0.mk (show some w100.heap.size ≠ v100.ownBlock from fun e_ => Nat.lt_irrefl _ (Kd.N_lt HO2.out _ e_.symm))
   have HGE := Aside0.mk hS.size
   have HO2' := Aside0.mk (Kd.N_alloc HO2.out (.cells #[.int .i64 11, .int .i64 b.f3.f2, .int .i64 0, .int .i64 0, .int .u16 0, .int .i64 b.f3.f3, .slice A6 b.f3.f4.length c6] 49 (0, 0)))
   clear HO2
   have HO2 := HO2'
   refine hK _ _ (below_alloc hS _) (fun hS => ?_)
   clear hK K
   try simp only [mk_get, List.getElem_cons_zero, List.getElem_cons_succ, Act.put, List.setIfInBounds_toArray, List.set_cons_zero, List.set_cons_succ]
   refine one_ (i := 12) (N := some 109) #[bT,bT,bT,bT,bT,bT,bT,bT,bT,bT,bT,bT,bT,bF,bF] rfl rfl (by kernel_rfl) (by decide) (fun K hK => ?_)
   refine Kd.N_append_rows_step k49 (w0 := wr) wr.heap.size (by rfl) (.tmp 100) (.tmp 108) 36 49 _ _ rfl Try.underlying36 infoI rfl (Nat.succ_pos _) (by omega) v100 b.f2 [newI b] (some ⟨w100.heap.size, 0, none⟩) 1 1 (fun k => (ok k ∧ k < wr.heap.size) ∨ wr.heap.size ≤ k) (fun k => (ok k ∧ k < wr.heap.size) ∨ k = w100.heap.size) rfl rfl HO2.out (F_one k49 (newI b) [.int .i64 11, .int .i64 b.f3.f2, .int .i64 0, .int .i64 0, .int .u16 0, .int .i64 b.f3.f3, .slice A6 b.f3.f4.length c6] rfl (HFN.out _ hS) HX.out) (fun k hk => hk.elim (fun hk => ⟨.inl hk, fun e_ => by have h1_ := Kd.N_base HO2.out k e_.symm; have h2_ := hk.2; omega⟩) (fun hk => ⟨.inr (by rw [hk]; exact HGE.out), by rw [hk]; exact HD.out⟩)) (fun k h => .inr (Nat.le_trans hS.size h)) hS hS.size (by have := HN.out; omega) ?_
   intro v109 w109 ho hb hg hat
   obtain ⟨D5, d5, rfl, hld, _⟩ := Kd.N_reads ho
   rw [show (b.f2 ++ [newI b]).length = b.f2.length + 1 from List.length_append] at ho hld ⊢
   have HO3 := Aside0.mk ho
   have HLD := Aside0.mk hld
   clear ho hg hat hld
   refine hK _ _ hb (fun hS => ?_)
   clear hK K
   try simp only [mk_get, List.getElem_cons_zero, List.getElem_cons_succ, Act.put, List.setIfInBounds_toArray, List.set_cons_zero, List.set_cons_succ]
   refine pure_ (i := 13) (N := some 110) (v := .pointer (some ⟨g8, 5, none⟩)) (a' := ?axrg10) #[bT,bT,bT,bT,bT,bT,bT,bT,bT,bT,bT,bT,bT,bT,bF] rfl rfl (by kernel_rfl) (fun c a w h => hP c a _ _ w h) (Or.inl ⟨by rfl, ?yyrg10⟩) ?harg10 ?hhrg10
   case yyrg10 => intro W; go_simp; done
   case harg10 => try simp only [Act.put, sA_, sZ_, sS_]; exact rfl
   have c5_ := (blk_cell (blk_below H8.out hS) 5).trans rfl
   have f5_ := blk_frozen (blk_below H8.out hS) 5
   refine last_ (i := 14) (N := none) #[bT,bT,bT,bT,bT,bT,bT,bT,bT,bT,bT,bT,bT,bT,bT] rfl rfl (by kernel_rfl) (by decide) (fun K hK => ?_)
   refine skip_ (w1 := ?_) (by rfl) rfl ?_ ?_
   rotate_left
   ·go_simp
    rfl
   refine hK _ _ ?_
   clear hK K
   try simp only [Act.put, sA_, sZ_, sS_]
   refine done_ (by kernel_rfl) ?_
   exact HQQ.out D5 d5 _ _ _ w109 hS HLD.out (Kd.F_mono (Kd.N_F HO3.out) (fun k (hk : (ok k ∧ k < wr.heap.size) ∨ wr.heap.size ≤ k) => hk.elim (fun h => .inl h.1) .inr))
  ·skip
   refine value_ (w1 := ?_) (v := ?_) (by rfl) rfl ?_ ?_
   rotate_left 2
   ·go_simp
    constructor
    ·rfl
    ·rfl
   have HX1 := Aside0.mk (show (World.alloc w97 (.cells #[.int .i64 11, .int .i64 b.f3.f2, .int .i64 0, .int .i64 0, .int .u16 0, .int .i64 b.f3.f3, .slice A6 b.f3.f4.length c6] 49 (0, 0))).heap[w97.heap.size]? = some (.cells #[.int .i64 11, .int .i64 b.f3.f2, .int .i64 0, .int .i64 0, .int .u16 0, .int .i64 b.f3.f3, .slice A6 b.f3.f4.length c6] 49 (0, 0)) from blk_new _ _)
   have HD1 := Aside0.mk (show some w97.heap.size ≠ v97.ownBlock from fun e_ => Nat.lt_irrefl _ (Kd.N_lt HO.out _ e_.symm))
   have HGE := Aside0.mk hS.size
   have HO' := Aside0.mk (Kd.N_alloc HO.out (.cells #[.int .i64 11, .int .i64 b.f3.f2, .int .i64 0, .int .i64 0, .int .u16 0, .int .i64 b.f3.f3, .slice A6 b.f3.f4.length c6] 49 (0, 0)))
   clear HO
   have HO := HO'
   refine hK _ _ (below_alloc hS _) (fun hS => ?_)
   clear hK K
   try simp only [mk_get, List.getElem_cons_zero, List.getElem_cons_succ, Act.put, List.setIfInBounds_toArray, List.set_cons_zero, List.set_cons_succ]
   refine one_ (i := 3) (N := some 100) #[bT,bT,bT,bT,bT,bT,bT,bT,bT,bT,bT,bT,bF,bF,bF] rfl rfl (by kernel_rfl) (by decide) (fun K hK => ?_)
   refine Kd.N_append_rows_step k49 (w0 := wr) wr.heap.size (by rfl) (.tmp 97) (.tmp 99) 36 49 _ _ rfl Try.underlying36 infoI rfl (Nat.succ_pos _) (by omega) v97 ([] : List S49) b.f2 A5 _ c5 (fun k => (ok k ∧ k < wr.heap.size) ∨ wr.heap.size ≤ k) (fun k => ok k ∧ k < wr.heap.size) rfl rfl (Kd.N_mono HO.out (fun k h => .inr h)) (Kd.F_below HP5.out hS) (fun k hk => ⟨.inl hk, fun e_ => by have h1_ := Kd.N_base HO.out k e_.symm; have h2_ := hk.2; omega⟩) (fun k h => .inr (Nat.le_trans hS.size h)) hS hS.size (by have := HN.out; simp; omega) ?_
   intro v100 w100 ho hb hg hat
   rw [List.nil_append] at ho
   have HO2 := Aside0.mk ho
   have HGA := Aside0.mk hg
   have HAT := Aside0.mk hat
   clear ho hg hat
   have HX := Aside0.mk (blk_grown HX1.out HGA.out HD1.out)
   have HD := Aside0.mk (show some w97.heap.size ≠ v100.ownBlock from HAT.out.elim (fun e_ => by rw [e_]; exact HD1.out) (fun ⟨b_, e_, hle⟩ => by rw [e_]; intro he; injection he with he; have := blk_lt HX1.out; omega))
   refine hK _ _ hb (fun hS => ?_)
   clear hK K
   try simp only [mk_get, List.getElem_cons_zero, List.getElem_cons_succ, Act.put, List.setIfInBounds_toArray, List.set_cons_zero, List.set_cons_succ]
   refine one_ (i := 12) (N := some 109) #[bT,bT,bT,bT,bT,bT,bT,bT,bT,bT,bT,bT,bT,bF,bF] rfl rfl (by kernel_rfl) (by decide) (fun K hK => ?_)
   refine Kd.N_append_rows_step k49 (w0 := wr) wr.heap.size (by rfl) (.tmp 100) (.tmp 108) 36 49 _ _ rfl Try.underlying36 infoI rfl (Nat.succ_pos _) (by omega) v100 b.f2 [newI b] (some ⟨w97.heap.size, 0, none⟩) 1 1 (fun k => (ok k ∧ k < wr.heap.size) ∨ wr.heap.size ≤ k) (fun k => (ok k ∧ k < wr.heap.size) ∨ k = w97.heap.size) rfl rfl HO2.out (F_one k49 (newI b) [.int .i64 11, .int .i64 b.f3.f2, .int .i64 0, .int .i64 0, .int .u16 0, .int .i64 b.f3.f3, .slice A6 b.f3.f4.length c6] rfl (HFN.out _ hS) HX.out) (fun k hk => hk.elim (fun hk => ⟨.inl hk, fun e_ => by have h1_ := Kd.N_base HO2.out k e_.symm; have h2_ := hk.2; omega⟩) (fun hk => ⟨.inr (by rw [hk]; exact HGE.out), by rw [hk]; exact HD.out⟩)) (fun k h => .inr (Nat.le_trans hS.size h)) hS hS.size (by have := HN.out; omega) ?_
   intro v109 w109 ho hb hg hat
   obtain ⟨D5, d5, rfl, hld, _⟩ := Kd.N_reads ho
   rw [show (b.f2 ++ [newI b]).length = b.f2.length + 1 from List.length_append] at ho hld ⊢
   have HO3 := Aside0.mk ho
   have HLD := Aside0.mk hld
   clear ho hg hat hld
   refine hK _ _ hb (fun hS => ?_)
   clear hK K
   try simp only [mk_get, List.getElem_cons_zero, List.getElem_cons_succ, Act.put, List.setIfInBounds_toArray, List.set_cons_zero, List.set_cons_succ]
   refine pure_ (i := 13) (N := some 110) (v := .pointer (some ⟨g8, 5, none⟩)) (a' := ?axrg11) #[bT,bT,bT,bT,bT,bT,bT,bT,bT,bT,bT,bT,bT,bT,bF] rfl rfl (by kernel_rfl) (fun c a w h => hP c a _ _ w h) (Or.inl ⟨by rfl, ?yyrg11⟩) ?harg11 ?hhrg11
   case yyrg11 => intro W; go_simp; done
   case harg11 => try simp only [Act.put, sA_, sZ_, sS_]; exact rfl
   have c5_ := (blk_cell (blk_below H8.out hS) 5).trans rfl
   have f5_ := blk_frozen (blk_below H8.out hS) 5
   refine last_ (i := 14) (N := none) #[bT,bT,bT,bT,bT,bT,bT,bT,bT,bT,bT,bT,bT,bT,bT] rfl rfl (by kernel_rfl) (by decide) (fun K hK => ?_)
   refine skip_ (w1 := ?_) (by rfl) rfl ?_ ?_
   rotate_left
   ·go_simp
    rfl
   refine hK _ _ ?_
   clear hK K
   try simp only [Act.put, sA_, sZ_, sS_]
   refine done_ (by kernel_rfl) ?_
   exact HQQ.out D5 d5 _ _ _ w109 hS HLD.out (Kd.F_mono (Kd.N_F HO3.out) (fun k (hk : (ok k ∧ k < wr.heap.size) ∨ wr.heap.size ≤ k) => hk.elim (fun h => .inl h.1) .inr))
 ·skip
  refine value_ (w1 := ?_) (v := ?_) (by rfl) rfl ?_ ?_
  rotate_left 2
  ·go_simp
   constructor
   ·rfl
   ·rfl
  have HX0 := Aside0.mk (show (World.drew (World.alloc wr (.cells #[.int .i64 11, .int .i64 b.f3.f2, .int .i64 0, .int .i64 0, .int .u16 0, .int .i64 b.f3.f3, .slice A6 b.f3.f4.length c6] 49 (0, 0)))).heap[wr.heap.size]? = some (.cells #[.int .i64 11, .int .i64 b.f3.f2, .int .i64 0, .int .i64 0, .int .u16 0, .int .i64 b.f3.f3, .slice A6 b.f3.f4.length c6] 49 (0, 0)) from blk_drew (blk_new _ _))
  have HGE := Aside0.mk hS.size
  refine hK _ _ (below_alloc hS _) (fun hS => ?_)
  clear hK K
  try simp only [mk_get, List.getElem_cons_zero, List.getElem_cons_succ, Act.put, List.setIfInBounds_toArray, List.set_cons_zero, List.set_cons_succ]
  refine one_ (i := 0) (N := some 97) #[bT,bT,bT,bF,bT,bT,bT,bT,bT,bT,bT,bT,bF,bF,bF] rfl rfl (by kernel_rfl) (by decide) (fun K hK => ?_)
  refine Kd.R_lit_step k49 (w0 := wr) wr.heap.size 49 (by rfl) (N := 97) rfl (xs := ([] : List S49)) (inner := []) (ok := fun k => wr.heap.size ≤ k) (okp := fun _ => False) ?hr (Reps.none _ _) (fun _ h => h.elim) hS.size hS hS.size (by simp) ?_
  case hr => first | (go_simp; done) | (go_simp; rfl)
  intro v97 w97 ho hb hg hnew
  have HO := Aside0.mk (Kd.R_N ho)
  have HGL := Aside0.mk hg
  have HNW := Aside0.mk hnew
  clear ho hg hnew
  have HX1 := Aside0.mk (blk_grown HX0.out HGL.out (by simp))
  have HD1 := Aside0.mk (show some wr.heap.size ≠ v97.ownBlock from by obtain ⟨b_, e_, hle⟩ := HNW.out; rw [e_]; intro he; injection he with he; have := blk_lt HX0.out; omega)
  refine hK _ _ hb (fun hS => ?_)
  clear hK K
  try simp only [mk_get, List.getElem_cons_zero, List.getElem_cons_succ, Act.put, List.setIfInBounds_toArray, List.set_cons_zero, List.set_cons_succ]
  refine one_ (i := 3) (N := some 100) #[bT,bT,bT,bT,bT,bT,bT,bT,bT,bT,bT,bT,bF,bF,bF] rfl rfl (by kernel_rfl) (by decide) (fun K hK => ?_)
  refine Kd.N_append_rows_step k49 (w0 := wr) wr.heap.size (by rfl) (.tmp 97) (.tmp 99) 36 49 _ _ rfl Try.underlying36 infoI rfl (Nat.succ_pos _) (by omega) v97 ([] : List S49) b.f2 A5 _ c5 (fun k => (ok k ∧ k < wr.heap.size) ∨ wr.heap.size ≤ k) (fun k => ok k ∧ k < wr.heap.size) rfl rfl (Kd.N_mono HO.out (fun k h => .inr h)) (Kd.F_below HP5.out hS) (fun k hk => ⟨.inl hk, fun e_ => by have h1_ := Kd.N_base HO.out k e_.symm; have h2_ := hk.2; omega⟩) (fun k h => .inr (Nat.le_trans hS.size h)) hS hS.size (by have := HN.out; simp; omega) ?_
  intro v100 w100 ho hb hg hat
  rw [List.nil_append] at ho
  have HO2 := Aside0.mk ho
  have HGA := Aside0.mk hg
  have HAT := Aside0.mk hat
  clear ho hg hat
  have HX := Aside0.mk (blk_grown HX1.out HGA.out HD1.out)
  have HD := Aside0.mk (show some wr.heap.size ≠ v100.ownBlock from HAT.out.elim (fun e_ => by rw [e_]; exact HD1.out) (fun ⟨b_, e_, hle⟩ => by rw [e_]; intro he; injection he with he; have := blk_lt HX1.out; omega))
  refine hK _ _ hb (fun hS => ?_)
  clear hK K
  try simp only [mk_get, List.getElem_cons_zero, List.getElem_cons_succ, Act.put, List.setIfInBounds_toArray, List.set_cons_zero, List.set_cons_succ]
  refine one_ (i := 12) (N := some 109) #[bT,bT,bT,bT,bT,bT,bT,bT,bT,bT,bT,bT,bT,bF,bF] rfl rfl (by kernel_rfl) (by decide) (fun K hK => ?_)
  refine Kd.N_append_rows_step k49 (w0 := wr) wr.heap.size (by rfl) (.tmp 100) (.tmp 108) 36 49 _ _ rfl Try.underlying36 infoI rfl (Nat.succ_pos _) (by omega) v100 b.f2 [newI b] (some ⟨wr.heap.size, 0, none⟩) 1 1 (fun k => (ok k ∧ k < wr.heap.size) ∨ wr.heap.size ≤ k) (fun k => (ok k ∧ k < wr.heap.size) ∨ k = wr.heap.size) rfl rfl HO2.out (F_one k49 (newI b) [.int .i64 11, .int .i64 b.f3.f2, .int .i64 0, .int .i64 0, .int .u16 0, .int .i64 b.f3.f3, .slice A6 b.f3.f4.length c6] rfl (HFN.out _ hS) HX.out) (fun k hk => hk.elim (fun hk => ⟨.inl hk, fun e_ => by have h1_ := Kd.N_base HO2.out k e_.symm; have h2_ := hk.2; omega⟩) (fun hk => ⟨.inr (by rw [hk]; exact HGE.out), by rw [hk]; exact HD.out⟩)) (fun k h => .inr (Nat.le_trans hS.size h)) hS hS.size (by have := HN.out; omega) ?_
  intro v109 w109 ho hb hg hat
  obtain ⟨D5, d5, rfl, hld, _⟩ := Kd.N_reads ho
  rw [show (b.f2 ++ [newI b]).length = b.f2.length + 1 from List.length_append] at ho hld ⊢
  have HO3 := Aside0.mk ho
  have HLD := Aside0.mk hld
  clear ho hg hat hld
  refine hK _ _ hb (fun hS => ?_)
  clear hK K
  try simp only [mk_get, List.getElem_cons_zero, List.getElem_cons_succ, Act.put, List.setIfInBounds_toArray, List.set_cons_zero, List.set_cons_succ]
  refine pure_ (i := 13) (N := some 110) (v := .pointer (some ⟨g8, 5, none⟩)) (a' := ?axrg12) #[bT,bT,bT,bT,bT,bT,bT,bT,bT,bT,bT,bT,bT,bT,bF] rfl rfl (by kernel_rfl) (fun c a w h => hP c a _ _ w h) (Or.inl ⟨by rfl, ?yyrg12⟩) ?harg12 ?hhrg12
  case yyrg12 => intro W; go_simp; done
  case harg12 => try simp only [Act.put, sA_, sZ_, sS_]; exact rfl
  have c5_ := (blk_cell (blk_below H8.out hS) 5).trans rfl
  have f5_ := blk_frozen (blk_below H8.out hS) 5
  refine last_ (i := 14) (N := none) #[bT,bT,bT,bT,bT,bT,bT,bT,bT,bT,bT,bT,bT,bT,bT] rfl rfl (by kernel_rfl) (by decide) (fun K hK => ?_)
  refine skip_ (w1 := ?_) (by rfl) rfl ?_ ?_
  rotate_left
  ·go_simp
   rfl
  refine hK _ _ ?_
  clear hK K
  try simp only [Act.put, sA_, sZ_, sS_]
  refine done_ (by kernel_rfl) ?_
  exact HQQ.out D5 d5 _ _ _ w109 hS HLD.out (Kd.F_mono (Kd.N_F HO3.out) (fun k (hk : (ok k ∧ k < wr.heap.size) ∨ wr.heap.size ≤ k) => hk.elim (fun h => .inl h.1) .inr))
end Go.Proofs.Ytbfialebaoeicaa.X
