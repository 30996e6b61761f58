/- Part 4 of the proof of the statement CallsMore: the words of the walks, the walks through the functions that it reaches, and the plain laws of what they compute. -/
import Derived.Test.YtjjcnbfmmhokeaaMCallsMore2
import Derived.RegionTactic
import Derived.ChangeAlike
import Derived.Deep.QuietTactic
import Derived.BigQuiet
import Derived.Lib.SlicesCompact
import Derived.Deep.Slices
import Derived.Lib.SmallJoins
import Derived.ChangeArms
import Derived.Test.YtjjcnbfmmhokeaaRows
import Derived.WalkKit
import Derived.ProofKit
import Derived.OpenShut
import Derived.ShutString
import Derived.ChangeOld
import Derived.Below
import Derived.SizedLaws
import Derived.Carry
namespace Go.Proofs.Ytjjcnbfmmhokeaa.X
open Go.Shelf Go.RowKit Go.Proofs.YtjjcnbfmmhokeaaW.PrintWords Go.Proofs.YtjjcnbfmmhokeaaW.PrintLast Go.Proofs.YtjjcnbfmmhokeaaW.PrintMore
set_option linter.all false
def more.T8 : Bool × List (List Nat × List Nat) := (true, [([], []), ([0], [0]), ([], []), ([], []), ([], []), ([4], [4]), ([], []), ([5, 6], [5, 6]), ([7], [7]), ([8], [8]), ([3, 9], [3, 9]), ([], []), ([11], [11]), ([12], [12]), ([13], [13]), ([14], [14]), ([10, 15, 10], [10, 15]), ([1, 2, 0, 1, 2, 3, 4, 5, 6, 7, 8, 9, 10, 11, 12, 13, 14, 15, 16], [1, 2]), ([17, 0, 1, 2, 3, 4, 5, 6, 7, 8, 9, 10, 11, 12, 13, 14, 15, 16], [17]), ([18, 16, 16, 0, 1, 2, 3, 4, 5, 6, 7, 8, 9, 10, 11, 12, 13, 14, 15, 16], [16, 18])])
def more.B8 : List Nat := [0, 1, 0, 0, 0, 16, 0, 112, 240, 496, 1016, 0, 2048, 6144, 14336, 30720, 65528, 131071, 262143, 524287]
theorem more.tab8 : rtab .any (opsOf Try.f4 8) = more.T8 := by kernel_rfl
theorem more.bits8 : waitsOk more.T8.2 more.B8 = true := by kernel_rfl
theorem heap40 : Kd.Heap k40 := Kd.heap_iso _ (Kd.heap_pair (Kd.heap_int _) (Kd.heap_pair (Kd.heap_slice _ (Kd.heap_int _)) (Kd.heap_pair Kd.heap_bool Kd.heap_bool)))
theorem heap36 : Kd.Heap k36 := Kd.heap_iso _ (Kd.heap_pair (Kd.heap_int _) (Kd.heap_pair (Kd.heap_int _) (Kd.heap_pair (Kd.heap_int _) (Kd.heap_pair (Kd.heap_int _) (Kd.heap_pair (Kd.heap_int _) (Kd.heap_pair (Kd.heap_int _) (Kd.heap_slice _ (Kd.heap_int _))))))))
theorem heap42 : Kd.Heap k42 := Kd.heap_iso _ (Kd.heap_pair (Kd.heap_int _) (Kd.heap_pair (Kd.heap_int _) (Kd.heap_pair (Kd.heap_int _) (Kd.heap_pair (Kd.heap_int _) (Kd.heap_pair (Kd.heap_slice _ (Kd.heap_int _)) (Kd.heap_pair (Kd.heap_int _) (Kd.heap_pair (Kd.heap_int _) (Kd.heap_int _))))))))
theorem heap44 : Kd.Heap k44 := Kd.heap_iso _ (Kd.heap_pair Kd.heap_bool (Kd.heap_pair heap40 (Kd.heap_pair (Kd.heap_slice _ heap36) heap42)))
theorem heap33 : Kd.Heap k33 := Kd.heap_iso _ (Kd.heap_pair (Kd.heap_int _) (Kd.heap_pair (Kd.heap_int _) (Kd.heap_slice _ heap44)))
theorem comes_n (k : Nat) (A : Option Addr) (c : Nat) (m : List S33) (n : Nat) (hn : n = m.length) (a b : Int) (r : Bool) (w : World) (hr : Kd.C k33 w A m.length m) (hc : n ≤ c) (h : calls_Comes.f k m a b = some r) :
  Calls Try.prog 9 #[.agg #[.slice A n c], .int .i64 a, .int .i64 b] w fun e w' => e = .returned (.bool r) ∧ Below w.heap.size w w' := by
 subst hn
 exact calls_Comes.calls k A c m a b r w hr hc h
theorem of_n (k : Nat) (A : Option Addr) (c : Nat) (m : List S33) (n : Nat) (hn : n = m.length) (a : Int) (r : List Int) (w : World) (hr : Kd.C k33 w A m.length m) (hc : n ≤ c) (h : calls_Of.f m a = some r) :
  Calls Try.prog 11 #[.agg #[.slice A n c], .int .i64 a] w fun e w' => ∃ v0_ : Value, e = .returned v0_ ∧ Kd.R (Kd.int .i64) 3 w' w.heap.size (fun _ => True) v0_ r ∧ Below w.heap.size w w' := by
 subst hn
 exact calls_Of.calls A c m a r w hr hc h
set_option maxHeartbeats 16000000 in
set_option maxRecDepth 100000 in
theorem davitlaw11_CallsMore.calls (k : Nat) (A : Option Addr) (c : Nat) (l : List S33) (a b : Int) (r : Bool) (w : World) (hr : Kd.C k33 w A l.length l) (hc : l.length ≤ c) (h : davitlaw11_CallsMore.f k l a b = some r) :
  Calls Try.prog 4 #[.agg #[.slice A l.length c], .int .u8 a, .int .u8 b] w fun e w' => e = .returned (.bool r) ∧ Below w.heap.size w w' := by
 unfold davitlaw11_CallsMore.f at h
 obtain ⟨t, ht, h3⟩ := Option.bind_eq_some_iff.1 h
 clear h
 obtain ⟨s, hs, h⟩ := Option.bind_eq_some_iff.1 h3
 clear h3
 by_cases h1 : t = true ∧ 0 ≤ a ∧ a < 256 ∧ 0 ≤ b ∧ b < 256
 rotate_left
 ·rw [if_neg h1] at h; cases h
 rw [if_pos h1] at h
 obtain ⟨rfl, ha0, ha1, hb0, hb1⟩ := h1
 by_cases h2 : s = true ∧ 0 < l.length
 ·rw [if_pos h2] at h
  by_cases hb : l.length ≤ 1000 ∧ ∀ f ∈ l, f.f2.length ≤ 1000
  rotate_left
  ·rw [if_neg hb] at h; cases h
  rw [if_pos hb] at h
  have HH := Aside0.mk h
  have HL := Aside0.mk hb
  obtain ⟨rfl, h2⟩ := h2
  have HP := Aside0.mk h2
  have hl1 : ((l.length : Int) == 0) = false := beq_eq_false_iff_ne.2 (by omega)
  have hwa : wrap64 a = a := by unfold wrap64; omega
  have hwb : wrap64 b = b := by unfold wrap64; omega
  have hwa2 : IntKind.i64.wrap a = a := by rw [i64_w]; exact hwa
  have hwb2 : IntKind.i64.wrap b = b := by rw [i64_w]; exact hwb
  have hne : ¬ l = [] := fun e => by rw [e] at h2; exact absurd h2 (by decide)
  have HT := Aside0.mk ht
  have HS := Aside0.mk hs
  have HR := Aside0.mk hr
  have HC := Aside0.mk hc
  have hu24 := Try.underlying24
  have hu33 := Try.underlying33
  have HA0 := Aside0.mk ha0
  have HA1 := Aside0.mk ha1
  have HB0 := Aside0.mk hb0
  have HB1 := Aside0.mk hb1
  clear h hb ht hs hr hc ha0 ha1 hb0 hb1 h2
  go_enter Try.func4, Try.ntmps4
  go_wp2_with (first | ((with_reducible refine gate_dst (N := 3) rfl ?_); refine box_event ?hg (N := 3) ?hd (cs := #[.slice A l.length c]) (t := 24) ?hr ?_; (case hd => rfl); (case hg => rfl); (case hr => first | (go_simp; done) | (go_simp; rfl)); intro gb hg w4 hbox hb; have HB := Aside0.mk hb; have HGB := Aside0.mk (show w.heap.size ≤ gb from Nat.le_of_eq hg.symm); have BX := Aside0.mk hbox; have hcy0 : w4.cell? ⟨gb, 0, none⟩ = some (.slice A l.length c) := (blk_cell hbox 0).trans rfl; clear hbox hb hg) | (go_at_call 6; (with_reducible refine (davitlaw11_awake.calls k true _ HT.out).mono ?_); rintro e w5 ⟨rfl, hb⟩; have n0_ := Aside0.mk (blk_below BX.out hb); have n1_ := Aside0.mk (below_step HB.out hb); clear BX HB hb hcy0; have BX := n0_; have HB := n1_; clear n0_ n1_; have hcy0 := (blk_cell BX.out 0).trans rfl) | (go_at_call 7; (with_reducible refine (davitref02_Short.calls k A c l true _ (Kd.C_below HR.out HB.out) HC.out HS.out).mono ?_); rintro e w6 ⟨rfl, hb⟩; have n0_ := Aside0.mk (blk_below BX.out hb); have n1_ := Aside0.mk (below_step HB.out hb); clear BX HB hb hcy0; have BX := n0_; have HB := n1_; clear n0_ n1_; have hcy0 := (blk_cell BX.out 0).trans rfl))
  go_quiet (first | (rw [if_neg hne]; exact ⟨rfl, rfl⟩))
  have n0_ := Aside0.mk (show (w6.drewN nq).heap[gb]? = some (.cells #[.slice A l.length c] 24 (0, 0)) from blk_drewN BX.out nq)
  have n1_ := Aside0.mk (pw_below_drewN HB.out nq)
  clear BX HB hcy0
  have BX := n0_
  have HB := n1_
  clear n0_ n1_
  generalize w6.drewN nq = w7 at BX HB ⊢
  have hcy0 := (blk_cell BX.out 0).trans rfl
  go_wp2_with (first | ((with_reducible refine gate_dst (N := 37) rfl ?_); refine Kd.N_lit k33 (w0 := w) w.heap.size 33 ?hg (N' := 37) ?hd (xs := ([] : List S33)) (inner := []) (ok := fun k_ => k_ ≠ gb) (okp := fun _ => False) ?hr ?hp (fun _ hk => hk.elim) ?hf HB.out (below_size HB.out) (by decide) ?_; (case hg => rfl); (case hd => rfl); (case hr => first | (go_simp; done) | (go_simp; rfl)); (case hp => exact Reps.none _ _); (case hf => have := blk_lt BX.out; omega); intro v37 w8 ho hb hgr hat; have HN := Aside0.mk ho; have n0_ := Aside0.mk (blk_grown BX.out hgr (by simp)); have n1_ := Aside0.mk hb; clear BX HB ho hb hgr hat hcy0; have BX := n0_; have HB := n1_; clear n0_ n1_; have hcy0 := (blk_cell BX.out 0).trans rfl) | ((with_reducible refine gate_builtin (b := .append) (xs := #[.tmp 37, .tmp 39]) rfl ?_); at_builtin; refine Kd.N_append_rows k33 (w0 := w) w.heap.size rfl (.tmp 37) (.tmp 39) 22 33 (.agg #[.int .i64 0, .int .i64 0, .slice none 0 0]) 40 rfl Try.underlying22 (by kernel_rfl) rfl (by decide) (by omega) v37 [] l A l.length c (fun k_ => k_ ≠ gb) (fun k_ => k_ < w.heap.size) rfl rfl HN.out ?aR ?aQ ?aF HB.out (below_size HB.out) ?aL ?_; (case aR => exact Kd.F_below (Kd.C_F heap33 HR.out) HB.out); (case aQ => exact (fun k_ hk_ => ⟨(by have := HGB.out; omega), fun e_ => by have := Kd.N_base HN.out k_ e_.symm; omega⟩)); (case aF => exact (fun k_ hk_ => by have := blk_lt BX.out; omega)); (case aL => have := HL.out.1; simp only [List.length_nil]; omega); intro v40 w9 ho hb hgr hat; have ho : Kd.N k33 33 w9 w.heap.size (fun k_ => k_ ≠ gb) v40 l := ho; obtain ⟨gf, cf, rfl, hbf, hlf, _⟩ := Kd.N_form ho HP.out; have HGF := Aside0.mk hbf; have HGL := Aside0.mk hlf; clear hbf hlf; have n2_ := Aside0.mk ho; have n0_ := Aside0.mk (blk_grown BX.out hgr (fun e_ => (HN.out.1 gb e_.symm) rfl)); have n1_ := Aside0.mk hb; clear HN BX HB ho hb hgr hat hcy0; have HN := n2_; have BX := n0_; have HB := n1_; clear n0_ n1_ n2_; have hcy0 := (blk_cell BX.out 0).trans rfl))
  obtain ⟨b10, hb10⟩ : ∃ b10, b10 = w9.heap.size := ⟨_, rfl⟩
  have B10 := Aside0.mk (show (w9.alloc (.cells #[.slice (some ⟨gf, 0, none⟩) l.length cf] 24)).heap[b10]? = some (.cells #[.slice (some ⟨gf, 0, none⟩) l.length cf] 24 (0, 0)) by rw [hb10]; exact blk_new w9 _)
  have n0_ := Aside0.mk (blk_alloc BX.out (.cells #[.slice (some ⟨gf, 0, none⟩) l.length cf] 24))
  have n1_ := Aside0.mk (Kd.N_alloc HN.out (.cells #[.slice (some ⟨gf, 0, none⟩) l.length cf] 24))
  have n2_ := Aside0.mk (below_alloc HB.out (.cells #[.slice (some ⟨gf, 0, none⟩) l.length cf] 24))
  have HGB10 := Aside0.mk (show w.heap.size ≤ b10 by rw [hb10]; exact below_size HB.out)
  clear BX HN HB hcy0
  have BX := n0_
  have HN := n1_
  have HB := n2_
  clear n0_ n1_ n2_
  obtain ⟨wz, hwz⟩ : ∃ wz, w9.alloc (.cells #[.slice (some ⟨gf, 0, none⟩) l.length cf] 24) = wz := ⟨_, rfl⟩
  rw [hwz, ← hb10]
  rw [hwz] at BX HN HB B10
  clear hwz hb10
  have hx : a.tmod (l.length : Int) = ((a.toNat % l.length : Nat) : Int) := by
   have h0 := HA0.out
   rw [Int.tmod_eq_emod_of_nonneg h0, Int.natCast_emod, Int.toNat_of_nonneg h0]
  have hy : b.tmod (l.length : Int) = ((b.toNat % l.length : Nat) : Int) := by
   have h0 := HB0.out
   rw [Int.tmod_eq_emod_of_nonneg h0, Int.natCast_emod, Int.toNat_of_nonneg h0]
  rw [hx, hy]
  have HX := Aside0.mk (Nat.mod_lt a.toNat HP.out)
  have HY := Aside0.mk (Nat.mod_lt b.toNat HP.out)
  generalize a.toNat % l.length = x at HH HX ⊢
  generalize b.toNat % l.length = y at HH HY ⊢
  clear hx hy hwa hwb hwa2 hwb2 HA0 HA1 HB0 HB1
  obtain ⟨_, _, ef, _, _, cellsf, hGFB⟩ := Kd.N_form HN.out HP.out
  injection ef with e1_ e2_ e3_
  injection e1_ with e1_
  injection e1_ with e1_ _ _
  subst e1_
  clear e2_ e3_
  have GFB := Aside0.mk hGFB
  clear hGFB
  obtain ⟨ce, hcl, hFK, hcc, hfr⟩ := Kd.N_elem HN.out z33 (x : Int) (Int.natCast_nonneg x) (by have := HX.out; omega)
  rw [Int.toNat_natCast] at hFK hcc hfr
  obtain ⟨A2, c2, hce, hl2, hF2⟩ := k33_openF hFK
  subst hce
  have hx0 := (blk_cell B10.out 0).trans rfl
  have hx1 : wz.cell? ⟨gf, x * 3 + 2, none⟩ = some (.slice A2 (l.getD x z33).f2.length c2) := hcc 2 _ rfl
  have GFC := Aside0.mk ((blk_cell GFB.out (x * 3 + 2)).symm.trans hx1)
  have GFA := Aside0.mk (show ∀ (j : Nat) (u : Value), ([.int .i64 (l.getD x z33).f0, .int .i64 (l.getD x z33).f1, .slice A2 (l.getD x z33).f2.length c2] : List Value)[j]? = some u → cellsf[x * 3 + j]? = some u from fun j u hu => (blk_cell GFB.out (x * 3 + j)).symm.trans (hcc j u hu))
  have p8 : (0 : Int) ≤ (x : Int) := Int.natCast_nonneg x
  have q8 : (x : Int) < (l.length : Int) := by have := HX.out; omega
  replace p8 := eq_true p8
  replace q8 := eq_true q8
  refine start_ (n := 20) (S := fun w' => w'.cell? ⟨b10, 0, none⟩ = some (.slice (some ⟨gf, 0, none⟩) l.length cf) ∧ w'.cell? ⟨gf, x * 3 + 2, none⟩ = some (.slice A2 (l.getD x z33).f2.length c2)) (ds := [19]) #[false, false, false, false, false, false, false, false, false, false, false, false, false, false, false, false, false, false, false, false] (by kernel_rfl) rfl rfl ⟨hx0, hx1⟩ (fun hHeld => ?_); refine with_tabW more.tab8 more.bits8 (fun HT_ HW_ => ?_)
  refine pure_ (i := 0) (N := some 42) (v := ?_) (a' := ?_) #[true, false, false, false, false, false, false, false, false, false, false, false, false, false, false, false, false, false, false, false] rfl rfl (any_of HT_.out (by kernel_rfl)) (fun _ _ _ h => h) (Or.inl ⟨by rfl, ?_⟩) ?_ ?_
  rotate_left
  ·intro w'
   go_simp
   with_reducible rfl
  rotate_left
  ·simp only [Act.put, List.setIfInBounds_toArray, List.set_cons_zero, List.set_cons_succ, i64_w, i32_w]
   rfl
  refine take_ (i := 1) (N := some 43) (v := ?_) (a' := ?_) #[true, true, false, false, false, false, false, false, false, false, false, false, false, false, false, false, false, false, false, false] rfl rfl (take_ofW HT_.out HW_.out (by kernel_rfl)) (fun _ _ _ h => h) (Or.inl ⟨by rfl, ?_⟩) hHeld ?_ ?_
  rotate_left
  ·rintro w' ⟨s0, s1⟩
   go_simp
   with_reducible rfl
  rotate_left
  ·simp only [Act.put, List.setIfInBounds_toArray, List.set_cons_zero, List.set_cons_succ, i64_w, i32_w]
   rfl
  refine pure_ (i := 2) (N := some 44) (v := ?_) (a' := ?_) #[true, true, true, false, false, false, false, false, false, false, false, false, false, false, false, false, false, false, false, false] rfl rfl (any_of HT_.out (by kernel_rfl)) (fun _ _ _ h => h) (Or.inl ⟨by rfl, ?_⟩) ?_ ?_
  rotate_left
  ·intro w'
   go_simp
   with_reducible rfl
  rotate_left
  ·simp only [Act.put, List.setIfInBounds_toArray, List.set_cons_zero, List.set_cons_succ, i64_w, i32_w]
   rfl
  refine pure_ (i := 4) (N := some 46) (v := ?_) (a' := ?_) #[true, true, true, false, true, false, false, false, false, false, false, false, false, false, false, false, false, false, false, false] rfl rfl (any_of HT_.out (by kernel_rfl)) (fun _ _ _ h => h) (Or.inl ⟨by rfl, ?_⟩) ?_ ?_
  rotate_left
  ·intro w'
   go_simp
   with_reducible rfl
  rotate_left
  ·simp only [Act.put, List.setIfInBounds_toArray, List.set_cons_zero, List.set_cons_succ, i64_w, i32_w]
   rfl
  refine take_ (i := 5) (N := some 47) (v := ?_) (a' := ?_) #[true, true, true, false, true, true, false, false, false, false, false, false, false, false, false, false, false, false, false, false] rfl rfl (take_ofW HT_.out HW_.out (by kernel_rfl)) (fun _ _ _ h => h) (Or.inl ⟨by rfl, ?_⟩) hHeld ?_ ?_
  rotate_left
  ·rintro w' ⟨s0, s1⟩
   go_simp
   with_reducible rfl
  rotate_left
  ·simp only [Act.put, List.setIfInBounds_toArray, List.set_cons_zero, List.set_cons_succ, i64_w, i32_w]
   rfl
  refine pure_ (i := 6) (N := some 48) (v := ?_) (a' := ?_) #[true, true, true, false, true, true, true, false, false, false, false, false, false, false, false, false, false, false, false, false] rfl rfl (any_of HT_.out (by kernel_rfl)) (fun _ _ _ h => h) (Or.inl ⟨by rfl, ?_⟩) ?_ ?_
  rotate_left
  ·intro w'
   go_simp
   with_reducible rfl
  rotate_left
  ·simp only [Act.put, List.setIfInBounds_toArray, List.set_cons_zero, List.set_cons_succ, i64_w, i32_w]
   rfl
  refine pure_ (i := 7) (N := some 49) (v := ?_) (a' := ?_) #[true, true, true, false, true, true, true, true, false, false, false, false, false, false, false, false, false, false, false, false] rfl rfl (any_of HT_.out (by kernel_rfl)) (fun _ _ _ h => h) (Or.inl ⟨by rfl, ?_⟩) ?_ ?_
  rotate_left
  ·intro w'
   go_simp
   with_reducible rfl
  rotate_left
  ·simp only [Act.put, List.setIfInBounds_toArray, List.set_cons_zero, List.set_cons_succ, i64_w, i32_w]
   rfl
  refine pure_ (i := 8) (N := some 50) (v := ?_) (a' := ?_) #[true, true, true, false, true, true, true, true, true, false, false, false, false, false, false, false, false, false, false, false] rfl rfl (any_of HT_.out (by kernel_rfl)) (fun _ _ _ h => h) (Or.inl ⟨by rfl, ?_⟩) ?_ ?_
  rotate_left
  ·intro w'
   go_simp
   with_reducible rfl
  rotate_left
  ·simp only [Act.put, List.setIfInBounds_toArray, List.set_cons_zero, List.set_cons_succ, i64_w, i32_w]
   rfl
  refine take_ (i := 9) (N := some 51) (v := ?_) (a' := ?_) #[true, true, true, false, true, true, true, true, true, true, false, false, false, false, false, false, false, false, false, false] rfl rfl (take_ofW HT_.out HW_.out (by kernel_rfl)) (fun _ _ _ h => h) (Or.inl ⟨by rfl, ?_⟩) hHeld ?_ ?_
  rotate_left
  ·rintro w' ⟨s0, s1⟩
   go_simp
   with_reducible rfl
  rotate_left
  ·simp only [Act.put, List.setIfInBounds_toArray, List.set_cons_zero, List.set_cons_succ, i64_w, i32_w]
   rfl
  refine pure_ (i := 11) (N := some 53) (v := ?_) (a' := ?_) #[true, true, true, false, true, true, true, true, true, true, false, true, false, false, false, false, false, false, false, false] rfl rfl (any_of HT_.out (by kernel_rfl)) (fun _ _ _ h => h) (Or.inl ⟨by rfl, ?_⟩) ?_ ?_
  rotate_left
  ·intro w'
   go_simp
   with_reducible rfl
  rotate_left
  ·simp only [Act.put, List.setIfInBounds_toArray, List.set_cons_zero, List.set_cons_succ, i64_w, i32_w]
   rfl
  refine pure_ (i := 12) (N := some 54) (v := ?_) (a' := ?_) #[true, true, true, false, true, true, true, true, true, true, false, true, true, false, false, false, false, false, false, false] rfl rfl (any_of HT_.out (by kernel_rfl)) (fun _ _ _ h => h) (Or.inl ⟨by rfl, ?_⟩) ?_ ?_
  rotate_left
  ·intro w'
   go_simp
   with_reducible rfl
  rotate_left
  ·simp only [Act.put, List.setIfInBounds_toArray, List.set_cons_zero, List.set_cons_succ, i64_w, i32_w]
   rfl
  have n0_ := Aside0.mk (blk_drew BX.out)
  have n1_ := Aside0.mk (blk_drew B10.out)
  have n2_ := Aside0.mk (blk_drew GFB.out)
  have n3_ := Aside0.mk (below_drew HB.out)
  have n4_ := Aside0.mk (Kd.N_bound (Kd.N_drew HN.out))
  have n5_ := Aside0.mk (Kd.F_bound (Kd.F_drew hF2))
  clear BX B10 GFB HB HN hF2 hx0 hx1 hcc hfr hFK
  have BX := n0_
  have B10 := n1_
  have GFB := n2_
  have HB := n3_
  have HN := n4_
  have HF2 := n5_
  clear n0_ n1_ n2_ n3_ n4_ n5_
  generalize wz.drew = wy at BX B10 GFB HB HN HF2 hHeld ⊢
  obtain ⟨n0, hn0⟩ : ∃ n0, n0 = wy.heap.size := ⟨_, rfl⟩
  rw [← hn0] at HN HF2
  have N0 := Aside0.mk (Nat.le_of_eq hn0)
  clear hn0
  refine join_ (σ := Value × Value × Option Addr × Nat × Option Addr × Nat) 4 #[true, true, true, true, true, true, true, true, true, true, true, true, true, true, true, true, false, false, false, false] (fun s_ => [(45, s_.1), (52, s_.2.1), (55, .slice s_.2.2.1 1 s_.2.2.2.1), (56, .agg #[.bool false, .int .i64 0, .slice none 0 0, .bool false, .bool false, .slice s_.2.2.1 1 s_.2.2.2.1, .int .i64 0, .int .i64 0, .int .i64 0, .int .i64 0, .slice none 0 0, .int .i64 0, .int .i64 0, .int .i64 0]), (57, .slice s_.2.2.2.2.1 1 s_.2.2.2.2.2)]) (fun s_ w' => w'.heap[gb]? = some (.cells #[.slice A l.length c] 24 (0, 0)) ∧ w'.heap[b10]? = some (.cells #[.slice (some ⟨gf, 0, none⟩) l.length cf] 24 (0, 0)) ∧ w'.heap[gf]? = some (.cells cellsf 33 (0, 0)) ∧ Below w.heap.size w w' ∧ Kd.N k33 33 w' w.heap.size (fun k_ => k_ ≠ gb ∧ k_ < n0) (.slice (some ⟨gf, 0, none⟩) l.length cf) l ∧ n0 ≤ w'.heap.size ∧ Kd.N k44 44 w' w.heap.size (fun k_ => (k_ ≠ gb ∧ k_ ≠ gf)) s_.2.1 (l.getD x z33).f2 ∧ Kd.N k44 44 w' w.heap.size (fun k_ => (k_ ≠ gb ∧ k_ ≠ gf) ∧ some k_ ≠ s_.2.1.ownBlock) (.slice s_.2.2.2.2.1 1 s_.2.2.2.2.2) [nb (y : Int)] ∧ ∀ k_, s_.2.1.ownBlock = some k_ → n0 ≤ k_) ?_ ?_
  rotate_left
  ·intro hCont
   refine two_ (i := 3) (j := 13) (Ni := some 45) (Nj := some 55) #[true, true, true, true, true, true, true, true, true, true, false, true, true, false, false, false, false, false, false, false] #[true, true, true, false, true, true, true, true, true, true, false, true, true, true, false, false, false, false, false, false] rfl rfl rfl rfl (two_of HT_.out (by kernel_rfl)) (by decide) (by decide) (fun K hK => ?_) (fun K hK => ?_)
   ·skip
    refine Kd.N_lit_step k44 (w0 := w) w.heap.size 44 (by rfl) (N' := 45) rfl (xs := ([] : List S44)) (inner := []) (ok := fun k_ => (k_ ≠ gb ∧ k_ ≠ gf)) (okp := fun _ => False) ?hr (Reps.none _ _) (fun _ hk => hk.elim) ?hf HB.out (below_size HB.out) (by decide) ?_
    (case hr => first | (go_simp; done) | (go_simp; rfl))
    (case hf => have h1_ := blk_lt BX.out; have h2_ := blk_lt GFB.out; omega)
    intro v45 w45 ho hb hg hat
    have n0_ := Aside0.mk (blk_grown BX.out hg (by simp))
    have n1_ := Aside0.mk (blk_grown B10.out hg (by simp))
    have n2_ := Aside0.mk (blk_grown GFB.out hg (by simp))
    have n3_ := Aside0.mk (hb)
    have n4_ := Aside0.mk (Kd.N_grown HN.out hg (by simp))
    have n5_ := Aside0.mk (Nat.le_trans N0.out hg.size)
    have n6_ := Aside0.mk (Kd.F_grown HF2.out hg (by simp))
    have mH45_ := Aside0.mk (ho)
    have mA45_ := Aside0.mk (show ∀ k_, v45.ownBlock = some k_ → n0 ≤ k_ from fun k_ hk_ => by obtain ⟨b_, h1_, h2_⟩ := hat; rw [h1_] at hk_; injection hk_ with hk_; have := N0.out; omega)
    clear BX B10 GFB HB HN N0 HF2
    have BX := n0_
    have B10 := n1_
    have GFB := n2_
    have HB := n3_
    have HN := n4_
    have N0 := n5_
    have HF2 := n6_
    have H45 := mH45_
    have A45 := mA45_
    clear hg hb ho hat n0_ n1_ n2_ n3_ n4_ n5_ n6_ mH45_ mA45_
    refine hK.out _ _ ⟨(blk_cell B10.out 0).trans rfl, (blk_cell GFB.out _).trans GFC.out⟩ (fun hHeld => ?_)
    clear hK K
    refine norm_ (a' := ?_) ?_ ?_
    rotate_left
    ·show Act.put _ (some 45) _ = _
     simp only [Act.put, List.setIfInBounds_toArray, List.set_cons_zero, List.set_cons_succ, i64_w, i32_w]
     rfl
    refine two_ (i := 10) (j := 13) (Ni := some 52) (Nj := some 55) #[true, true, true, true, true, true, true, true, true, true, true, true, true, false, false, false, false, false, false, false] #[true, true, true, true, true, true, true, true, true, true, false, true, true, true, false, false, false, false, false, false] rfl rfl rfl rfl (two_of HT_.out (by kernel_rfl)) (by decide) (by decide) (fun K hK => ?_) (fun K hK => ?_)
    ·skip
     refine Kd.N_append_rows_step k44 (w0 := w) w.heap.size (by rfl) (.tmp 45) (.tmp 51) 31 44 (.agg #[.bool false, .int .i64 0, .slice none 0 0, .bool false, .bool false, .slice none 0 0, .int .i64 0, .int .i64 0, .int .i64 0, .int .i64 0, .slice none 0 0, .int .i64 0, .int .i64 0, .int .i64 0]) 152 rfl Try.underlying31 (by kernel_rfl) rfl (by decide) (by omega) v45 [] (l.getD x z33).f2 A2 (l.getD x z33).f2.length c2 (fun k_ => (k_ ≠ gb ∧ k_ ≠ gf)) (fun k_ => (k_ ≠ gb ∧ k_ ≠ gf) ∧ k_ < n0) rfl rfl H45.out HF2.out ?aQ ?aF HB.out (below_size HB.out) ?aL ?_
     (case aQ => exact (fun k_ hk_ => ⟨hk_.1, fun e_ => by have := A45.out k_ e_.symm; omega⟩))
     (case aF => exact (fun k_ hk_ => by have := blk_lt BX.out; have := blk_lt GFB.out; omega))
     (case aL => have h1_ := HL.out.2 (l.getD x z33) (by have := HX.out; rw [List.getD_eq_getElem?_getD, List.getElem?_eq_getElem this]; exact List.getElem_mem this); simp only [List.length_nil]; omega)
     intro v52 w52 ho hb hg hat
     have ho : Kd.N k44 44 w52 w.heap.size (fun k_ => (k_ ≠ gb ∧ k_ ≠ gf)) v52 (l.getD x z33).f2 := ho
     have n0_ := Aside0.mk (blk_grown BX.out hg (Kd.N_ne H45.out BX.out (by decide)))
     have n1_ := Aside0.mk (blk_grown B10.out hg (Kd.N_ne H45.out B10.out (by decide)))
     have n2_ := Aside0.mk (blk_grown GFB.out hg (Kd.N_ne H45.out GFB.out (by decide)))
     have n3_ := Aside0.mk (hb)
     have n4_ := Aside0.mk (Kd.N_grown HN.out hg (fun k_ hk_ e_ => by have := A45.out k_ e_.symm; omega))
     have n5_ := Aside0.mk (Nat.le_trans N0.out hg.size)
     have mH52_ := Aside0.mk (ho)
     have mA52_ := Aside0.mk (show ∀ k_, v52.ownBlock = some k_ → n0 ≤ k_ from fun k_ hk_ => by (rcases hat with h1_ | h1_; (exact A45.out k_ (h1_.symm.trans hk_)); (obtain ⟨b_, h1_, h2_⟩ := h1_; rw [h1_] at hk_; injection hk_ with hk_; have := N0.out; omega)))
     clear BX B10 GFB HB HN N0 H45 A45 HF2
     have BX := n0_
     have B10 := n1_
     have GFB := n2_
     have HB := n3_
     have HN := n4_
     have N0 := n5_
     have H52 := mH52_
     have A52 := mA52_
     clear hg hb ho hat n0_ n1_ n2_ n3_ n4_ n5_ mH52_ mA52_
     refine hK.out _ _ ⟨(blk_cell B10.out 0).trans rfl, (blk_cell GFB.out _).trans GFC.out⟩ (fun hHeld => ?_)
     clear hK K
     refine norm_ (a' := ?_) ?_ ?_
     rotate_left
     ·show Act.put _ (some 52) _ = _
      simp only [Act.put, List.setIfInBounds_toArray, List.set_cons_zero, List.set_cons_succ, i64_w, i32_w]
      rfl
     refine one_ (i := 13) (N := some 55) #[true, true, true, true, true, true, true, true, true, true, true, true, true, true, false, false, false, false, false, false] rfl rfl (one_of HT_.out (by kernel_rfl)) (by decide) (fun K hK => ?_)
     refine Kd.N_lit_step k36 (w0 := w) w.heap.size 36 (by rfl) (N' := 55) rfl (xs := [(⟨11, 0, 0, 0, 0, (y : Int), ([] : List Int)⟩ : S36)]) (inner := [.int .i64 11, .int .i64 0, .int .i64 0, .int .i64 0, .int .u16 0, .int .i64 (y : Int), .slice none 0 0]) (ok := fun k_ => (k_ ≠ gb ∧ k_ ≠ gf) ∧ some k_ ≠ v52.ownBlock) (okp := fun k_ => (k_ ≠ gb ∧ k_ ≠ gf) ∧ some k_ ≠ v52.ownBlock) ?hr ?hp (fun _ hk => hk) ?hf HB.out (below_size HB.out) (show 1 ≤ 9223372036854775807 by omega) ?_
     (case hr => first | (go_simp; done) | (go_simp; rfl))
     (case hp => exact Reps.c7 (show Kd.FK k36 _ _ (⟨11, 0, 0, 0, 0, (y : Int), ([] : List Int)⟩ : S36) [.int .i64 11, .int .i64 0, .int .i64 0, .int .i64 0, .int .u16 0, .int .i64 (y : Int), .slice none 0 0] from (k36_mkF _ _ (⟨11, 0, 0, 0, 0, (y : Int), ([] : List Int)⟩ : S36) (Nat.le_refl _) (Kd.F_nil _ _ _))) (Reps.none _ _))
     (case hf => have h1_ := blk_lt BX.out; have h2_ := blk_lt GFB.out; exact ⟨by omega, fun e_ => by have := Kd.N_lt H52.out _ e_.symm; omega⟩)
     intro v55 w55 ho hb hg hat
     have n0_ := Aside0.mk (blk_grown BX.out hg (by simp))
     have n1_ := Aside0.mk (blk_grown B10.out hg (by simp))
     have n2_ := Aside0.mk (blk_grown GFB.out hg (by simp))
     have n3_ := Aside0.mk (hb)
     have n4_ := Aside0.mk (Kd.N_grown HN.out hg (by simp))
     have n5_ := Aside0.mk (Nat.le_trans N0.out hg.size)
     have n6_ := Aside0.mk (Kd.N_grown H52.out hg (by simp))
     have mH55_ := Aside0.mk (ho)
     clear BX B10 GFB HB HN N0 H52
     have BX := n0_
     have B10 := n1_
     have GFB := n2_
     have HB := n3_
     have HN := n4_
     have N0 := n5_
     have H52 := n6_
     have H55 := mH55_
     clear hg hb ho hat n0_ n1_ n2_ n3_ n4_ n5_ n6_ mH55_
     obtain ⟨A55, c55, e_⟩ := Kd.N_slice H55.out
     subst e_
     refine hK.out _ _ ⟨(blk_cell B10.out 0).trans rfl, (blk_cell GFB.out _).trans GFC.out⟩ (fun hHeld => ?_)
     clear hK K
     refine norm_ (a' := ?_) ?_ ?_
     rotate_left
     ·show Act.put _ (some 55) _ = _
      simp only [Act.put, List.setIfInBounds_toArray, List.set_cons_zero, List.set_cons_succ, i64_w, i32_w]
      rfl
     refine pure_ (i := 14) (N := some 56) (v := ?_) (a' := ?_) #[true, true, true, true, true, true, true, true, true, true, true, true, true, true, true, false, false, false, false, false] rfl rfl (any_of HT_.out (by kernel_rfl)) (fun _ _ _ h => h) (Or.inl ⟨by rfl, ?_⟩) ?_ ?_
     rotate_left
     ·intro w'
      go_simp
      with_reducible rfl
     rotate_left
     ·simp only [Act.put, List.setIfInBounds_toArray, List.set_cons_zero, List.set_cons_succ, i64_w, i32_w]
      rfl
     refine one_ (i := 15) (N := some 57) #[true, true, true, true, true, true, true, true, true, true, true, true, true, true, true, true, false, false, false, false] rfl rfl (one_of HT_.out (by kernel_rfl)) (by decide) (fun K hK => ?_)
     refine Kd.N_lit_step k44 (w0 := w) w.heap.size 44 (by rfl) (N' := 57) rfl (xs := [nb (y : Int)]) (inner := [.bool false, .int .i64 0, .slice none 0 0, .bool false, .bool false, .slice A55 1 c55, .int .i64 0, .int .i64 0, .int .i64 0, .int .i64 0, .slice none 0 0, .int .i64 0, .int .i64 0, .int .i64 0]) (ok := fun k_ => (k_ ≠ gb ∧ k_ ≠ gf) ∧ some k_ ≠ v52.ownBlock) (okp := fun k_ => (k_ ≠ gb ∧ k_ ≠ gf) ∧ some k_ ≠ v52.ownBlock) ?hr ?hp (fun _ hk => hk) ?hf HB.out (below_size HB.out) (show 1 ≤ 9223372036854775807 by omega) ?_
     (case hr => first | (go_simp; done) | (go_simp; rfl))
     (case hp => exact Reps.front (show Kd.FK k44 _ _ (nb (y : Int)) [.bool false, .int .i64 0, .slice none 0 0, .bool false, .bool false, .slice A55 1 c55, .int .i64 0, .int .i64 0, .int .i64 0, .int .i64 0, .slice none 0 0, .int .i64 0, .int .i64 0, .int .i64 0] from (k44_mkF _ _ (nb (y : Int)) (Nat.le_refl _) (Kd.F_nil _ _ _) (Kd.N_reads' H55.out).2.1 (Kd.N_F H55.out) (Nat.le_refl _) (Kd.F_nil _ _ _))) rfl (Reps.none _ _) rfl)
     (case hf => have h1_ := blk_lt BX.out; have h2_ := blk_lt GFB.out; exact ⟨by omega, fun e_ => by have := Kd.N_lt H52.out _ e_.symm; omega⟩)
     intro v57 w57 ho hb hg hat
     have n0_ := Aside0.mk (blk_grown BX.out hg (by simp))
     have n1_ := Aside0.mk (blk_grown B10.out hg (by simp))
     have n2_ := Aside0.mk (blk_grown GFB.out hg (by simp))
     have n3_ := Aside0.mk (hb)
     have n4_ := Aside0.mk (Kd.N_grown HN.out hg (by simp))
     have n5_ := Aside0.mk (Nat.le_trans N0.out hg.size)
     have n6_ := Aside0.mk (Kd.N_grown H52.out hg (by simp))
     have n7_ := Aside0.mk (Kd.N_grown H55.out hg (by simp))
     have mH57_ := Aside0.mk (ho)
     clear BX B10 GFB HB HN N0 H52 H55
     have BX := n0_
     have B10 := n1_
     have GFB := n2_
     have HB := n3_
     have HN := n4_
     have N0 := n5_
     have H52 := n6_
     have H55 := n7_
     have H57 := mH57_
     clear hg hb ho hat n0_ n1_ n2_ n3_ n4_ n5_ n6_ n7_ mH57_
     obtain ⟨A57, c57, e_⟩ := Kd.N_slice H57.out
     subst e_
     refine hK.out _ _ ⟨(blk_cell B10.out 0).trans rfl, (blk_cell GFB.out _).trans GFC.out⟩ (fun hHeld => ?_)
     clear hK K
     refine norm_ (a' := ?_) ?_ ?_
     rotate_left
     ·show Act.put _ (some 57) _ = _
      simp only [Act.put, List.setIfInBounds_toArray, List.set_cons_zero, List.set_cons_succ, i64_w, i32_w]
      rfl
     exact norm_ (by simp only [putAll, Act.put, List.setIfInBounds_toArray, List.set_cons_zero, List.set_cons_succ]; rfl) (hCont (v45, v52, A55, c55, A57, c57) _ ⟨BX.out, B10.out, GFB.out, HB.out, HN.out, N0.out, H52.out, H57.out, A52.out⟩)
    ·skip
     refine Kd.N_lit_step k36 (w0 := w) w.heap.size 36 (by rfl) (N' := 55) rfl (xs := [(⟨11, 0, 0, 0, 0, (y : Int), ([] : List Int)⟩ : S36)]) (inner := [.int .i64 11, .int .i64 0, .int .i64 0, .int .i64 0, .int .u16 0, .int .i64 (y : Int), .slice none 0 0]) (ok := fun k_ => (k_ ≠ gb ∧ k_ ≠ gf) ∧ some k_ ≠ v45.ownBlock) (okp := fun k_ => (k_ ≠ gb ∧ k_ ≠ gf) ∧ some k_ ≠ v45.ownBlock) ?hr ?hp (fun _ hk => hk) ?hf HB.out (below_size HB.out) (show 1 ≤ 9223372036854775807 by omega) ?_
     (case hr => first | (go_simp; done) | (go_simp; rfl))
     (case hp => exact Reps.c7 (show Kd.FK k36 _ _ (⟨11, 0, 0, 0, 0, (y : Int), ([] : List Int)⟩ : S36) [.int .i64 11, .int .i64 0, .int .i64 0, .int .i64 0, .int .u16 0, .int .i64 (y : Int), .slice none 0 0] from (k36_mkF _ _ (⟨11, 0, 0, 0, 0, (y : Int), ([] : List Int)⟩ : S36) (Nat.le_refl _) (Kd.F_nil _ _ _))) (Reps.none _ _))
     (case hf => have h1_ := blk_lt BX.out; have h2_ := blk_lt GFB.out; exact ⟨by omega, fun e_ => by have := Kd.N_lt H45.out _ e_.symm; omega⟩)
     intro v55 w55 ho hb hg hat
     have n0_ := Aside0.mk (blk_grown BX.out hg (by simp))
     have n1_ := Aside0.mk (blk_grown B10.out hg (by simp))
     have n2_ := Aside0.mk (blk_grown GFB.out hg (by simp))
     have n3_ := Aside0.mk (hb)
     have n4_ := Aside0.mk (Kd.N_grown HN.out hg (by simp))
     have n5_ := Aside0.mk (Nat.le_trans N0.out hg.size)
     have n6_ := Aside0.mk (Kd.F_grown HF2.out hg (by simp))
     have n7_ := Aside0.mk (Kd.N_grown H45.out hg (by simp))
     have mH55_ := Aside0.mk (ho)
     clear BX B10 GFB HB HN N0 HF2 H45
     have BX := n0_
     have B10 := n1_
     have GFB := n2_
     have HB := n3_
     have HN := n4_
     have N0 := n5_
     have HF2 := n6_
     have H45 := n7_
     have H55 := mH55_
     clear hg hb ho hat n0_ n1_ n2_ n3_ n4_ n5_ n6_ n7_ mH55_
     obtain ⟨A55, c55, e_⟩ := Kd.N_slice H55.out
     subst e_
     refine hK.out _ _ ⟨(blk_cell B10.out 0).trans rfl, (blk_cell GFB.out _).trans GFC.out⟩ (fun hHeld => ?_)
     clear hK K
     refine norm_ (a' := ?_) ?_ ?_
     rotate_left
     ·show Act.put _ (some 55) _ = _
      simp only [Act.put, List.setIfInBounds_toArray, List.set_cons_zero, List.set_cons_succ, i64_w, i32_w]
      rfl
     refine pure_ (i := 14) (N := some 56) (v := ?_) (a' := ?_) #[true, true, true, true, true, true, true, true, true, true, false, true, true, true, true, false, false, false, false, false] rfl rfl (any_of HT_.out (by kernel_rfl)) (fun _ _ _ h => h) (Or.inl ⟨by rfl, ?_⟩) ?_ ?_
     rotate_left
     ·intro w'
      go_simp
      with_reducible rfl
     rotate_left
     ·simp only [Act.put, List.setIfInBounds_toArray, List.set_cons_zero, List.set_cons_succ, i64_w, i32_w]
      rfl
     refine two_ (i := 10) (j := 15) (Ni := some 52) (Nj := some 57) #[true, true, true, true, true, true, true, true, true, true, true, true, true, true, true, false, false, false, false, false] #[true, true, true, true, true, true, true, true, true, true, false, true, true, true, true, true, false, false, false, false] rfl rfl rfl rfl (two_of HT_.out (by kernel_rfl)) (by decide) (by decide) (fun K hK => ?_) (fun K hK => ?_)
     ·skip
      refine Kd.N_append_rows_step k44 (w0 := w) w.heap.size (by rfl) (.tmp 45) (.tmp 51) 31 44 (.agg #[.bool false, .int .i64 0, .slice none 0 0, .bool false, .bool false, .slice none 0 0, .int .i64 0, .int .i64 0, .int .i64 0, .int .i64 0, .slice none 0 0, .int .i64 0, .int .i64 0, .int .i64 0]) 152 rfl Try.underlying31 (by kernel_rfl) rfl (by decide) (by omega) v45 [] (l.getD x z33).f2 A2 (l.getD x z33).f2.length c2 (fun k_ => (k_ ≠ gb ∧ k_ ≠ gf)) (fun k_ => (k_ ≠ gb ∧ k_ ≠ gf) ∧ k_ < n0) rfl rfl H45.out HF2.out ?aQ ?aF HB.out (below_size HB.out) ?aL ?_
      (case aQ => exact (fun k_ hk_ => ⟨hk_.1, fun e_ => by have := A45.out k_ e_.symm; omega⟩))
      (case aF => exact (fun k_ hk_ => by have := blk_lt BX.out; have := blk_lt GFB.out; omega))
      (case aL => have h1_ := HL.out.2 (l.getD x z33) (by have := HX.out; rw [List.getD_eq_getElem?_getD, List.getElem?_eq_getElem this]; exact List.getElem_mem this); simp only [List.length_nil]; omega)
      intro v52 w52 ho hb hg hat
      have ho : Kd.N k44 44 w52 w.heap.size (fun k_ => (k_ ≠ gb ∧ k_ ≠ gf)) v52 (l.getD x z33).f2 := ho
      have n0_ := Aside0.mk (blk_grown BX.out hg (Kd.N_ne H45.out BX.out (by decide)))
      have n1_ := Aside0.mk (blk_grown B10.out hg (Kd.N_ne H45.out B10.out (by decide)))
      have n2_ := Aside0.mk (blk_grown GFB.out hg (Kd.N_ne H45.out GFB.out (by decide)))
      have n3_ := Aside0.mk (hb)
      have n4_ := Aside0.mk (Kd.N_grown HN.out hg (fun k_ hk_ e_ => by have := A45.out k_ e_.symm; omega))
      have n5_ := Aside0.mk (Nat.le_trans N0.out hg.size)
      have n6_ := Aside0.mk (Kd.N_after H55.out hg hat)
      have mH52_ := Aside0.mk (ho)
      have mA52_ := Aside0.mk (show ∀ k_, v52.ownBlock = some k_ → n0 ≤ k_ from fun k_ hk_ => by (rcases hat with h1_ | h1_; (exact A45.out k_ (h1_.symm.trans hk_)); (obtain ⟨b_, h1_, h2_⟩ := h1_; rw [h1_] at hk_; injection hk_ with hk_; have := N0.out; omega)))
      clear BX B10 GFB HB HN N0 H55 H45 A45 HF2
      have BX := n0_
      have B10 := n1_
      have GFB := n2_
      have HB := n3_
      have HN := n4_
      have N0 := n5_
      have H55 := n6_
      have H52 := mH52_
      have A52 := mA52_
      clear hg hb ho hat n0_ n1_ n2_ n3_ n4_ n5_ n6_ mH52_ mA52_
      refine hK.out _ _ ⟨(blk_cell B10.out 0).trans rfl, (blk_cell GFB.out _).trans GFC.out⟩ (fun hHeld => ?_)
      clear hK K
      refine norm_ (a' := ?_) ?_ ?_
      rotate_left
      ·show Act.put _ (some 52) _ = _
       simp only [Act.put, List.setIfInBounds_toArray, List.set_cons_zero, List.set_cons_succ, i64_w, i32_w]
       rfl
      refine one_ (i := 15) (N := some 57) #[true, true, true, true, true, true, true, true, true, true, true, true, true, true, true, true, false, false, false, false] rfl rfl (one_of HT_.out (by kernel_rfl)) (by decide) (fun K hK => ?_)
      refine Kd.N_lit_step k44 (w0 := w) w.heap.size 44 (by rfl) (N' := 57) rfl (xs := [nb (y : Int)]) (inner := [.bool false, .int .i64 0, .slice none 0 0, .bool false, .bool false, .slice A55 1 c55, .int .i64 0, .int .i64 0, .int .i64 0, .int .i64 0, .slice none 0 0, .int .i64 0, .int .i64 0, .int .i64 0]) (ok := fun k_ => (k_ ≠ gb ∧ k_ ≠ gf) ∧ some k_ ≠ v52.ownBlock) (okp := fun k_ => (k_ ≠ gb ∧ k_ ≠ gf) ∧ some k_ ≠ v52.ownBlock) ?hr ?hp (fun _ hk => hk) ?hf HB.out (below_size HB.out) (show 1 ≤ 9223372036854775807 by omega) ?_
      (case hr => first | (go_simp; done) | (go_simp; rfl))
      (case hp => exact Reps.front (show Kd.FK k44 _ _ (nb (y : Int)) [.bool false, .int .i64 0, .slice none 0 0, .bool false, .bool false, .slice A55 1 c55, .int .i64 0, .int .i64 0, .int .i64 0, .int .i64 0, .slice none 0 0, .int .i64 0, .int .i64 0, .int .i64 0] from (k44_mkF _ _ (nb (y : Int)) (Nat.le_refl _) (Kd.F_nil _ _ _) (Kd.N_reads' H55.out).2.1 (Kd.N_F H55.out) (Nat.le_refl _) (Kd.F_nil _ _ _))) rfl (Reps.none _ _) rfl)
      (case hf => have h1_ := blk_lt BX.out; have h2_ := blk_lt GFB.out; exact ⟨by omega, fun e_ => by have := Kd.N_lt H52.out _ e_.symm; omega⟩)
      intro v57 w57 ho hb hg hat
      have n0_ := Aside0.mk (blk_grown BX.out hg (by simp))
      have n1_ := Aside0.mk (blk_grown B10.out hg (by simp))
      have n2_ := Aside0.mk (blk_grown GFB.out hg (by simp))
      have n3_ := Aside0.mk (hb)
      have n4_ := Aside0.mk (Kd.N_grown HN.out hg (by simp))
      have n5_ := Aside0.mk (Nat.le_trans N0.out hg.size)
      have n6_ := Aside0.mk (Kd.N_grown H52.out hg (by simp))
      have n7_ := Aside0.mk (Kd.N_grown H55.out hg (by simp))
      have mH57_ := Aside0.mk (ho)
      clear BX B10 GFB HB HN N0 H52 H55
      have BX := n0_
      have B10 := n1_
      have GFB := n2_
      have HB := n3_
      have HN := n4_
      have N0 := n5_
      have H52 := n6_
      have H55 := n7_
      have H57 := mH57_
      clear hg hb ho hat n0_ n1_ n2_ n3_ n4_ n5_ n6_ n7_ mH57_
      obtain ⟨A57, c57, e_⟩ := Kd.N_slice H57.out
      subst e_
      refine hK.out _ _ ⟨(blk_cell B10.out 0).trans rfl, (blk_cell GFB.out _).trans GFC.out⟩ (fun hHeld => ?_)
      clear hK K
      refine norm_ (a' := ?_) ?_ ?_
      rotate_left
      ·show Act.put _ (some 57) _ = _
       simp only [Act.put, List.setIfInBounds_toArray, List.set_cons_zero, List.set_cons_succ, i64_w, i32_w]
       rfl
      exact norm_ (by simp only [putAll, Act.put, List.setIfInBounds_toArray, List.set_cons_zero, List.set_cons_succ]; rfl) (hCont (v45, v52, A55, c55, A57, c57) _ ⟨BX.out, B10.out, GFB.out, HB.out, HN.out, N0.out, H52.out, H57.out, A52.out⟩)
     ·skip
      refine Kd.N_lit_step k44 (w0 := w) w.heap.size 44 (by rfl) (N' := 57) rfl (xs := [nb (y : Int)]) (inner := [.bool false, .int .i64 0, .slice none 0 0, .bool false, .bool false, .slice A55 1 c55, .int .i64 0, .int .i64 0, .int .i64 0, .int .i64 0, .slice none 0 0, .int .i64 0, .int .i64 0, .int .i64 0]) (ok := fun k_ => (k_ ≠ gb ∧ k_ ≠ gf) ∧ some k_ ≠ v45.ownBlock) (okp := fun k_ => (k_ ≠ gb ∧ k_ ≠ gf) ∧ some k_ ≠ v45.ownBlock) ?hr ?hp (fun _ hk => hk) ?hf HB.out (below_size HB.out) (show 1 ≤ 9223372036854775807 by omega) ?_
      (case hr => first | (go_simp; done) | (go_simp; rfl))
      (case hp => exact Reps.front (show Kd.FK k44 _ _ (nb (y : Int)) [.bool false, .int .i64 0, .slice none 0 0, .bool false, .bool false, .slice A55 1 c55, .int .i64 0, .int .i64 0, .int .i64 0, .int .i64 0, .slice none 0 0, .int .i64 0, .int .i64 0, .int .i64 0] from (k44_mkF _ _ (nb (y : Int)) (Nat.le_refl _) (Kd.F_nil _ _ _) (Kd.N_reads' H55.out).2.1 (Kd.N_F H55.out) (Nat.le_refl _) (Kd.F_nil _ _ _))) rfl (Reps.none _ _) rfl)
      (case hf => have h1_ := blk_lt BX.out; have h2_ := blk_lt GFB.out; exact ⟨by omega, fun e_ => by have := Kd.N_lt H45.out _ e_.symm; omega⟩)
      intro v57 w57 ho hb hg hat
      have n0_ := Aside0.mk (blk_grown BX.out hg (by simp))
      have n1_ := Aside0.mk (blk_grown B10.out hg (by simp))
      have n2_ := Aside0.mk (blk_grown GFB.out hg (by simp))
      have n3_ := Aside0.mk (hb)
      have n4_ := Aside0.mk (Kd.N_grown HN.out hg (by simp))
      have n5_ := Aside0.mk (Nat.le_trans N0.out hg.size)
      have n6_ := Aside0.mk (Kd.F_grown HF2.out hg (by simp))
      have n7_ := Aside0.mk (Kd.N_grown H45.out hg (by simp))
      have n8_ := Aside0.mk (Kd.N_grown H55.out hg (by simp))
      have mH57_ := Aside0.mk (ho)
      clear BX B10 GFB HB HN N0 HF2 H45 H55
      have BX := n0_
      have B10 := n1_
      have GFB := n2_
      have HB := n3_
      have HN := n4_
      have N0 := n5_
      have HF2 := n6_
      have H45 := n7_
      have H55 := n8_
      have H57 := mH57_
      clear hg hb ho hat n0_ n1_ n2_ n3_ n4_ n5_ n6_ n7_ n8_ mH57_
      obtain ⟨A57, c57, e_⟩ := Kd.N_slice H57.out
      subst e_
      refine hK.out _ _ ⟨(blk_cell B10.out 0).trans rfl, (blk_cell GFB.out _).trans GFC.out⟩ (fun hHeld => ?_)
      clear hK K
      refine norm_ (a' := ?_) ?_ ?_
      rotate_left
      ·show Act.put _ (some 57) _ = _
       simp only [Act.put, List.setIfInBounds_toArray, List.set_cons_zero, List.set_cons_succ, i64_w, i32_w]
       rfl
      refine one_ (i := 10) (N := some 52) #[true, true, true, true, true, true, true, true, true, true, true, true, true, true, true, true, false, false, false, false] rfl rfl (one_of HT_.out (by kernel_rfl)) (by decide) (fun K hK => ?_)
      refine Kd.N_append_rows_step k44 (w0 := w) w.heap.size (by rfl) (.tmp 45) (.tmp 51) 31 44 (.agg #[.bool false, .int .i64 0, .slice none 0 0, .bool false, .bool false, .slice none 0 0, .int .i64 0, .int .i64 0, .int .i64 0, .int .i64 0, .slice none 0 0, .int .i64 0, .int .i64 0, .int .i64 0]) 152 rfl Try.underlying31 (by kernel_rfl) rfl (by decide) (by omega) v45 [] (l.getD x z33).f2 A2 (l.getD x z33).f2.length c2 (fun k_ => (k_ ≠ gb ∧ k_ ≠ gf)) (fun k_ => (k_ ≠ gb ∧ k_ ≠ gf) ∧ k_ < n0) rfl rfl H45.out HF2.out ?aQ ?aF HB.out (below_size HB.out) ?aL ?_
      (case aQ => exact (fun k_ hk_ => ⟨hk_.1, fun e_ => by have := A45.out k_ e_.symm; omega⟩))
      (case aF => exact (fun k_ hk_ => by have := blk_lt BX.out; have := blk_lt GFB.out; omega))
      (case aL => have h1_ := HL.out.2 (l.getD x z33) (by have := HX.out; rw [List.getD_eq_getElem?_getD, List.getElem?_eq_getElem this]; exact List.getElem_mem this); simp only [List.length_nil]; omega)
      intro v52 w52 ho hb hg hat
      have ho : Kd.N k44 44 w52 w.heap.size (fun k_ => (k_ ≠ gb ∧ k_ ≠ gf)) v52 (l.getD x z33).f2 := ho
      have n0_ := Aside0.mk (blk_grown BX.out hg (Kd.N_ne H45.out BX.out (by decide)))
      have n1_ := Aside0.mk (blk_grown B10.out hg (Kd.N_ne H45.out B10.out (by decide)))
      have n2_ := Aside0.mk (blk_grown GFB.out hg (Kd.N_ne H45.out GFB.out (by decide)))
      have n3_ := Aside0.mk (hb)
      have n4_ := Aside0.mk (Kd.N_grown HN.out hg (fun k_ hk_ e_ => by have := A45.out k_ e_.symm; omega))
      have n5_ := Aside0.mk (Nat.le_trans N0.out hg.size)
      have n6_ := Aside0.mk (Kd.N_after H55.out hg hat)
      have n7_ := Aside0.mk (Kd.N_after H57.out hg hat)
      have mH52_ := Aside0.mk (ho)
      have mA52_ := Aside0.mk (show ∀ k_, v52.ownBlock = some k_ → n0 ≤ k_ from fun k_ hk_ => by (rcases hat with h1_ | h1_; (exact A45.out k_ (h1_.symm.trans hk_)); (obtain ⟨b_, h1_, h2_⟩ := h1_; rw [h1_] at hk_; injection hk_ with hk_; have := N0.out; omega)))
      clear BX B10 GFB HB HN N0 H55 H57 H45 A45 HF2
      have BX := n0_
      have B10 := n1_
      have GFB := n2_
      have HB := n3_
      have HN := n4_
      have N0 := n5_
      have H55 := n6_
      have H57 := n7_
      have H52 := mH52_
      have A52 := mA52_
      clear hg hb ho hat n0_ n1_ n2_ n3_ n4_ n5_ n6_ n7_ mH52_ mA52_
      refine hK.out _ _ ⟨(blk_cell B10.out 0).trans rfl, (blk_cell GFB.out _).trans GFC.out⟩ (fun hHeld => ?_)
      clear hK K
      refine norm_ (a' := ?_) ?_ ?_
      rotate_left
      ·show Act.put _ (some 52) _ = _
       simp only [Act.put, List.setIfInBounds_toArray, List.set_cons_zero, List.set_cons_succ, i64_w, i32_w]
       rfl
      exact norm_ (by simp only [putAll, Act.put, List.setIfInBounds_toArray, List.set_cons_zero, List.set_cons_succ]; rfl) (hCont (v45, v52, A55, c55, A57, c57) _ ⟨BX.out, B10.out, GFB.out, HB.out, HN.out, N0.out, H52.out, H57.out, A52.out⟩)
   ·skip
    refine Kd.N_lit_step k36 (w0 := w) w.heap.size 36 (by rfl) (N' := 55) rfl (xs := [(⟨11, 0, 0, 0, 0, (y : Int), ([] : List Int)⟩ : S36)]) (inner := [.int .i64 11, .int .i64 0, .int .i64 0, .int .i64 0, .int .u16 0, .int .i64 (y : Int), .slice none 0 0]) (ok := fun k_ => (k_ ≠ gb ∧ k_ ≠ gf)) (okp := fun k_ => (k_ ≠ gb ∧ k_ ≠ gf)) ?hr ?hp (fun _ hk => hk) ?hf HB.out (below_size HB.out) (show 1 ≤ 9223372036854775807 by omega) ?_
    (case hr => first | (go_simp; done) | (go_simp; rfl))
    (case hp => exact Reps.c7 (show Kd.FK k36 _ _ (⟨11, 0, 0, 0, 0, (y : Int), ([] : List Int)⟩ : S36) [.int .i64 11, .int .i64 0, .int .i64 0, .int .i64 0, .int .u16 0, .int .i64 (y : Int), .slice none 0 0] from (k36_mkF _ _ (⟨11, 0, 0, 0, 0, (y : Int), ([] : List Int)⟩ : S36) (Nat.le_refl _) (Kd.F_nil _ _ _))) (Reps.none _ _))
    (case hf => have h1_ := blk_lt BX.out; have h2_ := blk_lt GFB.out; omega)
    intro v55 w55 ho hb hg hat
    have n0_ := Aside0.mk (blk_grown BX.out hg (by simp))
    have n1_ := Aside0.mk (blk_grown B10.out hg (by simp))
    have n2_ := Aside0.mk (blk_grown GFB.out hg (by simp))
    have n3_ := Aside0.mk (hb)
    have n4_ := Aside0.mk (Kd.N_grown HN.out hg (by simp))
    have n5_ := Aside0.mk (Nat.le_trans N0.out hg.size)
    have n6_ := Aside0.mk (Kd.F_grown HF2.out hg (by simp))
    have mH55_ := Aside0.mk (ho)
    clear BX B10 GFB HB HN N0 HF2
    have BX := n0_
    have B10 := n1_
    have GFB := n2_
    have HB := n3_
    have HN := n4_
    have N0 := n5_
    have HF2 := n6_
    have H55 := mH55_
    clear hg hb ho hat n0_ n1_ n2_ n3_ n4_ n5_ n6_ mH55_
    obtain ⟨A55, c55, e_⟩ := Kd.N_slice H55.out
    subst e_
    refine hK.out _ _ ⟨(blk_cell B10.out 0).trans rfl, (blk_cell GFB.out _).trans GFC.out⟩ (fun hHeld => ?_)
    clear hK K
    refine norm_ (a' := ?_) ?_ ?_
    rotate_left
    ·show Act.put _ (some 55) _ = _
     simp only [Act.put, List.setIfInBounds_toArray, List.set_cons_zero, List.set_cons_succ, i64_w, i32_w]
     rfl
    refine pure_ (i := 14) (N := some 56) (v := ?_) (a' := ?_) #[true, true, true, false, true, true, true, true, true, true, false, true, true, true, true, false, false, false, false, false] rfl rfl (any_of HT_.out (by kernel_rfl)) (fun _ _ _ h => h) (Or.inl ⟨by rfl, ?_⟩) ?_ ?_
    rotate_left
    ·intro w'
     go_simp
     with_reducible rfl
    rotate_left
    ·simp only [Act.put, List.setIfInBounds_toArray, List.set_cons_zero, List.set_cons_succ, i64_w, i32_w]
     rfl
    refine two_ (i := 3) (j := 15) (Ni := some 45) (Nj := some 57) #[true, true, true, true, true, true, true, true, true, true, false, true, true, true, true, false, false, false, false, false] #[true, true, true, false, true, true, true, true, true, true, false, true, true, true, true, true, false, false, false, false] rfl rfl rfl rfl (two_of HT_.out (by kernel_rfl)) (by decide) (by decide) (fun K hK => ?_) (fun K hK => ?_)
    ·skip
     refine Kd.N_lit_step k44 (w0 := w) w.heap.size 44 (by rfl) (N' := 45) rfl (xs := ([] : List S44)) (inner := []) (ok := fun k_ => (k_ ≠ gb ∧ k_ ≠ gf)) (okp := fun _ => False) ?hr (Reps.none _ _) (fun _ hk => hk.elim) ?hf HB.out (below_size HB.out) (by decide) ?_
     (case hr => first | (go_simp; done) | (go_simp; rfl))
     (case hf => have h1_ := blk_lt BX.out; have h2_ := blk_lt GFB.out; omega)
     intro v45 w45 ho hb hg hat
     have n0_ := Aside0.mk (blk_grown BX.out hg (by simp))
     have n1_ := Aside0.mk (blk_grown B10.out hg (by simp))
     have n2_ := Aside0.mk (blk_grown GFB.out hg (by simp))
     have n3_ := Aside0.mk (hb)
     have n4_ := Aside0.mk (Kd.N_grown HN.out hg (by simp))
     have n5_ := Aside0.mk (Nat.le_trans N0.out hg.size)
     have n6_ := Aside0.mk (Kd.F_grown HF2.out hg (by simp))
     have n7_ := Aside0.mk (Kd.N_mono (Kd.N_grown (Kd.N_bound H55.out) hg (by simp)) (fun k_ hk_ => (⟨hk_.1, fun e_ => by obtain ⟨b_, h1_, h2_⟩ := hat; rw [h1_] at e_; injection e_ with e_; have := hk_.2; omega⟩ : (k_ ≠ gb ∧ k_ ≠ gf) ∧ some k_ ≠ v45.ownBlock)))
     have mH45_ := Aside0.mk (ho)
     have mA45_ := Aside0.mk (show ∀ k_, v45.ownBlock = some k_ → n0 ≤ k_ from fun k_ hk_ => by obtain ⟨b_, h1_, h2_⟩ := hat; rw [h1_] at hk_; injection hk_ with hk_; have := N0.out; omega)
     clear BX B10 GFB HB HN N0 HF2 H55
     have BX := n0_
     have B10 := n1_
     have GFB := n2_
     have HB := n3_
     have HN := n4_
     have N0 := n5_
     have HF2 := n6_
     have H55 := n7_
     have H45 := mH45_
     have A45 := mA45_
     clear hg hb ho hat n0_ n1_ n2_ n3_ n4_ n5_ n6_ n7_ mH45_ mA45_
     refine hK.out _ _ ⟨(blk_cell B10.out 0).trans rfl, (blk_cell GFB.out _).trans GFC.out⟩ (fun hHeld => ?_)
     clear hK K
     refine norm_ (a' := ?_) ?_ ?_
     rotate_left
     ·show Act.put _ (some 45) _ = _
      simp only [Act.put, List.setIfInBounds_toArray, List.set_cons_zero, List.set_cons_succ, i64_w, i32_w]
      rfl
     refine two_ (i := 10) (j := 15) (Ni := some 52) (Nj := some 57) #[true, true, true, true, true, true, true, true, true, true, true, true, true, true, true, false, false, false, false, false] #[true, true, true, true, true, true, true, true, true, true, false, true, true, true, true, true, false, false, false, false] rfl rfl rfl rfl (two_of HT_.out (by kernel_rfl)) (by decide) (by decide) (fun K hK => ?_) (fun K hK => ?_)
     ·skip
      refine Kd.N_append_rows_step k44 (w0 := w) w.heap.size (by rfl) (.tmp 45) (.tmp 51) 31 44 (.agg #[.bool false, .int .i64 0, .slice none 0 0, .bool false, .bool false, .slice none 0 0, .int .i64 0, .int .i64 0, .int .i64 0, .int .i64 0, .slice none 0 0, .int .i64 0, .int .i64 0, .int .i64 0]) 152 rfl Try.underlying31 (by kernel_rfl) rfl (by decide) (by omega) v45 [] (l.getD x z33).f2 A2 (l.getD x z33).f2.length c2 (fun k_ => (k_ ≠ gb ∧ k_ ≠ gf)) (fun k_ => (k_ ≠ gb ∧ k_ ≠ gf) ∧ k_ < n0) rfl rfl H45.out HF2.out ?aQ ?aF HB.out (below_size HB.out) ?aL ?_
      (case aQ => exact (fun k_ hk_ => ⟨hk_.1, fun e_ => by have := A45.out k_ e_.symm; omega⟩))
      (case aF => exact (fun k_ hk_ => by have := blk_lt BX.out; have := blk_lt GFB.out; omega))
      (case aL => have h1_ := HL.out.2 (l.getD x z33) (by have := HX.out; rw [List.getD_eq_getElem?_getD, List.getElem?_eq_getElem this]; exact List.getElem_mem this); simp only [List.length_nil]; omega)
      intro v52 w52 ho hb hg hat
      have ho : Kd.N k44 44 w52 w.heap.size (fun k_ => (k_ ≠ gb ∧ k_ ≠ gf)) v52 (l.getD x z33).f2 := ho
      have n0_ := Aside0.mk (blk_grown BX.out hg (Kd.N_ne H45.out BX.out (by decide)))
      have n1_ := Aside0.mk (blk_grown B10.out hg (Kd.N_ne H45.out B10.out (by decide)))
      have n2_ := Aside0.mk (blk_grown GFB.out hg (Kd.N_ne H45.out GFB.out (by decide)))
      have n3_ := Aside0.mk (hb)
      have n4_ := Aside0.mk (Kd.N_grown HN.out hg (fun k_ hk_ e_ => by have := A45.out k_ e_.symm; omega))
      have n5_ := Aside0.mk (Nat.le_trans N0.out hg.size)
      have n6_ := Aside0.mk (Kd.N_after H55.out hg hat)
      have mH52_ := Aside0.mk (ho)
      have mA52_ := Aside0.mk (show ∀ k_, v52.ownBlock = some k_ → n0 ≤ k_ from fun k_ hk_ => by (rcases hat with h1_ | h1_; (exact A45.out k_ (h1_.symm.trans hk_)); (obtain ⟨b_, h1_, h2_⟩ := h1_; rw [h1_] at hk_; injection hk_ with hk_; have := N0.out; omega)))
      clear BX B10 GFB HB HN N0 H55 H45 A45 HF2
      have BX := n0_
      have B10 := n1_
      have GFB := n2_
      have HB := n3_
      have HN := n4_
      have N0 := n5_
      have H55 := n6_
      have H52 := mH52_
      have A52 := mA52_
      clear hg hb ho hat n0_ n1_ n2_ n3_ n4_ n5_ n6_ mH52_ mA52_
      refine hK.out _ _ ⟨(blk_cell B10.out 0).trans rfl, (blk_cell GFB.out _).trans GFC.out⟩ (fun hHeld => ?_)
      clear hK K
      refine norm_ (a' := ?_) ?_ ?_
      rotate_left
      ·show Act.put _ (some 52) _ = _
       simp only [Act.put, List.setIfInBounds_toArray, List.set_cons_zero, List.set_cons_succ, i64_w, i32_w]
       rfl
      refine one_ (i := 15) (N := some 57) #[true, true, true, true, true, true, true, true, true, true, true, true, true, true, true, true, false, false, false, false] rfl rfl (one_of HT_.out (by kernel_rfl)) (by decide) (fun K hK => ?_)
      refine Kd.N_lit_step k44 (w0 := w) w.heap.size 44 (by rfl) (N' := 57) rfl (xs := [nb (y : Int)]) (inner := [.bool false, .int .i64 0, .slice none 0 0, .bool false, .bool false, .slice A55 1 c55, .int .i64 0, .int .i64 0, .int .i64 0, .int .i64 0, .slice none 0 0, .int .i64 0, .int .i64 0, .int .i64 0]) (ok := fun k_ => (k_ ≠ gb ∧ k_ ≠ gf) ∧ some k_ ≠ v52.ownBlock) (okp := fun k_ => (k_ ≠ gb ∧ k_ ≠ gf) ∧ some k_ ≠ v52.ownBlock) ?hr ?hp (fun _ hk => hk) ?hf HB.out (below_size HB.out) (show 1 ≤ 9223372036854775807 by omega) ?_
      (case hr => first | (go_simp; done) | (go_simp; rfl))
      (case hp => exact Reps.front (show Kd.FK k44 _ _ (nb (y : Int)) [.bool false, .int .i64 0, .slice none 0 0, .bool false, .bool false, .slice A55 1 c55, .int .i64 0, .int .i64 0, .int .i64 0, .int .i64 0, .slice none 0 0, .int .i64 0, .int .i64 0, .int .i64 0] from (k44_mkF _ _ (nb (y : Int)) (Nat.le_refl _) (Kd.F_nil _ _ _) (Kd.N_reads' H55.out).2.1 (Kd.N_F H55.out) (Nat.le_refl _) (Kd.F_nil _ _ _))) rfl (Reps.none _ _) rfl)
      (case hf => have h1_ := blk_lt BX.out; have h2_ := blk_lt GFB.out; exact ⟨by omega, fun e_ => by have := Kd.N_lt H52.out _ e_.symm; omega⟩)
      intro v57 w57 ho hb hg hat
      have n0_ := Aside0.mk (blk_grown BX.out hg (by simp))
      have n1_ := Aside0.mk (blk_grown B10.out hg (by simp))
      have n2_ := Aside0.mk (blk_grown GFB.out hg (by simp))
      have n3_ := Aside0.mk (hb)
      have n4_ := Aside0.mk (Kd.N_grown HN.out hg (by simp))
      have n5_ := Aside0.mk (Nat.le_trans N0.out hg.size)
      have n6_ := Aside0.mk (Kd.N_grown H52.out hg (by simp))
      have n7_ := Aside0.mk (Kd.N_grown H55.out hg (by simp))
      have mH57_ := Aside0.mk (ho)
      clear BX B10 GFB HB HN N0 H52 H55
      have BX := n0_
      have B10 := n1_
      have GFB := n2_
      have HB := n3_
      have HN := n4_
      have N0 := n5_
      have H52 := n6_
      have H55 := n7_
      have H57 := mH57_
      clear hg hb ho hat n0_ n1_ n2_ n3_ n4_ n5_ n6_ n7_ mH57_
      obtain ⟨A57, c57, e_⟩ := Kd.N_slice H57.out
      subst e_
      refine hK.out _ _ ⟨(blk_cell B10.out 0).trans rfl, (blk_cell GFB.out _).trans GFC.out⟩ (fun hHeld => ?_)
      clear hK K
      refine norm_ (a' := ?_) ?_ ?_
      rotate_left
      ·show Act.put _ (some 57) _ = _
       simp only [Act.put, List.setIfInBounds_toArray, List.set_cons_zero, List.set_cons_succ, i64_w, i32_w]
       rfl
      exact norm_ (by simp only [putAll, Act.put, List.setIfInBounds_toArray, List.set_cons_zero, List.set_cons_succ]; rfl) (hCont (v45, v52, A55, c55, A57, c57) _ ⟨BX.out, B10.out, GFB.out, HB.out, HN.out, N0.out, H52.out, H57.out, A52.out⟩)
     ·skip
      refine Kd.N_lit_step k44 (w0 := w) w.heap.size 44 (by rfl) (N' := 57) rfl (xs := [nb (y : Int)]) (inner := [.bool false, .int .i64 0, .slice none 0 0, .bool false, .bool false, .slice A55 1 c55, .int .i64 0, .int .i64 0, .int .i64 0, .int .i64 0, .slice none 0 0, .int .i64 0, .int .i64 0, .int .i64 0]) (ok := fun k_ => (k_ ≠ gb ∧ k_ ≠ gf) ∧ some k_ ≠ v45.ownBlock) (okp := fun k_ => (k_ ≠ gb ∧ k_ ≠ gf) ∧ some k_ ≠ v45.ownBlock) ?hr ?hp (fun _ hk => hk) ?hf HB.out (below_size HB.out) (show 1 ≤ 9223372036854775807 by omega) ?_
      (case hr => first | (go_simp; done) | (go_simp; rfl))
      (case hp => exact Reps.front (show Kd.FK k44 _ _ (nb (y : Int)) [.bool false, .int .i64 0, .slice none 0 0, .bool false, .bool false, .slice A55 1 c55, .int .i64 0, .int .i64 0, .int .i64 0, .int .i64 0, .slice none 0 0, .int .i64 0, .int .i64 0, .int .i64 0] from (k44_mkF _ _ (nb (y : Int)) (Nat.le_refl _) (Kd.F_nil _ _ _) (Kd.N_reads' H55.out).2.1 (Kd.N_F H55.out) (Nat.le_refl _) (Kd.F_nil _ _ _))) rfl (Reps.none _ _) rfl)
      (case hf => have h1_ := blk_lt BX.out; have h2_ := blk_lt GFB.out; exact ⟨by omega, fun e_ => by have := Kd.N_lt H45.out _ e_.symm; omega⟩)
      intro v57 w57 ho hb hg hat
      have n0_ := Aside0.mk (blk_grown BX.out hg (by simp))
      have n1_ := Aside0.mk (blk_grown B10.out hg (by simp))
      have n2_ := Aside0.mk (blk_grown GFB.out hg (by simp))
      have n3_ := Aside0.mk (hb)
      have n4_ := Aside0.mk (Kd.N_grown HN.out hg (by simp))
      have n5_ := Aside0.mk (Nat.le_trans N0.out hg.size)
      have n6_ := Aside0.mk (Kd.F_grown HF2.out hg (by simp))
      have n7_ := Aside0.mk (Kd.N_grown H45.out hg (by simp))
      have n8_ := Aside0.mk (Kd.N_grown H55.out hg (by simp))
      have mH57_ := Aside0.mk (ho)
      clear BX B10 GFB HB HN N0 HF2 H45 H55
      have BX := n0_
      have B10 := n1_
      have GFB := n2_
      have HB := n3_
      have HN := n4_
      have N0 := n5_
      have HF2 := n6_
      have H45 := n7_
      have H55 := n8_
      have H57 := mH57_
      clear hg hb ho hat n0_ n1_ n2_ n3_ n4_ n5_ n6_ n7_ n8_ mH57_
      obtain ⟨A57, c57, e_⟩ := Kd.N_slice H57.out
      subst e_
      refine hK.out _ _ ⟨(blk_cell B10.out 0).trans rfl, (blk_cell GFB.out _).trans GFC.out⟩ (fun hHeld => ?_)
      clear hK K
      refine norm_ (a' := ?_) ?_ ?_
      rotate_left
      ·show Act.put _ (some 57) _ = _
       simp only [Act.put, List.setIfInBounds_toArray, List.set_cons_zero, List.set_cons_succ, i64_w, i32_w]
       rfl
      refine one_ (i := 10) (N := some 52) #[true, true, true, true, true, true, true, true, true, true, true, true, true, true, true, true, false, false, false, false] rfl rfl (one_of HT_.out (by kernel_rfl)) (by decide) (fun K hK => ?_)
      refine Kd.N_append_rows_step k44 (w0 := w) w.heap.size (by rfl) (.tmp 45) (.tmp 51) 31 44 (.agg #[.bool false, .int .i64 0, .slice none 0 0, .bool false, .bool false, .slice none 0 0, .int .i64 0, .int .i64 0, .int .i64 0, .int .i64 0, .slice none 0 0, .int .i64 0, .int .i64 0, .int .i64 0]) 152 rfl Try.underlying31 (by kernel_rfl) rfl (by decide) (by omega) v45 [] (l.getD x z33).f2 A2 (l.getD x z33).f2.length c2 (fun k_ => (k_ ≠ gb ∧ k_ ≠ gf)) (fun k_ => (k_ ≠ gb ∧ k_ ≠ gf) ∧ k_ < n0) rfl rfl H45.out HF2.out ?aQ ?aF HB.out (below_size HB.out) ?aL ?_
      (case aQ => exact (fun k_ hk_ => ⟨hk_.1, fun e_ => by have := A45.out k_ e_.symm; omega⟩))
      (case aF => exact (fun k_ hk_ => by have := blk_lt BX.out; have := blk_lt GFB.out; omega))
      (case aL => have h1_ := HL.out.2 (l.getD x z33) (by have := HX.out; rw [List.getD_eq_getElem?_getD, List.getElem?_eq_getElem this]; exact List.getElem_mem this); simp only [List.length_nil]; omega)
      intro v52 w52 ho hb hg hat
      have ho : Kd.N k44 44 w52 w.heap.size (fun k_ => (k_ ≠ gb ∧ k_ ≠ gf)) v52 (l.getD x z33).f2 := ho
      have n0_ := Aside0.mk (blk_grown BX.out hg (Kd.N_ne H45.out BX.out (by decide)))
      have n1_ := Aside0.mk (blk_grown B10.out hg (Kd.N_ne H45.out B10.out (by decide)))
      have n2_ := Aside0.mk (blk_grown GFB.out hg (Kd.N_ne H45.out GFB.out (by decide)))
      have n3_ := Aside0.mk (hb)
      have n4_ := Aside0.mk (Kd.N_grown HN.out hg (fun k_ hk_ e_ => by have := A45.out k_ e_.symm; omega))
      have n5_ := Aside0.mk (Nat.le_trans N0.out hg.size)
      have n6_ := Aside0.mk (Kd.N_after H55.out hg hat)
      have n7_ := Aside0.mk (Kd.N_after H57.out hg hat)
      have mH52_ := Aside0.mk (ho)
      have mA52_ := Aside0.mk (show ∀ k_, v52.ownBlock = some k_ → n0 ≤ k_ from fun k_ hk_ => by (rcases hat with h1_ | h1_; (exact A45.out k_ (h1_.symm.trans hk_)); (obtain ⟨b_, h1_, h2_⟩ := h1_; rw [h1_] at hk_; injection hk_ with hk_; have := N0.out; omega)))
      clear BX B10 GFB HB HN N0 H55 H57 H45 A45 HF2
      have BX := n0_
      have B10 := n1_
      have GFB := n2_
      have HB := n3_
      have HN := n4_
      have N0 := n5_
      have H55 := n6_
      have H57 := n7_
      have H52 := mH52_
      have A52 := mA52_
      clear hg hb ho hat n0_ n1_ n2_ n3_ n4_ n5_ n6_ n7_ mH52_ mA52_
      refine hK.out _ _ ⟨(blk_cell B10.out 0).trans rfl, (blk_cell GFB.out _).trans GFC.out⟩ (fun hHeld => ?_)
      clear hK K
      refine norm_ (a' := ?_) ?_ ?_
      rotate_left
      ·show Act.put _ (some 52) _ = _
       simp only [Act.put, List.setIfInBounds_toArray, List.set_cons_zero, List.set_cons_succ, i64_w, i32_w]
       rfl
      exact norm_ (by simp only [putAll, Act.put, List.setIfInBounds_toArray, List.set_cons_zero, List.set_cons_succ]; rfl) (hCont (v45, v52, A55, c55, A57, c57) _ ⟨BX.out, B10.out, GFB.out, HB.out, HN.out, N0.out, H52.out, H57.out, A52.out⟩)
    ·skip
     refine Kd.N_lit_step k44 (w0 := w) w.heap.size 44 (by rfl) (N' := 57) rfl (xs := [nb (y : Int)]) (inner := [.bool false, .int .i64 0, .slice none 0 0, .bool false, .bool false, .slice A55 1 c55, .int .i64 0, .int .i64 0, .int .i64 0, .int .i64 0, .slice none 0 0, .int .i64 0, .int .i64 0, .int .i64 0]) (ok := fun k_ => (k_ ≠ gb ∧ k_ ≠ gf)) (okp := fun k_ => (k_ ≠ gb ∧ k_ ≠ gf)) ?hr ?hp (fun _ hk => hk) ?hf HB.out (below_size HB.out) (show 1 ≤ 9223372036854775807 by omega) ?_
     (case hr => first | (go_simp; done) | (go_simp; rfl))
     (case hp => exact Reps.front (show Kd.FK k44 _ _ (nb (y : Int)) [.bool false, .int .i64 0, .slice none 0 0, .bool false, .bool false, .slice A55 1 c55, .int .i64 0, .int .i64 0, .int .i64 0, .int .i64 0, .slice none 0 0, .int .i64 0, .int .i64 0, .int .i64 0] from (k44_mkF _ _ (nb (y : Int)) (Nat.le_refl _) (Kd.F_nil _ _ _) (Kd.N_reads' H55.out).2.1 (Kd.N_F H55.out) (Nat.le_refl _) (Kd.F_nil _ _ _))) rfl (Reps.none _ _) rfl)
     (case hf => have h1_ := blk_lt BX.out; have h2_ := blk_lt GFB.out; omega)
     intro v57 w57 ho hb hg hat
     have n0_ := Aside0.mk (blk_grown BX.out hg (by simp))
     have n1_ := Aside0.mk (blk_grown B10.out hg (by simp))
     have n2_ := Aside0.mk (blk_grown GFB.out hg (by simp))
     have n3_ := Aside0.mk (hb)
     have n4_ := Aside0.mk (Kd.N_grown HN.out hg (by simp))
     have n5_ := Aside0.mk (Nat.le_trans N0.out hg.size)
     have n6_ := Aside0.mk (Kd.F_grown HF2.out hg (by simp))
     have n7_ := Aside0.mk (Kd.N_grown H55.out hg (by simp))
     have mH57_ := Aside0.mk (ho)
     clear BX B10 GFB HB HN N0 HF2 H55
     have BX := n0_
     have B10 := n1_
     have GFB := n2_
     have HB := n3_
     have HN := n4_
     have N0 := n5_
     have HF2 := n6_
     have H55 := n7_
     have H57 := mH57_
     clear hg hb ho hat n0_ n1_ n2_ n3_ n4_ n5_ n6_ n7_ mH57_
     obtain ⟨A57, c57, e_⟩ := Kd.N_slice H57.out
     subst e_
     refine hK.out _ _ ⟨(blk_cell B10.out 0).trans rfl, (blk_cell GFB.out _).trans GFC.out⟩ (fun hHeld => ?_)
     clear hK K
     refine norm_ (a' := ?_) ?_ ?_
     rotate_left
     ·show Act.put _ (some 57) _ = _
      simp only [Act.put, List.setIfInBounds_toArray, List.set_cons_zero, List.set_cons_succ, i64_w, i32_w]
      rfl
     refine one_ (i := 3) (N := some 45) #[true, true, true, true, true, true, true, true, true, true, false, true, true, true, true, true, false, false, false, false] rfl rfl (one_of HT_.out (by kernel_rfl)) (by decide) (fun K hK => ?_)
     refine Kd.N_lit_step k44 (w0 := w) w.heap.size 44 (by rfl) (N' := 45) rfl (xs := ([] : List S44)) (inner := []) (ok := fun k_ => (k_ ≠ gb ∧ k_ ≠ gf)) (okp := fun _ => False) ?hr (Reps.none _ _) (fun _ hk => hk.elim) ?hf HB.out (below_size HB.out) (by decide) ?_
     (case hr => first | (go_simp; done) | (go_simp; rfl))
     (case hf => have h1_ := blk_lt BX.out; have h2_ := blk_lt GFB.out; omega)
     intro v45 w45 ho hb hg hat
     have n0_ := Aside0.mk (blk_grown BX.out hg (by simp))
     have n1_ := Aside0.mk (blk_grown B10.out hg (by simp))
     have n2_ := Aside0.mk (blk_grown GFB.out hg (by simp))
     have n3_ := Aside0.mk (hb)
     have n4_ := Aside0.mk (Kd.N_grown HN.out hg (by simp))
     have n5_ := Aside0.mk (Nat.le_trans N0.out hg.size)
     have n6_ := Aside0.mk (Kd.F_grown HF2.out hg (by simp))
     have n7_ := Aside0.mk (Kd.N_mono (Kd.N_grown (Kd.N_bound H55.out) hg (by simp)) (fun k_ hk_ => (⟨hk_.1, fun e_ => by obtain ⟨b_, h1_, h2_⟩ := hat; rw [h1_] at e_; injection e_ with e_; have := hk_.2; omega⟩ : (k_ ≠ gb ∧ k_ ≠ gf) ∧ some k_ ≠ v45.ownBlock)))
     have n8_ := Aside0.mk (Kd.N_mono (Kd.N_grown (Kd.N_bound H57.out) hg (by simp)) (fun k_ hk_ => (⟨hk_.1, fun e_ => by obtain ⟨b_, h1_, h2_⟩ := hat; rw [h1_] at e_; injection e_ with e_; have := hk_.2; omega⟩ : (k_ ≠ gb ∧ k_ ≠ gf) ∧ some k_ ≠ v45.ownBlock)))
     have mH45_ := Aside0.mk (ho)
     have mA45_ := Aside0.mk (show ∀ k_, v45.ownBlock = some k_ → n0 ≤ k_ from fun k_ hk_ => by obtain ⟨b_, h1_, h2_⟩ := hat; rw [h1_] at hk_; injection hk_ with hk_; have := N0.out; omega)
     clear BX B10 GFB HB HN N0 HF2 H55 H57
     have BX := n0_
     have B10 := n1_
     have GFB := n2_
     have HB := n3_
     have HN := n4_
     have N0 := n5_
     have HF2 := n6_
     have H55 := n7_
     have H57 := n8_
     have H45 := mH45_
     have A45 := mA45_
     clear hg hb ho hat n0_ n1_ n2_ n3_ n4_ n5_ n6_ n7_ n8_ mH45_ mA45_
     refine hK.out _ _ ⟨(blk_cell B10.out 0).trans rfl, (blk_cell GFB.out _).trans GFC.out⟩ (fun hHeld => ?_)
     clear hK K
     refine norm_ (a' := ?_) ?_ ?_
     rotate_left
     ·show Act.put _ (some 45) _ = _
      simp only [Act.put, List.setIfInBounds_toArray, List.set_cons_zero, List.set_cons_succ, i64_w, i32_w]
      rfl
     refine one_ (i := 10) (N := some 52) #[true, true, true, true, true, true, true, true, true, true, true, true, true, true, true, true, false, false, false, false] rfl rfl (one_of HT_.out (by kernel_rfl)) (by decide) (fun K hK => ?_)
     refine Kd.N_append_rows_step k44 (w0 := w) w.heap.size (by rfl) (.tmp 45) (.tmp 51) 31 44 (.agg #[.bool false, .int .i64 0, .slice none 0 0, .bool false, .bool false, .slice none 0 0, .int .i64 0, .int .i64 0, .int .i64 0, .int .i64 0, .slice none 0 0, .int .i64 0, .int .i64 0, .int .i64 0]) 152 rfl Try.underlying31 (by kernel_rfl) rfl (by decide) (by omega) v45 [] (l.getD x z33).f2 A2 (l.getD x z33).f2.length c2 (fun k_ => (k_ ≠ gb ∧ k_ ≠ gf)) (fun k_ => (k_ ≠ gb ∧ k_ ≠ gf) ∧ k_ < n0) rfl rfl H45.out HF2.out ?aQ ?aF HB.out (below_size HB.out) ?aL ?_
     (case aQ => exact (fun k_ hk_ => ⟨hk_.1, fun e_ => by have := A45.out k_ e_.symm; omega⟩))
     (case aF => exact (fun k_ hk_ => by have := blk_lt BX.out; have := blk_lt GFB.out; omega))
     (case aL => have h1_ := HL.out.2 (l.getD x z33) (by have := HX.out; rw [List.getD_eq_getElem?_getD, List.getElem?_eq_getElem this]; exact List.getElem_mem this); simp only [List.length_nil]; omega)
     intro v52 w52 ho hb hg hat
     have ho : Kd.N k44 44 w52 w.heap.size (fun k_ => (k_ ≠ gb ∧ k_ ≠ gf)) v52 (l.getD x z33).f2 := ho
     have n0_ := Aside0.mk (blk_grown BX.out hg (Kd.N_ne H45.out BX.out (by decide)))
     have n1_ := Aside0.mk (blk_grown B10.out hg (Kd.N_ne H45.out B10.out (by decide)))
     have n2_ := Aside0.mk (blk_grown GFB.out hg (Kd.N_ne H45.out GFB.out (by decide)))
     have n3_ := Aside0.mk (hb)
     have n4_ := Aside0.mk (Kd.N_grown HN.out hg (fun k_ hk_ e_ => by have := A45.out k_ e_.symm; omega))
     have n5_ := Aside0.mk (Nat.le_trans N0.out hg.size)
     have n6_ := Aside0.mk (Kd.N_after H55.out hg hat)
     have n7_ := Aside0.mk (Kd.N_after H57.out hg hat)
     have mH52_ := Aside0.mk (ho)
     have mA52_ := Aside0.mk (show ∀ k_, v52.ownBlock = some k_ → n0 ≤ k_ from fun k_ hk_ => by (rcases hat with h1_ | h1_; (exact A45.out k_ (h1_.symm.trans hk_)); (obtain ⟨b_, h1_, h2_⟩ := h1_; rw [h1_] at hk_; injection hk_ with hk_; have := N0.out; omega)))
     clear BX B10 GFB HB HN N0 H55 H57 H45 A45 HF2
     have BX := n0_
     have B10 := n1_
     have GFB := n2_
     have HB := n3_
     have HN := n4_
     have N0 := n5_
     have H55 := n6_
     have H57 := n7_
     have H52 := mH52_
     have A52 := mA52_
     clear hg hb ho hat n0_ n1_ n2_ n3_ n4_ n5_ n6_ n7_ mH52_ mA52_
     refine hK.out _ _ ⟨(blk_cell B10.out 0).trans rfl, (blk_cell GFB.out _).trans GFC.out⟩ (fun hHeld => ?_)
     clear hK K
     refine norm_ (a' := ?_) ?_ ?_
     rotate_left
     ·show Act.put _ (some 52) _ = _
      simp only [Act.put, List.setIfInBounds_toArray, List.set_cons_zero, List.set_cons_succ, i64_w, i32_w]
      rfl
     exact norm_ (by simp only [putAll, Act.put, List.setIfInBounds_toArray, List.set_cons_zero, List.set_cons_succ]; rfl) (hCont (v45, v52, A55, c55, A57, c57) _ ⟨BX.out, B10.out, GFB.out, HB.out, HN.out, N0.out, H52.out, H57.out, A52.out⟩)
  intro s_ w' hF
  obtain ⟨v45, v52, A55, c55, A57, c57⟩ := s_
  obtain ⟨f1_, f2_, f3_, f4_, f5_, f6_, f7_, f8_, f9_⟩ := hF
  clear BX B10 GFB HB HN HF2 N0 hHeld
  have BX := Aside0.mk f1_
  have B10 := Aside0.mk f2_
  have GFB := Aside0.mk f3_
  have HB := Aside0.mk f4_
  have HN := Aside0.mk f5_
  have N0 := Aside0.mk f6_
  have H52 := Aside0.mk f7_
  have H57 := Aside0.mk f8_
  have A52 := Aside0.mk f9_
  clear f1_ f2_ f3_ f4_ f5_ f6_ f7_ f8_ f9_
  refine norm_ (a' := ?_) ?_ ?_
  rotate_left
  ·simp only [putAll, Act.put, List.setIfInBounds_toArray, List.set_cons_zero, List.set_cons_succ]
   rfl
  refine one_ (i := 16) (N := some 58) #[true, true, true, true, true, true, true, true, true, true, true, true, true, true, true, true, true, false, false, false] rfl rfl (one_of HT_.out (by kernel_rfl)) (by decide) (fun K hK => ?_)
  refine Kd.N_append_rows_step k44 (w0 := w) w.heap.size (by rfl) (.tmp 52) (.tmp 57) 31 44 (.agg #[.bool false, .int .i64 0, .slice none 0 0, .bool false, .bool false, .slice none 0 0, .int .i64 0, .int .i64 0, .int .i64 0, .int .i64 0, .slice none 0 0, .int .i64 0, .int .i64 0, .int .i64 0]) 152 rfl Try.underlying31 (by kernel_rfl) rfl (by decide) (by omega) v52 (l.getD x z33).f2 [nb (y : Int)] A57 1 c57 (fun k_ => (k_ ≠ gb ∧ k_ ≠ gf)) (fun k_ => (k_ ≠ gb ∧ k_ ≠ gf) ∧ some k_ ≠ v52.ownBlock) rfl rfl H52.out (Kd.N_F H57.out) (fun k_ hk_ => hk_) ?aF HB.out (below_size HB.out) ?aL ?_
  (case aF => exact (fun k_ hk_ => by have := blk_lt BX.out; have := blk_lt GFB.out; omega))
  (case aL => have h1_ := HL.out.2 (l.getD x z33) (by have := HX.out; rw [List.getD_eq_getElem?_getD, List.getElem?_eq_getElem this]; exact List.getElem_mem this); omega)
  intro v58 w58 ho hb hg hat
  have n0_ := Aside0.mk (blk_grown BX.out hg (Kd.N_ne H52.out BX.out (by decide)))
  have n1_ := Aside0.mk (blk_grown B10.out hg (Kd.N_ne H52.out B10.out (by decide)))
  have n2_ := Aside0.mk (blk_grown GFB.out hg (Kd.N_ne H52.out GFB.out (by decide)))
  have n3_ := Aside0.mk (hb)
  have n4_ := Aside0.mk (Kd.N_grown HN.out hg (fun k_ hk_ e_ => by have := A52.out k_ e_.symm; omega))
  have m_ := Aside0.mk ho
  clear BX B10 GFB HB HN H52 H57 A52
  have BX := n0_
  have B10 := n1_
  have GFB := n2_
  have HB := n3_
  have HN := n4_
  have H58 := m_
  refine hK.out _ _ ⟨(blk_cell B10.out 0).trans rfl, (blk_cell GFB.out _).trans GFC.out⟩ (fun hHeld => ?_)
  clear hK K
  refine norm_ (a' := ?_) ?_ ?_
  rotate_left
  ·show Act.put _ (some 58) _ = _
   simp only [Act.put, List.setIfInBounds_toArray, List.set_cons_zero, List.set_cons_succ, i64_w, i32_w]
   rfl
  refine pure_ (i := 17) (N := some 59) (v := ?_) (a' := ?_) #[true, true, true, true, true, true, true, true, true, true, true, true, true, true, true, true, true, true, false, false] rfl rfl (any_of HT_.out (by kernel_rfl)) (fun _ _ _ h => h) (Or.inl ⟨by rfl, ?_⟩) ?_ ?_
  rotate_left
  ·intro w'
   go_simp
   with_reducible rfl
  rotate_left
  ·simp only [Act.put, List.setIfInBounds_toArray, List.set_cons_zero, List.set_cons_succ, i64_w, i32_w]
   rfl
  refine pure_ (i := 18) (N := some 60) (v := ?_) (a' := ?_) #[true, true, true, true, true, true, true, true, true, true, true, true, true, true, true, true, true, true, true, false] rfl rfl (any_of HT_.out (by kernel_rfl)) (fun _ _ _ h => h) (Or.inl ⟨by rfl, ?_⟩) ?_ ?_
  rotate_left
  ·intro w'
   go_simp
   with_reducible rfl
  rotate_left
  ·simp only [Act.put, List.setIfInBounds_toArray, List.set_cons_zero, List.set_cons_succ, i64_w, i32_w]
   rfl
  obtain ⟨A58, c58, e58⟩ := Kd.N_slice H58.out
  obtain ⟨nl, hnl⟩ : ∃ nl, nl = ((l.getD x z33).f2 ++ [nb (y : Int)]).length := ⟨_, rfl⟩
  rw [← hnl] at e58
  subst e58
  have E58 := Aside0.mk hnl
  clear hnl
  have hs0 := (blk_cell GFB.out (x * 3 + 2)).trans GFC.out
  have hs1 := blk_frozen GFB.out (x * 3 + 2)
  refine last_ (i := 19) (N := none) #[true, true, true, true, true, true, true, true, true, true, true, true, true, true, true, true, true, true, true, true] rfl rfl (one_of HT_.out (by kernel_rfl)) (by decide) (fun K hK => ?_)
  refine skip_ (w1 := ?_) (by rfl) rfl ?_ ?_
  rotate_left
  ·go_simp
   rfl
  refine hK.out _ _ ?_
  clear hK K
  refine done_ (done_of HT_.out (by kernel_rfl)) ?_
  have hgx : gf ≠ gb := fun e_ => by have h1_ := GFB.out; rw [e_, BX.out] at h1_; cases h1_
  have hgy : gf ≠ b10 := fun e_ => by have h1_ := GFB.out; rw [e_, B10.out] at h1_; cases h1_
  have n0_ := Aside0.mk (show (w58.setCell ⟨gf, x * 3 + 2, none⟩ (.slice A58 nl c58)).heap[gb]? = some (.cells #[.slice A l.length c] 24 (0, 0)) from blk_far BX.out (fun e_ => hgx e_.symm) _)
  have n1_ := Aside0.mk (show (w58.setCell ⟨gf, x * 3 + 2, none⟩ (.slice A58 nl c58)).heap[b10]? = some (.cells #[.slice (some ⟨gf, 0, none⟩) l.length cf] 24 (0, 0)) from blk_far B10.out (fun e_ => hgy e_.symm) _)
  have n2_ := Aside0.mk (show Below w.heap.size w (w58.setCell ⟨gf, x * 3 + 2, none⟩ (.slice A58 nl c58)) from below_set HB.out (Kd.N_base HN.out gf rfl))
  have h3_ := Aside0.mk (E58.out ▸ H58.out : Kd.N k44 44 w58 w.heap.size (fun k_ => k_ ≠ gb ∧ k_ ≠ gf) (.slice A58 ((l.getD x z33).f2 ++ [nb (y : Int)]).length c58) ((l.getD x z33).f2 ++ [nb (y : Int)]))
  have h4_ := (Kd.N_seg (Kd.N_mono HN.out (fun k_ hk_ => hk_.1)) (x : Int) (by omega) (by have := HX.out; omega) (c := [.int .i64 (l.getD x z33).f0, .int .i64 (l.getD x z33).f1, .slice A2 (l.getD x z33).f2.length c2]) (seg := [.slice A58 nl c58]) (j := 2) (x' := ⟨(l.getD x z33).f0, (l.getD x z33).f1, (l.getD x z33).f2 ++ [nb (y : Int)]⟩) (okp := fun k_ => k_ ≠ gb ∧ k_ ≠ gf) rfl ?hcc (Nat.le_refl 3) (by rw [E58.out]; exact k33_mkF _ _ ⟨(l.getD x z33).f0, (l.getD x z33).f1, (l.getD x z33).f2 ++ [nb (y : Int)]⟩ (Kd.N_reads' h3_.out).2.1 (Kd.N_F h3_.out)) (fun k_ hk_ => hk_)).1
  (case hcc => exact fun j u hu => (blk_cell GFB.out (x * 3 + j)).trans (GFA.out j u hu))
  have h5_ := Kd.N_reads' h4_
  have CM0 := Aside0.mk (show Kd.C k33 (w58.setCell ⟨gf, x * 3 + 2, none⟩ (.slice A58 nl c58)) (some ⟨gf, 0, none⟩) (moreM l x (y : Int)).length (moreM l x (y : Int)) from h5_.2.2)
  have HM := Aside0.mk (show l.length = (moreM l x (y : Int)).length by unfold moreM; rw [List.length_set])
  have HCF := Aside0.mk (show l.length ≤ cf from h5_.2.1)
  clear E58 h3_ h4_ h5_ hs0 hs1 hgx hgy BX HB B10 GFB GFC GFA HN N0 H58
  have BX := n0_
  have B10 := n1_
  have HB := n2_
  have CM := CM0
  clear n0_ n1_ n2_ CM0
  generalize w58.setCell ⟨gf, x * 3 + 2, none⟩ (.slice A58 nl c58) = wc at BX B10 HB CM ⊢
  have hq := HH.out
  unfold moreGo at hq
  by_cases hq1 : (calls_Comes.f k (moreM l x (y : Int)) (x : Int) (y : Int) = some true ∧ ((calls_Of.f (moreM l x (y : Int)) (x : Int)).bind fun o => davitref07_Has.f k o (y : Int)) = some true ∧ ∀ i, i < l.length → ∀ j, j < l.length → moreAt k (moreM l x (y : Int)) l x y i j = some true)
  rotate_left
  ·rw [if_neg hq1] at hq; cases hq
  rw [if_pos hq1] at hq
  obtain rfl := Option.some.inj hq
  obtain ⟨q1, q2, q3⟩ := hq1
  obtain ⟨o, q4, q5⟩ := Option.bind_eq_some_iff.1 q2
  have Q1 := Aside0.mk q1
  have Q3 := Aside0.mk q3
  have Q4 := Aside0.mk q4
  have Q5 := Aside0.mk q5
  clear q1 q2 q3 q4 q5 hq HH
  generalize moreM l x (y : Int) = M at CM HM Q1 Q3 Q4 Q5
  have hcy0 := (blk_cell BX.out 0).trans rfl
  have hcy1 := (blk_cell B10.out 0).trans rfl
  go_wp2_with (first | (go_at_call 9; (with_reducible refine (comes_n k (some ⟨gf, 0, none⟩) cf M l.length HM.out (x : Int) (y : Int) true _ CM.out HCF.out Q1.out).mono ?_); rintro e w10 ⟨rfl, hb⟩; have n0_ := Aside0.mk (blk_below BX.out hb); have n1_ := Aside0.mk (below_step HB.out hb); have n2_ := Aside0.mk (blk_below B10.out hb); have n3_ := Aside0.mk (Kd.C_below CM.out hb); clear BX HB B10 CM hb hcy0 hcy1; have BX := n0_; have HB := n1_; have B10 := n2_; have CM := n3_; clear n0_ n1_ n2_ n3_; have hcy0 := (blk_cell BX.out 0).trans rfl; have hcy1 := (blk_cell B10.out 0).trans rfl) | (go_at_call 11; (with_reducible refine (of_n k (some ⟨gf, 0, none⟩) cf M l.length HM.out (x : Int) o _ CM.out HCF.out Q4.out).mono ?_); rintro e w11 ⟨vo, rfl, ho, hb⟩; obtain ⟨Ao, co, rfl, hlo, hCo⟩ := Kd.R_reads ho; have HLO := Aside0.mk hlo; have HCO := Aside0.mk hCo; clear ho hlo hCo; have n0_ := Aside0.mk (blk_below BX.out hb); have n1_ := Aside0.mk (below_step HB.out hb); have n2_ := Aside0.mk (blk_below B10.out hb); have n3_ := Aside0.mk (Kd.C_below CM.out hb); clear BX HB B10 CM hb hcy0 hcy1; have BX := n0_; have HB := n1_; have B10 := n2_; have CM := n3_; clear n0_ n1_ n2_ n3_; have hcy0 := (blk_cell BX.out 0).trans rfl; have hcy1 := (blk_cell B10.out 0).trans rfl) | (go_at_call 10; (with_reducible refine (davitref07_Has.calls k Ao co o (y : Int) true _ HCO.out HLO.out Q5.out).mono ?_); rintro e w' ⟨rfl, ⟨nd, rfl⟩⟩))
  have n0_ := Aside0.mk (blk_drewN BX.out nd)
  have n1_ := Aside0.mk (pw_below_drewN HB.out nd)
  have n2_ := Aside0.mk (blk_drewN B10.out nd)
  have n3_ := Aside0.mk (Kd.C_below CM.out (pw_below_drewN (Below.refl _ _) nd))
  clear BX HB B10 CM hcy0 hcy1
  have BX := n0_
  have HB := n1_
  have B10 := n2_
  have CM := n3_
  clear n0_ n1_ n2_ n3_
  generalize w11.drewN nd = wl at BX HB B10 CM ⊢
  go_loopg [11] l.length (fun gg s11 wr => ∃ i : Nat, s11 = .int .i64 i ∧ l.length - i ≤ gg ∧ Aside0 (i ≤ l.length) ∧ Aside0 (wr.heap[gb]? = some (.cells #[.slice A l.length c] 24 (0, 0))) ∧ Aside0 (wr.heap[b10]? = some (.cells #[.slice (some ⟨gf, 0, none⟩) l.length cf] 24 (0, 0))) ∧ Aside0 (Below w.heap.size w wr) ∧ Aside0 (Kd.C k33 wr (some ⟨gf, 0, none⟩) M.length M))
  case atStart => exact ⟨0, rfl, by omega, ⟨Nat.zero_le _⟩, BX, B10, HB, CM⟩
  case round =>
   clear BX B10 HB CM
   obtain ⟨i, rfl, hgg, HI, BX, B10, HB, CM⟩ := hrel
   by_cases hlt : i < l.length
   ·have hltz : (i : Int) < (l.length : Int) := by omega
    have HLT := Aside0.mk hlt
    go_wp2
    go_loopg [12] l.length (fun gg s12 wr => ∃ j : Nat, s12 = .int .i64 j ∧ l.length - j ≤ gg ∧ Aside0 (j ≤ l.length) ∧ Aside0 (wr.heap[gb]? = some (.cells #[.slice A l.length c] 24 (0, 0))) ∧ Aside0 (wr.heap[b10]? = some (.cells #[.slice (some ⟨gf, 0, none⟩) l.length cf] 24 (0, 0))) ∧ Aside0 (Below w.heap.size w wr) ∧ Aside0 (Kd.C k33 wr (some ⟨gf, 0, none⟩) M.length M))
    case atStart => exact ⟨0, rfl, by omega, ⟨Nat.zero_le _⟩, BX, B10, HB, CM⟩
    case round =>
     clear BX B10 HB CM
     obtain ⟨j, rfl, hgg2, HJ, BX, B10, HB, CM⟩ := hrel
     by_cases hlt2 : j < l.length
     ·have hltz2 : (j : Int) < (l.length : Int) := by omega
      have HLT2 := Aside0.mk hlt2
      have hm := Q3.out i HLT.out j hlt2
      unfold moreAt at hm
      obtain ⟨was, hw, h1⟩ := Option.bind_eq_some_iff.1 hm
      obtain ⟨p, hp, h2⟩ := Option.bind_eq_some_iff.1 h1
      obtain ⟨q, hq, h3⟩ := Option.bind_eq_some_iff.1 h2
      obtain ⟨now, hn, h4⟩ := Option.bind_eq_some_iff.1 h3
      have h5 := Option.some.inj h4
      have W1 := Aside0.mk hw
      have W2 := Aside0.mk hp
      have W3 := Aside0.mk hq
      have W4 := Aside0.mk hn
      have e1 : ((i : Int) == (x : Int)) = (i == x) := by
       rw [Bool.eq_iff_iff, beq_iff_eq, beq_iff_eq]; omega
      have e2 : ((j : Int) == (y : Int)) = (j == y) := by
       rw [Bool.eq_iff_iff, beq_iff_eq, beq_iff_eq]; omega
      have HLEN := Aside0.mk (show l.length ≤ 1000 from HL.out.1)
      clear hm hw h1 hp h2 hq h3 hn h4 hlt hlt2
      have hcy0 := (blk_cell BX.out 0).trans rfl
      have hcy1 := (blk_cell B10.out 0).trans rfl
      generalize (i == x) = bx at e1 h5
      generalize (j == y) = by_ at e2 h5
      cases was with
      | true =>
       obtain rfl : now = true := by simpa using h5
       clear h5
       go_wp2_with (first | (go_at_call 9; (with_reducible refine (comes_n k A c l l.length rfl (i : Int) (j : Int) true _ (Kd.C_below HR.out HB.out) HC.out W1.out).mono ?_); rintro e w20 ⟨rfl, hb⟩; have n0_ := Aside0.mk (blk_below BX.out hb); have n1_ := Aside0.mk (below_step HB.out hb); have n2_ := Aside0.mk (blk_below B10.out hb); have n3_ := Aside0.mk (Kd.C_below CM.out hb); clear BX HB B10 CM hb hcy0 hcy1; have BX := n0_; have HB := n1_; have B10 := n2_; have CM := n3_; clear n0_ n1_ n2_ n3_; have hcy0 := (blk_cell BX.out 0).trans rfl; have hcy1 := (blk_cell B10.out 0).trans rfl) | (go_at_call 9; (with_reducible refine (comes_n k (some ⟨gf, 0, none⟩) cf M l.length HM.out (i : Int) (j : Int) true _ CM.out HCF.out W4.out).mono ?_); rintro e w23 ⟨rfl, hb⟩; have n0_ := Aside0.mk (blk_below BX.out hb); have n1_ := Aside0.mk (below_step HB.out hb); have n2_ := Aside0.mk (blk_below B10.out hb); have n3_ := Aside0.mk (Kd.C_below CM.out hb); clear BX HB B10 CM hb hcy0 hcy1; have BX := n0_; have HB := n1_; have B10 := n2_; have CM := n3_; clear n0_ n1_ n2_ n3_; have hcy0 := (blk_cell BX.out 0).trans rfl; have hcy1 := (blk_cell B10.out 0).trans rfl))
       go_roundg (l.length - (j + 1))
       case measure => omega
       case rel => exact ⟨j + 1, by (have h1_ := HLEN.out; have h2_ := HLT2.out; first | go_num | (rw [wrap64_small _ (by omega) (by omega)]; go_num)), Nat.le_refl _, ⟨by have := HLT2.out; omega⟩, BX, B10, HB, CM⟩
      | false =>
       cases bx with
       | true =>
        cases by_ with
        | true =>
         obtain rfl : now = true := by simpa using h5
         clear h5
         go_wp2_with (first | (go_at_call 9; (with_reducible refine (comes_n k A c l l.length rfl (i : Int) (j : Int) false _ (Kd.C_below HR.out HB.out) HC.out W1.out).mono ?_); rintro e w20 ⟨rfl, hb⟩; have n0_ := Aside0.mk (blk_below BX.out hb); have n1_ := Aside0.mk (below_step HB.out hb); have n2_ := Aside0.mk (blk_below B10.out hb); have n3_ := Aside0.mk (Kd.C_below CM.out hb); clear BX HB B10 CM hb hcy0 hcy1; have BX := n0_; have HB := n1_; have B10 := n2_; have CM := n3_; clear n0_ n1_ n2_ n3_; have hcy0 := (blk_cell BX.out 0).trans rfl; have hcy1 := (blk_cell B10.out 0).trans rfl) | (go_at_call 9; (with_reducible refine (comes_n k (some ⟨gf, 0, none⟩) cf M l.length HM.out (i : Int) (j : Int) true _ CM.out HCF.out W4.out).mono ?_); rintro e w23 ⟨rfl, hb⟩; have n0_ := Aside0.mk (blk_below BX.out hb); have n1_ := Aside0.mk (below_step HB.out hb); have n2_ := Aside0.mk (blk_below B10.out hb); have n3_ := Aside0.mk (Kd.C_below CM.out hb); clear BX HB B10 CM hb hcy0 hcy1; have BX := n0_; have HB := n1_; have B10 := n2_; have CM := n3_; clear n0_ n1_ n2_ n3_; have hcy0 := (blk_cell BX.out 0).trans rfl; have hcy1 := (blk_cell B10.out 0).trans rfl))
         go_roundg (l.length - (j + 1))
         case measure => omega
         case rel => exact ⟨j + 1, by (have h1_ := HLEN.out; have h2_ := HLT2.out; first | go_num | (rw [wrap64_small _ (by omega) (by omega)]; go_num)), Nat.le_refl _, ⟨by have := HLT2.out; omega⟩, BX, B10, HB, CM⟩
        | false =>
         cases q with
         | true =>
          obtain rfl : now = true := by simpa using h5
          clear h5
          go_wp2_with (first | (go_at_call 9; (with_reducible refine (comes_n k A c l l.length rfl (i : Int) (j : Int) false _ (Kd.C_below HR.out HB.out) HC.out W1.out).mono ?_); rintro e w20 ⟨rfl, hb⟩; have n0_ := Aside0.mk (blk_below BX.out hb); have n1_ := Aside0.mk (below_step HB.out hb); have n2_ := Aside0.mk (blk_below B10.out hb); have n3_ := Aside0.mk (Kd.C_below CM.out hb); clear BX HB B10 CM hb hcy0 hcy1; have BX := n0_; have HB := n1_; have B10 := n2_; have CM := n3_; clear n0_ n1_ n2_ n3_; have hcy0 := (blk_cell BX.out 0).trans rfl; have hcy1 := (blk_cell B10.out 0).trans rfl) | (go_at_call 9; (with_reducible refine (comes_n k A c l l.length rfl (y : Int) (j : Int) true _ (Kd.C_below HR.out HB.out) HC.out W3.out).mono ?_); rintro e w22 ⟨rfl, hb⟩; have n0_ := Aside0.mk (blk_below BX.out hb); have n1_ := Aside0.mk (below_step HB.out hb); have n2_ := Aside0.mk (blk_below B10.out hb); have n3_ := Aside0.mk (Kd.C_below CM.out hb); clear BX HB B10 CM hb hcy0 hcy1; have BX := n0_; have HB := n1_; have B10 := n2_; have CM := n3_; clear n0_ n1_ n2_ n3_; have hcy0 := (blk_cell BX.out 0).trans rfl; have hcy1 := (blk_cell B10.out 0).trans rfl) | (go_at_call 9; (with_reducible refine (comes_n k (some ⟨gf, 0, none⟩) cf M l.length HM.out (i : Int) (j : Int) true _ CM.out HCF.out W4.out).mono ?_); rintro e w23 ⟨rfl, hb⟩; have n0_ := Aside0.mk (blk_below BX.out hb); have n1_ := Aside0.mk (below_step HB.out hb); have n2_ := Aside0.mk (blk_below B10.out hb); have n3_ := Aside0.mk (Kd.C_below CM.out hb); clear BX HB B10 CM hb hcy0 hcy1; have BX := n0_; have HB := n1_; have B10 := n2_; have CM := n3_; clear n0_ n1_ n2_ n3_; have hcy0 := (blk_cell BX.out 0).trans rfl; have hcy1 := (blk_cell B10.out 0).trans rfl))
          go_roundg (l.length - (j + 1))
          case measure => omega
          case rel => exact ⟨j + 1, by (have h1_ := HLEN.out; have h2_ := HLT2.out; first | go_num | (rw [wrap64_small _ (by omega) (by omega)]; go_num)), Nat.le_refl _, ⟨by have := HLT2.out; omega⟩, BX, B10, HB, CM⟩
         | false =>
          obtain rfl : now = false := by simpa using h5
          clear h5
          go_wp2_with (first | (go_at_call 9; (with_reducible refine (comes_n k A c l l.length rfl (i : Int) (j : Int) false _ (Kd.C_below HR.out HB.out) HC.out W1.out).mono ?_); rintro e w20 ⟨rfl, hb⟩; have n0_ := Aside0.mk (blk_below BX.out hb); have n1_ := Aside0.mk (below_step HB.out hb); have n2_ := Aside0.mk (blk_below B10.out hb); have n3_ := Aside0.mk (Kd.C_below CM.out hb); clear BX HB B10 CM hb hcy0 hcy1; have BX := n0_; have HB := n1_; have B10 := n2_; have CM := n3_; clear n0_ n1_ n2_ n3_; have hcy0 := (blk_cell BX.out 0).trans rfl; have hcy1 := (blk_cell B10.out 0).trans rfl) | (go_at_call 9; (with_reducible refine (comes_n k A c l l.length rfl (y : Int) (j : Int) false _ (Kd.C_below HR.out HB.out) HC.out W3.out).mono ?_); rintro e w22 ⟨rfl, hb⟩; have n0_ := Aside0.mk (blk_below BX.out hb); have n1_ := Aside0.mk (below_step HB.out hb); have n2_ := Aside0.mk (blk_below B10.out hb); have n3_ := Aside0.mk (Kd.C_below CM.out hb); clear BX HB B10 CM hb hcy0 hcy1; have BX := n0_; have HB := n1_; have B10 := n2_; have CM := n3_; clear n0_ n1_ n2_ n3_; have hcy0 := (blk_cell BX.out 0).trans rfl; have hcy1 := (blk_cell B10.out 0).trans rfl) | (go_at_call 9; (with_reducible refine (comes_n k (some ⟨gf, 0, none⟩) cf M l.length HM.out (i : Int) (j : Int) false _ CM.out HCF.out W4.out).mono ?_); rintro e w23 ⟨rfl, hb⟩; have n0_ := Aside0.mk (blk_below BX.out hb); have n1_ := Aside0.mk (below_step HB.out hb); have n2_ := Aside0.mk (blk_below B10.out hb); have n3_ := Aside0.mk (Kd.C_below CM.out hb); clear BX HB B10 CM hb hcy0 hcy1; have BX := n0_; have HB := n1_; have B10 := n2_; have CM := n3_; clear n0_ n1_ n2_ n3_; have hcy0 := (blk_cell BX.out 0).trans rfl; have hcy1 := (blk_cell B10.out 0).trans rfl))
          go_roundg (l.length - (j + 1))
          case measure => omega
          case rel => exact ⟨j + 1, by (have h1_ := HLEN.out; have h2_ := HLT2.out; first | go_num | (rw [wrap64_small _ (by omega) (by omega)]; go_num)), Nat.le_refl _, ⟨by have := HLT2.out; omega⟩, BX, B10, HB, CM⟩
       | false =>
        cases p with
        | true =>
         cases by_ with
         | true =>
          obtain rfl : now = true := by simpa using h5
          clear h5
          go_wp2_with (first | (go_at_call 9; (with_reducible refine (comes_n k A c l l.length rfl (i : Int) (j : Int) false _ (Kd.C_below HR.out HB.out) HC.out W1.out).mono ?_); rintro e w20 ⟨rfl, hb⟩; have n0_ := Aside0.mk (blk_below BX.out hb); have n1_ := Aside0.mk (below_step HB.out hb); have n2_ := Aside0.mk (blk_below B10.out hb); have n3_ := Aside0.mk (Kd.C_below CM.out hb); clear BX HB B10 CM hb hcy0 hcy1; have BX := n0_; have HB := n1_; have B10 := n2_; have CM := n3_; clear n0_ n1_ n2_ n3_; have hcy0 := (blk_cell BX.out 0).trans rfl; have hcy1 := (blk_cell B10.out 0).trans rfl) | (go_at_call 9; (with_reducible refine (comes_n k A c l l.length rfl (i : Int) (x : Int) true _ (Kd.C_below HR.out HB.out) HC.out W2.out).mono ?_); rintro e w21 ⟨rfl, hb⟩; have n0_ := Aside0.mk (blk_below BX.out hb); have n1_ := Aside0.mk (below_step HB.out hb); have n2_ := Aside0.mk (blk_below B10.out hb); have n3_ := Aside0.mk (Kd.C_below CM.out hb); clear BX HB B10 CM hb hcy0 hcy1; have BX := n0_; have HB := n1_; have B10 := n2_; have CM := n3_; clear n0_ n1_ n2_ n3_; have hcy0 := (blk_cell BX.out 0).trans rfl; have hcy1 := (blk_cell B10.out 0).trans rfl) | (go_at_call 9; (with_reducible refine (comes_n k (some ⟨gf, 0, none⟩) cf M l.length HM.out (i : Int) (j : Int) true _ CM.out HCF.out W4.out).mono ?_); rintro e w23 ⟨rfl, hb⟩; have n0_ := Aside0.mk (blk_below BX.out hb); have n1_ := Aside0.mk (below_step HB.out hb); have n2_ := Aside0.mk (blk_below B10.out hb); have n3_ := Aside0.mk (Kd.C_below CM.out hb); clear BX HB B10 CM hb hcy0 hcy1; have BX := n0_; have HB := n1_; have B10 := n2_; have CM := n3_; clear n0_ n1_ n2_ n3_; have hcy0 := (blk_cell BX.out 0).trans rfl; have hcy1 := (blk_cell B10.out 0).trans rfl))
          go_roundg (l.length - (j + 1))
          case measure => omega
          case rel => exact ⟨j + 1, by (have h1_ := HLEN.out; have h2_ := HLT2.out; first | go_num | (rw [wrap64_small _ (by omega) (by omega)]; go_num)), Nat.le_refl _, ⟨by have := HLT2.out; omega⟩, BX, B10, HB, CM⟩
         | false =>
          cases q with
          | true =>
           obtain rfl : now = true := by simpa using h5
           clear h5
           go_wp2_with (first | (go_at_call 9; (with_reducible refine (comes_n k A c l l.length rfl (i : Int) (j : Int) false _ (Kd.C_below HR.out HB.out) HC.out W1.out).mono ?_); rintro e w20 ⟨rfl, hb⟩; have n0_ := Aside0.mk (blk_below BX.out hb); have n1_ := Aside0.mk (below_step HB.out hb); have n2_ := Aside0.mk (blk_below B10.out hb); have n3_ := Aside0.mk (Kd.C_below CM.out hb); clear BX HB B10 CM hb hcy0 hcy1; have BX := n0_; have HB := n1_; have B10 := n2_; have CM := n3_; clear n0_ n1_ n2_ n3_; have hcy0 := (blk_cell BX.out 0).trans rfl; have hcy1 := (blk_cell B10.out 0).trans rfl) | (go_at_call 9; (with_reducible refine (comes_n k A c l l.length rfl (i : Int) (x : Int) true _ (Kd.C_below HR.out HB.out) HC.out W2.out).mono ?_); rintro e w21 ⟨rfl, hb⟩; have n0_ := Aside0.mk (blk_below BX.out hb); have n1_ := Aside0.mk (below_step HB.out hb); have n2_ := Aside0.mk (blk_below B10.out hb); have n3_ := Aside0.mk (Kd.C_below CM.out hb); clear BX HB B10 CM hb hcy0 hcy1; have BX := n0_; have HB := n1_; have B10 := n2_; have CM := n3_; clear n0_ n1_ n2_ n3_; have hcy0 := (blk_cell BX.out 0).trans rfl; have hcy1 := (blk_cell B10.out 0).trans rfl) | (go_at_call 9; (with_reducible refine (comes_n k A c l l.length rfl (y : Int) (j : Int) true _ (Kd.C_below HR.out HB.out) HC.out W3.out).mono ?_); rintro e w22 ⟨rfl, hb⟩; have n0_ := Aside0.mk (blk_below BX.out hb); have n1_ := Aside0.mk (below_step HB.out hb); have n2_ := Aside0.mk (blk_below B10.out hb); have n3_ := Aside0.mk (Kd.C_below CM.out hb); clear BX HB B10 CM hb hcy0 hcy1; have BX := n0_; have HB := n1_; have B10 := n2_; have CM := n3_; clear n0_ n1_ n2_ n3_; have hcy0 := (blk_cell BX.out 0).trans rfl; have hcy1 := (blk_cell B10.out 0).trans rfl) | (go_at_call 9; (with_reducible refine (comes_n k (some ⟨gf, 0, none⟩) cf M l.length HM.out (i : Int) (j : Int) true _ CM.out HCF.out W4.out).mono ?_); rintro e w23 ⟨rfl, hb⟩; have n0_ := Aside0.mk (blk_below BX.out hb); have n1_ := Aside0.mk (below_step HB.out hb); have n2_ := Aside0.mk (blk_below B10.out hb); have n3_ := Aside0.mk (Kd.C_below CM.out hb); clear BX HB B10 CM hb hcy0 hcy1; have BX := n0_; have HB := n1_; have B10 := n2_; have CM := n3_; clear n0_ n1_ n2_ n3_; have hcy0 := (blk_cell BX.out 0).trans rfl; have hcy1 := (blk_cell B10.out 0).trans rfl))
           go_roundg (l.length - (j + 1))
           case measure => omega
           case rel => exact ⟨j + 1, by (have h1_ := HLEN.out; have h2_ := HLT2.out; first | go_num | (rw [wrap64_small _ (by omega) (by omega)]; go_num)), Nat.le_refl _, ⟨by have := HLT2.out; omega⟩, BX, B10, HB, CM⟩
          | false =>
           obtain rfl : now = false := by simpa using h5
           clear h5
           go_wp2_with (first | (go_at_call 9; (with_reducible refine (comes_n k A c l l.length rfl (i : Int) (j : Int) false _ (Kd.C_below HR.out HB.out) HC.out W1.out).mono ?_); rintro e w20 ⟨rfl, hb⟩; have n0_ := Aside0.mk (blk_below BX.out hb); have n1_ := Aside0.mk (below_step HB.out hb); have n2_ := Aside0.mk (blk_below B10.out hb); have n3_ := Aside0.mk (Kd.C_below CM.out hb); clear BX HB B10 CM hb hcy0 hcy1; have BX := n0_; have HB := n1_; have B10 := n2_; have CM := n3_; clear n0_ n1_ n2_ n3_; have hcy0 := (blk_cell BX.out 0).trans rfl; have hcy1 := (blk_cell B10.out 0).trans rfl) | (go_at_call 9; (with_reducible refine (comes_n k A c l l.length rfl (i : Int) (x : Int) true _ (Kd.C_below HR.out HB.out) HC.out W2.out).mono ?_); rintro e w21 ⟨rfl, hb⟩; have n0_ := Aside0.mk (blk_below BX.out hb); have n1_ := Aside0.mk (below_step HB.out hb); have n2_ := Aside0.mk (blk_below B10.out hb); have n3_ := Aside0.mk (Kd.C_below CM.out hb); clear BX HB B10 CM hb hcy0 hcy1; have BX := n0_; have HB := n1_; have B10 := n2_; have CM := n3_; clear n0_ n1_ n2_ n3_; have hcy0 := (blk_cell BX.out 0).trans rfl; have hcy1 := (blk_cell B10.out 0).trans rfl) | (go_at_call 9; (with_reducible refine (comes_n k A c l l.length rfl (y : Int) (j : Int) false _ (Kd.C_below HR.out HB.out) HC.out W3.out).mono ?_); rintro e w22 ⟨rfl, hb⟩; have n0_ := Aside0.mk (blk_below BX.out hb); have n1_ := Aside0.mk (below_step HB.out hb); have n2_ := Aside0.mk (blk_below B10.out hb); have n3_ := Aside0.mk (Kd.C_below CM.out hb); clear BX HB B10 CM hb hcy0 hcy1; have BX := n0_; have HB := n1_; have B10 := n2_; have CM := n3_; clear n0_ n1_ n2_ n3_; have hcy0 := (blk_cell BX.out 0).trans rfl; have hcy1 := (blk_cell B10.out 0).trans rfl) | (go_at_call 9; (with_reducible refine (comes_n k (some ⟨gf, 0, none⟩) cf M l.length HM.out (i : Int) (j : Int) false _ CM.out HCF.out W4.out).mono ?_); rintro e w23 ⟨rfl, hb⟩; have n0_ := Aside0.mk (blk_below BX.out hb); have n1_ := Aside0.mk (below_step HB.out hb); have n2_ := Aside0.mk (blk_below B10.out hb); have n3_ := Aside0.mk (Kd.C_below CM.out hb); clear BX HB B10 CM hb hcy0 hcy1; have BX := n0_; have HB := n1_; have B10 := n2_; have CM := n3_; clear n0_ n1_ n2_ n3_; have hcy0 := (blk_cell BX.out 0).trans rfl; have hcy1 := (blk_cell B10.out 0).trans rfl))
           go_roundg (l.length - (j + 1))
           case measure => omega
           case rel => exact ⟨j + 1, by (have h1_ := HLEN.out; have h2_ := HLT2.out; first | go_num | (rw [wrap64_small _ (by omega) (by omega)]; go_num)), Nat.le_refl _, ⟨by have := HLT2.out; omega⟩, BX, B10, HB, CM⟩
        | false =>
         obtain rfl : now = false := by simpa using h5
         clear h5
         go_wp2_with (first | (go_at_call 9; (with_reducible refine (comes_n k A c l l.length rfl (i : Int) (j : Int) false _ (Kd.C_below HR.out HB.out) HC.out W1.out).mono ?_); rintro e w20 ⟨rfl, hb⟩; have n0_ := Aside0.mk (blk_below BX.out hb); have n1_ := Aside0.mk (below_step HB.out hb); have n2_ := Aside0.mk (blk_below B10.out hb); have n3_ := Aside0.mk (Kd.C_below CM.out hb); clear BX HB B10 CM hb hcy0 hcy1; have BX := n0_; have HB := n1_; have B10 := n2_; have CM := n3_; clear n0_ n1_ n2_ n3_; have hcy0 := (blk_cell BX.out 0).trans rfl; have hcy1 := (blk_cell B10.out 0).trans rfl) | (go_at_call 9; (with_reducible refine (comes_n k A c l l.length rfl (i : Int) (x : Int) false _ (Kd.C_below HR.out HB.out) HC.out W2.out).mono ?_); rintro e w21 ⟨rfl, hb⟩; have n0_ := Aside0.mk (blk_below BX.out hb); have n1_ := Aside0.mk (below_step HB.out hb); have n2_ := Aside0.mk (blk_below B10.out hb); have n3_ := Aside0.mk (Kd.C_below CM.out hb); clear BX HB B10 CM hb hcy0 hcy1; have BX := n0_; have HB := n1_; have B10 := n2_; have CM := n3_; clear n0_ n1_ n2_ n3_; have hcy0 := (blk_cell BX.out 0).trans rfl; have hcy1 := (blk_cell B10.out 0).trans rfl) | (go_at_call 9; (with_reducible refine (comes_n k (some ⟨gf, 0, none⟩) cf M l.length HM.out (i : Int) (j : Int) false _ CM.out HCF.out W4.out).mono ?_); rintro e w23 ⟨rfl, hb⟩; have n0_ := Aside0.mk (blk_below BX.out hb); have n1_ := Aside0.mk (below_step HB.out hb); have n2_ := Aside0.mk (blk_below B10.out hb); have n3_ := Aside0.mk (Kd.C_below CM.out hb); clear BX HB B10 CM hb hcy0 hcy1; have BX := n0_; have HB := n1_; have B10 := n2_; have CM := n3_; clear n0_ n1_ n2_ n3_; have hcy0 := (blk_cell BX.out 0).trans rfl; have hcy1 := (blk_cell B10.out 0).trans rfl))
         go_roundg (l.length - (j + 1))
         case measure => omega
         case rel => exact ⟨j + 1, by (have h1_ := HLEN.out; have h2_ := HLT2.out; first | go_num | (rw [wrap64_small _ (by omega) (by omega)]; go_num)), Nat.le_refl _, ⟨by have := HLT2.out; omega⟩, BX, B10, HB, CM⟩
     ·have HZE := Aside0.mk (show j = l.length by have := HJ.out; omega)
      have hltz2 : ¬ (j : Int) < (l.length : Int) := by omega
      have hd2 : decide ((j : Int) < (l.length : Int)) = false := decide_eq_false hltz2
      clear hltz2
      go_wp2
      go_roundg (l.length - (i + 1))
      case measure => omega
      case rel => exact ⟨i + 1, by (have h1_ := HL.out.1; have h2_ := HLT.out; first | go_num | (rw [wrap64_small _ (by omega) (by omega)]; go_num)), Nat.le_refl _, ⟨by have := HLT.out; omega⟩, BX, B10, HB, CM⟩
   ·have hltz : ¬ (i : Int) < (l.length : Int) := by omega
    have hd1 : decide ((i : Int) < (l.length : Int)) = false := decide_eq_false hltz
    clear hltz
    go_wp2
    go_ret
    exact ⟨rfl, HB.out⟩
 ·rw [if_neg h2] at h
  obtain rfl := Option.some.inj h
  have H2 := Aside0.mk h2
  have HT := Aside0.mk ht
  have HS := Aside0.mk hs
  have HR := Aside0.mk hr
  have HC := Aside0.mk hc
  have hu24 := Try.underlying24
  have hu33 := Try.underlying33
  clear h h2 ht hs hr hc ha0 ha1 hb0 hb1
  go_enter Try.func4, Try.ntmps4
  cases s with
  | false =>
   go_wp2_with (first | ((with_reducible refine gate_dst (N := 3) rfl ?_); refine box_event ?hg (N := 3) ?hd (cs := #[.slice A l.length c]) (t := 24) ?hr ?_; (case hd => rfl); (case hg => rfl); (case hr => first | (go_simp; done) | (go_simp; rfl)); intro gb hg w4 hbox hb; have HB := Aside0.mk hb; have HGB := Aside0.mk (show w.heap.size ≤ gb from Nat.le_of_eq hg.symm); have BX := Aside0.mk hbox; have hcy0 : w4.cell? ⟨gb, 0, none⟩ = some (.slice A l.length c) := (blk_cell hbox 0).trans rfl; clear hbox hb hg) | (go_at_call 6; (with_reducible refine (davitlaw11_awake.calls k true _ HT.out).mono ?_); rintro e w5 ⟨rfl, hb⟩; have n0_ := Aside0.mk (blk_below BX.out hb); have n1_ := Aside0.mk (below_step HB.out hb); clear BX HB hb hcy0; have BX := n0_; have HB := n1_; clear n0_ n1_; have hcy0 := (blk_cell BX.out 0).trans rfl) | (go_at_call 7; (with_reducible refine (davitref02_Short.calls k A c l false _ (Kd.C_below HR.out HB.out) HC.out HS.out).mono ?_); rintro e w6 ⟨rfl, hb⟩; have n0_ := Aside0.mk (blk_below BX.out hb); have n1_ := Aside0.mk (below_step HB.out hb); clear BX HB hb hcy0; have BX := n0_; have HB := n1_; clear n0_ n1_; have hcy0 := (blk_cell BX.out 0).trans rfl))
   go_ret
   exact ⟨rfl, HB.out⟩
  | true =>
   have hl1 : ((l.length : Int) == 0) = true := by
    have := H2.out
    have : l.length = 0 := by
     rcases Nat.eq_zero_or_pos l.length with h | h
     ·exact h
     ·exact absurd ⟨rfl, h⟩ this
    rw [this]; rfl
   go_wp2_with (first | ((with_reducible refine gate_dst (N := 3) rfl ?_); refine box_event ?hg (N := 3) ?hd (cs := #[.slice A l.length c]) (t := 24) ?hr ?_; (case hd => rfl); (case hg => rfl); (case hr => first | (go_simp; done) | (go_simp; rfl)); intro gb hg w4 hbox hb; have HB := Aside0.mk hb; have HGB := Aside0.mk (show w.heap.size ≤ gb from Nat.le_of_eq hg.symm); have BX := Aside0.mk hbox; have hcy0 : w4.cell? ⟨gb, 0, none⟩ = some (.slice A l.length c) := (blk_cell hbox 0).trans rfl; clear hbox hb hg) | (go_at_call 6; (with_reducible refine (davitlaw11_awake.calls k true _ HT.out).mono ?_); rintro e w5 ⟨rfl, hb⟩; have n0_ := Aside0.mk (blk_below BX.out hb); have n1_ := Aside0.mk (below_step HB.out hb); clear BX HB hb hcy0; have BX := n0_; have HB := n1_; clear n0_ n1_; have hcy0 := (blk_cell BX.out 0).trans rfl) | (go_at_call 7; (with_reducible refine (davitref02_Short.calls k A c l true _ (Kd.C_below HR.out HB.out) HC.out HS.out).mono ?_); rintro e w6 ⟨rfl, hb⟩; have n0_ := Aside0.mk (blk_below BX.out hb); have n1_ := Aside0.mk (below_step HB.out hb); clear BX HB hb hcy0; have BX := n0_; have HB := n1_; clear n0_ n1_; have hcy0 := (blk_cell BX.out 0).trans rfl))
   go_ret
   exact ⟨rfl, HB.out⟩
end Go.Proofs.Ytjjcnbfmmhokeaa.X
namespace Go.Proofs.Ytjjcnbfmmhokeaa.G
open Go.Proofs.Ytjjcnbfmmhokeaa.X Go.RowKit Go.Proofs.YtjjcnbfmmhokeaaW.PrintWords
set_option linter.all false
def Evt {α : Type} (g : Nat → Option α) (r : α) : Prop := ∃ k0, ∀ k, k0 ≤ k → g k = some r
theorem Evt.succ {α : Type} {g : Nat → Option α} {r : α} (h : Evt (fun k => g (k + 1)) r) : Evt g r := by
 obtain ⟨k0, h⟩ := h
 refine ⟨k0 + 1, fun k hk => ?_⟩
 obtain ⟨j, rfl⟩ : ∃ j, k = j + 1 := ⟨k - 1, by omega⟩
 exact h j (by omega)
theorem Evt.bind {α β : Type} {g : Nat → Option α} {h : Nat → α → Option β} {a : α} {r : β} (h1 : Evt g a) (h2 : Evt (fun k => h k a) r) : Evt (fun k => (g k).bind (h k)) r := by
 obtain ⟨k1, h1⟩ := h1
 obtain ⟨k2, h2⟩ := h2
 refine ⟨k1 + k2, fun k hk => ?_⟩
 show (g k).bind (h k) = some r
 rw [h1 k (by omega)]
 exact h2 k (by omega)
theorem Evt.pure {α : Type} (r : α) : Evt (fun _ => some r) r := ⟨0, fun _ _ => rfl⟩
theorem Evt.const {α : Type} {o : Option α} {r : α} (h : o = some r) : Evt (fun _ => o) r := ⟨0, fun _ _ => h⟩
theorem Evt.congr {α : Type} {g g' : Nat → Option α} {r : α} (h : Evt g' r) (e : ∀ k, g k = g' k) : Evt g r := by
 obtain ⟨k0, h⟩ := h
 exact ⟨k0, fun k hk => (e k).trans (h k hk)⟩
theorem Evt.inj {α : Type} {g : Nat → Option α} {r s : α} (h1 : Evt g r) (h2 : Evt g s) : r = s := by
 obtain ⟨k1, h1⟩ := h1
 obtain ⟨k2, h2⟩ := h2
 have e1 := h1 (k1 + k2) (by omega)
 have e2 := h2 (k1 + k2) (by omega)
 rw [e1] at e2
 exact Option.some.inj e2
theorem Evt.ex {α : Type} {g : Nat → Option α} {r : α} (h : Evt g r) : ∃ k, g k = some r := by
 obtain ⟨k0, h⟩ := h
 exact ⟨k0, h k0 (Nat.le_refl _)⟩
theorem Evt.of_mono {α : Type} {g : Nat → Option α} {r : α} (hm : ∀ k, LeO (g k) (g (k + 1))) {k : Nat} (h : g k = some r) : Evt g r := by
 refine ⟨k, fun j hj => ?_⟩
 obtain ⟨d, rfl⟩ := Nat.exists_eq_add_of_le hj
 clear hj
 induction d with
 | zero => exact h
 | succ d ih => exact hm (k + d) _ ih
theorem wrap_small (n : Int) (h0 : -9223372036854775808 ≤ n) (h1 : n ≤ 9223372036854775807) : wrap64 n = n := by unfold wrap64; omega
theorem getD_in {α : Type} (l : List α) (k : Nat) (z : α) (h : k < l.length) : l.getD k z ∈ l := by
 rw [List.getD_eq_getElem?_getD, List.getElem?_eq_getElem h]
 exact List.getElem_mem h
theorem take_snoc {α : Type} (l : List α) (k : Nat) (z : α) (h : k < l.length) : l.take (k + 1) = l.take k ++ [l.getD k z] := by
 rw [List.take_succ_eq_append_getElem h, List.getD_eq_getElem?_getD, List.getElem?_eq_getElem h]; rfl
theorem of_getD {α : Type} {l : List α} {x : α} (h : x ∈ l) (z : α) : ∃ k, k < l.length ∧ l.getD k z = x := by
 obtain ⟨k, hk, rfl⟩ := List.getElem_of_mem h
 exact ⟨k, hk, by rw [List.getD_eq_getElem?_getD, List.getElem?_eq_getElem hk]; rfl⟩
theorem cast_succ (i : Nat) : (((i + 1 : Nat)) : Int) = (i : Int) + 1 := by omega
end Go.Proofs.Ytjjcnbfmmhokeaa.G
namespace Go.Proofs.Ytjjcnbfmmhokeaa.G
open Go.RowKit
set_option linter.all false
theorem strict_ext : ∀ (l l' : List Int), l.Pairwise (· < ·) → l'.Pairwise (· < ·) → (∀ x, x ∈ l ↔ x ∈ l') → l = l'
 | [], [], _, _, _ => rfl
 | [], y :: l', _, _, h => absurd ((h y).2 (List.mem_cons_self ..)) (by simp)
 | x :: l, [], _, _, h => absurd ((h x).1 (List.mem_cons_self ..)) (by simp)
 | x :: l, y :: l', h1, h2, h => by
  obtain ⟨a1, a2⟩ := List.pairwise_cons.1 h1
  obtain ⟨b1, b2⟩ := List.pairwise_cons.1 h2
  have e : x = y := by
   rcases List.mem_cons.1 ((h x).1 (List.mem_cons_self ..)) with e | e
   ·exact e
   ·rcases List.mem_cons.1 ((h y).2 (List.mem_cons_self ..)) with e' | e'
    ·exact e'.symm
    ·have := a1 y e'; have := b1 x e; omega
  subst e
  congr 1
  refine strict_ext l l' a2 b2 fun z => ⟨fun hz => ?_, fun hz => ?_⟩
  ·rcases List.mem_cons.1 ((h z).1 (List.mem_cons_of_mem _ hz)) with e | e
   ·have := a1 z hz; omega
   ·exact e
  ·rcases List.mem_cons.1 ((h z).2 (List.mem_cons_of_mem _ hz)) with e | e
   ·have := b1 z hz; omega
   ·exact e
theorem compact_up (d : Array Int) (hs : ∀ i j, i ≤ j → j < d.size → d[i]! ≤ d[j]!) : ∀ m, m ≤ d.size →
  (Lib.compactUpTo d m).Pairwise (· < ·) ∧ (∀ x ∈ Lib.compactUpTo d m, ∃ j, j < m ∧ x = d[j]!) ∧ (∀ j, j < m → d[j]! ∈ Lib.compactUpTo d m)
 | 0, _ => by simp [Lib.compactUpTo]
 | m + 1, hm => by
  obtain ⟨h1, h2, h3⟩ := compact_up d hs m (by omega)
  rw [Lib.compactUpTo_succ]
  by_cases hk : Lib.keeps d m = true
  ·rw [if_pos hk]
   refine ⟨List.pairwise_append.2 ⟨h1, by simp, fun a ha b hb => ?_⟩, fun x hx => ?_, fun j hj => ?_⟩
   ·rw [List.mem_singleton.1 hb]
    obtain ⟨j, hj, rfl⟩ := h2 a ha
    have q1 := hs j (m - 1) (by omega) (by omega)
    have q2 := hs (m - 1) m (by omega) (by omega)
    have q3 : d[m]! ≠ d[m - 1]! := by
     intro e
     rw [Lib.keeps_neg (by omega) e] at hk
     cases hk
    omega
   ·rcases List.mem_append.1 hx with hx | hx
    ·obtain ⟨j, hj, e⟩ := h2 x hx
     exact ⟨j, by omega, e⟩
    ·exact ⟨m, by omega, List.mem_singleton.1 hx⟩
   ·by_cases e : j = m
    ·exact List.mem_append_right _ (by rw [e]; simp)
    ·exact List.mem_append_left _ (h3 j (by omega))
  ·rw [if_neg hk, List.append_nil]
   refine ⟨h1, fun x hx => ?_, fun j hj => ?_⟩
   ·obtain ⟨j, hj, e⟩ := h2 x hx
    exact ⟨j, by omega, e⟩
   ·by_cases e : j = m
    ·subst e
     have q : j ≠ 0 ∧ d[j]! = d[j - 1]! := by
      unfold Lib.keeps at hk
      simpa using hk
     rw [q.2]
     exact h3 (j - 1) (by omega)
    ·exact h3 j (by omega)
theorem sorted_compact (l : List Int) : (Lib.compact (l.mergeSort fun x y => decide (x ≤ y))).Pairwise (· < ·) ∧ ∀ x, x ∈ Lib.compact (l.mergeSort fun x y => decide (x ≤ y)) ↔ x ∈ l := by
 have hp := List.pairwise_mergeSort (le := fun x y : Int => decide (x ≤ y)) (fun a b c h1 h2 => by simp at h1 h2 ⊢; omega) (fun a b => by simp; omega) l
 generalize hz : (l.mergeSort fun x y => decide (x ≤ y)) = zs at hp ⊢
 have hm : ∀ x, x ∈ zs ↔ x ∈ l := fun x => by rw [← hz]; exact List.mem_mergeSort
 have hget : ∀ j (h : j < zs.length), zs.toArray[j]! = zs[j] := fun j h => by simp [getElem!_pos, h]
 have hs : ∀ i j, i ≤ j → j < zs.toArray.size → zs.toArray[i]! ≤ zs.toArray[j]! := fun i j hij hj => by
  have hj' : j < zs.length := by simpa using hj
  rw [hget j hj', hget i (by omega)]
  by_cases e : i = j
  ·subst e; exact Int.le_refl _
  ·have := List.pairwise_iff_getElem.1 hp i j (by omega) hj' (by omega)
   simpa using this
 obtain ⟨h1, h2, h3⟩ := compact_up zs.toArray hs zs.length (by simp)
 refine ⟨h1, fun x => (⟨fun hx => ?_, fun hx => ?_⟩ : _ ↔ x ∈ zs).trans (hm x)⟩
 ·obtain ⟨j, hj, rfl⟩ := h2 x hx
  rw [hget j hj]; exact List.getElem_mem hj
 ·obtain ⟨j, hj, rfl⟩ := List.getElem_of_mem hx
  have := h3 j hj
  rw [hget j hj] at this
  exact this
def pickN (p : Nat → Bool) (n : Nat) : List Int := ((List.range n).filter p).map fun (k : Nat) => (k : Int)
theorem pickN_strict (p : Nat → Bool) (n : Nat) : (pickN p n).Pairwise (· < ·) := by
 unfold pickN
 rw [List.pairwise_map]
 exact (List.pairwise_lt_range.sublist List.filter_sublist).imp (fun h => by omega)
theorem mem_pickN {p : Nat → Bool} {n : Nat} {x : Int} : x ∈ pickN p n ↔ ∃ k : Nat, x = (k : Int) ∧ k < n ∧ p k = true := by
 unfold pickN
 rw [List.mem_map]
 constructor
 ·rintro ⟨k, hk, rfl⟩
  have := List.mem_filter.1 hk
  exact ⟨k, rfl, List.mem_range.1 this.1, this.2⟩
 ·rintro ⟨k, rfl, h1, h2⟩
  exact ⟨k, List.mem_filter.2 ⟨List.mem_range.2 h1, h2⟩, rfl⟩
theorem pickN_len (p : Nat → Bool) (n : Nat) : (pickN p n).length ≤ n := by
 unfold pickN
 rw [List.length_map]
 exact Nat.le_trans (List.length_filter_le _ _) (by simp)
theorem compact_pick (l : List Int) (n : Nat) (h : ∀ x ∈ l, 0 ≤ x ∧ x < (n : Int)) : Lib.compact (l.mergeSort fun x y => decide (x ≤ y)) = pickN (fun k => decide ((k : Int) ∈ l)) n := by
 obtain ⟨h1, h2⟩ := sorted_compact l
 refine strict_ext _ _ h1 (pickN_strict _ _) fun x => (h2 x).trans ?_
 rw [mem_pickN]
 constructor
 ·intro hx
  have := h x hx
  exact ⟨x.toNat, by omega, by omega, decide_eq_true (by rw [show ((x.toNat : Nat) : Int) = x by omega]; exact hx)⟩
 ·rintro ⟨k, rfl, _, hk⟩
  exact of_decide_eq_true hk
end Go.Proofs.Ytjjcnbfmmhokeaa.G
namespace Go.Proofs.Ytjjcnbfmmhokeaa.G
open Go.Proofs.Ytjjcnbfmmhokeaa.X Go.RowKit Go.Proofs.YtjjcnbfmmhokeaaW.PrintWords
set_option linter.all false
structure GoodB (b : S44) : Prop where
 ins : b.f2.length ≤ 70
 ctc : b.f1.f1.length ≤ 20
 arg : b.f3.f4.length ≤ 20
 xar : ∀ x ∈ b.f2, x.f6.length ≤ 20
structure GoodF (f : S33) : Prop where
 len : f.f2.length ≤ 70
 blk : ∀ b ∈ f.f2, GoodB b
structure Sh (m : List S33) : Prop where
 len : m.length ≤ 20
 fn : ∀ f ∈ m, GoodF f
structure GoodFW (f : S33) : Prop where
 len : f.f2.length ≤ 71
 blk : ∀ b ∈ f.f2, GoodB b
structure ShW (m : List S33) : Prop where
 len : m.length ≤ 20
 fn : ∀ f ∈ m, GoodFW f
theorem Sh.w {m : List S33} (h : Sh m) : ShW m := ⟨h.len, fun f hf => ⟨Nat.le_succ_of_le (h.fn f hf).len, (h.fn f hf).blk⟩⟩
theorem rdF (l : List S33) (i : Nat) : rd_T33 l (i : Int) = l.getD i z33 := by unfold rd_T33; rw [Int.toNat_natCast]
theorem rdB (l : List S44) (i : Nat) : rd_T44 l (i : Int) = l.getD i z44 := by unfold rd_T44; rw [Int.toNat_natCast]
theorem rdI (l : List S36) (i : Nat) : rd_T36 l (i : Int) = l.getD i z36 := by unfold rd_T36; rw [Int.toNat_natCast]
theorem short_l2 (m : List S33) (n : Int) (i k : Nat) (b : S44) (hk : k < 70) (hb : b.f2.length ≤ 70) (G : Prop)
  (h : ∃ r, Evt (fun f => davitref02_Short.l1 f n (i : Int) ((k : Int) + 1) m) r ∧ (r = true → G)) :
  ∀ (d j : Nat), j + d = b.f2.length → (∀ q, q < j → (b.f2.getD q z36).f6.length ≤ 20) →
   ∃ r, Evt (fun f => davitref02_Short.l2 f n (i : Int) (k : Int) (j : Int) m b.f0 b.f1.f0 b.f1.f1 b.f1.f2 b.f1.f3 b.f2 b.f3.f0 b.f3.f1 b.f3.f2 b.f3.f3 b.f3.f4 b.f3.f5 b.f3.f6 b.f3.f7) r ∧ (r = true → (∀ x ∈ b.f2, x.f6.length ≤ 20) ∧ G) := by
 intro d
 induction d with
 | zero =>
  intro j hj hq
  obtain ⟨r, hr, hG⟩ := h
  refine ⟨r, Evt.succ (Evt.congr hr fun f => ?_), fun e => ⟨fun x hx => ?_, hG e⟩⟩
  ·rw [davitref02_Short.l2, if_neg (by omega), wrap_small _ (by omega) (by omega)]
  ·obtain ⟨q, hq1, rfl⟩ := of_getD hx z36
   exact hq q (by omega)
 | succ d ih =>
  intro j hj hq
  by_cases hx : ((b.f2.getD j z36).f6.length : Int) > 20
  ·refine ⟨false, Evt.succ (Evt.congr (Evt.pure _) fun f => ?_), fun e => by cases e⟩
   rw [davitref02_Short.l2, if_pos (by omega), if_pos (by omega), rdI, if_pos hx]
  ·obtain ⟨r, hr, hG⟩ := ih (j + 1) (by omega) (fun q hq1 => by
    rcases Nat.lt_or_ge q j with h | h
    ·exact hq q h
    ·obtain rfl : q = j := by omega
     omega)
   rw [cast_succ] at hr
   refine ⟨r, Evt.succ (Evt.congr hr fun f => ?_), hG⟩
   rw [davitref02_Short.l2, if_pos (by omega), if_pos (by omega), rdI, if_neg hx, wrap_small _ (by omega) (by omega)]
theorem short_l1 (m : List S33) (i : Nat) (hi : i < m.length) (hm : m.length ≤ 20) (hB : (m.getD i z33).f2.length ≤ 70) (G : Prop)
  (h : ∀ n : Int, 0 ≤ n → n ≤ (i + 1) * 4900 → ∃ r, Evt (fun f => davitref02_Short.l0 f n ((i : Int) + 1) m) r ∧ (r = true → G)) :
  ∀ (d k : Nat) (n : Int), k + d = (m.getD i z33).f2.length → 0 ≤ n → n ≤ i * 4900 + k * 70 → (∀ q, q < k → GoodB ((m.getD i z33).f2.getD q z44)) →
   ∃ r, Evt (fun f => davitref02_Short.l1 f n (i : Int) (k : Int) m) r ∧ (r = true → GoodF (m.getD i z33) ∧ G) := by
 intro d
 induction d with
 | zero =>
  intro k n hk h0 h1 hq
  obtain ⟨r, hr, hG⟩ := h n h0 (by omega)
  refine ⟨r, Evt.succ (Evt.congr hr fun f => ?_), fun e => ⟨⟨hB, fun b hb => ?_⟩, hG e⟩⟩
  ·rw [davitref02_Short.l1, if_pos (by omega), if_pos (by omega), rdF, if_neg (by omega), wrap_small _ (by omega) (by omega)]
  ·obtain ⟨q, hq1, rfl⟩ := of_getD hb z44
   exact hq q (by omega)
 | succ d ih =>
  intro k n hk h0 h1 hq
  obtain ⟨b, hb⟩ : ∃ b, b = (m.getD i z33).f2.getD k z44 := ⟨_, rfl⟩
  have start : ∀ {r : Bool} {x : Bool}, x = decide ((b.f2.length : Int) > 70 ∨ (b.f1.f1.length : Int) > 20 ∨ (b.f3.f4.length : Int) > 20) → Evt (fun f => davitref02_Short.j2 f n (i : Int) (k : Int) x m b.f0 b.f1.f0 b.f1.f1 b.f1.f2 b.f1.f3 b.f2 b.f3.f0 b.f3.f1 b.f3.f2 b.f3.f3 b.f3.f4 b.f3.f5 b.f3.f6 b.f3.f7) r → Evt (fun f => davitref02_Short.l1 f n (i : Int) (k : Int) m) r := by
   intro r x hx hr
   refine Evt.succ (Evt.congr hr fun f => ?_)
   rw [davitref02_Short.l1, if_pos (by omega), if_pos (by omega), rdF, if_pos (by omega), if_pos (by omega), rdB, ← hb, hx]
   by_cases c1 : (b.f2.length : Int) > 70
   ·rw [if_pos c1, decide_eq_true (.inl c1)]
   ·rw [if_neg c1]
    by_cases c2 : (b.f1.f1.length : Int) > 20
    ·rw [if_pos c2, decide_eq_true (.inr (.inl c2))]
    ·rw [if_neg c2]
     congr 1
     exact decide_eq_decide.2 ⟨fun h => .inr (.inr h), fun h => by omega⟩
  by_cases hbad : (b.f2.length : Int) > 70 ∨ (b.f1.f1.length : Int) > 20 ∨ (b.f3.f4.length : Int) > 20
  ·refine ⟨false, start (x := true) (by rw [decide_eq_true hbad]) (Evt.succ (Evt.congr (Evt.pure _) fun f => ?_)), fun e => by cases e⟩
   rw [davitref02_Short.j2, if_pos rfl]
  ·have hk70 : k < 70 := by omega
   have hG : ∃ r, Evt (fun f => davitref02_Short.l2 f (n + (b.f2.length : Int)) (i : Int) (k : Int) ((0 : Nat) : Int) m b.f0 b.f1.f0 b.f1.f1 b.f1.f2 b.f1.f3 b.f2 b.f3.f0 b.f3.f1 b.f3.f2 b.f3.f3 b.f3.f4 b.f3.f5 b.f3.f6 b.f3.f7) r ∧ (r = true → GoodF (m.getD i z33) ∧ G) := by
    by_cases hxa : ∀ x ∈ b.f2, x.f6.length ≤ 20
    ·have gb : GoodB b := ⟨by omega, by omega, by omega, hxa⟩
     obtain ⟨r, hr, hG⟩ := short_l2 m (n + (b.f2.length : Int)) i k b hk70 (by omega) (GoodF (m.getD i z33) ∧ G) (by
      have := ih (k + 1) (n + (b.f2.length : Int)) (by omega) (by omega) (by omega) (fun q hq1 => by
       rcases Nat.lt_or_ge q k with h | h
       ·exact hq q h
       ·obtain rfl : q = k := by omega
        rw [← hb]; exact gb)
      rwa [cast_succ] at this) b.f2.length 0 (by omega) (fun q hq => by omega)
     exact ⟨r, hr, fun e => (hG e).2⟩
    ·
     have key : ∀ (d j : Nat), j + d = b.f2.length → (∃ q, j ≤ q ∧ q < b.f2.length ∧ ¬ (b.f2.getD q z36).f6.length ≤ 20) → Evt (fun f => davitref02_Short.l2 f (n + (b.f2.length : Int)) (i : Int) (k : Int) (j : Int) m b.f0 b.f1.f0 b.f1.f1 b.f1.f2 b.f1.f3 b.f2 b.f3.f0 b.f3.f1 b.f3.f2 b.f3.f3 b.f3.f4 b.f3.f5 b.f3.f6 b.f3.f7) false := by
      intro d
      induction d with
      | zero => rintro j hj ⟨q, h1, h2, _⟩; omega
      | succ d ih2 =>
       rintro j hj ⟨q, h1, h2, h3⟩
       by_cases hx : ((b.f2.getD j z36).f6.length : Int) > 20
       ·refine Evt.succ (Evt.congr (Evt.pure _) fun f => ?_)
        rw [davitref02_Short.l2, if_pos (by omega), if_pos (by omega), rdI, if_pos hx]
       ·have hne : q ≠ j := fun e => by subst e; omega
        have := ih2 (j + 1) (by omega) ⟨q, by omega, h2, h3⟩
        rw [cast_succ] at this
        refine Evt.succ (Evt.congr this fun f => ?_)
        rw [davitref02_Short.l2, if_pos (by omega), if_pos (by omega), rdI, if_neg hx, wrap_small _ (by omega) (by omega)]
     have hex : ∃ q, 0 ≤ q ∧ q < b.f2.length ∧ ¬ (b.f2.getD q z36).f6.length ≤ 20 := by
      apply Classical.byContradiction
      intro hno
      refine hxa fun x hx => ?_
      obtain ⟨q, hq1, rfl⟩ := of_getD hx z36
      apply Classical.byContradiction
      intro h3
      exact hno ⟨q, Nat.zero_le _, hq1, h3⟩
     exact ⟨false, key b.f2.length 0 (by omega) hex, fun e => by cases e⟩
   obtain ⟨r, hr, hG⟩ := hG
   refine ⟨r, start (x := false) (by rw [decide_eq_false hbad]) (Evt.succ (Evt.congr hr fun f => ?_)), hG⟩
   rw [davitref02_Short.j2, if_neg (by simp), wrap_small _ (by omega) (by omega)]
   rfl
theorem short_l0 (m : List S33) (hm : m.length ≤ 20) : ∀ (d i : Nat) (n : Int), i + d = m.length → 0 ≤ n → n ≤ i * 4900 → (∀ q, q < i → GoodF (m.getD q z33)) →
  ∃ r, Evt (fun f => davitref02_Short.l0 f n (i : Int) m) r ∧ (r = true → Sh m) := by
 intro d
 induction d with
 | zero =>
  intro i n hi h0 h1 hq
  refine ⟨_, Evt.succ (Evt.congr (Evt.pure (decide (n ≤ 2000))) fun f => ?_), fun _ => ⟨hm, fun f hf => ?_⟩⟩
  ·rw [davitref02_Short.l0, if_neg (by omega)]
  ·obtain ⟨q, hq1, rfl⟩ := of_getD hf z33
   exact hq q (by omega)
 | succ d ih =>
  intro i n hi h0 h1 hq
  by_cases hB : (((m.getD i z33).f2).length : Int) > 70
  ·refine ⟨false, Evt.succ (Evt.congr (Evt.pure _) fun f => ?_), fun e => by cases e⟩
   rw [davitref02_Short.l0, if_pos (by omega), if_pos (by omega), rdF, if_pos hB]
  ·by_cases hg : GoodF (m.getD i z33)
   ·obtain ⟨r, hr, hG⟩ := short_l1 m i (by omega) hm (by omega) (Sh m) (fun n h0 h1 => by
     have := ih (i + 1) n (by omega) h0 (by omega) (fun q hq1 => by
      rcases Nat.lt_or_ge q i with h | h
      ·exact hq q h
      ·obtain rfl : q = i := by omega
       exact hg)
     rwa [cast_succ] at this) (m.getD i z33).f2.length 0 n (by omega) h0 (by omega) (fun q hq => by omega)
    refine ⟨r, Evt.succ (Evt.congr hr fun f => ?_), fun e => (hG e).2⟩
    rw [davitref02_Short.l0, if_pos (by omega), if_pos (by omega), rdF, if_neg hB]
    rfl
   ·
    have hend : ∀ (d i : Nat) (n : Int), i + d = m.length → 0 ≤ n → n ≤ i * 4900 → ∃ r, Evt (fun f => davitref02_Short.l0 f n (i : Int) m) r ∧ (r = true → True) := by
     intro d
     induction d with
     | zero =>
      intro i n hi h0 h1
      refine ⟨_, Evt.succ (Evt.congr (Evt.pure (decide (n ≤ 2000))) fun f => ?_), fun _ => trivial⟩
      rw [davitref02_Short.l0, if_neg (by omega)]
     | succ d ih2 =>
      intro i n hi h0 h1
      by_cases hB : (((m.getD i z33).f2).length : Int) > 70
      ·refine ⟨false, Evt.succ (Evt.congr (Evt.pure _) fun f => ?_), fun _ => trivial⟩
       rw [davitref02_Short.l0, if_pos (by omega), if_pos (by omega), rdF, if_pos hB]
      ·obtain ⟨r, hr, _⟩ := short_l1 m i (by omega) hm (by omega) True (fun n h0 h1 => by
        have := ih2 (i + 1) n (by omega) h0 (by omega)
        rwa [cast_succ] at this) (m.getD i z33).f2.length 0 n (by omega) h0 (by omega) (fun q hq => by omega)
       refine ⟨r, Evt.succ (Evt.congr hr fun f => ?_), fun _ => trivial⟩
       rw [davitref02_Short.l0, if_pos (by omega), if_pos (by omega), rdF, if_neg hB]
       rfl
    obtain ⟨r, hr, hG⟩ := short_l1 m i (by omega) hm (by omega) True (fun n h0 h1 => by
     have := hend d (i + 1) n (by omega) h0 (by omega)
     rwa [cast_succ] at this) (m.getD i z33).f2.length 0 n (by omega) h0 (by omega) (fun q hq => by omega)
    refine ⟨r, Evt.succ (Evt.congr hr fun f => ?_), fun e => absurd (hG e).1 hg⟩
    rw [davitref02_Short.l0, if_pos (by omega), if_pos (by omega), rdF, if_neg hB]
    rfl
theorem short_ev (m : List S33) : ∃ r, Evt (fun f => davitref02_Short.f f m) r ∧ (r = true → Sh m) := by
 by_cases hm : (m.length : Int) > 20
 ·refine ⟨false, Evt.congr (Evt.pure _) fun f => ?_, fun e => by cases e⟩
  unfold davitref02_Short.f
  rw [if_pos hm]
 ·obtain ⟨r, hr, hG⟩ := short_l0 m (by omega) m.length 0 0 (by omega) (by omega) (by omega) (fun q hq => by omega)
  refine ⟨r, Evt.congr hr fun f => ?_, hG⟩
  unfold davitref02_Short.f
  rw [if_neg hm]
  rfl
end Go.Proofs.Ytjjcnbfmmhokeaa.G
namespace Go.Proofs.Ytjjcnbfmmhokeaa.G
open Go.Proofs.Ytjjcnbfmmhokeaa.X Go.RowKit Go.Proofs.YtjjcnbfmmhokeaaW.PrintWords
set_option linter.all false
def insCalls (l : List S36) (k : Int) : Bool := l.any fun x => x.f0 == 11 && x.f5 == k
def blkCalls (b : S44) (k : Int) : Bool := insCalls b.f2 k || (b.f3.f0 == 4 && b.f3.f3 == k)
def callsB (bs : List S44) (k : Int) : Bool := bs.any fun b => blkCalls b k
def E (m : List S33) (a b : Nat) : Bool := callsB (m.getD a z33).f2 (b : Int)
def ofL (m : List S33) (a : Nat) : List Int := pickN (E m a) m.length
theorem goIns_ok : ∀ (l : List S36) (out : List Int), out.length + l.length < 1000000 → ∃ r, goIns l out = some r ∧ r.length ≤ out.length + l.length ∧ ∀ k, k ∈ r ↔ k ∈ out ∨ insCalls l k = true
 | [], out, _ => ⟨out, rfl, Nat.le_refl _, fun k => by simp [insCalls]⟩
 | x :: r, out, h => by
  simp only [List.length_cons] at h
  rw [goIns]
  by_cases e : x.f0 = 11
  ·rw [if_pos e, if_pos (by omega)]
   obtain ⟨q, h1, h2, h3⟩ := goIns_ok r (out ++ [x.f5]) (by simp; omega)
   refine ⟨q, h1, by simp at h2 ⊢; omega, fun k => (h3 k).trans ?_⟩
   simp only [insCalls, List.any_cons, List.mem_append, List.mem_singleton, Bool.or_eq_true, Bool.and_eq_true, beq_iff_eq, e]
   constructor
   ·rintro ((h | h) | h)
    ·exact .inl h
    ·exact .inr (.inl ⟨trivial, h.symm⟩)
    ·exact .inr (.inr h)
   ·rintro (h | h | h)
    ·exact .inl (.inl h)
    ·exact .inl (.inr h.2.symm)
    ·exact .inr h
  ·rw [if_neg e]
   obtain ⟨q, h1, h2, h3⟩ := goIns_ok r out (by omega)
   refine ⟨q, h1, by simp; omega, fun k => (h3 k).trans ?_⟩
   simp only [insCalls, List.any_cons, Bool.or_eq_true, Bool.and_eq_true, beq_iff_eq, e, false_and, false_or]
theorem goBlk_ok : ∀ (l : List S44) (out : List Int), (∀ b ∈ l, b.f2.length ≤ 70) → out.length + l.length * 71 < 1000000 → ∃ r, goBlk l out = some r ∧ r.length ≤ out.length + l.length * 71 ∧ ∀ k, k ∈ r ↔ k ∈ out ∨ callsB l k = true
 | [], out, _, _ => ⟨out, rfl, by simp, fun k => by simp [callsB]⟩
 | b :: r, out, hb, h => by
  simp only [List.length_cons] at h
  have h70 := hb b (by simp)
  obtain ⟨o1, e1, l1, m1⟩ := goIns_ok b.f2 out (by omega)
  have e2 : ∃ o2, goEnd b o1 = some o2 ∧ o2.length ≤ o1.length + 1 ∧ ∀ k, k ∈ o2 ↔ k ∈ o1 ∨ (b.f3.f0 = 4 ∧ b.f3.f3 = k) := by
   unfold goEnd
   by_cases e : b.f3.f0 = 4
   ·rw [if_pos e, if_pos (by omega)]
    exact ⟨_, rfl, by simp, fun k => by simp [e, eq_comm]⟩
   ·rw [if_neg e]
    exact ⟨_, rfl, by omega, fun k => by simp [e]⟩
  obtain ⟨o2, e2, l2, m2⟩ := e2
  obtain ⟨q, e3, l3, m3⟩ := goBlk_ok r o2 (fun x hx => hb x (by simp [hx])) (by omega)
  refine ⟨q, by rw [goBlk, e1, Option.bind_some, e2, Option.bind_some, e3], by simp; omega, fun k => ?_⟩
  rw [m3, m2, m1]
  simp only [callsB, List.any_cons, blkCalls, Bool.or_eq_true, Bool.and_eq_true, beq_iff_eq]
  constructor
  ·rintro (((h | h) | h) | h)
   ·exact .inl h
   ·exact .inr (.inl (.inl h))
   ·exact .inr (.inl (.inr h))
   ·exact .inr (.inr h)
  ·rintro (h | (h | h) | h)
   ·exact .inl (.inl (.inl h))
   ·exact .inl (.inl (.inr h))
   ·exact .inl (.inr h)
   ·exact .inr h
theorem isB_iff (n : Nat) (k : Int) : isB n k = true ↔ 0 ≤ k ∧ k < (n : Int) := by unfold isB; simp
theorem of_prog (m : List S33) (hm : ShW m) (a : Int) : calls_Of.f m a = some (if isB m.length a = true then ofL m a.toNat else []) := by
 unfold calls_Of.f
 by_cases h : isB m.length a = true
 ·rw [if_pos h, if_pos h]
  have h01 := (isB_iff _ _).1 h
  have hf : rd_T33 m a = m.getD a.toNat z33 := rfl
  have hmem : m.getD a.toNat z33 ∈ m := getD_in m _ z33 (by omega)
  have hg := hm.fn _ hmem
  rw [hf]
  obtain ⟨o, e1, l1, m1⟩ := goBlk_ok (m.getD a.toNat z33).f2 [] (fun b hb => (hg.blk b hb).ins) (by have := hg.len; rw [List.length_nil]; omega)
  have := hg.len
  rw [e1, Option.bind_some, if_pos (by rw [List.length_nil] at l1; omega)]
  congr 1
  rw [compact_pick _ m.length (fun x hx => (isB_iff _ _).1 (List.mem_filter.1 hx).2)]
  unfold ofL pickN
  congr 1
  refine List.filter_congr fun k hk => ?_
  have hk := List.mem_range.1 hk
  have e : ((k : Int) ∈ o.filter fun k => isB m.length k) ↔ E m a.toNat k = true := by
   rw [List.mem_filter, m1, isB_iff]
   unfold E
   constructor
   ·rintro ⟨h1 | h1, _⟩
    ·cases h1
    ·exact h1
   ·intro h1
    exact ⟨.inr h1, by omega, by omega⟩
  cases hE : E m a.toNat k with
  | true => exact decide_eq_true (e.2 hE)
  | false => exact decide_eq_false fun h => by rw [e.1 h] at hE; cases hE
 ·rw [if_neg h, if_neg h]
theorem has_ev (l : List Int) (x : Int) (hl : l.length ≤ 100000) : Evt (fun f => davitref07_Has.f f l x) (decide (x ∈ l)) := by
 have key : ∀ (d i : Nat), i + d = l.length → x ∉ l.take i → Evt (fun f => davitref07_Has.l0 f l x (i : Int)) (decide (x ∈ l)) := by
  intro d
  induction d with
  | zero =>
   intro i hi hp
   rw [List.take_of_length_le (by omega)] at hp
   rw [decide_eq_false hp]
   refine Evt.succ (Evt.congr (Evt.pure _) fun f => ?_)
   rw [davitref07_Has.l0, if_neg (by omega)]
  | succ d ih =>
   intro i hi hp
   have hil : i < l.length := by omega
   have hr : rd l (i : Int) = l.getD i 0 := by unfold rd; rw [Int.toNat_natCast]
   by_cases e : l.getD i 0 = x
   ·rw [decide_eq_true (by rw [← e]; exact getD_in l i 0 hil)]
    refine Evt.succ (Evt.congr (Evt.pure _) fun f => ?_)
    rw [davitref07_Has.l0, if_pos (by omega), if_pos (by omega), hr, if_pos e]
   ·have nx := ih (i + 1) (by omega) (by
     rw [take_snoc l i 0 hil, List.mem_append, List.mem_singleton]
     rintro (h | h)
     ·exact hp h
     ·exact e h.symm)
    rw [cast_succ] at nx
    refine Evt.succ (Evt.congr nx fun f => ?_)
    rw [davitref07_Has.l0, if_pos (by omega), if_pos (by omega), hr, if_neg e, wrap_small _ (by omega) (by omega)]
 exact key l.length 0 (by omega) (by simp)
end Go.Proofs.Ytjjcnbfmmhokeaa.G
namespace Go.Proofs.Ytjjcnbfmmhokeaa.G
open Go.Proofs.Ytjjcnbfmmhokeaa.X Go.RowKit Go.Proofs.YtjjcnbfmmhokeaaW.PrintWords
set_option linter.all false
set_option maxHeartbeats 8000000
inductive TC (n : Nat) (R : Nat → Nat → Bool) : Nat → Nat → Prop
 | one {a b : Nat} : a < n → b < n → R a b = true → TC n R a b
 | step {a b c : Nat} : a < n → b < n → R a b = true → TC n R b c → TC n R a c
theorem TC.lt {n : Nat} {R : Nat → Nat → Bool} {a b : Nat} (h : TC n R a b) : a < n ∧ b < n := by
 induction h with
 | one h1 h2 _ => exact ⟨h1, h2⟩
 | step h1 _ _ _ ih => exact ⟨h1, ih.2⟩
theorem TC.trans {n : Nat} {R : Nat → Nat → Bool} {a b c : Nat} (h : TC n R a b) (h2 : TC n R b c) : TC n R a c := by
 induction h with
 | one h1 hb hR => exact .step h1 hb hR h2
 | step h1 hb hR _ ih => exact .step h1 hb hR (ih h2)
def wstep (T : Nat → Nat → Bool) (k : Nat) : Nat → Nat → Bool := fun i j => T i j || (T i k && T k j)
def wsh (R : Nat → Nat → Bool) : Nat → Nat → Nat → Bool
 | 0 => R
 | k + 1 => wstep (wsh R k) k
theorem wstep_row (T : Nat → Nat → Bool) (k j : Nat) : wstep T k k j = T k j := by unfold wstep; cases T k j <;> cases T k k <;> rfl
theorem wstep_col (T : Nat → Nat → Bool) (k i : Nat) : wstep T k i k = T i k := by unfold wstep; cases T i k <;> cases T k k <;> rfl
theorem wsh_up (R : Nat → Nat → Bool) (k i j : Nat) (h : wsh R k i j = true) : wsh R (k + 1) i j = true := by
 show wstep _ _ _ _ = true
 unfold wstep
 rw [h, Bool.true_or]
theorem wsh_ge (R : Nat → Nat → Bool) (k d i j : Nat) (h : wsh R k i j = true) : wsh R (k + d) i j = true := by
 induction d with
 | zero => exact h
 | succ d ih => exact wsh_up R _ i j ih
theorem wsh_succ (R : Nat → Nat → Bool) (k i j : Nat) : wsh R (k + 1) i j = true ↔ wsh R k i j = true ∨ (wsh R k i k = true ∧ wsh R k k j = true) := by
 show wstep _ _ _ _ = true ↔ _
 unfold wstep
 rw [Bool.or_eq_true, Bool.and_eq_true]
theorem wsh_via (R : Nat → Nat → Bool) : ∀ (k c a b : Nat), c < k → wsh R k a c = true → wsh R k c b = true → wsh R k a b = true
 | 0, c, _, _, h, _, _ => absurd h (Nat.not_lt_zero _)
 | k + 1, c, a, b, hc, h1, h2 => by
  rw [wsh_succ] at h1 h2 ⊢
  rcases Nat.lt_or_ge c k with hlt | hge
  ·rcases h1 with h1 | ⟨h1, h1'⟩
   ·rcases h2 with h2 | ⟨h2, h2'⟩
    ·exact .inl (wsh_via R k c a b hlt h1 h2)
    ·exact .inr ⟨wsh_via R k c a k hlt h1 h2, h2'⟩
   ·rcases h2 with h2 | ⟨h2, h2'⟩
    ·exact .inr ⟨h1, wsh_via R k c k b hlt h1' h2⟩
    ·exact .inr ⟨h1, h2'⟩
  ·obtain rfl : c = k := by omega
   refine .inr ⟨?_, ?_⟩
   ·rcases h1 with h1 | h1
    ·exact h1
    ·exact h1.1
   ·rcases h2 with h2 | h2
    ·exact h2
    ·exact h2.2
theorem wsh_sound (n : Nat) (R : Nat → Nat → Bool) : ∀ (k a b : Nat), k ≤ n → a < n → b < n → wsh R k a b = true → TC n R a b
 | 0, a, b, _, ha, hb, h => .one ha hb h
 | k + 1, a, b, hk, ha, hb, h => by
  rcases (wsh_succ R k a b).1 h with h | ⟨h1, h2⟩
  ·exact wsh_sound n R k a b (by omega) ha hb h
  ·exact (wsh_sound n R k a k (by omega) ha (by omega) h1).trans (wsh_sound n R k k b (by omega) (by omega) hb h2)
theorem wsh_iff (n : Nat) (R : Nat → Nat → Bool) (a b : Nat) (ha : a < n) (hb : b < n) : wsh R n a b = true ↔ TC n R a b := by
 refine ⟨wsh_sound n R n a b (Nat.le_refl _) ha hb, fun h => ?_⟩
 have up : ∀ i j, R i j = true → wsh R n i j = true := fun i j h => by
  have := wsh_ge R 0 n i j h
  rwa [Nat.zero_add] at this
 clear ha hb
 induction h with
 | one h1 h2 hR => exact up _ _ hR
 | step h1 h2 hR _ ih => exact wsh_via R n _ _ _ h2 (up _ _ hR) ih
structure Tab (n : Nat) (t : List (List Bool)) (T : Nat → Nat → Bool) : Prop where
 len : t.length = n
 row : ∀ i, i < n → (t.getD i []).length = n
 val : ∀ i j, i < n → j < n → tv t i j = T i j
theorem Tab.set {n : Nat} {t : List (List Bool)} {T T' : Nat → Nat → Bool} (h : Tab n t T) (a b : Nat) (ha : a < n) (hb : b < n) (v : Bool) (hv : T' a b = v) (ho : ∀ i j, ¬ (i = a ∧ j = b) → T' i j = T i j) : Tab n (t.set a ((t.getD a []).set b v)) T' := by
 have hget : ∀ i, (t.set a ((t.getD a []).set b v)).getD i [] = if i = a then (t.getD a []).set b v else t.getD i [] := by
  intro i
  rw [List.getD_eq_getElem?_getD, List.getElem?_set]
  by_cases e : a = i
  ·subst e
   rw [if_pos rfl, if_pos (by rw [h.len]; exact ha), if_pos rfl]
   rfl
  ·rw [if_neg e, if_neg (fun h => e h.symm), ← List.getD_eq_getElem?_getD]
 refine ⟨by rw [List.length_set]; exact h.len, fun i hi => ?_, fun i j hi hj => ?_⟩
 ·rw [hget]
  split
  ·rw [List.length_set]; exact h.row a ha
  ·exact h.row i hi
 ·unfold tv
  rw [hget]
  by_cases e : i = a
  ·subst e
   rw [if_pos rfl]
   by_cases e2 : j = b
   ·subst e2
    rw [List.getD_eq_getElem?_getD, List.getElem?_set_self (by rw [h.row i hi]; exact hj), hv]
    rfl
   ·rw [List.getD_eq_getElem?_getD, List.getElem?_set_ne (fun h => e2 h.symm), ← List.getD_eq_getElem?_getD, ho i j (fun h => e2 h.2)]
    exact h.val i j hi hj
  ·rw [if_neg e, ho i j (fun h => e h.1)]
   exact h.val i j hi hj
theorem Tab.same {n : Nat} {t : List (List Bool)} {T T' : Nat → Nat → Bool} (h : Tab n t T) (e : ∀ i j, i < n → j < n → T' i j = T i j) : Tab n t T' := ⟨h.len, h.row, fun i j hi hj => by rw [e i j hi hj]; exact h.val i j hi hj⟩
theorem rdL (t : List (List Bool)) (i : Nat) : rd_L15 t (i : Int) = t.getD i [] := by unfold rd_L15; rw [Int.toNat_natCast]
theorem rdBool (l : List Bool) (i : Nat) : rdOf false l (i : Int) = l.getD i false := by unfold rdOf; rw [Int.toNat_natCast]
def mix (T : Nat → Nat → Bool) (k a b : Nat) : Nat → Nat → Bool := fun i j => if i < a ∨ (i = a ∧ j < b) then wstep T k i j else T i j
theorem tab_l4 (n : Nat) (hn : n ≤ 1000) (k a : Nat) (hk : k < n) (ha : a < n) (T : Nat → Nat → Bool) (res : List (List Bool)) (x40 : Int)
  (K : ∀ t, Tab n t (mix T k (a + 1) 0) → Evt (fun f => calls_table.l3 f t (k : Int) (n : Int) x40 (n : Int) ((a : Int) + 1)) res) :
  ∀ (d b : Nat) (t : List (List Bool)), b + d = n → Tab n t (mix T k a b) → Evt (fun f => calls_table.l4 f t (k : Int) (a : Int) (n : Int) x40 (n : Int) (a : Int) (n : Int) (b : Int)) res := by
 intro d
 induction d with
 | zero =>
  intro b t hb ht
  refine Evt.succ (Evt.congr (K t (ht.same fun i j hi hj => ?_)) fun f => ?_)
  ·unfold mix
   by_cases h : i < a + 1 ∨ (i = a + 1 ∧ j < 0)
   ·rw [if_pos h, if_pos (by omega)]
   ·rw [if_neg h, if_neg (by omega)]
  ·rw [calls_table.l4, if_neg (by omega), wrap_small _ (by omega) (by omega)]
 | succ d ih =>
  intro b t hb ht
  have hbn : b < n := by omega
  have hw : wrap64 ((b : Int) + 1) = (b : Int) + 1 := wrap_small _ (by omega) (by omega)
  have hlen := ht.len
  have hra := ht.row a ha
  have hrk := ht.row k hk
  have vab : (t.getD a []).getD b false = T a b := by
   have := ht.val a b ha hbn
   unfold tv at this
   rw [this]; unfold mix; rw [if_neg (by omega)]
  have vak : (t.getD a []).getD k false = T a k := by
   have := ht.val a k ha hk
   unfold tv at this
   rw [this]; unfold mix
   split
   ·exact wstep_col T k a
   ·rfl
  have vkb : (t.getD k []).getD b false = T k b := by
   have := ht.val k b hk hbn
   unfold tv at this
   rw [this]; unfold mix
   split
   ·exact wstep_row T k b
   ·rfl
  have next : ∀ v : Bool, wstep T k a b = v → Evt (fun f => calls_table.l4 f (t.set a ((t.getD a []).set b v)) (k : Int) (a : Int) (n : Int) x40 (n : Int) (a : Int) (n : Int) ((b : Int) + 1)) res := by
   intro v hv
   have := ih (b + 1) (t.set a ((t.getD a []).set b v)) (by omega) (ht.set a b ha hbn v (by unfold mix; rw [if_pos (by omega)]; exact hv) (fun i j hij => by
    unfold mix
    by_cases h : i < a ∨ (i = a ∧ j < b)
    ·rw [if_pos (by omega), if_pos h]
    ·rw [if_neg (by omega), if_neg h]))
   rwa [cast_succ] at this
  cases h1 : T a b with
  | true =>
   refine Evt.succ (Evt.congr (next true (by unfold wstep; rw [h1, Bool.true_or])) fun f => ?_)
   rw [calls_table.l4, if_pos (by omega), if_pos (by omega), if_pos (by omega), if_pos (by omega), rdL, if_pos (by omega), rdBool, vab, h1, if_pos rfl, hw, Int.toNat_natCast, Int.toNat_natCast]
  | false =>
   cases h2 : T a k with
   | true =>
    refine Evt.succ (Evt.congr (next (T k b) (by unfold wstep; rw [h1, h2]; simp)) fun f => ?_)
    rw [calls_table.l4, if_pos (by omega), if_pos (by omega), if_pos (by omega), if_pos (by omega), rdL, if_pos (by omega), rdBool, vab, h1, if_neg (by simp), if_pos (by omega), if_pos (by omega), rdBool, vak, h2, if_pos rfl, if_pos (by omega), rdL, if_pos (by omega), rdBool, vkb, hw, Int.toNat_natCast, Int.toNat_natCast]
   | false =>
    refine Evt.succ (Evt.congr (next false (by unfold wstep; rw [h1, h2]; simp)) fun f => ?_)
    rw [calls_table.l4, if_pos (by omega), if_pos (by omega), if_pos (by omega), if_pos (by omega), rdL, if_pos (by omega), rdBool, vab, h1, if_neg (by simp), if_pos (by omega), if_pos (by omega), rdBool, vak, h2, if_neg (by simp), hw, Int.toNat_natCast, Int.toNat_natCast]
theorem tab_l3 (n : Nat) (hn : n ≤ 1000) (k : Nat) (hk : k < n) (T : Nat → Nat → Bool) (res : List (List Bool))
  (K : ∀ t, Tab n t (wstep T k) → Evt (fun f => calls_table.l2 f t (n : Int) ((k : Int) + 1)) res) :
  ∀ (d a : Nat) (t : List (List Bool)), a + d = n → Tab n t (mix T k a 0) → Evt (fun f => calls_table.l3 f t (k : Int) (n : Int) (k : Int) (n : Int) (a : Int)) res := by
 intro d
 induction d with
 | zero =>
  intro a t ha ht
  refine Evt.succ (Evt.congr (K t (ht.same fun i j hi hj => ?_)) fun f => ?_)
  ·unfold mix; rw [if_pos (by omega)]
  ·rw [calls_table.l3, if_neg (by omega), wrap_small _ (by omega) (by omega)]
 | succ d ih =>
  intro a t ha ht
  have := tab_l4 n hn k a hk (by omega) T res (k : Int) (fun t ht => by
   have := ih (a + 1) t (by omega) ht
   rwa [cast_succ] at this) n 0 t (by omega) ht
  refine Evt.succ (Evt.congr this fun f => ?_)
  rw [calls_table.l3, if_pos (by omega), ht.len]
  rfl
theorem tab_l2 (n : Nat) (hn : n ≤ 1000) (R : Nat → Nat → Bool) : ∀ (d k : Nat) (t : List (List Bool)), k + d = n → Tab n t (wsh R k) → ∃ r, Evt (fun f => calls_table.l2 f t (n : Int) (k : Int)) r ∧ Tab n r (wsh R n) := by
 intro d
 induction d with
 | zero =>
  intro k t hk ht
  obtain rfl : k = n := by omega
  refine ⟨t, Evt.succ (Evt.congr (Evt.pure _) fun f => ?_), ht⟩
  rw [calls_table.l2, if_neg (by omega)]
 | succ d ih =>
  intro k t hk ht
  obtain ⟨t2, h2⟩ : ∃ t2, Tab n t2 (wstep (wsh R k) k) := ⟨(List.range n).map fun i => (List.range n).map fun j => wstep (wsh R k) k i j, by simp, fun i hi => by simp [List.getD_eq_getElem?_getD, hi], fun i j hi hj => by simp [tv, List.getD_eq_getElem?_getD, hi, hj]⟩
  have uniq : ∀ t, Tab n t (wstep (wsh R k) k) → t = t2 := by
   intro t h
   apply List.ext_getElem?
   intro i
   by_cases hi : i < n
   ·have e1 : t[i]? = some (t.getD i []) := by rw [List.getD_eq_getElem?_getD, List.getElem?_eq_getElem (by rw [h.len]; exact hi)]; rfl
    have e2 : t2[i]? = some (t2.getD i []) := by rw [List.getD_eq_getElem?_getD, List.getElem?_eq_getElem (by rw [h2.len]; exact hi)]; rfl
    rw [e1, e2]
    congr 1
    apply List.ext_getElem?
    intro j
    by_cases hj : j < n
    ·have f1 : (t.getD i [])[j]? = some ((t.getD i []).getD j false) := by rw [List.getD_eq_getElem?_getD (l := t.getD i []), List.getElem?_eq_getElem (by rw [h.row i hi]; exact hj)]; rfl
     have f2 : (t2.getD i [])[j]? = some ((t2.getD i []).getD j false) := by rw [List.getD_eq_getElem?_getD (l := t2.getD i []), List.getElem?_eq_getElem (by rw [h2.row i hi]; exact hj)]; rfl
     rw [f1, f2]
     have a1 := h.val i j hi hj
     have a2 := h2.val i j hi hj
     unfold tv at a1 a2
     rw [a1, a2]
    ·rw [List.getElem?_eq_none (by rw [h.row i hi]; omega), List.getElem?_eq_none (by rw [h2.row i hi]; omega)]
   ·rw [List.getElem?_eq_none (by rw [h.len]; omega), List.getElem?_eq_none (by rw [h2.len]; omega)]
  obtain ⟨r, hr, hT⟩ := ih (k + 1) t2 (by omega) h2
  rw [cast_succ] at hr
  refine ⟨r, ?_, hT⟩
  have := tab_l3 n hn k (by omega) (wsh R k) r (fun t h => by rw [uniq t h]; exact hr) n 0 t (by omega) (ht.same fun i j hi hj => by unfold mix; rw [if_neg (by omega)])
  refine Evt.succ (Evt.congr this fun f => ?_)
  rw [calls_table.l2, if_pos (by omega), ht.len]
  rfl
theorem tab_l1 (m : List S33) (a : Nat) (ha : a < m.length) (hm : ShW m) (x : List (List Bool)) (hx : x.length ≤ 20) (res : List (List Bool)) (K : ∀ r : List Bool, r.length = m.length → (∀ j, j < m.length → r.getD j false = E m a j) → Evt (fun f => calls_table.l0 f (x ++ [r]) (m.length : Int) ((a : Int) + 1) m) res) :
  ∀ (d i : Nat) (r : List Bool), i + d = (ofL m a).length → r.length = m.length → (∀ j, j < m.length → r.getD j false = decide ((j : Int) ∈ (ofL m a).take i)) →
   Evt (fun f => calls_table.l1 f x r (m.length : Int) (a : Int) (ofL m a) ((ofL m a).length : Int) (i : Int) m) res := by
 have hl := hm.len
 have hol : (ofL m a).length ≤ m.length := pickN_len _ _
 intro d
 induction d with
 | zero =>
  intro i r hi hr hv
  rw [List.take_of_length_le (by omega)] at hv
  refine Evt.succ (Evt.congr (K r hr fun j hj => ?_) fun f => ?_)
  ·rw [hv j hj]
   cases hE : E m a j with
   | true => exact decide_eq_true (mem_pickN.2 ⟨j, rfl, hj, hE⟩)
   | false =>
    refine decide_eq_false fun h => ?_
    obtain ⟨q, e, _, h2⟩ := mem_pickN.1 h
    have : j = q := by omega
    subst this
    rw [hE] at h2; cases h2
  ·rw [calls_table.l1, if_neg (by omega), if_pos (by omega), wrap_small _ (by omega) (by omega)]
 | succ d ih =>
  intro i r hi hr hv
  have hil : i < (ofL m a).length := by omega
  obtain ⟨q, hq, hqn, _⟩ := mem_pickN.1 (getD_in (ofL m a) i 0 hil)
  have hrd : rd (ofL m a) (i : Int) = (q : Int) := by unfold rd; rw [Int.toNat_natCast]; exact hq
  have nx := ih (i + 1) (r.set q true) (by omega) (by rw [List.length_set]; exact hr) (fun j hj => by
   rw [take_snoc (ofL m a) i 0 hil]
   by_cases e : j = q
   ·subst e
    rw [List.getD_eq_getElem?_getD, List.getElem?_set_self (by omega), decide_eq_true (by rw [List.mem_append]; exact .inr (by rw [List.mem_singleton]; exact hq.symm))]
    rfl
   ·rw [List.getD_eq_getElem?_getD, List.getElem?_set_ne (fun h => e h.symm), ← List.getD_eq_getElem?_getD, hv j hj]
    refine decide_eq_decide.2 ⟨fun h => List.mem_append_left _ h, fun h => ?_⟩
    rcases List.mem_append.1 h with h | h
    ·exact h
    ·have h2 := List.mem_singleton.1 h
     rw [show (ofL m a).getD i 0 = (q : Int) from hq] at h2
     exact absurd (by omega) e)
  rw [cast_succ] at nx
  refine Evt.succ (Evt.congr nx fun f => ?_)
  rw [calls_table.l1, if_pos (by omega), if_pos (by omega), if_pos (by omega), hrd, if_pos (by omega), if_pos (by omega), wrap_small _ (by omega) (by omega), Int.toNat_natCast]
theorem table_ev (m : List S33) (hm : ShW m) : ∃ t, Evt (fun f => calls_table.f f m) t ∧ Tab m.length t (wsh (E m) m.length) := by
 have hl := hm.len
 obtain ⟨t1, h1⟩ : ∃ t1, t1 = (List.range m.length).map fun i => (List.range m.length).map fun j => E m i j := ⟨_, rfl⟩
 have hT : Tab m.length t1 (E m) := by
  rw [h1]
  exact ⟨by simp, fun i hi => by simp [List.getD_eq_getElem?_getD, hi], fun i j hi hj => by simp [tv, List.getD_eq_getElem?_getD, hi, hj]⟩
 obtain ⟨r, hr, hR⟩ := tab_l2 m.length (by omega) (E m) m.length 0 t1 (by omega) hT
 have key : ∀ (d i : Nat), i + d = m.length → Evt (fun f => calls_table.l0 f (t1.take i) (m.length : Int) (i : Int) m) r := by
  intro d
  induction d with
  | zero =>
   intro i hi
   refine Evt.succ (Evt.congr hr fun f => ?_)
   rw [calls_table.l0, if_neg (by omega), List.take_of_length_le (by rw [hT.len]; omega), hT.len]
   rfl
  | succ d ih =>
   intro i hi
   have hil : i < m.length := by omega
   have nx := ih (i + 1) (by omega)
   rw [cast_succ, take_snoc t1 i [] (by rw [hT.len]; exact hil)] at nx
   have hiB : isB m.length (i : Int) = true := (isB_iff _ _).2 ⟨by omega, by omega⟩
   have := tab_l1 m i hil hm (t1.take i) (by rw [List.length_take]; omega) r (fun q hq hv => by
    have : q = t1.getD i [] := by
     apply List.ext_getElem?
     intro j
     by_cases hj : j < m.length
     ·have f1 : q[j]? = some (q.getD j false) := by rw [List.getD_eq_getElem?_getD, List.getElem?_eq_getElem (by omega)]; rfl
      have f2 : (t1.getD i [])[j]? = some ((t1.getD i []).getD j false) := by rw [List.getD_eq_getElem?_getD (l := t1.getD i []), List.getElem?_eq_getElem (by rw [hT.row i hil]; exact hj)]; rfl
      have := hT.val i j hil hj
      unfold tv at this
      rw [f1, f2, hv j hj, this]
     ·rw [List.getElem?_eq_none (by omega), List.getElem?_eq_none (by rw [hT.row i hil]; omega)]
    rw [this]; exact nx) (ofL m i).length 0 (List.replicate m.length false) (by omega) (by simp) (fun j hj => by simp [List.getD_eq_getElem?_getD, hj])
   refine Evt.succ (Evt.congr this fun f => ?_)
   rw [calls_table.l0, if_pos (by omega), if_pos (by omega), if_pos (by omega), of_prog m hm, if_pos hiB, Option.bind_some, Int.toNat_natCast, Int.toNat_natCast]
   rfl
 refine ⟨r, Evt.congr (key m.length 0 (by omega)) fun f => rfl, hR⟩
end Go.Proofs.Ytjjcnbfmmhokeaa.G
namespace Go.Proofs.Ytjjcnbfmmhokeaa.G
open Go.Proofs.Ytjjcnbfmmhokeaa.X Go.RowKit Go.Proofs.YtjjcnbfmmhokeaaW.PrintWords
set_option linter.all false
set_option maxHeartbeats 4000000
theorem awake_ev : Evt davitlaw11_awake.f true := by
 have : davitlaw11_awake.f 60 = some true := by decide +kernel
 exact Evt.of_mono davitlaw11_awake.mono this
def cm (m : List S33) (a b : Int) : Bool := isB m.length a && isB m.length b && wsh (E m) m.length a.toNat b.toNat
theorem cm_nat (m : List S33) (a b : Nat) (ha : a < m.length) (hb : b < m.length) : cm m (a : Int) (b : Int) = wsh (E m) m.length a b := by
 unfold cm
 rw [(isB_iff m.length (a : Int)).2 ⟨by omega, by omega⟩, (isB_iff m.length (b : Int)).2 ⟨by omega, by omega⟩, Int.toNat_natCast, Int.toNat_natCast]
 rfl
theorem comes_ev (m : List S33) (hm : ShW m) (a b : Int) : Evt (fun f => calls_Comes.f f m a b) (cm m a b) := by
 have hl := hm.len
 obtain ⟨t, ht, hT⟩ := table_ev m hm
 by_cases ha : isB m.length a = true
 ·obtain ⟨h1, h2⟩ := (isB_iff _ _).1 ha
  by_cases hb : isB m.length b = true
  ·obtain ⟨h3, h4⟩ := (isB_iff _ _).1 hb
   obtain ⟨x, rfl⟩ : ∃ x : Nat, a = (x : Int) := ⟨a.toNat, by omega⟩
   obtain ⟨y, rfl⟩ : ∃ y : Nat, b = (y : Int) := ⟨b.toNat, by omega⟩
   rw [cm_nat m x y (by omega) (by omega)]
   have hlen := hT.len
   have hrow := hT.row x (by omega)
   have hv := hT.val x y (by omega) (by omega)
   unfold tv at hv
   refine Evt.congr (Evt.bind (h := fun f t137 => (if 0 ≤ (x : Int) then (if (x : Int) < (t137.length : Int) then (if 0 ≤ (y : Int) then (if (y : Int) < ((rd_L15 t137 (x : Int)).length : Int) then (some (rdOf false (rd_L15 t137 (x : Int)) (y : Int))) else (none)) else (none)) else (none)) else (none))) ht (Evt.const (by rw [if_pos (by omega), if_pos (by omega), if_pos (by omega), rdL, if_pos (by omega), rdBool, hv]))) fun f => ?_
   unfold calls_Comes.f
   rw [if_neg (by omega), if_neg (by omega), if_neg (by omega), if_neg (by omega)]
  ·rw [show cm m a b = false from by unfold cm; rw [show isB m.length b = false from by simpa using hb]; simp]
   refine Evt.congr (Evt.pure _) fun f => ?_
   have hb' : ¬ (0 ≤ b ∧ b < (m.length : Int)) := fun h => hb ((isB_iff _ _).2 h)
   unfold calls_Comes.f
   rw [if_neg (by omega), if_neg (by omega)]
   by_cases h3 : b < 0
   ·rw [if_pos h3]
   ·rw [if_neg h3, if_pos (by omega)]
 ·rw [show cm m a b = false from by unfold cm; rw [show isB m.length a = false from by simpa using ha]; simp]
  refine Evt.congr (Evt.pure _) fun f => ?_
  have ha' : ¬ (0 ≤ a ∧ a < (m.length : Int)) := fun h => ha ((isB_iff _ _).2 h)
  unfold calls_Comes.f
  by_cases h3 : a < 0
  ·rw [if_pos h3]
  ·rw [if_neg h3, if_pos (by omega)]
end Go.Proofs.Ytjjcnbfmmhokeaa.G
namespace Go.Proofs.Ytjjcnbfmmhokeaa.G
open Go.Proofs.Ytjjcnbfmmhokeaa.X Go.RowKit Go.Proofs.YtjjcnbfmmhokeaaW.PrintWords
set_option linter.all false
theorem moreM_len (m : List S33) (x : Nat) (y : Int) : (moreM m x y).length = m.length := List.length_set
theorem moreM_get (m : List S33) (x : Nat) (y : Int) (hx : x < m.length) (a : Nat) : ((moreM m x y).getD a z33).f2 = (m.getD a z33).f2 ++ (if a = x then [nb y] else []) := by
 unfold moreM
 by_cases e : a = x
 ·subst e
  rw [List.getD_eq_getElem?_getD, List.getElem?_set_self hx, if_pos rfl]
  rfl
 ·rw [List.getD_eq_getElem?_getD, List.getElem?_set_ne (fun h => e h.symm), ← List.getD_eq_getElem?_getD, if_neg e, List.append_nil]
theorem nb_calls (y k : Int) : blkCalls (nb y) k = (y == k) := by
 unfold blkCalls nb insCalls
 simp
theorem E_more (m : List S33) (x y : Nat) (hx : x < m.length) (a b : Nat) : E (moreM m x y) a b = (E m a b || (a == x && b == y)) := by
 unfold E
 rw [moreM_get m x y hx a]
 unfold callsB
 rw [List.any_append]
 by_cases e : a = x
 ·rw [if_pos e]
  simp only [List.any_cons, List.any_nil, Bool.or_false, nb_calls]
  subst e
  by_cases h : b = y
  ·subst h; simp
  ·have h1 : ((y : Int) == (b : Int)) = false := beq_eq_false_iff_ne.2 (by omega)
   have h2 : (b == y) = false := beq_eq_false_iff_ne.2 h
   rw [h1, h2, Bool.and_false]
 ·rw [if_neg e]
  simp [e]
theorem tc_more (n : Nat) (R R' : Nat → Nat → Bool) (x y : Nat) (hx : x < n) (hy : y < n) (hR : ∀ a b, R' a b = (R a b || (a == x && b == y))) (a b : Nat) :
  TC n R' a b ↔ TC n R a b ∨ ((a = x ∨ TC n R a x) ∧ (b = y ∨ TC n R y b)) := by
 constructor
 ·intro h
  induction h with
  | @one a b ha hb hE =>
   rw [hR] at hE
   rw [Bool.or_eq_true] at hE
   rcases hE with hE | hE
   ·exact .inl (.one ha hb hE)
   ·simp only [Bool.and_eq_true, beq_iff_eq] at hE
    exact .inr ⟨.inl hE.1, .inl hE.2⟩
  | @step a b c ha hb hE _ ih =>
   rw [hR] at hE
   rw [Bool.or_eq_true] at hE
   rcases hE with hE | hE
   ·rcases ih with ih | ⟨h1, h2⟩
    ·exact .inl (.step ha hb hE ih)
    ·refine .inr ⟨.inr ?_, h2⟩
     rcases h1 with rfl | h1
     ·exact .one ha hb hE
     ·exact .step ha hb hE h1
   ·simp only [Bool.and_eq_true, beq_iff_eq] at hE
    obtain ⟨rfl, rfl⟩ := hE
    rcases ih with ih | ⟨_, h2⟩
    ·exact .inr ⟨.inl rfl, .inr ih⟩
    ·exact .inr ⟨.inl rfl, h2⟩
 ·have up : ∀ {a b : Nat}, TC n R a b → TC n R' a b := by
   intro a b h
   induction h with
   | one ha hb hE => exact .one ha hb (by rw [hR, hE]; rfl)
   | step ha hb hE _ ih => exact .step ha hb (by rw [hR, hE]; rfl) ih
  have edge : TC n R' x y := .one hx hy (by rw [hR]; simp)
  rintro (h | ⟨h1, h2⟩)
  ·exact up h
  ·have h3 : TC n R' a y := by
    rcases h1 with rfl | h1
    ·exact edge
    ·exact (up h1).trans edge
   rcases h2 with rfl | h2
   ·exact h3
   ·exact h3.trans (up h2)
theorem sh_more (m : List S33) (hm : Sh m) (x : Nat) (y : Int) (hx : x < m.length) : ShW (moreM m x y) := by
 refine ⟨by rw [moreM_len]; exact hm.len, fun f hf => ?_⟩
 unfold moreM at hf
 rcases List.mem_or_eq_of_mem_set hf with hf | rfl
 ·exact hm.w.fn f hf
 ·have hg := hm.fn _ (getD_in m x z33 hx)
  have h70 := hg.len
  refine ⟨?_, fun b hb => ?_⟩
  ·show ((m.getD x z33).f2 ++ [nb y]).length ≤ 71
   rw [List.length_append]
   show _ + 1 ≤ 71
   omega
  ·rcases List.mem_append.1 hb with hb | hb
   ·exact hg.blk b hb
   ·rw [List.mem_singleton.1 hb]
    exact ⟨show 1 ≤ 70 by omega, show 0 ≤ 20 by omega, show 0 ≤ 20 by omega, fun z hz => by rw [List.mem_singleton.1 hz]; exact Nat.zero_le _⟩
theorem cm_more (m : List S33) (x y : Nat) (hx : x < m.length) (hy : y < m.length) (i k : Nat) (hi : i < m.length) (hk : k < m.length) :
  cm (moreM m x y) (i : Int) (k : Int) = (cm m (i : Int) (k : Int) || ((i == x || cm m (i : Int) (x : Int)) && (k == y || cm m (y : Int) (k : Int)))) := by
 rw [cm_nat _ i k (by rw [moreM_len]; exact hi) (by rw [moreM_len]; exact hk), cm_nat m i k hi hk, cm_nat m i x hi hx, cm_nat m y k hy hk, moreM_len, Bool.eq_iff_iff]
 simp only [Bool.or_eq_true, Bool.and_eq_true, beq_iff_eq]
 rw [wsh_iff _ _ i k hi hk, wsh_iff _ _ i k hi hk, wsh_iff _ _ i x hi hx, wsh_iff _ _ y k hy hk]
 exact tc_more m.length (E m) (E (moreM m x y)) x y hx hy (E_more m x y hx) i k
theorem of_more (m : List S33) (x y : Nat) (hx : x < m.length) (hy : y < m.length) : (y : Int) ∈ ofL (moreM m x y) x := by
 refine mem_pickN.2 ⟨y, rfl, by rw [moreM_len]; exact hy, ?_⟩
 rw [E_more m x y hx]
 simp
end Go.Proofs.Ytjjcnbfmmhokeaa.G
namespace Go.Proofs.Ytjjcnbfmmhokeaa.Pure
open Go.RowKit Go.Proofs.Ytjjcnbfmmhokeaa.X Go.Proofs.Ytjjcnbfmmhokeaa.G Go.Proofs.YtjjcnbfmmhokeaaW.PrintWords
set_option linter.all false
theorem evt_all {n : Nat} {g : Nat → Nat → Option Bool} (h : ∀ i, i < n → Evt (fun k => g k i) true) : ∃ k0, ∀ k, k0 ≤ k → ∀ i, i < n → g k i = some true := by
 induction n with
 | zero => exact ⟨0, fun k _ i hi => absurd hi (Nat.not_lt_zero i)⟩
 | succ n ih =>
  obtain ⟨k1, h1⟩ := ih fun i hi => h i (Nat.lt_succ_of_lt hi)
  obtain ⟨k2, h2⟩ := h n (Nat.lt_succ_self n)
  refine ⟨k1 + k2, fun k hk i hi => ?_⟩
  rcases Nat.lt_succ_iff_lt_or_eq.1 hi with hi | rfl
  ·exact h1 k (by omega) i hi
  ·exact h2 k (by omega)
theorem more_go (m : List S33) (hm : Sh m) (x y : Nat) (hx : x < m.length) (hy : y < m.length) : Evt (fun k => moreGo k (moreM m x (y : Int)) m x y) true := by
 have hc := sh_more m hm x (y : Int) hx
 have hm2 := hm.w
 have hl := hm.len
 have at_ : ∀ i, i < m.length → ∀ j, j < m.length → Evt (fun k => moreAt k (moreM m x (y : Int)) m x y i j) true := by
  intro i hi j hj
  have e := cm_more m x y hx hy i j hi hj
  have := Evt.bind (h := fun k was => (calls_Comes.f k m i x).bind fun p => (calls_Comes.f k m y j).bind fun q => (calls_Comes.f k (moreM m x (y : Int)) i j).bind fun now => some (now == (was || ((i == x || p) && (j == y || q))))) (comes_ev m hm2 (i : Int) (j : Int))
   (Evt.bind (h := fun k p => (calls_Comes.f k m y j).bind fun q => (calls_Comes.f k (moreM m x (y : Int)) i j).bind fun now => some (now == (cm m i j || ((i == x || p) && (j == y || q))))) (comes_ev m hm2 (i : Int) (x : Int))
    (Evt.bind (h := fun k q => (calls_Comes.f k (moreM m x (y : Int)) i j).bind fun now => some (now == (cm m i j || ((i == x || cm m i x) && (j == y || q))))) (comes_ev m hm2 (y : Int) (j : Int))
     (Evt.bind (h := fun _ now => some (now == (cm m i j || ((i == x || cm m i x) && (j == y || cm m y j))))) (comes_ev _ hc (i : Int) (j : Int)) (Evt.pure _))))
  rw [e] at this
  rw [beq_self_eq_true] at this
  exact this
 obtain ⟨k1, h1⟩ := comes_ev (moreM m x (y : Int)) hc (x : Int) (y : Int)
 have e1 : cm (moreM m x (y : Int)) (x : Int) (y : Int) = true := by rw [cm_more m x y hx hy x y hx hy]; simp
 rw [e1] at h1
 have hof := of_prog (moreM m x (y : Int)) hc (x : Int)
 rw [if_pos ((isB_iff _ _).2 ⟨Int.natCast_nonneg x, by rw [moreM_len]; omega⟩), Int.toNat_natCast] at hof
 have hlen : (ofL (moreM m x (y : Int)) x).length ≤ 100000 := Nat.le_trans (pickN_len _ _) (by rw [moreM_len]; omega)
 obtain ⟨k2, h2⟩ := has_ev (ofL (moreM m x (y : Int)) x) (y : Int) hlen
 rw [decide_eq_true (of_more m x y hx hy)] at h2
 have rows : ∀ i, i < m.length → ∃ k0, ∀ k, k0 ≤ k → ∀ j, j < m.length → moreAt k (moreM m x (y : Int)) m x y i j = some true := fun i hi => evt_all (g := fun k j => moreAt k (moreM m x (y : Int)) m x y i j) (at_ i hi)
 have all : ∀ n, n ≤ m.length → ∃ k0, ∀ k, k0 ≤ k → ∀ i, i < n → ∀ j, j < m.length → moreAt k (moreM m x (y : Int)) m x y i j = some true := by
  intro n
  induction n with
  | zero => exact fun _ => ⟨0, fun k _ i hi => absurd hi (Nat.not_lt_zero i)⟩
  | succ n ih =>
   intro hn
   obtain ⟨q1, g1⟩ := ih (by omega)
   obtain ⟨q2, g2⟩ := rows n (by omega)
   refine ⟨q1 + q2, fun k hk i hi => ?_⟩
   rcases Nat.lt_succ_iff_lt_or_eq.1 hi with hi | rfl
   ·exact g1 k (by omega) i hi
   ·exact g2 k (by omega)
 obtain ⟨k3, h3⟩ := all m.length (Nat.le_refl _)
 refine ⟨k1 + k2 + k3, fun k hk => ?_⟩
 show moreGo k (moreM m x (y : Int)) m x y = some true
 unfold moreGo
 refine if_pos ⟨h1 k (by omega), ?_, h3 k (by omega)⟩
 rw [hof]
 exact h2 k (by omega)
theorem CallsMore (m : List S33) (a : Int) (wa : (Lit.int .u8 a).wf = true) (b : Int) (wb : (Lit.int .u8 b).wf = true) : ∃ k, davitlaw11_CallsMore.f k m a b = some true := by
 obtain ⟨s, hs, hsh⟩ := short_ev m
 have ha : 0 ≤ a ∧ a < 256 := by
  simp [Lit.wf, IntKind.min, IntKind.max, IntKind.signed, IntKind.bits] at wa
  omega
 have hb : 0 ≤ b ∧ b < 256 := by
  simp [Lit.wf, IntKind.min, IntKind.max, IntKind.signed, IntKind.bits] at wb
  omega
 refine Evt.ex (Evt.congr (Evt.bind (h := fun k t => (davitref02_Short.f k m).bind fun s => if t = true ∧ 0 ≤ a ∧ a < 256 ∧ 0 ≤ b ∧ b < 256 then
   (if s = true ∧ 0 < m.length then (if m.length ≤ 1000 ∧ (∀ f ∈ m, f.f2.length ≤ 1000) then moreGo k (moreM m (a.toNat % m.length) ((b.toNat % m.length : Nat) : Int)) m (a.toNat % m.length) (b.toNat % m.length) else none) else some true)
  else none) awake_ev (Evt.bind (h := fun k s => if true = true ∧ 0 ≤ a ∧ a < 256 ∧ 0 ≤ b ∧ b < 256 then
   (if s = true ∧ 0 < m.length then (if m.length ≤ 1000 ∧ (∀ f ∈ m, f.f2.length ≤ 1000) then moreGo k (moreM m (a.toNat % m.length) ((b.toNat % m.length : Nat) : Int)) m (a.toNat % m.length) (b.toNat % m.length) else none) else some true)
  else none) hs ?_)) fun k => rfl)
 refine Evt.congr ?_ fun k => if_pos ⟨rfl, ha.1, ha.2, hb.1, hb.2⟩
 by_cases h : s = true ∧ 0 < m.length
 ·have hm := hsh h.1
  have hl := hm.len
  refine Evt.congr ?_ fun k => if_pos h
  refine Evt.congr ?_ fun k => if_pos ⟨by omega, fun f hf => Nat.le_trans (hm.fn f hf).len (by omega)⟩
  exact more_go m hm _ _ (Nat.mod_lt _ h.2) (Nat.mod_lt _ h.2)
 ·exact Evt.congr (Evt.pure _) fun k => if_neg h
end Go.Proofs.Ytjjcnbfmmhokeaa.Pure
namespace Go.Proofs.Ytjjcnbfmmhokeaa.X
open Go.ChangeShapes Go.WideShapes Go.ChangeAt Go.RowKit Go.Proofs.YtjjcnbfmmhokeaaW.PrintWords Go.Proofs.YtjjcnbfmmhokeaaW.PrintLast Go.Proofs.YtjjcnbfmmhokeaaW.PrintMore
set_option linter.all false
def Opens {α : Type} (d : Kd α) (t : TypeId) : Prop := ∀ (H : Type) (enc : TypeId × Value → H) (w : World) (fuel : Nat) (cs : List Value) (x : DataW H × List MemPlace),
 DataW.trod enc Try.prog w 0 (fun _ => true) true fuel t cs = some x → ∃ a, d.K w a cs
theorem Opens.int {k : IntKind} {t : TypeId} (ht : Try.prog.underlying t = some (.int k)) : Opens (Kd.int k) t := fun H enc w fuel cs x h => by
 obtain ⟨n, rfl, _⟩ := DataW.trod_int ht h
 exact ⟨n, rfl⟩
theorem Opens.bool {t : TypeId} (ht : Try.prog.underlying t = some .bool) : Opens Kd.bool t := fun H enc w fuel cs x h => by
 obtain ⟨n, rfl, _⟩ := DataW.trod_bool ht h
 exact ⟨n, rfl⟩
theorem Opens.slice {α : Type} {d : Kd α} {t e : TypeId} (e' : Nat) (ht : Try.prog.underlying t = some (.slice e)) (hd : Opens d e) (hs : d.sz = Try.prog.cellsOf e) : Opens (Kd.slice e' d) t := fun H enc w fuel cs x h => by
 rcases Go.Deep.open_slice ht h with ⟨rfl, _⟩ | ⟨a, len, cap, m, n, D, Pl, rfl, _, hl, hm, hmm, _, hx⟩
 ·exact ⟨[], none, 0, rfl, Nat.le_refl _, ⟨rfl, by simp, fun h => absurd h (by simp)⟩⟩
 ·have hlm : len ≤ m := by rw [hmm]; split <;> omega
  have key : ∀ j, j ≤ len → ∃ xs : List α, xs.length = j ∧ ∀ i p, xs[i]? = some p → ∃ c, c.length = d.sz ∧ d.K w p c ∧ ∀ q u, c[q]? = some u → w.cell? (a.add (i * d.sz + q)) = some u := by
   intro j
   induction j with
   | zero => exact fun _ => ⟨[], rfl, fun i p h => by simp at h⟩
   | succ j ih =>
    intro hj
    obtain ⟨xs, h1, h2⟩ := ih (by omega)
    obtain ⟨cs', h3, h4⟩ := hx j (by omega)
    obtain ⟨p, hp⟩ := hd H enc w n cs' _ h4
    obtain ⟨_, h5, h6⟩ := World.cells?_some h3
    refine ⟨xs ++ [p], by simp [h1], fun i q hq => ?_⟩
    by_cases hi : i < j
    ·rw [List.getElem?_append_left (by omega)] at hq
     exact h2 i q hq
    ·have hi' : i = j := by
      have := (List.getElem?_eq_some_iff.1 hq).1
      simp [h1] at this; omega
     subst hi'
     rw [List.getElem?_append_right (by omega), h1, Nat.sub_self] at hq
     simp at hq
     subst hq
     refine ⟨cs', by rw [h5, hs], hp, fun z u hz => ?_⟩
     have hzl := (List.getElem?_eq_some_iff.1 hz).1
     have := h6 z (by omega)
     rw [Go.Deep.add_add, ← hs] at this
     rw [this, hz]
  obtain ⟨xs, h1, h2⟩ := key len (Nat.le_refl _)
  have hmx : maxLen ≤ 9223372036854775807 := by decide
  exact ⟨xs, some a, cap, by rw [h1], by rw [h1]; exact hl, ⟨rfl, by omega, fun _ => ⟨a, rfl, h2⟩⟩⟩
theorem Opens.iso {α β : Type} {d : Kd α} {t : TypeId} (f : β → α) (g : α → β) (hg : ∀ y, f (g y) = y) (h : Opens d t) : Opens (Kd.iso d f) t := fun H enc w fuel cs x hx => by
 obtain ⟨a, ha⟩ := h H enc w fuel cs x hx
 exact ⟨g a, show d.K w (f (g a)) cs by rw [hg]; exact ha⟩
def OpensF {α : Type} (d : Kd α) (fs : List Field) (off : Nat) : Prop := ∀ (H : Type) (enc : TypeId × Value → H) (w : World) (n : Nat) (cs : List Value), cs.length = off + d.sz →
 (∀ f ∈ fs, ∃ y, DataW.trod enc Try.prog w 0 (fun _ => true) true n f.type ((cs.drop f.offset).take (Try.prog.cellsOf f.type)) = some y) → ∃ a, d.K w a (cs.drop off)
theorem OpensF.one {α : Type} {d : Kd α} {f : Field} {off : Nat} (ho : f.offset = off) (hd : Opens d f.type) (hs : Try.prog.cellsOf f.type = d.sz) : OpensF d [f] off := fun H enc w n cs hl h => by
 obtain ⟨y, hy⟩ := h f (List.mem_cons_self ..)
 rw [ho, hs, List.take_of_length_le (by rw [List.length_drop]; omega)] at hy
 exact hd H enc w n _ _ hy
theorem OpensF.cons {α β : Type} {d : Kd α} {d2 : Kd β} {f : Field} {fs : List Field} {off : Nat} (ho : f.offset = off) (hd : Opens d f.type) (hs : Try.prog.cellsOf f.type = d.sz) (h2 : OpensF d2 fs (off + d.sz)) : OpensF (Kd.pair d d2) (f :: fs) off := fun H enc w n cs hl h => by
 obtain ⟨y, hy⟩ := h f (List.mem_cons_self ..)
 rw [ho, hs] at hy
 obtain ⟨a, ha⟩ := hd H enc w n _ _ hy
 have hl' : cs.length = off + (d.sz + d2.sz) := hl
 obtain ⟨b, hb⟩ := h2 H enc w n cs (by omega) fun g hg => h g (List.mem_cons_of_mem _ hg)
 refine ⟨(a, b), _, _, ?_, ha, hb⟩
 rw [show cs.drop (off + d.sz) = (cs.drop off).drop d.sz by rw [List.drop_drop], List.take_append_drop]
theorem Opens.struct {α : Type} {d : Kd α} {t : TypeId} {fs : Array Field} (ht : Try.prog.underlying t = some (.struct fs)) (hs : Try.prog.cellsOf t = d.sz) (h : OpensF d fs.toList 0) : Opens d t := fun H enc w fuel cs x hx => by
 obtain ⟨xs, n, _, _, hl, hlen, hf⟩ := DataW.trod_struct ht hx
 have := h H enc w n cs (by omega) fun f hm => by
  obtain ⟨i, hi, e⟩ := List.getElem_of_mem hm
  have hi' : i < fs.size := by simpa using hi
  have := hf i f (by rw [← e]; simp [hi'])
  rw [this, List.getElem?_eq_getElem (by omega)]
  exact ⟨_, rfl⟩
 simpa using this
end Go.Proofs.Ytjjcnbfmmhokeaa.X
namespace Go.Proofs.Ytjjcnbfmmhokeaa.X
open Go.RowKit Go.Proofs.YtjjcnbfmmhokeaaW.PrintWords Go.Proofs.YtjjcnbfmmhokeaaW.PrintLast Go.Proofs.YtjjcnbfmmhokeaaW.PrintMore
set_option linter.all false
set_option maxRecDepth 100000
theorem oInt : Opens (Kd.int .i64) 3 := Opens.int Try.underlying3
theorem oBool : Opens Kd.bool 4 := Opens.bool Try.underlying4
theorem oInts : Opens (Kd.slice 3 (Kd.int .i64)) 29 := Opens.slice 3 Try.underlying29 oInt (by kernel_rfl)
theorem oWords : Opens (Kd.slice 34 (Kd.int .u16)) 38 := Opens.slice 34 (t := 38) (e := 34) (by kernel_rfl) (Opens.int (by kernel_rfl)) (by kernel_rfl)
theorem o40 : Opens k40 40 := Opens.iso _ (fun y => ⟨y.1, y.2.1, y.2.2.1, y.2.2.2⟩) (fun _ => rfl) (Opens.struct Try.underlying40 (by kernel_rfl)
 (.cons rfl oInt (by kernel_rfl) (.cons rfl oWords (by kernel_rfl) (.cons rfl oBool (by kernel_rfl) (.one rfl oBool (by kernel_rfl))))))
theorem o36 : Opens k36 36 := Opens.iso _ (fun y => ⟨y.1, y.2.1, y.2.2.1, y.2.2.2.1, y.2.2.2.2.1, y.2.2.2.2.2.1, y.2.2.2.2.2.2⟩) (fun _ => rfl) (Opens.struct Try.underlying36 (by kernel_rfl)
 (.cons rfl oInt (by kernel_rfl) (.cons rfl oInt (by kernel_rfl) (.cons rfl oInt (by kernel_rfl) (.cons rfl oInt (by kernel_rfl) (.cons rfl (Opens.int (by kernel_rfl)) (by kernel_rfl) (.cons rfl oInt (by kernel_rfl) (.one rfl oInts (by kernel_rfl)))))))))
theorem o42 : Opens k42 42 := Opens.iso _ (fun y => ⟨y.1, y.2.1, y.2.2.1, y.2.2.2.1, y.2.2.2.2.1, y.2.2.2.2.2.1, y.2.2.2.2.2.2.1, y.2.2.2.2.2.2.2⟩) (fun _ => rfl) (Opens.struct Try.underlying42 (by kernel_rfl)
 (.cons rfl oInt (by kernel_rfl) (.cons rfl oInt (by kernel_rfl) (.cons rfl oInt (by kernel_rfl) (.cons rfl oInt (by kernel_rfl) (.cons rfl oInts (by kernel_rfl) (.cons rfl oInt (by kernel_rfl) (.cons rfl oInt (by kernel_rfl) (.one rfl oInt (by kernel_rfl))))))))))
theorem o44 : Opens k44 44 := Opens.iso _ (fun y => ⟨y.1, y.2.1, y.2.2.1, y.2.2.2⟩) (fun _ => rfl) (Opens.struct Try.underlying44 (by kernel_rfl)
 (.cons rfl oBool (by kernel_rfl) (.cons rfl o40 (by kernel_rfl) (.cons rfl (Opens.slice 36 (t := 37) (e := 36) (by kernel_rfl) o36 (by kernel_rfl)) (by kernel_rfl) (.one rfl o42 (by kernel_rfl))))))
theorem o33 : Opens k33 33 := Opens.iso _ (fun y => ⟨y.1, y.2.1, y.2.2⟩) (fun _ => rfl) (Opens.struct Try.underlying33 (by kernel_rfl)
 (.cons rfl oInt (by kernel_rfl) (.cons rfl oInt (by kernel_rfl) (.one rfl (Opens.slice 44 (t := 31) (e := 44) (by kernel_rfl) o44 (by kernel_rfl)) (by kernel_rfl)))))
theorem o24 : Opens k24 24 := Opens.iso _ (fun y => ⟨y⟩) (fun _ => rfl) (Opens.struct Try.underlying24 (by kernel_rfl)
 (.one rfl (Opens.slice 33 (t := 22) (e := 33) (by kernel_rfl) o33 (by kernel_rfl)) (by kernel_rfl)))
theorem open_mod {H : Type} {enc : TypeId × Value → H} {W : World} {r : Reach} {b0 : Nat} {v : Value} {d : DataW H} {p : List MemPlace} (hv : Value.okWide Try.prog W r b0 24 v) (h : DataW.Trod enc Try.prog W 0 (fun _ => true) true 24 v d p) :
  ∃ (A : Option Addr) (c : Nat) (l : List S33), v = .agg #[.slice A l.length c] ∧ Kd.C k33 W A l.length l ∧ l.length ≤ c := by
 obtain ⟨cs, rfl, hsz⟩ := Go.WideShapes.okWide_struct (t := 24) Try.underlying24 hv
 have hsz : cs.size = 1 := hsz.trans (by kernel_rfl)
 obtain ⟨c0, rfl⟩ : ∃ c0, cs = #[c0] := by
  obtain ⟨l⟩ := cs
  match l, hsz with
  | [c0], _ => exact ⟨c0, rfl⟩
 obtain ⟨fuel, hf⟩ := h
 obtain ⟨a, ha⟩ := o24 H enc W fuel _ _ hf
 obtain ⟨A, c, e, hc, hC⟩ := ha
 simp only [Value.cells] at e
 injection e with e _
 subst e
 exact ⟨A, c, a.f0, rfl, hC, hc⟩
end Go.Proofs.Ytjjcnbfmmhokeaa.X
namespace Go.Proofs.Ytjjcnbfmmhokeaa.callsMore
open Go.ChangeShapes Go.WideShapes Go.ChangeAt Go.RowKit Go.Proofs.Ytjjcnbfmmhokeaa.X Go.Proofs.YtjjcnbfmmhokeaaW.PrintWords
set_option linter.all false
theorem own : ownKnob Try.prog.godebug = none := by kernel_rfl
theorem laidOut : laidOutB Try.prog = true := by kernel_rfl
set_option maxRecDepth 100000 in
theorem lifted (os : Os) (started : os.Started) (H : Type) (enc : TypeId × Value → H) :
  ReturnsInHanded {} Try.checked os 4 .any (Rows.callsMoreSpec.pre6 enc Try.prog Try.f4 Rows.callsMoreRow.domain false) (Rows.callsMoreSpec.post enc Try.prog Try.f4 false true false false) := by
 refine returnsInHanded_of_change_sized (C := Try.checked) own started (by kernel_rfl) Try.func4
  (ChangeSpec.witness6 (enc := enc) (C := Try.checked) false ⟨#[], #[.agg #[.slice none 0 0], .int .u8 0, .int .u8 0], []⟩ 8 (by kernel_rfl) (by kernel_rfl) (by kernel_rfl) (by kernel_rfl)) ?_
 intro W base args ds gs before hval0 hW hcnd hsz0 _
 have hval : ∀ (j : Nat) t v, Try.f4.params[j]? = some t → args[j]? = some v → Value.okWide Try.prog W .any base t v := hval0
 have hW' := hW
 obtain ⟨p, q, hA0, hV, rfl, hfz, hnd⟩ := hW
 have hA : DataW.TrodAll enc Try.prog W 0 (fun _ => true) true Try.f4.params.toList args.toList ds p := hA0
 rw [Try.params4] at hA hval
 obtain ⟨v0, vs0, d0, ds0, p0, q0, hargs, rfl, rfl, h0, r0⟩ := trodAll_cons hA
 obtain ⟨v1, vs1, d1, ds1, p1, q1, rfl, rfl, rfl, h1, r1⟩ := trodAll_cons r0
 obtain ⟨v2, vs2, d2, ds2, p2, q2, rfl, rfl, rfl, h2, r2⟩ := trodAll_cons r1
 obtain ⟨rfl, rfl, rfl⟩ := trodAll_nil r2
 obtain rfl : args = #[v0, v1, v2] := by cases args; simp_all
 obtain ⟨rfl, rfl⟩ := trodVars_none hV
 have k0 := h0
 have lt0 : ∀ x ∈ p0, x.block < W.heap.size := by obtain ⟨m, hm⟩ := k0; exact DataW.trod_lt m _ _ _ hm
 obtain ⟨A_0, c_0, l_0, rfl, hC_0, hc_0⟩ := open_mod (hval 0 24 v0 rfl rfl) h0
 obtain ⟨a1, rfl, rfl, rfl, w1⟩ := open_int Try.underlying5 (hval 1 5 v1 rfl rfl) h1
 obtain ⟨a2, rfl, rfl, rfl, w2⟩ := open_int Try.underlying5 (hval 2 5 v2 rfl rfl) h2
 clear hA0 hval0 hsz0
 obtain ⟨k, hk⟩ := Pure.CallsMore l_0 a1 w1 a2 w2
 refine (davitlaw11_CallsMore.calls k A_0 c_0 l_0 a1 a2 true W hC_0 hc_0 hk).mono fun e W' ⟨he, bel⟩ => ?_
 subst he
 exact ⟨_, rfl, _, _, _, [], _, [], hW', trodAll_mk1 (shut_bool Try.underlying4 _), (trodAll_cons_mk (Below.trod laidOut (by kernel_rfl) (of_decide_eq_true (by kernel_rfl)) k0 bel lt0) (trodAll_cons_mk (shut_int Try.underlying5 w1) (trodAll_cons_mk (shut_int Try.underlying5 w2) trodAll_mk0))), rfl, bel.frame _, fun h => by cases h⟩
theorem over : Rows.callsMoreRow.holds Try.pinned (OpenSpec.ofChange Rows.callsMoreSpec) :=
 OpenClaim.holds_of_wide 4 Try.f4 rfl rfl rfl rfl rfl rfl rfl ⟨rfl, rfl, rfl, rfl, rfl⟩ rfl rfl rfl rfl rfl (by kernel_rfl) Try.func4 (by kernel_rfl)
  (of_decide_eq_true (by kernel_rfl)) (by unfold Func.isWrapper; first | (rw [if_pos (by decide +kernel)]; kernel_rfl) | (rw [if_neg (by decide +kernel)]; exact ⟨rfl, rfl⟩))
  (fun os started H enc _ => lifted os started H enc)
theorem proved : Rows.CallsMoreSaid := over
#print axioms proved
end Go.Proofs.Ytjjcnbfmmhokeaa.callsMore
namespace Go.Proofs.Ytjjcnbfmmhokeaa
theorem callsMore_holds : Rows.CallsMoreSaid := callsMore.proved
end Go.Proofs.Ytjjcnbfmmhokeaa
