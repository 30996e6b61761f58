/- Part 10 of the proof of the statement ShapeCopies: the words of the walks, the walks through the functions that it reaches, and the plain laws of what they compute. -/
import Derived.Test.YtbfialebaoeicaaMShapeCopies8
import Derived.RegionTactic
import Derived.ChangeAlike
import Derived.Deep.QuietTactic
import Derived.BigQuiet
namespace Go.Proofs.Ytbfialebaoeicaa.X
open Go.RowKit Go.Proofs.YtbfialebaoeicaaW.PrintWords Go.Proofs.YtbfialebaoeicaaW.PrintLast Go.Proofs.YtbfialebaoeicaaW.PrintMore
set_option linter.all false
theorem RU.over {base g n cap gs : Nat} {w w' : World} {xs : List Int} {cs : Array Value} {t : TypeId} (h : RU w base g n cap xs) (hg : w.grownBy w' (some gs)) (hb : w.heap[gs]? = some (.cells cs t (0, 0))) (ht : 44 ≠ t) : RU w' base g n cap xs :=
 Kd.R_grown2 h rfl hg (fun k hk => by injection hk with hk; rw [← hk]; exact Kd.R_ne h hb ht)
def SW (gs : Nat) (w W : World) : Prop := (∃ k : Int, W.heap[gs]? = some (.cells #[.int .i64 k] 3 (0, 0))) ∧ w.grownBy W (some gs)
theorem SW.trans {gs : Nat} {w W V : World} (h : SW gs w W) (k : SW gs W V) : SW gs w V := ⟨k.1, grown_trans h.2 k.2⟩
theorem set_one {w : World} {g : Nat} {t : TypeId} {v : Value} (h : w.heap[g]? = some (.cells #[v] t (0, 0))) (u : Value) : (w.setCell ⟨g, 0, none⟩ u).heap[g]? = some (.cells #[u] t (0, 0)) := (blk_set h 0 u).trans rfl
theorem grown_set {w W : World} {g : Nat} (h : w.grownBy W (some g)) (i : Nat) (u : Value) : w.grownBy (W.setCell ⟨g, i, none⟩ u) (some g) :=
 ⟨h.os, h.tape, h.output, (by rw [World.size_setCell]; exact h.size), fun k hk hr => (Below.heap_setCell W ⟨g, i, none⟩ u k (fun e => hr (by rw [e]))).trans (h.block k hk hr)⟩
set_option maxHeartbeats 16000000 in
set_option maxRecDepth 100000 in
theorem ord_c (base g n cap gs : Nat) (a b k : Int) (w : World) (xs : List Int) (h : RU w base g n cap xs) (hk : w.heap[gs]? = some (.cells #[.int .i64 k] 3 (0, 0))) (a0 : 0 ≤ a) (a1 : a < n) (b0 : 0 ≤ b) (b1 : b < n) :
  Calls Try.prog 147 #[.slice (some ⟨g, 0, none⟩) n cap, .int .i64 a, .int .i64 b, .pointer (some ⟨gs, 0, none⟩)] w fun e w' => (e = .returned (.tuple #[.int .i64 a, .int .i64 b]) ∨ e = .returned (.tuple #[.int .i64 b, .int .i64 a])) ∧ SW gs w w' := by
 have HR := Aside0.mk h
 have XS := Aside0.mk hk
 obtain ⟨hc1, hf1⟩ := Kd.R_celln (0 : Int) h a a0 a1
 obtain ⟨hc2, hf2⟩ := Kd.R_celln (0 : Int) h b b0 b1
 generalize rdOf (0 : Int) xs a = u1 at hc1
 generalize rdOf (0 : Int) xs b = u2 at hc2
 have p1 : (0 ≤ a) = True := eq_true a0
 have p2 : (a < (n : Int)) = True := eq_true a1
 have p3 : (0 ≤ b) = True := eq_true b0
 have p4 : (b < (n : Int)) = True := eq_true b1
 clear h hk a0 a1 b0 b1 hf1 hf2
 have hs0 := (blk_cell XS.out 0).trans rfl
 have hs1 := blk_frozen XS.out 0
 go_enter Try.func147, Try.ntmps147
 go_wp2
 go_quiet ((go_at_call 136; exact Calls.quiet_of_same (less_c _ _ _)))
 go_wp2
 all_goals go_ret2
 all_goals first | exact ⟨.inl rfl, ⟨⟨k, blk_drewN XS.out _⟩, grown_drewN (World.grownBy.refl _ _) _⟩⟩ | exact ⟨.inr rfl, ⟨⟨_, set_one (blk_drewN XS.out _) _⟩, grown_set (grown_drewN (World.grownBy.refl _ _) _) _ _⟩⟩
set_option maxHeartbeats 16000000 in
set_option maxRecDepth 100000 in
theorem med_c (base g n cap gs : Nat) (a b c k : Int) (w : World) (xs : List Int) (h : RU w base g n cap xs) (hk : w.heap[gs]? = some (.cells #[.int .i64 k] 3 (0, 0))) (a0 : 0 ≤ a) (a1 : a < n) (b0 : 0 ≤ b) (b1 : b < n) (c0 : 0 ≤ c) (c1 : c < n) :
  Calls Try.prog 145 #[.slice (some ⟨g, 0, none⟩) n cap, .int .i64 a, .int .i64 b, .int .i64 c, .pointer (some ⟨gs, 0, none⟩)] w fun e w' => (∃ r : Int, e = .returned (.int .i64 r) ∧ (r = a ∨ r = b ∨ r = c)) ∧ SW gs w w' := by
 have HR := Aside0.mk h
 have HS := Aside0.mk (show SW gs w w from ⟨⟨k, hk⟩, World.grownBy.refl _ _⟩)
 have XS := Aside0.mk hk
 have HA := Aside0.mk (show (0 ≤ a ∧ a < n) ∧ (0 ≤ b ∧ b < n) ∧ (0 ≤ c ∧ c < n) from ⟨⟨a0, a1⟩, ⟨b0, b1⟩, ⟨c0, c1⟩⟩)
 clear h hk a0 a1 b0 b1 c0 c1
 go_enter Try.func145, Try.ntmps145
 go_upto_region 1 with (fail)
 go_cut [1, 2] (fun v1 v2 wc => ∃ x y : Int, v1 = .int .i64 x ∧ v2 = .int .i64 y ∧ Aside0 ((x = a ∧ y = b) ∨ (x = b ∧ y = a)) ∧ Aside0 (SW gs w wc))
 case first =>
  obtain ⟨⟨kk, hkk⟩, hgg⟩ := HS.out
  have HQ := Aside0.mk hgg
  have XK := Aside0.mk hkk
  clear hkk hgg
  go_wp2_with (go_at_call 147; (with_reducible refine (ord_c base g n cap gs a b kk _ xs (RU.over HR.out HQ.out XS.out (by decide)) XK.out (by have h1_ := HA.out; omega) (by have h1_ := HA.out; omega) (by have h1_ := HA.out; omega) (by have h1_ := HA.out; omega)).mono ?_); rintro e w6 ⟨rfl | rfl, hsw⟩ <;> (have HW := Aside0.mk (SW.trans HS.out hsw); clear hsw))
  all_goals go_wp2
  all_goals go_meet
  all_goals exact ⟨_, _, rfl, rfl, ⟨by first | exact .inl ⟨rfl, rfl⟩ | exact .inr ⟨rfl, rfl⟩⟩, HW⟩
 case rest =>
  clear HS
  obtain ⟨x1, y1, rfl, rfl, HXY1, HS⟩ := hcut
  have HA1 := Aside0.mk (show (0 ≤ x1 ∧ x1 < n) ∧ (0 ≤ y1 ∧ y1 < n) ∧ (0 ≤ c ∧ c < n) by have h1_ := HA.out; have h2_ := HXY1.out; omega)
  clear HA
  have HA := HA1
  clear HA1
  go_upto_region 2 with (fail)
  go_cut [2, 3] (fun v1 v2 wc => ∃ x y : Int, v1 = .int .i64 x ∧ v2 = .int .i64 y ∧ Aside0 ((x = y1 ∧ y = c) ∨ (x = c ∧ y = y1)) ∧ Aside0 (SW gs w wc))
  case first =>
   obtain ⟨⟨kk, hkk⟩, hgg⟩ := HS.out
   have HQ := Aside0.mk hgg
   have XK := Aside0.mk hkk
   clear hkk hgg
   go_wp2_with (go_at_call 147; (with_reducible refine (ord_c base g n cap gs y1 c kk _ xs (RU.over HR.out HQ.out XS.out (by decide)) XK.out (by have h1_ := HA.out; omega) (by have h1_ := HA.out; omega) (by have h1_ := HA.out; omega) (by have h1_ := HA.out; omega)).mono ?_); rintro e w6 ⟨rfl | rfl, hsw⟩ <;> (have HW := Aside0.mk (SW.trans HS.out hsw); clear hsw))
   all_goals go_wp2
   all_goals go_meet
   all_goals exact ⟨_, _, rfl, rfl, ⟨by first | exact .inl ⟨rfl, rfl⟩ | exact .inr ⟨rfl, rfl⟩⟩, HW⟩
  case rest =>
   clear HS
   obtain ⟨x2, y2, rfl, rfl, HXY2, HS⟩ := hcut
   have HA2 := Aside0.mk (show (0 ≤ x2 ∧ x2 < n) ∧ (0 ≤ y2 ∧ y2 < n) ∧ (0 ≤ x1 ∧ x1 < n) by have h1_ := HA.out; have h2_ := HXY2.out; omega)
   clear HA
   have HA := HA2
   clear HA2
   go_upto_region 3 with (fail)
   go_cut [1, 2] (fun v1 v2 wc => ∃ x y : Int, v1 = .int .i64 x ∧ v2 = .int .i64 y ∧ Aside0 ((x = x1 ∧ y = x2) ∨ (x = x2 ∧ y = x1)) ∧ Aside0 (SW gs w wc))
   case first =>
    obtain ⟨⟨kk, hkk⟩, hgg⟩ := HS.out
    have HQ := Aside0.mk hgg
    have XK := Aside0.mk hkk
    clear hkk hgg
    go_wp2_with (go_at_call 147; (with_reducible refine (ord_c base g n cap gs x1 x2 kk _ xs (RU.over HR.out HQ.out XS.out (by decide)) XK.out (by have h1_ := HA.out; omega) (by have h1_ := HA.out; omega) (by have h1_ := HA.out; omega) (by have h1_ := HA.out; omega)).mono ?_); rintro e w6 ⟨rfl | rfl, hsw⟩ <;> (have HW := Aside0.mk (SW.trans HS.out hsw); clear hsw))
    all_goals go_wp2
    all_goals go_meet
    all_goals exact ⟨_, _, rfl, rfl, ⟨by first | exact .inl ⟨rfl, rfl⟩ | exact .inr ⟨rfl, rfl⟩⟩, HW⟩
   case rest =>
    clear HS
    obtain ⟨x3, y3, rfl, rfl, HXY3, HS⟩ := hcut
    have HA3 := Aside0.mk (show (0 ≤ x3 ∧ x3 < n) ∧ (0 ≤ y3 ∧ y3 < n) ∧ (0 ≤ y2 ∧ y2 < n) by have h1_ := HA.out; have h2_ := HXY3.out; omega)
    clear HA
    have HA := HA3
    clear HA3
    go_wp2
    go_ret
    exact ⟨⟨_, rfl, by have h1_ := HXY1.out; have h2_ := HXY2.out; have h3_ := HXY3.out; omega⟩, HS.out⟩
theorem grown_some {w W : World} {g : Nat} (h : w.grownBy W none) : w.grownBy W (some g) := ⟨h.os, h.tape, h.output, h.size, fun k hk _ => h.block k hk (by simp)⟩
theorem grown_new {w V W : World} (h : w.grownBy V none) (k : V.grownBy W (some w.heap.size)) : w.grownBy W none :=
 ⟨k.os.trans h.os, k.tape.trans h.tape, k.output.trans h.output, Nat.le_trans h.size k.size, fun i hi _ => (k.block i (Nat.lt_of_lt_of_le hi h.size) (fun e => by injection e with e; omega)).trans (h.block i hi (by simp))⟩
theorem RU.grown {base g n cap : Nat} {w w' : World} {xs : List Int} (h : RU w base g n cap xs) (hg : w.grownBy w' none) : RU w' base g n cap xs :=
 Kd.R_grown2 h rfl hg (fun k hk => by cases hk)
set_option maxHeartbeats 16000000 in
set_option maxRecDepth 100000 in
theorem cho_c (base g n cap : Nat) (a b : Int) (w : World) (xs : List Int) (h : RU w base g n cap xs) (h0 : 0 ≤ a) (h1 : a < b) (h2 : b ≤ n) (hl : b - a < 50) (hn : n ≤ 1000000) :
  Calls Try.prog 133 #[.slice (some ⟨g, 0, none⟩) n cap, .int .i64 a, .int .i64 b] w fun e w' => (∃ r : Int, (∃ k : Int, e = .returned (.tuple #[.int .i64 r, .int .i64 k])) ∧ a ≤ r ∧ r < b) ∧ w.grownBy w' none := by
 have HR := Aside0.mk h
 have HA := Aside0.mk (show 0 ≤ a ∧ a < b ∧ b ≤ n ∧ b - a < 50 ∧ (n : Int) ≤ 1000000 from ⟨h0, h1, h2, hl, by omega⟩)
 clear h h0 h1 h2 hl hn
 have s0 : IntKind.i64.wrap (b - a) = b - a := by rw [i64_w]; exact wrap_in _ (by have h1_ := HA.out; omega) (by have h1_ := HA.out; omega)
 have sw0 : wrap64 (b - a) = b - a := wrap_in _ (by have h1_ := HA.out; omega) (by have h1_ := HA.out; omega)
 obtain ⟨l, hl⟩ : ∃ l, l = b - a := ⟨_, rfl⟩
 have HL := Aside0.mk (show l = b - a ∧ 0 < l ∧ l < 50 by have h1_ := HA.out; omega)
 have hh : b - a = l := hl.symm
 replace s0 := s0.trans hh
 replace sw0 := sw0.trans hh
 clear hh hl
 obtain ⟨k, hk⟩ : ∃ k, k = l.tdiv 4 := ⟨_, rfl⟩
 have HK := Aside0.mk (show 0 ≤ k ∧ 4 * k ≤ l by have h1_ := HL.out; rw [hk, Int.tdiv_eq_ediv_of_nonneg (by omega)]; omega)
 have hk1 : l.tdiv 4 = k := hk.symm
 clear hk
 have z0 : IntKind.i64.wrap (k) = k := by rw [i64_w]; exact wrap_in _ (by have h1_ := HA.out; have h2_ := HL.out; have h3_ := HK.out; omega) (by have h1_ := HA.out; have h2_ := HL.out; have h3_ := HK.out; omega)
 have zw0 : wrap64 (k) = k := wrap_in _ (by have h1_ := HA.out; have h2_ := HL.out; have h3_ := HK.out; omega) (by have h1_ := HA.out; have h2_ := HL.out; have h3_ := HK.out; omega)
 have z1 : IntKind.i64.wrap (k * 1) = k * 1 := by rw [i64_w]; exact wrap_in _ (by have h1_ := HA.out; have h2_ := HL.out; have h3_ := HK.out; omega) (by have h1_ := HA.out; have h2_ := HL.out; have h3_ := HK.out; omega)
 have zw1 : wrap64 (k * 1) = k * 1 := wrap_in _ (by have h1_ := HA.out; have h2_ := HL.out; have h3_ := HK.out; omega) (by have h1_ := HA.out; have h2_ := HL.out; have h3_ := HK.out; omega)
 have z2 : IntKind.i64.wrap (k * 2) = k * 2 := by rw [i64_w]; exact wrap_in _ (by have h1_ := HA.out; have h2_ := HL.out; have h3_ := HK.out; omega) (by have h1_ := HA.out; have h2_ := HL.out; have h3_ := HK.out; omega)
 have zw2 : wrap64 (k * 2) = k * 2 := wrap_in _ (by have h1_ := HA.out; have h2_ := HL.out; have h3_ := HK.out; omega) (by have h1_ := HA.out; have h2_ := HL.out; have h3_ := HK.out; omega)
 have z3 : IntKind.i64.wrap (k * 3) = k * 3 := by rw [i64_w]; exact wrap_in _ (by have h1_ := HA.out; have h2_ := HL.out; have h3_ := HK.out; omega) (by have h1_ := HA.out; have h2_ := HL.out; have h3_ := HK.out; omega)
 have zw3 : wrap64 (k * 3) = k * 3 := wrap_in _ (by have h1_ := HA.out; have h2_ := HL.out; have h3_ := HK.out; omega) (by have h1_ := HA.out; have h2_ := HL.out; have h3_ := HK.out; omega)
 have z4 : IntKind.i64.wrap (a + k) = a + k := by rw [i64_w]; exact wrap_in _ (by have h1_ := HA.out; have h2_ := HL.out; have h3_ := HK.out; omega) (by have h1_ := HA.out; have h2_ := HL.out; have h3_ := HK.out; omega)
 have zw4 : wrap64 (a + k) = a + k := wrap_in _ (by have h1_ := HA.out; have h2_ := HL.out; have h3_ := HK.out; omega) (by have h1_ := HA.out; have h2_ := HL.out; have h3_ := HK.out; omega)
 have z5 : IntKind.i64.wrap (a + k * 1) = a + k * 1 := by rw [i64_w]; exact wrap_in _ (by have h1_ := HA.out; have h2_ := HL.out; have h3_ := HK.out; omega) (by have h1_ := HA.out; have h2_ := HL.out; have h3_ := HK.out; omega)
 have zw5 : wrap64 (a + k * 1) = a + k * 1 := wrap_in _ (by have h1_ := HA.out; have h2_ := HL.out; have h3_ := HK.out; omega) (by have h1_ := HA.out; have h2_ := HL.out; have h3_ := HK.out; omega)
 have z6 : IntKind.i64.wrap (a + k * 2) = a + k * 2 := by rw [i64_w]; exact wrap_in _ (by have h1_ := HA.out; have h2_ := HL.out; have h3_ := HK.out; omega) (by have h1_ := HA.out; have h2_ := HL.out; have h3_ := HK.out; omega)
 have zw6 : wrap64 (a + k * 2) = a + k * 2 := wrap_in _ (by have h1_ := HA.out; have h2_ := HL.out; have h3_ := HK.out; omega) (by have h1_ := HA.out; have h2_ := HL.out; have h3_ := HK.out; omega)
 have z7 : IntKind.i64.wrap (a + k * 3) = a + k * 3 := by rw [i64_w]; exact wrap_in _ (by have h1_ := HA.out; have h2_ := HL.out; have h3_ := HK.out; omega) (by have h1_ := HA.out; have h2_ := HL.out; have h3_ := HK.out; omega)
 have zw7 : wrap64 (a + k * 3) = a + k * 3 := wrap_in _ (by have h1_ := HA.out; have h2_ := HL.out; have h3_ := HK.out; omega) (by have h1_ := HA.out; have h2_ := HL.out; have h3_ := HK.out; omega)
 have q2 : decide (50 ≤ l) = false := decide_eq_false (by have := HL.out; omega)
 by_cases hq : 8 ≤ l
 rotate_left
 ·skip
  have q1 : decide (8 ≤ l) = false := decide_eq_false hq
  have HQ := Aside0.mk hq
  clear hq
  go_enter Try.func133, Try.ntmps133
  go_upto_region 2 with (fail)
  go_cut [9] (fun v9 wc => ∃ gs : Nat, v9 = .pointer (some ⟨gs, 0, none⟩) ∧ Aside0 (gs = w.heap.size) ∧ Aside0 (wc.heap[gs]? = some (.cells #[.int .i64 0] 3 (0, 0))) ∧ Aside0 (w.grownBy wc none))
  case first =>
   go_wp2
   go_meet
   exact ⟨_, rfl, ⟨rfl⟩, ⟨blk_new _ _⟩, ⟨World.grownBy_alloc _ _ _⟩⟩
  case rest =>
   obtain ⟨gs, rfl, HGS, XS, HG⟩ := hcut
   have hs0 := (blk_cell XS.out 0).trans rfl
   have hs1 := blk_frozen XS.out 0
   go_wp2
   all_goals go_ret2
   all_goals exact ⟨⟨_, ⟨_, rfl⟩, by have h1_ := HA.out; have h2_ := HL.out; have h3_ := HK.out; omega, by have h1_ := HA.out; have h2_ := HL.out; have h3_ := HK.out; omega⟩, HG.out⟩
 have q1 : decide (8 ≤ l) = true := decide_eq_true hq
 have HQ := Aside0.mk hq
 clear hq
 go_enter Try.func133, Try.ntmps133
 go_upto_region 2 with (fail)
 go_cut [9] (fun v9 wc => ∃ gs : Nat, v9 = .pointer (some ⟨gs, 0, none⟩) ∧ Aside0 (gs = w.heap.size) ∧ Aside0 (wc.heap[gs]? = some (.cells #[.int .i64 0] 3 (0, 0))) ∧ Aside0 (w.grownBy wc none))
 case first =>
  go_wp2
  go_meet
  exact ⟨_, rfl, ⟨rfl⟩, ⟨blk_new _ _⟩, ⟨World.grownBy_alloc _ _ _⟩⟩
 case rest =>
  obtain ⟨gs, rfl, HGS, XS, HG⟩ := hcut
  go_upto_region 11 with (fail)
  go_cut [11] (fun v11 wd => ∃ r k : Int, v11 = .int .i64 r ∧ Aside0 (a ≤ r ∧ r < b) ∧ Aside0 (wd.heap[gs]? = some (.cells #[.int .i64 k] 3 (0, 0))) ∧ Aside0 (w.grownBy wd none))
  case first =>
   go_wp2_with (go_at_call 145; (with_reducible refine (med_c base g n cap gs (a + k) (a + k * 2) (a + k * 3) 0 _ xs (RU.grown HR.out HG.out) XS.out (by have h1_ := HA.out; have h2_ := HL.out; have h3_ := HK.out; omega) (by have h1_ := HA.out; have h2_ := HL.out; have h3_ := HK.out; omega) (by have h1_ := HA.out; have h2_ := HL.out; have h3_ := HK.out; omega) (by have h1_ := HA.out; have h2_ := HL.out; have h3_ := HK.out; omega) (by have h1_ := HA.out; have h2_ := HL.out; have h3_ := HK.out; omega) (by have h1_ := HA.out; have h2_ := HL.out; have h3_ := HK.out; omega)).mono ?_); rintro e w6 ⟨⟨r, rfl, hr⟩, hsw⟩; (have HW := Aside0.mk hsw; clear hsw); have HRR := Aside0.mk hr; clear hr)
   go_wp2
   go_meet
   obtain ⟨⟨k2, hk2⟩, hgg⟩ := HW.out
   exact ⟨_, _, rfl, ⟨by have h1_ := HA.out; have h2_ := HL.out; have h3_ := HK.out; have h4_ := HRR.out; omega⟩, ⟨hk2⟩, ⟨grown_new HG.out (by rw [HGS.out] at hgg; exact hgg)⟩⟩
  case rest =>
   obtain ⟨r, k2, rfl, HRR, XS2, HG2⟩ := hcut
   have hs0 := (blk_cell XS2.out 0).trans rfl
   have hs1 := blk_frozen XS2.out 0
   go_wp2
   all_goals go_ret2
   all_goals exact ⟨⟨_, ⟨_, rfl⟩, HRR.out.1, HRR.out.2⟩, HG2.out⟩
end Go.Proofs.Ytbfialebaoeicaa.X
