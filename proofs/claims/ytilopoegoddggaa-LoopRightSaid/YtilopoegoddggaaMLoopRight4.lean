/- Part 5 of the proof of the statement LoopRight: the words of the walks, the walks through the functions that it reaches, and the plain laws of what they compute. -/
import Derived.Test.YtilopoegoddggaaMLoopRight3
import Derived.RowKit
namespace Go.Proofs.Ytilopoegoddggaa.X
open Go.RowKit Go.Proofs.YtilopoegoddggaaW.PrintWords Go.Proofs.YtilopoegoddggaaW.PrintLast Go.Proofs.YtilopoegoddggaaW.PrintMore
attribute [local go_sem] max2_int min2_int max_two min_two max_three min_three max_four min_four
set_option linter.all false
noncomputable section
mutual
def davitref09_All.l0 : Nat → List (List Bool) → List (S40) → Int → Int → Int → List (S50) → Option ((List (S40)))
 | 0, _, _, _, _, _, _ => none
 | k + 1, x3, x4, x5, x380000, x380001, x380002 => if x5 < (x380002.length : Int) then (if 0 ≤ (x380002.length : Int) then (if ((x380002.length : Int) : Int).toNat ≤ 281474976710656 then (davitref09_All.l1 k x3 x4 x5 (List.replicate ((x380002.length : Int) : Int).toNat false) false 0 x380000 x380001 x380002) else (none)) else (none)) else (some x4)
def davitref09_All.l1 : Nat → List (List Bool) → List (S40) → Int → List Bool → Bool → Int → Int → Int → List (S50) → Option ((List (S40)))
 | 0, _, _, _, _, _, _, _, _, _ => none
 | k + 1, x3, x4, x5, x6, x7, x8, x380000, x380001, x380002 => if x8 < (x380002.length : Int) then (if 0 ≤ x5 then (if x5 < (x3.length : Int) then (if 0 ≤ x8 then (if x8 < ((rd_L12 x3 x5).length : Int) then (if (rdOf false (rd_L12 x3 x5) x8 = true) then ((davitref07_Next.f k x380000 x380001 x380002 x8).bind fun t388 => ((davitref07_Has.f k t388 x5).bind fun t391 => (davitref09_All.j2 k x3 x4 x5 x6 x7 x8 (!t391) x380000 x380001 x380002))) else (davitref09_All.j2 k x3 x4 x5 x6 x7 x8 true x380000 x380001 x380002)) else (none)) else (none)) else (none)) else (none)) else (if x7 = true then (if 0 ≤ x5 then (if x5 < (x6.length : Int) then (davitref09_All.l3 k x3 x4 x5 (x6.set (x5 : Int).toNat true) 0 x380000 x380001 x380002 x5 ([] : List Int)) else (none)) else (none)) else (davitref09_All.l0 k x3 x4 (wrap64 (x5 + 1)) x380000 x380001 x380002))
def davitref09_All.j2 : Nat → List (List Bool) → List (S40) → Int → List Bool → Bool → Int → Bool → Int → Int → List (S50) → Option ((List (S40)))
 | 0, _, _, _, _, _, _, _, _, _, _ => none
 | k + 1, x3, x4, x5, x6, x7, x8, x48, x380000, x380001, x380002 => if x48 = true then (davitref09_All.l1 k x3 x4 x5 x6 x7 (wrap64 (x8 + 1)) x380000 x380001 x380002) else ((davitref09_comes.f k x380000 x380001 x380002 x8 x5).bind fun t392 => (davitref09_All.l2 k x3 x4 x5 x6 true x8 t392 0 x380000 x380001 x380002))
def davitref09_All.l2 : Nat → List (List Bool) → List (S40) → Int → List Bool → Bool → Int → List Bool → Int → Int → Int → List (S50) → Option ((List (S40)))
 | 0, _, _, _, _, _, _, _, _, _, _, _ => none
 | k + 1, x3, x4, x5, x6, x7, x8, x9, x10, x380000, x380001, x380002 => if x10 < (x6.length : Int) then (if 0 ≤ x10 then (if rdOf false x6 x10 = true then (davitref09_All.l2 k x3 x4 x5 (x6.set (x10 : Int).toNat true) x7 x8 x9 (wrap64 (x10 + 1)) x380000 x380001 x380002) else (if x10 < (x9.length : Int) then (if rdOf false x9 x10 = true then (if 0 ≤ x5 then (if x5 < (x3.length : Int) then (if x10 < ((rd_L12 x3 x5).length : Int) then (davitref09_All.l2 k x3 x4 x5 (x6.set (x10 : Int).toNat (rdOf false (rd_L12 x3 x5) x10)) x7 x8 x9 (wrap64 (x10 + 1)) x380000 x380001 x380002) else (none)) else (none)) else (none)) else (davitref09_All.l2 k x3 x4 x5 (x6.set (x10 : Int).toNat false) x7 x8 x9 (wrap64 (x10 + 1)) x380000 x380001 x380002)) else (none))) else (none)) else (davitref09_All.l1 k x3 x4 x5 x6 x7 (wrap64 (x8 + 1)) x380000 x380001 x380002)
def davitref09_All.l3 : Nat → List (List Bool) → List (S40) → Int → List Bool → Int → Int → Int → List (S50) → Int → List Int → Option ((List (S40)))
 | 0, _, _, _, _, _, _, _, _, _, _ => none
 | k + 1, x3, x4, x5, x6, x12, x380000, x380001, x380002, x404000, x404001 => if x12 < (x6.length : Int) then (if 0 ≤ x12 then (if rdOf false x6 x12 = true then (if x404001.length < 17592186044416 then (davitref09_All.l3 k x3 x4 x5 x6 (wrap64 (x12 + 1)) x380000 x380001 x380002 x404000 (x404001 ++ [x12])) else (none)) else (davitref09_All.l3 k x3 x4 x5 x6 (wrap64 (x12 + 1)) x380000 x380001 x380002 x404000 x404001)) else (none)) else (if x4.length < 4398046511104 then (davitref09_All.l0 k x3 (x4 ++ [(⟨x404000, x404001⟩ : S40)]) (wrap64 (x5 + 1)) x380000 x380001 x380002) else (none))
end
def davitref09_All.f (k : Nat) (a0_0 : Int) (a0_1 : Int) (l0_2 : List (S50)) : Option ((List (S40))) := (davitref08_All.f k a0_0 a0_1 l0_2).bind fun t380 => (davitref09_All.l0 k t380 ([] : List (S40)) 0 a0_0 a0_1 l0_2)
theorem davitref09_All.mono_l : ∀ k, (∀ y0 y1 y2 y3 y4 y5, LeO (davitref09_All.l0 k y0 y1 y2 y3 y4 y5) (davitref09_All.l0 (k + 1) y0 y1 y2 y3 y4 y5)) ∧ (∀ y0 y1 y2 y3 y4 y5 y6 y7 y8, LeO (davitref09_All.l1 k y0 y1 y2 y3 y4 y5 y6 y7 y8) (davitref09_All.l1 (k + 1) y0 y1 y2 y3 y4 y5 y6 y7 y8)) ∧ (∀ y0 y1 y2 y3 y4 y5 y6 y7 y8 y9, LeO (davitref09_All.j2 k y0 y1 y2 y3 y4 y5 y6 y7 y8 y9) (davitref09_All.j2 (k + 1) y0 y1 y2 y3 y4 y5 y6 y7 y8 y9)) ∧ (∀ y0 y1 y2 y3 y4 y5 y6 y7 y8 y9 y10, LeO (davitref09_All.l2 k y0 y1 y2 y3 y4 y5 y6 y7 y8 y9 y10) (davitref09_All.l2 (k + 1) y0 y1 y2 y3 y4 y5 y6 y7 y8 y9 y10)) ∧ (∀ y0 y1 y2 y3 y4 y5 y6 y7 y8 y9, LeO (davitref09_All.l3 k y0 y1 y2 y3 y4 y5 y6 y7 y8 y9) (davitref09_All.l3 (k + 1) y0 y1 y2 y3 y4 y5 y6 y7 y8 y9))
 | 0 => ⟨fun _ _ _ _ _ _ r h => by simp [davitref09_All.l0] at h, fun _ _ _ _ _ _ _ _ _ r h => by simp [davitref09_All.l1] at h, fun _ _ _ _ _ _ _ _ _ _ r h => by simp [davitref09_All.j2] at h, fun _ _ _ _ _ _ _ _ _ _ _ r h => by simp [davitref09_All.l2] at h, fun _ _ _ _ _ _ _ _ _ _ r h => by simp [davitref09_All.l3] at h⟩
 | k + 1 => by
  obtain ⟨ih0, ih1, ih2, ih3, ih4⟩ := davitref09_All.mono_l k
  refine ⟨?_, ?_, ?_, ?_, ?_⟩
  ·intro y0 y1 y2 y3 y4 y5
   unfold davitref09_All.l0
   repeat' first
   | (with_reducible exact ih0 _ _ _ _ _ _)
   | (with_reducible exact ih1 _ _ _ _ _ _ _ _ _)
   | (with_reducible exact ih2 _ _ _ _ _ _ _ _ _ _)
   | (with_reducible exact ih3 _ _ _ _ _ _ _ _ _ _ _)
   | (with_reducible exact ih4 _ _ _ _ _ _ _ _ _ _)
   | (with_reducible exact davitref07_Has.mono _ _ _)
   | (with_reducible exact davitref07_Next.mono _ _ _ _ _)
   | (with_reducible exact davitref08_All.mono _ _ _ _)
   | (with_reducible exact davitref09_comes.mono _ _ _ _ _ _)
   | (with_reducible exact LeO.refl _)
   | (with_reducible exact LeO.none _)
   | (with_reducible refine LeO.ite ?_ ?_)
   | (with_reducible refine LeO.bind ?_ (fun _ => ?_))
   | exact ih0 _ _ _ _ _ _
   | exact ih1 _ _ _ _ _ _ _ _ _
   | exact ih2 _ _ _ _ _ _ _ _ _ _
   | exact ih3 _ _ _ _ _ _ _ _ _ _ _
   | exact ih4 _ _ _ _ _ _ _ _ _ _
   | exact davitref07_Has.mono _ _ _
   | exact davitref07_Next.mono _ _ _ _ _
   | exact davitref08_All.mono _ _ _ _
   | exact davitref09_comes.mono _ _ _ _ _ _
   | exact LeO.none _
   | refine LeO.ite ?_ ?_
   | refine LeO.bind ?_ (fun _ => ?_)
  ·intro y0 y1 y2 y3 y4 y5 y6 y7 y8
   unfold davitref09_All.l1
   repeat' first
   | (with_reducible exact ih0 _ _ _ _ _ _)
   | (with_reducible exact ih1 _ _ _ _ _ _ _ _ _)
   | (with_reducible exact ih2 _ _ _ _ _ _ _ _ _ _)
   | (with_reducible exact ih3 _ _ _ _ _ _ _ _ _ _ _)
   | (with_reducible exact ih4 _ _ _ _ _ _ _ _ _ _)
   | (with_reducible exact davitref07_Has.mono _ _ _)
   | (with_reducible exact davitref07_Next.mono _ _ _ _ _)
   | (with_reducible exact davitref08_All.mono _ _ _ _)
   | (with_reducible exact davitref09_comes.mono _ _ _ _ _ _)
   | (with_reducible exact LeO.refl _)
   | (with_reducible exact LeO.none _)
   | (with_reducible refine LeO.ite ?_ ?_)
   | (with_reducible refine LeO.bind ?_ (fun _ => ?_))
   | exact ih0 _ _ _ _ _ _
   | exact ih1 _ _ _ _ _ _ _ _ _
   | exact ih2 _ _ _ _ _ _ _ _ _ _
   | exact ih3 _ _ _ _ _ _ _ _ _ _ _
   | exact ih4 _ _ _ _ _ _ _ _ _ _
   | exact davitref07_Has.mono _ _ _
   | exact davitref07_Next.mono _ _ _ _ _
   | exact davitref08_All.mono _ _ _ _
   | exact davitref09_comes.mono _ _ _ _ _ _
   | exact LeO.none _
   | refine LeO.ite ?_ ?_
   | refine LeO.bind ?_ (fun _ => ?_)
  ·intro y0 y1 y2 y3 y4 y5 y6 y7 y8 y9
   unfold davitref09_All.j2
   repeat' first
   | (with_reducible exact ih0 _ _ _ _ _ _)
   | (with_reducible exact ih1 _ _ _ _ _ _ _ _ _)
   | (with_reducible exact ih2 _ _ _ _ _ _ _ _ _ _)
   | (with_reducible exact ih3 _ _ _ _ _ _ _ _ _ _ _)
   | (with_reducible exact ih4 _ _ _ _ _ _ _ _ _ _)
   | (with_reducible exact davitref07_Has.mono _ _ _)
   | (with_reducible exact davitref07_Next.mono _ _ _ _ _)
   | (with_reducible exact davitref08_All.mono _ _ _ _)
   | (with_reducible exact davitref09_comes.mono _ _ _ _ _ _)
   | (with_reducible exact LeO.refl _)
   | (with_reducible exact LeO.none _)
   | (with_reducible refine LeO.ite ?_ ?_)
   | (with_reducible refine LeO.bind ?_ (fun _ => ?_))
   | exact ih0 _ _ _ _ _ _
   | exact ih1 _ _ _ _ _ _ _ _ _
   | exact ih2 _ _ _ _ _ _ _ _ _ _
   | exact ih3 _ _ _ _ _ _ _ _ _ _ _
   | exact ih4 _ _ _ _ _ _ _ _ _ _
   | exact davitref07_Has.mono _ _ _
   | exact davitref07_Next.mono _ _ _ _ _
   | exact davitref08_All.mono _ _ _ _
   | exact davitref09_comes.mono _ _ _ _ _ _
   | exact LeO.none _
   | refine LeO.ite ?_ ?_
   | refine LeO.bind ?_ (fun _ => ?_)
  ·intro y0 y1 y2 y3 y4 y5 y6 y7 y8 y9 y10
   unfold davitref09_All.l2
   repeat' first
   | (with_reducible exact ih0 _ _ _ _ _ _)
   | (with_reducible exact ih1 _ _ _ _ _ _ _ _ _)
   | (with_reducible exact ih2 _ _ _ _ _ _ _ _ _ _)
   | (with_reducible exact ih3 _ _ _ _ _ _ _ _ _ _ _)
   | (with_reducible exact ih4 _ _ _ _ _ _ _ _ _ _)
   | (with_reducible exact davitref07_Has.mono _ _ _)
   | (with_reducible exact davitref07_Next.mono _ _ _ _ _)
   | (with_reducible exact davitref08_All.mono _ _ _ _)
   | (with_reducible exact davitref09_comes.mono _ _ _ _ _ _)
   | (with_reducible exact LeO.refl _)
   | (with_reducible exact LeO.none _)
   | (with_reducible refine LeO.ite ?_ ?_)
   | (with_reducible refine LeO.bind ?_ (fun _ => ?_))
   | exact ih0 _ _ _ _ _ _
   | exact ih1 _ _ _ _ _ _ _ _ _
   | exact ih2 _ _ _ _ _ _ _ _ _ _
   | exact ih3 _ _ _ _ _ _ _ _ _ _ _
   | exact ih4 _ _ _ _ _ _ _ _ _ _
   | exact davitref07_Has.mono _ _ _
   | exact davitref07_Next.mono _ _ _ _ _
   | exact davitref08_All.mono _ _ _ _
   | exact davitref09_comes.mono _ _ _ _ _ _
   | exact LeO.none _
   | refine LeO.ite ?_ ?_
   | refine LeO.bind ?_ (fun _ => ?_)
  ·intro y0 y1 y2 y3 y4 y5 y6 y7 y8 y9
   unfold davitref09_All.l3
   repeat' first
   | (with_reducible exact ih0 _ _ _ _ _ _)
   | (with_reducible exact ih1 _ _ _ _ _ _ _ _ _)
   | (with_reducible exact ih2 _ _ _ _ _ _ _ _ _ _)
   | (with_reducible exact ih3 _ _ _ _ _ _ _ _ _ _ _)
   | (with_reducible exact ih4 _ _ _ _ _ _ _ _ _ _)
   | (with_reducible exact davitref07_Has.mono _ _ _)
   | (with_reducible exact davitref07_Next.mono _ _ _ _ _)
   | (with_reducible exact davitref08_All.mono _ _ _ _)
   | (with_reducible exact davitref09_comes.mono _ _ _ _ _ _)
   | (with_reducible exact LeO.refl _)
   | (with_reducible exact LeO.none _)
   | (with_reducible refine LeO.ite ?_ ?_)
   | (with_reducible refine LeO.bind ?_ (fun _ => ?_))
   | exact ih0 _ _ _ _ _ _
   | exact ih1 _ _ _ _ _ _ _ _ _
   | exact ih2 _ _ _ _ _ _ _ _ _ _
   | exact ih3 _ _ _ _ _ _ _ _ _ _ _
   | exact ih4 _ _ _ _ _ _ _ _ _ _
   | exact davitref07_Has.mono _ _ _
   | exact davitref07_Next.mono _ _ _ _ _
   | exact davitref08_All.mono _ _ _ _
   | exact davitref09_comes.mono _ _ _ _ _ _
   | exact LeO.none _
   | refine LeO.ite ?_ ?_
   | refine LeO.bind ?_ (fun _ => ?_)
theorem davitref09_All.mono : ∀ a0 a1 a2 k, LeO (davitref09_All.f k a0 a1 a2) (davitref09_All.f (k + 1) a0 a1 a2) := by
 intro a0 a1 a2 k
 obtain ⟨ih0, ih1, ih2, ih3, ih4⟩ := davitref09_All.mono_l k
 unfold davitref09_All.f
 repeat' first
   | (with_reducible exact ih0 _ _ _ _ _ _)
   | (with_reducible exact ih1 _ _ _ _ _ _ _ _ _)
   | (with_reducible exact ih2 _ _ _ _ _ _ _ _ _ _)
   | (with_reducible exact ih3 _ _ _ _ _ _ _ _ _ _ _)
   | (with_reducible exact ih4 _ _ _ _ _ _ _ _ _ _)
   | (with_reducible exact davitref07_Has.mono _ _ _)
   | (with_reducible exact davitref07_Next.mono _ _ _ _ _)
   | (with_reducible exact davitref08_All.mono _ _ _ _)
   | (with_reducible exact davitref09_comes.mono _ _ _ _ _ _)
   | (with_reducible exact LeO.refl _)
   | (with_reducible exact LeO.none _)
   | (with_reducible refine LeO.ite ?_ ?_)
   | (with_reducible refine LeO.bind ?_ (fun _ => ?_))
   | exact ih0 _ _ _ _ _ _
   | exact ih1 _ _ _ _ _ _ _ _ _
   | exact ih2 _ _ _ _ _ _ _ _ _ _
   | exact ih3 _ _ _ _ _ _ _ _ _ _ _
   | exact ih4 _ _ _ _ _ _ _ _ _ _
   | exact davitref07_Has.mono _ _ _
   | exact davitref07_Next.mono _ _ _ _ _
   | exact davitref08_All.mono _ _ _ _
   | exact davitref09_comes.mono _ _ _ _ _ _
   | exact LeO.none _
   | refine LeO.ite ?_ ?_
   | refine LeO.bind ?_ (fun _ => ?_)
set_option maxHeartbeats 8000000 in
set_option maxRecDepth 100000 in
theorem davitref09_All.calls (k : Nat) (a0_0 : Int) (a0_1 : Int) (A0_2 : Option Addr) (c0_2 : Nat) (l0_2 : List (S50)) (r : List (S40)) (w : World) (hr0_2 : Kd.C k50 w A0_2 l0_2.length l0_2) (hc0_2 : l0_2.length ≤ c0_2) (h : davitref09_All.f k a0_0 a0_1 l0_2 = some r) :
  Calls Try.prog 24 #[.agg #[.int .i64 a0_0, .int .i64 a0_1, .slice A0_2 l0_2.length c0_2]] w fun e w' => ∃ v0_ : Value, e = .returned (v0_) ∧ Kd.S k40 40 w' w.heap.size (fun _ => True) v0_ r ∧ Below w.heap.size w w' := by
 have hu24 := Try.underlying24
 have hu40 := Try.underlying40
 have HR0_2 := Aside0.mk hr0_2
 have HC0_2 := Aside0.mk hc0_2
 clear hr0_2 hc0_2
 have HB := Aside0.mk (Below.refl w.heap.size w)
 have H : ((davitref08_All.f k a0_0 a0_1 l0_2).bind fun t380 => (davitref09_All.l0 k t380 ([] : List (S40)) 0 a0_0 a0_1 l0_2)) = some r := h
 clear h
 replace H := Option.bind_eq_some_iff.mp H
 obtain ⟨t380, A20, H⟩ := H
 replace H : (davitref09_All.l0 k t380 ([] : List (S40)) 0 a0_0 a0_1 l0_2) = some r := H
 have A2 := Aside0.mk A20
 clear A20
 have H' := Aside0.mk H
 clear H
 go_enter Try.func24, Try.ntmps24
 go_wp2_with (first | ((with_reducible refine gate_dst (N := 1) rfl ?_); refine box_event ?hg (N := 1) ?hd (cs := #[.int .i64 a0_0, .int .i64 a0_1, .slice A0_2 l0_2.length c0_2]) (t := 24) ?hr ?_; (case hd => rfl); (case hg => rfl); (case hr => first | (go_simp; done) | (go_simp; rfl)); intro gb379 hg w3 hbox hb; have n0_ := Aside0.mk (below_step (by repeat (first | (with_reducible first | exact HB.out | apply below_alloc | apply pw_below_drewN | apply below_drew1) | exact HB.out)) hb); have n1_ := Aside0.mk (hbox); have n2_ := Aside0.mk ((by rw [hg]; exact (below_size (by repeat (first | (with_reducible first | exact HB.out | apply below_alloc | apply pw_below_drewN | apply below_drew1) | exact HB.out))) : w.heap.size ≤ gb379)); have n3_ := Aside0.mk ((by rw [hg]; exact (below_size (by repeat (first | (with_reducible first | exact HB.out | apply below_alloc | apply pw_below_drewN | apply below_drew1) | exact HB.out))) : w.heap.size ≤ gb379)); clear HB; have HB := n0_; have BK379 := n1_; have GW379 := n2_; have GE379 := n3_; clear n0_ n1_ n2_ n3_; clear hb hbox hg; have hcz4_0 : w3.cell? ⟨gb379, 0, none⟩ = some (.int .i64 a0_0) := (blk_cell BK379.out 0).trans rfl; have hcz4_1 : w3.cell? ⟨gb379, 1, none⟩ = some (.int .i64 a0_1) := (blk_cell BK379.out 1).trans rfl; have hcz4_2 : w3.cell? ⟨gb379, 2, none⟩ = some (.slice A0_2 l0_2.length c0_2) := (blk_cell BK379.out 2).trans rfl; have hfz4_0 := blk_frozen BK379.out 0; have hfz4_1 := blk_frozen BK379.out 1; have hfz4_2 := blk_frozen BK379.out 2) | ((with_reducible refine gate_callee (f := 28) rfl ?_); refine goesL_ (some 14) rfl rfl Try.func28 (by kernel_rfl) rfl #[.agg #[.int .i64 a0_0, .int .i64 a0_1, .slice A0_2 l0_2.length c0_2]] rfl (by (try simp only [List.map_toArray, List.map_cons, List.map_nil]); first | done | rfl | (simp only [List.length_drop, List.length_take]; rfl)) ?_; (with_reducible refine (davitref08_All.calls k a0_0 a0_1 _ _ l0_2 t380 _ ?side1 ?side2 A2.out).mono ?_); (case side1 => repeat (first | exact (Kd.C_below HR0_2.out HB.out) | (with_reducible refine Kd.C_alloc ?_ _) | (with_reducible refine Kd.C_drewN ?_ _) | (with_reducible refine Kd.C_drew ?_))); (case side2 => exact HC0_2.out); rintro e w5 ⟨v381, rfl, ho0, hb⟩; refine ⟨_, rfl, ?_⟩; have n0_ := Aside0.mk (Kd.S_lower ho0 (below_size (by repeat (first | (with_reducible first | exact HB.out | apply below_alloc | apply pw_below_drewN | apply below_drew1 | refine below_set ?_ GE379.out) | exact HB.out)))); have n1_ := Aside0.mk (blk_below (g := gb379) (o := .cells #[.int .i64 a0_0, .int .i64 a0_1, .slice A0_2 l0_2.length c0_2] 24 (0, 0)) (by (with_reducible repeat (first | refine blk_drewN ?_ _ | refine blk_drew ?_ | refine blk_alloc ?_ _)); exact BK379.out) hb); have n2_ := Aside0.mk (below_step (by repeat (first | (with_reducible first | exact HB.out | apply below_alloc | apply pw_below_drewN | apply below_drew1 | refine below_set ?_ GE379.out) | exact HB.out)) hb); clear BK379; clear HB; have HO382 := n0_; have BK379 := n1_; have HB := n2_; clear n0_ n1_ n2_; (try clear hb); (try clear hb2); (try clear hk); (try clear hi); (try clear ho0)))
 go_loopg [4, 5] k (fun kq v4 v5 w' => ∃ (x4_1 : List (S40)) (x5_1 : Int), v5 = .int .i64 x5_1 ∧ Aside0 (davitref09_All.l0 kq t380 x4_1 x5_1 a0_0 a0_1 l0_2 = some r) ∧ Aside0 (kq ≤ k) ∧ Aside0 (Kd.S (Kd.slice 4 Kd.bool) 32 w' w.heap.size (fun _ => True) v381 t380) ∧ Aside0 (Kd.S k40 40 w' w.heap.size (fun _ => True) v4 x4_1) ∧ Aside0 (w'.heap[gb379]? = some (.cells #[.int .i64 a0_0, .int .i64 a0_1, (.slice A0_2 l0_2.length c0_2)] 24 (0, 0))) ∧ Aside0 (Below w.heap.size w w'))
 case atStart => exact ⟨(([] : List (S40))), (0), (by first | rfl | (simp; done) | (simp [*]; done)), H', ⟨Nat.le_refl _⟩, ⟨by (with_reducible repeat (first | apply Kd.S_alloc | apply Kd.S_drewN | apply Kd.S_drew)); exact HO382.out⟩, ⟨by first | exact Kd.S_nil _ _ _ _ _ | exact Kd.N_nil _ _ _ _ _ | exact Kd.V_nil _ _ _ _ _ | exact Kd.Q_nil _ _ _ _ _ | exact Kd.R_nil _ _ _ _ _⟩, ⟨by (with_reducible repeat (first | refine blk_drewN ?_ _ | refine blk_drew ?_ | refine blk_alloc ?_ _)); exact BK379.out⟩, ⟨by repeat (first | (with_reducible first | exact HB.out | apply below_alloc | apply pw_below_drewN | apply below_drew1 | refine below_set ?_ GE379.out) | exact HB.out)⟩⟩
 case round =>
  clear H'
  try clear c2
  try clear p2
  try clear hcz4_0
  try clear hcz4_1
  try clear hcz4_2
  try clear hfz4_0
  try clear hfz4_1
  try clear hfz4_2
  obtain ⟨x4_1, x5_1, rfl, HA, HK1, HO_3, HO_4, BK379, HB⟩ := hrel
  cases gk with
  | zero => exact absurd HA.out (by simp [davitref09_All.l0])
  | succ k1 =>
   have H := HA.out
   clear HA
   simp only [davitref09_All.l0] at H
   by_cases c6 : x5_1 < (l0_2.length : Int)
   ·rw [if_pos c6] at H
    have c6b0 : decide (x5_1 < (l0_2.length : Int)) = true := decide_eq_true c6
    clear c6
    by_cases c7 : 0 ≤ (l0_2.length : Int)
    ·rw [if_pos c7] at H
     have c7b0 := eq_true c7
     have c7b1 : decide (0 ≤ (l0_2.length : Int)) = true := decide_eq_true c7
     clear c7
     by_cases c8 : ((l0_2.length : Int) : Int).toNat ≤ 281474976710656
     ·rw [if_pos c8] at H
      have c8b0 := eq_true c8
      have c8b1 : decide (((l0_2.length : Int) : Int).toNat ≤ 281474976710656) = true := decide_eq_true c8
      clear c8
      obtain ⟨y383, hy383⟩ : ∃ y_ : List Bool, y_ = (List.replicate ((l0_2.length : Int) : Int).toNat false) := ⟨_, rfl⟩
      replace H : (davitref09_All.l1 k1 t380 x4_1 x5_1 y383 false 0 a0_0 a0_1 l0_2) = some r := by first | (rw [hy383]; with_reducible exact H) | (have H2_ := (Option.bind_some _ _).symm.trans H; rw [hy383]; with_reducible exact H2_) | (have H2_ := (Option.bind_some _ _).symm.trans H; with_reducible exact H2_) | with_reducible exact H | (rw [hy383]; exact H) | exact H
      have Ny383 := Aside0.mk hy383
      clear hy383
      have H' := Aside0.mk H
      clear H
      have hcz9_0 : wr.cell? ⟨gb379, 0, none⟩ = some (.int .i64 a0_0) := (blk_cell BK379.out 0).trans rfl
      have hcz9_1 : wr.cell? ⟨gb379, 1, none⟩ = some (.int .i64 a0_1) := (blk_cell BK379.out 1).trans rfl
      have hcz9_2 : wr.cell? ⟨gb379, 2, none⟩ = some (.slice A0_2 l0_2.length c0_2) := (blk_cell BK379.out 2).trans rfl
      have hfz9_0 := blk_frozen BK379.out 0
      have hfz9_1 := blk_frozen BK379.out 1
      have hfz9_2 := blk_frozen BK379.out 2
      go_wp2_with (first | ((with_reducible refine gate_dst (N := 25) rfl ?_); refine Kd.R_make Kd.bool _ 4 rfl (N := 25) rfl 32 _ _ rfl (l0_2.length : Int) rfl rfl Try.underlying32 (.bool false) 1 info4 rfl (by decide) (by omega) false (ok := fun _ => True) (okp := fun _ => True) rfl (fun _ hk => hk) trivial (of_decide_eq_true (by first | (with_reducible assumption) | assumption)) (Nat.le_trans (Nat.mul_le_mul_right _ (of_decide_eq_true (by first | (with_reducible assumption) | assumption) : (l0_2.length : Int).toNat ≤ 281474976710656)) (by omega)) (Below.refl _ _) (Nat.le_refl _) ?_; intro v384 w10 ho11 hb hg_ hnew_; clear hg_ hnew_; (first | rw [← Ny383.out] at ho11 | (simp only [Int.reduceToNat] at ho11; rw [← Ny383.out] at ho11)); have n0_ := Aside0.mk (Kd.S_elder' (by (with_reducible repeat (first | apply Kd.S_alloc | apply Kd.S_drewN | apply Kd.S_drew)); exact HO_3.out) (Kd.R_base ho11) hb); have n1_ := Aside0.mk (Kd.S_below (by (with_reducible repeat (first | apply Kd.S_alloc | apply Kd.S_drewN | apply Kd.S_drew)); exact HO_4.out) hb); have n2_ := Aside0.mk (Kd.R_lower ho11 (below_size (by repeat (first | (with_reducible first | exact HB.out | apply below_alloc | apply pw_below_drewN | apply below_drew1 | refine below_set ?_ GE379.out) | exact HB.out)))); have n3_ := Aside0.mk (blk_below (g := gb379) (o := .cells #[.int .i64 a0_0, .int .i64 a0_1, .slice A0_2 l0_2.length c0_2] 24 (0, 0)) (by (with_reducible repeat (first | refine blk_drewN ?_ _ | refine blk_drew ?_ | refine blk_alloc ?_ _)); exact BK379.out) hb); have n4_ := Aside0.mk (below_step (by repeat (first | (with_reducible first | exact HB.out | apply below_alloc | apply pw_below_drewN | apply below_drew1 | refine below_set ?_ GE379.out) | exact HB.out)) hb); clear HO_3; clear HO_4; clear BK379; clear HB; have HO_3 := n0_; have HO_4 := n1_; have HO385 := n2_; have BK379 := n3_; have HB := n4_; clear n0_ n1_ n2_ n3_ n4_; clear hb ho11))
      go_loopg [7, 8] k1 (fun kq v7 v8 w' => ∃ (x6_2 : List Bool) (x7_2 : Bool) (x8_2 : Int), v7 = .bool x7_2 ∧ v8 = .int .i64 x8_2 ∧ Aside0 (davitref09_All.l1 kq t380 x4_1 x5_1 x6_2 x7_2 x8_2 a0_0 a0_1 l0_2 = some r) ∧ Aside0 (kq ≤ k1) ∧ Aside0 (Kd.S (Kd.slice 4 Kd.bool) 32 w' w.heap.size (fun k_ => some k_ ≠ (v384 : Value).ownBlock) v381 t380) ∧ Aside0 (Kd.S k40 40 w' w.heap.size (fun _ => True) u4 x4_1) ∧ Aside0 (Kd.R Kd.bool 4 w' w.heap.size (fun _ => True) v384 x6_2) ∧ Aside0 (w'.heap[gb379]? = some (.cells #[.int .i64 a0_0, .int .i64 a0_1, (.slice A0_2 l0_2.length c0_2)] 24 (0, 0))) ∧ Aside0 (Below w.heap.size w w'))
      case atStart => exact ⟨(y383), (false), (0), (by first | rfl | (simp; done) | (simp [*]; done)), (by first | rfl | (simp; done) | (simp [*]; done)), H', ⟨Nat.le_refl _⟩, ⟨by (with_reducible repeat (first | apply Kd.S_alloc | apply Kd.S_drewN | apply Kd.S_drew)); exact Kd.S_mono HO_3.out (fun _ hk => hk.2)⟩, ⟨by (with_reducible repeat (first | apply Kd.S_alloc | apply Kd.S_drewN | apply Kd.S_drew)); exact HO_4.out⟩, ⟨by (with_reducible repeat (first | apply Kd.R_alloc | apply Kd.R_drewN | apply Kd.R_drew)); exact HO385.out⟩, ⟨by (with_reducible repeat (first | refine blk_drewN ?_ _ | refine blk_drew ?_ | refine blk_alloc ?_ _)); exact BK379.out⟩, ⟨by repeat (first | (with_reducible first | exact HB.out | apply below_alloc | apply pw_below_drewN | apply below_drew1 | refine below_set ?_ GE379.out) | exact HB.out)⟩⟩
      case round =>
       clear H'
       try clear c2
       try clear p2
       try clear c6
       try clear c6b0
       try clear c7
       try clear c7b0
       try clear c7b1
       try clear c8
       try clear c8b0
       try clear c8b1
       try clear hcz4_0
       try clear hcz4_1
       try clear hcz4_2
       try clear hcz9_0
       try clear hcz9_1
       try clear hcz9_2
       try clear hfz4_0
       try clear hfz4_1
       try clear hfz4_2
       try clear hfz9_0
       try clear hfz9_1
       try clear hfz9_2
       try clear p2
       obtain ⟨x6_2, x7_2, x8_2, rfl, rfl, HA, HK2, HO_3, HO_4, HO_6, BK379, HB⟩ := hrel
       cases gk with
       | zero => exact absurd HA.out (by simp [davitref09_All.l1])
       | succ k2 =>
        have H := HA.out
        clear HA
        simp only [davitref09_All.l1] at H
        by_cases c12 : x8_2 < (l0_2.length : Int)
        ·rw [if_pos c12] at H
         have c12b0 : decide (x8_2 < (l0_2.length : Int)) = true := decide_eq_true c12
         clear c12
         have HC13 := Aside0.mk H
         clear H
         have hcz14_0 : wr.cell? ⟨gb379, 0, none⟩ = some (.int .i64 a0_0) := (blk_cell BK379.out 0).trans rfl
         have hcz14_1 : wr.cell? ⟨gb379, 1, none⟩ = some (.int .i64 a0_1) := (blk_cell BK379.out 1).trans rfl
         have hcz14_2 : wr.cell? ⟨gb379, 2, none⟩ = some (.slice A0_2 l0_2.length c0_2) := (blk_cell BK379.out 2).trans rfl
         have hfz14_0 := blk_frozen BK379.out 0
         have hfz14_1 := blk_frozen BK379.out 1
         have hfz14_2 := blk_frozen BK379.out 2
         go_upto_region 11 with (fail)
         go_cut [48] (fun v48 wc => ∃ (kq : Nat) (x48_12 : Bool), v48 = .bool x48_12 ∧ Aside0 (davitref09_All.j2 kq t380 x4_1 x5_1 x6_2 x7_2 x8_2 x48_12 a0_0 a0_1 l0_2 = some r) ∧ Aside0 (kq ≤ k2) ∧ Aside0 (Kd.S (Kd.slice 4 Kd.bool) 32 wc w.heap.size (fun k_ => some k_ ≠ (v384 : Value).ownBlock) v381 t380) ∧ Aside0 (Kd.S k40 40 wc w.heap.size (fun _ => True) u4 x4_1) ∧ Aside0 (Kd.R Kd.bool 4 wc w.heap.size (fun _ => True) v384 x6_2) ∧ Aside0 (wc.heap[gb379]? = some (.cells #[.int .i64 a0_0, .int .i64 a0_1, (.slice A0_2 l0_2.length c0_2)] 24 (0, 0))) ∧ Aside0 (Below w.heap.size w wc))
         case first =>
          have H := HC13.out
          clear HC13
          by_cases c15 : 0 ≤ x5_1
          ·rw [if_pos c15] at H
           have c15b0 : decide (0 ≤ x5_1) = true := decide_eq_true c15
           clear c15
           (first | rw [c15b0] | (simp only [i64_w, i32_w]; rw [c15b0]) | skip)
           by_cases c16 : x5_1 < (t380.length : Int)
           ·rw [if_pos c16] at H
            have c16b0 : decide (x5_1 < (t380.length : Int)) = true := decide_eq_true c16
            clear c16
            by_cases c17 : 0 ≤ x8_2
            ·rw [if_pos c17] at H
             have c17b0 : decide (0 ≤ x8_2) = true := decide_eq_true c17
             clear c17
             by_cases c18 : x8_2 < ((rd_L12 t380 x5_1).length : Int)
             ·rw [if_pos c18] at H
              have c18b0 : decide (x8_2 < ((rd_L12 t380 x5_1).length : Int)) = true := decide_eq_true c18
              clear c18
              obtain ⟨bq19, hbq19⟩ : ∃ b_ : Bool, b_ = (rdOf false (rd_L12 t380 x5_1) x8_2) := ⟨_, rfl⟩
              replace H : (if (bq19 = true) then ((davitref07_Next.f k2 a0_0 a0_1 l0_2 x8_2).bind fun t388 => ((davitref07_Has.f k2 t388 x5_1).bind fun t391 => (davitref09_All.j2 k2 t380 x4_1 x5_1 x6_2 x7_2 x8_2 (!t391) a0_0 a0_1 l0_2))) else (davitref09_All.j2 k2 t380 x4_1 x5_1 x6_2 x7_2 x8_2 true a0_0 a0_1 l0_2)) = some r := by rw [← hbq19] at H; exact H
              have Nbq19 := Aside0.mk hbq19
              clear hbq19
              by_cases c20 : (bq19 = true)
              ·subst c20
               have H1 : ((davitref07_Next.f k2 a0_0 a0_1 l0_2 x8_2).bind fun t388 => ((davitref07_Has.f k2 t388 x5_1).bind fun t391 => (davitref09_All.j2 k2 t380 x4_1 x5_1 x6_2 x7_2 x8_2 (!t391) a0_0 a0_1 l0_2))) = some r := by rw [if_pos rfl] at H; exact H
               clear H
               have H := H1
               clear H1
               replace H := Option.bind_eq_some_iff.mp H
               obtain ⟨t388, A210, H⟩ := H
               replace H : ((davitref07_Has.f k2 t388 x5_1).bind fun t391 => (davitref09_All.j2 k2 t380 x4_1 x5_1 x6_2 x7_2 x8_2 (!t391) a0_0 a0_1 l0_2)) = some r := H
               have A21 := Aside0.mk A210
               clear A210
               replace H := Option.bind_eq_some_iff.mp H
               obtain ⟨t391, A220, H⟩ := H
               replace H : (davitref09_All.j2 k2 t380 x4_1 x5_1 x6_2 x7_2 x8_2 (!t391) a0_0 a0_1 l0_2) = some r := H
               have A22 := Aside0.mk A220
               clear A220
               have H' := Aside0.mk H
               clear H
               obtain ⟨Ao23, co23, eo23⟩ := Kd.S_slice HO_3.out
               subst eo23
               have p386 : 0 ≤ (x5_1 : Int) := of_decide_eq_true (by first | (with_reducible assumption) | assumption)
               have q386 : x5_1 < (t380.length : Int) := of_decide_eq_true (by first | (with_reducible assumption) | assumption)
               obtain ⟨ad386, A386_0, c386_0, e386, hx386_0, hl386_0, hi386_0⟩ := at_L12 (Kd.S_reads' HO_3.out).2.2 x5_1 p386 q386
               cases e386
               obtain ⟨ce386, hce386, hMe386, hcc386⟩ := Kd.S_get HO_3.out [] x5_1 p386 (by first | exact q386 | exact of_decide_eq_true (by first | (with_reducible assumption) | assumption) | (have e_ := (Kd.S_reads' HO_3.out).1; omega))
               obtain ⟨ve386_0, rfl, ge386_0⟩ := hMe386
               have hv386_0 := hcc386 0 _ rfl
               rw [Nat.add_zero, show ((Kd.slice 4 Kd.bool)).sz = 1 from rfl, Nat.mul_one] at hv386_0
               replace hv386_0 := Option.some.inj (hv386_0.symm.trans hx386_0)
               rw [hv386_0] at ge386_0
               have HL386_0 := Aside0.mk (show Kd.R Kd.bool 4 _ _ _ _ (rd_L12 t380 x5_1) from ge386_0)
               clear hv386_0 ge386_0
               clear hcc386 hce386
               have HR386_0 := Aside0.mk hi386_0
               have HC386_0 := Aside0.mk hl386_0
               clear hi386_0 hl386_0
               replace p386 := eq_true p386
               replace q386 := eq_true q386
               have p387 : 0 ≤ (x8_2 : Int) := of_decide_eq_true (by first | (with_reducible assumption) | assumption)
               have q387 : x8_2 < ((rd_L12 t380 x5_1).length : Int) := of_decide_eq_true (by first | (with_reducible assumption) | assumption)
               obtain ⟨ad387, e387, hx387_0⟩ := Kd.at_bool (by repeat (first | (with_reducible exact HR386_0.out) | (with_reducible refine Kd.C_alloc ?_ _) | (with_reducible refine Kd.C_drewN ?_ _) | (with_reducible refine Kd.C_drew ?_) | exact HR386_0.out)) x8_2 p387 q387
               (try rw [← Nbq19.out] at hx387_0)
               cases e387
               replace p387 := eq_true p387
               replace q387 := eq_true q387
               have hcz24_0 : wr.cell? ⟨gb379, 0, none⟩ = some (.int .i64 a0_0) := (blk_cell BK379.out 0).trans rfl
               have hcz24_1 : wr.cell? ⟨gb379, 1, none⟩ = some (.int .i64 a0_1) := (blk_cell BK379.out 1).trans rfl
               have hcz24_2 : wr.cell? ⟨gb379, 2, none⟩ = some (.slice A0_2 l0_2.length c0_2) := (blk_cell BK379.out 2).trans rfl
               have hfz24_0 := blk_frozen BK379.out 0
               have hfz24_1 := blk_frozen BK379.out 1
               have hfz24_2 := blk_frozen BK379.out 2
               go_wp2_with (first | (go_at_call 33; (with_reducible refine (davitref07_Next.calls k2 a0_0 a0_1 _ _ l0_2 x8_2 t388 _ ?side1 ?side2 A21.out).mono ?_); (case side1 => repeat (first | exact (Kd.C_below HR0_2.out HB.out) | (with_reducible refine Kd.C_alloc ?_ _) | (with_reducible refine Kd.C_drewN ?_ _) | (with_reducible refine Kd.C_drew ?_))); (case side2 => exact HC0_2.out); rintro e w25 ⟨v389, rfl, ho0, hb⟩; have n0_ := Aside0.mk (Kd.S_below (by (with_reducible repeat (first | apply Kd.S_alloc | apply Kd.S_drewN | apply Kd.S_drew)); exact HO_3.out) hb); have n1_ := Aside0.mk (Kd.S_elder' (by (with_reducible repeat (first | apply Kd.S_alloc | apply Kd.S_drewN | apply Kd.S_drew)); exact HO_4.out) (Kd.R_base ho0) hb); have n2_ := Aside0.mk (Kd.R_below (by (with_reducible repeat (first | apply Kd.R_alloc | apply Kd.R_drewN | apply Kd.R_drew)); exact HO_6.out) hb); have n3_ := Aside0.mk (Kd.R_below (by (with_reducible repeat (first | apply Kd.R_alloc | apply Kd.R_drewN | apply Kd.R_drew)); exact HL386_0.out) hb); have n4_ := Aside0.mk (Kd.R_lower ho0 (below_size (by repeat (first | (with_reducible first | exact HB.out | apply below_alloc | apply pw_below_drewN | apply below_drew1 | refine below_set ?_ GE379.out) | exact HB.out)))); have n5_ := Aside0.mk (blk_below (g := gb379) (o := .cells #[.int .i64 a0_0, .int .i64 a0_1, .slice A0_2 l0_2.length c0_2] 24 (0, 0)) (by (with_reducible repeat (first | refine blk_drewN ?_ _ | refine blk_drew ?_ | refine blk_alloc ?_ _)); exact BK379.out) hb); have n6_ := Aside0.mk (Kd.C_below (by repeat (first | (with_reducible exact HR386_0.out) | (with_reducible refine Kd.C_alloc ?_ _) | (with_reducible refine Kd.C_drewN ?_ _) | (with_reducible refine Kd.C_drew ?_) | exact HR386_0.out)) hb); have n7_ := Aside0.mk (below_step (by repeat (first | (with_reducible first | exact HB.out | apply below_alloc | apply pw_below_drewN | apply below_drew1 | refine below_set ?_ GE379.out) | exact HB.out)) hb); clear HO_3; clear HO_4; clear HO_6; clear HL386_0; clear BK379; clear HR386_0; clear HB; have HO_3 := n0_; have HO_4 := n1_; have HO_6 := n2_; have HL386_0 := n3_; have HO390 := n4_; have BK379 := n5_; have HR386_0 := n6_; have HB := n7_; clear n0_ n1_ n2_ n3_ n4_ n5_ n6_ n7_; (try clear hb); (try clear hb2); (try clear hk); (try clear hi); (try clear ho0); obtain ⟨Ao26, co26, eo26⟩ := Kd.R_slice HO390.out; subst eo26) | (go_at_call 21; (with_reducible refine (davitref07_Has.calls k2 _ _ t388 x5_1 t391 _ ?side1 ?side2 A22.out).mono ?_); (case side1 => repeat (first | exact (Kd.R_reads' HO390.out).2.2 | (with_reducible refine Kd.C_alloc ?_ _) | (with_reducible refine Kd.C_drewN ?_ _) | (with_reducible refine Kd.C_drew ?_))); (case side2 => exact (Kd.R_reads' HO390.out).2.1); rintro e w' ⟨rfl, ⟨nd, rfl⟩⟩))
               go_meet
               case rel => exact ⟨_, (!t391), (by first | rfl | (simp; done) | (simp [*]; done)), H', ⟨by have := HK1.out; have := HK2.out; first | omega | exact Nat.le_refl _⟩, ⟨by (with_reducible repeat (first | apply Kd.S_alloc | apply Kd.S_drewN | apply Kd.S_drew)); exact HO_3.out⟩, ⟨by (with_reducible repeat (first | apply Kd.S_alloc | apply Kd.S_drewN | apply Kd.S_drew)); exact Kd.S_mono HO_4.out (fun _ hk => trivial)⟩, ⟨by (with_reducible repeat (first | apply Kd.R_alloc | apply Kd.R_drewN | apply Kd.R_drew)); exact HO_6.out⟩, ⟨by (with_reducible repeat (first | refine blk_drewN ?_ _ | refine blk_drew ?_ | refine blk_alloc ?_ _)); exact BK379.out⟩, ⟨by repeat (first | (with_reducible first | exact HB.out | apply below_alloc | apply pw_below_drewN | apply below_drew1 | refine below_set ?_ GE379.out) | exact HB.out)⟩⟩
              ·replace c20 := Bool.eq_false_iff.mpr c20
               subst c20
               have H1 : (davitref09_All.j2 k2 t380 x4_1 x5_1 x6_2 x7_2 x8_2 true a0_0 a0_1 l0_2) = some r := by rw [if_neg (show ¬ (false = true) by decide)] at H; exact H
               clear H
               have H := H1
               clear H1
               have H' := Aside0.mk H
               clear H
               obtain ⟨Ao27, co27, eo27⟩ := Kd.S_slice HO_3.out
               subst eo27
               have p386 : 0 ≤ (x5_1 : Int) := of_decide_eq_true (by first | (with_reducible assumption) | assumption)
               have q386 : x5_1 < (t380.length : Int) := of_decide_eq_true (by first | (with_reducible assumption) | assumption)
               obtain ⟨ad386, A386_0, c386_0, e386, hx386_0, hl386_0, hi386_0⟩ := at_L12 (Kd.S_reads' HO_3.out).2.2 x5_1 p386 q386
               cases e386
               obtain ⟨ce386, hce386, hMe386, hcc386⟩ := Kd.S_get HO_3.out [] x5_1 p386 (by first | exact q386 | exact of_decide_eq_true (by first | (with_reducible assumption) | assumption) | (have e_ := (Kd.S_reads' HO_3.out).1; omega))
               obtain ⟨ve386_0, rfl, ge386_0⟩ := hMe386
               have hv386_0 := hcc386 0 _ rfl
               rw [Nat.add_zero, show ((Kd.slice 4 Kd.bool)).sz = 1 from rfl, Nat.mul_one] at hv386_0
               replace hv386_0 := Option.some.inj (hv386_0.symm.trans hx386_0)
               rw [hv386_0] at ge386_0
               have HL386_0 := Aside0.mk (show Kd.R Kd.bool 4 _ _ _ _ (rd_L12 t380 x5_1) from ge386_0)
               clear hv386_0 ge386_0
               clear hcc386 hce386
               have HR386_0 := Aside0.mk hi386_0
               have HC386_0 := Aside0.mk hl386_0
               clear hi386_0 hl386_0
               replace p386 := eq_true p386
               replace q386 := eq_true q386
               have p387 : 0 ≤ (x8_2 : Int) := of_decide_eq_true (by first | (with_reducible assumption) | assumption)
               have q387 : x8_2 < ((rd_L12 t380 x5_1).length : Int) := of_decide_eq_true (by first | (with_reducible assumption) | assumption)
               obtain ⟨ad387, e387, hx387_0⟩ := Kd.at_bool (by repeat (first | (with_reducible exact HR386_0.out) | (with_reducible refine Kd.C_alloc ?_ _) | (with_reducible refine Kd.C_drewN ?_ _) | (with_reducible refine Kd.C_drew ?_) | exact HR386_0.out)) x8_2 p387 q387
               (try rw [← Nbq19.out] at hx387_0)
               cases e387
               replace p387 := eq_true p387
               replace q387 := eq_true q387
               go_wp2
               go_meet
               case rel => exact ⟨_, (true), (by first | rfl | (simp; done) | (simp [*]; done)), H', ⟨by have := HK1.out; have := HK2.out; first | omega | exact Nat.le_refl _⟩, ⟨by (with_reducible repeat (first | apply Kd.S_alloc | apply Kd.S_drewN | apply Kd.S_drew)); exact HO_3.out⟩, ⟨by (with_reducible repeat (first | apply Kd.S_alloc | apply Kd.S_drewN | apply Kd.S_drew)); exact HO_4.out⟩, ⟨by (with_reducible repeat (first | apply Kd.R_alloc | apply Kd.R_drewN | apply Kd.R_drew)); exact HO_6.out⟩, ⟨by (with_reducible repeat (first | refine blk_drewN ?_ _ | refine blk_drew ?_ | refine blk_alloc ?_ _)); exact BK379.out⟩, ⟨by repeat (first | (with_reducible first | exact HB.out | apply below_alloc | apply pw_below_drewN | apply below_drew1 | refine below_set ?_ GE379.out) | exact HB.out)⟩⟩
             ·rw [if_neg c18] at H
              exact absurd H (by simp)
            ·rw [if_neg c17] at H
             exact absurd H (by simp)
           ·rw [if_neg c16] at H
            exact absurd H (by simp)
          ·rw [if_neg c15] at H
           exact absurd H (by simp)
         case rest =>
          clear HC13
          try clear c1
          try clear q1
          try clear c2
          try clear p2
          try clear c3
          try clear p3
          try clear q3
          try clear hx3
          try clear c6
          try clear c6b0
          try clear c7
          try clear c7b0
          try clear c7b1
          try clear c8
          try clear c8b0
          try clear c8b1
          try clear c12
          try clear c12b0
          try clear c15
          try clear c15b0
          try clear c16
          try clear c16b0
          try clear c17
          try clear c17b0
          try clear c18
          try clear c18b0
          try clear q19
          try clear c20
          try clear c24
          try clear hcz14_0
          try clear hcz14_1
          try clear hcz14_2
          try clear hcz24_0
          try clear hcz24_1
          try clear hcz24_2
          try clear hcz4_0
          try clear hcz4_1
          try clear hcz4_2
          try clear hcz9_0
          try clear hcz9_1
          try clear hcz9_2
          try clear hfz14_0
          try clear hfz14_1
          try clear hfz14_2
          try clear hfz24_0
          try clear hfz24_1
          try clear hfz24_2
          try clear hfz4_0
          try clear hfz4_1
          try clear hfz4_2
          try clear hfz9_0
          try clear hfz9_1
          try clear hfz9_2
          try clear hx386_0
          try clear hx387_0
          try clear p2
          try clear p386
          try clear p387
          try clear q386
          try clear q387
          obtain ⟨kq, x48_12, rfl, HA, HJ12, HO_3, HO_4, HO_6, BK379, HB⟩ := hcut
          cases kq with
          | zero => exact absurd HA.out (by simp [davitref09_All.j2])
          | succ kj12 =>
           have H := HA.out
           clear HA
           simp only [davitref09_All.j2] at H
           by_cases c28 : x48_12 = true
           ·subst c28
            have H1 : (davitref09_All.l1 kj12 t380 x4_1 x5_1 x6_2 x7_2 (wrap64 (x8_2 + 1)) a0_0 a0_1 l0_2) = some r := by rw [if_pos rfl] at H; exact H
            clear H
            have H := H1
            clear H1
            have H' := Aside0.mk H
            clear H
            go_wp2
            go_roundg kj12
            case measure => have := HK1.out; have := HK2.out; have := HJ12.out; omega
            case rel => exact ⟨(x6_2), (x7_2), (wrap64 (x8_2 + 1)), (by first | rfl | (simp; done) | (simp [*]; done)), (by first | rfl | (simp; done) | (simp [*]; done)), H', ⟨by have := HK1.out; have := HK2.out; have := HJ12.out; omega⟩, ⟨by (with_reducible repeat (first | apply Kd.S_alloc | apply Kd.S_drewN | apply Kd.S_drew)); exact HO_3.out⟩, ⟨by (with_reducible repeat (first | apply Kd.S_alloc | apply Kd.S_drewN | apply Kd.S_drew)); exact HO_4.out⟩, ⟨by (with_reducible repeat (first | apply Kd.R_alloc | apply Kd.R_drewN | apply Kd.R_drew)); exact HO_6.out⟩, ⟨by (with_reducible repeat (first | refine blk_drewN ?_ _ | refine blk_drew ?_ | refine blk_alloc ?_ _)); exact BK379.out⟩, ⟨by repeat (first | (with_reducible first | exact HB.out | apply below_alloc | apply pw_below_drewN | apply below_drew1 | refine below_set ?_ GE379.out) | exact HB.out)⟩⟩
           ·replace c28 := Bool.eq_false_iff.mpr c28
            subst c28
            have H1 : ((davitref09_comes.f kj12 a0_0 a0_1 l0_2 x8_2 x5_1).bind fun t392 => (davitref09_All.l2 kj12 t380 x4_1 x5_1 x6_2 true x8_2 t392 0 a0_0 a0_1 l0_2)) = some r := by rw [if_neg (show ¬ (false = true) by decide)] at H; exact H
            clear H
            have H := H1
            clear H1
            replace H := Option.bind_eq_some_iff.mp H
            obtain ⟨t392, A290, H⟩ := H
            replace H : (davitref09_All.l2 kj12 t380 x4_1 x5_1 x6_2 true x8_2 t392 0 a0_0 a0_1 l0_2) = some r := H
            have A29 := Aside0.mk A290
            clear A290
            have H' := Aside0.mk H
            clear H
            have hcz30_0 : wc.cell? ⟨gb379, 0, none⟩ = some (.int .i64 a0_0) := (blk_cell BK379.out 0).trans rfl
            have hcz30_1 : wc.cell? ⟨gb379, 1, none⟩ = some (.int .i64 a0_1) := (blk_cell BK379.out 1).trans rfl
            have hcz30_2 : wc.cell? ⟨gb379, 2, none⟩ = some (.slice A0_2 l0_2.length c0_2) := (blk_cell BK379.out 2).trans rfl
            have hfz30_0 := blk_frozen BK379.out 0
            have hfz30_1 := blk_frozen BK379.out 1
            have hfz30_2 := blk_frozen BK379.out 2
            go_wp2_with (first | ((with_reducible refine gate_callee (f := 42) rfl ?_); refine goesL_ (some 52) rfl rfl Try.func42 (by kernel_rfl) rfl #[.agg #[.int .i64 a0_0, .int .i64 a0_1, .slice A0_2 l0_2.length c0_2], .int .i64 x8_2, .int .i64 x5_1] rfl (by (try simp only [List.map_toArray, List.map_cons, List.map_nil]); first | done | rfl | (simp only [List.length_drop, List.length_take]; rfl)) ?_; (with_reducible refine (davitref09_comes.calls kj12 a0_0 a0_1 _ _ l0_2 x8_2 x5_1 t392 _ ?side1 ?side2 A29.out).mono ?_); (case side1 => repeat (first | exact (Kd.C_below HR0_2.out HB.out) | (with_reducible refine Kd.C_alloc ?_ _) | (with_reducible refine Kd.C_drewN ?_ _) | (with_reducible refine Kd.C_drew ?_))); (case side2 => exact HC0_2.out); rintro e w31 ⟨v393, rfl, ho0, hb⟩; refine ⟨_, rfl, ?_⟩; have n0_ := Aside0.mk (Kd.S_elder' (by (with_reducible repeat (first | apply Kd.S_alloc | apply Kd.S_drewN | apply Kd.S_drew)); exact HO_3.out) (Kd.R_base ho0) hb); have n1_ := Aside0.mk (Kd.S_below (by (with_reducible repeat (first | apply Kd.S_alloc | apply Kd.S_drewN | apply Kd.S_drew)); exact HO_4.out) hb); have n2_ := Aside0.mk (Kd.R_elder' (by (with_reducible repeat (first | apply Kd.R_alloc | apply Kd.R_drewN | apply Kd.R_drew)); exact HO_6.out) (Kd.R_base ho0) hb); have n3_ := Aside0.mk (Kd.R_lower (Kd.R_new' ho0 (Kd.R_lt (by (with_reducible repeat (first | apply Kd.R_alloc | apply Kd.R_drewN | apply Kd.R_drew)); exact HO_6.out))) (below_size (by repeat (first | (with_reducible first | exact HB.out | apply below_alloc | apply pw_below_drewN | apply below_drew1 | refine below_set ?_ GE379.out) | exact HB.out)))); have n4_ := Aside0.mk (blk_below (g := gb379) (o := .cells #[.int .i64 a0_0, .int .i64 a0_1, .slice A0_2 l0_2.length c0_2] 24 (0, 0)) (by (with_reducible repeat (first | refine blk_drewN ?_ _ | refine blk_drew ?_ | refine blk_alloc ?_ _)); exact BK379.out) hb); have n5_ := Aside0.mk (below_step (by repeat (first | (with_reducible first | exact HB.out | apply below_alloc | apply pw_below_drewN | apply below_drew1 | refine below_set ?_ GE379.out) | exact HB.out)) hb); clear HO_3; clear HO_4; clear HO_6; clear BK379; clear HB; have HO_3 := n0_; have HO_4 := n1_; have HO_6 := n2_; have HO394 := n3_; have BK379 := n4_; have HB := n5_; clear n0_ n1_ n2_ n3_ n4_ n5_; (try clear hb); (try clear hb2); (try clear hk); (try clear hi); (try clear ho0)))
            go_loopg [10] kj12 (fun kq v10 w' => ∃ (x6_4 : List Bool) (x10_4 : Int), v10 = .int .i64 x10_4 ∧ Aside0 (davitref09_All.l2 kq t380 x4_1 x5_1 x6_4 true x8_2 t392 x10_4 a0_0 a0_1 l0_2 = some r) ∧ Aside0 (kq ≤ kj12) ∧ Aside0 (Kd.S (Kd.slice 4 Kd.bool) 32 w' w.heap.size (fun k_ => some k_ ≠ (v384 : Value).ownBlock ∧ some k_ ≠ (v393 : Value).ownBlock) v381 t380) ∧ Aside0 (Kd.S k40 40 w' w.heap.size (fun _ => True) u4 x4_1) ∧ Aside0 (Kd.R Kd.bool 4 w' w.heap.size (fun k_ => some k_ ≠ (v393 : Value).ownBlock) v384 x6_4) ∧ Aside0 (Kd.R Kd.bool 4 w' w.heap.size (fun k_ => some k_ ≠ (v384 : Value).ownBlock) v393 t392) ∧ Aside0 (w'.heap[gb379]? = some (.cells #[.int .i64 a0_0, .int .i64 a0_1, (.slice A0_2 l0_2.length c0_2)] 24 (0, 0))) ∧ Aside0 (Below w.heap.size w w'))
            case atStart => exact ⟨(x6_2), (0), (by first | rfl | (simp; done) | (simp [*]; done)), H', ⟨Nat.le_refl _⟩, ⟨by (with_reducible repeat (first | apply Kd.S_alloc | apply Kd.S_drewN | apply Kd.S_drew)); exact HO_3.out⟩, ⟨by (with_reducible repeat (first | apply Kd.S_alloc | apply Kd.S_drewN | apply Kd.S_drew)); exact HO_4.out⟩, ⟨by (with_reducible repeat (first | apply Kd.R_alloc | apply Kd.R_drewN | apply Kd.R_drew)); exact Kd.R_mono HO_6.out (fun _ hk => hk.2)⟩, ⟨by (with_reducible repeat (first | apply Kd.R_alloc | apply Kd.R_drewN | apply Kd.R_drew)); exact Kd.R_mono HO394.out (fun _ hk => hk.2)⟩, ⟨by (with_reducible repeat (first | refine blk_drewN ?_ _ | refine blk_drew ?_ | refine blk_alloc ?_ _)); exact BK379.out⟩, ⟨by repeat (first | (with_reducible first | exact HB.out | apply below_alloc | apply pw_below_drewN | apply below_drew1 | refine below_set ?_ GE379.out) | exact HB.out)⟩⟩
            case round =>
             clear H'
             try clear c1
             try clear q1
             try clear c2
             try clear p2
             try clear c3
             try clear p3
             try clear q3
             try clear hx3
             try clear c4
             try clear c6
             try clear c6b0
             try clear p6
             try clear c7
             try clear c7b0
             try clear c7b1
             try clear c8
             try clear c8b0
             try clear c8b1
             try clear c12
             try clear c12b0
             try clear c15
             try clear c15b0
             try clear c16
             try clear c16b0
             try clear c17
             try clear c17b0
             try clear c18
             try clear c18b0
             try clear q19
             try clear c20
             try clear c24
             try clear c28
             try clear hcz14_0
             try clear hcz14_1
             try clear hcz14_2
             try clear hcz24_0
             try clear hcz24_1
             try clear hcz24_2
             try clear hcz30_0
             try clear hcz30_1
             try clear hcz30_2
             try clear hcz4_0
             try clear hcz4_1
             try clear hcz4_2
             try clear hcz9_0
             try clear hcz9_1
             try clear hcz9_2
             try clear hfz14_0
             try clear hfz14_1
             try clear hfz14_2
             try clear hfz24_0
             try clear hfz24_1
             try clear hfz24_2
             try clear hfz30_0
             try clear hfz30_1
             try clear hfz30_2
             try clear hfz4_0
             try clear hfz4_1
             try clear hfz4_2
             try clear hfz9_0
             try clear hfz9_1
             try clear hfz9_2
             try clear hx386_0
             try clear hx387_0
             try clear p2
             try clear p3
             try clear p386
             try clear p387
             try clear q1
             try clear q19
             try clear q3
             try clear q386
             try clear q387
             obtain ⟨x6_4, x10_4, rfl, HA, HK4, HO_3, HO_4, HO_6, HO_9, BK379, HB⟩ := hrel
             cases gk with
             | zero => exact absurd HA.out (by simp [davitref09_All.l2])
             | succ k4 =>
              have H := HA.out
              clear HA
              simp only [davitref09_All.l2] at H
              by_cases c32 : x10_4 < (x6_4.length : Int)
              ·rw [if_pos c32] at H
               have c32b0 : decide (x10_4 < (x6_4.length : Int)) = true := decide_eq_true c32
               clear c32
               by_cases c33 : 0 ≤ x10_4
               ·rw [if_pos c33] at H
                have c33b0 : decide (0 ≤ x10_4) = true := decide_eq_true c33
                clear c33
                obtain ⟨bq34, hbq34⟩ : ∃ b_ : Bool, b_ = (rdOf false x6_4 x10_4) := ⟨_, rfl⟩
                replace H : (if bq34 = true then (davitref09_All.l2 k4 t380 x4_1 x5_1 (x6_4.set (x10_4 : Int).toNat true) true x8_2 t392 (wrap64 (x10_4 + 1)) a0_0 a0_1 l0_2) else (if x10_4 < (t392.length : Int) then (if rdOf false t392 x10_4 = true then (if 0 ≤ x5_1 then (if x5_1 < (t380.length : Int) then (if x10_4 < ((rd_L12 t380 x5_1).length : Int) then (davitref09_All.l2 k4 t380 x4_1 x5_1 (x6_4.set (x10_4 : Int).toNat (rdOf false (rd_L12 t380 x5_1) x10_4)) true x8_2 t392 (wrap64 (x10_4 + 1)) a0_0 a0_1 l0_2) else (none)) else (none)) else (none)) else (davitref09_All.l2 k4 t380 x4_1 x5_1 (x6_4.set (x10_4 : Int).toNat false) true x8_2 t392 (wrap64 (x10_4 + 1)) a0_0 a0_1 l0_2)) else (none))) = some r := by rw [← hbq34] at H; exact H
                have Nbq34 := Aside0.mk hbq34
                clear hbq34
                by_cases c35 : bq34 = true
                ·subst c35
                 have H1 : (davitref09_All.l2 k4 t380 x4_1 x5_1 (x6_4.set (x10_4 : Int).toNat true) true x8_2 t392 (wrap64 (x10_4 + 1)) a0_0 a0_1 l0_2) = some r := by rw [if_pos rfl] at H; exact H
                 clear H
                 have H := H1
                 clear H1
                 obtain ⟨y396, hy396⟩ : ∃ y_ : List Bool, y_ = (x6_4.set (x10_4 : Int).toNat true) := ⟨_, rfl⟩
                 replace H : (davitref09_All.l2 k4 t380 x4_1 x5_1 y396 true x8_2 t392 (wrap64 (x10_4 + 1)) a0_0 a0_1 l0_2) = some r := by first | (rw [hy396]; with_reducible exact H) | (have H2_ := (Option.bind_some _ _).symm.trans H; rw [hy396]; with_reducible exact H2_) | (have H2_ := (Option.bind_some _ _).symm.trans H; with_reducible exact H2_) | with_reducible exact H | (rw [hy396]; exact H) | exact H
                 have Ny396 := Aside0.mk hy396
                 clear hy396
                 have H' := Aside0.mk H
                 clear H
                 obtain ⟨Ao37, co37, eo37⟩ := Kd.R_slice HO_6.out
                 subst eo37
                 have p395 : 0 ≤ (x10_4 : Int) := of_decide_eq_true (by first | (with_reducible assumption) | assumption)
                 have q395 : x10_4 < (x6_4.length : Int) := of_decide_eq_true (by first | (with_reducible assumption) | assumption)
                 obtain ⟨ad395, e395, hx395_0⟩ := Kd.at_bool (Kd.R_reads' HO_6.out).2.2 x10_4 p395 q395
                 (try rw [← Nbq34.out] at hx395_0)
                 cases e395
                 replace p395 := eq_true p395
                 replace q395 := eq_true q395
                 have p36 : 0 ≤ (x10_4 : Int) := of_decide_eq_true (by first | (with_reducible assumption) | assumption)
                 have q36 : (x10_4 : Int) < ((x6_4.length : Int) : Int) := of_decide_eq_true (by first | (with_reducible assumption) | assumption)
                 obtain ⟨go36, co36, eo36, gb36, gl36, cl36, HG36⟩ := Kd.R_form HO_6.out (by omega)
                 (first | cases eo36 | (injection eo36 with ea_ en_ ec_; (first | subst ea_ | (injection ea_ with ea_; subst ea_)); subst ec_; clear en_))
                 have GB36 := Aside0.mk gb36
                 have GG36 := Aside0.mk HG36
                 clear gb36 gl36 HG36
                 (first | simp only [add_plain] at hx395_0 | skip)
                 obtain ⟨hx36_0, hf36_0⟩ := Kd.R_celln false HO_6.out (x10_4 : Int) p36 q36
                 replace p36 := eq_true p36
                 replace q36 := eq_true q36
                 have HP38 := Kd.R_putg HO_6.out (x10_4 : Int) true
                 go_wp2_with (first | ((with_reducible refine gate_store (t := 4) (p := 80) rfl ?_); refine store_event (t := 4) (p := 80) (v := ?vo_w39) (w1 := (wr.setCell ⟨go36, (x10_4 : Int).toNat, none⟩ (.bool true))) ?hg ?ho ?hn ?hr ?_; (case ho => rfl); (case hg => rfl); (case hn => rfl); (case hr => first | (go_simp; done) | (go_simp; rfl)); intro w39 hw; have hg : wr.grownBy w39 (some go36) := (by rw [hw]; exact HP38.2); have hp_ : Kd.R Kd.bool 4 w39 w.heap.size (fun k_ => some k_ ≠ (v393 : Value).ownBlock) (.slice (some ⟨go36, 0, none⟩) x6_4.length co37) y396 := (by rw [hw, Ny396.out]; exact HP38.1); clear HP38; have n0_ := Aside0.mk (Kd.S_after (v := (.slice (some ⟨go36, 0, none⟩) x6_4.length co37)) (v1 := (.slice (some ⟨go36, 0, none⟩) x6_4.length co37)) (ok := (fun k_ => some k_ ≠ (v393 : Value).ownBlock)) (by (with_reducible repeat (first | apply Kd.S_alloc | apply Kd.S_drewN | apply Kd.S_drew)); exact Kd.S_mono HO_3.out (fun _ hk => ⟨hk.2, hk.1⟩)) hg (.inl rfl)); have n1_ := Aside0.mk (Kd.S_over' (v := (.slice (some ⟨go36, 0, none⟩) x6_4.length co37)) (by (with_reducible repeat (first | apply Kd.S_alloc | apply Kd.S_drewN | apply Kd.S_drew)); exact HO_4.out) (Kd.R_typed HO_6.out) (by decide) hg); have n2_ := Aside0.mk (hp_); have n3_ := Aside0.mk (Kd.R_after (v := (.slice (some ⟨go36, 0, none⟩) x6_4.length co37)) (v1 := (.slice (some ⟨go36, 0, none⟩) x6_4.length co37)) (ok := (fun _ => True)) (by (with_reducible repeat (first | apply Kd.R_alloc | apply Kd.R_drewN | apply Kd.R_drew)); exact Kd.R_mono HO_9.out (fun _ hk => ⟨trivial, hk⟩)) hg (.inl rfl)); have n4_ := Aside0.mk (blk_grown (g := gb379) (o := .cells #[.int .i64 a0_0, .int .i64 a0_1, .slice A0_2 l0_2.length c0_2] 24 (0, 0)) (by (with_reducible repeat (first | refine blk_drewN ?_ _ | refine blk_drew ?_ | refine blk_alloc ?_ _)); exact BK379.out) hg (Kd.R_ne HO_6.out BK379.out (by decide))); have n5_ := Aside0.mk ((by rw [hw]; exact below_set (HB.out) GB36.out : Below w.heap.size w w39)); clear HO_3; clear HO_4; clear HO_6; clear HO_9; clear BK379; clear HB; have HO_3 := n0_; have HO_4 := n1_; have HO_6 := n2_; have HO_9 := n3_; have BK379 := n4_; have HB := n5_; clear n0_ n1_ n2_ n3_ n4_ n5_; clear hg hw hp_))
                 go_roundg k4
                 case measure => have := HK1.out; have := HK2.out; have := HJ12.out; have := HK4.out; omega
                 case rel => exact ⟨(y396), (wrap64 (x10_4 + 1)), (by first | rfl | (simp; done) | (simp [*]; done)), H', ⟨by have := HK1.out; have := HK2.out; have := HJ12.out; have := HK4.out; omega⟩, ⟨by (with_reducible repeat (first | apply Kd.S_alloc | apply Kd.S_drewN | apply Kd.S_drew)); exact Kd.S_mono HO_3.out (fun _ hk => ⟨hk.2, hk.1⟩)⟩, ⟨by (with_reducible repeat (first | apply Kd.S_alloc | apply Kd.S_drewN | apply Kd.S_drew)); exact HO_4.out⟩, ⟨by (with_reducible repeat (first | apply Kd.R_alloc | apply Kd.R_drewN | apply Kd.R_drew)); exact HO_6.out⟩, ⟨by (with_reducible repeat (first | apply Kd.R_alloc | apply Kd.R_drewN | apply Kd.R_drew)); exact Kd.R_mono HO_9.out (fun _ hk => hk.2)⟩, ⟨by (with_reducible repeat (first | refine blk_drewN ?_ _ | refine blk_drew ?_ | refine blk_alloc ?_ _)); exact BK379.out⟩, ⟨by repeat (first | (with_reducible first | exact HB.out | apply below_alloc | apply pw_below_drewN | apply below_drew1 | refine below_set ?_ GE379.out) | exact HB.out)⟩⟩
                ·replace c35 := Bool.eq_false_iff.mpr c35
                 subst c35
                 have H1 : (if x10_4 < (t392.length : Int) then (if rdOf false t392 x10_4 = true then (if 0 ≤ x5_1 then (if x5_1 < (t380.length : Int) then (if x10_4 < ((rd_L12 t380 x5_1).length : Int) then (davitref09_All.l2 k4 t380 x4_1 x5_1 (x6_4.set (x10_4 : Int).toNat (rdOf false (rd_L12 t380 x5_1) x10_4)) true x8_2 t392 (wrap64 (x10_4 + 1)) a0_0 a0_1 l0_2) else (none)) else (none)) else (none)) else (davitref09_All.l2 k4 t380 x4_1 x5_1 (x6_4.set (x10_4 : Int).toNat false) true x8_2 t392 (wrap64 (x10_4 + 1)) a0_0 a0_1 l0_2)) else (none)) = some r := by rw [if_neg (show ¬ (false = true) by decide)] at H; exact H
                 clear H
                 have H := H1
                 clear H1
                 by_cases c40 : x10_4 < (t392.length : Int)
                 ·rw [if_pos c40] at H
                  have c40b0 : decide (x10_4 < (t392.length : Int)) = true := decide_eq_true c40
                  clear c40
                  obtain ⟨bq41, hbq41⟩ : ∃ b_ : Bool, b_ = (rdOf false t392 x10_4) := ⟨_, rfl⟩
                  replace H : (if bq41 = true then (if 0 ≤ x5_1 then (if x5_1 < (t380.length : Int) then (if x10_4 < ((rd_L12 t380 x5_1).length : Int) then (davitref09_All.l2 k4 t380 x4_1 x5_1 (x6_4.set (x10_4 : Int).toNat (rdOf false (rd_L12 t380 x5_1) x10_4)) true x8_2 t392 (wrap64 (x10_4 + 1)) a0_0 a0_1 l0_2) else (none)) else (none)) else (none)) else (davitref09_All.l2 k4 t380 x4_1 x5_1 (x6_4.set (x10_4 : Int).toNat false) true x8_2 t392 (wrap64 (x10_4 + 1)) a0_0 a0_1 l0_2)) = some r := by rw [← hbq41] at H; exact H
                  have Nbq41 := Aside0.mk hbq41
                  clear hbq41
                  by_cases c42 : bq41 = true
                  ·subst c42
                   have H1 : (if 0 ≤ x5_1 then (if x5_1 < (t380.length : Int) then (if x10_4 < ((rd_L12 t380 x5_1).length : Int) then (davitref09_All.l2 k4 t380 x4_1 x5_1 (x6_4.set (x10_4 : Int).toNat (rdOf false (rd_L12 t380 x5_1) x10_4)) true x8_2 t392 (wrap64 (x10_4 + 1)) a0_0 a0_1 l0_2) else (none)) else (none)) else (none)) = some r := by rw [if_pos rfl] at H; exact H
                   clear H
                   have H := H1
                   clear H1
                   by_cases c43 : 0 ≤ x5_1
                   ·rw [if_pos c43] at H
                    have c43b0 : decide (0 ≤ x5_1) = true := decide_eq_true c43
                    clear c43
                    by_cases c44 : x5_1 < (t380.length : Int)
                    ·rw [if_pos c44] at H
                     have c44b0 : decide (x5_1 < (t380.length : Int)) = true := decide_eq_true c44
                     clear c44
                     by_cases c45 : x10_4 < ((rd_L12 t380 x5_1).length : Int)
                     ·rw [if_pos c45] at H
                      have c45b0 : decide (x10_4 < ((rd_L12 t380 x5_1).length : Int)) = true := decide_eq_true c45
                      clear c45
                      obtain ⟨y400, hy400⟩ : ∃ y_ : List Bool, y_ = (x6_4.set (x10_4 : Int).toNat (rdOf false (rd_L12 t380 x5_1) x10_4)) := ⟨_, rfl⟩
                      replace H : (davitref09_All.l2 k4 t380 x4_1 x5_1 y400 true x8_2 t392 (wrap64 (x10_4 + 1)) a0_0 a0_1 l0_2) = some r := by first | (rw [hy400]; with_reducible exact H) | (have H2_ := (Option.bind_some _ _).symm.trans H; rw [hy400]; with_reducible exact H2_) | (have H2_ := (Option.bind_some _ _).symm.trans H; with_reducible exact H2_) | with_reducible exact H | (rw [hy400]; exact H) | exact H
                      have Ny400 := Aside0.mk hy400
                      clear hy400
                      have H' := Aside0.mk H
                      clear H
                      obtain ⟨Ao47, co47, eo47⟩ := Kd.R_slice HO_6.out
                      subst eo47
                      have p395 : 0 ≤ (x10_4 : Int) := of_decide_eq_true (by first | (with_reducible assumption) | assumption)
                      have q395 : x10_4 < (x6_4.length : Int) := of_decide_eq_true (by first | (with_reducible assumption) | assumption)
                      obtain ⟨ad395, e395, hx395_0⟩ := Kd.at_bool (Kd.R_reads' HO_6.out).2.2 x10_4 p395 q395
                      (try rw [← Nbq34.out] at hx395_0)
                      (try rw [← Nbq41.out] at hx395_0)
                      cases e395
                      replace p395 := eq_true p395
                      replace q395 := eq_true q395
                      obtain ⟨Ao48, co48, eo48⟩ := Kd.R_slice HO_9.out
                      subst eo48
                      have p397 : 0 ≤ (x10_4 : Int) := of_decide_eq_true (by first | (with_reducible assumption) | assumption)
                      have q397 : x10_4 < (t392.length : Int) := of_decide_eq_true (by first | (with_reducible assumption) | assumption)
                      obtain ⟨ad397, e397, hx397_0⟩ := Kd.at_bool (Kd.R_reads' HO_9.out).2.2 x10_4 p397 q397
                      (try rw [← Nbq34.out] at hx397_0)
                      (try rw [← Nbq41.out] at hx397_0)
                      cases e397
                      replace p397 := eq_true p397
                      replace q397 := eq_true q397
                      obtain ⟨Ao49, co49, eo49⟩ := Kd.S_slice HO_3.out
                      subst eo49
                      have p398 : 0 ≤ (x5_1 : Int) := of_decide_eq_true (by first | (with_reducible assumption) | assumption)
                      have q398 : x5_1 < (t380.length : Int) := of_decide_eq_true (by first | (with_reducible assumption) | assumption)
                      obtain ⟨ad398, A398_0, c398_0, e398, hx398_0, hl398_0, hi398_0⟩ := at_L12 (Kd.S_reads' HO_3.out).2.2 x5_1 p398 q398
                      cases e398
                      obtain ⟨ce398, hce398, hMe398, hcc398⟩ := Kd.S_get HO_3.out [] x5_1 p398 (by first | exact q398 | exact of_decide_eq_true (by first | (with_reducible assumption) | assumption) | (have e_ := (Kd.S_reads' HO_3.out).1; omega))
                      obtain ⟨ve398_0, rfl, ge398_0⟩ := hMe398
                      have hv398_0 := hcc398 0 _ rfl
                      rw [Nat.add_zero, show ((Kd.slice 4 Kd.bool)).sz = 1 from rfl, Nat.mul_one] at hv398_0
                      replace hv398_0 := Option.some.inj (hv398_0.symm.trans hx398_0)
                      rw [hv398_0] at ge398_0
                      have HL398_0 := Aside0.mk (show Kd.R Kd.bool 4 _ _ _ _ (rd_L12 t380 x5_1) from ge398_0)
                      clear hv398_0 ge398_0
                      clear hcc398 hce398
                      have HR398_0 := Aside0.mk hi398_0
                      have HC398_0 := Aside0.mk hl398_0
                      clear hi398_0 hl398_0
                      replace p398 := eq_true p398
                      replace q398 := eq_true q398
                      have p399 : 0 ≤ (x10_4 : Int) := of_decide_eq_true (by first | (with_reducible assumption) | assumption)
                      have q399 : x10_4 < ((rd_L12 t380 x5_1).length : Int) := of_decide_eq_true (by first | (with_reducible assumption) | assumption)
                      obtain ⟨ad399, e399, hx399_0⟩ := Kd.at_bool (by repeat (first | (with_reducible exact HR398_0.out) | (with_reducible refine Kd.C_alloc ?_ _) | (with_reducible refine Kd.C_drewN ?_ _) | (with_reducible refine Kd.C_drew ?_) | exact HR398_0.out)) x10_4 p399 q399
                      (try rw [← Nbq34.out] at hx399_0)
                      (try rw [← Nbq41.out] at hx399_0)
                      cases e399
                      replace p399 := eq_true p399
                      replace q399 := eq_true q399
                      have p46 : 0 ≤ (x10_4 : Int) := of_decide_eq_true (by first | (with_reducible assumption) | assumption)
                      have q46 : (x10_4 : Int) < ((x6_4.length : Int) : Int) := of_decide_eq_true (by first | (with_reducible assumption) | assumption)
                      obtain ⟨go46, co46, eo46, gb46, gl46, cl46, HG46⟩ := Kd.R_form HO_6.out (by omega)
                      (first | cases eo46 | (injection eo46 with ea_ en_ ec_; (first | subst ea_ | (injection ea_ with ea_; subst ea_)); subst ec_; clear en_))
                      have GB46 := Aside0.mk gb46
                      have GG46 := Aside0.mk HG46
                      clear gb46 gl46 HG46
                      (first | simp only [add_plain] at hx395_0 | skip)
                      obtain ⟨hx46_0, hf46_0⟩ := Kd.R_celln false HO_6.out (x10_4 : Int) p46 q46
                      replace p46 := eq_true p46
                      replace q46 := eq_true q46
                      have HP50 := Kd.R_putg HO_6.out (x10_4 : Int) (rdOf false (rd_L12 t380 x5_1) x10_4)
                      go_wp2_with (first | ((with_reducible refine gate_store (t := 4) (p := 80) rfl ?_); refine store_event (t := 4) (p := 80) (v := ?vo_w51) (w1 := (wr.setCell ⟨go46, (x10_4 : Int).toNat, none⟩ (.bool (rdOf false (rd_L12 t380 x5_1) x10_4)))) ?hg ?ho ?hn ?hr ?_; (case ho => rfl); (case hg => rfl); (case hn => rfl); (case hr => first | (go_simp; done) | (go_simp; rfl)); intro w51 hw; have hg : wr.grownBy w51 (some go46) := (by rw [hw]; exact HP50.2); have hp_ : Kd.R Kd.bool 4 w51 w.heap.size (fun k_ => some k_ ≠ (.slice (some ad397) t392.length co48 : Value).ownBlock) (.slice (some ⟨go46, 0, none⟩) x6_4.length co47) y400 := (by rw [hw, Ny400.out]; exact HP50.1); clear HP50; have n0_ := Aside0.mk (Kd.S_after (v := (.slice (some ⟨go46, 0, none⟩) x6_4.length co47)) (v1 := (.slice (some ⟨go46, 0, none⟩) x6_4.length co47)) (ok := (fun k_ => some k_ ≠ (.slice (some ad397) t392.length co48 : Value).ownBlock)) (by (with_reducible repeat (first | apply Kd.S_alloc | apply Kd.S_drewN | apply Kd.S_drew)); exact Kd.S_mono HO_3.out (fun _ hk => ⟨hk.2, hk.1⟩)) hg (.inl rfl)); have n1_ := Aside0.mk (Kd.S_over' (v := (.slice (some ⟨go46, 0, none⟩) x6_4.length co47)) (by (with_reducible repeat (first | apply Kd.S_alloc | apply Kd.S_drewN | apply Kd.S_drew)); exact HO_4.out) (Kd.R_typed HO_6.out) (by decide) hg); have n2_ := Aside0.mk (hp_); have n3_ := Aside0.mk (Kd.R_after (v := (.slice (some ⟨go46, 0, none⟩) x6_4.length co47)) (v1 := (.slice (some ⟨go46, 0, none⟩) x6_4.length co47)) (ok := (fun _ => True)) (by (with_reducible repeat (first | apply Kd.R_alloc | apply Kd.R_drewN | apply Kd.R_drew)); exact Kd.R_mono HO_9.out (fun _ hk => ⟨trivial, hk⟩)) hg (.inl rfl)); have n4_ := Aside0.mk (blk_grown (g := gb379) (o := .cells #[.int .i64 a0_0, .int .i64 a0_1, .slice A0_2 l0_2.length c0_2] 24 (0, 0)) (by (with_reducible repeat (first | refine blk_drewN ?_ _ | refine blk_drew ?_ | refine blk_alloc ?_ _)); exact BK379.out) hg (Kd.R_ne HO_6.out BK379.out (by decide))); have n5_ := Aside0.mk (Kd.R_after (v := (.slice (some ⟨go46, 0, none⟩) x6_4.length co47)) (v1 := (.slice (some ⟨go46, 0, none⟩) x6_4.length co47)) (ok := (fun k_ => some k_ ≠ (.slice (some ad398) t380.length co49 : Value).ownBlock ∧ some k_ ≠ (.slice (some ad397) t392.length co48 : Value).ownBlock)) (by (with_reducible repeat (first | apply Kd.R_alloc | apply Kd.R_drewN | apply Kd.R_drew)); exact Kd.R_mono HL398_0.out (fun _ hk => ⟨⟨hk.2, hk.1.2⟩, hk.1.1⟩)) hg (.inl rfl)); have n6_ := Aside0.mk ((by rw [hw]; exact below_set (HB.out) GB46.out : Below w.heap.size w w51)); clear HO_3; clear HO_4; clear HO_6; clear HO_9; clear BK379; clear HL398_0; clear HB; have HO_3 := n0_; have HO_4 := n1_; have HO_6 := n2_; have HO_9 := n3_; have BK379 := n4_; have HL398_0 := n5_; have HB := n6_; clear n0_ n1_ n2_ n3_ n4_ n5_ n6_; clear hg hw hp_))
                      go_roundg k4
                      case measure => have := HK1.out; have := HK2.out; have := HJ12.out; have := HK4.out; omega
                      case rel => exact ⟨(y400), (wrap64 (x10_4 + 1)), (by first | rfl | (simp; done) | (simp [*]; done)), H', ⟨by have := HK1.out; have := HK2.out; have := HJ12.out; have := HK4.out; omega⟩, ⟨by (with_reducible repeat (first | apply Kd.S_alloc | apply Kd.S_drewN | apply Kd.S_drew)); exact Kd.S_mono HO_3.out (fun _ hk => ⟨hk.2, hk.1⟩)⟩, ⟨by (with_reducible repeat (first | apply Kd.S_alloc | apply Kd.S_drewN | apply Kd.S_drew)); exact HO_4.out⟩, ⟨by (with_reducible repeat (first | apply Kd.R_alloc | apply Kd.R_drewN | apply Kd.R_drew)); exact HO_6.out⟩, ⟨by (with_reducible repeat (first | apply Kd.R_alloc | apply Kd.R_drewN | apply Kd.R_drew)); exact Kd.R_mono HO_9.out (fun _ hk => hk.2)⟩, ⟨by (with_reducible repeat (first | refine blk_drewN ?_ _ | refine blk_drew ?_ | refine blk_alloc ?_ _)); exact BK379.out⟩, ⟨by repeat (first | (with_reducible first | exact HB.out | apply below_alloc | apply pw_below_drewN | apply below_drew1 | refine below_set ?_ GE379.out) | exact HB.out)⟩⟩
                     ·rw [if_neg c45] at H
                      exact absurd H (by simp)
                    ·rw [if_neg c44] at H
                     exact absurd H (by simp)
                   ·rw [if_neg c43] at H
                    exact absurd H (by simp)
                  ·replace c42 := Bool.eq_false_iff.mpr c42
                   subst c42
                   have H1 : (davitref09_All.l2 k4 t380 x4_1 x5_1 (x6_4.set (x10_4 : Int).toNat false) true x8_2 t392 (wrap64 (x10_4 + 1)) a0_0 a0_1 l0_2) = some r := by rw [if_neg (show ¬ (false = true) by decide)] at H; exact H
                   clear H
                   have H := H1
                   clear H1
                   obtain ⟨y401, hy401⟩ : ∃ y_ : List Bool, y_ = (x6_4.set (x10_4 : Int).toNat false) := ⟨_, rfl⟩
                   replace H : (davitref09_All.l2 k4 t380 x4_1 x5_1 y401 true x8_2 t392 (wrap64 (x10_4 + 1)) a0_0 a0_1 l0_2) = some r := by first | (rw [hy401]; with_reducible exact H) | (have H2_ := (Option.bind_some _ _).symm.trans H; rw [hy401]; with_reducible exact H2_) | (have H2_ := (Option.bind_some _ _).symm.trans H; with_reducible exact H2_) | with_reducible exact H | (rw [hy401]; exact H) | exact H
                   have Ny401 := Aside0.mk hy401
                   clear hy401
                   have H' := Aside0.mk H
                   clear H
                   obtain ⟨Ao53, co53, eo53⟩ := Kd.R_slice HO_6.out
                   subst eo53
                   have p395 : 0 ≤ (x10_4 : Int) := of_decide_eq_true (by first | (with_reducible assumption) | assumption)
                   have q395 : x10_4 < (x6_4.length : Int) := of_decide_eq_true (by first | (with_reducible assumption) | assumption)
                   obtain ⟨ad395, e395, hx395_0⟩ := Kd.at_bool (Kd.R_reads' HO_6.out).2.2 x10_4 p395 q395
                   (try rw [← Nbq34.out] at hx395_0)
                   (try rw [← Nbq41.out] at hx395_0)
                   cases e395
                   replace p395 := eq_true p395
                   replace q395 := eq_true q395
                   obtain ⟨Ao54, co54, eo54⟩ := Kd.R_slice HO_9.out
                   subst eo54
                   have p397 : 0 ≤ (x10_4 : Int) := of_decide_eq_true (by first | (with_reducible assumption) | assumption)
                   have q397 : x10_4 < (t392.length : Int) := of_decide_eq_true (by first | (with_reducible assumption) | assumption)
                   obtain ⟨ad397, e397, hx397_0⟩ := Kd.at_bool (Kd.R_reads' HO_9.out).2.2 x10_4 p397 q397
                   (try rw [← Nbq34.out] at hx397_0)
                   (try rw [← Nbq41.out] at hx397_0)
                   cases e397
                   replace p397 := eq_true p397
                   replace q397 := eq_true q397
                   have p52 : 0 ≤ (x10_4 : Int) := of_decide_eq_true (by first | (with_reducible assumption) | assumption)
                   have q52 : (x10_4 : Int) < ((x6_4.length : Int) : Int) := of_decide_eq_true (by first | (with_reducible assumption) | assumption)
                   obtain ⟨go52, co52, eo52, gb52, gl52, cl52, HG52⟩ := Kd.R_form HO_6.out (by omega)
                   (first | cases eo52 | (injection eo52 with ea_ en_ ec_; (first | subst ea_ | (injection ea_ with ea_; subst ea_)); subst ec_; clear en_))
                   have GB52 := Aside0.mk gb52
                   have GG52 := Aside0.mk HG52
                   clear gb52 gl52 HG52
                   (first | simp only [add_plain] at hx395_0 | skip)
                   obtain ⟨hx52_0, hf52_0⟩ := Kd.R_celln false HO_6.out (x10_4 : Int) p52 q52
                   replace p52 := eq_true p52
                   replace q52 := eq_true q52
                   have HP55 := Kd.R_putg HO_6.out (x10_4 : Int) false
                   go_wp2_with (first | ((with_reducible refine gate_store (t := 4) (p := 80) rfl ?_); refine store_event (t := 4) (p := 80) (v := ?vo_w56) (w1 := (wr.setCell ⟨go52, (x10_4 : Int).toNat, none⟩ (.bool false))) ?hg ?ho ?hn ?hr ?_; (case ho => rfl); (case hg => rfl); (case hn => rfl); (case hr => first | (go_simp; done) | (go_simp; rfl)); intro w56 hw; have hg : wr.grownBy w56 (some go52) := (by rw [hw]; exact HP55.2); have hp_ : Kd.R Kd.bool 4 w56 w.heap.size (fun k_ => some k_ ≠ (.slice (some ad397) t392.length co54 : Value).ownBlock) (.slice (some ⟨go52, 0, none⟩) x6_4.length co53) y401 := (by rw [hw, Ny401.out]; exact HP55.1); clear HP55; have n0_ := Aside0.mk (Kd.S_after (v := (.slice (some ⟨go52, 0, none⟩) x6_4.length co53)) (v1 := (.slice (some ⟨go52, 0, none⟩) x6_4.length co53)) (ok := (fun k_ => some k_ ≠ (.slice (some ad397) t392.length co54 : Value).ownBlock)) (by (with_reducible repeat (first | apply Kd.S_alloc | apply Kd.S_drewN | apply Kd.S_drew)); exact Kd.S_mono HO_3.out (fun _ hk => ⟨hk.2, hk.1⟩)) hg (.inl rfl)); have n1_ := Aside0.mk (Kd.S_over' (v := (.slice (some ⟨go52, 0, none⟩) x6_4.length co53)) (by (with_reducible repeat (first | apply Kd.S_alloc | apply Kd.S_drewN | apply Kd.S_drew)); exact HO_4.out) (Kd.R_typed HO_6.out) (by decide) hg); have n2_ := Aside0.mk (hp_); have n3_ := Aside0.mk (Kd.R_after (v := (.slice (some ⟨go52, 0, none⟩) x6_4.length co53)) (v1 := (.slice (some ⟨go52, 0, none⟩) x6_4.length co53)) (ok := (fun _ => True)) (by (with_reducible repeat (first | apply Kd.R_alloc | apply Kd.R_drewN | apply Kd.R_drew)); exact Kd.R_mono HO_9.out (fun _ hk => ⟨trivial, hk⟩)) hg (.inl rfl)); have n4_ := Aside0.mk (blk_grown (g := gb379) (o := .cells #[.int .i64 a0_0, .int .i64 a0_1, .slice A0_2 l0_2.length c0_2] 24 (0, 0)) (by (with_reducible repeat (first | refine blk_drewN ?_ _ | refine blk_drew ?_ | refine blk_alloc ?_ _)); exact BK379.out) hg (Kd.R_ne HO_6.out BK379.out (by decide))); have n5_ := Aside0.mk ((by rw [hw]; exact below_set (HB.out) GB52.out : Below w.heap.size w w56)); clear HO_3; clear HO_4; clear HO_6; clear HO_9; clear BK379; clear HB; have HO_3 := n0_; have HO_4 := n1_; have HO_6 := n2_; have HO_9 := n3_; have BK379 := n4_; have HB := n5_; clear n0_ n1_ n2_ n3_ n4_ n5_; clear hg hw hp_))
                   go_roundg k4
                   case measure => have := HK1.out; have := HK2.out; have := HJ12.out; have := HK4.out; omega
                   case rel => exact ⟨(y401), (wrap64 (x10_4 + 1)), (by first | rfl | (simp; done) | (simp [*]; done)), H', ⟨by have := HK1.out; have := HK2.out; have := HJ12.out; have := HK4.out; omega⟩, ⟨by (with_reducible repeat (first | apply Kd.S_alloc | apply Kd.S_drewN | apply Kd.S_drew)); exact Kd.S_mono HO_3.out (fun _ hk => ⟨hk.2, hk.1⟩)⟩, ⟨by (with_reducible repeat (first | apply Kd.S_alloc | apply Kd.S_drewN | apply Kd.S_drew)); exact HO_4.out⟩, ⟨by (with_reducible repeat (first | apply Kd.R_alloc | apply Kd.R_drewN | apply Kd.R_drew)); exact HO_6.out⟩, ⟨by (with_reducible repeat (first | apply Kd.R_alloc | apply Kd.R_drewN | apply Kd.R_drew)); exact Kd.R_mono HO_9.out (fun _ hk => hk.2)⟩, ⟨by (with_reducible repeat (first | refine blk_drewN ?_ _ | refine blk_drew ?_ | refine blk_alloc ?_ _)); exact BK379.out⟩, ⟨by repeat (first | (with_reducible first | exact HB.out | apply below_alloc | apply pw_below_drewN | apply below_drew1 | refine below_set ?_ GE379.out) | exact HB.out)⟩⟩
                 ·rw [if_neg c40] at H
                  exact absurd H (by simp)
               ·rw [if_neg c33] at H
                exact absurd H (by simp)
              ·rw [if_neg c32] at H
               have c32b0 : decide (x10_4 < (x6_4.length : Int)) = false := decide_eq_false c32
               clear c32
               have H' := Aside0.mk H
               clear H
               obtain ⟨Ao57, co57, eo57⟩ := Kd.R_slice HO_6.out
               subst eo57
               go_wp2
               go_roundg k4
               case measure => have := HK1.out; have := HK2.out; have := HJ12.out; have := HK4.out; omega
               case rel => exact ⟨(x6_4), (true), (wrap64 (x8_2 + 1)), (by first | rfl | (simp; done) | (simp [*]; done)), (by first | rfl | (simp; done) | (simp [*]; done)), H', ⟨by have := HK1.out; have := HK2.out; have := HJ12.out; have := HK4.out; omega⟩, ⟨by (with_reducible repeat (first | apply Kd.S_alloc | apply Kd.S_drewN | apply Kd.S_drew)); exact Kd.S_mono HO_3.out (fun _ hk => hk.1)⟩, ⟨by (with_reducible repeat (first | apply Kd.S_alloc | apply Kd.S_drewN | apply Kd.S_drew)); exact HO_4.out⟩, ⟨by (with_reducible repeat (first | apply Kd.R_alloc | apply Kd.R_drewN | apply Kd.R_drew)); exact Kd.R_mono HO_6.out (fun _ hk => trivial)⟩, ⟨by (with_reducible repeat (first | refine blk_drewN ?_ _ | refine blk_drew ?_ | refine blk_alloc ?_ _)); exact BK379.out⟩, ⟨by repeat (first | (with_reducible first | exact HB.out | apply below_alloc | apply pw_below_drewN | apply below_drew1 | refine below_set ?_ GE379.out) | exact HB.out)⟩⟩
        ·rw [if_neg c12] at H
         have c12b0 : decide (x8_2 < (l0_2.length : Int)) = false := decide_eq_false c12
         clear c12
         by_cases c58 : x7_2 = true
         ·subst c58
          have H1 : (if 0 ≤ x5_1 then (if x5_1 < (x6_2.length : Int) then (davitref09_All.l3 k2 t380 x4_1 x5_1 (x6_2.set (x5_1 : Int).toNat true) 0 a0_0 a0_1 l0_2 x5_1 ([] : List Int)) else (none)) else (none)) = some r := by rw [if_pos rfl] at H; exact H
          clear H
          have H := H1
          clear H1
          by_cases c59 : 0 ≤ x5_1
          ·rw [if_pos c59] at H
           have c59b0 : decide (0 ≤ x5_1) = true := decide_eq_true c59
           clear c59
           by_cases c60 : x5_1 < (x6_2.length : Int)
           ·rw [if_pos c60] at H
            have c60b0 : decide (x5_1 < (x6_2.length : Int)) = true := decide_eq_true c60
            clear c60
            obtain ⟨y402, hy402⟩ : ∃ y_ : List Bool, y_ = (x6_2.set (x5_1 : Int).toNat true) := ⟨_, rfl⟩
            replace H : (davitref09_All.l3 k2 t380 x4_1 x5_1 y402 0 a0_0 a0_1 l0_2 x5_1 ([] : List Int)) = some r := by first | (rw [hy402]; with_reducible exact H) | (have H2_ := (Option.bind_some _ _).symm.trans H; rw [hy402]; with_reducible exact H2_) | (have H2_ := (Option.bind_some _ _).symm.trans H; with_reducible exact H2_) | with_reducible exact H | (rw [hy402]; exact H) | exact H
            have Ny402 := Aside0.mk hy402
            clear hy402
            have H' := Aside0.mk H
            clear H
            have hcz62_0 : wr.cell? ⟨gb379, 0, none⟩ = some (.int .i64 a0_0) := (blk_cell BK379.out 0).trans rfl
            have hcz62_1 : wr.cell? ⟨gb379, 1, none⟩ = some (.int .i64 a0_1) := (blk_cell BK379.out 1).trans rfl
            have hcz62_2 : wr.cell? ⟨gb379, 2, none⟩ = some (.slice A0_2 l0_2.length c0_2) := (blk_cell BK379.out 2).trans rfl
            have hfz62_0 := blk_frozen BK379.out 0
            have hfz62_1 := blk_frozen BK379.out 1
            have hfz62_2 := blk_frozen BK379.out 2
            have p61 : 0 ≤ (x5_1 : Int) := of_decide_eq_true (by first | (with_reducible assumption) | assumption)
            have q61 : (x5_1 : Int) < ((x6_2.length : Int) : Int) := of_decide_eq_true (by first | (with_reducible assumption) | assumption)
            obtain ⟨go61, co61, eo61, gb61, gl61, cl61, HG61⟩ := Kd.R_form HO_6.out (by omega)
            (first | cases eo61 | (injection eo61 with ea_ en_ ec_; (first | subst ea_ | (injection ea_ with ea_; subst ea_)); subst ec_; clear en_))
            have GB61 := Aside0.mk gb61
            have GG61 := Aside0.mk HG61
            clear gb61 gl61 HG61
            obtain ⟨hx61_0, hf61_0⟩ := Kd.R_celln false HO_6.out (x5_1 : Int) p61 q61
            replace p61 := eq_true p61
            replace q61 := eq_true q61
            have HP63 := Kd.R_putg HO_6.out (x5_1 : Int) true
            go_wp2_with (first | ((with_reducible refine gate_store (t := 4) (p := 85) rfl ?_); refine store_event (t := 4) (p := 85) (v := ?vo_w64) (w1 := (wr.setCell ⟨go61, (x5_1 : Int).toNat, none⟩ (.bool true))) ?hg ?ho ?hn ?hr ?_; (case ho => rfl); (case hg => rfl); (case hn => rfl); (case hr => first | (go_simp; done) | (go_simp; rfl)); intro w64 hw; have hg : wr.grownBy w64 (some go61) := (by rw [hw]; exact HP63.2); have hp_ : Kd.R Kd.bool 4 w64 w.heap.size (fun _ => True) (.slice (some ⟨go61, 0, none⟩) x6_2.length co61) y402 := (by rw [hw, Ny402.out]; exact HP63.1); clear HP63; have n0_ := Aside0.mk (Kd.S_after (v := (.slice (some ⟨go61, 0, none⟩) x6_2.length co61)) (v1 := (.slice (some ⟨go61, 0, none⟩) x6_2.length co61)) (ok := (fun _ => True)) (by (with_reducible repeat (first | apply Kd.S_alloc | apply Kd.S_drewN | apply Kd.S_drew)); exact Kd.S_mono HO_3.out (fun _ hk => ⟨trivial, hk⟩)) hg (.inl rfl)); have n1_ := Aside0.mk (Kd.S_over' (v := (.slice (some ⟨go61, 0, none⟩) x6_2.length co61)) (by (with_reducible repeat (first | apply Kd.S_alloc | apply Kd.S_drewN | apply Kd.S_drew)); exact HO_4.out) (Kd.R_typed HO_6.out) (by decide) hg); have n2_ := Aside0.mk (hp_); have n3_ := Aside0.mk (blk_grown (g := gb379) (o := .cells #[.int .i64 a0_0, .int .i64 a0_1, .slice A0_2 l0_2.length c0_2] 24 (0, 0)) (by (with_reducible repeat (first | refine blk_drewN ?_ _ | refine blk_drew ?_ | refine blk_alloc ?_ _)); exact BK379.out) hg (Kd.R_ne HO_6.out BK379.out (by decide))); have n4_ := Aside0.mk ((by rw [hw]; exact below_set (HB.out) GB61.out : Below w.heap.size w w64)); clear HO_3; clear HO_4; clear HO_6; clear BK379; clear HB; have HO_3 := n0_; have HO_4 := n1_; have HO_6 := n2_; have BK379 := n3_; have HB := n4_; clear n0_ n1_ n2_ n3_ n4_; clear hg hw hp_) | ((with_reducible refine gate_dst (N := 11) rfl ?_); refine box_event ?hg (N := 11) ?hd (cs := #[.int .i64 0, .slice none 0 0]) (t := 40) ?hr ?_; (case hd => rfl); (case hg => rfl); (case hr => first | (go_simp; done) | (go_simp; rfl)); intro gb403 hg w65 hbox hb; have n0_ := Aside0.mk (Kd.S_below (by (with_reducible repeat (first | apply Kd.S_alloc | apply Kd.S_drewN | apply Kd.S_drew)); exact HO_3.out) hb); have n1_ := Aside0.mk (Kd.S_below (Kd.S_elderB (by (with_reducible repeat (first | apply Kd.S_alloc | apply Kd.S_drewN | apply Kd.S_drew)); exact HO_4.out) gb403 (Nat.le_of_eq hg.symm)) hb); have n2_ := Aside0.mk (Kd.R_below (by (with_reducible repeat (first | apply Kd.R_alloc | apply Kd.R_drewN | apply Kd.R_drew)); exact HO_6.out) hb); have n3_ := Aside0.mk (blk_below (g := gb379) (o := .cells #[.int .i64 a0_0, .int .i64 a0_1, .slice A0_2 l0_2.length c0_2] 24 (0, 0)) (by (with_reducible repeat (first | refine blk_drewN ?_ _ | refine blk_drew ?_ | refine blk_alloc ?_ _)); exact BK379.out) hb); have n4_ := Aside0.mk (below_step (by repeat (first | (with_reducible first | exact HB.out | apply below_alloc | apply pw_below_drewN | apply below_drew1 | refine below_set ?_ GE379.out) | exact HB.out)) hb); have n5_ := Aside0.mk (hbox); have n6_ := Aside0.mk ((by rw [hg]; exact (below_size (by repeat (first | (with_reducible first | exact HB.out | apply below_alloc | apply pw_below_drewN | apply below_drew1 | refine below_set ?_ GE379.out) | exact HB.out))) : w.heap.size ≤ gb403)); have n7_ := Aside0.mk ((by rw [hg]; exact (below_size (by repeat (first | (with_reducible first | exact HB.out | apply below_alloc | apply pw_below_drewN | apply below_drew1 | refine below_set ?_ GE379.out) | exact HB.out))) : w.heap.size ≤ gb403)); have n8_ := Aside0.mk ((by rw [hg]; exact Nat.ne_of_lt (blk_lt (g := gb379) (o := .cells #[.int .i64 a0_0, .int .i64 a0_1, .slice A0_2 l0_2.length c0_2] 24 (0, 0)) (by (with_reducible repeat (first | refine blk_drewN ?_ _ | refine blk_drew ?_ | refine blk_alloc ?_ _)); exact BK379.out)) : gb379 ≠ gb403)); have n9_ := Aside0.mk ((by rw [hg]; exact Nat.ne_of_gt (blk_lt (g := gb379) (o := .cells #[.int .i64 a0_0, .int .i64 a0_1, .slice A0_2 l0_2.length c0_2] 24 (0, 0)) (by (with_reducible repeat (first | refine blk_drewN ?_ _ | refine blk_drew ?_ | refine blk_alloc ?_ _)); exact BK379.out)) : gb403 ≠ gb379)); clear HO_3; clear HO_4; clear HO_6; clear BK379; clear HB; have HO_3 := n0_; have HO_4 := n1_; have HO_6 := n2_; have BK379 := n3_; have HB := n4_; have BK403 := n5_; have GW403 := n6_; have GE403 := n7_; have NB379_403 := n8_; have NB403_379 := n9_; clear n0_ n1_ n2_ n3_ n4_ n5_ n6_ n7_ n8_ n9_; clear hb hbox hg; have hnb66 := NB403_379.out; have hnc66 := NB379_403.out; have hcz67_0 : w65.cell? ⟨gb403, 0, none⟩ = some (.int .i64 0) := (blk_cell BK403.out 0).trans rfl; have hcz67_1 : w65.cell? ⟨gb403, 1, none⟩ = some (.slice none 0 0) := (blk_cell BK403.out 1).trans rfl; have hfz67_0 := blk_frozen BK403.out 0; have hfz67_1 := blk_frozen BK403.out 1))
            go_loopg [12] k2 (fun kq v12 w' => ∃ (x12_3 : Int) (x404001_3 : List Int) (u404001 : Value), v12 = .int .i64 x12_3 ∧ Aside0 (davitref09_All.l3 kq t380 x4_1 x5_1 y402 x12_3 a0_0 a0_1 l0_2 x5_1 x404001_3 = some r) ∧ Aside0 (kq ≤ k2) ∧ Aside0 (Kd.S (Kd.slice 4 Kd.bool) 32 w' w.heap.size (fun k_ => some k_ ≠ ((.slice (some ⟨go61, 0, none⟩) x6_2.length co61) : Value).ownBlock) v381 t380) ∧ Aside0 (Kd.S k40 40 w' w.heap.size (fun k_ => some k_ ≠ (u404001 : Value).ownBlock ∧ k_ ≠ gb403) u4 x4_1) ∧ Aside0 (Kd.R Kd.bool 4 w' w.heap.size (fun _ => True) (.slice (some ⟨go61, 0, none⟩) x6_2.length co61) y402) ∧ Aside0 (Kd.R (Kd.int .i64) 3 w' w.heap.size (fun _ => True) u404001 x404001_3) ∧ Aside0 (w'.heap[gb379]? = some (.cells #[.int .i64 a0_0, .int .i64 a0_1, (.slice A0_2 l0_2.length c0_2)] 24 (0, 0))) ∧ Aside0 (w'.heap[gb403]? = some (.cells #[.int .i64 x5_1, u404001] 40 (0, 0))) ∧ Aside0 (Below w.heap.size w w'))
            case atStart => exact ⟨(0), (([] : List Int)), (.slice none 0 0), (by first | rfl | (simp; done) | (simp [*]; done)), H', ⟨Nat.le_refl _⟩, ⟨by (with_reducible repeat (first | apply Kd.S_alloc | apply Kd.S_drewN | apply Kd.S_drew)); exact Kd.S_mono (Kd.S_far (p := ⟨gb403, 1, none⟩) (Kd.S_far (p := ⟨gb403, 0, none⟩) (Kd.S_types HO_3.out BK403.out (by decide)) (fun _ hk => hk.2) (.int .i64 x5_1)) (fun _ hk => hk.2) (.slice none 0 0)) (fun _ hk => hk.1.2)⟩, ⟨by (with_reducible repeat (first | apply Kd.S_alloc | apply Kd.S_drewN | apply Kd.S_drew)); exact Kd.S_mono (Kd.S_far (p := ⟨gb403, 1, none⟩) (Kd.S_far (p := ⟨gb403, 0, none⟩) (Kd.S_mono HO_4.out (fun k_ hk => (⟨hk, hk.2⟩ : _ ∧ k_ ≠ gb403))) (fun _ hk => hk.2) (.int .i64 x5_1)) (fun _ hk => hk.2) (.slice none 0 0)) (fun _ hk => ⟨(by simp [Value.ownBlock]), hk.1.2⟩)⟩, ⟨by (with_reducible repeat (first | apply Kd.R_alloc | apply Kd.R_drewN | apply Kd.R_drew)); exact Kd.R_mono (Kd.R_far (p := ⟨gb403, 1, none⟩) (Kd.R_far (p := ⟨gb403, 0, none⟩) (Kd.R_types HO_6.out BK403.out (by decide)) (fun _ hk => hk.2) (.int .i64 x5_1)) (fun _ hk => hk.2) (.slice none 0 0)) (fun _ hk => trivial)⟩, ⟨by first | exact Kd.R_nil _ _ _ _ _ | exact Kd.N_nil _ _ _ _ _ | exact Kd.V_nil _ _ _ _ _ | exact Kd.Q_nil _ _ _ _ _ | exact Kd.S_nil _ _ _ _ _⟩, ⟨by (with_reducible repeat (first | refine blk_drewN ?_ _ | refine blk_drew ?_ | refine blk_alloc ?_ _)); refine blk_far ?_ NB379_403.out _; (with_reducible repeat (first | refine blk_drewN ?_ _ | refine blk_drew ?_ | refine blk_alloc ?_ _)); refine blk_far ?_ NB379_403.out _; (with_reducible repeat (first | refine blk_drewN ?_ _ | refine blk_drew ?_ | refine blk_alloc ?_ _)); exact BK379.out⟩, ⟨by (with_reducible repeat (first | refine blk_drewN ?_ _ | refine blk_drew ?_ | refine blk_alloc ?_ _)); refine blk_put (cs := #[.int .i64 x5_1, .slice none 0 0]) ?_ 1 _ rfl; (with_reducible repeat (first | refine blk_drewN ?_ _ | refine blk_drew ?_ | refine blk_alloc ?_ _)); refine blk_put (cs := #[.int .i64 0, .slice none 0 0]) ?_ 0 _ rfl; (with_reducible repeat (first | refine blk_drewN ?_ _ | refine blk_drew ?_ | refine blk_alloc ?_ _)); exact BK403.out⟩, ⟨by repeat (first | (with_reducible first | exact HB.out | apply below_alloc | apply pw_below_drewN | apply below_drew1 | refine below_set ?_ GE379.out | refine below_set ?_ GE403.out) | exact HB.out)⟩⟩
            case round =>
             clear H'
             try clear c1
             try clear q1
             try clear c2
             try clear p2
             try clear c3
             try clear p3
             try clear q3
             try clear hx3
             try clear hf3
             try clear c4
             try clear p4
             try clear q4
             try clear hx4
             try clear hf4
             try clear c5
             try clear p5
             try clear q5
             try clear hx5
             try clear hf5
             try clear c6
             try clear c6b0
             try clear p6
             try clear q6
             try clear hx6
             try clear hf6
             try clear c7
             try clear c7b0
             try clear c7b1
             try clear c8
             try clear c8b0
             try clear c8b1
             try clear c12
             try clear c12b0
             try clear c15
             try clear c15b0
             try clear c16
             try clear c16b0
             try clear c17
             try clear c17b0
             try clear c18
             try clear c18b0
             try clear q19
             try clear c20
             try clear c24
             try clear c28
             try clear c32
             try clear c32b0
             try clear c33
             try clear c33b0
             try clear q34
             try clear c35
             try clear p36
             try clear q36
             try clear hx36
             try clear hf36
             try clear c38
             try clear p38
             try clear q38
             try clear hx38
             try clear c39
             try clear p39
             try clear q39
             try clear hx39
             try clear c40
             try clear c40b0
             try clear q41
             try clear c42
             try clear c43
             try clear c43b0
             try clear c44
             try clear c44b0
             try clear c45
             try clear c45b0
             try clear p46
             try clear q46
             try clear hx46
             try clear hf46
             try clear p52
             try clear q52
             try clear hx52
             try clear hf52
             try clear c58
             try clear c59
             try clear c59b0
             try clear c60
             try clear c60b0
             try clear p61
             try clear q61
             try clear hx61
             try clear hf61
             try clear p64
             try clear c66
             try clear hcz14_0
             try clear hcz14_1
             try clear hcz14_2
             try clear hcz24_0
             try clear hcz24_1
             try clear hcz24_2
             try clear hcz30_0
             try clear hcz30_1
             try clear hcz30_2
             try clear hcz4_0
             try clear hcz4_1
             try clear hcz4_2
             try clear hcz62_0
             try clear hcz62_1
             try clear hcz62_2
             try clear hcz67_0
             try clear hcz67_1
             try clear hcz9_0
             try clear hcz9_1
             try clear hcz9_2
             try clear hfz14_0
             try clear hfz14_1
             try clear hfz14_2
             try clear hfz24_0
             try clear hfz24_1
             try clear hfz24_2
             try clear hfz30_0
             try clear hfz30_1
             try clear hfz30_2
             try clear hfz4_0
             try clear hfz4_1
             try clear hfz4_2
             try clear hfz62_0
             try clear hfz62_1
             try clear hfz62_2
             try clear hfz67_0
             try clear hfz67_1
             try clear hfz9_0
             try clear hfz9_1
             try clear hfz9_2
             try clear hx36_0
             try clear hx386_0
             try clear hx387_0
             try clear hx395_0
             try clear hx397_0
             try clear hx398_0
             try clear hx399_0
             try clear hx46_0
             try clear hx52_0
             try clear hx61_0
             try clear p2
             try clear p3
             try clear p36
             try clear p386
             try clear p387
             try clear p395
             try clear p397
             try clear p398
             try clear p399
             try clear p46
             try clear p52
             try clear p6
             try clear p61
             try clear q1
             try clear q19
             try clear q3
             try clear q36
             try clear q386
             try clear q387
             try clear q395
             try clear q397
             try clear q398
             try clear q399
             try clear q46
             try clear q52
             try clear q61
             obtain ⟨x12_3, x404001_3, u404001, rfl, HA, HK3, HO_3, HO_4, HO_6, HO_404001, BK379, BK403, HB⟩ := hrel
             have hl6_3 := (Kd.R_reads' HO_6.out).1
             rw [hl6_3] at HO_6
             (try simp only [hl6_3])
             (try simp only [hl6_3] at BK379)
             (try simp only [hl6_3] at BK403)
             (try simp only [hl6_3] at HO_3)
             (try simp only [hl6_3] at HO_4)
             (try simp only [hl6_3] at HO_404001)
             cases gk with
             | zero => exact absurd HA.out (by simp [davitref09_All.l3])
             | succ k3 =>
              have H := HA.out
              clear HA
              simp only [davitref09_All.l3] at H
              by_cases c68 : x12_3 < (y402.length : Int)
              ·rw [if_pos c68] at H
               have c68b0 : decide (x12_3 < (y402.length : Int)) = true := decide_eq_true c68
               clear c68
               by_cases c69 : 0 ≤ x12_3
               ·rw [if_pos c69] at H
                have c69b0 : decide (0 ≤ x12_3) = true := decide_eq_true c69
                clear c69
                obtain ⟨bq70, hbq70⟩ : ∃ b_ : Bool, b_ = (rdOf false y402 x12_3) := ⟨_, rfl⟩
                replace H : (if bq70 = true then (if x404001_3.length < 17592186044416 then (davitref09_All.l3 k3 t380 x4_1 x5_1 y402 (wrap64 (x12_3 + 1)) a0_0 a0_1 l0_2 x5_1 (x404001_3 ++ [x12_3])) else (none)) else (davitref09_All.l3 k3 t380 x4_1 x5_1 y402 (wrap64 (x12_3 + 1)) a0_0 a0_1 l0_2 x5_1 x404001_3)) = some r := by rw [← hbq70] at H; exact H
                have Nbq70 := Aside0.mk hbq70
                clear hbq70
                by_cases c71 : bq70 = true
                ·subst c71
                 have H1 : (if x404001_3.length < 17592186044416 then (davitref09_All.l3 k3 t380 x4_1 x5_1 y402 (wrap64 (x12_3 + 1)) a0_0 a0_1 l0_2 x5_1 (x404001_3 ++ [x12_3])) else (none)) = some r := by rw [if_pos rfl] at H; exact H
                 clear H
                 have H := H1
                 clear H1
                 by_cases c72 : x404001_3.length < 17592186044416
                 ·rw [if_pos c72] at H
                  have LMc72 := Aside0.mk c72
                  clear c72
                  obtain ⟨y405, hy405⟩ : ∃ y_ : List Int, y_ = (x404001_3 ++ [x12_3]) := ⟨_, rfl⟩
                  replace H : (davitref09_All.l3 k3 t380 x4_1 x5_1 y402 (wrap64 (x12_3 + 1)) a0_0 a0_1 l0_2 x5_1 y405) = some r := by first | (rw [hy405]; with_reducible exact H) | (have H2_ := (Option.bind_some _ _).symm.trans H; rw [hy405]; with_reducible exact H2_) | (have H2_ := (Option.bind_some _ _).symm.trans H; with_reducible exact H2_) | with_reducible exact H | (rw [hy405]; exact H) | exact H
                  have Ny405 := Aside0.mk hy405
                  clear hy405
                  have H' := Aside0.mk H
                  clear H
                  have p404 : 0 ≤ (x12_3 : Int) := of_decide_eq_true (by first | (with_reducible assumption) | assumption)
                  have q404 : x12_3 < (y402.length : Int) := of_decide_eq_true (by first | (with_reducible assumption) | assumption)
                  obtain ⟨ad404, e404, hx404_0⟩ := Kd.at_bool (Kd.R_reads' HO_6.out).2.2 x12_3 p404 q404
                  (try rw [← Nbq70.out] at hx404_0)
                  obtain rfl : (⟨go61, 0, none⟩ : Addr) = ad404 := (by injection e404)
                  (first | simp only [add_plain] at hx404_0 | simp only [add_at] at hx404_0 | simp only [Addr.add, Nat.zero_add] at hx404_0 | skip)
                  replace p404 := eq_true p404
                  replace q404 := eq_true q404
                  have hnb73 := NB403_379.out
                  have hnc73 := NB379_403.out
                  have hcz74_0 : wr.cell? ⟨gb403, 0, none⟩ = some (.int .i64 x5_1) := (blk_cell BK403.out 0).trans rfl
                  have hcz74_1 : wr.cell? ⟨gb403, 1, none⟩ = some (u404001) := (blk_cell BK403.out 1).trans rfl
                  have hfz74_0 := blk_frozen BK403.out 0
                  have hfz74_1 := blk_frozen BK403.out 1
                  go_wp2_with (first | ((with_reducible refine gate_builtin (b := .append) (xs := #[.tmp 99, .tmp 101]) rfl ?_); at_builtin; refine Kd.R_append (Kd.int .i64) (w0 := w) w.heap.size rfl (.tmp 99) (.tmp 101) 27 3 (.int .i64 0) 8 rfl Try.underlying27 info3 rfl (by decide) (by omega) u404001 x404001_3 x12_3 [.int .i64 x12_3] (fun _ => True) (fun _ => False) rfl rfl ?aP (fun _ hk => hk.elim) ?aF ?aO ?aB ?aS ?aL ?_; (case aP => exact rfl); (case aB => exact (by repeat (first | (with_reducible first | exact HB.out | apply below_alloc | apply pw_below_drewN | apply below_drew1 | refine below_set ?_ GE379.out | refine below_set ?_ GE403.out) | exact HB.out))); (case aF => exact (fun _ _ => trivial)); (case aO => exact (by (with_reducible repeat (first | apply Kd.R_alloc | apply Kd.R_drewN | apply Kd.R_drew)); exact HO_404001.out)); (case aS => exact (below_size (by repeat (first | (with_reducible first | exact HB.out | apply below_alloc | apply pw_below_drewN | apply below_drew1 | refine below_set ?_ GE379.out | refine below_set ?_ GE403.out) | exact HB.out)))); (case aL => have := LMc72.out; omega); intro v406 w75 ho hb hg hat; rw [← Ny405.out] at ho; have n0_ := Aside0.mk (Kd.S_over' (by (with_reducible repeat (first | apply Kd.S_alloc | apply Kd.S_drewN | apply Kd.S_drew)); exact HO_3.out) (Kd.R_typed (by (with_reducible repeat (first | apply Kd.R_alloc | apply Kd.R_drewN | apply Kd.R_drew)); exact HO_404001.out)) (by decide) hg); have n1_ := Aside0.mk (Kd.S_after (ok := (fun k_ => k_ ≠ gb403)) (by (with_reducible repeat (first | apply Kd.S_alloc | apply Kd.S_drewN | apply Kd.S_drew)); exact Kd.S_mono HO_4.out (fun _ hk => ⟨hk.2, hk.1⟩)) hg hat); have n2_ := Aside0.mk (Kd.R_over' (by (with_reducible repeat (first | apply Kd.R_alloc | apply Kd.R_drewN | apply Kd.R_drew)); exact HO_6.out) (Kd.R_typed (by (with_reducible repeat (first | apply Kd.R_alloc | apply Kd.R_drewN | apply Kd.R_drew)); exact HO_404001.out)) (by decide) hg); have n3_ := Aside0.mk (blk_grown (g := gb379) (o := .cells #[.int .i64 a0_0, .int .i64 a0_1, .slice A0_2 l0_2.length c0_2] 24 (0, 0)) (by (with_reducible repeat (first | refine blk_drewN ?_ _ | refine blk_drew ?_ | refine blk_alloc ?_ _)); exact BK379.out) hg (Kd.R_ne HO_404001.out BK379.out (by decide))); have n4_ := Aside0.mk (blk_grown (g := gb403) (o := .cells #[.int .i64 x5_1, u404001] 40 (0, 0)) (by (with_reducible repeat (first | refine blk_drewN ?_ _ | refine blk_drew ?_ | refine blk_alloc ?_ _)); exact BK403.out) hg (Kd.R_ne HO_404001.out BK403.out (by decide))); have n5_ := Aside0.mk (hb); have n6_ := Aside0.mk (ho); clear HO_3; clear HO_4; clear HO_6; clear BK379; clear BK403; clear HB; clear HO_404001; have HO_3 := n0_; have HO_4 := n1_; have HO_6 := n2_; have BK379 := n3_; have BK403 := n4_; have HB := n5_; have HO407 := n6_; clear n0_ n1_ n2_ n3_ n4_ n5_ n6_; clear ho hb hg hat; obtain ⟨Ao76, co76, eo76⟩ := Kd.R_slice HO407.out; subst eo76; have hcz77_0 : w75.cell? ⟨gb403, 0, none⟩ = some (.int .i64 x5_1) := (blk_cell BK403.out 0).trans rfl; have hcz77_1 : w75.cell? ⟨gb403, 1, none⟩ = some (u404001) := (blk_cell BK403.out 1).trans rfl; have hfz77_0 := blk_frozen BK403.out 0; have hfz77_1 := blk_frozen BK403.out 1))
                  (try simp only [← hl6_3])
                  go_roundg k3
                  case measure => have := HK1.out; have := HK2.out; have := HK3.out; omega
                  case rel => exact ⟨(wrap64 (x12_3 + 1)), (y405), (.slice Ao76 y405.length co76), (by first | rfl | (simp; done) | (simp [*]; done)), H', ⟨by have := HK1.out; have := HK2.out; have := HK3.out; omega⟩, ⟨by (try simp only [hl6_3]); (with_reducible repeat (first | apply Kd.S_alloc | apply Kd.S_drewN | apply Kd.S_drew)); exact Kd.S_mono (Kd.S_far (p := ⟨gb403, 1, none⟩) (Kd.S_types HO_3.out BK403.out (by decide)) (fun _ hk => hk.2) (.slice Ao76 y405.length co76)) (fun _ hk => hk.1)⟩, ⟨by (try simp only [hl6_3]); (with_reducible repeat (first | apply Kd.S_alloc | apply Kd.S_drewN | apply Kd.S_drew)); exact Kd.S_mono (Kd.S_far (p := ⟨gb403, 1, none⟩) (Kd.S_mono HO_4.out (fun k_ hk => (⟨hk, hk.1⟩ : _ ∧ k_ ≠ gb403))) (fun _ hk => hk.2) (.slice Ao76 y405.length co76)) (fun _ hk => ⟨hk.1.2, hk.1.1⟩)⟩, ⟨by (try simp only [hl6_3]); (with_reducible repeat (first | apply Kd.R_alloc | apply Kd.R_drewN | apply Kd.R_drew)); exact Kd.R_mono (Kd.R_far (p := ⟨gb403, 1, none⟩) (Kd.R_types HO_6.out BK403.out (by decide)) (fun _ hk => hk.2) (.slice Ao76 y405.length co76)) (fun _ hk => trivial)⟩, ⟨by (try simp only [hl6_3]); (with_reducible repeat (first | apply Kd.R_alloc | apply Kd.R_drewN | apply Kd.R_drew)); exact Kd.R_mono (Kd.R_far (p := ⟨gb403, 1, none⟩) (Kd.R_types HO407.out BK403.out (by decide)) (fun _ hk => hk.2) (.slice Ao76 y405.length co76)) (fun _ hk => trivial)⟩, ⟨by (try simp only [hl6_3]); (with_reducible repeat (first | refine blk_drewN ?_ _ | refine blk_drew ?_ | refine blk_alloc ?_ _)); refine blk_far ?_ NB379_403.out _; (with_reducible repeat (first | refine blk_drewN ?_ _ | refine blk_drew ?_ | refine blk_alloc ?_ _)); exact BK379.out⟩, ⟨by (try simp only [hl6_3]); (with_reducible repeat (first | refine blk_drewN ?_ _ | refine blk_drew ?_ | refine blk_alloc ?_ _)); refine blk_put (cs := #[.int .i64 x5_1, u404001]) ?_ 1 _ rfl; (with_reducible repeat (first | refine blk_drewN ?_ _ | refine blk_drew ?_ | refine blk_alloc ?_ _)); exact BK403.out⟩, ⟨by repeat (first | (with_reducible first | exact HB.out | apply below_alloc | apply pw_below_drewN | apply below_drew1 | refine below_set ?_ GE379.out | refine below_set ?_ GE403.out) | exact HB.out)⟩⟩
                 ·rw [if_neg c72] at H
                  exact absurd H (by simp)
                ·replace c71 := Bool.eq_false_iff.mpr c71
                 subst c71
                 have H1 : (davitref09_All.l3 k3 t380 x4_1 x5_1 y402 (wrap64 (x12_3 + 1)) a0_0 a0_1 l0_2 x5_1 x404001_3) = some r := by rw [if_neg (show ¬ (false = true) by decide)] at H; exact H
                 clear H
                 have H := H1
                 clear H1
                 have H' := Aside0.mk H
                 clear H
                 have p404 : 0 ≤ (x12_3 : Int) := of_decide_eq_true (by first | (with_reducible assumption) | assumption)
                 have q404 : x12_3 < (y402.length : Int) := of_decide_eq_true (by first | (with_reducible assumption) | assumption)
                 obtain ⟨ad404, e404, hx404_0⟩ := Kd.at_bool (Kd.R_reads' HO_6.out).2.2 x12_3 p404 q404
                 (try rw [← Nbq70.out] at hx404_0)
                 obtain rfl : (⟨go61, 0, none⟩ : Addr) = ad404 := (by injection e404)
                 (first | simp only [add_plain] at hx404_0 | simp only [add_at] at hx404_0 | simp only [Addr.add, Nat.zero_add] at hx404_0 | skip)
                 replace p404 := eq_true p404
                 replace q404 := eq_true q404
                 go_wp2
                 (try simp only [← hl6_3])
                 go_roundg k3
                 case measure => have := HK1.out; have := HK2.out; have := HK3.out; omega
                 case rel => exact ⟨(wrap64 (x12_3 + 1)), (x404001_3), (u404001), (by first | rfl | (simp; done) | (simp [*]; done)), H', ⟨by have := HK1.out; have := HK2.out; have := HK3.out; omega⟩, ⟨by (try simp only [hl6_3]); (with_reducible repeat (first | apply Kd.S_alloc | apply Kd.S_drewN | apply Kd.S_drew)); exact HO_3.out⟩, ⟨by (try simp only [hl6_3]); (with_reducible repeat (first | apply Kd.S_alloc | apply Kd.S_drewN | apply Kd.S_drew)); exact HO_4.out⟩, ⟨by (try simp only [hl6_3]); (with_reducible repeat (first | apply Kd.R_alloc | apply Kd.R_drewN | apply Kd.R_drew)); exact HO_6.out⟩, ⟨by (try simp only [hl6_3]); (with_reducible repeat (first | apply Kd.R_alloc | apply Kd.R_drewN | apply Kd.R_drew)); exact HO_404001.out⟩, ⟨by (try simp only [hl6_3]); (with_reducible repeat (first | refine blk_drewN ?_ _ | refine blk_drew ?_ | refine blk_alloc ?_ _)); exact BK379.out⟩, ⟨by (try simp only [hl6_3]); (with_reducible repeat (first | refine blk_drewN ?_ _ | refine blk_drew ?_ | refine blk_alloc ?_ _)); exact BK403.out⟩, ⟨by repeat (first | (with_reducible first | exact HB.out | apply below_alloc | apply pw_below_drewN | apply below_drew1 | refine below_set ?_ GE379.out | refine below_set ?_ GE403.out) | exact HB.out)⟩⟩
               ·rw [if_neg c69] at H
                exact absurd H (by simp)
              ·rw [if_neg c68] at H
               have c68b0 : decide (x12_3 < (y402.length : Int)) = false := decide_eq_false c68
               clear c68
               by_cases c78 : x4_1.length < 4398046511104
               ·rw [if_pos c78] at H
                have LMc78 := Aside0.mk c78
                clear c78
                obtain ⟨y408, hy408⟩ : ∃ y_ : List (S40), y_ = (x4_1 ++ [(⟨x5_1, x404001_3⟩ : S40)]) := ⟨_, rfl⟩
                replace H : (davitref09_All.l0 k3 t380 y408 (wrap64 (x5_1 + 1)) a0_0 a0_1 l0_2) = some r := by first | (rw [hy408]; with_reducible exact H) | (have H2_ := (Option.bind_some _ _).symm.trans H; rw [hy408]; with_reducible exact H2_) | (have H2_ := (Option.bind_some _ _).symm.trans H; with_reducible exact H2_) | with_reducible exact H | (rw [hy408]; exact H) | exact H
                have Ny408 := Aside0.mk hy408
                clear hy408
                have H' := Aside0.mk H
                clear H
                have hnb79 := NB403_379.out
                have hnc79 := NB379_403.out
                have hcz80_0 : wr.cell? ⟨gb403, 0, none⟩ = some (.int .i64 x5_1) := (blk_cell BK403.out 0).trans rfl
                have hcz80_1 : wr.cell? ⟨gb403, 1, none⟩ = some (u404001) := (blk_cell BK403.out 1).trans rfl
                have hfz80_0 := blk_frozen BK403.out 0
                have hfz80_1 := blk_frozen BK403.out 1
                obtain ⟨Ao82, co82, eo82⟩ := Kd.R_slice HO_404001.out
                subst eo82
                go_wp2_with (first | ((with_reducible refine gate_builtin (b := .append) (xs := #[.tmp 104, .tmp 106]) rfl ?_); at_builtin; refine Kd.S_append k40 (w0 := w) w.heap.size rfl (.tmp 104) (.tmp 106) 37 40 (.agg #[(.int .i64 0), (.slice none 0 0)]) 32 rfl Try.underlying37 info40 rfl (by decide) (by omega) u4 x4_1 (⟨x5_1, x404001_3⟩ : S40) [.int .i64 x5_1, .slice Ao82 x404001_3.length co82] (fun k_ => k_ ≠ gb403) (fun k_ => some k_ = (.slice Ao82 x404001_3.length co82 : Value).ownBlock) rfl rfl ?aP (fun k_ hk_ => ((Kd.R_mono (ok' := fun k_ => ((fun k_ => k_ ≠ gb403)) k_ ∧ some k_ ≠ (u4 : Value).ownBlock) (Kd.R_types (Kd.R_apart' (HO_404001.out) (Kd.S_typed HO_4.out) (by decide)) BK403.out (by decide)) (fun k_ hk => ⟨hk.2, hk.1.2⟩))).1 k_ hk_.symm) ?aF ?aO ?aB ?aS ?aL ?_; (case aP => exact k40_mkM _ _ _ (⟨x5_1, x404001_3⟩ : S40) (Kd.R_mono (Kd.R_tight rfl (Kd.R_mono (ok' := fun k_ => ((fun k_ => k_ ≠ gb403)) k_ ∧ some k_ ≠ (u4 : Value).ownBlock) (Kd.R_types (Kd.R_apart' (HO_404001.out) (Kd.S_typed HO_4.out) (by decide)) BK403.out (by decide)) (fun k_ hk => ⟨hk.2, hk.1.2⟩))) (fun _ h_ => h_))); (case aB => exact (by repeat (first | (with_reducible first | exact HB.out | apply below_alloc | apply pw_below_drewN | apply below_drew1 | refine below_set ?_ GE379.out | refine below_set ?_ GE403.out) | exact HB.out))); (case aF => exact (fun k_ hk => Kd.freshB (g := gb403) (o := .cells #[.int .i64 x5_1, .slice Ao82 x404001_3.length co82] 40 (0, 0)) (by (with_reducible repeat (first | refine blk_drewN ?_ _ | refine blk_drew ?_ | refine blk_alloc ?_ _)); exact BK403.out) k_ hk)); (case aO => exact (by (with_reducible repeat (first | apply Kd.S_alloc | apply Kd.S_drewN | apply Kd.S_drew)); exact Kd.S_mono HO_4.out (fun k_ hk => ⟨hk.2, fun e_ => hk.1 e_⟩))); (case aS => exact (below_size (by repeat (first | (with_reducible first | exact HB.out | apply below_alloc | apply pw_below_drewN | apply below_drew1 | refine below_set ?_ GE379.out | refine below_set ?_ GE403.out) | exact HB.out)))); (case aL => have := LMc78.out; omega); intro v409 w81 ho hb hg hat; rw [← Ny408.out] at ho; have n0_ := Aside0.mk (Kd.S_over' (by (with_reducible repeat (first | apply Kd.S_alloc | apply Kd.S_drewN | apply Kd.S_drew)); exact HO_3.out) (Kd.S_typed (by (with_reducible repeat (first | apply Kd.S_alloc | apply Kd.S_drewN | apply Kd.S_drew)); exact HO_4.out)) (by decide) hg); have n1_ := Aside0.mk (Kd.R_over' (by (with_reducible repeat (first | apply Kd.R_alloc | apply Kd.R_drewN | apply Kd.R_drew)); exact HO_6.out) (Kd.S_typed (by (with_reducible repeat (first | apply Kd.S_alloc | apply Kd.S_drewN | apply Kd.S_drew)); exact HO_4.out)) (by decide) hg); have n2_ := Aside0.mk (blk_grown (g := gb379) (o := .cells #[.int .i64 a0_0, .int .i64 a0_1, .slice A0_2 l0_2.length c0_2] 24 (0, 0)) (by (with_reducible repeat (first | refine blk_drewN ?_ _ | refine blk_drew ?_ | refine blk_alloc ?_ _)); exact BK379.out) hg (Kd.S_ne HO_4.out BK379.out (by decide))); have n3_ := Aside0.mk (blk_grown (g := gb403) (o := .cells #[.int .i64 x5_1, .slice Ao82 x404001_3.length co82] 40 (0, 0)) (by (with_reducible repeat (first | refine blk_drewN ?_ _ | refine blk_drew ?_ | refine blk_alloc ?_ _)); exact BK403.out) hg (Kd.S_away HO_4.out (fun _ hk => hk.2))); have n4_ := Aside0.mk (hb); have n5_ := Aside0.mk (ho); clear HO_3; clear HO_6; clear BK379; clear BK403; clear HB; clear HO_4; clear HO_404001; have HO_3 := n0_; have HO_6 := n1_; have BK379 := n2_; have BK403 := n3_; have HB := n4_; have HO410 := n5_; clear n0_ n1_ n2_ n3_ n4_ n5_; clear ho hb hg hat))
                (try simp only [← hl6_3])
                go_roundg k3
                case measure => have := HK1.out; have := HK2.out; have := HK3.out; omega
                case rel => exact ⟨(y408), (wrap64 (x5_1 + 1)), (by first | rfl | (simp; done) | (simp [*]; done)), H', ⟨by have := HK1.out; have := HK2.out; have := HK3.out; omega⟩, ⟨by (try simp only [hl6_3]); (with_reducible repeat (first | apply Kd.S_alloc | apply Kd.S_drewN | apply Kd.S_drew)); exact Kd.S_mono HO_3.out (fun _ hk => trivial)⟩, ⟨by (try simp only [hl6_3]); (with_reducible repeat (first | apply Kd.S_alloc | apply Kd.S_drewN | apply Kd.S_drew)); exact Kd.S_mono HO410.out (fun _ hk => trivial)⟩, ⟨by (try simp only [hl6_3]); (with_reducible repeat (first | refine blk_drewN ?_ _ | refine blk_drew ?_ | refine blk_alloc ?_ _)); exact BK379.out⟩, ⟨by repeat (first | (with_reducible first | exact HB.out | apply below_alloc | apply pw_below_drewN | apply below_drew1 | refine below_set ?_ GE379.out | refine below_set ?_ GE403.out) | exact HB.out)⟩⟩
               ·rw [if_neg c78] at H
                exact absurd H (by simp)
           ·rw [if_neg c60] at H
            exact absurd H (by simp)
          ·rw [if_neg c59] at H
           exact absurd H (by simp)
         ·replace c58 := Bool.eq_false_iff.mpr c58
          subst c58
          have H1 : (davitref09_All.l0 k2 t380 x4_1 (wrap64 (x5_1 + 1)) a0_0 a0_1 l0_2) = some r := by rw [if_neg (show ¬ (false = true) by decide)] at H; exact H
          clear H
          have H := H1
          clear H1
          have H' := Aside0.mk H
          clear H
          have hcz83_0 : wr.cell? ⟨gb379, 0, none⟩ = some (.int .i64 a0_0) := (blk_cell BK379.out 0).trans rfl
          have hcz83_1 : wr.cell? ⟨gb379, 1, none⟩ = some (.int .i64 a0_1) := (blk_cell BK379.out 1).trans rfl
          have hcz83_2 : wr.cell? ⟨gb379, 2, none⟩ = some (.slice A0_2 l0_2.length c0_2) := (blk_cell BK379.out 2).trans rfl
          have hfz83_0 := blk_frozen BK379.out 0
          have hfz83_1 := blk_frozen BK379.out 1
          have hfz83_2 := blk_frozen BK379.out 2
          go_wp2
          go_roundg k2
          case measure => have := HK1.out; have := HK2.out; omega
          case rel => exact ⟨(x4_1), (wrap64 (x5_1 + 1)), (by first | rfl | (simp; done) | (simp [*]; done)), H', ⟨by have := HK1.out; have := HK2.out; omega⟩, ⟨by (with_reducible repeat (first | apply Kd.S_alloc | apply Kd.S_drewN | apply Kd.S_drew)); exact Kd.S_mono HO_3.out (fun _ hk => trivial)⟩, ⟨by (with_reducible repeat (first | apply Kd.S_alloc | apply Kd.S_drewN | apply Kd.S_drew)); exact HO_4.out⟩, ⟨by (with_reducible repeat (first | refine blk_drewN ?_ _ | refine blk_drew ?_ | refine blk_alloc ?_ _)); exact BK379.out⟩, ⟨by repeat (first | (with_reducible first | exact HB.out | apply below_alloc | apply pw_below_drewN | apply below_drew1 | refine below_set ?_ GE379.out) | exact HB.out)⟩⟩
     ·rw [if_neg c8] at H
      exact absurd H (by simp)
    ·rw [if_neg c7] at H
     exact absurd H (by simp)
   ·rw [if_neg c6] at H
    have c6b0 : decide (x5_1 < (l0_2.length : Int)) = false := decide_eq_false c6
    clear c6
    obtain rfl := Option.some.inj H
    have hcz84_0 : wr.cell? ⟨gb379, 0, none⟩ = some (.int .i64 a0_0) := (blk_cell BK379.out 0).trans rfl
    have hcz84_1 : wr.cell? ⟨gb379, 1, none⟩ = some (.int .i64 a0_1) := (blk_cell BK379.out 1).trans rfl
    have hcz84_2 : wr.cell? ⟨gb379, 2, none⟩ = some (.slice A0_2 l0_2.length c0_2) := (blk_cell BK379.out 2).trans rfl
    have hfz84_0 := blk_frozen BK379.out 0
    have hfz84_1 := blk_frozen BK379.out 1
    have hfz84_2 := blk_frozen BK379.out 2
    go_wp2
    go_ret
    exact ⟨_, by first | rfl | (simp [errW_none, errW_some] <;> rfl) | (simp [*, errW_none, errW_some] <;> rfl), by (with_reducible repeat (first | apply Kd.S_alloc | apply Kd.S_drewN | apply Kd.S_drew)); exact HO_4.out, by repeat (first | (with_reducible first | exact HB.out | apply below_alloc | apply pw_below_drewN | apply below_drew1 | refine below_set ?_ GE379.out) | exact HB.out)⟩
end
end Go.Proofs.Ytilopoegoddggaa.X
namespace Go.Proofs.Ytilopoegoddggaa.X
open Go.RowKit Go.Proofs.YtilopoegoddggaaW.PrintWords Go.Proofs.YtilopoegoddggaaW.PrintLast Go.Proofs.YtilopoegoddggaaW.PrintMore
attribute [local go_sem] max2_int min2_int max_two min_two max_three min_three max_four min_four
set_option linter.all false
noncomputable section
mutual
def davitlaw09_LoopRight.l0 : Nat → Int → List (S40) → List (S40) → Int → Int → Int → Int → List (S50) → Option (Bool)
 | 0, _, _, _, _, _, _, _, _ => none
 | k + 1, x1, x5, x6, x7, x8, x412000, x412001, x412002 => if x8 < (x5.length : Int) then (if 0 ≤ x8 then (if x8 < (x6.length : Int) then (if ((rd_T40 x5 x8).f0) = ((rd_T40 x6 x8).f0) then ((davitref02_Ints.f k ((rd_T40 x5 x8).f1) ((rd_T40 x6 x8).f1)).bind fun t424 => (davitlaw09_LoopRight.j1 k x1 x5 x6 x7 x8 (!t424) x412000 x412001 x412002)) else (davitlaw09_LoopRight.j1 k x1 x5 x6 x7 x8 true x412000 x412001 x412002)) else (none)) else (none)) else ((loop_Deep.f k x412000 x412001 x412002 x1).bind fun t419 => (some (t419 == x7)))
def davitlaw09_LoopRight.j1 : Nat → Int → List (S40) → List (S40) → Int → Int → Bool → Int → Int → List (S50) → Option (Bool)
 | 0, _, _, _, _, _, _, _, _, _ => none
 | k + 1, x1, x5, x6, x7, x8, x54, x412000, x412001, x412002 => if x54 = true then (some false) else (if 0 ≤ x8 then (if x8 < (x6.length : Int) then ((davitref07_Has.f k ((rd_T40 x6 x8).f1) x1).bind fun t426 => (if t426 = true then (davitlaw09_LoopRight.l0 k x1 x5 x6 (wrap64 (x7 + 1)) (wrap64 (x8 + 1)) x412000 x412001 x412002) else (davitlaw09_LoopRight.l0 k x1 x5 x6 x7 (wrap64 (x8 + 1)) x412000 x412001 x412002))) else (none)) else (none))
end
def davitlaw09_LoopRight.f (k : Nat) (a0_0 : Int) (a0_1 : Int) (l0_2 : List (S50)) (a1 : Int) : Option (Bool) := (davitlaw09_awake.f k).bind fun t412 => (if t412 = true then (if (l0_2.length : Int) > 30 then (some true) else ((loop_All.f k a0_0 a0_1 l0_2).bind fun t413 => ((davitref09_All.f k a0_0 a0_1 l0_2).bind fun t416 => (if (t413.length : Int) = (t416.length : Int) then (davitlaw09_LoopRight.l0 k a1 t413 t416 0 0 a0_0 a0_1 l0_2) else (some false))))) else (some false))
theorem davitlaw09_LoopRight.mono_l : ∀ k, (∀ y0 y1 y2 y3 y4 y5 y6 y7, LeO (davitlaw09_LoopRight.l0 k y0 y1 y2 y3 y4 y5 y6 y7) (davitlaw09_LoopRight.l0 (k + 1) y0 y1 y2 y3 y4 y5 y6 y7)) ∧ (∀ y0 y1 y2 y3 y4 y5 y6 y7 y8, LeO (davitlaw09_LoopRight.j1 k y0 y1 y2 y3 y4 y5 y6 y7 y8) (davitlaw09_LoopRight.j1 (k + 1) y0 y1 y2 y3 y4 y5 y6 y7 y8))
 | 0 => ⟨fun _ _ _ _ _ _ _ _ r h => by simp [davitlaw09_LoopRight.l0] at h, fun _ _ _ _ _ _ _ _ _ r h => by simp [davitlaw09_LoopRight.j1] at h⟩
 | k + 1 => by
  obtain ⟨ih0, ih1⟩ := davitlaw09_LoopRight.mono_l k
  refine ⟨?_, ?_⟩
  ·intro y0 y1 y2 y3 y4 y5 y6 y7
   unfold davitlaw09_LoopRight.l0
   repeat' first
   | (with_reducible exact ih0 _ _ _ _ _ _ _ _)
   | (with_reducible exact ih1 _ _ _ _ _ _ _ _ _)
   | (with_reducible exact davitlaw09_awake.mono _)
   | (with_reducible exact davitref02_Ints.mono _ _ _)
   | (with_reducible exact davitref07_Has.mono _ _ _)
   | (with_reducible exact davitref09_All.mono _ _ _ _)
   | (with_reducible exact loop_All.mono _ _ _ _)
   | (with_reducible exact loop_Deep.mono _ _ _ _ _)
   | (with_reducible exact LeO.refl _)
   | (with_reducible exact LeO.none _)
   | (with_reducible refine LeO.ite ?_ ?_)
   | (with_reducible refine LeO.bind ?_ (fun _ => ?_))
   | exact ih0 _ _ _ _ _ _ _ _
   | exact ih1 _ _ _ _ _ _ _ _ _
   | exact davitlaw09_awake.mono _
   | exact davitref02_Ints.mono _ _ _
   | exact davitref07_Has.mono _ _ _
   | exact davitref09_All.mono _ _ _ _
   | exact loop_All.mono _ _ _ _
   | exact loop_Deep.mono _ _ _ _ _
   | exact LeO.none _
   | refine LeO.ite ?_ ?_
   | refine LeO.bind ?_ (fun _ => ?_)
  ·intro y0 y1 y2 y3 y4 y5 y6 y7 y8
   unfold davitlaw09_LoopRight.j1
   repeat' first
   | (with_reducible exact ih0 _ _ _ _ _ _ _ _)
   | (with_reducible exact ih1 _ _ _ _ _ _ _ _ _)
   | (with_reducible exact davitlaw09_awake.mono _)
   | (with_reducible exact davitref02_Ints.mono _ _ _)
   | (with_reducible exact davitref07_Has.mono _ _ _)
   | (with_reducible exact davitref09_All.mono _ _ _ _)
   | (with_reducible exact loop_All.mono _ _ _ _)
   | (with_reducible exact loop_Deep.mono _ _ _ _ _)
   | (with_reducible exact LeO.refl _)
   | (with_reducible exact LeO.none _)
   | (with_reducible refine LeO.ite ?_ ?_)
   | (with_reducible refine LeO.bind ?_ (fun _ => ?_))
   | exact ih0 _ _ _ _ _ _ _ _
   | exact ih1 _ _ _ _ _ _ _ _ _
   | exact davitlaw09_awake.mono _
   | exact davitref02_Ints.mono _ _ _
   | exact davitref07_Has.mono _ _ _
   | exact davitref09_All.mono _ _ _ _
   | exact loop_All.mono _ _ _ _
   | exact loop_Deep.mono _ _ _ _ _
   | exact LeO.none _
   | refine LeO.ite ?_ ?_
   | refine LeO.bind ?_ (fun _ => ?_)
theorem davitlaw09_LoopRight.mono : ∀ a0 a1 a2 a3 k, LeO (davitlaw09_LoopRight.f k a0 a1 a2 a3) (davitlaw09_LoopRight.f (k + 1) a0 a1 a2 a3) := by
 intro a0 a1 a2 a3 k
 obtain ⟨ih0, ih1⟩ := davitlaw09_LoopRight.mono_l k
 unfold davitlaw09_LoopRight.f
 repeat' first
   | (with_reducible exact ih0 _ _ _ _ _ _ _ _)
   | (with_reducible exact ih1 _ _ _ _ _ _ _ _ _)
   | (with_reducible exact davitlaw09_awake.mono _)
   | (with_reducible exact davitref02_Ints.mono _ _ _)
   | (with_reducible exact davitref07_Has.mono _ _ _)
   | (with_reducible exact davitref09_All.mono _ _ _ _)
   | (with_reducible exact loop_All.mono _ _ _ _)
   | (with_reducible exact loop_Deep.mono _ _ _ _ _)
   | (with_reducible exact LeO.refl _)
   | (with_reducible exact LeO.none _)
   | (with_reducible refine LeO.ite ?_ ?_)
   | (with_reducible refine LeO.bind ?_ (fun _ => ?_))
   | exact ih0 _ _ _ _ _ _ _ _
   | exact ih1 _ _ _ _ _ _ _ _ _
   | exact davitlaw09_awake.mono _
   | exact davitref02_Ints.mono _ _ _
   | exact davitref07_Has.mono _ _ _
   | exact davitref09_All.mono _ _ _ _
   | exact loop_All.mono _ _ _ _
   | exact loop_Deep.mono _ _ _ _ _
   | exact LeO.none _
   | refine LeO.ite ?_ ?_
   | refine LeO.bind ?_ (fun _ => ?_)
def davitlaw09_LoopRight.T12 : Bool × List (List Nat × List Nat) := (true, [([], []), ([], []), ([0, 1], [0, 1]), ([2], [2]), ([3], [3]), ([], []), ([], []), ([5, 6], [5, 6]), ([7], [7]), ([8], [8]), ([4, 9], [4, 9]), ([10], [10]), ([11], [11]), ([11], [11]), ([12, 13, 11], [11, 12, 13]), ([14, 11], [11, 14]), ([15, 11], [11, 15]), ([11], [11]), ([11], [11]), ([17, 18, 11], [11, 17, 18]), ([19, 11], [11, 19]), ([20, 11], [11, 20]), ([16, 21, 11, 11], [11, 16, 21]), ([22, 11], [11, 22]), ([11, 23], [11, 23])])
def davitlaw09_LoopRight.B12 : List Nat := [0, 0, 3, 7, 15, 0, 0, 96, 224, 480, 1023, 2047, 4095, 4095, 16383, 32767, 65535, 4095, 4095, 397311, 921599, 1970175, 4194303, 8388607, 16777215]
theorem davitlaw09_LoopRight.tab12 : rtab .any (opsOf Try.f7 12) = davitlaw09_LoopRight.T12 := by kernel_rfl
theorem davitlaw09_LoopRight.bits12 : waitsOk davitlaw09_LoopRight.T12.2 davitlaw09_LoopRight.B12 = true := by kernel_rfl
set_option maxHeartbeats 8000000 in
set_option maxRecDepth 100000 in
theorem davitlaw09_LoopRight.calls (k : Nat) (a0_0 : Int) (a0_1 : Int) (A0_2 : Option Addr) (c0_2 : Nat) (l0_2 : List (S50)) (a1 : Int) (r : Bool) (w : World) (hr0_2 : Kd.C k50 w A0_2 l0_2.length l0_2) (hc0_2 : l0_2.length ≤ c0_2) (h : davitlaw09_LoopRight.f k a0_0 a0_1 l0_2 a1 = some r) :
  Calls Try.prog 7 #[.agg #[.int .i64 a0_0, .int .i64 a0_1, .slice A0_2 l0_2.length c0_2], .int .i64 a1] w fun e w' => e = .returned (.bool r) ∧ Below w.heap.size w w' := by
 have hu24 := Try.underlying24
 have HR0_2 := Aside0.mk hr0_2
 have HC0_2 := Aside0.mk hc0_2
 clear hr0_2 hc0_2
 have HB := Aside0.mk (Below.refl w.heap.size w)
 have H : ((davitlaw09_awake.f k).bind fun t412 => (if t412 = true then (if (l0_2.length : Int) > 30 then (some true) else ((loop_All.f k a0_0 a0_1 l0_2).bind fun t413 => ((davitref09_All.f k a0_0 a0_1 l0_2).bind fun t416 => (if (t413.length : Int) = (t416.length : Int) then (davitlaw09_LoopRight.l0 k a1 t413 t416 0 0 a0_0 a0_1 l0_2) else (some false))))) else (some false))) = some r := h
 clear h
 replace H := Option.bind_eq_some_iff.mp H
 obtain ⟨t412, A30, H⟩ := H
 replace H : (if t412 = true then (if (l0_2.length : Int) > 30 then (some true) else ((loop_All.f k a0_0 a0_1 l0_2).bind fun t413 => ((davitref09_All.f k a0_0 a0_1 l0_2).bind fun t416 => (if (t413.length : Int) = (t416.length : Int) then (davitlaw09_LoopRight.l0 k a1 t413 t416 0 0 a0_0 a0_1 l0_2) else (some false))))) else (some false)) = some r := H
 have A3 := Aside0.mk A30
 clear A30
 by_cases c4 : t412 = true
 ·subst c4
  have H1 : (if (l0_2.length : Int) > 30 then (some true) else ((loop_All.f k a0_0 a0_1 l0_2).bind fun t413 => ((davitref09_All.f k a0_0 a0_1 l0_2).bind fun t416 => (if (t413.length : Int) = (t416.length : Int) then (davitlaw09_LoopRight.l0 k a1 t413 t416 0 0 a0_0 a0_1 l0_2) else (some false))))) = some r := by rw [if_pos rfl] at H; exact H
  clear H
  have H := H1
  clear H1
  by_cases c5 : (l0_2.length : Int) > 30
  ·rw [if_pos c5] at H
   have c5b0 : decide (30 < (l0_2.length : Int)) = true := decide_eq_true c5
   have c5b1 : decide (30 < l0_2.length) = true := decide_eq_true (by omega)
   clear c5
   obtain rfl := Option.some.inj H
   go_enter Try.func7, Try.ntmps7
   go_wp2_with (first | ((with_reducible refine gate_dst (N := 2) rfl ?_); refine box_event ?hg (N := 2) ?hd (cs := #[.int .i64 a0_0, .int .i64 a0_1, .slice A0_2 l0_2.length c0_2]) (t := 24) ?hr ?_; (case hd => rfl); (case hg => rfl); (case hr => first | (go_simp; done) | (go_simp; rfl)); intro gb411 hg w6 hbox hb; have n0_ := Aside0.mk (below_step (by repeat (first | (with_reducible first | exact HB.out | apply below_alloc | apply pw_below_drewN | apply below_drew1) | exact HB.out)) hb); have n1_ := Aside0.mk (hbox); have n2_ := Aside0.mk ((by rw [hg]; exact (below_size (by repeat (first | (with_reducible first | exact HB.out | apply below_alloc | apply pw_below_drewN | apply below_drew1) | exact HB.out))) : w.heap.size ≤ gb411)); have n3_ := Aside0.mk ((by rw [hg]; exact (below_size (by repeat (first | (with_reducible first | exact HB.out | apply below_alloc | apply pw_below_drewN | apply below_drew1) | exact HB.out))) : w.heap.size ≤ gb411)); clear HB; have HB := n0_; have BK411 := n1_; have GW411 := n2_; have GE411 := n3_; clear n0_ n1_ n2_ n3_; clear hb hbox hg) | ((with_reducible refine gate_callee (f := 22) rfl ?_); refine goesL_ (some 9) rfl rfl Try.func22 (by kernel_rfl) rfl #[] rfl (by (try simp only [List.map_toArray, List.map_cons, List.map_nil]); first | done | rfl | (simp only [List.length_drop, List.length_take]; rfl)) ?_; (with_reducible refine (davitlaw09_awake.calls k  true _ A3.out).mono ?_); rintro e w7 ⟨rfl, hb⟩; refine ⟨_, rfl, ?_⟩; have n0_ := Aside0.mk (blk_below (g := gb411) (o := .cells #[.int .i64 a0_0, .int .i64 a0_1, .slice A0_2 l0_2.length c0_2] 24 (0, 0)) (by (with_reducible repeat (first | refine blk_drewN ?_ _ | refine blk_drew ?_ | refine blk_alloc ?_ _)); exact BK411.out) hb); have n1_ := Aside0.mk (below_step (by repeat (first | (with_reducible first | exact HB.out | apply below_alloc | apply pw_below_drewN | apply below_drew1 | refine below_set ?_ GE411.out) | exact HB.out)) hb); clear BK411; clear HB; have BK411 := n0_; have HB := n1_; clear n0_ n1_; (try clear hb); (try clear hb2); (try clear hk); (try clear hi); have hcz8_0 : w7.cell? ⟨gb411, 0, none⟩ = some (.int .i64 a0_0) := (blk_cell BK411.out 0).trans rfl; have hcz8_1 : w7.cell? ⟨gb411, 1, none⟩ = some (.int .i64 a0_1) := (blk_cell BK411.out 1).trans rfl; have hcz8_2 : w7.cell? ⟨gb411, 2, none⟩ = some (.slice A0_2 l0_2.length c0_2) := (blk_cell BK411.out 2).trans rfl; have hfz8_0 := blk_frozen BK411.out 0; have hfz8_1 := blk_frozen BK411.out 1; have hfz8_2 := blk_frozen BK411.out 2))
   go_ret
   exact ⟨by first | rfl | (simp [errW_none, errW_some] <;> rfl) | (simp [*, errW_none, errW_some] <;> rfl), by repeat (first | (with_reducible first | exact HB.out | apply below_alloc | apply pw_below_drewN | apply below_drew1 | refine below_set ?_ GE411.out) | exact HB.out)⟩
  ·rw [if_neg c5] at H
   have c5b0 : decide (30 < (l0_2.length : Int)) = false := decide_eq_false c5
   have c5b1 : decide (30 < l0_2.length) = false := decide_eq_false (by omega)
   clear c5
   replace H := Option.bind_eq_some_iff.mp H
   obtain ⟨t413, A90, H⟩ := H
   replace H : ((davitref09_All.f k a0_0 a0_1 l0_2).bind fun t416 => (if (t413.length : Int) = (t416.length : Int) then (davitlaw09_LoopRight.l0 k a1 t413 t416 0 0 a0_0 a0_1 l0_2) else (some false))) = some r := H
   have A9 := Aside0.mk A90
   clear A90
   replace H := Option.bind_eq_some_iff.mp H
   obtain ⟨t416, A100, H⟩ := H
   replace H : (if (t413.length : Int) = (t416.length : Int) then (davitlaw09_LoopRight.l0 k a1 t413 t416 0 0 a0_0 a0_1 l0_2) else (some false)) = some r := H
   have A10 := Aside0.mk A100
   clear A100
   by_cases c11 : (t413.length : Int) = (t416.length : Int)
   ·rw [if_pos c11] at H
    have c11b0 : ((t413.length : Int) == (t416.length : Int)) = true := beq_iff_eq.mpr c11
    have c11b1 : ((t413.length : Int) != (t416.length : Int)) = false := bne_eq_false_iff_eq.mpr c11
    have c11b2 : (t413.length == t416.length) = true := by first | simpa using c11 | (simp at c11 ⊢; omega)
    clear c11
    have H' := Aside0.mk H
    clear H
    go_enter Try.func7, Try.ntmps7
    try go_wp2_with (first | ((with_reducible refine gate_dst (N := 2) rfl ?_); refine box_event ?hg (N := 2) ?hd (cs := #[.int .i64 a0_0, .int .i64 a0_1, .slice A0_2 l0_2.length c0_2]) (t := 24) ?hr ?_; (case hd => rfl); (case hg => rfl); (case hr => first | (go_simp; done) | (go_simp; rfl)); intro gb411 hg w12 hbox hb; have n0_ := Aside0.mk (below_step (by repeat (first | (with_reducible first | exact HB.out | apply below_alloc | apply pw_below_drewN | apply below_drew1) | exact HB.out)) hb); have n1_ := Aside0.mk (hbox); have n2_ := Aside0.mk ((by rw [hg]; exact (below_size (by repeat (first | (with_reducible first | exact HB.out | apply below_alloc | apply pw_below_drewN | apply below_drew1) | exact HB.out))) : w.heap.size ≤ gb411)); have n3_ := Aside0.mk ((by rw [hg]; exact (below_size (by repeat (first | (with_reducible first | exact HB.out | apply below_alloc | apply pw_below_drewN | apply below_drew1) | exact HB.out))) : w.heap.size ≤ gb411)); clear HB; have HB := n0_; have BK411 := n1_; have GW411 := n2_; have GE411 := n3_; clear n0_ n1_ n2_ n3_; clear hb hbox hg) | ((with_reducible refine gate_callee (f := 22) rfl ?_); refine goesL_ (some 9) rfl rfl Try.func22 (by kernel_rfl) rfl #[] rfl (by (try simp only [List.map_toArray, List.map_cons, List.map_nil]); first | done | rfl | (simp only [List.length_drop, List.length_take]; rfl)) ?_; (with_reducible refine (davitlaw09_awake.calls k  true _ A3.out).mono ?_); rintro e w13 ⟨rfl, hb⟩; refine ⟨_, rfl, ?_⟩; have n0_ := Aside0.mk (blk_below (g := gb411) (o := .cells #[.int .i64 a0_0, .int .i64 a0_1, .slice A0_2 l0_2.length c0_2] 24 (0, 0)) (by (with_reducible repeat (first | refine blk_drewN ?_ _ | refine blk_drew ?_ | refine blk_alloc ?_ _)); exact BK411.out) hb); have n1_ := Aside0.mk (below_step (by repeat (first | (with_reducible first | exact HB.out | apply below_alloc | apply pw_below_drewN | apply below_drew1 | refine below_set ?_ GE411.out) | exact HB.out)) hb); clear BK411; clear HB; have BK411 := n0_; have HB := n1_; clear n0_ n1_; (try clear hb); (try clear hb2); (try clear hk); (try clear hi); have hcz14_0 : w13.cell? ⟨gb411, 0, none⟩ = some (.int .i64 a0_0) := (blk_cell BK411.out 0).trans rfl; have hcz14_1 : w13.cell? ⟨gb411, 1, none⟩ = some (.int .i64 a0_1) := (blk_cell BK411.out 1).trans rfl; have hcz14_2 : w13.cell? ⟨gb411, 2, none⟩ = some (.slice A0_2 l0_2.length c0_2) := (blk_cell BK411.out 2).trans rfl; have hfz14_0 := blk_frozen BK411.out 0; have hfz14_1 := blk_frozen BK411.out 1; have hfz14_2 := blk_frozen BK411.out 2))
    have n0_ := Aside0.mk (blk_drew BK411.out)
    have n1_ := Aside0.mk (below_drew1 HB.out)
    clear BK411
    clear HB
    have BK411 := n0_
    have HB := n1_
    clear n0_ n1_
    refine start_ (n := 6) (S := fun w' => w'.cell? ⟨gb411, 0, none⟩ = some (.int .i64 a0_0) ∧ w'.cell? ⟨gb411, 1, none⟩ = some (.int .i64 a0_1) ∧ w'.cell? ⟨gb411, 2, none⟩ = some (.slice A0_2 l0_2.length c0_2)) (ds := []) #[false, false, false, false, false, false] (by kernel_rfl) rfl rfl ⟨(blk_cell BK411.out 0).trans rfl, (blk_cell BK411.out 1).trans rfl, (blk_cell BK411.out 2).trans rfl⟩ (fun hHeld => ?_)
    generalize w13.drew = w15 at BK411 HB hHeld ⊢
    refine take_ (i := 0) (N := some 15) (v := ?_) (a' := ?_) #[true, false, false, false, false, false] rfl rfl (by kernel_rfl) (fun _ _ _ h => h) (Or.inl ⟨by rfl, ?_⟩) hHeld ?_ ?_
    rotate_left
    ·rintro w' ⟨s0, s1, s2⟩
     go_simp
     with_reducible rfl
    rotate_left
    ·simp only [Act.put, List.setIfInBounds_toArray, List.set_cons_zero, List.set_cons_succ, i64_w, i32_w]
     rfl
    refine take_ (i := 2) (N := some 17) (v := ?_) (a' := ?_) #[true, false, true, false, false, false] rfl rfl (by kernel_rfl) (fun _ _ _ h => h) (Or.inl ⟨by rfl, ?_⟩) hHeld ?_ ?_
    rotate_left
    ·rintro w' ⟨s0, s1, s2⟩
     go_simp
     with_reducible rfl
    rotate_left
    ·simp only [Act.put, List.setIfInBounds_toArray, List.set_cons_zero, List.set_cons_succ, i64_w, i32_w]
     rfl
    refine one_ (i := 1) (N := some 16) #[true, true, true, false, false, false] rfl rfl (by kernel_rfl) (by decide) (fun K hK => ?_)
    refine goes_ Try.func23 (by kernel_rfl) rfl #[.agg #[.int .i64 a0_0, .int .i64 a0_1, .slice A0_2 l0_2.length c0_2]] (by rfl) rfl rfl (by (try simp only [List.map_toArray, List.map_cons, List.map_nil]); first | done | rfl | (simp only [List.length_drop, List.length_take]; rfl)) ?_
    with_reducible refine (loop_All.calls k a0_0 a0_1 _ _ l0_2 t413 _ ?side1 ?side2 A9.out).mono ?_
    (case side1 => repeat (first | exact (Kd.C_below HR0_2.out HB.out) | (with_reducible refine Kd.C_alloc ?_ _) | (with_reducible refine Kd.C_drewN ?_ _) | (with_reducible refine Kd.C_drew ?_)))
    (case side2 => exact HC0_2.out)
    rintro e w16 ⟨v414, rfl, ho0, hb⟩
    refine ⟨_, rfl, ?_⟩
    have n0_ := Aside0.mk (Kd.S_lower ho0 (below_size (by repeat (first | (with_reducible first | exact HB.out | apply below_alloc | apply pw_below_drewN | apply below_drew1 | refine below_set ?_ GE411.out) | exact HB.out))))
    have n1_ := Aside0.mk (blk_below (g := gb411) (o := .cells #[.int .i64 a0_0, .int .i64 a0_1, .slice A0_2 l0_2.length c0_2] 24 (0, 0)) (by (with_reducible repeat (first | refine blk_drewN ?_ _ | refine blk_drew ?_ | refine blk_alloc ?_ _)); exact BK411.out) hb)
    have n2_ := Aside0.mk (below_step (by repeat (first | (with_reducible first | exact HB.out | apply below_alloc | apply pw_below_drewN | apply below_drew1 | refine below_set ?_ GE411.out) | exact HB.out)) hb)
    clear BK411
    clear HB
    have HO415 := n0_
    have BK411 := n1_
    have HB := n2_
    clear n0_ n1_ n2_
    (try clear hb)
    (try clear hb2)
    (try clear hk)
    (try clear hi)
    (try clear ho0)
    refine hK.out _ _ ⟨(blk_cell BK411.out 0).trans rfl, (blk_cell BK411.out 1).trans rfl, (blk_cell BK411.out 2).trans rfl⟩ (fun hHeld => ?_)
    clear hK K
    refine norm_ (a' := ?_) ?_ ?_
    rotate_left
    ·show Act.put _ (some 16) _ = _
     simp only [Act.put, List.setIfInBounds_toArray, List.set_cons_zero, List.set_cons_succ, i64_w, i32_w]
     rfl
    refine one_ (i := 3) (N := some 18) #[true, true, true, true, false, false] rfl rfl (by kernel_rfl) (by decide) (fun K hK => ?_)
    refine goes_ Try.func24 (by kernel_rfl) rfl #[.agg #[.int .i64 a0_0, .int .i64 a0_1, .slice A0_2 l0_2.length c0_2]] (by rfl) rfl rfl (by (try simp only [List.map_toArray, List.map_cons, List.map_nil]); first | done | rfl | (simp only [List.length_drop, List.length_take]; rfl)) ?_
    with_reducible refine (davitref09_All.calls k a0_0 a0_1 _ _ l0_2 t416 _ ?side1 ?side2 A10.out).mono ?_
    (case side1 => repeat (first | exact (Kd.C_below HR0_2.out HB.out) | (with_reducible refine Kd.C_alloc ?_ _) | (with_reducible refine Kd.C_drewN ?_ _) | (with_reducible refine Kd.C_drew ?_)))
    (case side2 => exact HC0_2.out)
    rintro e w17 ⟨v417, rfl, ho0, hb⟩
    refine ⟨_, rfl, ?_⟩
    have n0_ := Aside0.mk (Kd.S_elder' (by (with_reducible repeat (first | apply Kd.S_alloc | apply Kd.S_drewN | apply Kd.S_drew)); exact HO415.out) (Kd.S_base ho0) hb)
    have n1_ := Aside0.mk (Kd.S_lower (Kd.S_new' ho0 (Kd.S_lt (by (with_reducible repeat (first | apply Kd.S_alloc | apply Kd.S_drewN | apply Kd.S_drew)); exact HO415.out))) (below_size (by repeat (first | (with_reducible first | exact HB.out | apply below_alloc | apply pw_below_drewN | apply below_drew1 | refine below_set ?_ GE411.out) | exact HB.out))))
    have n2_ := Aside0.mk (blk_below (g := gb411) (o := .cells #[.int .i64 a0_0, .int .i64 a0_1, .slice A0_2 l0_2.length c0_2] 24 (0, 0)) (by (with_reducible repeat (first | refine blk_drewN ?_ _ | refine blk_drew ?_ | refine blk_alloc ?_ _)); exact BK411.out) hb)
    have n3_ := Aside0.mk (below_step (by repeat (first | (with_reducible first | exact HB.out | apply below_alloc | apply pw_below_drewN | apply below_drew1 | refine below_set ?_ GE411.out) | exact HB.out)) hb)
    clear HO415
    clear BK411
    clear HB
    have HO415 := n0_
    have HO418 := n1_
    have BK411 := n2_
    have HB := n3_
    clear n0_ n1_ n2_ n3_
    (try clear hb)
    (try clear hb2)
    (try clear hk)
    (try clear hi)
    (try clear ho0)
    refine hK.out _ _ ⟨(blk_cell BK411.out 0).trans rfl, (blk_cell BK411.out 1).trans rfl, (blk_cell BK411.out 2).trans rfl⟩ (fun hHeld => ?_)
    clear hK K
    refine norm_ (a' := ?_) ?_ ?_
    rotate_left
    ·show Act.put _ (some 18) _ = _
     simp only [Act.put, List.setIfInBounds_toArray, List.set_cons_zero, List.set_cons_succ, i64_w, i32_w]
     rfl
    refine pure_ (i := 4) (N := some 5) (v := ?_) (a' := ?_) #[true, true, true, true, true, false] rfl rfl (by kernel_rfl) (fun _ _ _ h => h) (Or.inl ⟨by rfl, ?_⟩) ?_ ?_
    rotate_left
    ·intro w'
     go_simp
     with_reducible rfl
    rotate_left
    ·simp only [Act.put, List.setIfInBounds_toArray, List.set_cons_zero, List.set_cons_succ, i64_w, i32_w]
     rfl
    refine pure_ (i := 5) (N := some 6) (v := ?_) (a' := ?_) #[true, true, true, true, true, true] rfl rfl (by kernel_rfl) (fun _ _ _ h => h) (Or.inl ⟨by rfl, ?_⟩) ?_ ?_
    rotate_left
    ·intro w'
     go_simp
     with_reducible rfl
    rotate_left
    ·simp only [Act.put, List.setIfInBounds_toArray, List.set_cons_zero, List.set_cons_succ, i64_w, i32_w]
     rfl
    refine done_ (by kernel_rfl) ?_
    obtain ⟨Ao18, co18, eo18⟩ := Kd.S_slice HO415.out
    subst eo18
    obtain ⟨Ao19, co19, eo19⟩ := Kd.S_slice HO418.out
    subst eo19
    try go_wp2
    go_loopg [7, 8] k (fun kq v7 v8 w' => ∃ (x7_1 : Int) (x8_1 : Int), v7 = .int .i64 x7_1 ∧ v8 = .int .i64 x8_1 ∧ Aside0 (davitlaw09_LoopRight.l0 kq a1 t413 t416 x7_1 x8_1 a0_0 a0_1 l0_2 = some r) ∧ Aside0 (kq ≤ k) ∧ Aside0 (Kd.S k40 40 w' w.heap.size (fun k_ => some k_ ≠ ((.slice Ao19 t416.length co19) : Value).ownBlock) (.slice Ao18 t413.length co18) t413) ∧ Aside0 (Kd.S k40 40 w' w.heap.size (fun k_ => some k_ ≠ ((.slice Ao18 t413.length co18) : Value).ownBlock) (.slice Ao19 t416.length co19) t416) ∧ Aside0 (w'.heap[gb411]? = some (.cells #[.int .i64 a0_0, .int .i64 a0_1, (.slice A0_2 l0_2.length c0_2)] 24 (0, 0))) ∧ Aside0 (Below w.heap.size w w'))
    case atStart => exact ⟨(0), (0), (by first | rfl | (simp; done) | (simp [*]; done)), (by first | rfl | (simp; done) | (simp [*]; done)), H', ⟨Nat.le_refl _⟩, ⟨by (with_reducible repeat (first | apply Kd.S_alloc | apply Kd.S_drewN | apply Kd.S_drew)); exact Kd.S_mono HO415.out (fun _ hk => hk.2)⟩, ⟨by (with_reducible repeat (first | apply Kd.S_alloc | apply Kd.S_drewN | apply Kd.S_drew)); exact Kd.S_mono HO418.out (fun _ hk => hk.2)⟩, ⟨by (with_reducible repeat (first | refine blk_drewN ?_ _ | refine blk_drew ?_ | refine blk_alloc ?_ _)); exact BK411.out⟩, ⟨by repeat (first | (with_reducible first | exact HB.out | apply below_alloc | apply pw_below_drewN | apply below_drew1 | refine below_set ?_ GE411.out) | exact HB.out)⟩⟩
    case round =>
     clear H'
     try clear c1
     try clear c2
     try clear p2
     try clear c4
     try clear c5
     try clear c5b0
     try clear c5b1
     try clear c7
     try clear c11
     try clear c11b0
     try clear c11b1
     try clear c11b2
     try clear hcz14_0
     try clear hcz14_1
     try clear hcz14_2
     try clear hcz8_0
     try clear hcz8_1
     try clear hcz8_2
     try clear hfz14_0
     try clear hfz14_1
     try clear hfz14_2
     try clear hfz8_0
     try clear hfz8_1
     try clear hfz8_2
     obtain ⟨x7_1, x8_1, rfl, rfl, HA, HK1, HO_5, HO_6, BK411, HB⟩ := hrel
     cases gk with
     | zero => exact absurd HA.out (by simp [davitlaw09_LoopRight.l0])
     | succ k1 =>
      have H := HA.out
      clear HA
      simp only [davitlaw09_LoopRight.l0] at H
      by_cases c20 : x8_1 < (t413.length : Int)
      ·rw [if_pos c20] at H
       have c20b0 : decide (x8_1 < (t413.length : Int)) = true := decide_eq_true c20
       clear c20
       have HC21 := Aside0.mk H
       clear H
       go_upto_region 12 with (fail)
       go_cut [54] (fun v54 wc => ∃ (kq : Nat) (x54_20 : Bool), v54 = .bool x54_20 ∧ Aside0 (davitlaw09_LoopRight.j1 kq a1 t413 t416 x7_1 x8_1 x54_20 a0_0 a0_1 l0_2 = some r) ∧ Aside0 (kq ≤ k1) ∧ Aside0 (Kd.S k40 40 wc w.heap.size (fun k_ => some k_ ≠ ((.slice Ao19 t416.length co19) : Value).ownBlock) (.slice Ao18 t413.length co18) t413) ∧ Aside0 (Kd.S k40 40 wc w.heap.size (fun k_ => some k_ ≠ ((.slice Ao18 t413.length co18) : Value).ownBlock) (.slice Ao19 t416.length co19) t416) ∧ Aside0 (wc.heap[gb411]? = some (.cells #[.int .i64 a0_0, .int .i64 a0_1, (.slice A0_2 l0_2.length c0_2)] 24 (0, 0))) ∧ Aside0 (Below w.heap.size w wc))
       case first =>
        have H := HC21.out
        clear HC21
        by_cases c22 : 0 ≤ x8_1
        ·rw [if_pos c22] at H
         have c22b0 : decide (0 ≤ x8_1) = true := decide_eq_true c22
         clear c22
         (first | rw [c22b0] | (simp only [i64_w, i32_w]; rw [c22b0]) | skip)
         by_cases c23 : x8_1 < (t416.length : Int)
         ·rw [if_pos c23] at H
          have c23b0 : decide (x8_1 < (t416.length : Int)) = true := decide_eq_true c23
          clear c23
          by_cases c24 : ((rd_T40 t413 x8_1).f0) = ((rd_T40 t416 x8_1).f0)
          ·rw [if_pos c24] at H
           have c24b0 : (((rd_T40 t413 x8_1).f0) == ((rd_T40 t416 x8_1).f0)) = true := beq_iff_eq.mpr c24
           have c24b1 : (((rd_T40 t413 x8_1).f0) != ((rd_T40 t416 x8_1).f0)) = false := bne_eq_false_iff_eq.mpr c24
           clear c24
           replace H := Option.bind_eq_some_iff.mp H
           obtain ⟨t424, A250, H⟩ := H
           replace H : (davitlaw09_LoopRight.j1 k1 a1 t413 t416 x7_1 x8_1 (!t424) a0_0 a0_1 l0_2) = some r := H
           have A25 := Aside0.mk A250
           clear A250
           have H' := Aside0.mk H
           clear H
           try go_wp2
           have n0_ := Aside0.mk (Kd.S_drew HO_5.out)
           have n1_ := Aside0.mk (Kd.S_drew HO_6.out)
           have n2_ := Aside0.mk (blk_drew BK411.out)
           have n3_ := Aside0.mk (below_drew1 HB.out)
           clear HO_5
           clear HO_6
           clear BK411
           clear HB
           have HO_5 := n0_
           have HO_6 := n1_
           have BK411 := n2_
           have HB := n3_
           clear n0_ n1_ n2_ n3_
           have p420 : 0 ≤ (x8_1 : Int) := of_decide_eq_true (by first | (with_reducible assumption) | assumption)
           have q420 : x8_1 < (t413.length : Int) := of_decide_eq_true (by first | (with_reducible assumption) | assumption)
           obtain ⟨ad420, A420_1, c420_1, e420, hx420_0, hx420_1, hl420_1, hi420_1⟩ := at_T40 (Kd.S_reads' HO_5.out).2.2 x8_1 p420 q420
           cases e420
           obtain ⟨ce420, hce420, hMe420, hcc420⟩ := Kd.S_get HO_5.out z40 x8_1 p420 (by first | exact q420 | exact of_decide_eq_true (by first | (with_reducible assumption) | assumption) | (have e_ := (Kd.S_reads' HO_5.out).1; omega))
           obtain ⟨ve420_1, rfl, ge420_1⟩ := k40_openM hMe420
           have hv420_1 := hcc420 1 _ rfl
           rw [add_field _ _ 1 (by omega)] at hv420_1
           replace hv420_1 := Option.some.inj (hv420_1.symm.trans hx420_1)
           rw [hv420_1] at ge420_1
           have HL420_1 := Aside0.mk (show Kd.R (Kd.int .i64) 3 _ _ _ _ ((rd_T40 t413 x8_1).f1) from ge420_1)
           clear hv420_1 ge420_1
           clear hcc420 hce420
           have HR420_1 := Aside0.mk hi420_1
           have HC420_1 := Aside0.mk hl420_1
           clear hi420_1 hl420_1
           replace p420 := eq_true p420
           replace q420 := eq_true q420
           have p421 : 0 ≤ (x8_1 : Int) := of_decide_eq_true (by first | (with_reducible assumption) | assumption)
           have q421 : x8_1 < (t416.length : Int) := of_decide_eq_true (by first | (with_reducible assumption) | assumption)
           obtain ⟨ad421, A421_1, c421_1, e421, hx421_0, hx421_1, hl421_1, hi421_1⟩ := at_T40 (Kd.S_reads' HO_6.out).2.2 x8_1 p421 q421
           cases e421
           obtain ⟨ce421, hce421, hMe421, hcc421⟩ := Kd.S_get HO_6.out z40 x8_1 p421 (by first | exact q421 | exact of_decide_eq_true (by first | (with_reducible assumption) | assumption) | (have e_ := (Kd.S_reads' HO_6.out).1; omega))
           obtain ⟨ve421_1, rfl, ge421_1⟩ := k40_openM hMe421
           have hv421_1 := hcc421 1 _ rfl
           rw [add_field _ _ 1 (by omega)] at hv421_1
           replace hv421_1 := Option.some.inj (hv421_1.symm.trans hx421_1)
           rw [hv421_1] at ge421_1
           have HL421_1 := Aside0.mk (show Kd.R (Kd.int .i64) 3 _ _ _ _ ((rd_T40 t416 x8_1).f1) from ge421_1)
           clear hv421_1 ge421_1
           clear hcc421 hce421
           have HR421_1 := Aside0.mk hi421_1
           have HC421_1 := Aside0.mk hl421_1
           clear hi421_1 hl421_1
           replace p421 := eq_true p421
           replace q421 := eq_true q421
           have p422 : 0 ≤ (x8_1 : Int) := of_decide_eq_true (by first | (with_reducible assumption) | assumption)
           have q422 : x8_1 < (t413.length : Int) := of_decide_eq_true (by first | (with_reducible assumption) | assumption)
           obtain ⟨ad422, A422_1, c422_1, e422, hx422_0, hx422_1, hl422_1, hi422_1⟩ := at_T40 (Kd.S_reads' HO_5.out).2.2 x8_1 p422 q422
           obtain rfl : ad420 = ad422 := (by injection e422)
           obtain ⟨ce422, hce422, hMe422, hcc422⟩ := Kd.S_get HO_5.out z40 x8_1 p422 (by first | exact q422 | exact of_decide_eq_true (by first | (with_reducible assumption) | assumption) | (have e_ := (Kd.S_reads' HO_5.out).1; omega))
           obtain ⟨ve422_1, rfl, ge422_1⟩ := k40_openM hMe422
           have hv422_1 := hcc422 1 _ rfl
           rw [add_field _ _ 1 (by omega)] at hv422_1
           replace hv422_1 := Option.some.inj (hv422_1.symm.trans hx422_1)
           rw [hv422_1] at ge422_1
           have HL422_1 := Aside0.mk (show Kd.R (Kd.int .i64) 3 _ _ _ _ ((rd_T40 t413 x8_1).f1) from ge422_1)
           clear hv422_1 ge422_1
           clear hcc422 hce422
           have HR422_1 := Aside0.mk hi422_1
           have HC422_1 := Aside0.mk hl422_1
           clear hi422_1 hl422_1
           replace p422 := eq_true p422
           replace q422 := eq_true q422
           have ea_ := Option.some.inj (hx420_1.symm.trans hx422_1)
           injection ea_ with ea_ en_ ec_
           subst ea_
           subst ec_
           clear en_
           have p423 : 0 ≤ (x8_1 : Int) := of_decide_eq_true (by first | (with_reducible assumption) | assumption)
           have q423 : x8_1 < (t416.length : Int) := of_decide_eq_true (by first | (with_reducible assumption) | assumption)
           obtain ⟨ad423, A423_1, c423_1, e423, hx423_0, hx423_1, hl423_1, hi423_1⟩ := at_T40 (Kd.S_reads' HO_6.out).2.2 x8_1 p423 q423
           obtain rfl : ad421 = ad423 := (by injection e423)
           obtain ⟨ce423, hce423, hMe423, hcc423⟩ := Kd.S_get HO_6.out z40 x8_1 p423 (by first | exact q423 | exact of_decide_eq_true (by first | (with_reducible assumption) | assumption) | (have e_ := (Kd.S_reads' HO_6.out).1; omega))
           obtain ⟨ve423_1, rfl, ge423_1⟩ := k40_openM hMe423
           have hv423_1 := hcc423 1 _ rfl
           rw [add_field _ _ 1 (by omega)] at hv423_1
           replace hv423_1 := Option.some.inj (hv423_1.symm.trans hx423_1)
           rw [hv423_1] at ge423_1
           have HL423_1 := Aside0.mk (show Kd.R (Kd.int .i64) 3 _ _ _ _ ((rd_T40 t416 x8_1).f1) from ge423_1)
           clear hv423_1 ge423_1
           clear hcc423 hce423
           have HR423_1 := Aside0.mk hi423_1
           have HC423_1 := Aside0.mk hl423_1
           clear hi423_1 hl423_1
           replace p423 := eq_true p423
           replace q423 := eq_true q423
           have ea_ := Option.some.inj (hx421_1.symm.trans hx423_1)
           injection ea_ with ea_ en_ ec_
           subst ea_
           subst ec_
           clear en_
           refine start_ (n := 25) (S := fun w' => w'.cell? (ad420.add ((x8_1).toNat * 2)) = some (.int .i64 ((rd_T40 t413 x8_1).f0)) ∧ w'.cell? ⟨(ad420.add ((x8_1).toNat * 2)).block, (ad420.add ((x8_1).toNat * 2)).off + 1, none⟩ = some (.slice A420_1 ((rd_T40 t413 x8_1).f1).length c420_1) ∧ w'.cell? (ad421.add ((x8_1).toNat * 2)) = some (.int .i64 ((rd_T40 t416 x8_1).f0)) ∧ w'.cell? ⟨(ad421.add ((x8_1).toNat * 2)).block, (ad421.add ((x8_1).toNat * 2)).off + 1, none⟩ = some (.slice A421_1 ((rd_T40 t416 x8_1).f1).length c421_1) ∧ w'.cell? (ad420.add ((x8_1).toNat * 2)) = some (.int .i64 ((rd_T40 t413 x8_1).f0)) ∧ w'.cell? ⟨(ad420.add ((x8_1).toNat * 2)).block, (ad420.add ((x8_1).toNat * 2)).off + 1, none⟩ = some (.slice A420_1 ((rd_T40 t413 x8_1).f1).length c420_1) ∧ w'.cell? (ad421.add ((x8_1).toNat * 2)) = some (.int .i64 ((rd_T40 t416 x8_1).f0)) ∧ w'.cell? ⟨(ad421.add ((x8_1).toNat * 2)).block, (ad421.add ((x8_1).toNat * 2)).off + 1, none⟩ = some (.slice A421_1 ((rd_T40 t416 x8_1).f1).length c421_1)) (ds := []) #[false, false, false, false, false, false, false, false, false, false, false, false, false, false, false, false, false, false, false, false, false, false, false, false, false] (by kernel_rfl) rfl rfl ⟨hx420_0, hx420_1, hx421_0, hx421_1, hx422_0, hx422_1, hx423_0, hx423_1⟩ (fun hHeld => ?_); refine with_tabW davitlaw09_LoopRight.tab12 davitlaw09_LoopRight.bits12 (fun HT_ HW_ => ?_)
           generalize wr.drew = w26 at HO_5 HO_6 BK411 HB HL420_1 HL421_1 HL422_1 HL423_1 HR420_1 HR421_1 HR422_1 HR423_1 hx420_0 hx420_1 hx421_0 hx421_1 hx422_0 hx422_1 hx423_0 hx423_1 hHeld ⊢
           refine pure_ (i := 0) (N := some 30) (v := ?_) (a' := ?_) #[true, false, false, false, false, false, false, false, false, false, false, false, false, false, false, false, false, false, false, false, false, false, false, false, false] rfl rfl (any_of HT_.out (by kernel_rfl)) (fun _ _ _ h => h) (Or.inl ⟨by rfl, ?_⟩) ?_ ?_
           rotate_left
           ·intro w'
            go_simp
            with_reducible rfl
           rotate_left
           ·simp only [Act.put, List.setIfInBounds_toArray, List.set_cons_zero, List.set_cons_succ, i64_w, i32_w]
            rfl
           refine pure_ (i := 1) (N := some 31) (v := ?_) (a' := ?_) #[true, true, false, false, false, false, false, false, false, false, false, false, false, false, false, false, false, false, false, false, false, false, false, false, false] rfl rfl (any_of HT_.out (by kernel_rfl)) (fun _ _ _ h => h) (Or.inl ⟨by rfl, ?_⟩) ?_ ?_
           rotate_left
           ·intro w'
            go_simp
            with_reducible rfl
           rotate_left
           ·simp only [Act.put, List.setIfInBounds_toArray, List.set_cons_zero, List.set_cons_succ, i64_w, i32_w]
            rfl
           refine pure_ (i := 2) (N := some 32) (v := ?_) (a' := ?_) #[true, true, true, false, false, false, false, false, false, false, false, false, false, false, false, false, false, false, false, false, false, false, false, false, false] rfl rfl (any_of HT_.out (by kernel_rfl)) (fun _ _ _ h => h) (Or.inl ⟨by rfl, ?_⟩) ?_ ?_
           rotate_left
           ·intro w'
            go_simp
            with_reducible rfl
           rotate_left
           ·simp only [Act.put, List.setIfInBounds_toArray, List.set_cons_zero, List.set_cons_succ, i64_w, i32_w]
            rfl
           refine pure_ (i := 3) (N := some 33) (v := ?_) (a' := ?_) #[true, true, true, true, false, false, false, false, false, false, false, false, false, false, false, false, false, false, false, false, false, false, false, false, false] rfl rfl (any_of HT_.out (by kernel_rfl)) (fun _ _ _ h => h) (Or.inl ⟨by rfl, ?_⟩) ?_ ?_
           rotate_left
           ·intro w'
            go_simp
            with_reducible rfl
           rotate_left
           ·simp only [Act.put, List.setIfInBounds_toArray, List.set_cons_zero, List.set_cons_succ, i64_w, i32_w]
            rfl
           refine pure_ (i := 5) (N := some 35) (v := ?_) (a' := ?_) #[true, true, true, true, false, true, false, false, false, false, false, false, false, false, false, false, false, false, false, false, false, false, false, false, false] rfl rfl (any_of HT_.out (by kernel_rfl)) (fun _ _ _ h => h) (Or.inl ⟨by rfl, ?_⟩) ?_ ?_
           rotate_left
           ·intro w'
            go_simp
            with_reducible rfl
           rotate_left
           ·simp only [Act.put, List.setIfInBounds_toArray, List.set_cons_zero, List.set_cons_succ, i64_w, i32_w]
            rfl
           refine pure_ (i := 6) (N := some 36) (v := ?_) (a' := ?_) #[true, true, true, true, false, true, true, false, false, false, false, false, false, false, false, false, false, false, false, false, false, false, false, false, false] rfl rfl (any_of HT_.out (by kernel_rfl)) (fun _ _ _ h => h) (Or.inl ⟨by rfl, ?_⟩) ?_ ?_
           rotate_left
           ·intro w'
            go_simp
            with_reducible rfl
           rotate_left
           ·simp only [Act.put, List.setIfInBounds_toArray, List.set_cons_zero, List.set_cons_succ, i64_w, i32_w]
            rfl
           refine pure_ (i := 7) (N := some 37) (v := ?_) (a' := ?_) #[true, true, true, true, false, true, true, true, false, false, false, false, false, false, false, false, false, false, false, false, false, false, false, false, false] rfl rfl (any_of HT_.out (by kernel_rfl)) (fun _ _ _ h => h) (Or.inl ⟨by rfl, ?_⟩) ?_ ?_
           rotate_left
           ·intro w'
            go_simp
            with_reducible rfl
           rotate_left
           ·simp only [Act.put, List.setIfInBounds_toArray, List.set_cons_zero, List.set_cons_succ, i64_w, i32_w]
            rfl
           refine pure_ (i := 8) (N := some 38) (v := ?_) (a' := ?_) #[true, true, true, true, false, true, true, true, true, false, false, false, false, false, false, false, false, false, false, false, false, false, false, false, false] rfl rfl (any_of HT_.out (by kernel_rfl)) (fun _ _ _ h => h) (Or.inl ⟨by rfl, ?_⟩) ?_ ?_
           rotate_left
           ·intro w'
            go_simp
            with_reducible rfl
           rotate_left
           ·simp only [Act.put, List.setIfInBounds_toArray, List.set_cons_zero, List.set_cons_succ, i64_w, i32_w]
            rfl
           refine take_ (i := 4) (N := some 34) (v := ?_) (a' := ?_) #[true, true, true, true, true, true, true, true, true, false, false, false, false, false, false, false, false, false, false, false, false, false, false, false, false] rfl rfl (take_ofW HT_.out HW_.out (by kernel_rfl)) (fun _ _ _ h => h) (Or.inl ⟨by rfl, ?_⟩) hHeld ?_ ?_
           rotate_left
           ·rintro w' ⟨s0, s1, s2, s3, s4, s5, s6, s7⟩
            go_simp
            with_reducible rfl
           rotate_left
           ·simp only [Act.put, List.setIfInBounds_toArray, List.set_cons_zero, List.set_cons_succ, i64_w, i32_w]
            rfl
           refine take_ (i := 9) (N := some 39) (v := ?_) (a' := ?_) #[true, true, true, true, true, true, true, true, true, true, false, false, false, false, false, false, false, false, false, false, false, false, false, false, false] rfl rfl (take_ofW HT_.out HW_.out (by kernel_rfl)) (fun _ _ _ h => h) (Or.inl ⟨by rfl, ?_⟩) hHeld ?_ ?_
           rotate_left
           ·rintro w' ⟨s0, s1, s2, s3, s4, s5, s6, s7⟩
            go_simp
            with_reducible rfl
           rotate_left
           ·simp only [Act.put, List.setIfInBounds_toArray, List.set_cons_zero, List.set_cons_succ, i64_w, i32_w]
            rfl
           refine pure_ (i := 10) (N := some 40) (v := ?_) (a' := ?_) #[true, true, true, true, true, true, true, true, true, true, true, false, false, false, false, false, false, false, false, false, false, false, false, false, false] rfl rfl (any_of HT_.out (by kernel_rfl)) (fun _ _ _ h => h) (Or.inl ⟨by rfl, ?_⟩) ?_ ?_
           rotate_left
           ·intro w'
            go_simp
            with_reducible rfl
           rotate_left
           ·simp only [Act.put, List.setIfInBounds_toArray, List.set_cons_zero, List.set_cons_succ, i64_w, i32_w]
            rfl
           refine pure_ (i := 11) (N := some 41) (v := ?_) (a' := ?_) #[true, true, true, true, true, true, true, true, true, true, true, true, false, false, false, false, false, false, false, false, false, false, false, false, false] rfl rfl (any_of HT_.out (by kernel_rfl)) (fun _ _ _ h => h) (Or.inl ⟨by rfl, ?_⟩) ?_ ?_
           rotate_left
           ·intro w'
            go_simp
            with_reducible rfl
           rotate_left
           ·simp only [Act.put, List.setIfInBounds_toArray, List.set_cons_zero, List.set_cons_succ, i64_w, i32_w]
            rfl
           refine pure_ (i := 12) (N := some 42) (v := ?_) (a' := ?_) #[true, true, true, true, true, true, true, true, true, true, true, true, true, false, false, false, false, false, false, false, false, false, false, false, false] rfl rfl (any_of HT_.out (by kernel_rfl)) (fun _ _ _ h => h) (Or.inl ⟨by rfl, ?_⟩) ?_ ?_
           rotate_left
           ·intro w'
            go_simp
            with_reducible rfl
           rotate_left
           ·simp only [Act.put, List.setIfInBounds_toArray, List.set_cons_zero, List.set_cons_succ, i64_w, i32_w]
            rfl
           refine pure_ (i := 13) (N := some 43) (v := ?_) (a' := ?_) #[true, true, true, true, true, true, true, true, true, true, true, true, true, true, false, false, false, false, false, false, false, false, false, false, false] rfl rfl (any_of HT_.out (by kernel_rfl)) (fun _ _ _ h => h) (Or.inl ⟨by rfl, ?_⟩) ?_ ?_
           rotate_left
           ·intro w'
            go_simp
            with_reducible rfl
           rotate_left
           ·simp only [Act.put, List.setIfInBounds_toArray, List.set_cons_zero, List.set_cons_succ, i64_w, i32_w]
            rfl
           refine pure_ (i := 14) (N := some 44) (v := ?_) (a' := ?_) #[true, true, true, true, true, true, true, true, true, true, true, true, true, true, true, false, false, false, false, false, false, false, false, false, false] rfl rfl (any_of HT_.out (by kernel_rfl)) (fun _ _ _ h => h) (Or.inl ⟨by rfl, ?_⟩) ?_ ?_
           rotate_left
           ·intro w'
            go_simp
            with_reducible rfl
           rotate_left
           ·simp only [Act.put, List.setIfInBounds_toArray, List.set_cons_zero, List.set_cons_succ, i64_w, i32_w]
            rfl
           refine pure_ (i := 15) (N := some 45) (v := ?_) (a' := ?_) #[true, true, true, true, true, true, true, true, true, true, true, true, true, true, true, true, false, false, false, false, false, false, false, false, false] rfl rfl (any_of HT_.out (by kernel_rfl)) (fun _ _ _ h => h) (Or.inl ⟨by rfl, ?_⟩) ?_ ?_
           rotate_left
           ·intro w'
            go_simp
            with_reducible rfl
           rotate_left
           ·simp only [Act.put, List.setIfInBounds_toArray, List.set_cons_zero, List.set_cons_succ, i64_w, i32_w]
            rfl
           refine pure_ (i := 17) (N := some 47) (v := ?_) (a' := ?_) #[true, true, true, true, true, true, true, true, true, true, true, true, true, true, true, true, false, true, false, false, false, false, false, false, false] rfl rfl (any_of HT_.out (by kernel_rfl)) (fun _ _ _ h => h) (Or.inl ⟨by rfl, ?_⟩) ?_ ?_
           rotate_left
           ·intro w'
            go_simp
            with_reducible rfl
           rotate_left
           ·simp only [Act.put, List.setIfInBounds_toArray, List.set_cons_zero, List.set_cons_succ, i64_w, i32_w]
            rfl
           refine pure_ (i := 18) (N := some 48) (v := ?_) (a' := ?_) #[true, true, true, true, true, true, true, true, true, true, true, true, true, true, true, true, false, true, true, false, false, false, false, false, false] rfl rfl (any_of HT_.out (by kernel_rfl)) (fun _ _ _ h => h) (Or.inl ⟨by rfl, ?_⟩) ?_ ?_
           rotate_left
           ·intro w'
            go_simp
            with_reducible rfl
           rotate_left
           ·simp only [Act.put, List.setIfInBounds_toArray, List.set_cons_zero, List.set_cons_succ, i64_w, i32_w]
            rfl
           refine pure_ (i := 19) (N := some 49) (v := ?_) (a' := ?_) #[true, true, true, true, true, true, true, true, true, true, true, true, true, true, true, true, false, true, true, true, false, false, false, false, false] rfl rfl (any_of HT_.out (by kernel_rfl)) (fun _ _ _ h => h) (Or.inl ⟨by rfl, ?_⟩) ?_ ?_
           rotate_left
           ·intro w'
            go_simp
            with_reducible rfl
           rotate_left
           ·simp only [Act.put, List.setIfInBounds_toArray, List.set_cons_zero, List.set_cons_succ, i64_w, i32_w]
            rfl
           refine pure_ (i := 20) (N := some 50) (v := ?_) (a' := ?_) #[true, true, true, true, true, true, true, true, true, true, true, true, true, true, true, true, false, true, true, true, true, false, false, false, false] rfl rfl (any_of HT_.out (by kernel_rfl)) (fun _ _ _ h => h) (Or.inl ⟨by rfl, ?_⟩) ?_ ?_
           rotate_left
           ·intro w'
            go_simp
            with_reducible rfl
           rotate_left
           ·simp only [Act.put, List.setIfInBounds_toArray, List.set_cons_zero, List.set_cons_succ, i64_w, i32_w]
            rfl
           refine take_ (i := 16) (N := some 46) (v := ?_) (a' := ?_) #[true, true, true, true, true, true, true, true, true, true, true, true, true, true, true, true, true, true, true, true, true, false, false, false, false] rfl rfl (take_ofW HT_.out HW_.out (by kernel_rfl)) (fun _ _ _ h => h) (Or.inl ⟨by rfl, ?_⟩) hHeld ?_ ?_
           rotate_left
           ·rintro w' ⟨s0, s1, s2, s3, s4, s5, s6, s7⟩
            go_simp
            with_reducible rfl
           rotate_left
           ·simp only [Act.put, List.setIfInBounds_toArray, List.set_cons_zero, List.set_cons_succ, i64_w, i32_w]
            rfl
           refine take_ (i := 21) (N := some 51) (v := ?_) (a' := ?_) #[true, true, true, true, true, true, true, true, true, true, true, true, true, true, true, true, true, true, true, true, true, true, false, false, false] rfl rfl (take_ofW HT_.out HW_.out (by kernel_rfl)) (fun _ _ _ h => h) (Or.inl ⟨by rfl, ?_⟩) hHeld ?_ ?_
           rotate_left
           ·rintro w' ⟨s0, s1, s2, s3, s4, s5, s6, s7⟩
            go_simp
            with_reducible rfl
           rotate_left
           ·simp only [Act.put, List.setIfInBounds_toArray, List.set_cons_zero, List.set_cons_succ, i64_w, i32_w]
            rfl
           refine one_ (i := 22) (N := some 52) #[true, true, true, true, true, true, true, true, true, true, true, true, true, true, true, true, true, true, true, true, true, true, true, false, false] rfl rfl (one_of HT_.out (by kernel_rfl)) (by decide) (fun K hK => ?_)
           refine goes_ Try.func12 (by kernel_rfl) rfl #[.slice A420_1 ((rd_T40 t413 x8_1).f1).length c420_1, .slice A421_1 ((rd_T40 t416 x8_1).f1).length c421_1] (by rfl) rfl rfl (by (try simp only [List.map_toArray, List.map_cons, List.map_nil]); first | done | rfl | (simp only [List.length_drop, List.length_take]; rfl)) ?_
           with_reducible refine (davitref02_Ints.calls k1 _ _ ((rd_T40 t413 x8_1).f1) _ _ ((rd_T40 t416 x8_1).f1) t424 _ ?side1 ?side2 ?side3 ?side4 A25.out).mono ?_
           (case side1 => repeat (first | exact (by repeat (first | (with_reducible exact HR422_1.out) | (with_reducible refine Kd.C_alloc ?_ _) | (with_reducible refine Kd.C_drewN ?_ _) | (with_reducible refine Kd.C_drew ?_) | exact HR422_1.out)) | (with_reducible refine Kd.C_alloc ?_ _) | (with_reducible refine Kd.C_drewN ?_ _) | (with_reducible refine Kd.C_drew ?_)))
           (case side2 => exact HC422_1.out)
           (case side3 => repeat (first | exact (by repeat (first | (with_reducible exact HR423_1.out) | (with_reducible refine Kd.C_alloc ?_ _) | (with_reducible refine Kd.C_drewN ?_ _) | (with_reducible refine Kd.C_drew ?_) | exact HR423_1.out)) | (with_reducible refine Kd.C_alloc ?_ _) | (with_reducible refine Kd.C_drewN ?_ _) | (with_reducible refine Kd.C_drew ?_)))
           (case side4 => exact HC423_1.out)
           rintro e w' ⟨rfl, ⟨nd, rfl⟩⟩
           refine ⟨_, rfl, ?_⟩
           refine hK.out _ _ ⟨hHeld.1, hHeld.2.1, hHeld.2.2.1, hHeld.2.2.2.1, hHeld.2.2.2.2.1, hHeld.2.2.2.2.2.1, hHeld.2.2.2.2.2.2.1, hHeld.2.2.2.2.2.2.2⟩ (fun hHeld => ?_)
           clear hK K
           refine norm_ (a' := ?_) ?_ ?_
           rotate_left
           ·show Act.put _ (some 52) _ = _
            simp only [Act.put, List.setIfInBounds_toArray, List.set_cons_zero, List.set_cons_succ, i64_w, i32_w]
            rfl
           refine pure_ (i := 23) (N := some 53) (v := ?_) (a' := ?_) #[true, true, true, true, true, true, true, true, true, true, true, true, true, true, true, true, true, true, true, true, true, true, true, true, false] rfl rfl (any_of HT_.out (by kernel_rfl)) (fun _ _ _ h => h) (Or.inl ⟨by rfl, ?_⟩) ?_ ?_
           rotate_left
           ·intro w'
            go_simp
            with_reducible rfl
           rotate_left
           ·simp only [Act.put, List.setIfInBounds_toArray, List.set_cons_zero, List.set_cons_succ, i64_w, i32_w]
            rfl
           refine pure_ (i := 24) (N := some 54) (v := ?_) (a' := ?_) #[true, true, true, true, true, true, true, true, true, true, true, true, true, true, true, true, true, true, true, true, true, true, true, true, true] rfl rfl (any_of HT_.out (by kernel_rfl)) (fun _ _ _ h => h) (Or.inl ⟨by rfl, ?_⟩) ?_ ?_
           rotate_left
           ·intro w'
            go_simp
            with_reducible rfl
           rotate_left
           ·simp only [Act.put, List.setIfInBounds_toArray, List.set_cons_zero, List.set_cons_succ, i64_w, i32_w]
            rfl
           refine done_ (done_of HT_.out (by kernel_rfl)) ?_
           try go_wp2
           go_meet
           case rel => exact ⟨_, (!t424), (by first | rfl | (simp; done) | (simp [*]; done)), H', ⟨by have := HK1.out; first | omega | exact Nat.le_refl _⟩, ⟨by (with_reducible repeat (first | apply Kd.S_alloc | apply Kd.S_drewN | apply Kd.S_drew)); exact HO_5.out⟩, ⟨by (with_reducible repeat (first | apply Kd.S_alloc | apply Kd.S_drewN | apply Kd.S_drew)); exact HO_6.out⟩, ⟨by (with_reducible repeat (first | refine blk_drewN ?_ _ | refine blk_drew ?_ | refine blk_alloc ?_ _)); exact BK411.out⟩, ⟨by repeat (first | (with_reducible first | exact HB.out | apply below_alloc | apply pw_below_drewN | apply below_drew1 | refine below_set ?_ GE411.out) | exact HB.out)⟩⟩
          ·rw [if_neg c24] at H
           have c24b0 : (((rd_T40 t413 x8_1).f0) == ((rd_T40 t416 x8_1).f0)) = false := beq_eq_false_iff_ne.mpr c24
           have c24b1 : (((rd_T40 t413 x8_1).f0) != ((rd_T40 t416 x8_1).f0)) = true := bne_iff_ne.mpr c24
           have H' := Aside0.mk H
           clear H
           try go_wp2
           have n0_ := Aside0.mk (Kd.S_drew HO_5.out)
           have n1_ := Aside0.mk (Kd.S_drew HO_6.out)
           have n2_ := Aside0.mk (blk_drew BK411.out)
           have n3_ := Aside0.mk (below_drew1 HB.out)
           clear HO_5
           clear HO_6
           clear BK411
           clear HB
           have HO_5 := n0_
           have HO_6 := n1_
           have BK411 := n2_
           have HB := n3_
           clear n0_ n1_ n2_ n3_
           have p420 : 0 ≤ (x8_1 : Int) := of_decide_eq_true (by first | (with_reducible assumption) | assumption)
           have q420 : x8_1 < (t413.length : Int) := of_decide_eq_true (by first | (with_reducible assumption) | assumption)
           obtain ⟨ad420, A420_1, c420_1, e420, hx420_0, hx420_1, hl420_1, hi420_1⟩ := at_T40 (Kd.S_reads' HO_5.out).2.2 x8_1 p420 q420
           cases e420
           obtain ⟨ce420, hce420, hMe420, hcc420⟩ := Kd.S_get HO_5.out z40 x8_1 p420 (by first | exact q420 | exact of_decide_eq_true (by first | (with_reducible assumption) | assumption) | (have e_ := (Kd.S_reads' HO_5.out).1; omega))
           obtain ⟨ve420_1, rfl, ge420_1⟩ := k40_openM hMe420
           have hv420_1 := hcc420 1 _ rfl
           rw [add_field _ _ 1 (by omega)] at hv420_1
           replace hv420_1 := Option.some.inj (hv420_1.symm.trans hx420_1)
           rw [hv420_1] at ge420_1
           have HL420_1 := Aside0.mk (show Kd.R (Kd.int .i64) 3 _ _ _ _ ((rd_T40 t413 x8_1).f1) from ge420_1)
           clear hv420_1 ge420_1
           clear hcc420 hce420
           have HR420_1 := Aside0.mk hi420_1
           have HC420_1 := Aside0.mk hl420_1
           clear hi420_1 hl420_1
           replace p420 := eq_true p420
           replace q420 := eq_true q420
           have p421 : 0 ≤ (x8_1 : Int) := of_decide_eq_true (by first | (with_reducible assumption) | assumption)
           have q421 : x8_1 < (t416.length : Int) := of_decide_eq_true (by first | (with_reducible assumption) | assumption)
           obtain ⟨ad421, A421_1, c421_1, e421, hx421_0, hx421_1, hl421_1, hi421_1⟩ := at_T40 (Kd.S_reads' HO_6.out).2.2 x8_1 p421 q421
           cases e421
           obtain ⟨ce421, hce421, hMe421, hcc421⟩ := Kd.S_get HO_6.out z40 x8_1 p421 (by first | exact q421 | exact of_decide_eq_true (by first | (with_reducible assumption) | assumption) | (have e_ := (Kd.S_reads' HO_6.out).1; omega))
           obtain ⟨ve421_1, rfl, ge421_1⟩ := k40_openM hMe421
           have hv421_1 := hcc421 1 _ rfl
           rw [add_field _ _ 1 (by omega)] at hv421_1
           replace hv421_1 := Option.some.inj (hv421_1.symm.trans hx421_1)
           rw [hv421_1] at ge421_1
           have HL421_1 := Aside0.mk (show Kd.R (Kd.int .i64) 3 _ _ _ _ ((rd_T40 t416 x8_1).f1) from ge421_1)
           clear hv421_1 ge421_1
           clear hcc421 hce421
           have HR421_1 := Aside0.mk hi421_1
           have HC421_1 := Aside0.mk hl421_1
           clear hi421_1 hl421_1
           replace p421 := eq_true p421
           replace q421 := eq_true q421
           refine start_ (n := 25) (S := fun w' => w'.cell? (ad420.add ((x8_1).toNat * 2)) = some (.int .i64 ((rd_T40 t413 x8_1).f0)) ∧ w'.cell? ⟨(ad420.add ((x8_1).toNat * 2)).block, (ad420.add ((x8_1).toNat * 2)).off + 1, none⟩ = some (.slice A420_1 ((rd_T40 t413 x8_1).f1).length c420_1) ∧ w'.cell? (ad421.add ((x8_1).toNat * 2)) = some (.int .i64 ((rd_T40 t416 x8_1).f0)) ∧ w'.cell? ⟨(ad421.add ((x8_1).toNat * 2)).block, (ad421.add ((x8_1).toNat * 2)).off + 1, none⟩ = some (.slice A421_1 ((rd_T40 t416 x8_1).f1).length c421_1)) (ds := []) #[false, false, false, false, false, false, false, false, false, false, false, false, false, false, false, false, false, false, false, false, false, false, false, false, false] (by kernel_rfl) rfl rfl ⟨hx420_0, hx420_1, hx421_0, hx421_1⟩ (fun hHeld => ?_); refine with_tabW davitlaw09_LoopRight.tab12 davitlaw09_LoopRight.bits12 (fun HT_ HW_ => ?_)
           generalize wr.drew = w27 at HO_5 HO_6 BK411 HB HL420_1 HL421_1 HR420_1 HR421_1 hx420_0 hx420_1 hx421_0 hx421_1 hHeld ⊢
           refine pure_ (i := 0) (N := some 30) (v := ?_) (a' := ?_) #[true, false, false, false, false, false, false, false, false, false, false, false, false, false, false, false, false, false, false, false, false, false, false, false, false] rfl rfl (any_of HT_.out (by kernel_rfl)) (fun _ _ _ h => h) (Or.inl ⟨by rfl, ?_⟩) ?_ ?_
           rotate_left
           ·intro w'
            go_simp
            with_reducible rfl
           rotate_left
           ·simp only [Act.put, List.setIfInBounds_toArray, List.set_cons_zero, List.set_cons_succ, i64_w, i32_w]
            rfl
           refine pure_ (i := 1) (N := some 31) (v := ?_) (a' := ?_) #[true, true, false, false, false, false, false, false, false, false, false, false, false, false, false, false, false, false, false, false, false, false, false, false, false] rfl rfl (any_of HT_.out (by kernel_rfl)) (fun _ _ _ h => h) (Or.inl ⟨by rfl, ?_⟩) ?_ ?_
           rotate_left
           ·intro w'
            go_simp
            with_reducible rfl
           rotate_left
           ·simp only [Act.put, List.setIfInBounds_toArray, List.set_cons_zero, List.set_cons_succ, i64_w, i32_w]
            rfl
           refine pure_ (i := 2) (N := some 32) (v := ?_) (a' := ?_) #[true, true, true, false, false, false, false, false, false, false, false, false, false, false, false, false, false, false, false, false, false, false, false, false, false] rfl rfl (any_of HT_.out (by kernel_rfl)) (fun _ _ _ h => h) (Or.inl ⟨by rfl, ?_⟩) ?_ ?_
           rotate_left
           ·intro w'
            go_simp
            with_reducible rfl
           rotate_left
           ·simp only [Act.put, List.setIfInBounds_toArray, List.set_cons_zero, List.set_cons_succ, i64_w, i32_w]
            rfl
           refine pure_ (i := 3) (N := some 33) (v := ?_) (a' := ?_) #[true, true, true, true, false, false, false, false, false, false, false, false, false, false, false, false, false, false, false, false, false, false, false, false, false] rfl rfl (any_of HT_.out (by kernel_rfl)) (fun _ _ _ h => h) (Or.inl ⟨by rfl, ?_⟩) ?_ ?_
           rotate_left
           ·intro w'
            go_simp
            with_reducible rfl
           rotate_left
           ·simp only [Act.put, List.setIfInBounds_toArray, List.set_cons_zero, List.set_cons_succ, i64_w, i32_w]
            rfl
           refine pure_ (i := 5) (N := some 35) (v := ?_) (a' := ?_) #[true, true, true, true, false, true, false, false, false, false, false, false, false, false, false, false, false, false, false, false, false, false, false, false, false] rfl rfl (any_of HT_.out (by kernel_rfl)) (fun _ _ _ h => h) (Or.inl ⟨by rfl, ?_⟩) ?_ ?_
           rotate_left
           ·intro w'
            go_simp
            with_reducible rfl
           rotate_left
           ·simp only [Act.put, List.setIfInBounds_toArray, List.set_cons_zero, List.set_cons_succ, i64_w, i32_w]
            rfl
           refine pure_ (i := 6) (N := some 36) (v := ?_) (a' := ?_) #[true, true, true, true, false, true, true, false, false, false, false, false, false, false, false, false, false, false, false, false, false, false, false, false, false] rfl rfl (any_of HT_.out (by kernel_rfl)) (fun _ _ _ h => h) (Or.inl ⟨by rfl, ?_⟩) ?_ ?_
           rotate_left
           ·intro w'
            go_simp
            with_reducible rfl
           rotate_left
           ·simp only [Act.put, List.setIfInBounds_toArray, List.set_cons_zero, List.set_cons_succ, i64_w, i32_w]
            rfl
           refine pure_ (i := 7) (N := some 37) (v := ?_) (a' := ?_) #[true, true, true, true, false, true, true, true, false, false, false, false, false, false, false, false, false, false, false, false, false, false, false, false, false] rfl rfl (any_of HT_.out (by kernel_rfl)) (fun _ _ _ h => h) (Or.inl ⟨by rfl, ?_⟩) ?_ ?_
           rotate_left
           ·intro w'
            go_simp
            with_reducible rfl
           rotate_left
           ·simp only [Act.put, List.setIfInBounds_toArray, List.set_cons_zero, List.set_cons_succ, i64_w, i32_w]
            rfl
           refine pure_ (i := 8) (N := some 38) (v := ?_) (a' := ?_) #[true, true, true, true, false, true, true, true, true, false, false, false, false, false, false, false, false, false, false, false, false, false, false, false, false] rfl rfl (any_of HT_.out (by kernel_rfl)) (fun _ _ _ h => h) (Or.inl ⟨by rfl, ?_⟩) ?_ ?_
           rotate_left
           ·intro w'
            go_simp
            with_reducible rfl
           rotate_left
           ·simp only [Act.put, List.setIfInBounds_toArray, List.set_cons_zero, List.set_cons_succ, i64_w, i32_w]
            rfl
           refine take_ (i := 4) (N := some 34) (v := ?_) (a' := ?_) #[true, true, true, true, true, true, true, true, true, false, false, false, false, false, false, false, false, false, false, false, false, false, false, false, false] rfl rfl (take_ofW HT_.out HW_.out (by kernel_rfl)) (fun _ _ _ h => h) (Or.inl ⟨by rfl, ?_⟩) hHeld ?_ ?_
           rotate_left
           ·rintro w' ⟨s0, s1, s2, s3⟩
            go_simp
            with_reducible rfl
           rotate_left
           ·simp only [Act.put, List.setIfInBounds_toArray, List.set_cons_zero, List.set_cons_succ, i64_w, i32_w]
            rfl
           refine take_ (i := 9) (N := some 39) (v := ?_) (a' := ?_) #[true, true, true, true, true, true, true, true, true, true, false, false, false, false, false, false, false, false, false, false, false, false, false, false, false] rfl rfl (take_ofW HT_.out HW_.out (by kernel_rfl)) (fun _ _ _ h => h) (Or.inl ⟨by rfl, ?_⟩) hHeld ?_ ?_
           rotate_left
           ·rintro w' ⟨s0, s1, s2, s3⟩
            go_simp
            with_reducible rfl
           rotate_left
           ·simp only [Act.put, List.setIfInBounds_toArray, List.set_cons_zero, List.set_cons_succ, i64_w, i32_w]
            rfl
           refine pure_ (i := 10) (N := some 40) (v := ?_) (a' := ?_) #[true, true, true, true, true, true, true, true, true, true, true, false, false, false, false, false, false, false, false, false, false, false, false, false, false] rfl rfl (any_of HT_.out (by kernel_rfl)) (fun _ _ _ h => h) (Or.inl ⟨by rfl, ?_⟩) ?_ ?_
           rotate_left
           ·intro w'
            go_simp
            with_reducible rfl
           rotate_left
           ·simp only [Act.put, List.setIfInBounds_toArray, List.set_cons_zero, List.set_cons_succ, i64_w, i32_w]
            rfl
           refine pure_ (i := 11) (N := some 41) (v := ?_) (a' := ?_) #[true, true, true, true, true, true, true, true, true, true, true, true, false, false, false, false, false, false, false, false, false, false, false, false, false] rfl rfl (any_of HT_.out (by kernel_rfl)) (fun _ _ _ h => h) (Or.inl ⟨by rfl, ?_⟩) ?_ ?_
           rotate_left
           ·intro w'
            go_simp
            with_reducible rfl
           rotate_left
           ·simp only [Act.put, List.setIfInBounds_toArray, List.set_cons_zero, List.set_cons_succ, i64_w, i32_w]
            rfl
           refine pure_ (i := 12) (N := some 42) (v := undef) (a' := ?_) #[true, true, true, true, true, true, true, true, true, true, true, true, true, false, false, false, false, false, false, false, false, false, false, false, false] rfl rfl (any_of HT_.out (by kernel_rfl)) (fun _ _ _ h => h) (Or.inr ⟨by rfl, rfl⟩) ?_ ?_
           rotate_left
           ·simp only [Act.put, List.setIfInBounds_toArray, List.set_cons_zero, List.set_cons_succ, i64_w, i32_w]
            rfl
           refine pure_ (i := 13) (N := some 43) (v := undef) (a' := ?_) #[true, true, true, true, true, true, true, true, true, true, true, true, true, true, false, false, false, false, false, false, false, false, false, false, false] rfl rfl (any_of HT_.out (by kernel_rfl)) (fun _ _ _ h => h) (Or.inr ⟨by rfl, rfl⟩) ?_ ?_
           rotate_left
           ·simp only [Act.put, List.setIfInBounds_toArray, List.set_cons_zero, List.set_cons_succ, i64_w, i32_w]
            rfl
           refine pure_ (i := 14) (N := some 44) (v := undef) (a' := ?_) #[true, true, true, true, true, true, true, true, true, true, true, true, true, true, true, false, false, false, false, false, false, false, false, false, false] rfl rfl (any_of HT_.out (by kernel_rfl)) (fun _ _ _ h => h) (Or.inr ⟨by rfl, rfl⟩) ?_ ?_
           rotate_left
           ·simp only [Act.put, List.setIfInBounds_toArray, List.set_cons_zero, List.set_cons_succ, i64_w, i32_w]
            rfl
           refine pure_ (i := 15) (N := some 45) (v := undef) (a' := ?_) #[true, true, true, true, true, true, true, true, true, true, true, true, true, true, true, true, false, false, false, false, false, false, false, false, false] rfl rfl (any_of HT_.out (by kernel_rfl)) (fun _ _ _ h => h) (Or.inr ⟨by rfl, rfl⟩) ?_ ?_
           rotate_left
           ·simp only [Act.put, List.setIfInBounds_toArray, List.set_cons_zero, List.set_cons_succ, i64_w, i32_w]
            rfl
           refine pure_ (i := 16) (N := some 46) (v := undef) (a' := ?_) #[true, true, true, true, true, true, true, true, true, true, true, true, true, true, true, true, true, false, false, false, false, false, false, false, false] rfl rfl (any_of HT_.out (by kernel_rfl)) (fun _ _ _ h => h) (Or.inr ⟨by rfl, rfl⟩) ?_ ?_
           rotate_left
           ·simp only [Act.put, List.setIfInBounds_toArray, List.set_cons_zero, List.set_cons_succ, i64_w, i32_w]
            rfl
           refine pure_ (i := 17) (N := some 47) (v := undef) (a' := ?_) #[true, true, true, true, true, true, true, true, true, true, true, true, true, true, true, true, true, true, false, false, false, false, false, false, false] rfl rfl (any_of HT_.out (by kernel_rfl)) (fun _ _ _ h => h) (Or.inr ⟨by rfl, rfl⟩) ?_ ?_
           rotate_left
           ·simp only [Act.put, List.setIfInBounds_toArray, List.set_cons_zero, List.set_cons_succ, i64_w, i32_w]
            rfl
           refine pure_ (i := 18) (N := some 48) (v := undef) (a' := ?_) #[true, true, true, true, true, true, true, true, true, true, true, true, true, true, true, true, true, true, true, false, false, false, false, false, false] rfl rfl (any_of HT_.out (by kernel_rfl)) (fun _ _ _ h => h) (Or.inr ⟨by rfl, rfl⟩) ?_ ?_
           rotate_left
           ·simp only [Act.put, List.setIfInBounds_toArray, List.set_cons_zero, List.set_cons_succ, i64_w, i32_w]
            rfl
           refine pure_ (i := 19) (N := some 49) (v := undef) (a' := ?_) #[true, true, true, true, true, true, true, true, true, true, true, true, true, true, true, true, true, true, true, true, false, false, false, false, false] rfl rfl (any_of HT_.out (by kernel_rfl)) (fun _ _ _ h => h) (Or.inr ⟨by rfl, rfl⟩) ?_ ?_
           rotate_left
           ·simp only [Act.put, List.setIfInBounds_toArray, List.set_cons_zero, List.set_cons_succ, i64_w, i32_w]
            rfl
           refine pure_ (i := 20) (N := some 50) (v := undef) (a' := ?_) #[true, true, true, true, true, true, true, true, true, true, true, true, true, true, true, true, true, true, true, true, true, false, false, false, false] rfl rfl (any_of HT_.out (by kernel_rfl)) (fun _ _ _ h => h) (Or.inr ⟨by rfl, rfl⟩) ?_ ?_
           rotate_left
           ·simp only [Act.put, List.setIfInBounds_toArray, List.set_cons_zero, List.set_cons_succ, i64_w, i32_w]
            rfl
           refine pure_ (i := 21) (N := some 51) (v := undef) (a' := ?_) #[true, true, true, true, true, true, true, true, true, true, true, true, true, true, true, true, true, true, true, true, true, true, false, false, false] rfl rfl (any_of HT_.out (by kernel_rfl)) (fun _ _ _ h => h) (Or.inr ⟨by rfl, rfl⟩) ?_ ?_
           rotate_left
           ·simp only [Act.put, List.setIfInBounds_toArray, List.set_cons_zero, List.set_cons_succ, i64_w, i32_w]
            rfl
           refine pure_ (i := 22) (N := some 52) (v := undef) (a' := ?_) #[true, true, true, true, true, true, true, true, true, true, true, true, true, true, true, true, true, true, true, true, true, true, true, false, false] rfl rfl (any_of HT_.out (by kernel_rfl)) (fun _ _ _ h => h) (Or.inr ⟨by rfl, rfl⟩) ?_ ?_
           rotate_left
           ·simp only [Act.put, List.setIfInBounds_toArray, List.set_cons_zero, List.set_cons_succ, i64_w, i32_w]
            rfl
           refine pure_ (i := 23) (N := some 53) (v := undef) (a' := ?_) #[true, true, true, true, true, true, true, true, true, true, true, true, true, true, true, true, true, true, true, true, true, true, true, true, false] rfl rfl (any_of HT_.out (by kernel_rfl)) (fun _ _ _ h => h) (Or.inr ⟨by rfl, rfl⟩) ?_ ?_
           rotate_left
           ·simp only [Act.put, List.setIfInBounds_toArray, List.set_cons_zero, List.set_cons_succ, i64_w, i32_w]
            rfl
           refine pure_ (i := 24) (N := some 54) (v := ?_) (a' := ?_) #[true, true, true, true, true, true, true, true, true, true, true, true, true, true, true, true, true, true, true, true, true, true, true, true, true] rfl rfl (any_of HT_.out (by kernel_rfl)) (fun _ _ _ h => h) (Or.inl ⟨by rfl, ?_⟩) ?_ ?_
           rotate_left
           ·intro w'
            go_simp
            with_reducible rfl
           rotate_left
           ·simp only [Act.put, List.setIfInBounds_toArray, List.set_cons_zero, List.set_cons_succ, i64_w, i32_w]
            rfl
           refine done_ (done_of HT_.out (by kernel_rfl)) ?_
           try go_wp2
           go_meet
           case rel => exact ⟨_, (true), (by first | rfl | (simp; done) | (simp [*]; done)), H', ⟨by have := HK1.out; first | omega | exact Nat.le_refl _⟩, ⟨by (with_reducible repeat (first | apply Kd.S_alloc | apply Kd.S_drewN | apply Kd.S_drew)); exact HO_5.out⟩, ⟨by (with_reducible repeat (first | apply Kd.S_alloc | apply Kd.S_drewN | apply Kd.S_drew)); exact HO_6.out⟩, ⟨by (with_reducible repeat (first | refine blk_drewN ?_ _ | refine blk_drew ?_ | refine blk_alloc ?_ _)); exact BK411.out⟩, ⟨by repeat (first | (with_reducible first | exact HB.out | apply below_alloc | apply pw_below_drewN | apply below_drew1 | refine below_set ?_ GE411.out) | exact HB.out)⟩⟩
         ·rw [if_neg c23] at H
          exact absurd H (by simp)
        ·rw [if_neg c22] at H
         exact absurd H (by simp)
       case rest =>
        clear HC21
        try clear c1
        try clear c2
        try clear p2
        try clear c4
        try clear p4
        try clear q4
        try clear hx4
        try clear c5
        try clear c5b0
        try clear c5b1
        try clear c7
        try clear c11
        try clear c11b0
        try clear c11b1
        try clear c11b2
        try clear c12
        try clear c20
        try clear c20b0
        try clear c22
        try clear c22b0
        try clear c23
        try clear c23b0
        try clear c24
        try clear c24b0
        try clear c24b1
        try clear hcz14_0
        try clear hcz14_1
        try clear hcz14_2
        try clear hcz8_0
        try clear hcz8_1
        try clear hcz8_2
        try clear hfz14_0
        try clear hfz14_1
        try clear hfz14_2
        try clear hfz8_0
        try clear hfz8_1
        try clear hfz8_2
        try clear hx420_0
        try clear hx420_1
        try clear hx421_0
        try clear hx421_1
        try clear hx422_0
        try clear hx422_1
        try clear hx423_0
        try clear hx423_1
        try clear p2
        try clear p420
        try clear p421
        try clear p422
        try clear p423
        try clear q420
        try clear q421
        try clear q422
        try clear q423
        obtain ⟨kq, x54_20, rfl, HA, HJ20, HO_5, HO_6, BK411, HB⟩ := hcut
        cases kq with
        | zero => exact absurd HA.out (by simp [davitlaw09_LoopRight.j1])
        | succ kj20 =>
         have H := HA.out
         clear HA
         simp only [davitlaw09_LoopRight.j1] at H
         by_cases c28 : x54_20 = true
         ·subst c28
          have H1 : (some false) = some r := by rw [if_pos rfl] at H; exact H
          clear H
          have H := H1
          clear H1
          obtain rfl := Option.some.inj H
          go_wp2
          go_ret
          exact ⟨by first | rfl | (simp [errW_none, errW_some] <;> rfl) | (simp [*, errW_none, errW_some] <;> rfl), by repeat (first | (with_reducible first | exact HB.out | apply below_alloc | apply pw_below_drewN | apply below_drew1 | refine below_set ?_ GE411.out) | exact HB.out)⟩
         ·replace c28 := Bool.eq_false_iff.mpr c28
          subst c28
          have H1 : (if 0 ≤ x8_1 then (if x8_1 < (t416.length : Int) then ((davitref07_Has.f kj20 ((rd_T40 t416 x8_1).f1) a1).bind fun t426 => (if t426 = true then (davitlaw09_LoopRight.l0 kj20 a1 t413 t416 (wrap64 (x7_1 + 1)) (wrap64 (x8_1 + 1)) a0_0 a0_1 l0_2) else (davitlaw09_LoopRight.l0 kj20 a1 t413 t416 x7_1 (wrap64 (x8_1 + 1)) a0_0 a0_1 l0_2))) else (none)) else (none)) = some r := by rw [if_neg (show ¬ (false = true) by decide)] at H; exact H
          clear H
          have H := H1
          clear H1
          by_cases c29 : 0 ≤ x8_1
          ·rw [if_pos c29] at H
           have c29b0 : decide (0 ≤ x8_1) = true := decide_eq_true c29
           clear c29
           by_cases c30 : x8_1 < (t416.length : Int)
           ·rw [if_pos c30] at H
            have c30b0 : decide (x8_1 < (t416.length : Int)) = true := decide_eq_true c30
            clear c30
            replace H := Option.bind_eq_some_iff.mp H
            obtain ⟨t426, A310, H⟩ := H
            replace H : (if t426 = true then (davitlaw09_LoopRight.l0 kj20 a1 t413 t416 (wrap64 (x7_1 + 1)) (wrap64 (x8_1 + 1)) a0_0 a0_1 l0_2) else (davitlaw09_LoopRight.l0 kj20 a1 t413 t416 x7_1 (wrap64 (x8_1 + 1)) a0_0 a0_1 l0_2)) = some r := H
            have A31 := Aside0.mk A310
            clear A310
            by_cases c32 : t426 = true
            ·subst c32
             have H1 : (davitlaw09_LoopRight.l0 kj20 a1 t413 t416 (wrap64 (x7_1 + 1)) (wrap64 (x8_1 + 1)) a0_0 a0_1 l0_2) = some r := by rw [if_pos rfl] at H; exact H
             clear H
             have H := H1
             clear H1
             have H' := Aside0.mk H
             clear H
             have p425 : 0 ≤ (x8_1 : Int) := of_decide_eq_true (by first | (with_reducible assumption) | assumption)
             have q425 : x8_1 < (t416.length : Int) := of_decide_eq_true (by first | (with_reducible assumption) | assumption)
             obtain ⟨ad425, A425_1, c425_1, e425, hx425_0, hx425_1, hl425_1, hi425_1⟩ := at_T40 (Kd.S_reads' HO_6.out).2.2 x8_1 p425 q425
             cases e425
             obtain ⟨ce425, hce425, hMe425, hcc425⟩ := Kd.S_get HO_6.out z40 x8_1 p425 (by first | exact q425 | exact of_decide_eq_true (by first | (with_reducible assumption) | assumption) | (have e_ := (Kd.S_reads' HO_6.out).1; omega))
             obtain ⟨ve425_1, rfl, ge425_1⟩ := k40_openM hMe425
             have hv425_1 := hcc425 1 _ rfl
             rw [add_field _ _ 1 (by omega)] at hv425_1
             replace hv425_1 := Option.some.inj (hv425_1.symm.trans hx425_1)
             rw [hv425_1] at ge425_1
             have HL425_1 := Aside0.mk (show Kd.R (Kd.int .i64) 3 _ _ _ _ ((rd_T40 t416 x8_1).f1) from ge425_1)
             clear hv425_1 ge425_1
             clear hcc425 hce425
             have HR425_1 := Aside0.mk hi425_1
             have HC425_1 := Aside0.mk hl425_1
             clear hi425_1 hl425_1
             replace p425 := eq_true p425
             replace q425 := eq_true q425
             go_wp2_with (first | ((with_reducible refine gate_callee (f := 21) rfl ?_); refine goesL_ (some 61) rfl rfl Try.func21 (by kernel_rfl) rfl #[.slice A425_1 ((rd_T40 t416 x8_1).f1).length c425_1, .int .i64 a1] rfl (by (try simp only [List.map_toArray, List.map_cons, List.map_nil]); first | done | rfl | (simp only [List.length_drop, List.length_take]; rfl)) ?_; (with_reducible refine (davitref07_Has.calls kj20 _ _ ((rd_T40 t416 x8_1).f1) a1 true _ ?side1 ?side2 A31.out).mono ?_); (case side1 => repeat (first | exact (by repeat (first | (with_reducible exact HR425_1.out) | (with_reducible refine Kd.C_alloc ?_ _) | (with_reducible refine Kd.C_drewN ?_ _) | (with_reducible refine Kd.C_drew ?_) | exact HR425_1.out)) | (with_reducible refine Kd.C_alloc ?_ _) | (with_reducible refine Kd.C_drewN ?_ _) | (with_reducible refine Kd.C_drew ?_))); (case side2 => exact HC425_1.out); rintro e w' ⟨rfl, ⟨nd, rfl⟩⟩; refine ⟨_, rfl, ?_⟩))
             go_roundg kj20
             case measure => have := HK1.out; have := HJ20.out; omega
             case rel => exact ⟨(wrap64 (x7_1 + 1)), (wrap64 (x8_1 + 1)), (by first | rfl | (simp; done) | (simp [*]; done)), (by first | rfl | (simp; done) | (simp [*]; done)), H', ⟨by have := HK1.out; have := HJ20.out; omega⟩, ⟨by (with_reducible repeat (first | apply Kd.S_alloc | apply Kd.S_drewN | apply Kd.S_drew)); exact HO_5.out⟩, ⟨by (with_reducible repeat (first | apply Kd.S_alloc | apply Kd.S_drewN | apply Kd.S_drew)); exact HO_6.out⟩, ⟨by (with_reducible repeat (first | refine blk_drewN ?_ _ | refine blk_drew ?_ | refine blk_alloc ?_ _)); exact BK411.out⟩, ⟨by repeat (first | (with_reducible first | exact HB.out | apply below_alloc | apply pw_below_drewN | apply below_drew1 | refine below_set ?_ GE411.out) | exact HB.out)⟩⟩
            ·replace c32 := Bool.eq_false_iff.mpr c32
             subst c32
             have H1 : (davitlaw09_LoopRight.l0 kj20 a1 t413 t416 x7_1 (wrap64 (x8_1 + 1)) a0_0 a0_1 l0_2) = some r := by rw [if_neg (show ¬ (false = true) by decide)] at H; exact H
             clear H
             have H := H1
             clear H1
             have H' := Aside0.mk H
             clear H
             have p425 : 0 ≤ (x8_1 : Int) := of_decide_eq_true (by first | (with_reducible assumption) | assumption)
             have q425 : x8_1 < (t416.length : Int) := of_decide_eq_true (by first | (with_reducible assumption) | assumption)
             obtain ⟨ad425, A425_1, c425_1, e425, hx425_0, hx425_1, hl425_1, hi425_1⟩ := at_T40 (Kd.S_reads' HO_6.out).2.2 x8_1 p425 q425
             cases e425
             obtain ⟨ce425, hce425, hMe425, hcc425⟩ := Kd.S_get HO_6.out z40 x8_1 p425 (by first | exact q425 | exact of_decide_eq_true (by first | (with_reducible assumption) | assumption) | (have e_ := (Kd.S_reads' HO_6.out).1; omega))
             obtain ⟨ve425_1, rfl, ge425_1⟩ := k40_openM hMe425
             have hv425_1 := hcc425 1 _ rfl
             rw [add_field _ _ 1 (by omega)] at hv425_1
             replace hv425_1 := Option.some.inj (hv425_1.symm.trans hx425_1)
             rw [hv425_1] at ge425_1
             have HL425_1 := Aside0.mk (show Kd.R (Kd.int .i64) 3 _ _ _ _ ((rd_T40 t416 x8_1).f1) from ge425_1)
             clear hv425_1 ge425_1
             clear hcc425 hce425
             have HR425_1 := Aside0.mk hi425_1
             have HC425_1 := Aside0.mk hl425_1
             clear hi425_1 hl425_1
             replace p425 := eq_true p425
             replace q425 := eq_true q425
             go_wp2_with (first | ((with_reducible refine gate_callee (f := 21) rfl ?_); refine goesL_ (some 61) rfl rfl Try.func21 (by kernel_rfl) rfl #[.slice A425_1 ((rd_T40 t416 x8_1).f1).length c425_1, .int .i64 a1] rfl (by (try simp only [List.map_toArray, List.map_cons, List.map_nil]); first | done | rfl | (simp only [List.length_drop, List.length_take]; rfl)) ?_; (with_reducible refine (davitref07_Has.calls kj20 _ _ ((rd_T40 t416 x8_1).f1) a1 false _ ?side1 ?side2 A31.out).mono ?_); (case side1 => repeat (first | exact (by repeat (first | (with_reducible exact HR425_1.out) | (with_reducible refine Kd.C_alloc ?_ _) | (with_reducible refine Kd.C_drewN ?_ _) | (with_reducible refine Kd.C_drew ?_) | exact HR425_1.out)) | (with_reducible refine Kd.C_alloc ?_ _) | (with_reducible refine Kd.C_drewN ?_ _) | (with_reducible refine Kd.C_drew ?_))); (case side2 => exact HC425_1.out); rintro e w' ⟨rfl, ⟨nd, rfl⟩⟩; refine ⟨_, rfl, ?_⟩))
             go_roundg kj20
             case measure => have := HK1.out; have := HJ20.out; omega
             case rel => exact ⟨(x7_1), (wrap64 (x8_1 + 1)), (by first | rfl | (simp; done) | (simp [*]; done)), (by first | rfl | (simp; done) | (simp [*]; done)), H', ⟨by have := HK1.out; have := HJ20.out; omega⟩, ⟨by (with_reducible repeat (first | apply Kd.S_alloc | apply Kd.S_drewN | apply Kd.S_drew)); exact HO_5.out⟩, ⟨by (with_reducible repeat (first | apply Kd.S_alloc | apply Kd.S_drewN | apply Kd.S_drew)); exact HO_6.out⟩, ⟨by (with_reducible repeat (first | refine blk_drewN ?_ _ | refine blk_drew ?_ | refine blk_alloc ?_ _)); exact BK411.out⟩, ⟨by repeat (first | (with_reducible first | exact HB.out | apply below_alloc | apply pw_below_drewN | apply below_drew1 | refine below_set ?_ GE411.out) | exact HB.out)⟩⟩
           ·rw [if_neg c30] at H
            exact absurd H (by simp)
          ·rw [if_neg c29] at H
           exact absurd H (by simp)
      ·rw [if_neg c20] at H
       have c20b0 : decide (x8_1 < (t413.length : Int)) = false := decide_eq_false c20
       clear c20
       replace H := Option.bind_eq_some_iff.mp H
       obtain ⟨t419, A330, H⟩ := H
       replace H : (some (t419 == x7_1)) = some r := H
       have A33 := Aside0.mk A330
       clear A330
       obtain rfl := Option.some.inj H
       have hcz34_0 : wr.cell? ⟨gb411, 0, none⟩ = some (.int .i64 a0_0) := (blk_cell BK411.out 0).trans rfl
       have hcz34_1 : wr.cell? ⟨gb411, 1, none⟩ = some (.int .i64 a0_1) := (blk_cell BK411.out 1).trans rfl
       have hcz34_2 : wr.cell? ⟨gb411, 2, none⟩ = some (.slice A0_2 l0_2.length c0_2) := (blk_cell BK411.out 2).trans rfl
       have hfz34_0 := blk_frozen BK411.out 0
       have hfz34_1 := blk_frozen BK411.out 1
       have hfz34_2 := blk_frozen BK411.out 2
       go_wp2_with (first | ((with_reducible refine gate_callee (f := 25) rfl ?_); refine goesL_ (some 66) rfl rfl Try.func25 (by kernel_rfl) rfl #[.agg #[.int .i64 a0_0, .int .i64 a0_1, .slice A0_2 l0_2.length c0_2], .int .i64 a1] rfl (by (try simp only [List.map_toArray, List.map_cons, List.map_nil]); first | done | rfl | (simp only [List.length_drop, List.length_take]; rfl)) ?_; (with_reducible refine (loop_Deep.calls k1 a0_0 a0_1 _ _ l0_2 a1 t419 _ ?side1 ?side2 A33.out).mono ?_); (case side1 => repeat (first | exact (Kd.C_below HR0_2.out HB.out) | (with_reducible refine Kd.C_alloc ?_ _) | (with_reducible refine Kd.C_drewN ?_ _) | (with_reducible refine Kd.C_drew ?_))); (case side2 => exact HC0_2.out); rintro e w35 ⟨rfl, hb⟩; refine ⟨_, rfl, ?_⟩; have n0_ := Aside0.mk (Kd.S_below (by (with_reducible repeat (first | apply Kd.S_alloc | apply Kd.S_drewN | apply Kd.S_drew)); exact HO_5.out) hb); have n1_ := Aside0.mk (Kd.S_below (by (with_reducible repeat (first | apply Kd.S_alloc | apply Kd.S_drewN | apply Kd.S_drew)); exact HO_6.out) hb); have n2_ := Aside0.mk (blk_below (g := gb411) (o := .cells #[.int .i64 a0_0, .int .i64 a0_1, .slice A0_2 l0_2.length c0_2] 24 (0, 0)) (by (with_reducible repeat (first | refine blk_drewN ?_ _ | refine blk_drew ?_ | refine blk_alloc ?_ _)); exact BK411.out) hb); have n3_ := Aside0.mk (below_step (by repeat (first | (with_reducible first | exact HB.out | apply below_alloc | apply pw_below_drewN | apply below_drew1 | refine below_set ?_ GE411.out) | exact HB.out)) hb); clear HO_5; clear HO_6; clear BK411; clear HB; have HO_5 := n0_; have HO_6 := n1_; have BK411 := n2_; have HB := n3_; clear n0_ n1_ n2_ n3_; (try clear hb); (try clear hb2); (try clear hk); (try clear hi)))
       go_ret
       exact ⟨by first | rfl | (simp [errW_none, errW_some] <;> rfl) | (simp [*, errW_none, errW_some] <;> rfl), by repeat (first | (with_reducible first | exact HB.out | apply below_alloc | apply pw_below_drewN | apply below_drew1 | refine below_set ?_ GE411.out) | exact HB.out)⟩
   ·rw [if_neg c11] at H
    have c11b0 : ((t413.length : Int) == (t416.length : Int)) = false := beq_eq_false_iff_ne.mpr c11
    have c11b1 : ((t413.length : Int) != (t416.length : Int)) = true := bne_iff_ne.mpr c11
    have c11b2 : (t413.length == t416.length) = false := by first | simpa using c11 | (simp at c11 ⊢; omega)
    obtain rfl := Option.some.inj H
    go_enter Try.func7, Try.ntmps7
    try go_wp2_with (first | ((with_reducible refine gate_dst (N := 2) rfl ?_); refine box_event ?hg (N := 2) ?hd (cs := #[.int .i64 a0_0, .int .i64 a0_1, .slice A0_2 l0_2.length c0_2]) (t := 24) ?hr ?_; (case hd => rfl); (case hg => rfl); (case hr => first | (go_simp; done) | (go_simp; rfl)); intro gb411 hg w36 hbox hb; have n0_ := Aside0.mk (below_step (by repeat (first | (with_reducible first | exact HB.out | apply below_alloc | apply pw_below_drewN | apply below_drew1) | exact HB.out)) hb); have n1_ := Aside0.mk (hbox); have n2_ := Aside0.mk ((by rw [hg]; exact (below_size (by repeat (first | (with_reducible first | exact HB.out | apply below_alloc | apply pw_below_drewN | apply below_drew1) | exact HB.out))) : w.heap.size ≤ gb411)); have n3_ := Aside0.mk ((by rw [hg]; exact (below_size (by repeat (first | (with_reducible first | exact HB.out | apply below_alloc | apply pw_below_drewN | apply below_drew1) | exact HB.out))) : w.heap.size ≤ gb411)); clear HB; have HB := n0_; have BK411 := n1_; have GW411 := n2_; have GE411 := n3_; clear n0_ n1_ n2_ n3_; clear hb hbox hg) | ((with_reducible refine gate_callee (f := 22) rfl ?_); refine goesL_ (some 9) rfl rfl Try.func22 (by kernel_rfl) rfl #[] rfl (by (try simp only [List.map_toArray, List.map_cons, List.map_nil]); first | done | rfl | (simp only [List.length_drop, List.length_take]; rfl)) ?_; (with_reducible refine (davitlaw09_awake.calls k  true _ A3.out).mono ?_); rintro e w37 ⟨rfl, hb⟩; refine ⟨_, rfl, ?_⟩; have n0_ := Aside0.mk (blk_below (g := gb411) (o := .cells #[.int .i64 a0_0, .int .i64 a0_1, .slice A0_2 l0_2.length c0_2] 24 (0, 0)) (by (with_reducible repeat (first | refine blk_drewN ?_ _ | refine blk_drew ?_ | refine blk_alloc ?_ _)); exact BK411.out) hb); have n1_ := Aside0.mk (below_step (by repeat (first | (with_reducible first | exact HB.out | apply below_alloc | apply pw_below_drewN | apply below_drew1 | refine below_set ?_ GE411.out) | exact HB.out)) hb); clear BK411; clear HB; have BK411 := n0_; have HB := n1_; clear n0_ n1_; (try clear hb); (try clear hb2); (try clear hk); (try clear hi); have hcz38_0 : w37.cell? ⟨gb411, 0, none⟩ = some (.int .i64 a0_0) := (blk_cell BK411.out 0).trans rfl; have hcz38_1 : w37.cell? ⟨gb411, 1, none⟩ = some (.int .i64 a0_1) := (blk_cell BK411.out 1).trans rfl; have hcz38_2 : w37.cell? ⟨gb411, 2, none⟩ = some (.slice A0_2 l0_2.length c0_2) := (blk_cell BK411.out 2).trans rfl; have hfz38_0 := blk_frozen BK411.out 0; have hfz38_1 := blk_frozen BK411.out 1; have hfz38_2 := blk_frozen BK411.out 2))
    have n0_ := Aside0.mk (blk_drew BK411.out)
    have n1_ := Aside0.mk (below_drew1 HB.out)
    clear BK411
    clear HB
    have BK411 := n0_
    have HB := n1_
    clear n0_ n1_
    refine start_ (n := 6) (S := fun w' => w'.cell? ⟨gb411, 0, none⟩ = some (.int .i64 a0_0) ∧ w'.cell? ⟨gb411, 1, none⟩ = some (.int .i64 a0_1) ∧ w'.cell? ⟨gb411, 2, none⟩ = some (.slice A0_2 l0_2.length c0_2)) (ds := []) #[false, false, false, false, false, false] (by kernel_rfl) rfl rfl ⟨(blk_cell BK411.out 0).trans rfl, (blk_cell BK411.out 1).trans rfl, (blk_cell BK411.out 2).trans rfl⟩ (fun hHeld => ?_)
    generalize w37.drew = w39 at BK411 HB hHeld ⊢
    refine take_ (i := 0) (N := some 15) (v := ?_) (a' := ?_) #[true, false, false, false, false, false] rfl rfl (by kernel_rfl) (fun _ _ _ h => h) (Or.inl ⟨by rfl, ?_⟩) hHeld ?_ ?_
    rotate_left
    ·rintro w' ⟨s0, s1, s2⟩
     go_simp
     with_reducible rfl
    rotate_left
    ·simp only [Act.put, List.setIfInBounds_toArray, List.set_cons_zero, List.set_cons_succ, i64_w, i32_w]
     rfl
    refine take_ (i := 2) (N := some 17) (v := ?_) (a' := ?_) #[true, false, true, false, false, false] rfl rfl (by kernel_rfl) (fun _ _ _ h => h) (Or.inl ⟨by rfl, ?_⟩) hHeld ?_ ?_
    rotate_left
    ·rintro w' ⟨s0, s1, s2⟩
     go_simp
     with_reducible rfl
    rotate_left
    ·simp only [Act.put, List.setIfInBounds_toArray, List.set_cons_zero, List.set_cons_succ, i64_w, i32_w]
     rfl
    refine one_ (i := 1) (N := some 16) #[true, true, true, false, false, false] rfl rfl (by kernel_rfl) (by decide) (fun K hK => ?_)
    refine goes_ Try.func23 (by kernel_rfl) rfl #[.agg #[.int .i64 a0_0, .int .i64 a0_1, .slice A0_2 l0_2.length c0_2]] (by rfl) rfl rfl (by (try simp only [List.map_toArray, List.map_cons, List.map_nil]); first | done | rfl | (simp only [List.length_drop, List.length_take]; rfl)) ?_
    with_reducible refine (loop_All.calls k a0_0 a0_1 _ _ l0_2 t413 _ ?side1 ?side2 A9.out).mono ?_
    (case side1 => repeat (first | exact (Kd.C_below HR0_2.out HB.out) | (with_reducible refine Kd.C_alloc ?_ _) | (with_reducible refine Kd.C_drewN ?_ _) | (with_reducible refine Kd.C_drew ?_)))
    (case side2 => exact HC0_2.out)
    rintro e w40 ⟨v414, rfl, ho0, hb⟩
    refine ⟨_, rfl, ?_⟩
    have n0_ := Aside0.mk (Kd.S_lower ho0 (below_size (by repeat (first | (with_reducible first | exact HB.out | apply below_alloc | apply pw_below_drewN | apply below_drew1 | refine below_set ?_ GE411.out) | exact HB.out))))
    have n1_ := Aside0.mk (blk_below (g := gb411) (o := .cells #[.int .i64 a0_0, .int .i64 a0_1, .slice A0_2 l0_2.length c0_2] 24 (0, 0)) (by (with_reducible repeat (first | refine blk_drewN ?_ _ | refine blk_drew ?_ | refine blk_alloc ?_ _)); exact BK411.out) hb)
    have n2_ := Aside0.mk (below_step (by repeat (first | (with_reducible first | exact HB.out | apply below_alloc | apply pw_below_drewN | apply below_drew1 | refine below_set ?_ GE411.out) | exact HB.out)) hb)
    clear BK411
    clear HB
    have HO415 := n0_
    have BK411 := n1_
    have HB := n2_
    clear n0_ n1_ n2_
    (try clear hb)
    (try clear hb2)
    (try clear hk)
    (try clear hi)
    (try clear ho0)
    refine hK.out _ _ ⟨(blk_cell BK411.out 0).trans rfl, (blk_cell BK411.out 1).trans rfl, (blk_cell BK411.out 2).trans rfl⟩ (fun hHeld => ?_)
    clear hK K
    refine norm_ (a' := ?_) ?_ ?_
    rotate_left
    ·show Act.put _ (some 16) _ = _
     simp only [Act.put, List.setIfInBounds_toArray, List.set_cons_zero, List.set_cons_succ, i64_w, i32_w]
     rfl
    refine one_ (i := 3) (N := some 18) #[true, true, true, true, false, false] rfl rfl (by kernel_rfl) (by decide) (fun K hK => ?_)
    refine goes_ Try.func24 (by kernel_rfl) rfl #[.agg #[.int .i64 a0_0, .int .i64 a0_1, .slice A0_2 l0_2.length c0_2]] (by rfl) rfl rfl (by (try simp only [List.map_toArray, List.map_cons, List.map_nil]); first | done | rfl | (simp only [List.length_drop, List.length_take]; rfl)) ?_
    with_reducible refine (davitref09_All.calls k a0_0 a0_1 _ _ l0_2 t416 _ ?side1 ?side2 A10.out).mono ?_
    (case side1 => repeat (first | exact (Kd.C_below HR0_2.out HB.out) | (with_reducible refine Kd.C_alloc ?_ _) | (with_reducible refine Kd.C_drewN ?_ _) | (with_reducible refine Kd.C_drew ?_)))
    (case side2 => exact HC0_2.out)
    rintro e w41 ⟨v417, rfl, ho0, hb⟩
    refine ⟨_, rfl, ?_⟩
    have n0_ := Aside0.mk (Kd.S_elder' (by (with_reducible repeat (first | apply Kd.S_alloc | apply Kd.S_drewN | apply Kd.S_drew)); exact HO415.out) (Kd.S_base ho0) hb)
    have n1_ := Aside0.mk (Kd.S_lower (Kd.S_new' ho0 (Kd.S_lt (by (with_reducible repeat (first | apply Kd.S_alloc | apply Kd.S_drewN | apply Kd.S_drew)); exact HO415.out))) (below_size (by repeat (first | (with_reducible first | exact HB.out | apply below_alloc | apply pw_below_drewN | apply below_drew1 | refine below_set ?_ GE411.out) | exact HB.out))))
    have n2_ := Aside0.mk (blk_below (g := gb411) (o := .cells #[.int .i64 a0_0, .int .i64 a0_1, .slice A0_2 l0_2.length c0_2] 24 (0, 0)) (by (with_reducible repeat (first | refine blk_drewN ?_ _ | refine blk_drew ?_ | refine blk_alloc ?_ _)); exact BK411.out) hb)
    have n3_ := Aside0.mk (below_step (by repeat (first | (with_reducible first | exact HB.out | apply below_alloc | apply pw_below_drewN | apply below_drew1 | refine below_set ?_ GE411.out) | exact HB.out)) hb)
    clear HO415
    clear BK411
    clear HB
    have HO415 := n0_
    have HO418 := n1_
    have BK411 := n2_
    have HB := n3_
    clear n0_ n1_ n2_ n3_
    (try clear hb)
    (try clear hb2)
    (try clear hk)
    (try clear hi)
    (try clear ho0)
    refine hK.out _ _ ⟨(blk_cell BK411.out 0).trans rfl, (blk_cell BK411.out 1).trans rfl, (blk_cell BK411.out 2).trans rfl⟩ (fun hHeld => ?_)
    clear hK K
    refine norm_ (a' := ?_) ?_ ?_
    rotate_left
    ·show Act.put _ (some 18) _ = _
     simp only [Act.put, List.setIfInBounds_toArray, List.set_cons_zero, List.set_cons_succ, i64_w, i32_w]
     rfl
    refine pure_ (i := 4) (N := some 5) (v := ?_) (a' := ?_) #[true, true, true, true, true, false] rfl rfl (by kernel_rfl) (fun _ _ _ h => h) (Or.inl ⟨by rfl, ?_⟩) ?_ ?_
    rotate_left
    ·intro w'
     go_simp
     with_reducible rfl
    rotate_left
    ·simp only [Act.put, List.setIfInBounds_toArray, List.set_cons_zero, List.set_cons_succ, i64_w, i32_w]
     rfl
    refine pure_ (i := 5) (N := some 6) (v := ?_) (a' := ?_) #[true, true, true, true, true, true] rfl rfl (by kernel_rfl) (fun _ _ _ h => h) (Or.inl ⟨by rfl, ?_⟩) ?_ ?_
    rotate_left
    ·intro w'
     go_simp
     with_reducible rfl
    rotate_left
    ·simp only [Act.put, List.setIfInBounds_toArray, List.set_cons_zero, List.set_cons_succ, i64_w, i32_w]
     rfl
    refine done_ (by kernel_rfl) ?_
    obtain ⟨Ao42, co42, eo42⟩ := Kd.S_slice HO415.out
    subst eo42
    obtain ⟨Ao43, co43, eo43⟩ := Kd.S_slice HO418.out
    subst eo43
    try go_wp2
    go_ret
    exact ⟨by first | rfl | (simp [errW_none, errW_some] <;> rfl) | (simp [*, errW_none, errW_some] <;> rfl), by repeat (first | (with_reducible first | exact HB.out | apply below_alloc | apply pw_below_drewN | apply below_drew1 | refine below_set ?_ GE411.out) | exact HB.out)⟩
 ·replace c4 := Bool.eq_false_iff.mpr c4
  subst c4
  have H1 : (some false) = some r := by rw [if_neg (show ¬ (false = true) by decide)] at H; exact H
  clear H
  have H := H1
  clear H1
  obtain rfl := Option.some.inj H
  go_enter Try.func7, Try.ntmps7
  go_wp2_with (first | ((with_reducible refine gate_dst (N := 2) rfl ?_); refine box_event ?hg (N := 2) ?hd (cs := #[.int .i64 a0_0, .int .i64 a0_1, .slice A0_2 l0_2.length c0_2]) (t := 24) ?hr ?_; (case hd => rfl); (case hg => rfl); (case hr => first | (go_simp; done) | (go_simp; rfl)); intro gb411 hg w44 hbox hb; have n0_ := Aside0.mk (below_step (by repeat (first | (with_reducible first | exact HB.out | apply below_alloc | apply pw_below_drewN | apply below_drew1) | exact HB.out)) hb); have n1_ := Aside0.mk (hbox); have n2_ := Aside0.mk ((by rw [hg]; exact (below_size (by repeat (first | (with_reducible first | exact HB.out | apply below_alloc | apply pw_below_drewN | apply below_drew1) | exact HB.out))) : w.heap.size ≤ gb411)); have n3_ := Aside0.mk ((by rw [hg]; exact (below_size (by repeat (first | (with_reducible first | exact HB.out | apply below_alloc | apply pw_below_drewN | apply below_drew1) | exact HB.out))) : w.heap.size ≤ gb411)); clear HB; have HB := n0_; have BK411 := n1_; have GW411 := n2_; have GE411 := n3_; clear n0_ n1_ n2_ n3_; clear hb hbox hg) | ((with_reducible refine gate_callee (f := 22) rfl ?_); refine goesL_ (some 9) rfl rfl Try.func22 (by kernel_rfl) rfl #[] rfl (by (try simp only [List.map_toArray, List.map_cons, List.map_nil]); first | done | rfl | (simp only [List.length_drop, List.length_take]; rfl)) ?_; (with_reducible refine (davitlaw09_awake.calls k  false _ A3.out).mono ?_); rintro e w45 ⟨rfl, hb⟩; refine ⟨_, rfl, ?_⟩; have n0_ := Aside0.mk (blk_below (g := gb411) (o := .cells #[.int .i64 a0_0, .int .i64 a0_1, .slice A0_2 l0_2.length c0_2] 24 (0, 0)) (by (with_reducible repeat (first | refine blk_drewN ?_ _ | refine blk_drew ?_ | refine blk_alloc ?_ _)); exact BK411.out) hb); have n1_ := Aside0.mk (below_step (by repeat (first | (with_reducible first | exact HB.out | apply below_alloc | apply pw_below_drewN | apply below_drew1 | refine below_set ?_ GE411.out) | exact HB.out)) hb); clear BK411; clear HB; have BK411 := n0_; have HB := n1_; clear n0_ n1_; (try clear hb); (try clear hb2); (try clear hk); (try clear hi)))
  go_ret
  exact ⟨by first | rfl | (simp [errW_none, errW_some] <;> rfl) | (simp [*, errW_none, errW_some] <;> rfl), by repeat (first | (with_reducible first | exact HB.out | apply below_alloc | apply pw_below_drewN | apply below_drew1 | refine below_set ?_ GE411.out) | exact HB.out)⟩
end
end Go.Proofs.Ytilopoegoddggaa.X
namespace Go.Proofs.Ytilopoegoddggaa.G
set_option linter.all false
def Evt {α : Type} (g : Nat → Option α) (r : α) : Prop := ∃ k0, ∀ k, k0 ≤ k → g k = some r
theorem Evt.succ {α : Type} {g : Nat → Option α} {r : α} (h : Evt (fun k => g (k + 1)) r) : Evt g r := by
 obtain ⟨k0, h⟩ := h
 refine ⟨k0 + 1, fun k hk => ?_⟩
 obtain ⟨j, rfl⟩ : ∃ j, k = j + 1 := ⟨k - 1, by omega⟩
 exact h j (by omega)
theorem Evt.bind {α β : Type} {g : Nat → Option α} {h : Nat → α → Option β} {a : α} {r : β} (h1 : Evt g a) (h2 : Evt (fun k => h k a) r) : Evt (fun k => (g k).bind (h k)) r := by
 obtain ⟨k1, h1⟩ := h1
 obtain ⟨k2, h2⟩ := h2
 refine ⟨k1 + k2, fun k hk => ?_⟩
 show (g k).bind (h k) = some r
 rw [h1 k (by omega)]
 exact h2 k (by omega)
theorem Evt.pure {α : Type} (r : α) : Evt (fun _ => some r) r := ⟨0, fun _ _ => rfl⟩
theorem Evt.congr {α : Type} {g g' : Nat → Option α} {r : α} (h : Evt g' r) (e : ∀ k, g k = g' k) : Evt g r := by
 obtain ⟨k0, h⟩ := h
 exact ⟨k0, fun k hk => (e k).trans (h k hk)⟩
theorem Evt.inj {α : Type} {g : Nat → Option α} {r s : α} (h1 : Evt g r) (h2 : Evt g s) : r = s := by
 obtain ⟨k1, h1⟩ := h1
 obtain ⟨k2, h2⟩ := h2
 have e1 := h1 (k1 + k2) (by omega)
 have e2 := h2 (k1 + k2) (by omega)
 rw [e1] at e2
 exact Option.some.inj e2
theorem Evt.ex {α : Type} {g : Nat → Option α} {r : α} (h : Evt g r) : ∃ k, g k = some r := by
 obtain ⟨k0, h⟩ := h
 exact ⟨k0, h k0 (Nat.le_refl _)⟩
inductive Rch (N : Nat) (sc : Int → List Int) (no : Int) : Int → Prop
 | zero : 0 < N → (0 : Int) ≠ no → Rch N sc no 0
 | step {a b : Int} : Rch N sc no a → b ∈ sc a → b ≠ no → Rch N sc no b
def Dom (N : Nat) (sc : Int → List Int) (a b : Int) : Prop := Rch N sc (-1) b ∧ (0 ≤ a ∧ a < N) ∧ (a = b ∨ ¬ Rch N sc a b)
inductive Anc (o : Int → Int) : Int → Int → Prop
 | refl (n : Int) : Anc o n n
 | up {a n : Int} : n ≠ 0 → Anc o a (o n) → Anc o a n
section
variable {N : Nat} {sc : Int → List Int}
def Edges (N : Nat) (sc : Int → List Int) : Prop := ∀ a b, b ∈ sc a → (0 ≤ a ∧ a < N) ∧ (0 ≤ b ∧ b < N)
theorem Rch.inV (he : Edges N sc) {no n : Int} (h : Rch N sc no n) : 0 ≤ n ∧ n < N := by
 cases h with
 | zero h0 _ => omega
 | step _ h _ => exact (he _ _ h).2
theorem Rch.ne {no n : Int} (h : Rch N sc no n) : n ≠ no := by
 cases h with
 | zero _ h => exact h
 | step _ _ h => exact h
theorem Rch.any (he : Edges N sc) {no n : Int} (h : Rch N sc no n) : Rch N sc (-1) n := by
 induction h with
 | zero h0 _ => exact .zero h0 (by omega)
 | step _ hs _ ih => exact .step ih hs (by have := (he _ _ hs).2; omega)
theorem Rch.next (he : Edges N sc) {a b : Int} (h : Rch N sc (-1) a) (hs : b ∈ sc a) : Rch N sc (-1) b := .step h hs (by have := (he _ _ hs).2; omega)
theorem Dom.refl (he : Edges N sc) {a : Int} (h : Rch N sc (-1) a) : Dom N sc a a := ⟨h, h.inV he, .inl rfl⟩
theorem Dom.pred (he : Edges N sc) {x m p : Int} (h : Dom N sc x m) (hne : x ≠ m) (hs : m ∈ sc p) (hp : Rch N sc (-1) p) : Dom N sc x p := by
 obtain ⟨h1, h2, h3⟩ := h
 refine ⟨hp, h2, ?_⟩
 rcases h3 with h3 | h3
 ·exact absurd h3 hne
 ·exact .inr fun h => h3 (.step h hs (fun e => hne e.symm))
theorem Dom.at_zero {x : Int} (h : Dom N sc x 0) : x = 0 := by
 obtain ⟨h1, h2, h3⟩ := h
 rcases h3 with h3 | h3
 ·exact h3
 ·by_cases hx : x = 0
  ·exact hx
  ·exact absurd (.zero (by omega) (fun e => hx e.symm)) h3
theorem no_rch0 {n : Int} (h : Rch N sc 0 n) : False := by
 induction h with
 | zero _ h => exact h rfl
 | step _ _ _ ih => exact ih
theorem Dom.zero {n : Int} (h : Rch N sc (-1) n) (hN : 0 < N) : Dom N sc 0 n := ⟨h, ⟨by omega, by omega⟩, .inr no_rch0⟩
end
section
variable {o : Int → Int}
theorem Anc.trans {a b c : Int} (h1 : Anc o a b) (h2 : Anc o b c) : Anc o a c := by
 induction h2 with
 | refl => exact h1
 | up h0 _ ih => exact .up h0 ih
theorem Anc.at_zero {a : Int} (h : Anc o a 0) : a = 0 := by
 cases h with
 | refl => rfl
 | up h0 _ => exact absurd rfl h0
theorem Anc.total {a b n : Int} (h1 : Anc o a n) (h2 : Anc o b n) : Anc o a b ∨ Anc o b a := by
 induction h1 with
 | refl => exact .inr h2
 | up h0 h1 ih =>
  cases h2 with
  | refl => exact .inl (.up h0 h1)
  | up _ h2 => exact ih h2
theorem Anc.cases_ne {a n : Int} (h : Anc o a n) (hne : a ≠ n) : n ≠ 0 ∧ Anc o a (o n) := by
 cases h with
 | refl => exact absurd rfl hne
 | up h0 h1 => exact ⟨h0, h1⟩
end
section
variable (N : Nat) (sc : Int → List Int) (place : Int → Int)
structure Pl : Prop where
 edge : Edges N sc
 zero : place 0 = 0
 pos : ∀ n, Rch N sc (-1) n → 0 ≤ place n
 inj : ∀ a b, Rch N sc (-1) a → Rch N sc (-1) b → place a = place b → a = b
 pred : ∀ n, Rch N sc (-1) n → n ≠ 0 → ∃ q, Rch N sc (-1) q ∧ n ∈ sc q ∧ place q < place n
structure Tree (o : Int → Int) : Prop where
 zero : o 0 = 0
 neg : ∀ n : Int, 0 ≤ n → n < N → ¬ Rch N sc (-1) n → o n = -1
 low : ∀ n : Int, 0 ≤ n → n < N → -1 ≤ o n
 up : ∀ n, Rch N sc (-1) n → n ≠ 0 → 0 ≤ o n → Rch N sc (-1) (o n) ∧ 0 ≤ o (o n) ∧ place (o n) < place n
structure Inv (o : Int → Int) (i : Int) (fin : Bool) : Prop extends Tree N sc place o where
 P : ∀ m, Rch N sc (-1) m → (place m < i ∨ fin = true) → 0 ≤ o m
 U : ∀ m, Rch N sc (-1) m → 0 ≤ o m → ∀ x, Dom N sc x m → Anc o x m
 K : ∀ m, Rch N sc (-1) m → m ≠ 0 → 0 ≤ o m → ∀ x, (∀ p, m ∈ sc p → Rch N sc (-1) p → 0 ≤ o p → Anc o x p) → Anc o x (o m)
 M : ∀ m q, Rch N sc (-1) m → m ≠ 0 → 0 ≤ o m → m ∈ sc q → Rch N sc (-1) q → place q < place m → 0 ≤ o q ∧ ∀ x, x ≠ m → Anc o x m → (place m < i ∨ i ≤ place x) → Anc o x q
end
section
variable {N : Nat} {sc : Int → List Int} {place o : Int → Int}
theorem Tree.anc (T : Tree N sc place o) {a n : Int} (h : Anc o a n) (hr : Rch N sc (-1) n) (hp : 0 ≤ o n) : Rch N sc (-1) a ∧ 0 ≤ o a ∧ place a ≤ place n := by
 induction h with
 | refl => exact ⟨hr, hp, Int.le_refl _⟩
 | up h0 _ ih =>
  obtain ⟨h1, h2, h3⟩ := T.up _ hr h0 hp
  obtain ⟨r1, r2, r3⟩ := ih h1 h2
  exact ⟨r1, r2, by omega⟩
theorem Tree.lt (T : Tree N sc place o) {a n : Int} (h : Anc o a n) (hne : a ≠ n) (hr : Rch N sc (-1) n) (hp : 0 ≤ o n) : place a < place n := by
 obtain ⟨h0, h1⟩ := h.cases_ne hne
 obtain ⟨r1, r2, r3⟩ := T.up _ hr h0 hp
 have := (T.anc h1 r1 r2).2.2
 omega
theorem Tree.above (T : Tree N sc place o) {a b n : Int} (h1 : Anc o a n) (h2 : Anc o b n) (hr : Rch N sc (-1) n) (hp : 0 ≤ o n) (hl : place a < place b) : Anc o a b := by
 rcases h1.total h2 with h | h
 ·exact h
 ·obtain ⟨r1, r2, _⟩ := T.anc h1 hr hp
  have := (T.anc h r1 r2).2.2
  omega
theorem Tree.root (T : Tree N sc place o) (L : Pl N sc place) : ∀ (j : Nat) (n : Int), (place n).toNat ≤ j → Rch N sc (-1) n → 0 ≤ o n → Anc o 0 n
 | 0, n, hj, hr, hp => by
  by_cases h0 : n = 0
  ·exact h0 ▸ .refl _
  ·obtain ⟨r1, r2, r3⟩ := T.up n hr h0 hp
   have := L.pos _ r1
   omega
 | j + 1, n, hj, hr, hp => by
  by_cases h0 : n = 0
  ·exact h0 ▸ .refl _
  ·obtain ⟨r1, r2, r3⟩ := T.up n hr h0 hp
   have := L.pos _ r1
   exact .up h0 (T.root L j (o n) (by omega) r1 r2)
def upd (o : Int → Int) (n r : Int) : Int → Int := fun x => if x = n then r else o x
theorem upd_self (o : Int → Int) (n r : Int) : upd o n r n = r := by simp [upd]
theorem upd_ne (o : Int → Int) {n r x : Int} (h : x ≠ n) : upd o n r x = o x := by simp [upd, h]
section
variable {i n0 r : Int} {fin : Bool}
structure Best (N : Nat) (sc : Int → List Int) (o : Int → Int) (n0 r : Int) : Prop where
 rch : Rch N sc (-1) r
 done : 0 ≤ o r
 all : ∀ x, Anc o x r ↔ ∀ p, n0 ∈ sc p → Rch N sc (-1) p → 0 ≤ o p → Anc o x p
theorem upd_low (T : Tree N sc place o) {x m : Int} (hr : Rch N sc (-1) m) (hp : 0 ≤ o m) (hl : place m < place n0) : Anc (upd o n0 r) x m ↔ Anc o x m := by
 constructor
 ·intro h
  induction h with
  | refl => exact .refl _
  | up h0 _ ih =>
   rename_i n _
   have hn : n ≠ n0 := fun e => by rw [e] at hl; omega
   rw [upd_ne o hn] at ih
   obtain ⟨r1, r2, r3⟩ := T.up _ hr h0 hp
   exact .up h0 (ih r1 r2 (by omega))
 ·intro h
  induction h with
  | refl => exact .refl _
  | up h0 _ ih =>
   rename_i n _
   have hn : n ≠ n0 := fun e => by rw [e] at hl; omega
   obtain ⟨r1, r2, r3⟩ := T.up _ hr h0 hp
   exact .up h0 (by rw [upd_ne o hn]; exact ih r1 r2 (by omega))
theorem upd_off {x m : Int} (h : Anc o x m) (hn : ¬ Anc o n0 m) : Anc (upd o n0 r) x m := by
 induction h with
 | refl => exact .refl _
 | up h0 _ ih =>
  rename_i n _
  have : n ≠ n0 := fun e => hn (e ▸ .refl _)
  exact .up h0 (by rw [upd_ne o this]; exact ih (fun h => hn (.up h0 h)))
theorem upd_high (T : Tree N sc place o) {x m : Int} (h : Anc o x m) (hr : Rch N sc (-1) m) (hp : 0 ≤ o m) (hl : place n0 ≤ place x) : Anc (upd o n0 r) x m := by
 induction h with
 | refl => exact .refl _
 | up h0 h1 ih =>
  rename_i n
  obtain ⟨r1, r2, r3⟩ := T.up _ hr h0 hp
  have h3 := (T.anc h1 r1 r2).2.2
  have : n ≠ n0 := fun e => by rw [e] at r3 h3; omega
  exact .up h0 (by rw [upd_ne o this]; exact ih r1 r2)
theorem Best.lt (B : Best N sc o n0 r) (I : Inv N sc place o (place n0) fin) (L : Pl N sc place) (hn : Rch N sc (-1) n0) (h0 : n0 ≠ 0) : place r < place n0 := by
 obtain ⟨q, q1, q2, q3⟩ := L.pred n0 hn h0
 have hq := I.P q q1 (.inl q3)
 have h := (B.all r).1 (.refl _) q q2 q1 hq
 have := (I.toTree.anc h q1 hq).2.2
 omega
theorem upd_back (B : Best N sc o n0 r) (I : Inv N sc place o (place n0) fin) (L : Pl N sc place) (hn : Rch N sc (-1) n0) (h0 : n0 ≠ 0) {x m : Int} (h : Anc (upd o n0 r) x m) (hr : Rch N sc (-1) m) (hp : 0 ≤ o m) : Anc o x m := by
 induction h with
 | refl => exact .refl _
 | up hm0 h1 ih =>
  rename_i n
  obtain ⟨r1, r2, r3⟩ := I.up _ hr hm0 hp
  by_cases e : n = n0
  ·subst e
   rw [upd_self] at ih
   have h2 := ih B.rch B.done
   exact .up hm0 (h2.trans (I.K n hr hm0 hp r ((B.all r).1 (.refl _))))
  ·rw [upd_ne o e] at ih
   exact .up hm0 (ih r1 r2)
end
end
end Go.Proofs.Ytilopoegoddggaa.G
namespace Go.Proofs.Ytilopoegoddggaa.G
set_option linter.all false
section
variable {N : Nat} {sc : Int → List Int} {place o : Int → Int} {n0 r : Int} {fin : Bool}
theorem upd_done (hd : 0 ≤ r) {m : Int} (h : 0 ≤ o m) : 0 ≤ upd o n0 r m := by
 unfold upd; split
 ·exact hd
 ·exact h
theorem Inv.step (I : Inv N sc place o (place n0) fin) (L : Pl N sc place) (hn : Rch N sc (-1) n0) (h0 : n0 ≠ 0) (B : Best N sc o n0 r) : Inv N sc place (upd o n0 r) (place n0 + 1) fin := by
 have hlt := B.lt I L hn h0
 have hd : 0 ≤ r := (B.rch.inV L.edge).1
 have hr0 : r ≠ n0 := fun e => by rw [e] at hlt; omega
 have T' : Tree N sc place (upd o n0 r) := by
  refine ⟨?_, fun n a b c => ?_, fun n a b => ?_, fun n a b c => ?_⟩
  ·rw [upd_ne o (fun e => h0 e.symm)]; exact I.zero
  ·rw [upd_ne o (fun e : n = n0 => c (e ▸ hn))]; exact I.neg n a b c
  ·unfold upd; split
   ·omega
   ·exact I.low n a b
  ·by_cases e : n = n0
   ·subst e
    rw [upd_self]
    exact ⟨B.rch, by rw [upd_ne o hr0]; exact B.done, hlt⟩
   ·rw [upd_ne o e] at c ⊢
    obtain ⟨r1, r2, r3⟩ := I.up n a b c
    exact ⟨r1, upd_done hd r2, r3⟩
 have back : ∀ {x m : Int}, Anc (upd o n0 r) x m → Rch N sc (-1) m → 0 ≤ o m → Anc o x m := fun h => upd_back B I L hn h0 h
 have low : ∀ {x m : Int}, Rch N sc (-1) m → 0 ≤ o m → place m < place n0 → (Anc (upd o n0 r) x m ↔ Anc o x m) := fun a b c => upd_low I.toTree a b c
 have high : ∀ {x m : Int}, Anc o x m → Rch N sc (-1) m → 0 ≤ o m → place n0 ≤ place x → Anc (upd o n0 r) x m := fun h a b c => upd_high I.toTree h a b c
 have ndone : ∀ {m : Int}, m ≠ n0 → 0 ≤ upd o n0 r m → 0 ≤ o m := fun hm h => by rw [upd_ne o hm] at h; exact h
 have toR : ∀ {x : Int}, Anc o x r → Anc (upd o n0 r) x r := fun h => (low B.rch B.done hlt).2 h
 have selfUp : ∀ {x : Int}, Anc o x r → Anc (upd o n0 r) x n0 := fun h => .up h0 (by rw [upd_self]; exact toR h)
 have via : ∀ {m : Int}, Rch N sc (-1) m → m ≠ 0 → 0 ≤ o m → m ≠ n0 → Anc o n0 m → ∃ q, Rch N sc (-1) q ∧ m ∈ sc q ∧ place q < place m ∧ 0 ≤ o q ∧ Anc o n0 q := by
  intro m a b c d e
  obtain ⟨q, q1, q2, q3⟩ := L.pred m a b
  obtain ⟨m1, m2⟩ := I.M m q a b c q2 q1 q3
  exact ⟨q, q1, q2, q3, m1, m2 n0 (fun e => d e.symm) e (.inr (Int.le_refl _))⟩
 have U' : ∀ (j : Nat) (m : Int), (place m).toNat ≤ j → Rch N sc (-1) m → 0 ≤ upd o n0 r m → ∀ x, Dom N sc x m → Anc (upd o n0 r) x m := by
  intro j
  induction j with
  | zero =>
   intro m hj hm hp x hx
   have hz : m = 0 := L.inj _ _ hm (.zero (by have := hm.inV L.edge; omega) (by omega)) (by have := L.pos m hm; have := L.zero; omega)
   subst hz
   rw [hx.at_zero]
   exact .refl _
  | succ j ih =>
   intro m hj hm hp x hx
   by_cases hxm : x = m
   ·exact hxm ▸ .refl _
   by_cases e : m = n0
   ·subst e
    refine selfUp ((B.all x).2 fun p a b c => ?_)
    exact I.U p b c x (hx.pred L.edge hxm a b)
   have hpo := ndone e hp
   have hm0 : m ≠ 0 := fun e => hxm (by subst e; exact hx.at_zero)
   have hxo := I.U m hm hpo x hx
   by_cases hu : Anc o n0 m
   ·by_cases hl : place n0 ≤ place x
    ·exact high hxo hm hpo hl
    ·obtain ⟨q, q1, q2, q3, q4, q5⟩ := via hm hm0 hpo e hu
     have hq := ih q (by have := L.pos q q1; omega) q1 (upd_done hd q4) x (hx.pred L.edge hxm q2 q1)
     have hq2 := high q5 q1 q4 (Int.le_refl _)
     have h3 := T'.above hq hq2 q1 (upd_done hd q4) (by omega)
     exact h3.trans (high hu hm hpo (Int.le_refl _))
   ·exact upd_off hxo hu
 refine { toTree := T', P := ?_, U := fun m a b => U' _ m (Nat.le_refl _) a b, K := ?_, M := ?_ }
 ·intro m a b
  by_cases e : m = n0
  ·rw [e, upd_self]; exact hd
  ·rw [upd_ne o e]
   refine I.P m a (b.imp (fun h => ?_) id)
   have : place m ≠ place n0 := fun h => e (L.inj _ _ a hn h)
   omega
 ·intro m a b c x h
  by_cases e : m = n0
  ·subst e
   rw [upd_self]
   exact toR ((B.all x).2 fun p p1 p2 p3 => back (h p p1 p2 (upd_done hd p3)) p2 p3)
  ·have hpo := ndone e c
   rw [upd_ne o e]
   have hx : Anc o x (o m) := I.K m a b hpo x fun p p1 p2 p3 => back (h p p1 p2 (upd_done hd p3)) p2 p3
   obtain ⟨r1, r2, r3⟩ := I.up m a b hpo
   by_cases hu : Anc o n0 (o m)
   ·by_cases hl : place n0 ≤ place x
    ·exact high hx r1 r2 hl
    ·obtain ⟨q, q1, q2, q3, q4, q5⟩ := via a b hpo e (.up b hu)
     have hq := h q q2 q1 (upd_done hd q4)
     have hq2 := high q5 q1 q4 (Int.le_refl _)
     have h3 := T'.above hq hq2 q1 (upd_done hd q4) (by omega)
     exact h3.trans (high hu r1 r2 (Int.le_refl _))
   ·exact upd_off hx hu
 ·intro m q a b c d f g
  by_cases e : m = n0
  ·subst e
   have hq := I.P q f (.inl g)
   refine ⟨upd_done hd hq, fun x hx h _ => ?_⟩
   obtain ⟨_, h1⟩ := h.cases_ne hx
   rw [upd_self] at h1
   exact (low f hq g).2 ((B.all x).1 ((low B.rch B.done hlt).1 h1) q d f hq)
  ·have hpo := ndone e c
   obtain ⟨m1, m2⟩ := I.M m q a b hpo d f g
   refine ⟨upd_done hd m1, fun x hx h hh => ?_⟩
   have hne : place m ≠ place n0 := fun h => e (L.inj _ _ a hn h)
   have ho := back h a hpo
   rcases hh with hh | hh
   ·exact (low f m1 (by omega)).2 (m2 x hx ho (.inl (by omega)))
   ·exact high (m2 x hx ho (.inr (by omega))) f m1 (by omega)
theorem Inv.again {j : Int} (I : Inv N sc place o j fin) (L : Pl N sc place) (hj : ∀ m, Rch N sc (-1) m → place m < j) : Inv N sc place o 1 true := by
 refine { toTree := I.toTree, P := fun m a _ => I.P m a (.inl (hj m a)), U := I.U, K := I.K, M := fun m q a b c d f g => ?_ }
 obtain ⟨m1, m2⟩ := I.M m q a b c d f g
 exact ⟨m1, fun x hx h _ => m2 x hx h (.inl (hj m a))⟩
theorem Inv.start (L : Pl N sc place) (hN : 0 < N) : Inv N sc place (fun x => if x = 0 then 0 else -1) 1 false := by
 refine { toTree := ⟨rfl, fun n a b c => ?_, fun n a b => ?_, fun n a b c => ?_⟩, P := fun m a b => ?_, U := fun m a b x h => ?_, K := fun m a b c => ?_, M := fun m q a b c => ?_ }
 ·show (if n = 0 then (0 : Int) else -1) = -1
  rw [if_neg (fun e : n = 0 => c (by rw [e]; exact .zero hN (by omega)))]
 ·show -1 ≤ (if n = 0 then (0 : Int) else -1)
  split <;> omega
 ·simp only [if_neg b] at c; omega
 ·rcases b with b | b
  ·have : m = 0 := L.inj _ _ a (.zero hN (by omega)) (by have := L.pos m a; have := L.zero; omega)
   simp [this]
  ·cases b
 ·by_cases e : m = 0
  ·subst e
   rw [h.at_zero]; exact .refl _
  ·simp only [if_neg e] at b; omega
 ·simp only [if_neg b] at c; omega
 ·simp only [if_neg b] at c; omega
def Fix (N : Nat) (sc : Int → List Int) (o : Int → Int) : Prop := ∀ n, Rch N sc (-1) n → n ≠ 0 → Best N sc o n (o n)
theorem Inv.dom {j : Int} (I : Inv N sc place o j fin) (L : Pl N sc place) (hj : ∀ m, Rch N sc (-1) m → 0 ≤ o m) (F : Fix N sc o) {x m : Int} (hm : Rch N sc (-1) m) : Anc o x m ↔ Dom N sc x m := by
 refine ⟨fun h => ?_, fun h => I.U m hm (hj m hm) x h⟩
 have hx := (I.toTree.anc h hm (hj m hm)).1
 refine ⟨hm, hx.inV L.edge, ?_⟩
 by_cases e : x = m
 ·exact .inl e
 refine .inr fun hr => ?_
 have key : ∀ y, Rch N sc x y → ¬ Anc o x y := by
  intro y hy
  induction hy with
  | zero _ h0 => exact fun h => h0 h.at_zero.symm
  | step ha hs hne ih =>
   rename_i a b
   intro hb
   have ha' := ha.any L.edge
   have hb' := ha'.next L.edge hs
   obtain ⟨b0, h1⟩ := hb.cases_ne (fun e => hne e.symm)
   exact ih (((F b hb' b0).all x).1 h1 a hs ha' (hj a ha'))
 exact key m hr h
end
end Go.Proofs.Ytilopoegoddggaa.G
namespace Go.Proofs.Ytilopoegoddggaa.X
open Go.RowKit Go.Proofs.YtilopoegoddggaaW.PrintWords Go.Proofs.YtilopoegoddggaaW.PrintLast Go.Proofs.YtilopoegoddggaaW.PrintMore
open Go.Proofs.Ytilopoegoddggaa.G
set_option linter.all false
theorem rd_get {l : List Int} {i : Int} (h0 : 0 ≤ i) (h1 : i < (l.length : Int)) : l.drop i.toNat = rd l i :: l.drop (i + 1).toNat := by
 have h : i.toNat < l.length := by omega
 rw [List.drop_eq_getElem_cons h]
 congr 1
 ·simp [rd, List.getD_eq_getElem?_getD, List.getElem?_eq_getElem h]
 ·congr 1; omega
theorem rd_mem {l : List Int} {i : Int} (h0 : 0 ≤ i) (h1 : i < (l.length : Int)) : rd l i ∈ l := by
 have h : i.toNat < l.length := by omega
 simp [rd, List.getD_eq_getElem?_getD, List.getElem?_eq_getElem h]
theorem index_l0 (l : List Int) (x : Int) (hl : l.length ≤ 1000000) : ∀ (d : Nat) (i : Int), 0 ≤ i → i + d = l.length → ∃ r, Evt (fun k => slices_Index_int_int.l0 k l x l.length i) r ∧ (0 ≤ r ↔ x ∈ l.drop i.toNat)
 | 0, i, h0, h1 => by
  refine ⟨-1, Evt.succ ?_, ?_⟩
  ·simp only [slices_Index_int_int.l0, if_neg (show ¬ i < (l.length : Int) by omega)]
   exact Evt.pure _
  ·rw [List.drop_eq_nil_of_le (by omega)]; simp
 | d + 1, i, h0, h1 => by
  have hlt : i < (l.length : Int) := by omega
  rw [rd_get h0 hlt]
  by_cases e : x = rd l i
  ·refine ⟨i, Evt.succ ?_, ?_⟩
   ·simp only [slices_Index_int_int.l0, if_pos hlt, if_pos h0, if_pos e]
    exact Evt.pure _
   ·exact ⟨fun _ => e ▸ List.mem_cons_self .., fun _ => h0⟩
  ·obtain ⟨r, hr, hx⟩ := index_l0 l x hl d (i + 1) (by omega) (by omega)
   refine ⟨r, Evt.succ ?_, ?_⟩
   ·simp only [slices_Index_int_int.l0, if_pos hlt, if_pos h0, if_neg e, wrap64_small (i + 1) (by omega) (by omega)]
    exact hr
   ·rw [hx]; simp [e]
theorem contains_ev (l : List Int) (x : Int) (hl : l.length ≤ 1000000) : Evt (fun k => slices_Contains_int_int.f k l x) (decide (x ∈ l)) := by
 obtain ⟨r, hr, hx⟩ := index_l0 l x hl l.length 0 (by omega) (by omega)
 unfold slices_Contains_int_int.f slices_Index_int_int.f
 refine Evt.bind hr ?_
 rw [show decide (x ∈ l) = decide (r ≥ 0) from decide_eq_decide.2 (by simpa using hx.symm)]
 exact Evt.pure _
theorem has_l0 (l : List Int) (x : Int) (hl : l.length ≤ 1000000) : ∀ (d : Nat) (i : Int), 0 ≤ i → i + d = l.length → Evt (fun k => davitref07_Has.l0 k l x i) (decide (x ∈ l.drop i.toNat))
 | 0, i, h0, h1 => by
  refine Evt.succ ?_
  simp only [davitref07_Has.l0, if_neg (show ¬ i < (l.length : Int) by omega)]
  rw [List.drop_eq_nil_of_le (by omega)]
  exact Evt.pure _
 | d + 1, i, h0, h1 => by
  have hlt : i < (l.length : Int) := by omega
  rw [rd_get h0 hlt]
  refine Evt.succ ?_
  by_cases e : rd l i = x
  ·simp only [davitref07_Has.l0, if_pos hlt, if_pos h0, if_pos e]
   rw [decide_eq_true (by rw [e]; exact List.mem_cons_self ..)]
   exact Evt.pure _
  ·simp only [davitref07_Has.l0, if_pos hlt, if_pos h0, if_neg e, wrap64_small (i + 1) (by omega) (by omega)]
   rw [decide_eq_decide.2 (show x ∈ rd l i :: l.drop (i + 1).toNat ↔ x ∈ l.drop (i + 1).toNat by rw [List.mem_cons]; exact ⟨fun h => h.resolve_left (fun h => e h.symm), .inr⟩)]
   exact has_l0 l x hl d (i + 1) (by omega) (by omega)
theorem has_ev (l : List Int) (x : Int) (hl : l.length ≤ 1000000) : Evt (fun k => davitref07_Has.f k l x) (decide (x ∈ l)) := has_l0 l x hl l.length 0 (by omega) (by omega)
theorem ints_l0 (a b : List Int) (hl : a.length ≤ 1000000) (he : a.length = b.length) : ∀ (d : Nat) (i : Int), 0 ≤ i → i + d = a.length → Evt (fun k => davitref02_Ints.l0 k a b i) (decide (a.drop i.toNat = b.drop i.toNat))
 | 0, i, h0, h1 => by
  refine Evt.succ ?_
  simp only [davitref02_Ints.l0, if_neg (show ¬ i < (a.length : Int) by omega)]
  rw [List.drop_eq_nil_of_le (by omega), List.drop_eq_nil_of_le (by omega)]
  exact Evt.pure _
 | d + 1, i, h0, h1 => by
  have hlt : i < (a.length : Int) := by omega
  rw [rd_get h0 hlt, rd_get h0 (show i < (b.length : Int) by omega)]
  refine Evt.succ ?_
  by_cases e : rd a i = rd b i
  ·simp only [davitref02_Ints.l0, if_pos hlt, if_pos h0, if_pos (show i < (b.length : Int) by omega), if_pos e, wrap64_small (i + 1) (by omega) (by omega)]
   rw [decide_eq_decide.2 (show rd a i :: a.drop (i + 1).toNat = rd b i :: b.drop (i + 1).toNat ↔ a.drop (i + 1).toNat = b.drop (i + 1).toNat by simp [e])]
   exact ints_l0 a b hl he d (i + 1) (by omega) (by omega)
  ·simp only [davitref02_Ints.l0, if_pos hlt, if_pos h0, if_pos (show i < (b.length : Int) by omega), if_neg e]
   rw [decide_eq_false (by simp [e])]
   exact Evt.pure _
theorem ints_ev (a b : List Int) (hl : a.length ≤ 1000000) : Evt (fun k => davitref02_Ints.f k a b) (decide (a = b)) := by
 unfold davitref02_Ints.f
 by_cases he : a.length = b.length
 ·simp only [if_pos (show (a.length : Int) = b.length by omega)]
  exact ints_l0 a b hl he a.length 0 (by omega) (by omega)
 ·simp only [if_neg (show ¬ (a.length : Int) = b.length by omega)]
  rw [decide_eq_false (fun h => he (by rw [h]))]
  exact Evt.pure _
theorem isB_iff (n : Nat) (k : Int) : isB n k = true ↔ 0 ≤ k ∧ k < n := by simp [isB]
theorem next_edges (bs : List S50) : Edges bs.length (nextL bs) := by
 intro a b h
 unfold nextL at h
 split at h
 ·rename_i ha
  obtain ⟨_, hb⟩ := List.mem_filter.1 h
  exact ⟨(isB_iff _ _).1 ha, (isB_iff _ _).1 hb⟩
 ·cases h
theorem allL_len (b : S50) : (allL b).length ≤ 3 := by
 have := goals_len b
 unfold allL; split <;> simp <;> omega
theorem next_len (bs : List S50) (n : Int) : (nextL bs n).length ≤ 3 := by
 unfold nextL; split
 ·exact Nat.le_trans (List.length_filter_le _ _) (allL_len _)
 ·simp
def upTo (n : Nat) : List Int := (List.range n).map fun (j : Nat) => (j : Int)
theorem upTo_succ (n : Nat) : upTo (n + 1) = upTo n ++ [(n : Int)] := by simp [upTo, List.range_succ]
theorem mem_upTo {n : Nat} {x : Int} : x ∈ upTo n ↔ 0 ≤ x ∧ x < n := by
 simp only [upTo, List.mem_map, List.mem_range]
 constructor
 ·rintro ⟨j, h, rfl⟩; omega
 ·rintro ⟨h0, h1⟩; exact ⟨x.toNat, by omega, by omega⟩
theorem upTo_len (n : Nat) : (upTo n).length = n := by simp [upTo]
def predsL (bs : List S50) (n : Int) : List Int := (upTo bs.length).filter fun k => decide (n ∈ nextL bs k)
theorem mem_preds {bs : List S50} {n p : Int} : p ∈ predsL bs n ↔ n ∈ nextL bs p := by
 unfold predsL
 rw [List.mem_filter, mem_upTo, decide_eq_true_eq]
 exact ⟨fun h => h.2, fun h => ⟨(next_edges bs _ _ h).1, h⟩⟩
theorem preds_len (bs : List S50) (n : Int) : (predsL bs n).length ≤ bs.length := by
 unfold predsL
 exact Nat.le_trans (List.length_filter_le _ _) (by rw [upTo_len]; exact Nat.le_refl _)
theorem upTo_cut (n : Nat) (i : Int) (h0 : 0 ≤ i) (h1 : i < n) : (upTo n).drop i.toNat = i :: (upTo n).drop (i + 1).toNat := by
 have h : i.toNat < (upTo n).length := by rw [upTo_len]; omega
 rw [List.drop_eq_getElem_cons h]
 congr 1
 ·simp [upTo]; omega
 ·congr 1; omega
theorem before_l0 (a0 a1 : Int) (bs : List S50) (n : Int) (hl : bs.length ≤ 1000000) : ∀ (d : Nat) (i : Int) (out : List Int), 0 ≤ i → i + d = bs.length → out.length ≤ i.toNat →
  Evt (fun k => flow_Before.l0 k n out bs.length i a0 a1 bs) (out ++ ((upTo bs.length).drop i.toNat).filter fun k => decide (n ∈ nextL bs k))
 | 0, i, out, h0, h1, h2 => by
  refine Evt.succ ?_
  simp only [flow_Before.l0, if_neg (show ¬ i < (bs.length : Int) by omega)]
  rw [List.drop_eq_nil_of_le (by rw [upTo_len]; omega), List.filter_nil, List.append_nil]
  exact Evt.pure _
 | d + 1, i, out, h0, h1, h2 => by
  have hlt : i < (bs.length : Int) := by omega
  rw [upTo_cut _ _ h0 hlt]
  refine Evt.succ ?_
  simp only [flow_Before.l0, if_pos hlt, flow_Next.f, Option.bind_some, wrap64_small (i + 1) (by omega) (by omega), if_pos (show out.length < 17592186044416 by omega)]
  refine Evt.bind (contains_ev _ _ (by have := next_len bs i; omega)) ?_
  by_cases e : n ∈ nextL bs i
  ·simp only [decide_eq_true e, if_pos]
   have := before_l0 a0 a1 bs n hl d (i + 1) (out ++ [i]) (by omega) (by omega) (by simp; omega)
   rw [List.filter_cons, if_pos (decide_eq_true e)]
   rw [List.append_assoc] at this
   exact this
  ·simp only [decide_eq_false e, if_neg Bool.false_ne_true]
   have := before_l0 a0 a1 bs n hl d (i + 1) out (by omega) (by omega) (by omega)
   rw [List.filter_cons, if_neg (by simp [e])]
   exact this
theorem before_ev (a0 a1 : Int) (bs : List S50) (n : Int) (hl : bs.length ≤ 1000000) : Evt (fun k => flow_Before.f k a0 a1 bs n) (predsL bs n) := before_l0 a0 a1 bs n hl bs.length 0 [] (by omega) (by omega) (by simp)
end Go.Proofs.Ytilopoegoddggaa.X
namespace Go.Proofs.Ytilopoegoddggaa.X
open Go.RowKit Go.Proofs.YtilopoegoddggaaW.PrintWords Go.Proofs.YtilopoegoddggaaW.PrintLast Go.Proofs.YtilopoegoddggaaW.PrintMore
open Go.Proofs.Ytilopoegoddggaa.G
set_option linter.all false
theorem rdOf_set (s : List Bool) (n m : Int) (b : Bool) (h0 : 0 ≤ n) (h1 : n < (s.length : Int)) (h2 : 0 ≤ m) : rdOf false (s.set n.toNat b) m = if m = n then b else rdOf false s m := by
 unfold rdOf
 rw [List.getD_eq_getElem?_getD, List.getD_eq_getElem?_getD, List.getElem?_set]
 by_cases e : m = n
 ·subst e; rw [if_pos rfl, if_pos rfl, if_pos (by omega)]; rfl
 ·rw [if_neg (by omega), if_neg e]
theorem rd_set (s : List Int) (n m b : Int) (h0 : 0 ≤ n) (h1 : n < (s.length : Int)) (h2 : 0 ≤ m) : rd (s.set n.toNat b) m = if m = n then b else rd s m := by
 unfold rd
 rw [List.getD_eq_getElem?_getD, List.getD_eq_getElem?_getD, List.getElem?_set]
 by_cases e : m = n
 ·subst e; rw [if_pos rfl, if_pos rfl, if_pos (by omega)]; rfl
 ·rw [if_neg (by omega), if_neg e]
theorem count_set : ∀ (s : List Bool) (j : Nat), s.getD j true = false → (s.set j true).count false + 1 = s.count false
 | [], j, h => by simp at h
 | b :: s, 0, h => by
  simp at h; subst h; simp
 | b :: s, j + 1, h => by
  have := count_set s j (by simpa using h)
  simp only [List.set_cons_succ, List.count_cons]
  omega
theorem count_unseen (s : List Bool) (n : Int) (h0 : 0 ≤ n) (h1 : n < (s.length : Int)) (h : rdOf false s n = false) : (s.set n.toNat true).count false + 1 = s.count false := by
 refine count_set s n.toNat ?_
 have hl : n.toNat < s.length := by omega
 unfold rdOf at h
 rw [List.getD_eq_getElem?_getD, List.getElem?_eq_getElem hl] at h ⊢
 exact h
theorem count_zero (s : List Bool) (n : Int) (h0 : 0 ≤ n) (h1 : n < (s.length : Int)) (h : s.count false = 0) : rdOf false s n = true := by
 cases hb : rdOf false s n with
 | true => rfl
 | false => have := count_unseen s n h0 h1 hb; omega
structure DF (bs : List S50) (root : Int → Prop) (seen seen' : List Bool) (ms : List Int) : Prop where
 len : seen'.length = bs.length
 sn : ∀ m : Int, 0 ≤ m → m < bs.length → (rdOf false seen' m = true ↔ rdOf false seen m = true ∨ m ∈ ms)
 new : ∀ m ∈ ms, (0 ≤ m ∧ m < bs.length) ∧ rdOf false seen m = false
 nd : ms.Nodup
 cl : ∀ m ∈ ms, ∀ b ∈ nextL bs m, rdOf false seen' b = true
 par : ∀ m ∈ ms, root m ∨ ∃ l1 l2 q, ms = l1 ++ m :: l2 ∧ q ∈ l2 ∧ m ∈ nextL bs q
 all : ∀ m, root m → rdOf false seen' m = true
 snd : ∀ P : Int → Prop, (∀ m, root m → P m) → (∀ a b, P a → b ∈ nextL bs a → P b) → ∀ m ∈ ms, P m
 cnt : ms.length + seen'.count false ≤ seen.count false
theorem DF.nil (bs : List S50) (seen : List Bool) (h : seen.length = bs.length) (root : Int → Prop) (hr : ∀ m, root m → rdOf false seen m = true) : DF bs root seen seen [] :=
 ⟨h, fun m _ _ => by simp, by simp, List.nodup_nil, by simp, by simp, hr, by simp, by simp⟩
theorem DF.app {bs : List S50} {r1 r2 r : Int → Prop} {s s1 s2 : List Bool} {m1 m2 : List Int} (h1 : DF bs r1 s s1 m1) (h2 : DF bs r2 s1 s2 m2) (hr : ∀ m, r m ↔ r1 m ∨ r2 m) (hv : ∀ m, r m → 0 ≤ m ∧ m < bs.length) : DF bs r s s2 (m1 ++ m2) := by
 have hv1 : ∀ m ∈ m1, ¬ m ∈ m2 := fun m a b => by
  obtain ⟨⟨v0, v1⟩, _⟩ := h1.new m a
  have hs := (h1.sn m v0 v1).2 (.inr a)
  rw [(h2.new m b).2] at hs
  cases hs
 refine ⟨h2.len, fun m a b => ?_, fun m hm => ?_, ?_, fun m hm b hb => ?_, fun m hm => ?_, fun m hm => ?_, fun P p1 p2 m hm => ?_, ?_⟩
 ·rw [h2.sn m a b, h1.sn m a b, List.mem_append, or_assoc]
 ·rcases List.mem_append.1 hm with hm | hm
  ·exact h1.new m hm
  ·obtain ⟨v, hn⟩ := h2.new m hm
   refine ⟨v, ?_⟩
   cases hb : rdOf false s m with
   | false => rfl
   | true => rw [(h1.sn m v.1 v.2).2 (.inl hb)] at hn; cases hn
 ·exact List.nodup_append.2 ⟨h1.nd, h2.nd, fun a ha b hb e => hv1 a ha (e ▸ hb)⟩
 ·rcases List.mem_append.1 hm with hm | hm
  ·have hv := (next_edges bs _ _ hb).2
   exact (h2.sn b hv.1 hv.2).2 (.inl (h1.cl m hm b hb))
  ·exact h2.cl m hm b hb
 ·rcases List.mem_append.1 hm with hm | hm
  ·rcases h1.par m hm with h | ⟨l1, l2, q, e, hq, hs⟩
   ·exact .inl ((hr m).2 (.inl h))
   ·exact .inr ⟨l1, l2 ++ m2, q, by rw [e]; simp, List.mem_append_left _ hq, hs⟩
  ·rcases h2.par m hm with h | ⟨l1, l2, q, e, hq, hs⟩
   ·exact .inl ((hr m).2 (.inr h))
   ·exact .inr ⟨m1 ++ l1, l2, q, by rw [e]; simp, hq, hs⟩
 ·rcases (hr m).1 hm with h | h
  ·have := hv m hm
   exact (h2.sn m this.1 this.2).2 (.inl (h1.all m h))
  ·exact h2.all m h
 ·rcases List.mem_append.1 hm with hm | hm
  ·exact h1.snd P (fun m h => p1 m ((hr m).2 (.inl h))) p2 m hm
  ·exact h2.snd P (fun m h => p1 m ((hr m).2 (.inr h))) p2 m hm
 ·have := h1.cnt
  have := h2.cnt
  simp only [List.length_append]
  omega
theorem DF.one {bs : List S50} {n : Int} {s s2 : List Bool} {ms : List Int} (hs : s.length = bs.length) (h0 : 0 ≤ n) (h1 : n < bs.length) (hn : rdOf false s n = false) (h : DF bs (· ∈ nextL bs n) (s.set n.toNat true) s2 ms) : DF bs (· = n) s s2 (ms ++ [n]) := by
 have hset : ∀ m : Int, 0 ≤ m → rdOf false (s.set n.toNat true) m = if m = n then true else rdOf false s m := fun m hm => rdOf_set s n m true h0 (by omega) hm
 have hnn : n ∉ ms := fun hm => by
  have := (h.new n hm).2
  rw [hset n h0, if_pos rfl] at this
  cases this
 refine ⟨h.len, fun m a b => ?_, fun m hm => ?_, ?_, fun m hm b hb => ?_, fun m hm => ?_, fun m hm => ?_, fun P p1 p2 m hm => ?_, ?_⟩
 ·rw [h.sn m a b, hset m a, List.mem_append, List.mem_singleton]
  by_cases e : m = n
  ·simp [e]
  ·simp [e]
 ·rcases List.mem_append.1 hm with hm | hm
  ·obtain ⟨v, hq⟩ := h.new m hm
   rw [hset m v.1, if_neg (fun e : m = n => hnn (e ▸ hm))] at hq
   exact ⟨v, hq⟩
  ·obtain rfl := List.mem_singleton.1 hm
   exact ⟨⟨h0, h1⟩, hn⟩
 ·exact List.nodup_append.2 ⟨h.nd, by simp, fun a ha b hb e => hnn ((List.mem_singleton.1 hb) ▸ e ▸ ha)⟩
 ·rcases List.mem_append.1 hm with hm | hm
  ·exact h.cl m hm b hb
  ·obtain rfl := List.mem_singleton.1 hm
   exact h.all b hb
 ·rcases List.mem_append.1 hm with hm | hm
  ·rcases h.par m hm with hq | ⟨l1, l2, q, e, hq, hs⟩
   ·obtain ⟨l1, l2, e⟩ := List.append_of_mem hm
    exact .inr ⟨l1, l2 ++ [n], n, by rw [e]; simp, by simp, hq⟩
   ·exact .inr ⟨l1, l2 ++ [n], q, by rw [e]; simp, by simp [hq], hs⟩
  ·exact .inl (List.mem_singleton.1 hm)
 ·subst hm
  exact (h.sn m h0 h1).2 (.inl (by rw [hset m h0, if_pos rfl]))
 ·rcases List.mem_append.1 hm with hm | hm
  ·exact h.snd P (fun b hb => p2 n b (p1 n rfl) hb) p2 m hm
  ·exact p1 m (List.mem_singleton.1 hm)
 ·have := h.cnt
  have := count_unseen s n h0 (by omega) hn
  simp only [List.length_append, List.length_cons, List.length_nil]
  omega
theorem fold_ok (bs : List S50) (c k : Nat) (ih : ∀ n seen left, seen.length = bs.length → 0 ≤ n → n < (bs.length : Int) → seen.count false ≤ c → left.length + seen.count false ≤ 1000000 → ∃ seen' ms, intoO bs k n seen left = some (seen', left ++ ms) ∧ DF bs (· = n) seen seen' ms ∧ (rdOf false seen n = false → ∃ t, ms = t ++ [n])) :
  ∀ (cs : List Int) (seen : List Bool) (left : List Int), (∀ x ∈ cs, 0 ≤ x ∧ x < (bs.length : Int)) → seen.length = bs.length → seen.count false ≤ c → left.length + seen.count false ≤ 1000000 → ∃ seen' ms, foldO (intoO bs k) cs seen left = some (seen', left ++ ms) ∧ DF bs (· ∈ cs) seen seen' ms
 | [], seen, left, _, hs, _, _ => ⟨seen, [], by rw [foldO, List.append_nil], DF.nil bs seen hs _ (by simp)⟩
 | x :: cs, seen, left, hv, hs, hc, hl => by
  obtain ⟨s1, m1, e1, d1, _⟩ := ih x seen left hs (hv x (List.mem_cons_self ..)).1 (hv x (List.mem_cons_self ..)).2 hc hl
  have c1 := d1.cnt
  obtain ⟨s2, m2, e2, d2⟩ := fold_ok bs c k ih cs s1 (left ++ m1) (fun y hy => hv y (List.mem_cons_of_mem _ hy)) d1.len (by omega) (by simp only [List.length_append]; omega)
  refine ⟨s2, m1 ++ m2, ?_, d1.app d2 (fun m => by simp) hv⟩
  rw [foldO, e1, Option.bind_some, e2, List.append_assoc]
theorem into_ok (bs : List S50) : ∀ (c k : Nat), c < k → ∀ n seen left, seen.length = bs.length → 0 ≤ n → n < (bs.length : Int) → seen.count false ≤ c → left.length + seen.count false ≤ 1000000 → ∃ seen' ms, intoO bs k n seen left = some (seen', left ++ ms) ∧ DF bs (· = n) seen seen' ms ∧ (rdOf false seen n = false → ∃ t, ms = t ++ [n]) := by
 intro c
 induction c with
 | zero =>
  intro k hk n seen left hs h0 h1 hc hl
  obtain ⟨j, rfl⟩ : ∃ j, k = j + 1 := ⟨k - 1, by omega⟩
  have hn := count_zero seen n h0 (by omega) (by omega)
  refine ⟨seen, [], ?_, DF.nil bs seen hs _ (fun m hm => by rw [hm]; exact hn), fun h => by simp [hn] at h⟩
  rw [intoO, if_pos ⟨h0, by omega⟩, if_pos hn, List.append_nil]
 | succ c ih =>
  intro k hk n seen left hs h0 h1 hc hl
  obtain ⟨j, rfl⟩ : ∃ j, k = j + 1 := ⟨k - 1, by omega⟩
  cases hn : rdOf false seen n with
  | true =>
   refine ⟨seen, [], ?_, DF.nil bs seen hs _ (fun m hm => by rw [hm]; exact hn), fun h => by simp [hn] at h⟩
   rw [intoO, if_pos ⟨h0, by omega⟩, if_pos hn, List.append_nil]
  | false =>
   have hcn := count_unseen seen n h0 (by omega) hn
   obtain ⟨s2, ms, e, d⟩ := fold_ok bs c j (ih j (by omega)) (nextL bs n) (seen.set n.toNat true) left (fun x hx => (next_edges bs _ _ hx).2) (by simp [hs]) (by omega) (by omega)
   refine ⟨s2, ms ++ [n], ?_, d.one hs h0 h1 hn, fun _ => ⟨ms, rfl⟩⟩
   have := d.cnt
   rw [intoO, if_pos ⟨h0, by omega⟩, if_neg (by simp [hn]), e, Option.bind_some]
   rw [if_pos (by simp only [List.length_append]; omega), List.append_assoc]
structure Ord (bs : List S50) (seen : List Bool) (ord : List Int) : Prop where
 len : seen.length = bs.length
 seen : ∀ m : Int, 0 ≤ m → m < bs.length → (rdOf false seen m = true ↔ Rch bs.length (nextL bs) (-1) m)
 mem : ∀ m : Int, m ∈ ord ↔ Rch bs.length (nextL bs) (-1) m
 nd : ord.Nodup
 head : 0 < bs.length → ∃ t, ord = 0 :: t
 cnt : ord.length ≤ bs.length
 par : ∀ m ∈ ord, m ≠ 0 → ∃ l1 l2 q, ord = l1 ++ m :: l2 ∧ q ∈ l1 ∧ m ∈ nextL bs q
theorem walk_ok (bs : List S50) (hl : bs.length ≤ 1000) : ∃ seen left, walkO bs (bs.length + 2) = some (seen, left) ∧ Ord bs seen left.reverse := by
 by_cases h0 : bs.length = 0
 ·refine ⟨[], [], by rw [walkO, if_pos h0], by simp [h0], fun m a b => by omega, fun m => ?_, by simp, fun h => by omega, by simp, by simp⟩
  simp only [List.reverse_nil, List.not_mem_nil, false_iff]
  intro h
  have := h.inV (next_edges bs)
  omega
 ·have hrep : (List.replicate bs.length false).count false = bs.length := by simp
  obtain ⟨seen, ms, e, d, ht⟩ := into_ok bs bs.length (bs.length + 2) (by omega) 0 (List.replicate bs.length false) [] (by simp) (by omega) (by omega) (by omega) (by simp; omega)
  have hf : ∀ m : Int, rdOf false (List.replicate bs.length false) m = false := by
   intro m
   unfold rdOf
   rw [List.getD_eq_getElem?_getD]
   by_cases h : m.toNat < bs.length
   ·rw [List.getElem?_replicate, if_pos h]; rfl
   ·rw [List.getElem?_replicate, if_neg h]; rfl
  have hsn : ∀ m : Int, 0 ≤ m → m < bs.length → (rdOf false seen m = true ↔ m ∈ ms) := fun m a b => by
   rw [d.sn m a b, hf m]; simp
  have hR : ∀ m : Int, m ∈ ms ↔ Rch bs.length (nextL bs) (-1) m := by
   intro m
   refine ⟨fun h => ?_, fun h => ?_⟩
   ·exact d.snd (fun m => Rch bs.length (nextL bs) (-1) m) (fun m e => e ▸ .zero (by omega) (by omega)) (fun a b ha hb => ha.next (next_edges bs) hb) m h
   ·induction h with
    | zero _ _ => exact (hsn 0 (by omega) (by omega)).1 (d.all 0 rfl)
    | step ha hs _ ih =>
     have hv := (next_edges bs _ _ hs).2
     exact (hsn _ hv.1 hv.2).1 (d.cl _ ih _ hs)
  refine ⟨seen, ms, by rw [walkO, if_neg h0, e, List.nil_append], d.len, fun m a b => (hsn m a b).trans (hR m), fun m => by rw [List.mem_reverse]; exact hR m, List.pairwise_reverse.2 (d.nd.imp fun h => h.symm), fun _ => ?_, (by have := d.cnt; rw [hrep] at this; simp only [List.length_reverse]; omega), fun m hm hm0 => ?_⟩
  ·obtain ⟨t, et⟩ := ht (hf 0)
   exact ⟨t.reverse, by rw [et]; simp⟩
  ·rcases d.par m (List.mem_reverse.1 hm) with h | ⟨l1, l2, q, e, hq, hs⟩
   ·exact absurd h hm0
   ·exact ⟨l2.reverse, l1.reverse, q, by rw [e]; simp, List.mem_reverse.2 hq, hs⟩
end Go.Proofs.Ytilopoegoddggaa.X
namespace Go.Proofs.Ytilopoegoddggaa.X
open Go.RowKit Go.Proofs.YtilopoegoddggaaW.PrintWords Go.Proofs.YtilopoegoddggaaW.PrintLast Go.Proofs.YtilopoegoddggaaW.PrintMore
open Go.Proofs.Ytilopoegoddggaa.G
set_option linter.all false
theorem place_ok : ∀ (l : List Int) (i : Int) (p : List Int), (∀ m ∈ l, 0 ≤ m ∧ m < (p.length : Int)) → l.Nodup →
  ∃ p', placeO l i p = some p' ∧ p'.length = p.length ∧ (∀ l1 l2 m, l = l1 ++ m :: l2 → rd p' m = i + l1.length) ∧ (∀ m, 0 ≤ m → m ∉ l → rd p' m = rd p m)
 | [], i, p, _, _ => ⟨p, rfl, rfl, fun l1 l2 m h => by simp at h, fun _ _ _ => rfl⟩
 | n :: l, i, p, hv, hn => by
  have hv0 := hv n (List.mem_cons_self ..)
  obtain ⟨hn1, hn2⟩ := List.nodup_cons.1 hn
  obtain ⟨p', e, hl, h1, h2⟩ := place_ok l (i + 1) (p.set n.toNat i) (fun m hm => by rw [List.length_set]; exact hv m (List.mem_cons_of_mem _ hm)) hn2
  refine ⟨p', by rw [placeO, if_pos (show inL p n from hv0), e], by rw [hl, List.length_set], fun l1 l2 m h => ?_, fun m hm hnm => ?_⟩
  ·cases l1 with
   | nil =>
    simp only [List.nil_append, List.cons.injEq] at h
    obtain ⟨rfl, rfl⟩ := h
    rw [h2 n hv0.1 hn1, rd_set p n n i hv0.1 hv0.2 hv0.1, if_pos rfl]
    simp
   | cons y l1 =>
    simp only [List.cons_append, List.cons.injEq] at h
    rw [h1 l1 l2 m h.2]
    simp only [List.length_cons]
    omega
  ·rw [h2 m hm (fun h => hnm (List.mem_cons_of_mem _ h)), rd_set p n m i hv0.1 hv0.2 hm, if_neg (fun e : m = n => hnm (e ▸ List.mem_cons_self ..))]
structure Pos (ord : List Int) (place : Int → Int) : Prop where
 at_ : ∀ l1 l2 m, ord = l1 ++ m :: l2 → place m = l1.length
theorem Pos.pl {bs : List S50} {seen : List Bool} {ord : List Int} {place : Int → Int} (O : Ord bs seen ord) (Q : Pos ord place) (h : 0 < bs.length) : Pl bs.length (nextL bs) place := by
 refine ⟨next_edges bs, ?_, fun n h => ?_, fun a b ha hb e => ?_, fun n h h0 => ?_⟩
 ·obtain ⟨t, e⟩ := O.head h
  have := Q.at_ [] t 0 (by rw [e]; rfl)
  simpa using this
 ·obtain ⟨l1, l2, e⟩ := List.append_of_mem ((O.mem n).2 h)
  rw [Q.at_ l1 l2 n e]; omega
 ·obtain ⟨l1, l2, ea⟩ := List.append_of_mem ((O.mem a).2 ha)
  obtain ⟨l3, l4, eb⟩ := List.append_of_mem ((O.mem b).2 hb)
  rw [Q.at_ l1 l2 a ea, Q.at_ l3 l4 b eb] at e
  have e' : l1.length = l3.length := by omega
  rw [ea] at eb
  have := (List.append_inj eb e').2
  simp at this
  exact this.1
 ·obtain ⟨l1, l2, q, e, hq, hs⟩ := O.par n ((O.mem n).2 h) h0
  refine ⟨q, (O.mem q).1 (by rw [e]; simp [hq]), hs, ?_⟩
  obtain ⟨l3, l4, e3⟩ := List.append_of_mem hq
  rw [Q.at_ l1 l2 n e, Q.at_ l3 (l4 ++ n :: l2) q (by rw [e, e3]; simp)]
  rw [e3]; simp only [List.length_append, List.length_cons]; omega
section
variable {bs : List S50} {over place : List Int}
abbrev RR (bs : List S50) (n : Int) : Prop := Rch bs.length (nextL bs) (-1) n
theorem RR.inL {l : List Int} {n : Int} (h : RR bs n) (hl : l.length = bs.length) : inL l n := by
 have := h.inV (next_edges bs)
 exact ⟨this.1, by omega⟩
theorem meet_ok (T : Tree bs.length (nextL bs) (rd place) (rd over)) (L : Pl bs.length (nextL bs) (rd place)) (ho : over.length = bs.length) (hp : place.length = bs.length) :
  ∀ (s : Nat) (a b : Int), (rd place a + rd place b).toNat ≤ s → RR bs a → RR bs b → 0 ≤ rd over a → 0 ≤ rd over b →
   ∃ r, Evt (fun k => meetO over place k 0 a b) r ∧ RR bs r ∧ 0 ≤ rd over r ∧ ∀ x, Anc (rd over) x r ↔ Anc (rd over) x a ∧ Anc (rd over) x b := by
 intro s
 induction s using Nat.strongRecOn with
 | ind s ih =>
 have s2 : ∀ (j : Nat) (a b : Int), (rd place b).toNat ≤ j → (rd place a + rd place b).toNat ≤ s → RR bs a → RR bs b → 0 ≤ rd over a → 0 ≤ rd over b → ((rd place a + rd place b).toNat < s ∨ rd place a < rd place b) →
   ∃ r, Evt (fun k => meetO over place k 2 a b) r ∧ RR bs r ∧ 0 ≤ rd over r ∧ ∀ x, Anc (rd over) x r ↔ Anc (rd over) x a ∧ Anc (rd over) x b := by
  intro j
  induction j with
  | zero =>
   intro a b hj hs ra rb oa ob hlt
   have pa := L.pos a ra
   have pb := L.pos b rb
   obtain ⟨r, e, r1, r2, r3⟩ := ih (rd place a + rd place b).toNat (by omega) a b (Nat.le_refl _) ra rb oa ob
   refine ⟨r, Evt.succ ?_, r1, r2, r3⟩
   simp only [meetO, if_pos (And.intro (ra.inL hp) (rb.inL hp)), if_neg (show ¬ rd place b > rd place a by omega)]
   exact e
  | succ j ihj =>
   intro a b hj hs ra rb oa ob hlt
   have pa := L.pos a ra
   have pb := L.pos b rb
   by_cases h : rd place b > rd place a
   ·have hb0 : b ≠ 0 := fun e => by subst e; have := L.zero; omega
    obtain ⟨u1, u2, u3⟩ := T.up b rb hb0 ob
    have pu := L.pos _ u1
    obtain ⟨r, e, r1, r2, r3⟩ := ihj a (rd over b) (by omega) (by omega) ra u1 oa u2 (.inl (by omega))
    refine ⟨r, Evt.succ ?_, r1, r2, fun x => ?_⟩
    ·simp only [meetO, if_pos (And.intro (ra.inL hp) (rb.inL hp)), if_pos h, if_pos (rb.inL ho)]
     exact e
    ·rw [r3]
     refine and_congr_right fun hx => ⟨fun h2 => .up hb0 h2, fun h2 => ?_⟩
     refine (h2.cases_ne fun e => ?_).2
     subst e
     have := (T.anc hx ra oa).2.2
     omega
   ·obtain ⟨r, e, r1, r2, r3⟩ := ih (rd place a + rd place b).toNat (by omega) a b (Nat.le_refl _) ra rb oa ob
    refine ⟨r, Evt.succ ?_, r1, r2, r3⟩
    simp only [meetO, if_pos (And.intro (ra.inL hp) (rb.inL hp)), if_neg h]
    exact e
 have s1 : ∀ (j : Nat) (a b : Int), (rd place a).toNat ≤ j → (rd place a + rd place b).toNat ≤ s → RR bs a → RR bs b → 0 ≤ rd over a → 0 ≤ rd over b → ((rd place a + rd place b).toNat < s ∨ rd place a ≠ rd place b) →
   ∃ r, Evt (fun k => meetO over place k 1 a b) r ∧ RR bs r ∧ 0 ≤ rd over r ∧ ∀ x, Anc (rd over) x r ↔ Anc (rd over) x a ∧ Anc (rd over) x b := by
  intro j
  induction j with
  | zero =>
   intro a b hj hs ra rb oa ob hlt
   have pa := L.pos a ra
   have pb := L.pos b rb
   obtain ⟨r, e, r1, r2, r3⟩ := s2 _ a b (Nat.le_refl _) hs ra rb oa ob (by omega)
   refine ⟨r, Evt.succ ?_, r1, r2, r3⟩
   simp only [meetO, if_pos (And.intro (ra.inL hp) (rb.inL hp)), if_neg (show ¬ rd place a > rd place b by omega)]
   exact e
  | succ j ihj =>
   intro a b hj hs ra rb oa ob hlt
   have pa := L.pos a ra
   have pb := L.pos b rb
   by_cases h : rd place a > rd place b
   ·have ha0 : a ≠ 0 := fun e => by subst e; have := L.zero; omega
    obtain ⟨u1, u2, u3⟩ := T.up a ra ha0 oa
    have pu := L.pos _ u1
    obtain ⟨r, e, r1, r2, r3⟩ := ihj (rd over a) b (by omega) (by omega) u1 rb u2 ob (.inl (by omega))
    refine ⟨r, Evt.succ ?_, r1, r2, fun x => ?_⟩
    ·simp only [meetO, if_pos (And.intro (ra.inL hp) (rb.inL hp)), if_pos h, if_pos (ra.inL ho)]
     exact e
    ·rw [r3]
     refine and_congr_left fun hx => ⟨fun h2 => .up ha0 h2, fun h2 => ?_⟩
     refine (h2.cases_ne fun e => ?_).2
     subst e
     have := (T.anc hx rb ob).2.2
     omega
   ·obtain ⟨r, e, r1, r2, r3⟩ := s2 _ a b (Nat.le_refl _) hs ra rb oa ob (by omega)
    refine ⟨r, Evt.succ ?_, r1, r2, r3⟩
    simp only [meetO, if_pos (And.intro (ra.inL hp) (rb.inL hp)), if_neg h]
    exact e
 intro a b hs ra rb oa ob
 by_cases e : a = b
 ·subst e
  refine ⟨a, Evt.succ ?_, ra, oa, fun x => by simp⟩
  simp only [meetO, if_pos]
  exact Evt.pure _
 ·obtain ⟨r, h, r1, r2, r3⟩ := s1 _ a b (Nat.le_refl _) hs ra rb oa ob (.inr fun h => e (L.inj a b ra rb h))
  refine ⟨r, Evt.succ ?_, r1, r2, r3⟩
  simp only [meetO, if_neg e]
  exact h
def NB (bs : List S50) (o : Int → Int) (Q : Int → Prop) (b : Int) : Prop := (b < 0 ∧ ∀ p, Q p → ¬ 0 ≤ o p) ∨ (RR bs b ∧ 0 ≤ o b ∧ ∀ x, Anc o x b ↔ ∀ p, Q p → 0 ≤ o p → Anc o x p)
theorem best_l (T : Tree bs.length (nextL bs) (rd place) (rd over)) (L : Pl bs.length (nextL bs) (rd place)) (ho : over.length = bs.length) (hp : place.length = bs.length) :
  ∀ (ps : List Int) (Q : Int → Prop) (b : Int), (∀ p ∈ ps, 0 ≤ p ∧ p < (bs.length : Int)) → NB bs (rd over) Q b → ∃ r, Evt (fun k => bestO over place k ps b) r ∧ NB bs (rd over) (fun p => Q p ∨ p ∈ ps) r
 | [], Q, b, _, h => ⟨b, Evt.pure b, by simpa using h⟩
 | p :: ps, Q, b, hv, h => by
  have hv0 := hv p (List.mem_cons_self ..)
  have hin : inL over p := ⟨hv0.1, by omega⟩
  have key : ∀ b', NB bs (rd over) (fun x => Q x ∨ x = p) b' → ∃ r, Evt (fun k => bestO over place k ps b') r ∧ NB bs (rd over) (fun x => Q x ∨ x ∈ p :: ps) r := fun b' h' => by
   obtain ⟨r, e, hr⟩ := best_l T L ho hp ps _ b' (fun x hx => hv x (List.mem_cons_of_mem _ hx)) h'
   refine ⟨r, e, ?_⟩
   have : (fun x => (Q x ∨ x = p) ∨ x ∈ ps) = fun x => Q x ∨ x ∈ p :: ps := by
    funext x; simp [or_assoc]
   rw [this] at hr
   exact hr
  by_cases hneg : rd over p < 0
  ·obtain ⟨r, e, hr⟩ := key b (by
    rcases h with ⟨h1, h2⟩ | ⟨h1, h2, h3⟩
    ·exact .inl ⟨h1, fun x hx => hx.elim (h2 x) (fun e => by rw [e]; omega)⟩
    ·refine .inr ⟨h1, h2, fun x => (h3 x).trans ⟨fun h y hy ho => hy.elim (fun hy => h y hy ho) (fun e => by rw [e] at ho; omega), fun h y hy ho => h y (.inl hy) ho⟩⟩)
   refine ⟨r, ?_, hr⟩
   simp only [bestO, if_pos hin, if_pos hneg]
   exact e
  ·have rp : RR bs p := by
    by_cases hR : RR bs p
    ·exact hR
    ·have := T.neg p hv0.1 hv0.2 hR; omega
   by_cases hb : b < 0
   ·obtain ⟨r, e, hr⟩ := key p (by
     rcases h with ⟨h1, h2⟩ | ⟨h1, h2, h3⟩
     ·refine .inr ⟨rp, by omega, fun x => ⟨fun h y hy ho => hy.elim (fun hy => absurd ho (h2 y hy)) (fun e => e ▸ h), fun h => h p (.inr rfl) (by omega)⟩⟩
     ·have := h1.inV (next_edges bs); omega)
    refine ⟨r, ?_, hr⟩
    simp only [bestO, if_pos hin, if_neg hneg, if_pos hb]
    exact e
   ·rcases h with ⟨h1, h2⟩ | ⟨h1, h2, h3⟩
    ·exact absurd h1 hb
    ·obtain ⟨m, em, m1, m2, m3⟩ := meet_ok T L ho hp _ p b (Nat.le_refl _) rp h1 (by omega) h2
     obtain ⟨r, e, hr⟩ := key m (.inr ⟨m1, m2, fun x => (m3 x).trans ⟨fun h y hy ho => hy.elim (fun hy => (h3 x).1 h.2 y hy ho) (fun e => e ▸ h.1), fun h => ⟨h p (.inr rfl) (by omega), (h3 x).2 fun y hy ho => h y (.inl hy) ho⟩⟩⟩)
     refine ⟨r, ?_, hr⟩
     simp only [bestO, if_pos hin, if_neg hneg, if_neg hb]
     exact Evt.bind em e
end
end Go.Proofs.Ytilopoegoddggaa.X
namespace Go.Proofs.Ytilopoegoddggaa.X
open Go.RowKit Go.Proofs.YtilopoegoddggaaW.PrintWords Go.Proofs.YtilopoegoddggaaW.PrintLast Go.Proofs.YtilopoegoddggaaW.PrintMore
open Go.Proofs.Ytilopoegoddggaa.G
set_option linter.all false
theorem sum_le (f g : Int → Nat) : ∀ l : List Int, (∀ x ∈ l, f x ≤ g x) → (l.map f).sum ≤ (l.map g).sum
 | [], _ => Nat.le_refl _
 | x :: l, h => by
  have h1 := h x (List.mem_cons_self ..)
  have h2 := sum_le f g l fun y hy => h y (List.mem_cons_of_mem _ hy)
  simp only [List.map_cons, List.sum_cons]; omega
theorem sum_lt (f g : Int → Nat) : ∀ (l : List Int) (n : Int), (∀ x ∈ l, f x ≤ g x) → n ∈ l → f n < g n → (l.map f).sum < (l.map g).sum
 | x :: l, n, h, hn, hlt => by
  have h1 := h x (List.mem_cons_self ..)
  have h2 := sum_le f g l fun y hy => h y (List.mem_cons_of_mem _ hy)
  simp only [List.map_cons, List.sum_cons]
  rcases List.mem_cons.1 hn with rfl | hn
  ·omega
  ·have := sum_lt f g l n (fun y hy => h y (List.mem_cons_of_mem _ hy)) hn hlt
   omega
theorem rd_upd (over : List Int) (n r : Int) (h0 : 0 < n) (h1 : n < (over.length : Int)) : rd (over.set n.toNat r) = upd (rd over) n r := by
 funext x
 unfold upd rd
 rw [List.getD_eq_getElem?_getD, List.getD_eq_getElem?_getD, List.getElem?_set]
 by_cases e : x = n
 ·subst e; rw [if_pos rfl, if_pos rfl, if_pos (by omega)]; rfl
 ·rw [if_neg (by omega), if_neg e]
def Sum (ord place over : List Int) : Nat := (ord.map fun n => (rd place (rd over n)).toNat).sum
section
variable {bs : List S50} {ord place : List Int} {seen : List Bool}
theorem best_ok {over : List Int} {n : Int} {fin : Bool} (I : Inv bs.length (nextL bs) (rd place) (rd over) (rd place n) fin) (L : Pl bs.length (nextL bs) (rd place)) (ho : over.length = bs.length) (hp : place.length = bs.length) (hn : RR bs n) (h0 : n ≠ 0) :
  ∃ r, Evt (fun k => bestO over place k (predsL bs n) (-1)) r ∧ Best bs.length (nextL bs) (rd over) n r := by
 obtain ⟨r, e, h⟩ := best_l I.toTree L ho hp (predsL bs n) (fun _ => False) (-1) (fun p hm => (next_edges bs _ _ (mem_preds.1 hm)).1) (.inl ⟨by omega, fun _ h => h.elim⟩)
 refine ⟨r, e, ?_⟩
 obtain ⟨q, q1, q2, q3⟩ := L.pred n hn h0
 have hq := I.P q q1 (.inl q3)
 rcases h with ⟨h1, h2⟩ | ⟨h1, h2, h3⟩
 ·exact absurd hq (h2 q (.inr (mem_preds.2 q2)))
 ·exact ⟨h1, h2, fun x => (h3 x).trans ⟨fun h p a _ c => h p (.inr (mem_preds.2 a)) c, fun h p a c => by
   have hs := mem_preds.1 (a.resolve_left id)
   refine h p hs ?_ c
   by_cases hR : RR bs p
   ·exact hR
   ·have hv := (next_edges bs _ _ hs).1
    have := I.neg p hv.1 hv.2 hR
    omega⟩⟩
theorem row_ok (a0 a1 : Int) (hl : bs.length ≤ 1000) (O : Ord bs seen ord) (Q : Pos ord (rd place)) (L : Pl bs.length (nextL bs) (rd place)) (hp : place.length = bs.length) (fin : Bool) :
  ∀ (ns pre over : List Int) (more : Bool), ord = 0 :: pre ++ ns → over.length = bs.length → Inv bs.length (nextL bs) (rd place) (rd over) (pre.length + 1 : Nat) fin →
   ∃ over' more', Evt (fun k => rowO a0 a1 bs place k ns over more) (over', more') ∧ over'.length = bs.length ∧ Inv bs.length (nextL bs) (rd place) (rd over') ord.length fin ∧
    (more' = false → more = false ∧ over' = over ∧ ∀ n ∈ ns, Best bs.length (nextL bs) (rd over) n (rd over n)) ∧ (fin = true → Sum ord place over' ≤ Sum ord place over ∧ (more' = true → more = true ∨ Sum ord place over' < Sum ord place over))
 | [], pre, over, more, e, ho, I => by
  refine ⟨over, more, Evt.pure _, ho, ?_, fun h => ⟨h, rfl, by simp⟩, fun _ => ⟨Nat.le_refl _, .inl⟩⟩
  rw [e, List.append_nil, List.length_cons]
  exact I
 | n :: ns, pre, over, more, e, ho, I => by
  have hmem : n ∈ ord := by rw [e]; simp
  have hn : RR bs n := (O.mem n).1 hmem
  have hv := hn.inV (next_edges bs)
  have hpl : rd place n = (pre.length + 1 : Nat) := by
   have := Q.at_ (0 :: pre) ns n e
   simpa using this
  have h0 : n ≠ 0 := fun h => by rw [h, L.zero] at hpl; omega
  rw [← hpl] at I
  obtain ⟨r, er, B⟩ := best_ok I L ho hp hn h0
  have hin : inL over n := ⟨hv.1, by omega⟩
  have hfun := rd_upd over n r (by omega) hin.2
  have I' := I.step L hn h0 B
  rw [← hfun] at I'
  obtain ⟨over', more', e', h1, h2, h3, h4⟩ := row_ok a0 a1 hl O Q L hp fin ns (pre ++ [n]) (over.set n.toNat r) (more || (rd over n != r)) (by rw [e]; simp) (by rw [List.length_set]; exact ho) (by
   rw [hpl] at I'
   have : ((pre ++ [n]).length + 1 : Nat) = ((pre.length + 1 : Nat) : Int) + 1 := by simp
   rw [this]; exact I')
  refine ⟨over', more', ?_, h1, h2, fun hm => ?_, fun hf => ?_⟩
  ·simp only [rowO]
   refine Evt.bind (before_ev a0 a1 bs n (by omega)) (Evt.bind er ?_)
   simp only [if_pos hin]
   exact e'
  ·obtain ⟨m1, m2, m3⟩ := h3 hm
   obtain ⟨m4, m5⟩ : more = false ∧ rd over n = r := by simpa using m1
   have hset : over.set n.toNat r = over := by
    rw [← m5]
    unfold rd
    rw [List.getD_eq_getElem?_getD, List.getElem?_eq_getElem (show n.toNat < over.length by omega)]
    simp
   rw [hset] at m2 m3
   refine ⟨m4, m2, fun x hx => ?_⟩
   rcases List.mem_cons.1 hx with rfl | hx
   ·rw [m5]; exact B
   ·exact m3 x hx
  ·obtain ⟨s1, s2⟩ := h4 hf
   subst hf
   have hon := I.P n hn (.inr rfl)
   have hK : Anc (rd over) r (rd over n) := I.K n hn h0 hon r ((B.all r).1 (.refl _))
   obtain ⟨u1, u2, u3⟩ := I.up n hn h0 hon
   have hle := (I.toTree.anc hK u1 u2).2.2
   have hpr := L.pos r B.rch
   have hpo := L.pos _ u1
   have hpt : ∀ x ∈ ord, (rd place (rd (over.set n.toNat r) x)).toNat ≤ (rd place (rd over x)).toNat := by
    intro x hx
    rw [hfun]
    unfold upd
    split
    ·rename_i hxn
     subst hxn
     omega
    ·exact Nat.le_refl _
   have hsum : Sum ord place (over.set n.toNat r) ≤ Sum ord place over := sum_le _ _ ord hpt
   refine ⟨Nat.le_trans s1 hsum, fun hm => ?_⟩
   rcases s2 hm with h | h
   ·rw [Bool.or_eq_true] at h
    rcases h with h | h
    ·exact .inl h
    ·refine .inr (Nat.lt_of_le_of_lt s1 (sum_lt _ _ ord n hpt hmem ?_))
     have hne : r ≠ rd over n := fun e => by simp [e] at h
     have := I.toTree.lt hK hne u1 u2
     rw [hfun, upd_self]
     omega
   ·exact .inr (by omega)
def Fin (bs : List S50) (place over : List Int) : Prop := over.length = bs.length ∧ Inv bs.length (nextL bs) (rd place) (rd over) 1 true ∧ Fix bs.length (nextL bs) (rd over)
theorem pos_lt (O : Ord bs seen ord) (Q : Pos ord (rd place)) {m : Int} (h : RR bs m) : rd place m < ord.length := by
 obtain ⟨l1, l2, e⟩ := List.append_of_mem ((O.mem m).2 h)
 rw [Q.at_ l1 l2 m e, e]
 simp; omega
theorem round_ok (a0 a1 : Int) (hl : bs.length ≤ 1000) (O : Ord bs seen ord) (Q : Pos ord (rd place)) (L : Pl bs.length (nextL bs) (rd place)) (hp : place.length = bs.length) {t : List Int} (ht : ord = 0 :: t) (fin : Bool) (over : List Int) (ho : over.length = bs.length) (I : Inv bs.length (nextL bs) (rd place) (rd over) 1 fin) :
  ∃ over' more', Evt (fun k => rowO a0 a1 bs place k t over false) (over', more') ∧ over'.length = bs.length ∧ Inv bs.length (nextL bs) (rd place) (rd over') 1 true ∧ (more' = false → Fin bs place over') ∧ (more' = true → fin = true → Sum ord place over' < Sum ord place over) := by
 obtain ⟨over', more', e, h1, h2, h3, h4⟩ := row_ok a0 a1 hl O Q L hp fin t [] over false (by rw [ht]; rfl) ho (by simpa using I)
 have hj : ∀ m, RR bs m → rd place m < ord.length := fun m h => pos_lt O Q h
 have h2' := h2.again L hj
 refine ⟨over', more', e, h1, h2', fun hm => ⟨h1, h2', fun n hn h0 => ?_⟩, fun hm hf => ?_⟩
 ·obtain ⟨_, m2, m3⟩ := h3 hm
  subst m2
  refine m3 n ?_
  have := (O.mem n).2 hn
  rw [ht] at this
  exact (List.mem_cons.1 this).resolve_left h0
 ·rcases (h4 hf).2 hm with h | h
  ·cases h
  ·exact h
theorem rounds_ok (a0 a1 : Int) (hl : bs.length ≤ 1000) (O : Ord bs seen ord) (Q : Pos ord (rd place)) (L : Pl bs.length (nextL bs) (rd place)) (hp : place.length = bs.length) {t : List Int} (ht : ord = 0 :: t) :
  ∀ (s : Nat) (over : List Int), over.length = bs.length → Inv bs.length (nextL bs) (rd place) (rd over) 1 true → Sum ord place over ≤ s → ∃ over', (∃ K, ∀ k j, K ≤ k → K ≤ j → roundsO a0 a1 bs place k t j over = some over') ∧ Fin bs place over' := by
 intro s
 induction s with
 | zero =>
  intro over ho I hs
  obtain ⟨over', more', ⟨K, e⟩, h1, h2, h3, h4⟩ := round_ok a0 a1 hl O Q L hp ht true over ho I
  replace e : ∀ k, K ≤ k → rowO a0 a1 bs place k t over false = some (over', more') := e
  cases more' with
  | true => have := h4 rfl rfl; omega
  | false =>
   refine ⟨over', ⟨K + 1, fun k j hk hj => ?_⟩, h3 rfl⟩
   obtain ⟨j', rfl⟩ : ∃ j', j = j' + 1 := ⟨j - 1, by omega⟩
   rw [roundsO, e k (by omega), Option.bind_some, if_neg (by simp)]
 | succ s ih =>
  intro over ho I hs
  obtain ⟨over', more', ⟨K, e⟩, h1, h2, h3, h4⟩ := round_ok a0 a1 hl O Q L hp ht true over ho I
  replace e : ∀ k, K ≤ k → rowO a0 a1 bs place k t over false = some (over', more') := e
  cases more' with
  | true =>
   obtain ⟨r, ⟨K2, er⟩, hr⟩ := ih over' h1 h2 (by have := h4 rfl rfl; omega)
   refine ⟨r, ⟨K + K2 + 1, fun k j hk hj => ?_⟩, hr⟩
   obtain ⟨j', rfl⟩ : ∃ j', j = j' + 1 := ⟨j - 1, by omega⟩
   rw [roundsO, e k (by omega), Option.bind_some, if_pos (by simp)]
   exact er k j' (by omega) (by omega)
  | false =>
   refine ⟨over', ⟨K + 1, fun k j hk hj => ?_⟩, h3 rfl⟩
   obtain ⟨j', rfl⟩ : ∃ j', j = j' + 1 := ⟨j - 1, by omega⟩
   rw [roundsO, e k (by omega), Option.bind_some, if_neg (by simp)]
theorem first_ok (a0 a1 : Int) (hl : bs.length ≤ 1000) (O : Ord bs seen ord) (Q : Pos ord (rd place)) (L : Pl bs.length (nextL bs) (rd place)) (hp : place.length = bs.length) {t : List Int} (ht : ord = 0 :: t)
  (over : List Int) (ho : over.length = bs.length) (I : Inv bs.length (nextL bs) (rd place) (rd over) 1 false) : ∃ over', (∃ K, ∀ k j, K ≤ k → K ≤ j → roundsO a0 a1 bs place k t j over = some over') ∧ Fin bs place over' := by
 obtain ⟨over', more', ⟨K, e⟩, h1, h2, h3, h4⟩ := round_ok a0 a1 hl O Q L hp ht false over ho I
 replace e : ∀ k, K ≤ k → rowO a0 a1 bs place k t over false = some (over', more') := e
 cases more' with
 | true =>
  obtain ⟨r, ⟨K2, er⟩, hr⟩ := rounds_ok a0 a1 hl O Q L hp ht _ over' h1 h2 (Nat.le_refl _)
  refine ⟨r, ⟨K + K2 + 1, fun k j hk hj => ?_⟩, hr⟩
  obtain ⟨j', rfl⟩ : ∃ j', j = j' + 1 := ⟨j - 1, by omega⟩
  rw [roundsO, e k (by omega), Option.bind_some, if_pos (by simp)]
  exact er k j' (by omega) (by omega)
 | false =>
  refine ⟨over', ⟨K + 1, fun k j hk hj => ?_⟩, h3 rfl⟩
  obtain ⟨j', rfl⟩ : ∃ j', j = j' + 1 := ⟨j - 1, by omega⟩
  rw [roundsO, e k (by omega), Option.bind_some, if_neg (by simp)]
end
theorem meetO_mono (over place : List Int) : ∀ k m a b, LeO (meetO over place k m a b) (meetO over place (k + 1) m a b)
 | 0, _, _, _ => LeO.none _
 | k + 1, 0, a, b => by
  rw [meetO, meetO]
  exact LeO.ite (LeO.refl _) (meetO_mono over place k 1 a b)
 | k + 1, 1, a, b => by
  rw [meetO, meetO]
  exact LeO.ite (LeO.ite (LeO.ite (meetO_mono over place k 1 _ _) (LeO.refl _)) (meetO_mono over place k 2 a b)) (LeO.refl _)
 | k + 1, n + 2, a, b => by
  rw [meetO, meetO]
  exact LeO.ite (LeO.ite (LeO.ite (meetO_mono over place k 2 _ _) (LeO.refl _)) (meetO_mono over place k 0 a b)) (LeO.refl _)
theorem bestO_mono (over place : List Int) (k : Nat) : ∀ ps b, LeO (bestO over place k ps b) (bestO over place (k + 1) ps b)
 | [], _ => LeO.refl _
 | p :: ps, b => by
  rw [bestO, bestO]
  exact LeO.ite (LeO.ite (bestO_mono over place k ps b) (LeO.ite (bestO_mono over place k ps p) (LeO.bind (meetO_mono over place k 0 p b) fun m => bestO_mono over place k ps m))) (LeO.refl _)
theorem rowO_mono (a0 a1 : Int) (bs : List S50) (place : List Int) (k : Nat) : ∀ ns over more, LeO (rowO a0 a1 bs place k ns over more) (rowO a0 a1 bs place (k + 1) ns over more)
 | [], _, _ => LeO.refl _
 | n :: ns, over, more => by
  rw [rowO, rowO]
  exact LeO.bind (flow_Before.mono _ _ _ _ k) fun ps => LeO.bind (bestO_mono over place k ps _) fun b => LeO.ite (rowO_mono a0 a1 bs place k ns _ _) (LeO.refl _)
theorem roundsO_mono (a0 a1 : Int) (bs : List S50) (place : List Int) (k : Nat) (ns : List Int) : ∀ j over, LeO (roundsO a0 a1 bs place k ns j over) (roundsO a0 a1 bs place (k + 1) ns (j + 1) over)
 | 0, _ => LeO.none _
 | j + 1, over => by
  rw [roundsO, roundsO]
  exact LeO.bind (rowO_mono a0 a1 bs place k ns over false) fun q => LeO.ite (roundsO_mono a0 a1 bs place k ns j q.1) (LeO.refl _)
theorem grownO_mono (a0 a1 : Int) (bs : List S50) (k : Nat) : LeO (grownO a0 a1 bs k) (grownO a0 a1 bs (k + 1)) := by
 unfold grownO
 exact LeO.bind (LeO.refl _) fun order => LeO.bind (LeO.refl _) fun place => LeO.ite (LeO.refl _) (LeO.ite (LeO.bind (roundsO_mono a0 a1 bs place k _ k _) fun _ => LeO.refl _) (LeO.refl _))
theorem anyK_ev {α : Type} {g : Nat → Option α} {r : α} (h : Evt g r) (hm : ∀ k, LeO (g k) (g (k + 1))) : anyK g = some r := by
 refine anyK_eq h.ex fun k q hq => ?_
 obtain ⟨K, hK⟩ := h
 have h1 := more_rounds hm k (K - k) q hq
 by_cases hk : K ≤ k
 ·rw [hK k hk] at hq; exact (Option.some.inj hq).symm
 ·rw [hK (k + (K - k)) (by omega)] at h1
  exact (Option.some.inj h1).symm
end Go.Proofs.Ytilopoegoddggaa.X
