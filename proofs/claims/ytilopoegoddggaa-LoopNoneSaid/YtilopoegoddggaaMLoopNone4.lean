/- Part 5 of the proof of the statement LoopNone: the words of the walks, the walks through the functions that it reaches, and the plain laws of what they compute. -/
import Derived.Test.YtilopoegoddggaaMLoopNone3
import Derived.Test.YtilopoegoddggaaRows
import Derived.WalkKit
import Derived.ProofKit
import Derived.OpenShut
import Derived.ShutString
import Derived.ChangeOld
import Derived.Below
import Derived.SizedLaws
namespace Go.Proofs.Ytilopoegoddggaa.X
open Go.RowKit Go.Proofs.YtilopoegoddggaaW.PrintWords Go.Proofs.YtilopoegoddggaaW.PrintLast Go.Proofs.YtilopoegoddggaaW.PrintMore
attribute [local go_sem] max2_int min2_int max_two min_two max_three min_three max_four min_four
set_option linter.all false
noncomputable section
mutual
def davitref09_All.l0 : Nat → List (List Bool) → List (S40) → Int → Int → Int → List (S50) → Option ((List (S40)))
 | 0, _, _, _, _, _, _ => none
 | k + 1, x3, x4, x5, x380000, x380001, x380002 => if x5 < (x380002.length : Int) then (if 0 ≤ (x380002.length : Int) then (if ((x380002.length : Int) : Int).toNat ≤ 281474976710656 then (davitref09_All.l1 k x3 x4 x5 (List.replicate ((x380002.length : Int) : Int).toNat false) false 0 x380000 x380001 x380002) else (none)) else (none)) else (some x4)
def davitref09_All.l1 : Nat → List (List Bool) → List (S40) → Int → List Bool → Bool → Int → Int → Int → List (S50) → Option ((List (S40)))
 | 0, _, _, _, _, _, _, _, _, _ => none
 | k + 1, x3, x4, x5, x6, x7, x8, x380000, x380001, x380002 => if x8 < (x380002.length : Int) then (if 0 ≤ x5 then (if x5 < (x3.length : Int) then (if 0 ≤ x8 then (if x8 < ((rd_L12 x3 x5).length : Int) then (if (rdOf false (rd_L12 x3 x5) x8 = true) then ((davitref07_Next.f k x380000 x380001 x380002 x8).bind fun t388 => ((davitref07_Has.f k t388 x5).bind fun t391 => (davitref09_All.j2 k x3 x4 x5 x6 x7 x8 (!t391) x380000 x380001 x380002))) else (davitref09_All.j2 k x3 x4 x5 x6 x7 x8 true x380000 x380001 x380002)) else (none)) else (none)) else (none)) else (none)) else (if x7 = true then (if 0 ≤ x5 then (if x5 < (x6.length : Int) then (davitref09_All.l3 k x3 x4 x5 (x6.set (x5 : Int).toNat true) 0 x380000 x380001 x380002 x5 ([] : List Int)) else (none)) else (none)) else (davitref09_All.l0 k x3 x4 (wrap64 (x5 + 1)) x380000 x380001 x380002))
def davitref09_All.j2 : Nat → List (List Bool) → List (S40) → Int → List Bool → Bool → Int → Bool → Int → Int → List (S50) → Option ((List (S40)))
 | 0, _, _, _, _, _, _, _, _, _, _ => none
 | k + 1, x3, x4, x5, x6, x7, x8, x48, x380000, x380001, x380002 => if x48 = true then (davitref09_All.l1 k x3 x4 x5 x6 x7 (wrap64 (x8 + 1)) x380000 x380001 x380002) else ((davitref09_comes.f k x380000 x380001 x380002 x8 x5).bind fun t392 => (davitref09_All.l2 k x3 x4 x5 x6 true x8 t392 0 x380000 x380001 x380002))
def davitref09_All.l2 : Nat → List (List Bool) → List (S40) → Int → List Bool → Bool → Int → List Bool → Int → Int → Int → List (S50) → Option ((List (S40)))
 | 0, _, _, _, _, _, _, _, _, _, _, _ => none
 | k + 1, x3, x4, x5, x6, x7, x8, x9, x10, x380000, x380001, x380002 => if x10 < (x6.length : Int) then (if 0 ≤ x10 then (if rdOf false x6 x10 = true then (davitref09_All.l2 k x3 x4 x5 (x6.set (x10 : Int).toNat true) x7 x8 x9 (wrap64 (x10 + 1)) x380000 x380001 x380002) else (if x10 < (x9.length : Int) then (if rdOf false x9 x10 = true then (if 0 ≤ x5 then (if x5 < (x3.length : Int) then (if x10 < ((rd_L12 x3 x5).length : Int) then (davitref09_All.l2 k x3 x4 x5 (x6.set (x10 : Int).toNat (rdOf false (rd_L12 x3 x5) x10)) x7 x8 x9 (wrap64 (x10 + 1)) x380000 x380001 x380002) else (none)) else (none)) else (none)) else (davitref09_All.l2 k x3 x4 x5 (x6.set (x10 : Int).toNat false) x7 x8 x9 (wrap64 (x10 + 1)) x380000 x380001 x380002)) else (none))) else (none)) else (davitref09_All.l1 k x3 x4 x5 x6 x7 (wrap64 (x8 + 1)) x380000 x380001 x380002)
def davitref09_All.l3 : Nat → List (List Bool) → List (S40) → Int → List Bool → Int → Int → Int → List (S50) → Int → List Int → Option ((List (S40)))
 | 0, _, _, _, _, _, _, _, _, _, _ => none
 | k + 1, x3, x4, x5, x6, x12, x380000, x380001, x380002, x404000, x404001 => if x12 < (x6.length : Int) then (if 0 ≤ x12 then (if rdOf false x6 x12 = true then (if x404001.length < 17592186044416 then (davitref09_All.l3 k x3 x4 x5 x6 (wrap64 (x12 + 1)) x380000 x380001 x380002 x404000 (x404001 ++ [x12])) else (none)) else (davitref09_All.l3 k x3 x4 x5 x6 (wrap64 (x12 + 1)) x380000 x380001 x380002 x404000 x404001)) else (none)) else (if x4.length < 4398046511104 then (davitref09_All.l0 k x3 (x4 ++ [(⟨x404000, x404001⟩ : S40)]) (wrap64 (x5 + 1)) x380000 x380001 x380002) else (none))
end
def davitref09_All.f (k : Nat) (a0_0 : Int) (a0_1 : Int) (l0_2 : List (S50)) : Option ((List (S40))) := (davitref08_All.f k a0_0 a0_1 l0_2).bind fun t380 => (davitref09_All.l0 k t380 ([] : List (S40)) 0 a0_0 a0_1 l0_2)
theorem davitref09_All.mono_l : ∀ k, (∀ y0 y1 y2 y3 y4 y5, LeO (davitref09_All.l0 k y0 y1 y2 y3 y4 y5) (davitref09_All.l0 (k + 1) y0 y1 y2 y3 y4 y5)) ∧ (∀ y0 y1 y2 y3 y4 y5 y6 y7 y8, LeO (davitref09_All.l1 k y0 y1 y2 y3 y4 y5 y6 y7 y8) (davitref09_All.l1 (k + 1) y0 y1 y2 y3 y4 y5 y6 y7 y8)) ∧ (∀ y0 y1 y2 y3 y4 y5 y6 y7 y8 y9, LeO (davitref09_All.j2 k y0 y1 y2 y3 y4 y5 y6 y7 y8 y9) (davitref09_All.j2 (k + 1) y0 y1 y2 y3 y4 y5 y6 y7 y8 y9)) ∧ (∀ y0 y1 y2 y3 y4 y5 y6 y7 y8 y9 y10, LeO (davitref09_All.l2 k y0 y1 y2 y3 y4 y5 y6 y7 y8 y9 y10) (davitref09_All.l2 (k + 1) y0 y1 y2 y3 y4 y5 y6 y7 y8 y9 y10)) ∧ (∀ y0 y1 y2 y3 y4 y5 y6 y7 y8 y9, LeO (davitref09_All.l3 k y0 y1 y2 y3 y4 y5 y6 y7 y8 y9) (davitref09_All.l3 (k + 1) y0 y1 y2 y3 y4 y5 y6 y7 y8 y9))
 | 0 => ⟨fun _ _ _ _ _ _ r h => by simp [davitref09_All.l0] at h, fun _ _ _ _ _ _ _ _ _ r h => by simp [davitref09_All.l1] at h, fun _ _ _ _ _ _ _ _ _ _ r h => by simp [davitref09_All.j2] at h, fun _ _ _ _ _ _ _ _ _ _ _ r h => by simp [davitref09_All.l2] at h, fun _ _ _ _ _ _ _ _ _ _ r h => by simp [davitref09_All.l3] at h⟩
 | k + 1 => by
  obtain ⟨ih0, ih1, ih2, ih3, ih4⟩ := davitref09_All.mono_l k
  refine ⟨?_, ?_, ?_, ?_, ?_⟩
  ·intro y0 y1 y2 y3 y4 y5
   unfold davitref09_All.l0
   repeat' first
   | (with_reducible exact ih0 _ _ _ _ _ _)
   | (with_reducible exact ih1 _ _ _ _ _ _ _ _ _)
   | (with_reducible exact ih2 _ _ _ _ _ _ _ _ _ _)
   | (with_reducible exact ih3 _ _ _ _ _ _ _ _ _ _ _)
   | (with_reducible exact ih4 _ _ _ _ _ _ _ _ _ _)
   | (with_reducible exact davitref07_Has.mono _ _ _)
   | (with_reducible exact davitref07_Next.mono _ _ _ _ _)
   | (with_reducible exact davitref08_All.mono _ _ _ _)
   | (with_reducible exact davitref09_comes.mono _ _ _ _ _ _)
   | (with_reducible exact LeO.refl _)
   | (with_reducible exact LeO.none _)
   | (with_reducible refine LeO.ite ?_ ?_)
   | (with_reducible refine LeO.bind ?_ (fun _ => ?_))
   | exact ih0 _ _ _ _ _ _
   | exact ih1 _ _ _ _ _ _ _ _ _
   | exact ih2 _ _ _ _ _ _ _ _ _ _
   | exact ih3 _ _ _ _ _ _ _ _ _ _ _
   | exact ih4 _ _ _ _ _ _ _ _ _ _
   | exact davitref07_Has.mono _ _ _
   | exact davitref07_Next.mono _ _ _ _ _
   | exact davitref08_All.mono _ _ _ _
   | exact davitref09_comes.mono _ _ _ _ _ _
   | exact LeO.none _
   | refine LeO.ite ?_ ?_
   | refine LeO.bind ?_ (fun _ => ?_)
  ·intro y0 y1 y2 y3 y4 y5 y6 y7 y8
   unfold davitref09_All.l1
   repeat' first
   | (with_reducible exact ih0 _ _ _ _ _ _)
   | (with_reducible exact ih1 _ _ _ _ _ _ _ _ _)
   | (with_reducible exact ih2 _ _ _ _ _ _ _ _ _ _)
   | (with_reducible exact ih3 _ _ _ _ _ _ _ _ _ _ _)
   | (with_reducible exact ih4 _ _ _ _ _ _ _ _ _ _)
   | (with_reducible exact davitref07_Has.mono _ _ _)
   | (with_reducible exact davitref07_Next.mono _ _ _ _ _)
   | (with_reducible exact davitref08_All.mono _ _ _ _)
   | (with_reducible exact davitref09_comes.mono _ _ _ _ _ _)
   | (with_reducible exact LeO.refl _)
   | (with_reducible exact LeO.none _)
   | (with_reducible refine LeO.ite ?_ ?_)
   | (with_reducible refine LeO.bind ?_ (fun _ => ?_))
   | exact ih0 _ _ _ _ _ _
   | exact ih1 _ _ _ _ _ _ _ _ _
   | exact ih2 _ _ _ _ _ _ _ _ _ _
   | exact ih3 _ _ _ _ _ _ _ _ _ _ _
   | exact ih4 _ _ _ _ _ _ _ _ _ _
   | exact davitref07_Has.mono _ _ _
   | exact davitref07_Next.mono _ _ _ _ _
   | exact davitref08_All.mono _ _ _ _
   | exact davitref09_comes.mono _ _ _ _ _ _
   | exact LeO.none _
   | refine LeO.ite ?_ ?_
   | refine LeO.bind ?_ (fun _ => ?_)
  ·intro y0 y1 y2 y3 y4 y5 y6 y7 y8 y9
   unfold davitref09_All.j2
   repeat' first
   | (with_reducible exact ih0 _ _ _ _ _ _)
   | (with_reducible exact ih1 _ _ _ _ _ _ _ _ _)
   | (with_reducible exact ih2 _ _ _ _ _ _ _ _ _ _)
   | (with_reducible exact ih3 _ _ _ _ _ _ _ _ _ _ _)
   | (with_reducible exact ih4 _ _ _ _ _ _ _ _ _ _)
   | (with_reducible exact davitref07_Has.mono _ _ _)
   | (with_reducible exact davitref07_Next.mono _ _ _ _ _)
   | (with_reducible exact davitref08_All.mono _ _ _ _)
   | (with_reducible exact davitref09_comes.mono _ _ _ _ _ _)
   | (with_reducible exact LeO.refl _)
   | (with_reducible exact LeO.none _)
   | (with_reducible refine LeO.ite ?_ ?_)
   | (with_reducible refine LeO.bind ?_ (fun _ => ?_))
   | exact ih0 _ _ _ _ _ _
   | exact ih1 _ _ _ _ _ _ _ _ _
   | exact ih2 _ _ _ _ _ _ _ _ _ _
   | exact ih3 _ _ _ _ _ _ _ _ _ _ _
   | exact ih4 _ _ _ _ _ _ _ _ _ _
   | exact davitref07_Has.mono _ _ _
   | exact davitref07_Next.mono _ _ _ _ _
   | exact davitref08_All.mono _ _ _ _
   | exact davitref09_comes.mono _ _ _ _ _ _
   | exact LeO.none _
   | refine LeO.ite ?_ ?_
   | refine LeO.bind ?_ (fun _ => ?_)
  ·intro y0 y1 y2 y3 y4 y5 y6 y7 y8 y9 y10
   unfold davitref09_All.l2
   repeat' first
   | (with_reducible exact ih0 _ _ _ _ _ _)
   | (with_reducible exact ih1 _ _ _ _ _ _ _ _ _)
   | (with_reducible exact ih2 _ _ _ _ _ _ _ _ _ _)
   | (with_reducible exact ih3 _ _ _ _ _ _ _ _ _ _ _)
   | (with_reducible exact ih4 _ _ _ _ _ _ _ _ _ _)
   | (with_reducible exact davitref07_Has.mono _ _ _)
   | (with_reducible exact davitref07_Next.mono _ _ _ _ _)
   | (with_reducible exact davitref08_All.mono _ _ _ _)
   | (with_reducible exact davitref09_comes.mono _ _ _ _ _ _)
   | (with_reducible exact LeO.refl _)
   | (with_reducible exact LeO.none _)
   | (with_reducible refine LeO.ite ?_ ?_)
   | (with_reducible refine LeO.bind ?_ (fun _ => ?_))
   | exact ih0 _ _ _ _ _ _
   | exact ih1 _ _ _ _ _ _ _ _ _
   | exact ih2 _ _ _ _ _ _ _ _ _ _
   | exact ih3 _ _ _ _ _ _ _ _ _ _ _
   | exact ih4 _ _ _ _ _ _ _ _ _ _
   | exact davitref07_Has.mono _ _ _
   | exact davitref07_Next.mono _ _ _ _ _
   | exact davitref08_All.mono _ _ _ _
   | exact davitref09_comes.mono _ _ _ _ _ _
   | exact LeO.none _
   | refine LeO.ite ?_ ?_
   | refine LeO.bind ?_ (fun _ => ?_)
  ·intro y0 y1 y2 y3 y4 y5 y6 y7 y8 y9
   unfold davitref09_All.l3
   repeat' first
   | (with_reducible exact ih0 _ _ _ _ _ _)
   | (with_reducible exact ih1 _ _ _ _ _ _ _ _ _)
   | (with_reducible exact ih2 _ _ _ _ _ _ _ _ _ _)
   | (with_reducible exact ih3 _ _ _ _ _ _ _ _ _ _ _)
   | (with_reducible exact ih4 _ _ _ _ _ _ _ _ _ _)
   | (with_reducible exact davitref07_Has.mono _ _ _)
   | (with_reducible exact davitref07_Next.mono _ _ _ _ _)
   | (with_reducible exact davitref08_All.mono _ _ _ _)
   | (with_reducible exact davitref09_comes.mono _ _ _ _ _ _)
   | (with_reducible exact LeO.refl _)
   | (with_reducible exact LeO.none _)
   | (with_reducible refine LeO.ite ?_ ?_)
   | (with_reducible refine LeO.bind ?_ (fun _ => ?_))
   | exact ih0 _ _ _ _ _ _
   | exact ih1 _ _ _ _ _ _ _ _ _
   | exact ih2 _ _ _ _ _ _ _ _ _ _
   | exact ih3 _ _ _ _ _ _ _ _ _ _ _
   | exact ih4 _ _ _ _ _ _ _ _ _ _
   | exact davitref07_Has.mono _ _ _
   | exact davitref07_Next.mono _ _ _ _ _
   | exact davitref08_All.mono _ _ _ _
   | exact davitref09_comes.mono _ _ _ _ _ _
   | exact LeO.none _
   | refine LeO.ite ?_ ?_
   | refine LeO.bind ?_ (fun _ => ?_)
theorem davitref09_All.mono : ∀ a0 a1 a2 k, LeO (davitref09_All.f k a0 a1 a2) (davitref09_All.f (k + 1) a0 a1 a2) := by
 intro a0 a1 a2 k
 obtain ⟨ih0, ih1, ih2, ih3, ih4⟩ := davitref09_All.mono_l k
 unfold davitref09_All.f
 repeat' first
   | (with_reducible exact ih0 _ _ _ _ _ _)
   | (with_reducible exact ih1 _ _ _ _ _ _ _ _ _)
   | (with_reducible exact ih2 _ _ _ _ _ _ _ _ _ _)
   | (with_reducible exact ih3 _ _ _ _ _ _ _ _ _ _ _)
   | (with_reducible exact ih4 _ _ _ _ _ _ _ _ _ _)
   | (with_reducible exact davitref07_Has.mono _ _ _)
   | (with_reducible exact davitref07_Next.mono _ _ _ _ _)
   | (with_reducible exact davitref08_All.mono _ _ _ _)
   | (with_reducible exact davitref09_comes.mono _ _ _ _ _ _)
   | (with_reducible exact LeO.refl _)
   | (with_reducible exact LeO.none _)
   | (with_reducible refine LeO.ite ?_ ?_)
   | (with_reducible refine LeO.bind ?_ (fun _ => ?_))
   | exact ih0 _ _ _ _ _ _
   | exact ih1 _ _ _ _ _ _ _ _ _
   | exact ih2 _ _ _ _ _ _ _ _ _ _
   | exact ih3 _ _ _ _ _ _ _ _ _ _ _
   | exact ih4 _ _ _ _ _ _ _ _ _ _
   | exact davitref07_Has.mono _ _ _
   | exact davitref07_Next.mono _ _ _ _ _
   | exact davitref08_All.mono _ _ _ _
   | exact davitref09_comes.mono _ _ _ _ _ _
   | exact LeO.none _
   | refine LeO.ite ?_ ?_
   | refine LeO.bind ?_ (fun _ => ?_)
set_option maxHeartbeats 8000000 in
set_option maxRecDepth 100000 in
theorem davitref09_All.calls (k : Nat) (a0_0 : Int) (a0_1 : Int) (A0_2 : Option Addr) (c0_2 : Nat) (l0_2 : List (S50)) (r : List (S40)) (w : World) (hr0_2 : Kd.C k50 w A0_2 l0_2.length l0_2) (hc0_2 : l0_2.length ≤ c0_2) (h : davitref09_All.f k a0_0 a0_1 l0_2 = some r) :
  Calls Try.prog 24 #[.agg #[.int .i64 a0_0, .int .i64 a0_1, .slice A0_2 l0_2.length c0_2]] w fun e w' => ∃ v0_ : Value, e = .returned (v0_) ∧ Kd.S k40 40 w' w.heap.size (fun _ => True) v0_ r ∧ Below w.heap.size w w' := by
 have hu24 := Try.underlying24
 have hu40 := Try.underlying40
 have HR0_2 := Aside0.mk hr0_2
 have HC0_2 := Aside0.mk hc0_2
 clear hr0_2 hc0_2
 have HB := Aside0.mk (Below.refl w.heap.size w)
 have H : ((davitref08_All.f k a0_0 a0_1 l0_2).bind fun t380 => (davitref09_All.l0 k t380 ([] : List (S40)) 0 a0_0 a0_1 l0_2)) = some r := h
 clear h
 replace H := Option.bind_eq_some_iff.mp H
 obtain ⟨t380, A20, H⟩ := H
 replace H : (davitref09_All.l0 k t380 ([] : List (S40)) 0 a0_0 a0_1 l0_2) = some r := H
 have A2 := Aside0.mk A20
 clear A20
 have H' := Aside0.mk H
 clear H
 go_enter Try.func24, Try.ntmps24
 go_wp2_with (first | ((with_reducible refine gate_dst (N := 1) rfl ?_); refine box_event ?hg (N := 1) ?hd (cs := #[.int .i64 a0_0, .int .i64 a0_1, .slice A0_2 l0_2.length c0_2]) (t := 24) ?hr ?_; (case hd => rfl); (case hg => rfl); (case hr => first | (go_simp; done) | (go_simp; rfl)); intro gb379 hg w3 hbox hb; have n0_ := Aside0.mk (below_step (by repeat (first | (with_reducible first | exact HB.out | apply below_alloc | apply pw_below_drewN | apply below_drew1) | exact HB.out)) hb); have n1_ := Aside0.mk (hbox); have n2_ := Aside0.mk ((by rw [hg]; exact (below_size (by repeat (first | (with_reducible first | exact HB.out | apply below_alloc | apply pw_below_drewN | apply below_drew1) | exact HB.out))) : w.heap.size ≤ gb379)); have n3_ := Aside0.mk ((by rw [hg]; exact (below_size (by repeat (first | (with_reducible first | exact HB.out | apply below_alloc | apply pw_below_drewN | apply below_drew1) | exact HB.out))) : w.heap.size ≤ gb379)); clear HB; have HB := n0_; have BK379 := n1_; have GW379 := n2_; have GE379 := n3_; clear n0_ n1_ n2_ n3_; clear hb hbox hg; have hcz4_0 : w3.cell? ⟨gb379, 0, none⟩ = some (.int .i64 a0_0) := (blk_cell BK379.out 0).trans rfl; have hcz4_1 : w3.cell? ⟨gb379, 1, none⟩ = some (.int .i64 a0_1) := (blk_cell BK379.out 1).trans rfl; have hcz4_2 : w3.cell? ⟨gb379, 2, none⟩ = some (.slice A0_2 l0_2.length c0_2) := (blk_cell BK379.out 2).trans rfl; have hfz4_0 := blk_frozen BK379.out 0; have hfz4_1 := blk_frozen BK379.out 1; have hfz4_2 := blk_frozen BK379.out 2) | ((with_reducible refine gate_callee (f := 28) rfl ?_); refine goesL_ (some 14) rfl rfl Try.func28 (by kernel_rfl) rfl #[.agg #[.int .i64 a0_0, .int .i64 a0_1, .slice A0_2 l0_2.length c0_2]] rfl (by (try simp only [List.map_toArray, List.map_cons, List.map_nil]); first | done | rfl | (simp only [List.length_drop, List.length_take]; rfl)) ?_; (with_reducible refine (davitref08_All.calls k a0_0 a0_1 _ _ l0_2 t380 _ ?side1 ?side2 A2.out).mono ?_); (case side1 => repeat (first | exact (Kd.C_below HR0_2.out HB.out) | (with_reducible refine Kd.C_alloc ?_ _) | (with_reducible refine Kd.C_drewN ?_ _) | (with_reducible refine Kd.C_drew ?_))); (case side2 => exact HC0_2.out); rintro e w5 ⟨v381, rfl, ho0, hb⟩; refine ⟨_, rfl, ?_⟩; have n0_ := Aside0.mk (Kd.S_lower ho0 (below_size (by repeat (first | (with_reducible first | exact HB.out | apply below_alloc | apply pw_below_drewN | apply below_drew1 | refine below_set ?_ GE379.out) | exact HB.out)))); have n1_ := Aside0.mk (blk_below (g := gb379) (o := .cells #[.int .i64 a0_0, .int .i64 a0_1, .slice A0_2 l0_2.length c0_2] 24 (0, 0)) (by (with_reducible repeat (first | refine blk_drewN ?_ _ | refine blk_drew ?_ | refine blk_alloc ?_ _)); exact BK379.out) hb); have n2_ := Aside0.mk (below_step (by repeat (first | (with_reducible first | exact HB.out | apply below_alloc | apply pw_below_drewN | apply below_drew1 | refine below_set ?_ GE379.out) | exact HB.out)) hb); clear BK379; clear HB; have HO382 := n0_; have BK379 := n1_; have HB := n2_; clear n0_ n1_ n2_; (try clear hb); (try clear hb2); (try clear hk); (try clear hi); (try clear ho0)))
 go_loopg [4, 5] k (fun kq v4 v5 w' => ∃ (x4_1 : List (S40)) (x5_1 : Int), v5 = .int .i64 x5_1 ∧ Aside0 (davitref09_All.l0 kq t380 x4_1 x5_1 a0_0 a0_1 l0_2 = some r) ∧ Aside0 (kq ≤ k) ∧ Aside0 (Kd.S (Kd.slice 4 Kd.bool) 32 w' w.heap.size (fun _ => True) v381 t380) ∧ Aside0 (Kd.S k40 40 w' w.heap.size (fun _ => True) v4 x4_1) ∧ Aside0 (w'.heap[gb379]? = some (.cells #[.int .i64 a0_0, .int .i64 a0_1, (.slice A0_2 l0_2.length c0_2)] 24 (0, 0))) ∧ Aside0 (Below w.heap.size w w'))
 case atStart => exact ⟨(([] : List (S40))), (0), (by first | rfl | (simp; done) | (simp [*]; done)), H', ⟨Nat.le_refl _⟩, ⟨by (with_reducible repeat (first | apply Kd.S_alloc | apply Kd.S_drewN | apply Kd.S_drew)); exact HO382.out⟩, ⟨by first | exact Kd.S_nil _ _ _ _ _ | exact Kd.N_nil _ _ _ _ _ | exact Kd.V_nil _ _ _ _ _ | exact Kd.Q_nil _ _ _ _ _ | exact Kd.R_nil _ _ _ _ _⟩, ⟨by (with_reducible repeat (first | refine blk_drewN ?_ _ | refine blk_drew ?_ | refine blk_alloc ?_ _)); exact BK379.out⟩, ⟨by repeat (first | (with_reducible first | exact HB.out | apply below_alloc | apply pw_below_drewN | apply below_drew1 | refine below_set ?_ GE379.out) | exact HB.out)⟩⟩
 case round =>
  clear H'
  try clear c2
  try clear p2
  try clear hcz4_0
  try clear hcz4_1
  try clear hcz4_2
  try clear hfz4_0
  try clear hfz4_1
  try clear hfz4_2
  obtain ⟨x4_1, x5_1, rfl, HA, HK1, HO_3, HO_4, BK379, HB⟩ := hrel
  cases gk with
  | zero => exact absurd HA.out (by simp [davitref09_All.l0])
  | succ k1 =>
   have H := HA.out
   clear HA
   simp only [davitref09_All.l0] at H
   by_cases c6 : x5_1 < (l0_2.length : Int)
   ·rw [if_pos c6] at H
    have c6b0 : decide (x5_1 < (l0_2.length : Int)) = true := decide_eq_true c6
    clear c6
    by_cases c7 : 0 ≤ (l0_2.length : Int)
    ·rw [if_pos c7] at H
     have c7b0 := eq_true c7
     have c7b1 : decide (0 ≤ (l0_2.length : Int)) = true := decide_eq_true c7
     clear c7
     by_cases c8 : ((l0_2.length : Int) : Int).toNat ≤ 281474976710656
     ·rw [if_pos c8] at H
      have c8b0 := eq_true c8
      have c8b1 : decide (((l0_2.length : Int) : Int).toNat ≤ 281474976710656) = true := decide_eq_true c8
      clear c8
      obtain ⟨y383, hy383⟩ : ∃ y_ : List Bool, y_ = (List.replicate ((l0_2.length : Int) : Int).toNat false) := ⟨_, rfl⟩
      replace H : (davitref09_All.l1 k1 t380 x4_1 x5_1 y383 false 0 a0_0 a0_1 l0_2) = some r := by first | (rw [hy383]; with_reducible exact H) | (have H2_ := (Option.bind_some _ _).symm.trans H; rw [hy383]; with_reducible exact H2_) | (have H2_ := (Option.bind_some _ _).symm.trans H; with_reducible exact H2_) | with_reducible exact H | (rw [hy383]; exact H) | exact H
      have Ny383 := Aside0.mk hy383
      clear hy383
      have H' := Aside0.mk H
      clear H
      have hcz9_0 : wr.cell? ⟨gb379, 0, none⟩ = some (.int .i64 a0_0) := (blk_cell BK379.out 0).trans rfl
      have hcz9_1 : wr.cell? ⟨gb379, 1, none⟩ = some (.int .i64 a0_1) := (blk_cell BK379.out 1).trans rfl
      have hcz9_2 : wr.cell? ⟨gb379, 2, none⟩ = some (.slice A0_2 l0_2.length c0_2) := (blk_cell BK379.out 2).trans rfl
      have hfz9_0 := blk_frozen BK379.out 0
      have hfz9_1 := blk_frozen BK379.out 1
      have hfz9_2 := blk_frozen BK379.out 2
      go_wp2_with (first | ((with_reducible refine gate_dst (N := 25) rfl ?_); refine Kd.R_make Kd.bool _ 4 rfl (N := 25) rfl 32 _ _ rfl (l0_2.length : Int) rfl rfl Try.underlying32 (.bool false) 1 info4 rfl (by decide) (by omega) false (ok := fun _ => True) (okp := fun _ => True) rfl (fun _ hk => hk) trivial (of_decide_eq_true (by first | (with_reducible assumption) | assumption)) (Nat.le_trans (Nat.mul_le_mul_right _ (of_decide_eq_true (by first | (with_reducible assumption) | assumption) : (l0_2.length : Int).toNat ≤ 281474976710656)) (by omega)) (Below.refl _ _) (Nat.le_refl _) ?_; intro v384 w10 ho11 hb hg_ hnew_; clear hg_ hnew_; (first | rw [← Ny383.out] at ho11 | (simp only [Int.reduceToNat] at ho11; rw [← Ny383.out] at ho11)); have n0_ := Aside0.mk (Kd.S_elder' (by (with_reducible repeat (first | apply Kd.S_alloc | apply Kd.S_drewN | apply Kd.S_drew)); exact HO_3.out) (Kd.R_base ho11) hb); have n1_ := Aside0.mk (Kd.S_below (by (with_reducible repeat (first | apply Kd.S_alloc | apply Kd.S_drewN | apply Kd.S_drew)); exact HO_4.out) hb); have n2_ := Aside0.mk (Kd.R_lower ho11 (below_size (by repeat (first | (with_reducible first | exact HB.out | apply below_alloc | apply pw_below_drewN | apply below_drew1 | refine below_set ?_ GE379.out) | exact HB.out)))); have n3_ := Aside0.mk (blk_below (g := gb379) (o := .cells #[.int .i64 a0_0, .int .i64 a0_1, .slice A0_2 l0_2.length c0_2] 24 (0, 0)) (by (with_reducible repeat (first | refine blk_drewN ?_ _ | refine blk_drew ?_ | refine blk_alloc ?_ _)); exact BK379.out) hb); have n4_ := Aside0.mk (below_step (by repeat (first | (with_reducible first | exact HB.out | apply below_alloc | apply pw_below_drewN | apply below_drew1 | refine below_set ?_ GE379.out) | exact HB.out)) hb); clear HO_3; clear HO_4; clear BK379; clear HB; have HO_3 := n0_; have HO_4 := n1_; have HO385 := n2_; have BK379 := n3_; have HB := n4_; clear n0_ n1_ n2_ n3_ n4_; clear hb ho11))
      go_loopg [7, 8] k1 (fun kq v7 v8 w' => ∃ (x6_2 : List Bool) (x7_2 : Bool) (x8_2 : Int), v7 = .bool x7_2 ∧ v8 = .int .i64 x8_2 ∧ Aside0 (davitref09_All.l1 kq t380 x4_1 x5_1 x6_2 x7_2 x8_2 a0_0 a0_1 l0_2 = some r) ∧ Aside0 (kq ≤ k1) ∧ Aside0 (Kd.S (Kd.slice 4 Kd.bool) 32 w' w.heap.size (fun k_ => some k_ ≠ (v384 : Value).ownBlock) v381 t380) ∧ Aside0 (Kd.S k40 40 w' w.heap.size (fun _ => True) u4 x4_1) ∧ Aside0 (Kd.R Kd.bool 4 w' w.heap.size (fun _ => True) v384 x6_2) ∧ Aside0 (w'.heap[gb379]? = some (.cells #[.int .i64 a0_0, .int .i64 a0_1, (.slice A0_2 l0_2.length c0_2)] 24 (0, 0))) ∧ Aside0 (Below w.heap.size w w'))
      case atStart => exact ⟨(y383), (false), (0), (by first | rfl | (simp; done) | (simp [*]; done)), (by first | rfl | (simp; done) | (simp [*]; done)), H', ⟨Nat.le_refl _⟩, ⟨by (with_reducible repeat (first | apply Kd.S_alloc | apply Kd.S_drewN | apply Kd.S_drew)); exact Kd.S_mono HO_3.out (fun _ hk => hk.2)⟩, ⟨by (with_reducible repeat (first | apply Kd.S_alloc | apply Kd.S_drewN | apply Kd.S_drew)); exact HO_4.out⟩, ⟨by (with_reducible repeat (first | apply Kd.R_alloc | apply Kd.R_drewN | apply Kd.R_drew)); exact HO385.out⟩, ⟨by (with_reducible repeat (first | refine blk_drewN ?_ _ | refine blk_drew ?_ | refine blk_alloc ?_ _)); exact BK379.out⟩, ⟨by repeat (first | (with_reducible first | exact HB.out | apply below_alloc | apply pw_below_drewN | apply below_drew1 | refine below_set ?_ GE379.out) | exact HB.out)⟩⟩
      case round =>
       clear H'
       try clear c2
       try clear p2
       try clear c6
       try clear c6b0
       try clear c7
       try clear c7b0
       try clear c7b1
       try clear c8
       try clear c8b0
       try clear c8b1
       try clear hcz4_0
       try clear hcz4_1
       try clear hcz4_2
       try clear hcz9_0
       try clear hcz9_1
       try clear hcz9_2
       try clear hfz4_0
       try clear hfz4_1
       try clear hfz4_2
       try clear hfz9_0
       try clear hfz9_1
       try clear hfz9_2
       try clear p2
       obtain ⟨x6_2, x7_2, x8_2, rfl, rfl, HA, HK2, HO_3, HO_4, HO_6, BK379, HB⟩ := hrel
       cases gk with
       | zero => exact absurd HA.out (by simp [davitref09_All.l1])
       | succ k2 =>
        have H := HA.out
        clear HA
        simp only [davitref09_All.l1] at H
        by_cases c12 : x8_2 < (l0_2.length : Int)
        ·rw [if_pos c12] at H
         have c12b0 : decide (x8_2 < (l0_2.length : Int)) = true := decide_eq_true c12
         clear c12
         have HC13 := Aside0.mk H
         clear H
         have hcz14_0 : wr.cell? ⟨gb379, 0, none⟩ = some (.int .i64 a0_0) := (blk_cell BK379.out 0).trans rfl
         have hcz14_1 : wr.cell? ⟨gb379, 1, none⟩ = some (.int .i64 a0_1) := (blk_cell BK379.out 1).trans rfl
         have hcz14_2 : wr.cell? ⟨gb379, 2, none⟩ = some (.slice A0_2 l0_2.length c0_2) := (blk_cell BK379.out 2).trans rfl
         have hfz14_0 := blk_frozen BK379.out 0
         have hfz14_1 := blk_frozen BK379.out 1
         have hfz14_2 := blk_frozen BK379.out 2
         go_upto_region 11 with (fail)
         go_cut [48] (fun v48 wc => ∃ (kq : Nat) (x48_12 : Bool), v48 = .bool x48_12 ∧ Aside0 (davitref09_All.j2 kq t380 x4_1 x5_1 x6_2 x7_2 x8_2 x48_12 a0_0 a0_1 l0_2 = some r) ∧ Aside0 (kq ≤ k2) ∧ Aside0 (Kd.S (Kd.slice 4 Kd.bool) 32 wc w.heap.size (fun k_ => some k_ ≠ (v384 : Value).ownBlock) v381 t380) ∧ Aside0 (Kd.S k40 40 wc w.heap.size (fun _ => True) u4 x4_1) ∧ Aside0 (Kd.R Kd.bool 4 wc w.heap.size (fun _ => True) v384 x6_2) ∧ Aside0 (wc.heap[gb379]? = some (.cells #[.int .i64 a0_0, .int .i64 a0_1, (.slice A0_2 l0_2.length c0_2)] 24 (0, 0))) ∧ Aside0 (Below w.heap.size w wc))
         case first =>
          have H := HC13.out
          clear HC13
          by_cases c15 : 0 ≤ x5_1
          ·rw [if_pos c15] at H
           have c15b0 : decide (0 ≤ x5_1) = true := decide_eq_true c15
           clear c15
           (first | rw [c15b0] | (simp only [i64_w, i32_w]; rw [c15b0]) | skip)
           by_cases c16 : x5_1 < (t380.length : Int)
           ·rw [if_pos c16] at H
            have c16b0 : decide (x5_1 < (t380.length : Int)) = true := decide_eq_true c16
            clear c16
            by_cases c17 : 0 ≤ x8_2
            ·rw [if_pos c17] at H
             have c17b0 : decide (0 ≤ x8_2) = true := decide_eq_true c17
             clear c17
             by_cases c18 : x8_2 < ((rd_L12 t380 x5_1).length : Int)
             ·rw [if_pos c18] at H
              have c18b0 : decide (x8_2 < ((rd_L12 t380 x5_1).length : Int)) = true := decide_eq_true c18
              clear c18
              obtain ⟨bq19, hbq19⟩ : ∃ b_ : Bool, b_ = (rdOf false (rd_L12 t380 x5_1) x8_2) := ⟨_, rfl⟩
              replace H : (if (bq19 = true) then ((davitref07_Next.f k2 a0_0 a0_1 l0_2 x8_2).bind fun t388 => ((davitref07_Has.f k2 t388 x5_1).bind fun t391 => (davitref09_All.j2 k2 t380 x4_1 x5_1 x6_2 x7_2 x8_2 (!t391) a0_0 a0_1 l0_2))) else (davitref09_All.j2 k2 t380 x4_1 x5_1 x6_2 x7_2 x8_2 true a0_0 a0_1 l0_2)) = some r := by rw [← hbq19] at H; exact H
              have Nbq19 := Aside0.mk hbq19
              clear hbq19
              by_cases c20 : (bq19 = true)
              ·subst c20
               have H1 : ((davitref07_Next.f k2 a0_0 a0_1 l0_2 x8_2).bind fun t388 => ((davitref07_Has.f k2 t388 x5_1).bind fun t391 => (davitref09_All.j2 k2 t380 x4_1 x5_1 x6_2 x7_2 x8_2 (!t391) a0_0 a0_1 l0_2))) = some r := by rw [if_pos rfl] at H; exact H
               clear H
               have H := H1
               clear H1
               replace H := Option.bind_eq_some_iff.mp H
               obtain ⟨t388, A210, H⟩ := H
               replace H : ((davitref07_Has.f k2 t388 x5_1).bind fun t391 => (davitref09_All.j2 k2 t380 x4_1 x5_1 x6_2 x7_2 x8_2 (!t391) a0_0 a0_1 l0_2)) = some r := H
               have A21 := Aside0.mk A210
               clear A210
               replace H := Option.bind_eq_some_iff.mp H
               obtain ⟨t391, A220, H⟩ := H
               replace H : (davitref09_All.j2 k2 t380 x4_1 x5_1 x6_2 x7_2 x8_2 (!t391) a0_0 a0_1 l0_2) = some r := H
               have A22 := Aside0.mk A220
               clear A220
               have H' := Aside0.mk H
               clear H
               obtain ⟨Ao23, co23, eo23⟩ := Kd.S_slice HO_3.out
               subst eo23
               have p386 : 0 ≤ (x5_1 : Int) := of_decide_eq_true (by first | (with_reducible assumption) | assumption)
               have q386 : x5_1 < (t380.length : Int) := of_decide_eq_true (by first | (with_reducible assumption) | assumption)
               obtain ⟨ad386, A386_0, c386_0, e386, hx386_0, hl386_0, hi386_0⟩ := at_L12 (Kd.S_reads' HO_3.out).2.2 x5_1 p386 q386
               cases e386
               obtain ⟨ce386, hce386, hMe386, hcc386⟩ := Kd.S_get HO_3.out [] x5_1 p386 (by first | exact q386 | exact of_decide_eq_true (by first | (with_reducible assumption) | assumption) | (have e_ := (Kd.S_reads' HO_3.out).1; omega))
               obtain ⟨ve386_0, rfl, ge386_0⟩ := hMe386
               have hv386_0 := hcc386 0 _ rfl
               rw [Nat.add_zero, show ((Kd.slice 4 Kd.bool)).sz = 1 from rfl, Nat.mul_one] at hv386_0
               replace hv386_0 := Option.some.inj (hv386_0.symm.trans hx386_0)
               rw [hv386_0] at ge386_0
               have HL386_0 := Aside0.mk (show Kd.R Kd.bool 4 _ _ _ _ (rd_L12 t380 x5_1) from ge386_0)
               clear hv386_0 ge386_0
               clear hcc386 hce386
               have HR386_0 := Aside0.mk hi386_0
               have HC386_0 := Aside0.mk hl386_0
               clear hi386_0 hl386_0
               replace p386 := eq_true p386
               replace q386 := eq_true q386
               have p387 : 0 ≤ (x8_2 : Int) := of_decide_eq_true (by first | (with_reducible assumption) | assumption)
               have q387 : x8_2 < ((rd_L12 t380 x5_1).length : Int) := of_decide_eq_true (by first | (with_reducible assumption) | assumption)
               obtain ⟨ad387, e387, hx387_0⟩ := Kd.at_bool (by repeat (first | (with_reducible exact HR386_0.out) | (with_reducible refine Kd.C_alloc ?_ _) | (with_reducible refine Kd.C_drewN ?_ _) | (with_reducible refine Kd.C_drew ?_) | exact HR386_0.out)) x8_2 p387 q387
               (try rw [← Nbq19.out] at hx387_0)
               cases e387
               replace p387 := eq_true p387
               replace q387 := eq_true q387
               have hcz24_0 : wr.cell? ⟨gb379, 0, none⟩ = some (.int .i64 a0_0) := (blk_cell BK379.out 0).trans rfl
               have hcz24_1 : wr.cell? ⟨gb379, 1, none⟩ = some (.int .i64 a0_1) := (blk_cell BK379.out 1).trans rfl
               have hcz24_2 : wr.cell? ⟨gb379, 2, none⟩ = some (.slice A0_2 l0_2.length c0_2) := (blk_cell BK379.out 2).trans rfl
               have hfz24_0 := blk_frozen BK379.out 0
               have hfz24_1 := blk_frozen BK379.out 1
               have hfz24_2 := blk_frozen BK379.out 2
               go_wp2_with (first | (go_at_call 33; (with_reducible refine (davitref07_Next.calls k2 a0_0 a0_1 _ _ l0_2 x8_2 t388 _ ?side1 ?side2 A21.out).mono ?_); (case side1 => repeat (first | exact (Kd.C_below HR0_2.out HB.out) | (with_reducible refine Kd.C_alloc ?_ _) | (with_reducible refine Kd.C_drewN ?_ _) | (with_reducible refine Kd.C_drew ?_))); (case side2 => exact HC0_2.out); rintro e w25 ⟨v389, rfl, ho0, hb⟩; have n0_ := Aside0.mk (Kd.S_below (by (with_reducible repeat (first | apply Kd.S_alloc | apply Kd.S_drewN | apply Kd.S_drew)); exact HO_3.out) hb); have n1_ := Aside0.mk (Kd.S_elder' (by (with_reducible repeat (first | apply Kd.S_alloc | apply Kd.S_drewN | apply Kd.S_drew)); exact HO_4.out) (Kd.R_base ho0) hb); have n2_ := Aside0.mk (Kd.R_below (by (with_reducible repeat (first | apply Kd.R_alloc | apply Kd.R_drewN | apply Kd.R_drew)); exact HO_6.out) hb); have n3_ := Aside0.mk (Kd.R_below (by (with_reducible repeat (first | apply Kd.R_alloc | apply Kd.R_drewN | apply Kd.R_drew)); exact HL386_0.out) hb); have n4_ := Aside0.mk (Kd.R_lower ho0 (below_size (by repeat (first | (with_reducible first | exact HB.out | apply below_alloc | apply pw_below_drewN | apply below_drew1 | refine below_set ?_ GE379.out) | exact HB.out)))); have n5_ := Aside0.mk (blk_below (g := gb379) (o := .cells #[.int .i64 a0_0, .int .i64 a0_1, .slice A0_2 l0_2.length c0_2] 24 (0, 0)) (by (with_reducible repeat (first | refine blk_drewN ?_ _ | refine blk_drew ?_ | refine blk_alloc ?_ _)); exact BK379.out) hb); have n6_ := Aside0.mk (Kd.C_below (by repeat (first | (with_reducible exact HR386_0.out) | (with_reducible refine Kd.C_alloc ?_ _) | (with_reducible refine Kd.C_drewN ?_ _) | (with_reducible refine Kd.C_drew ?_) | exact HR386_0.out)) hb); have n7_ := Aside0.mk (below_step (by repeat (first | (with_reducible first | exact HB.out | apply below_alloc | apply pw_below_drewN | apply below_drew1 | refine below_set ?_ GE379.out) | exact HB.out)) hb); clear HO_3; clear HO_4; clear HO_6; clear HL386_0; clear BK379; clear HR386_0; clear HB; have HO_3 := n0_; have HO_4 := n1_; have HO_6 := n2_; have HL386_0 := n3_; have HO390 := n4_; have BK379 := n5_; have HR386_0 := n6_; have HB := n7_; clear n0_ n1_ n2_ n3_ n4_ n5_ n6_ n7_; (try clear hb); (try clear hb2); (try clear hk); (try clear hi); (try clear ho0); obtain ⟨Ao26, co26, eo26⟩ := Kd.R_slice HO390.out; subst eo26) | (go_at_call 21; (with_reducible refine (davitref07_Has.calls k2 _ _ t388 x5_1 t391 _ ?side1 ?side2 A22.out).mono ?_); (case side1 => repeat (first | exact (Kd.R_reads' HO390.out).2.2 | (with_reducible refine Kd.C_alloc ?_ _) | (with_reducible refine Kd.C_drewN ?_ _) | (with_reducible refine Kd.C_drew ?_))); (case side2 => exact (Kd.R_reads' HO390.out).2.1); rintro e w' ⟨rfl, ⟨nd, rfl⟩⟩))
               go_meet
               case rel => exact ⟨_, (!t391), (by first | rfl | (simp; done) | (simp [*]; done)), H', ⟨by have := HK1.out; have := HK2.out; first | omega | exact Nat.le_refl _⟩, ⟨by (with_reducible repeat (first | apply Kd.S_alloc | apply Kd.S_drewN | apply Kd.S_drew)); exact HO_3.out⟩, ⟨by (with_reducible repeat (first | apply Kd.S_alloc | apply Kd.S_drewN | apply Kd.S_drew)); exact Kd.S_mono HO_4.out (fun _ hk => trivial)⟩, ⟨by (with_reducible repeat (first | apply Kd.R_alloc | apply Kd.R_drewN | apply Kd.R_drew)); exact HO_6.out⟩, ⟨by (with_reducible repeat (first | refine blk_drewN ?_ _ | refine blk_drew ?_ | refine blk_alloc ?_ _)); exact BK379.out⟩, ⟨by repeat (first | (with_reducible first | exact HB.out | apply below_alloc | apply pw_below_drewN | apply below_drew1 | refine below_set ?_ GE379.out) | exact HB.out)⟩⟩
              ·replace c20 := Bool.eq_false_iff.mpr c20
               subst c20
               have H1 : (davitref09_All.j2 k2 t380 x4_1 x5_1 x6_2 x7_2 x8_2 true a0_0 a0_1 l0_2) = some r := by rw [if_neg (show ¬ (false = true) by decide)] at H; exact H
               clear H
               have H := H1
               clear H1
               have H' := Aside0.mk H
               clear H
               obtain ⟨Ao27, co27, eo27⟩ := Kd.S_slice HO_3.out
               subst eo27
               have p386 : 0 ≤ (x5_1 : Int) := of_decide_eq_true (by first | (with_reducible assumption) | assumption)
               have q386 : x5_1 < (t380.length : Int) := of_decide_eq_true (by first | (with_reducible assumption) | assumption)
               obtain ⟨ad386, A386_0, c386_0, e386, hx386_0, hl386_0, hi386_0⟩ := at_L12 (Kd.S_reads' HO_3.out).2.2 x5_1 p386 q386
               cases e386
               obtain ⟨ce386, hce386, hMe386, hcc386⟩ := Kd.S_get HO_3.out [] x5_1 p386 (by first | exact q386 | exact of_decide_eq_true (by first | (with_reducible assumption) | assumption) | (have e_ := (Kd.S_reads' HO_3.out).1; omega))
               obtain ⟨ve386_0, rfl, ge386_0⟩ := hMe386
               have hv386_0 := hcc386 0 _ rfl
               rw [Nat.add_zero, show ((Kd.slice 4 Kd.bool)).sz = 1 from rfl, Nat.mul_one] at hv386_0
               replace hv386_0 := Option.some.inj (hv386_0.symm.trans hx386_0)
               rw [hv386_0] at ge386_0
               have HL386_0 := Aside0.mk (show Kd.R Kd.bool 4 _ _ _ _ (rd_L12 t380 x5_1) from ge386_0)
               clear hv386_0 ge386_0
               clear hcc386 hce386
               have HR386_0 := Aside0.mk hi386_0
               have HC386_0 := Aside0.mk hl386_0
               clear hi386_0 hl386_0
               replace p386 := eq_true p386
               replace q386 := eq_true q386
               have p387 : 0 ≤ (x8_2 : Int) := of_decide_eq_true (by first | (with_reducible assumption) | assumption)
               have q387 : x8_2 < ((rd_L12 t380 x5_1).length : Int) := of_decide_eq_true (by first | (with_reducible assumption) | assumption)
               obtain ⟨ad387, e387, hx387_0⟩ := Kd.at_bool (by repeat (first | (with_reducible exact HR386_0.out) | (with_reducible refine Kd.C_alloc ?_ _) | (with_reducible refine Kd.C_drewN ?_ _) | (with_reducible refine Kd.C_drew ?_) | exact HR386_0.out)) x8_2 p387 q387
               (try rw [← Nbq19.out] at hx387_0)
               cases e387
               replace p387 := eq_true p387
               replace q387 := eq_true q387
               go_wp2
               go_meet
               case rel => exact ⟨_, (true), (by first | rfl | (simp; done) | (simp [*]; done)), H', ⟨by have := HK1.out; have := HK2.out; first | omega | exact Nat.le_refl _⟩, ⟨by (with_reducible repeat (first | apply Kd.S_alloc | apply Kd.S_drewN | apply Kd.S_drew)); exact HO_3.out⟩, ⟨by (with_reducible repeat (first | apply Kd.S_alloc | apply Kd.S_drewN | apply Kd.S_drew)); exact HO_4.out⟩, ⟨by (with_reducible repeat (first | apply Kd.R_alloc | apply Kd.R_drewN | apply Kd.R_drew)); exact HO_6.out⟩, ⟨by (with_reducible repeat (first | refine blk_drewN ?_ _ | refine blk_drew ?_ | refine blk_alloc ?_ _)); exact BK379.out⟩, ⟨by repeat (first | (with_reducible first | exact HB.out | apply below_alloc | apply pw_below_drewN | apply below_drew1 | refine below_set ?_ GE379.out) | exact HB.out)⟩⟩
             ·rw [if_neg c18] at H
              exact absurd H (by simp)
            ·rw [if_neg c17] at H
             exact absurd H (by simp)
           ·rw [if_neg c16] at H
            exact absurd H (by simp)
          ·rw [if_neg c15] at H
           exact absurd H (by simp)
         case rest =>
          clear HC13
          try clear c1
          try clear q1
          try clear c2
          try clear p2
          try clear c3
          try clear p3
          try clear q3
          try clear hx3
          try clear c6
          try clear c6b0
          try clear c7
          try clear c7b0
          try clear c7b1
          try clear c8
          try clear c8b0
          try clear c8b1
          try clear c12
          try clear c12b0
          try clear c15
          try clear c15b0
          try clear c16
          try clear c16b0
          try clear c17
          try clear c17b0
          try clear c18
          try clear c18b0
          try clear q19
          try clear c20
          try clear c24
          try clear hcz14_0
          try clear hcz14_1
          try clear hcz14_2
          try clear hcz24_0
          try clear hcz24_1
          try clear hcz24_2
          try clear hcz4_0
          try clear hcz4_1
          try clear hcz4_2
          try clear hcz9_0
          try clear hcz9_1
          try clear hcz9_2
          try clear hfz14_0
          try clear hfz14_1
          try clear hfz14_2
          try clear hfz24_0
          try clear hfz24_1
          try clear hfz24_2
          try clear hfz4_0
          try clear hfz4_1
          try clear hfz4_2
          try clear hfz9_0
          try clear hfz9_1
          try clear hfz9_2
          try clear hx386_0
          try clear hx387_0
          try clear p2
          try clear p386
          try clear p387
          try clear q386
          try clear q387
          obtain ⟨kq, x48_12, rfl, HA, HJ12, HO_3, HO_4, HO_6, BK379, HB⟩ := hcut
          cases kq with
          | zero => exact absurd HA.out (by simp [davitref09_All.j2])
          | succ kj12 =>
           have H := HA.out
           clear HA
           simp only [davitref09_All.j2] at H
           by_cases c28 : x48_12 = true
           ·subst c28
            have H1 : (davitref09_All.l1 kj12 t380 x4_1 x5_1 x6_2 x7_2 (wrap64 (x8_2 + 1)) a0_0 a0_1 l0_2) = some r := by rw [if_pos rfl] at H; exact H
            clear H
            have H := H1
            clear H1
            have H' := Aside0.mk H
            clear H
            go_wp2
            go_roundg kj12
            case measure => have := HK1.out; have := HK2.out; have := HJ12.out; omega
            case rel => exact ⟨(x6_2), (x7_2), (wrap64 (x8_2 + 1)), (by first | rfl | (simp; done) | (simp [*]; done)), (by first | rfl | (simp; done) | (simp [*]; done)), H', ⟨by have := HK1.out; have := HK2.out; have := HJ12.out; omega⟩, ⟨by (with_reducible repeat (first | apply Kd.S_alloc | apply Kd.S_drewN | apply Kd.S_drew)); exact HO_3.out⟩, ⟨by (with_reducible repeat (first | apply Kd.S_alloc | apply Kd.S_drewN | apply Kd.S_drew)); exact HO_4.out⟩, ⟨by (with_reducible repeat (first | apply Kd.R_alloc | apply Kd.R_drewN | apply Kd.R_drew)); exact HO_6.out⟩, ⟨by (with_reducible repeat (first | refine blk_drewN ?_ _ | refine blk_drew ?_ | refine blk_alloc ?_ _)); exact BK379.out⟩, ⟨by repeat (first | (with_reducible first | exact HB.out | apply below_alloc | apply pw_below_drewN | apply below_drew1 | refine below_set ?_ GE379.out) | exact HB.out)⟩⟩
           ·replace c28 := Bool.eq_false_iff.mpr c28
            subst c28
            have H1 : ((davitref09_comes.f kj12 a0_0 a0_1 l0_2 x8_2 x5_1).bind fun t392 => (davitref09_All.l2 kj12 t380 x4_1 x5_1 x6_2 true x8_2 t392 0 a0_0 a0_1 l0_2)) = some r := by rw [if_neg (show ¬ (false = true) by decide)] at H; exact H
            clear H
            have H := H1
            clear H1
            replace H := Option.bind_eq_some_iff.mp H
            obtain ⟨t392, A290, H⟩ := H
            replace H : (davitref09_All.l2 kj12 t380 x4_1 x5_1 x6_2 true x8_2 t392 0 a0_0 a0_1 l0_2) = some r := H
            have A29 := Aside0.mk A290
            clear A290
            have H' := Aside0.mk H
            clear H
            have hcz30_0 : wc.cell? ⟨gb379, 0, none⟩ = some (.int .i64 a0_0) := (blk_cell BK379.out 0).trans rfl
            have hcz30_1 : wc.cell? ⟨gb379, 1, none⟩ = some (.int .i64 a0_1) := (blk_cell BK379.out 1).trans rfl
            have hcz30_2 : wc.cell? ⟨gb379, 2, none⟩ = some (.slice A0_2 l0_2.length c0_2) := (blk_cell BK379.out 2).trans rfl
            have hfz30_0 := blk_frozen BK379.out 0
            have hfz30_1 := blk_frozen BK379.out 1
            have hfz30_2 := blk_frozen BK379.out 2
            go_wp2_with (first | ((with_reducible refine gate_callee (f := 42) rfl ?_); refine goesL_ (some 52) rfl rfl Try.func42 (by kernel_rfl) rfl #[.agg #[.int .i64 a0_0, .int .i64 a0_1, .slice A0_2 l0_2.length c0_2], .int .i64 x8_2, .int .i64 x5_1] rfl (by (try simp only [List.map_toArray, List.map_cons, List.map_nil]); first | done | rfl | (simp only [List.length_drop, List.length_take]; rfl)) ?_; (with_reducible refine (davitref09_comes.calls kj12 a0_0 a0_1 _ _ l0_2 x8_2 x5_1 t392 _ ?side1 ?side2 A29.out).mono ?_); (case side1 => repeat (first | exact (Kd.C_below HR0_2.out HB.out) | (with_reducible refine Kd.C_alloc ?_ _) | (with_reducible refine Kd.C_drewN ?_ _) | (with_reducible refine Kd.C_drew ?_))); (case side2 => exact HC0_2.out); rintro e w31 ⟨v393, rfl, ho0, hb⟩; refine ⟨_, rfl, ?_⟩; have n0_ := Aside0.mk (Kd.S_elder' (by (with_reducible repeat (first | apply Kd.S_alloc | apply Kd.S_drewN | apply Kd.S_drew)); exact HO_3.out) (Kd.R_base ho0) hb); have n1_ := Aside0.mk (Kd.S_below (by (with_reducible repeat (first | apply Kd.S_alloc | apply Kd.S_drewN | apply Kd.S_drew)); exact HO_4.out) hb); have n2_ := Aside0.mk (Kd.R_elder' (by (with_reducible repeat (first | apply Kd.R_alloc | apply Kd.R_drewN | apply Kd.R_drew)); exact HO_6.out) (Kd.R_base ho0) hb); have n3_ := Aside0.mk (Kd.R_lower (Kd.R_new' ho0 (Kd.R_lt (by (with_reducible repeat (first | apply Kd.R_alloc | apply Kd.R_drewN | apply Kd.R_drew)); exact HO_6.out))) (below_size (by repeat (first | (with_reducible first | exact HB.out | apply below_alloc | apply pw_below_drewN | apply below_drew1 | refine below_set ?_ GE379.out) | exact HB.out)))); have n4_ := Aside0.mk (blk_below (g := gb379) (o := .cells #[.int .i64 a0_0, .int .i64 a0_1, .slice A0_2 l0_2.length c0_2] 24 (0, 0)) (by (with_reducible repeat (first | refine blk_drewN ?_ _ | refine blk_drew ?_ | refine blk_alloc ?_ _)); exact BK379.out) hb); have n5_ := Aside0.mk (below_step (by repeat (first | (with_reducible first | exact HB.out | apply below_alloc | apply pw_below_drewN | apply below_drew1 | refine below_set ?_ GE379.out) | exact HB.out)) hb); clear HO_3; clear HO_4; clear HO_6; clear BK379; clear HB; have HO_3 := n0_; have HO_4 := n1_; have HO_6 := n2_; have HO394 := n3_; have BK379 := n4_; have HB := n5_; clear n0_ n1_ n2_ n3_ n4_ n5_; (try clear hb); (try clear hb2); (try clear hk); (try clear hi); (try clear ho0)))
            go_loopg [10] kj12 (fun kq v10 w' => ∃ (x6_4 : List Bool) (x10_4 : Int), v10 = .int .i64 x10_4 ∧ Aside0 (davitref09_All.l2 kq t380 x4_1 x5_1 x6_4 true x8_2 t392 x10_4 a0_0 a0_1 l0_2 = some r) ∧ Aside0 (kq ≤ kj12) ∧ Aside0 (Kd.S (Kd.slice 4 Kd.bool) 32 w' w.heap.size (fun k_ => some k_ ≠ (v384 : Value).ownBlock ∧ some k_ ≠ (v393 : Value).ownBlock) v381 t380) ∧ Aside0 (Kd.S k40 40 w' w.heap.size (fun _ => True) u4 x4_1) ∧ Aside0 (Kd.R Kd.bool 4 w' w.heap.size (fun k_ => some k_ ≠ (v393 : Value).ownBlock) v384 x6_4) ∧ Aside0 (Kd.R Kd.bool 4 w' w.heap.size (fun k_ => some k_ ≠ (v384 : Value).ownBlock) v393 t392) ∧ Aside0 (w'.heap[gb379]? = some (.cells #[.int .i64 a0_0, .int .i64 a0_1, (.slice A0_2 l0_2.length c0_2)] 24 (0, 0))) ∧ Aside0 (Below w.heap.size w w'))
            case atStart => exact ⟨(x6_2), (0), (by first | rfl | (simp; done) | (simp [*]; done)), H', ⟨Nat.le_refl _⟩, ⟨by (with_reducible repeat (first | apply Kd.S_alloc | apply Kd.S_drewN | apply Kd.S_drew)); exact HO_3.out⟩, ⟨by (with_reducible repeat (first | apply Kd.S_alloc | apply Kd.S_drewN | apply Kd.S_drew)); exact HO_4.out⟩, ⟨by (with_reducible repeat (first | apply Kd.R_alloc | apply Kd.R_drewN | apply Kd.R_drew)); exact Kd.R_mono HO_6.out (fun _ hk => hk.2)⟩, ⟨by (with_reducible repeat (first | apply Kd.R_alloc | apply Kd.R_drewN | apply Kd.R_drew)); exact Kd.R_mono HO394.out (fun _ hk => hk.2)⟩, ⟨by (with_reducible repeat (first | refine blk_drewN ?_ _ | refine blk_drew ?_ | refine blk_alloc ?_ _)); exact BK379.out⟩, ⟨by repeat (first | (with_reducible first | exact HB.out | apply below_alloc | apply pw_below_drewN | apply below_drew1 | refine below_set ?_ GE379.out) | exact HB.out)⟩⟩
            case round =>
             clear H'
             try clear c1
             try clear q1
             try clear c2
             try clear p2
             try clear c3
             try clear p3
             try clear q3
             try clear hx3
             try clear c4
             try clear c6
             try clear c6b0
             try clear p6
             try clear c7
             try clear c7b0
             try clear c7b1
             try clear c8
             try clear c8b0
             try clear c8b1
             try clear c12
             try clear c12b0
             try clear c15
             try clear c15b0
             try clear c16
             try clear c16b0
             try clear c17
             try clear c17b0
             try clear c18
             try clear c18b0
             try clear q19
             try clear c20
             try clear c24
             try clear c28
             try clear hcz14_0
             try clear hcz14_1
             try clear hcz14_2
             try clear hcz24_0
             try clear hcz24_1
             try clear hcz24_2
             try clear hcz30_0
             try clear hcz30_1
             try clear hcz30_2
             try clear hcz4_0
             try clear hcz4_1
             try clear hcz4_2
             try clear hcz9_0
             try clear hcz9_1
             try clear hcz9_2
             try clear hfz14_0
             try clear hfz14_1
             try clear hfz14_2
             try clear hfz24_0
             try clear hfz24_1
             try clear hfz24_2
             try clear hfz30_0
             try clear hfz30_1
             try clear hfz30_2
             try clear hfz4_0
             try clear hfz4_1
             try clear hfz4_2
             try clear hfz9_0
             try clear hfz9_1
             try clear hfz9_2
             try clear hx386_0
             try clear hx387_0
             try clear p2
             try clear p3
             try clear p386
             try clear p387
             try clear q1
             try clear q19
             try clear q3
             try clear q386
             try clear q387
             obtain ⟨x6_4, x10_4, rfl, HA, HK4, HO_3, HO_4, HO_6, HO_9, BK379, HB⟩ := hrel
             cases gk with
             | zero => exact absurd HA.out (by simp [davitref09_All.l2])
             | succ k4 =>
              have H := HA.out
              clear HA
              simp only [davitref09_All.l2] at H
              by_cases c32 : x10_4 < (x6_4.length : Int)
              ·rw [if_pos c32] at H
               have c32b0 : decide (x10_4 < (x6_4.length : Int)) = true := decide_eq_true c32
               clear c32
               by_cases c33 : 0 ≤ x10_4
               ·rw [if_pos c33] at H
                have c33b0 : decide (0 ≤ x10_4) = true := decide_eq_true c33
                clear c33
                obtain ⟨bq34, hbq34⟩ : ∃ b_ : Bool, b_ = (rdOf false x6_4 x10_4) := ⟨_, rfl⟩
                replace H : (if bq34 = true then (davitref09_All.l2 k4 t380 x4_1 x5_1 (x6_4.set (x10_4 : Int).toNat true) true x8_2 t392 (wrap64 (x10_4 + 1)) a0_0 a0_1 l0_2) else (if x10_4 < (t392.length : Int) then (if rdOf false t392 x10_4 = true then (if 0 ≤ x5_1 then (if x5_1 < (t380.length : Int) then (if x10_4 < ((rd_L12 t380 x5_1).length : Int) then (davitref09_All.l2 k4 t380 x4_1 x5_1 (x6_4.set (x10_4 : Int).toNat (rdOf false (rd_L12 t380 x5_1) x10_4)) true x8_2 t392 (wrap64 (x10_4 + 1)) a0_0 a0_1 l0_2) else (none)) else (none)) else (none)) else (davitref09_All.l2 k4 t380 x4_1 x5_1 (x6_4.set (x10_4 : Int).toNat false) true x8_2 t392 (wrap64 (x10_4 + 1)) a0_0 a0_1 l0_2)) else (none))) = some r := by rw [← hbq34] at H; exact H
                have Nbq34 := Aside0.mk hbq34
                clear hbq34
                by_cases c35 : bq34 = true
                ·subst c35
                 have H1 : (davitref09_All.l2 k4 t380 x4_1 x5_1 (x6_4.set (x10_4 : Int).toNat true) true x8_2 t392 (wrap64 (x10_4 + 1)) a0_0 a0_1 l0_2) = some r := by rw [if_pos rfl] at H; exact H
                 clear H
                 have H := H1
                 clear H1
                 obtain ⟨y396, hy396⟩ : ∃ y_ : List Bool, y_ = (x6_4.set (x10_4 : Int).toNat true) := ⟨_, rfl⟩
                 replace H : (davitref09_All.l2 k4 t380 x4_1 x5_1 y396 true x8_2 t392 (wrap64 (x10_4 + 1)) a0_0 a0_1 l0_2) = some r := by first | (rw [hy396]; with_reducible exact H) | (have H2_ := (Option.bind_some _ _).symm.trans H; rw [hy396]; with_reducible exact H2_) | (have H2_ := (Option.bind_some _ _).symm.trans H; with_reducible exact H2_) | with_reducible exact H | (rw [hy396]; exact H) | exact H
                 have Ny396 := Aside0.mk hy396
                 clear hy396
                 have H' := Aside0.mk H
                 clear H
                 obtain ⟨Ao37, co37, eo37⟩ := Kd.R_slice HO_6.out
                 subst eo37
                 have p395 : 0 ≤ (x10_4 : Int) := of_decide_eq_true (by first | (with_reducible assumption) | assumption)
                 have q395 : x10_4 < (x6_4.length : Int) := of_decide_eq_true (by first | (with_reducible assumption) | assumption)
                 obtain ⟨ad395, e395, hx395_0⟩ := Kd.at_bool (Kd.R_reads' HO_6.out).2.2 x10_4 p395 q395
                 (try rw [← Nbq34.out] at hx395_0)
                 cases e395
                 replace p395 := eq_true p395
                 replace q395 := eq_true q395
                 have p36 : 0 ≤ (x10_4 : Int) := of_decide_eq_true (by first | (with_reducible assumption) | assumption)
                 have q36 : (x10_4 : Int) < ((x6_4.length : Int) : Int) := of_decide_eq_true (by first | (with_reducible assumption) | assumption)
                 obtain ⟨go36, co36, eo36, gb36, gl36, cl36, HG36⟩ := Kd.R_form HO_6.out (by omega)
                 (first | cases eo36 | (injection eo36 with ea_ en_ ec_; (first | subst ea_ | (injection ea_ with ea_; subst ea_)); subst ec_; clear en_))
                 have GB36 := Aside0.mk gb36
                 have GG36 := Aside0.mk HG36
                 clear gb36 gl36 HG36
                 (first | simp only [add_plain] at hx395_0 | skip)
                 obtain ⟨hx36_0, hf36_0⟩ := Kd.R_celln false HO_6.out (x10_4 : Int) p36 q36
                 replace p36 := eq_true p36
                 replace q36 := eq_true q36
                 have HP38 := Kd.R_putg HO_6.out (x10_4 : Int) true
                 go_wp2_with (first | ((with_reducible refine gate_store (t := 4) (p := 80) rfl ?_); refine store_event (t := 4) (p := 80) (v := ?vo_w39) (w1 := (wr.setCell ⟨go36, (x10_4 : Int).toNat, none⟩ (.bool true))) ?hg ?ho ?hn ?hr ?_; (case ho => rfl); (case hg => rfl); (case hn => rfl); (case hr => first | (go_simp; done) | (go_simp; rfl)); intro w39 hw; have hg : wr.grownBy w39 (some go36) := (by rw [hw]; exact HP38.2); have hp_ : Kd.R Kd.bool 4 w39 w.heap.size (fun k_ => some k_ ≠ (v393 : Value).ownBlock) (.slice (some ⟨go36, 0, none⟩) x6_4.length co37) y396 := (by rw [hw, Ny396.out]; exact HP38.1); clear HP38; have n0_ := Aside0.mk (Kd.S_after (v := (.slice (some ⟨go36, 0, none⟩) x6_4.length co37)) (v1 := (.slice (some ⟨go36, 0, none⟩) x6_4.length co37)) (ok := (fun k_ => some k_ ≠ (v393 : Value).ownBlock)) (by (with_reducible repeat (first | apply Kd.S_alloc | apply Kd.S_drewN | apply Kd.S_drew)); exact Kd.S_mono HO_3.out (fun _ hk => ⟨hk.2, hk.1⟩)) hg (.inl rfl)); have n1_ := Aside0.mk (Kd.S_over' (v := (.slice (some ⟨go36, 0, none⟩) x6_4.length co37)) (by (with_reducible repeat (first | apply Kd.S_alloc | apply Kd.S_drewN | apply Kd.S_drew)); exact HO_4.out) (Kd.R_typed HO_6.out) (by decide) hg); have n2_ := Aside0.mk (hp_); have n3_ := Aside0.mk (Kd.R_after (v := (.slice (some ⟨go36, 0, none⟩) x6_4.length co37)) (v1 := (.slice (some ⟨go36, 0, none⟩) x6_4.length co37)) (ok := (fun _ => True)) (by (with_reducible repeat (first | apply Kd.R_alloc | apply Kd.R_drewN | apply Kd.R_drew)); exact Kd.R_mono HO_9.out (fun _ hk => ⟨trivial, hk⟩)) hg (.inl rfl)); have n4_ := Aside0.mk (blk_grown (g := gb379) (o := .cells #[.int .i64 a0_0, .int .i64 a0_1, .slice A0_2 l0_2.length c0_2] 24 (0, 0)) (by (with_reducible repeat (first | refine blk_drewN ?_ _ | refine blk_drew ?_ | refine blk_alloc ?_ _)); exact BK379.out) hg (Kd.R_ne HO_6.out BK379.out (by decide))); have n5_ := Aside0.mk ((by rw [hw]; exact below_set (HB.out) GB36.out : Below w.heap.size w w39)); clear HO_3; clear HO_4; clear HO_6; clear HO_9; clear BK379; clear HB; have HO_3 := n0_; have HO_4 := n1_; have HO_6 := n2_; have HO_9 := n3_; have BK379 := n4_; have HB := n5_; clear n0_ n1_ n2_ n3_ n4_ n5_; clear hg hw hp_))
                 go_roundg k4
                 case measure => have := HK1.out; have := HK2.out; have := HJ12.out; have := HK4.out; omega
                 case rel => exact ⟨(y396), (wrap64 (x10_4 + 1)), (by first | rfl | (simp; done) | (simp [*]; done)), H', ⟨by have := HK1.out; have := HK2.out; have := HJ12.out; have := HK4.out; omega⟩, ⟨by (with_reducible repeat (first | apply Kd.S_alloc | apply Kd.S_drewN | apply Kd.S_drew)); exact Kd.S_mono HO_3.out (fun _ hk => ⟨hk.2, hk.1⟩)⟩, ⟨by (with_reducible repeat (first | apply Kd.S_alloc | apply Kd.S_drewN | apply Kd.S_drew)); exact HO_4.out⟩, ⟨by (with_reducible repeat (first | apply Kd.R_alloc | apply Kd.R_drewN | apply Kd.R_drew)); exact HO_6.out⟩, ⟨by (with_reducible repeat (first | apply Kd.R_alloc | apply Kd.R_drewN | apply Kd.R_drew)); exact Kd.R_mono HO_9.out (fun _ hk => hk.2)⟩, ⟨by (with_reducible repeat (first | refine blk_drewN ?_ _ | refine blk_drew ?_ | refine blk_alloc ?_ _)); exact BK379.out⟩, ⟨by repeat (first | (with_reducible first | exact HB.out | apply below_alloc | apply pw_below_drewN | apply below_drew1 | refine below_set ?_ GE379.out) | exact HB.out)⟩⟩
                ·replace c35 := Bool.eq_false_iff.mpr c35
                 subst c35
                 have H1 : (if x10_4 < (t392.length : Int) then (if rdOf false t392 x10_4 = true then (if 0 ≤ x5_1 then (if x5_1 < (t380.length : Int) then (if x10_4 < ((rd_L12 t380 x5_1).length : Int) then (davitref09_All.l2 k4 t380 x4_1 x5_1 (x6_4.set (x10_4 : Int).toNat (rdOf false (rd_L12 t380 x5_1) x10_4)) true x8_2 t392 (wrap64 (x10_4 + 1)) a0_0 a0_1 l0_2) else (none)) else (none)) else (none)) else (davitref09_All.l2 k4 t380 x4_1 x5_1 (x6_4.set (x10_4 : Int).toNat false) true x8_2 t392 (wrap64 (x10_4 + 1)) a0_0 a0_1 l0_2)) else (none)) = some r := by rw [if_neg (show ¬ (false = true) by decide)] at H; exact H
                 clear H
                 have H := H1
                 clear H1
                 by_cases c40 : x10_4 < (t392.length : Int)
                 ·rw [if_pos c40] at H
                  have c40b0 : decide (x10_4 < (t392.length : Int)) = true := decide_eq_true c40
                  clear c40
                  obtain ⟨bq41, hbq41⟩ : ∃ b_ : Bool, b_ = (rdOf false t392 x10_4) := ⟨_, rfl⟩
                  replace H : (if bq41 = true then (if 0 ≤ x5_1 then (if x5_1 < (t380.length : Int) then (if x10_4 < ((rd_L12 t380 x5_1).length : Int) then (davitref09_All.l2 k4 t380 x4_1 x5_1 (x6_4.set (x10_4 : Int).toNat (rdOf false (rd_L12 t380 x5_1) x10_4)) true x8_2 t392 (wrap64 (x10_4 + 1)) a0_0 a0_1 l0_2) else (none)) else (none)) else (none)) else (davitref09_All.l2 k4 t380 x4_1 x5_1 (x6_4.set (x10_4 : Int).toNat false) true x8_2 t392 (wrap64 (x10_4 + 1)) a0_0 a0_1 l0_2)) = some r := by rw [← hbq41] at H; exact H
                  have Nbq41 := Aside0.mk hbq41
                  clear hbq41
                  by_cases c42 : bq41 = true
                  ·subst c42
                   have H1 : (if 0 ≤ x5_1 then (if x5_1 < (t380.length : Int) then (if x10_4 < ((rd_L12 t380 x5_1).length : Int) then (davitref09_All.l2 k4 t380 x4_1 x5_1 (x6_4.set (x10_4 : Int).toNat (rdOf false (rd_L12 t380 x5_1) x10_4)) true x8_2 t392 (wrap64 (x10_4 + 1)) a0_0 a0_1 l0_2) else (none)) else (none)) else (none)) = some r := by rw [if_pos rfl] at H; exact H
                   clear H
                   have H := H1
                   clear H1
                   by_cases c43 : 0 ≤ x5_1
                   ·rw [if_pos c43] at H
                    have c43b0 : decide (0 ≤ x5_1) = true := decide_eq_true c43
                    clear c43
                    by_cases c44 : x5_1 < (t380.length : Int)
                    ·rw [if_pos c44] at H
                     have c44b0 : decide (x5_1 < (t380.length : Int)) = true := decide_eq_true c44
                     clear c44
                     by_cases c45 : x10_4 < ((rd_L12 t380 x5_1).length : Int)
                     ·rw [if_pos c45] at H
                      have c45b0 : decide (x10_4 < ((rd_L12 t380 x5_1).length : Int)) = true := decide_eq_true c45
                      clear c45
                      obtain ⟨y400, hy400⟩ : ∃ y_ : List Bool, y_ = (x6_4.set (x10_4 : Int).toNat (rdOf false (rd_L12 t380 x5_1) x10_4)) := ⟨_, rfl⟩
                      replace H : (davitref09_All.l2 k4 t380 x4_1 x5_1 y400 true x8_2 t392 (wrap64 (x10_4 + 1)) a0_0 a0_1 l0_2) = some r := by first | (rw [hy400]; with_reducible exact H) | (have H2_ := (Option.bind_some _ _).symm.trans H; rw [hy400]; with_reducible exact H2_) | (have H2_ := (Option.bind_some _ _).symm.trans H; with_reducible exact H2_) | with_reducible exact H | (rw [hy400]; exact H) | exact H
                      have Ny400 := Aside0.mk hy400
                      clear hy400
                      have H' := Aside0.mk H
                      clear H
                      obtain ⟨Ao47, co47, eo47⟩ := Kd.R_slice HO_6.out
                      subst eo47
                      have p395 : 0 ≤ (x10_4 : Int) := of_decide_eq_true (by first | (with_reducible assumption) | assumption)
                      have q395 : x10_4 < (x6_4.length : Int) := of_decide_eq_true (by first | (with_reducible assumption) | assumption)
                      obtain ⟨ad395, e395, hx395_0⟩ := Kd.at_bool (Kd.R_reads' HO_6.out).2.2 x10_4 p395 q395
                      (try rw [← Nbq34.out] at hx395_0)
                      (try rw [← Nbq41.out] at hx395_0)
                      cases e395
                      replace p395 := eq_true p395
                      replace q395 := eq_true q395
                      obtain ⟨Ao48, co48, eo48⟩ := Kd.R_slice HO_9.out
                      subst eo48
                      have p397 : 0 ≤ (x10_4 : Int) := of_decide_eq_true (by first | (with_reducible assumption) | assumption)
                      have q397 : x10_4 < (t392.length : Int) := of_decide_eq_true (by first | (with_reducible assumption) | assumption)
                      obtain ⟨ad397, e397, hx397_0⟩ := Kd.at_bool (Kd.R_reads' HO_9.out).2.2 x10_4 p397 q397
                      (try rw [← Nbq34.out] at hx397_0)
                      (try rw [← Nbq41.out] at hx397_0)
                      cases e397
                      replace p397 := eq_true p397
                      replace q397 := eq_true q397
                      obtain ⟨Ao49, co49, eo49⟩ := Kd.S_slice HO_3.out
                      subst eo49
                      have p398 : 0 ≤ (x5_1 : Int) := of_decide_eq_true (by first | (with_reducible assumption) | assumption)
                      have q398 : x5_1 < (t380.length : Int) := of_decide_eq_true (by first | (with_reducible assumption) | assumption)
                      obtain ⟨ad398, A398_0, c398_0, e398, hx398_0, hl398_0, hi398_0⟩ := at_L12 (Kd.S_reads' HO_3.out).2.2 x5_1 p398 q398
                      cases e398
                      obtain ⟨ce398, hce398, hMe398, hcc398⟩ := Kd.S_get HO_3.out [] x5_1 p398 (by first | exact q398 | exact of_decide_eq_true (by first | (with_reducible assumption) | assumption) | (have e_ := (Kd.S_reads' HO_3.out).1; omega))
                      obtain ⟨ve398_0, rfl, ge398_0⟩ := hMe398
                      have hv398_0 := hcc398 0 _ rfl
                      rw [Nat.add_zero, show ((Kd.slice 4 Kd.bool)).sz = 1 from rfl, Nat.mul_one] at hv398_0
                      replace hv398_0 := Option.some.inj (hv398_0.symm.trans hx398_0)
                      rw [hv398_0] at ge398_0
                      have HL398_0 := Aside0.mk (show Kd.R Kd.bool 4 _ _ _ _ (rd_L12 t380 x5_1) from ge398_0)
                      clear hv398_0 ge398_0
                      clear hcc398 hce398
                      have HR398_0 := Aside0.mk hi398_0
                      have HC398_0 := Aside0.mk hl398_0
                      clear hi398_0 hl398_0
                      replace p398 := eq_true p398
                      replace q398 := eq_true q398
                      have p399 : 0 ≤ (x10_4 : Int) := of_decide_eq_true (by first | (with_reducible assumption) | assumption)
                      have q399 : x10_4 < ((rd_L12 t380 x5_1).length : Int) := of_decide_eq_true (by first | (with_reducible assumption) | assumption)
                      obtain ⟨ad399, e399, hx399_0⟩ := Kd.at_bool (by repeat (first | (with_reducible exact HR398_0.out) | (with_reducible refine Kd.C_alloc ?_ _) | (with_reducible refine Kd.C_drewN ?_ _) | (with_reducible refine Kd.C_drew ?_) | exact HR398_0.out)) x10_4 p399 q399
                      (try rw [← Nbq34.out] at hx399_0)
                      (try rw [← Nbq41.out] at hx399_0)
                      cases e399
                      replace p399 := eq_true p399
                      replace q399 := eq_true q399
                      have p46 : 0 ≤ (x10_4 : Int) := of_decide_eq_true (by first | (with_reducible assumption) | assumption)
                      have q46 : (x10_4 : Int) < ((x6_4.length : Int) : Int) := of_decide_eq_true (by first | (with_reducible assumption) | assumption)
                      obtain ⟨go46, co46, eo46, gb46, gl46, cl46, HG46⟩ := Kd.R_form HO_6.out (by omega)
                      (first | cases eo46 | (injection eo46 with ea_ en_ ec_; (first | subst ea_ | (injection ea_ with ea_; subst ea_)); subst ec_; clear en_))
                      have GB46 := Aside0.mk gb46
                      have GG46 := Aside0.mk HG46
                      clear gb46 gl46 HG46
                      (first | simp only [add_plain] at hx395_0 | skip)
                      obtain ⟨hx46_0, hf46_0⟩ := Kd.R_celln false HO_6.out (x10_4 : Int) p46 q46
                      replace p46 := eq_true p46
                      replace q46 := eq_true q46
                      have HP50 := Kd.R_putg HO_6.out (x10_4 : Int) (rdOf false (rd_L12 t380 x5_1) x10_4)
                      go_wp2_with (first | ((with_reducible refine gate_store (t := 4) (p := 80) rfl ?_); refine store_event (t := 4) (p := 80) (v := ?vo_w51) (w1 := (wr.setCell ⟨go46, (x10_4 : Int).toNat, none⟩ (.bool (rdOf false (rd_L12 t380 x5_1) x10_4)))) ?hg ?ho ?hn ?hr ?_; (case ho => rfl); (case hg => rfl); (case hn => rfl); (case hr => first | (go_simp; done) | (go_simp; rfl)); intro w51 hw; have hg : wr.grownBy w51 (some go46) := (by rw [hw]; exact HP50.2); have hp_ : Kd.R Kd.bool 4 w51 w.heap.size (fun k_ => some k_ ≠ (.slice (some ad397) t392.length co48 : Value).ownBlock) (.slice (some ⟨go46, 0, none⟩) x6_4.length co47) y400 := (by rw [hw, Ny400.out]; exact HP50.1); clear HP50; have n0_ := Aside0.mk (Kd.S_after (v := (.slice (some ⟨go46, 0, none⟩) x6_4.length co47)) (v1 := (.slice (some ⟨go46, 0, none⟩) x6_4.length co47)) (ok := (fun k_ => some k_ ≠ (.slice (some ad397) t392.length co48 : Value).ownBlock)) (by (with_reducible repeat (first | apply Kd.S_alloc | apply Kd.S_drewN | apply Kd.S_drew)); exact Kd.S_mono HO_3.out (fun _ hk => ⟨hk.2, hk.1⟩)) hg (.inl rfl)); have n1_ := Aside0.mk (Kd.S_over' (v := (.slice (some ⟨go46, 0, none⟩) x6_4.length co47)) (by (with_reducible repeat (first | apply Kd.S_alloc | apply Kd.S_drewN | apply Kd.S_drew)); exact HO_4.out) (Kd.R_typed HO_6.out) (by decide) hg); have n2_ := Aside0.mk (hp_); have n3_ := Aside0.mk (Kd.R_after (v := (.slice (some ⟨go46, 0, none⟩) x6_4.length co47)) (v1 := (.slice (some ⟨go46, 0, none⟩) x6_4.length co47)) (ok := (fun _ => True)) (by (with_reducible repeat (first | apply Kd.R_alloc | apply Kd.R_drewN | apply Kd.R_drew)); exact Kd.R_mono HO_9.out (fun _ hk => ⟨trivial, hk⟩)) hg (.inl rfl)); have n4_ := Aside0.mk (blk_grown (g := gb379) (o := .cells #[.int .i64 a0_0, .int .i64 a0_1, .slice A0_2 l0_2.length c0_2] 24 (0, 0)) (by (with_reducible repeat (first | refine blk_drewN ?_ _ | refine blk_drew ?_ | refine blk_alloc ?_ _)); exact BK379.out) hg (Kd.R_ne HO_6.out BK379.out (by decide))); have n5_ := Aside0.mk (Kd.R_after (v := (.slice (some ⟨go46, 0, none⟩) x6_4.length co47)) (v1 := (.slice (some ⟨go46, 0, none⟩) x6_4.length co47)) (ok := (fun k_ => some k_ ≠ (.slice (some ad398) t380.length co49 : Value).ownBlock ∧ some k_ ≠ (.slice (some ad397) t392.length co48 : Value).ownBlock)) (by (with_reducible repeat (first | apply Kd.R_alloc | apply Kd.R_drewN | apply Kd.R_drew)); exact Kd.R_mono HL398_0.out (fun _ hk => ⟨⟨hk.2, hk.1.2⟩, hk.1.1⟩)) hg (.inl rfl)); have n6_ := Aside0.mk ((by rw [hw]; exact below_set (HB.out) GB46.out : Below w.heap.size w w51)); clear HO_3; clear HO_4; clear HO_6; clear HO_9; clear BK379; clear HL398_0; clear HB; have HO_3 := n0_; have HO_4 := n1_; have HO_6 := n2_; have HO_9 := n3_; have BK379 := n4_; have HL398_0 := n5_; have HB := n6_; clear n0_ n1_ n2_ n3_ n4_ n5_ n6_; clear hg hw hp_))
                      go_roundg k4
                      case measure => have := HK1.out; have := HK2.out; have := HJ12.out; have := HK4.out; omega
                      case rel => exact ⟨(y400), (wrap64 (x10_4 + 1)), (by first | rfl | (simp; done) | (simp [*]; done)), H', ⟨by have := HK1.out; have := HK2.out; have := HJ12.out; have := HK4.out; omega⟩, ⟨by (with_reducible repeat (first | apply Kd.S_alloc | apply Kd.S_drewN | apply Kd.S_drew)); exact Kd.S_mono HO_3.out (fun _ hk => ⟨hk.2, hk.1⟩)⟩, ⟨by (with_reducible repeat (first | apply Kd.S_alloc | apply Kd.S_drewN | apply Kd.S_drew)); exact HO_4.out⟩, ⟨by (with_reducible repeat (first | apply Kd.R_alloc | apply Kd.R_drewN | apply Kd.R_drew)); exact HO_6.out⟩, ⟨by (with_reducible repeat (first | apply Kd.R_alloc | apply Kd.R_drewN | apply Kd.R_drew)); exact Kd.R_mono HO_9.out (fun _ hk => hk.2)⟩, ⟨by (with_reducible repeat (first | refine blk_drewN ?_ _ | refine blk_drew ?_ | refine blk_alloc ?_ _)); exact BK379.out⟩, ⟨by repeat (first | (with_reducible first | exact HB.out | apply below_alloc | apply pw_below_drewN | apply below_drew1 | refine below_set ?_ GE379.out) | exact HB.out)⟩⟩
                     ·rw [if_neg c45] at H
                      exact absurd H (by simp)
                    ·rw [if_neg c44] at H
                     exact absurd H (by simp)
                   ·rw [if_neg c43] at H
                    exact absurd H (by simp)
                  ·replace c42 := Bool.eq_false_iff.mpr c42
                   subst c42
                   have H1 : (davitref09_All.l2 k4 t380 x4_1 x5_1 (x6_4.set (x10_4 : Int).toNat false) true x8_2 t392 (wrap64 (x10_4 + 1)) a0_0 a0_1 l0_2) = some r := by rw [if_neg (show ¬ (false = true) by decide)] at H; exact H
                   clear H
                   have H := H1
                   clear H1
                   obtain ⟨y401, hy401⟩ : ∃ y_ : List Bool, y_ = (x6_4.set (x10_4 : Int).toNat false) := ⟨_, rfl⟩
                   replace H : (davitref09_All.l2 k4 t380 x4_1 x5_1 y401 true x8_2 t392 (wrap64 (x10_4 + 1)) a0_0 a0_1 l0_2) = some r := by first | (rw [hy401]; with_reducible exact H) | (have H2_ := (Option.bind_some _ _).symm.trans H; rw [hy401]; with_reducible exact H2_) | (have H2_ := (Option.bind_some _ _).symm.trans H; with_reducible exact H2_) | with_reducible exact H | (rw [hy401]; exact H) | exact H
                   have Ny401 := Aside0.mk hy401
                   clear hy401
                   have H' := Aside0.mk H
                   clear H
                   obtain ⟨Ao53, co53, eo53⟩ := Kd.R_slice HO_6.out
                   subst eo53
                   have p395 : 0 ≤ (x10_4 : Int) := of_decide_eq_true (by first | (with_reducible assumption) | assumption)
                   have q395 : x10_4 < (x6_4.length : Int) := of_decide_eq_true (by first | (with_reducible assumption) | assumption)
                   obtain ⟨ad395, e395, hx395_0⟩ := Kd.at_bool (Kd.R_reads' HO_6.out).2.2 x10_4 p395 q395
                   (try rw [← Nbq34.out] at hx395_0)
                   (try rw [← Nbq41.out] at hx395_0)
                   cases e395
                   replace p395 := eq_true p395
                   replace q395 := eq_true q395
                   obtain ⟨Ao54, co54, eo54⟩ := Kd.R_slice HO_9.out
                   subst eo54
                   have p397 : 0 ≤ (x10_4 : Int) := of_decide_eq_true (by first | (with_reducible assumption) | assumption)
                   have q397 : x10_4 < (t392.length : Int) := of_decide_eq_true (by first | (with_reducible assumption) | assumption)
                   obtain ⟨ad397, e397, hx397_0⟩ := Kd.at_bool (Kd.R_reads' HO_9.out).2.2 x10_4 p397 q397
                   (try rw [← Nbq34.out] at hx397_0)
                   (try rw [← Nbq41.out] at hx397_0)
                   cases e397
                   replace p397 := eq_true p397
                   replace q397 := eq_true q397
                   have p52 : 0 ≤ (x10_4 : Int) := of_decide_eq_true (by first | (with_reducible assumption) | assumption)
                   have q52 : (x10_4 : Int) < ((x6_4.length : Int) : Int) := of_decide_eq_true (by first | (with_reducible assumption) | assumption)
                   obtain ⟨go52, co52, eo52, gb52, gl52, cl52, HG52⟩ := Kd.R_form HO_6.out (by omega)
                   (first | cases eo52 | (injection eo52 with ea_ en_ ec_; (first | subst ea_ | (injection ea_ with ea_; subst ea_)); subst ec_; clear en_))
                   have GB52 := Aside0.mk gb52
                   have GG52 := Aside0.mk HG52
                   clear gb52 gl52 HG52
                   (first | simp only [add_plain] at hx395_0 | skip)
                   obtain ⟨hx52_0, hf52_0⟩ := Kd.R_celln false HO_6.out (x10_4 : Int) p52 q52
                   replace p52 := eq_true p52
                   replace q52 := eq_true q52
                   have HP55 := Kd.R_putg HO_6.out (x10_4 : Int) false
                   go_wp2_with (first | ((with_reducible refine gate_store (t := 4) (p := 80) rfl ?_); refine store_event (t := 4) (p := 80) (v := ?vo_w56) (w1 := (wr.setCell ⟨go52, (x10_4 : Int).toNat, none⟩ (.bool false))) ?hg ?ho ?hn ?hr ?_; (case ho => rfl); (case hg => rfl); (case hn => rfl); (case hr => first | (go_simp; done) | (go_simp; rfl)); intro w56 hw; have hg : wr.grownBy w56 (some go52) := (by rw [hw]; exact HP55.2); have hp_ : Kd.R Kd.bool 4 w56 w.heap.size (fun k_ => some k_ ≠ (.slice (some ad397) t392.length co54 : Value).ownBlock) (.slice (some ⟨go52, 0, none⟩) x6_4.length co53) y401 := (by rw [hw, Ny401.out]; exact HP55.1); clear HP55; have n0_ := Aside0.mk (Kd.S_after (v := (.slice (some ⟨go52, 0, none⟩) x6_4.length co53)) (v1 := (.slice (some ⟨go52, 0, none⟩) x6_4.length co53)) (ok := (fun k_ => some k_ ≠ (.slice (some ad397) t392.length co54 : Value).ownBlock)) (by (with_reducible repeat (first | apply Kd.S_alloc | apply Kd.S_drewN | apply Kd.S_drew)); exact Kd.S_mono HO_3.out (fun _ hk => ⟨hk.2, hk.1⟩)) hg (.inl rfl)); have n1_ := Aside0.mk (Kd.S_over' (v := (.slice (some ⟨go52, 0, none⟩) x6_4.length co53)) (by (with_reducible repeat (first | apply Kd.S_alloc | apply Kd.S_drewN | apply Kd.S_drew)); exact HO_4.out) (Kd.R_typed HO_6.out) (by decide) hg); have n2_ := Aside0.mk (hp_); have n3_ := Aside0.mk (Kd.R_after (v := (.slice (some ⟨go52, 0, none⟩) x6_4.length co53)) (v1 := (.slice (some ⟨go52, 0, none⟩) x6_4.length co53)) (ok := (fun _ => True)) (by (with_reducible repeat (first | apply Kd.R_alloc | apply Kd.R_drewN | apply Kd.R_drew)); exact Kd.R_mono HO_9.out (fun _ hk => ⟨trivial, hk⟩)) hg (.inl rfl)); have n4_ := Aside0.mk (blk_grown (g := gb379) (o := .cells #[.int .i64 a0_0, .int .i64 a0_1, .slice A0_2 l0_2.length c0_2] 24 (0, 0)) (by (with_reducible repeat (first | refine blk_drewN ?_ _ | refine blk_drew ?_ | refine blk_alloc ?_ _)); exact BK379.out) hg (Kd.R_ne HO_6.out BK379.out (by decide))); have n5_ := Aside0.mk ((by rw [hw]; exact below_set (HB.out) GB52.out : Below w.heap.size w w56)); clear HO_3; clear HO_4; clear HO_6; clear HO_9; clear BK379; clear HB; have HO_3 := n0_; have HO_4 := n1_; have HO_6 := n2_; have HO_9 := n3_; have BK379 := n4_; have HB := n5_; clear n0_ n1_ n2_ n3_ n4_ n5_; clear hg hw hp_))
                   go_roundg k4
                   case measure => have := HK1.out; have := HK2.out; have := HJ12.out; have := HK4.out; omega
                   case rel => exact ⟨(y401), (wrap64 (x10_4 + 1)), (by first | rfl | (simp; done) | (simp [*]; done)), H', ⟨by have := HK1.out; have := HK2.out; have := HJ12.out; have := HK4.out; omega⟩, ⟨by (with_reducible repeat (first | apply Kd.S_alloc | apply Kd.S_drewN | apply Kd.S_drew)); exact Kd.S_mono HO_3.out (fun _ hk => ⟨hk.2, hk.1⟩)⟩, ⟨by (with_reducible repeat (first | apply Kd.S_alloc | apply Kd.S_drewN | apply Kd.S_drew)); exact HO_4.out⟩, ⟨by (with_reducible repeat (first | apply Kd.R_alloc | apply Kd.R_drewN | apply Kd.R_drew)); exact HO_6.out⟩, ⟨by (with_reducible repeat (first | apply Kd.R_alloc | apply Kd.R_drewN | apply Kd.R_drew)); exact Kd.R_mono HO_9.out (fun _ hk => hk.2)⟩, ⟨by (with_reducible repeat (first | refine blk_drewN ?_ _ | refine blk_drew ?_ | refine blk_alloc ?_ _)); exact BK379.out⟩, ⟨by repeat (first | (with_reducible first | exact HB.out | apply below_alloc | apply pw_below_drewN | apply below_drew1 | refine below_set ?_ GE379.out) | exact HB.out)⟩⟩
                 ·rw [if_neg c40] at H
                  exact absurd H (by simp)
               ·rw [if_neg c33] at H
                exact absurd H (by simp)
              ·rw [if_neg c32] at H
               have c32b0 : decide (x10_4 < (x6_4.length : Int)) = false := decide_eq_false c32
               clear c32
               have H' := Aside0.mk H
               clear H
               obtain ⟨Ao57, co57, eo57⟩ := Kd.R_slice HO_6.out
               subst eo57
               go_wp2
               go_roundg k4
               case measure => have := HK1.out; have := HK2.out; have := HJ12.out; have := HK4.out; omega
               case rel => exact ⟨(x6_4), (true), (wrap64 (x8_2 + 1)), (by first | rfl | (simp; done) | (simp [*]; done)), (by first | rfl | (simp; done) | (simp [*]; done)), H', ⟨by have := HK1.out; have := HK2.out; have := HJ12.out; have := HK4.out; omega⟩, ⟨by (with_reducible repeat (first | apply Kd.S_alloc | apply Kd.S_drewN | apply Kd.S_drew)); exact Kd.S_mono HO_3.out (fun _ hk => hk.1)⟩, ⟨by (with_reducible repeat (first | apply Kd.S_alloc | apply Kd.S_drewN | apply Kd.S_drew)); exact HO_4.out⟩, ⟨by (with_reducible repeat (first | apply Kd.R_alloc | apply Kd.R_drewN | apply Kd.R_drew)); exact Kd.R_mono HO_6.out (fun _ hk => trivial)⟩, ⟨by (with_reducible repeat (first | refine blk_drewN ?_ _ | refine blk_drew ?_ | refine blk_alloc ?_ _)); exact BK379.out⟩, ⟨by repeat (first | (with_reducible first | exact HB.out | apply below_alloc | apply pw_below_drewN | apply below_drew1 | refine below_set ?_ GE379.out) | exact HB.out)⟩⟩
        ·rw [if_neg c12] at H
         have c12b0 : decide (x8_2 < (l0_2.length : Int)) = false := decide_eq_false c12
         clear c12
         by_cases c58 : x7_2 = true
         ·subst c58
          have H1 : (if 0 ≤ x5_1 then (if x5_1 < (x6_2.length : Int) then (davitref09_All.l3 k2 t380 x4_1 x5_1 (x6_2.set (x5_1 : Int).toNat true) 0 a0_0 a0_1 l0_2 x5_1 ([] : List Int)) else (none)) else (none)) = some r := by rw [if_pos rfl] at H; exact H
          clear H
          have H := H1
          clear H1
          by_cases c59 : 0 ≤ x5_1
          ·rw [if_pos c59] at H
           have c59b0 : decide (0 ≤ x5_1) = true := decide_eq_true c59
           clear c59
           by_cases c60 : x5_1 < (x6_2.length : Int)
           ·rw [if_pos c60] at H
            have c60b0 : decide (x5_1 < (x6_2.length : Int)) = true := decide_eq_true c60
            clear c60
            obtain ⟨y402, hy402⟩ : ∃ y_ : List Bool, y_ = (x6_2.set (x5_1 : Int).toNat true) := ⟨_, rfl⟩
            replace H : (davitref09_All.l3 k2 t380 x4_1 x5_1 y402 0 a0_0 a0_1 l0_2 x5_1 ([] : List Int)) = some r := by first | (rw [hy402]; with_reducible exact H) | (have H2_ := (Option.bind_some _ _).symm.trans H; rw [hy402]; with_reducible exact H2_) | (have H2_ := (Option.bind_some _ _).symm.trans H; with_reducible exact H2_) | with_reducible exact H | (rw [hy402]; exact H) | exact H
            have Ny402 := Aside0.mk hy402
            clear hy402
            have H' := Aside0.mk H
            clear H
            have hcz62_0 : wr.cell? ⟨gb379, 0, none⟩ = some (.int .i64 a0_0) := (blk_cell BK379.out 0).trans rfl
            have hcz62_1 : wr.cell? ⟨gb379, 1, none⟩ = some (.int .i64 a0_1) := (blk_cell BK379.out 1).trans rfl
            have hcz62_2 : wr.cell? ⟨gb379, 2, none⟩ = some (.slice A0_2 l0_2.length c0_2) := (blk_cell BK379.out 2).trans rfl
            have hfz62_0 := blk_frozen BK379.out 0
            have hfz62_1 := blk_frozen BK379.out 1
            have hfz62_2 := blk_frozen BK379.out 2
            have p61 : 0 ≤ (x5_1 : Int) := of_decide_eq_true (by first | (with_reducible assumption) | assumption)
            have q61 : (x5_1 : Int) < ((x6_2.length : Int) : Int) := of_decide_eq_true (by first | (with_reducible assumption) | assumption)
            obtain ⟨go61, co61, eo61, gb61, gl61, cl61, HG61⟩ := Kd.R_form HO_6.out (by omega)
            (first | cases eo61 | (injection eo61 with ea_ en_ ec_; (first | subst ea_ | (injection ea_ with ea_; subst ea_)); subst ec_; clear en_))
            have GB61 := Aside0.mk gb61
            have GG61 := Aside0.mk HG61
            clear gb61 gl61 HG61
            obtain ⟨hx61_0, hf61_0⟩ := Kd.R_celln false HO_6.out (x5_1 : Int) p61 q61
            replace p61 := eq_true p61
            replace q61 := eq_true q61
            have HP63 := Kd.R_putg HO_6.out (x5_1 : Int) true
            go_wp2_with (first | ((with_reducible refine gate_store (t := 4) (p := 85) rfl ?_); refine store_event (t := 4) (p := 85) (v := ?vo_w64) (w1 := (wr.setCell ⟨go61, (x5_1 : Int).toNat, none⟩ (.bool true))) ?hg ?ho ?hn ?hr ?_; (case ho => rfl); (case hg => rfl); (case hn => rfl); (case hr => first | (go_simp; done) | (go_simp; rfl)); intro w64 hw; have hg : wr.grownBy w64 (some go61) := (by rw [hw]; exact HP63.2); have hp_ : Kd.R Kd.bool 4 w64 w.heap.size (fun _ => True) (.slice (some ⟨go61, 0, none⟩) x6_2.length co61) y402 := (by rw [hw, Ny402.out]; exact HP63.1); clear HP63; have n0_ := Aside0.mk (Kd.S_after (v := (.slice (some ⟨go61, 0, none⟩) x6_2.length co61)) (v1 := (.slice (some ⟨go61, 0, none⟩) x6_2.length co61)) (ok := (fun _ => True)) (by (with_reducible repeat (first | apply Kd.S_alloc | apply Kd.S_drewN | apply Kd.S_drew)); exact Kd.S_mono HO_3.out (fun _ hk => ⟨trivial, hk⟩)) hg (.inl rfl)); have n1_ := Aside0.mk (Kd.S_over' (v := (.slice (some ⟨go61, 0, none⟩) x6_2.length co61)) (by (with_reducible repeat (first | apply Kd.S_alloc | apply Kd.S_drewN | apply Kd.S_drew)); exact HO_4.out) (Kd.R_typed HO_6.out) (by decide) hg); have n2_ := Aside0.mk (hp_); have n3_ := Aside0.mk (blk_grown (g := gb379) (o := .cells #[.int .i64 a0_0, .int .i64 a0_1, .slice A0_2 l0_2.length c0_2] 24 (0, 0)) (by (with_reducible repeat (first | refine blk_drewN ?_ _ | refine blk_drew ?_ | refine blk_alloc ?_ _)); exact BK379.out) hg (Kd.R_ne HO_6.out BK379.out (by decide))); have n4_ := Aside0.mk ((by rw [hw]; exact below_set (HB.out) GB61.out : Below w.heap.size w w64)); clear HO_3; clear HO_4; clear HO_6; clear BK379; clear HB; have HO_3 := n0_; have HO_4 := n1_; have HO_6 := n2_; have BK379 := n3_; have HB := n4_; clear n0_ n1_ n2_ n3_ n4_; clear hg hw hp_) | ((with_reducible refine gate_dst (N := 11) rfl ?_); refine box_event ?hg (N := 11) ?hd (cs := #[.int .i64 0, .slice none 0 0]) (t := 40) ?hr ?_; (case hd => rfl); (case hg => rfl); (case hr => first | (go_simp; done) | (go_simp; rfl)); intro gb403 hg w65 hbox hb; have n0_ := Aside0.mk (Kd.S_below (by (with_reducible repeat (first | apply Kd.S_alloc | apply Kd.S_drewN | apply Kd.S_drew)); exact HO_3.out) hb); have n1_ := Aside0.mk (Kd.S_below (Kd.S_elderB (by (with_reducible repeat (first | apply Kd.S_alloc | apply Kd.S_drewN | apply Kd.S_drew)); exact HO_4.out) gb403 (Nat.le_of_eq hg.symm)) hb); have n2_ := Aside0.mk (Kd.R_below (by (with_reducible repeat (first | apply Kd.R_alloc | apply Kd.R_drewN | apply Kd.R_drew)); exact HO_6.out) hb); have n3_ := Aside0.mk (blk_below (g := gb379) (o := .cells #[.int .i64 a0_0, .int .i64 a0_1, .slice A0_2 l0_2.length c0_2] 24 (0, 0)) (by (with_reducible repeat (first | refine blk_drewN ?_ _ | refine blk_drew ?_ | refine blk_alloc ?_ _)); exact BK379.out) hb); have n4_ := Aside0.mk (below_step (by repeat (first | (with_reducible first | exact HB.out | apply below_alloc | apply pw_below_drewN | apply below_drew1 | refine below_set ?_ GE379.out) | exact HB.out)) hb); have n5_ := Aside0.mk (hbox); have n6_ := Aside0.mk ((by rw [hg]; exact (below_size (by repeat (first | (with_reducible first | exact HB.out | apply below_alloc | apply pw_below_drewN | apply below_drew1 | refine below_set ?_ GE379.out) | exact HB.out))) : w.heap.size ≤ gb403)); have n7_ := Aside0.mk ((by rw [hg]; exact (below_size (by repeat (first | (with_reducible first | exact HB.out | apply below_alloc | apply pw_below_drewN | apply below_drew1 | refine below_set ?_ GE379.out) | exact HB.out))) : w.heap.size ≤ gb403)); have n8_ := Aside0.mk ((by rw [hg]; exact Nat.ne_of_lt (blk_lt (g := gb379) (o := .cells #[.int .i64 a0_0, .int .i64 a0_1, .slice A0_2 l0_2.length c0_2] 24 (0, 0)) (by (with_reducible repeat (first | refine blk_drewN ?_ _ | refine blk_drew ?_ | refine blk_alloc ?_ _)); exact BK379.out)) : gb379 ≠ gb403)); have n9_ := Aside0.mk ((by rw [hg]; exact Nat.ne_of_gt (blk_lt (g := gb379) (o := .cells #[.int .i64 a0_0, .int .i64 a0_1, .slice A0_2 l0_2.length c0_2] 24 (0, 0)) (by (with_reducible repeat (first | refine blk_drewN ?_ _ | refine blk_drew ?_ | refine blk_alloc ?_ _)); exact BK379.out)) : gb403 ≠ gb379)); clear HO_3; clear HO_4; clear HO_6; clear BK379; clear HB; have HO_3 := n0_; have HO_4 := n1_; have HO_6 := n2_; have BK379 := n3_; have HB := n4_; have BK403 := n5_; have GW403 := n6_; have GE403 := n7_; have NB379_403 := n8_; have NB403_379 := n9_; clear n0_ n1_ n2_ n3_ n4_ n5_ n6_ n7_ n8_ n9_; clear hb hbox hg; have hnb66 := NB403_379.out; have hnc66 := NB379_403.out; have hcz67_0 : w65.cell? ⟨gb403, 0, none⟩ = some (.int .i64 0) := (blk_cell BK403.out 0).trans rfl; have hcz67_1 : w65.cell? ⟨gb403, 1, none⟩ = some (.slice none 0 0) := (blk_cell BK403.out 1).trans rfl; have hfz67_0 := blk_frozen BK403.out 0; have hfz67_1 := blk_frozen BK403.out 1))
            go_loopg [12] k2 (fun kq v12 w' => ∃ (x12_3 : Int) (x404001_3 : List Int) (u404001 : Value), v12 = .int .i64 x12_3 ∧ Aside0 (davitref09_All.l3 kq t380 x4_1 x5_1 y402 x12_3 a0_0 a0_1 l0_2 x5_1 x404001_3 = some r) ∧ Aside0 (kq ≤ k2) ∧ Aside0 (Kd.S (Kd.slice 4 Kd.bool) 32 w' w.heap.size (fun k_ => some k_ ≠ ((.slice (some ⟨go61, 0, none⟩) x6_2.length co61) : Value).ownBlock) v381 t380) ∧ Aside0 (Kd.S k40 40 w' w.heap.size (fun k_ => some k_ ≠ (u404001 : Value).ownBlock ∧ k_ ≠ gb403) u4 x4_1) ∧ Aside0 (Kd.R Kd.bool 4 w' w.heap.size (fun _ => True) (.slice (some ⟨go61, 0, none⟩) x6_2.length co61) y402) ∧ Aside0 (Kd.R (Kd.int .i64) 3 w' w.heap.size (fun _ => True) u404001 x404001_3) ∧ Aside0 (w'.heap[gb379]? = some (.cells #[.int .i64 a0_0, .int .i64 a0_1, (.slice A0_2 l0_2.length c0_2)] 24 (0, 0))) ∧ Aside0 (w'.heap[gb403]? = some (.cells #[.int .i64 x5_1, u404001] 40 (0, 0))) ∧ Aside0 (Below w.heap.size w w'))
            case atStart => exact ⟨(0), (([] : List Int)), (.slice none 0 0), (by first | rfl | (simp; done) | (simp [*]; done)), H', ⟨Nat.le_refl _⟩, ⟨by (with_reducible repeat (first | apply Kd.S_alloc | apply Kd.S_drewN | apply Kd.S_drew)); exact Kd.S_mono (Kd.S_far (p := ⟨gb403, 1, none⟩) (Kd.S_far (p := ⟨gb403, 0, none⟩) (Kd.S_types HO_3.out BK403.out (by decide)) (fun _ hk => hk.2) (.int .i64 x5_1)) (fun _ hk => hk.2) (.slice none 0 0)) (fun _ hk => hk.1.2)⟩, ⟨by (with_reducible repeat (first | apply Kd.S_alloc | apply Kd.S_drewN | apply Kd.S_drew)); exact Kd.S_mono (Kd.S_far (p := ⟨gb403, 1, none⟩) (Kd.S_far (p := ⟨gb403, 0, none⟩) (Kd.S_mono HO_4.out (fun k_ hk => (⟨hk, hk.2⟩ : _ ∧ k_ ≠ gb403))) (fun _ hk => hk.2) (.int .i64 x5_1)) (fun _ hk => hk.2) (.slice none 0 0)) (fun _ hk => ⟨(by simp [Value.ownBlock]), hk.1.2⟩)⟩, ⟨by (with_reducible repeat (first | apply Kd.R_alloc | apply Kd.R_drewN | apply Kd.R_drew)); exact Kd.R_mono (Kd.R_far (p := ⟨gb403, 1, none⟩) (Kd.R_far (p := ⟨gb403, 0, none⟩) (Kd.R_types HO_6.out BK403.out (by decide)) (fun _ hk => hk.2) (.int .i64 x5_1)) (fun _ hk => hk.2) (.slice none 0 0)) (fun _ hk => trivial)⟩, ⟨by first | exact Kd.R_nil _ _ _ _ _ | exact Kd.N_nil _ _ _ _ _ | exact Kd.V_nil _ _ _ _ _ | exact Kd.Q_nil _ _ _ _ _ | exact Kd.S_nil _ _ _ _ _⟩, ⟨by (with_reducible repeat (first | refine blk_drewN ?_ _ | refine blk_drew ?_ | refine blk_alloc ?_ _)); refine blk_far ?_ NB379_403.out _; (with_reducible repeat (first | refine blk_drewN ?_ _ | refine blk_drew ?_ | refine blk_alloc ?_ _)); refine blk_far ?_ NB379_403.out _; (with_reducible repeat (first | refine blk_drewN ?_ _ | refine blk_drew ?_ | refine blk_alloc ?_ _)); exact BK379.out⟩, ⟨by (with_reducible repeat (first | refine blk_drewN ?_ _ | refine blk_drew ?_ | refine blk_alloc ?_ _)); refine blk_put (cs := #[.int .i64 x5_1, .slice none 0 0]) ?_ 1 _ rfl; (with_reducible repeat (first | refine blk_drewN ?_ _ | refine blk_drew ?_ | refine blk_alloc ?_ _)); refine blk_put (cs := #[.int .i64 0, .slice none 0 0]) ?_ 0 _ rfl; (with_reducible repeat (first | refine blk_drewN ?_ _ | refine blk_drew ?_ | refine blk_alloc ?_ _)); exact BK403.out⟩, ⟨by repeat (first | (with_reducible first | exact HB.out | apply below_alloc | apply pw_below_drewN | apply below_drew1 | refine below_set ?_ GE379.out | refine below_set ?_ GE403.out) | exact HB.out)⟩⟩
            case round =>
             clear H'
             try clear c1
             try clear q1
             try clear c2
             try clear p2
             try clear c3
             try clear p3
             try clear q3
             try clear hx3
             try clear hf3
             try clear c4
             try clear p4
             try clear q4
             try clear hx4
             try clear hf4
             try clear c5
             try clear p5
             try clear q5
             try clear hx5
             try clear hf5
             try clear c6
             try clear c6b0
             try clear p6
             try clear q6
             try clear hx6
             try clear hf6
             try clear c7
             try clear c7b0
             try clear c7b1
             try clear c8
             try clear c8b0
             try clear c8b1
             try clear c12
             try clear c12b0
             try clear c15
             try clear c15b0
             try clear c16
             try clear c16b0
             try clear c17
             try clear c17b0
             try clear c18
             try clear c18b0
             try clear q19
             try clear c20
             try clear c24
             try clear c28
             try clear c32
             try clear c32b0
             try clear c33
             try clear c33b0
             try clear q34
             try clear c35
             try clear p36
             try clear q36
             try clear hx36
             try clear hf36
             try clear c38
             try clear p38
             try clear q38
             try clear hx38
             try clear c39
             try clear p39
             try clear q39
             try clear hx39
             try clear c40
             try clear c40b0
             try clear q41
             try clear c42
             try clear c43
             try clear c43b0
             try clear c44
             try clear c44b0
             try clear c45
             try clear c45b0
             try clear p46
             try clear q46
             try clear hx46
             try clear hf46
             try clear p52
             try clear q52
             try clear hx52
             try clear hf52
             try clear c58
             try clear c59
             try clear c59b0
             try clear c60
             try clear c60b0
             try clear p61
             try clear q61
             try clear hx61
             try clear hf61
             try clear p64
             try clear c66
             try clear hcz14_0
             try clear hcz14_1
             try clear hcz14_2
             try clear hcz24_0
             try clear hcz24_1
             try clear hcz24_2
             try clear hcz30_0
             try clear hcz30_1
             try clear hcz30_2
             try clear hcz4_0
             try clear hcz4_1
             try clear hcz4_2
             try clear hcz62_0
             try clear hcz62_1
             try clear hcz62_2
             try clear hcz67_0
             try clear hcz67_1
             try clear hcz9_0
             try clear hcz9_1
             try clear hcz9_2
             try clear hfz14_0
             try clear hfz14_1
             try clear hfz14_2
             try clear hfz24_0
             try clear hfz24_1
             try clear hfz24_2
             try clear hfz30_0
             try clear hfz30_1
             try clear hfz30_2
             try clear hfz4_0
             try clear hfz4_1
             try clear hfz4_2
             try clear hfz62_0
             try clear hfz62_1
             try clear hfz62_2
             try clear hfz67_0
             try clear hfz67_1
             try clear hfz9_0
             try clear hfz9_1
             try clear hfz9_2
             try clear hx36_0
             try clear hx386_0
             try clear hx387_0
             try clear hx395_0
             try clear hx397_0
             try clear hx398_0
             try clear hx399_0
             try clear hx46_0
             try clear hx52_0
             try clear hx61_0
             try clear p2
             try clear p3
             try clear p36
             try clear p386
             try clear p387
             try clear p395
             try clear p397
             try clear p398
             try clear p399
             try clear p46
             try clear p52
             try clear p6
             try clear p61
             try clear q1
             try clear q19
             try clear q3
             try clear q36
             try clear q386
             try clear q387
             try clear q395
             try clear q397
             try clear q398
             try clear q399
             try clear q46
             try clear q52
             try clear q61
             obtain ⟨x12_3, x404001_3, u404001, rfl, HA, HK3, HO_3, HO_4, HO_6, HO_404001, BK379, BK403, HB⟩ := hrel
             have hl6_3 := (Kd.R_reads' HO_6.out).1
             rw [hl6_3] at HO_6
             (try simp only [hl6_3])
             (try simp only [hl6_3] at BK379)
             (try simp only [hl6_3] at BK403)
             (try simp only [hl6_3] at HO_3)
             (try simp only [hl6_3] at HO_4)
             (try simp only [hl6_3] at HO_404001)
             cases gk with
             | zero => exact absurd HA.out (by simp [davitref09_All.l3])
             | succ k3 =>
              have H := HA.out
              clear HA
              simp only [davitref09_All.l3] at H
              by_cases c68 : x12_3 < (y402.length : Int)
              ·rw [if_pos c68] at H
               have c68b0 : decide (x12_3 < (y402.length : Int)) = true := decide_eq_true c68
               clear c68
               by_cases c69 : 0 ≤ x12_3
               ·rw [if_pos c69] at H
                have c69b0 : decide (0 ≤ x12_3) = true := decide_eq_true c69
                clear c69
                obtain ⟨bq70, hbq70⟩ : ∃ b_ : Bool, b_ = (rdOf false y402 x12_3) := ⟨_, rfl⟩
                replace H : (if bq70 = true then (if x404001_3.length < 17592186044416 then (davitref09_All.l3 k3 t380 x4_1 x5_1 y402 (wrap64 (x12_3 + 1)) a0_0 a0_1 l0_2 x5_1 (x404001_3 ++ [x12_3])) else (none)) else (davitref09_All.l3 k3 t380 x4_1 x5_1 y402 (wrap64 (x12_3 + 1)) a0_0 a0_1 l0_2 x5_1 x404001_3)) = some r := by rw [← hbq70] at H; exact H
                have Nbq70 := Aside0.mk hbq70
                clear hbq70
                by_cases c71 : bq70 = true
                ·subst c71
                 have H1 : (if x404001_3.length < 17592186044416 then (davitref09_All.l3 k3 t380 x4_1 x5_1 y402 (wrap64 (x12_3 + 1)) a0_0 a0_1 l0_2 x5_1 (x404001_3 ++ [x12_3])) else (none)) = some r := by rw [if_pos rfl] at H; exact H
                 clear H
                 have H := H1
                 clear H1
                 by_cases c72 : x404001_3.length < 17592186044416
                 ·rw [if_pos c72] at H
                  have LMc72 := Aside0.mk c72
                  clear c72
                  obtain ⟨y405, hy405⟩ : ∃ y_ : List Int, y_ = (x404001_3 ++ [x12_3]) := ⟨_, rfl⟩
                  replace H : (davitref09_All.l3 k3 t380 x4_1 x5_1 y402 (wrap64 (x12_3 + 1)) a0_0 a0_1 l0_2 x5_1 y405) = some r := by first | (rw [hy405]; with_reducible exact H) | (have H2_ := (Option.bind_some _ _).symm.trans H; rw [hy405]; with_reducible exact H2_) | (have H2_ := (Option.bind_some _ _).symm.trans H; with_reducible exact H2_) | with_reducible exact H | (rw [hy405]; exact H) | exact H
                  have Ny405 := Aside0.mk hy405
                  clear hy405
                  have H' := Aside0.mk H
                  clear H
                  have p404 : 0 ≤ (x12_3 : Int) := of_decide_eq_true (by first | (with_reducible assumption) | assumption)
                  have q404 : x12_3 < (y402.length : Int) := of_decide_eq_true (by first | (with_reducible assumption) | assumption)
                  obtain ⟨ad404, e404, hx404_0⟩ := Kd.at_bool (Kd.R_reads' HO_6.out).2.2 x12_3 p404 q404
                  (try rw [← Nbq70.out] at hx404_0)
                  obtain rfl : (⟨go61, 0, none⟩ : Addr) = ad404 := (by injection e404)
                  (first | simp only [add_plain] at hx404_0 | simp only [add_at] at hx404_0 | simp only [Addr.add, Nat.zero_add] at hx404_0 | skip)
                  replace p404 := eq_true p404
                  replace q404 := eq_true q404
                  have hnb73 := NB403_379.out
                  have hnc73 := NB379_403.out
                  have hcz74_0 : wr.cell? ⟨gb403, 0, none⟩ = some (.int .i64 x5_1) := (blk_cell BK403.out 0).trans rfl
                  have hcz74_1 : wr.cell? ⟨gb403, 1, none⟩ = some (u404001) := (blk_cell BK403.out 1).trans rfl
                  have hfz74_0 := blk_frozen BK403.out 0
                  have hfz74_1 := blk_frozen BK403.out 1
                  go_wp2_with (first | ((with_reducible refine gate_builtin (b := .append) (xs := #[.tmp 99, .tmp 101]) rfl ?_); at_builtin; refine Kd.R_append (Kd.int .i64) (w0 := w) w.heap.size rfl (.tmp 99) (.tmp 101) 27 3 (.int .i64 0) 8 rfl Try.underlying27 info3 rfl (by decide) (by omega) u404001 x404001_3 x12_3 [.int .i64 x12_3] (fun _ => True) (fun _ => False) rfl rfl ?aP (fun _ hk => hk.elim) ?aF ?aO ?aB ?aS ?aL ?_; (case aP => exact rfl); (case aB => exact (by repeat (first | (with_reducible first | exact HB.out | apply below_alloc | apply pw_below_drewN | apply below_drew1 | refine below_set ?_ GE379.out | refine below_set ?_ GE403.out) | exact HB.out))); (case aF => exact (fun _ _ => trivial)); (case aO => exact (by (with_reducible repeat (first | apply Kd.R_alloc | apply Kd.R_drewN | apply Kd.R_drew)); exact HO_404001.out)); (case aS => exact (below_size (by repeat (first | (with_reducible first | exact HB.out | apply below_alloc | apply pw_below_drewN | apply below_drew1 | refine below_set ?_ GE379.out | refine below_set ?_ GE403.out) | exact HB.out)))); (case aL => have := LMc72.out; omega); intro v406 w75 ho hb hg hat; rw [← Ny405.out] at ho; have n0_ := Aside0.mk (Kd.S_over' (by (with_reducible repeat (first | apply Kd.S_alloc | apply Kd.S_drewN | apply Kd.S_drew)); exact HO_3.out) (Kd.R_typed (by (with_reducible repeat (first | apply Kd.R_alloc | apply Kd.R_drewN | apply Kd.R_drew)); exact HO_404001.out)) (by decide) hg); have n1_ := Aside0.mk (Kd.S_after (ok := (fun k_ => k_ ≠ gb403)) (by (with_reducible repeat (first | apply Kd.S_alloc | apply Kd.S_drewN | apply Kd.S_drew)); exact Kd.S_mono HO_4.out (fun _ hk => ⟨hk.2, hk.1⟩)) hg hat); have n2_ := Aside0.mk (Kd.R_over' (by (with_reducible repeat (first | apply Kd.R_alloc | apply Kd.R_drewN | apply Kd.R_drew)); exact HO_6.out) (Kd.R_typed (by (with_reducible repeat (first | apply Kd.R_alloc | apply Kd.R_drewN | apply Kd.R_drew)); exact HO_404001.out)) (by decide) hg); have n3_ := Aside0.mk (blk_grown (g := gb379) (o := .cells #[.int .i64 a0_0, .int .i64 a0_1, .slice A0_2 l0_2.length c0_2] 24 (0, 0)) (by (with_reducible repeat (first | refine blk_drewN ?_ _ | refine blk_drew ?_ | refine blk_alloc ?_ _)); exact BK379.out) hg (Kd.R_ne HO_404001.out BK379.out (by decide))); have n4_ := Aside0.mk (blk_grown (g := gb403) (o := .cells #[.int .i64 x5_1, u404001] 40 (0, 0)) (by (with_reducible repeat (first | refine blk_drewN ?_ _ | refine blk_drew ?_ | refine blk_alloc ?_ _)); exact BK403.out) hg (Kd.R_ne HO_404001.out BK403.out (by decide))); have n5_ := Aside0.mk (hb); have n6_ := Aside0.mk (ho); clear HO_3; clear HO_4; clear HO_6; clear BK379; clear BK403; clear HB; clear HO_404001; have HO_3 := n0_; have HO_4 := n1_; have HO_6 := n2_; have BK379 := n3_; have BK403 := n4_; have HB := n5_; have HO407 := n6_; clear n0_ n1_ n2_ n3_ n4_ n5_ n6_; clear ho hb hg hat; obtain ⟨Ao76, co76, eo76⟩ := Kd.R_slice HO407.out; subst eo76; have hcz77_0 : w75.cell? ⟨gb403, 0, none⟩ = some (.int .i64 x5_1) := (blk_cell BK403.out 0).trans rfl; have hcz77_1 : w75.cell? ⟨gb403, 1, none⟩ = some (u404001) := (blk_cell BK403.out 1).trans rfl; have hfz77_0 := blk_frozen BK403.out 0; have hfz77_1 := blk_frozen BK403.out 1))
                  (try simp only [← hl6_3])
                  go_roundg k3
                  case measure => have := HK1.out; have := HK2.out; have := HK3.out; omega
                  case rel => exact ⟨(wrap64 (x12_3 + 1)), (y405), (.slice Ao76 y405.length co76), (by first | rfl | (simp; done) | (simp [*]; done)), H', ⟨by have := HK1.out; have := HK2.out; have := HK3.out; omega⟩, ⟨by (try simp only [hl6_3]); (with_reducible repeat (first | apply Kd.S_alloc | apply Kd.S_drewN | apply Kd.S_drew)); exact Kd.S_mono (Kd.S_far (p := ⟨gb403, 1, none⟩) (Kd.S_types HO_3.out BK403.out (by decide)) (fun _ hk => hk.2) (.slice Ao76 y405.length co76)) (fun _ hk => hk.1)⟩, ⟨by (try simp only [hl6_3]); (with_reducible repeat (first | apply Kd.S_alloc | apply Kd.S_drewN | apply Kd.S_drew)); exact Kd.S_mono (Kd.S_far (p := ⟨gb403, 1, none⟩) (Kd.S_mono HO_4.out (fun k_ hk => (⟨hk, hk.1⟩ : _ ∧ k_ ≠ gb403))) (fun _ hk => hk.2) (.slice Ao76 y405.length co76)) (fun _ hk => ⟨hk.1.2, hk.1.1⟩)⟩, ⟨by (try simp only [hl6_3]); (with_reducible repeat (first | apply Kd.R_alloc | apply Kd.R_drewN | apply Kd.R_drew)); exact Kd.R_mono (Kd.R_far (p := ⟨gb403, 1, none⟩) (Kd.R_types HO_6.out BK403.out (by decide)) (fun _ hk => hk.2) (.slice Ao76 y405.length co76)) (fun _ hk => trivial)⟩, ⟨by (try simp only [hl6_3]); (with_reducible repeat (first | apply Kd.R_alloc | apply Kd.R_drewN | apply Kd.R_drew)); exact Kd.R_mono (Kd.R_far (p := ⟨gb403, 1, none⟩) (Kd.R_types HO407.out BK403.out (by decide)) (fun _ hk => hk.2) (.slice Ao76 y405.length co76)) (fun _ hk => trivial)⟩, ⟨by (try simp only [hl6_3]); (with_reducible repeat (first | refine blk_drewN ?_ _ | refine blk_drew ?_ | refine blk_alloc ?_ _)); refine blk_far ?_ NB379_403.out _; (with_reducible repeat (first | refine blk_drewN ?_ _ | refine blk_drew ?_ | refine blk_alloc ?_ _)); exact BK379.out⟩, ⟨by (try simp only [hl6_3]); (with_reducible repeat (first | refine blk_drewN ?_ _ | refine blk_drew ?_ | refine blk_alloc ?_ _)); refine blk_put (cs := #[.int .i64 x5_1, u404001]) ?_ 1 _ rfl; (with_reducible repeat (first | refine blk_drewN ?_ _ | refine blk_drew ?_ | refine blk_alloc ?_ _)); exact BK403.out⟩, ⟨by repeat (first | (with_reducible first | exact HB.out | apply below_alloc | apply pw_below_drewN | apply below_drew1 | refine below_set ?_ GE379.out | refine below_set ?_ GE403.out) | exact HB.out)⟩⟩
                 ·rw [if_neg c72] at H
                  exact absurd H (by simp)
                ·replace c71 := Bool.eq_false_iff.mpr c71
                 subst c71
                 have H1 : (davitref09_All.l3 k3 t380 x4_1 x5_1 y402 (wrap64 (x12_3 + 1)) a0_0 a0_1 l0_2 x5_1 x404001_3) = some r := by rw [if_neg (show ¬ (false = true) by decide)] at H; exact H
                 clear H
                 have H := H1
                 clear H1
                 have H' := Aside0.mk H
                 clear H
                 have p404 : 0 ≤ (x12_3 : Int) := of_decide_eq_true (by first | (with_reducible assumption) | assumption)
                 have q404 : x12_3 < (y402.length : Int) := of_decide_eq_true (by first | (with_reducible assumption) | assumption)
                 obtain ⟨ad404, e404, hx404_0⟩ := Kd.at_bool (Kd.R_reads' HO_6.out).2.2 x12_3 p404 q404
                 (try rw [← Nbq70.out] at hx404_0)
                 obtain rfl : (⟨go61, 0, none⟩ : Addr) = ad404 := (by injection e404)
                 (first | simp only [add_plain] at hx404_0 | simp only [add_at] at hx404_0 | simp only [Addr.add, Nat.zero_add] at hx404_0 | skip)
                 replace p404 := eq_true p404
                 replace q404 := eq_true q404
                 go_wp2
                 (try simp only [← hl6_3])
                 go_roundg k3
                 case measure => have := HK1.out; have := HK2.out; have := HK3.out; omega
                 case rel => exact ⟨(wrap64 (x12_3 + 1)), (x404001_3), (u404001), (by first | rfl | (simp; done) | (simp [*]; done)), H', ⟨by have := HK1.out; have := HK2.out; have := HK3.out; omega⟩, ⟨by (try simp only [hl6_3]); (with_reducible repeat (first | apply Kd.S_alloc | apply Kd.S_drewN | apply Kd.S_drew)); exact HO_3.out⟩, ⟨by (try simp only [hl6_3]); (with_reducible repeat (first | apply Kd.S_alloc | apply Kd.S_drewN | apply Kd.S_drew)); exact HO_4.out⟩, ⟨by (try simp only [hl6_3]); (with_reducible repeat (first | apply Kd.R_alloc | apply Kd.R_drewN | apply Kd.R_drew)); exact HO_6.out⟩, ⟨by (try simp only [hl6_3]); (with_reducible repeat (first | apply Kd.R_alloc | apply Kd.R_drewN | apply Kd.R_drew)); exact HO_404001.out⟩, ⟨by (try simp only [hl6_3]); (with_reducible repeat (first | refine blk_drewN ?_ _ | refine blk_drew ?_ | refine blk_alloc ?_ _)); exact BK379.out⟩, ⟨by (try simp only [hl6_3]); (with_reducible repeat (first | refine blk_drewN ?_ _ | refine blk_drew ?_ | refine blk_alloc ?_ _)); exact BK403.out⟩, ⟨by repeat (first | (with_reducible first | exact HB.out | apply below_alloc | apply pw_below_drewN | apply below_drew1 | refine below_set ?_ GE379.out | refine below_set ?_ GE403.out) | exact HB.out)⟩⟩
               ·rw [if_neg c69] at H
                exact absurd H (by simp)
              ·rw [if_neg c68] at H
               have c68b0 : decide (x12_3 < (y402.length : Int)) = false := decide_eq_false c68
               clear c68
               by_cases c78 : x4_1.length < 4398046511104
               ·rw [if_pos c78] at H
                have LMc78 := Aside0.mk c78
                clear c78
                obtain ⟨y408, hy408⟩ : ∃ y_ : List (S40), y_ = (x4_1 ++ [(⟨x5_1, x404001_3⟩ : S40)]) := ⟨_, rfl⟩
                replace H : (davitref09_All.l0 k3 t380 y408 (wrap64 (x5_1 + 1)) a0_0 a0_1 l0_2) = some r := by first | (rw [hy408]; with_reducible exact H) | (have H2_ := (Option.bind_some _ _).symm.trans H; rw [hy408]; with_reducible exact H2_) | (have H2_ := (Option.bind_some _ _).symm.trans H; with_reducible exact H2_) | with_reducible exact H | (rw [hy408]; exact H) | exact H
                have Ny408 := Aside0.mk hy408
                clear hy408
                have H' := Aside0.mk H
                clear H
                have hnb79 := NB403_379.out
                have hnc79 := NB379_403.out
                have hcz80_0 : wr.cell? ⟨gb403, 0, none⟩ = some (.int .i64 x5_1) := (blk_cell BK403.out 0).trans rfl
                have hcz80_1 : wr.cell? ⟨gb403, 1, none⟩ = some (u404001) := (blk_cell BK403.out 1).trans rfl
                have hfz80_0 := blk_frozen BK403.out 0
                have hfz80_1 := blk_frozen BK403.out 1
                obtain ⟨Ao82, co82, eo82⟩ := Kd.R_slice HO_404001.out
                subst eo82
                go_wp2_with (first | ((with_reducible refine gate_builtin (b := .append) (xs := #[.tmp 104, .tmp 106]) rfl ?_); at_builtin; refine Kd.S_append k40 (w0 := w) w.heap.size rfl (.tmp 104) (.tmp 106) 37 40 (.agg #[(.int .i64 0), (.slice none 0 0)]) 32 rfl Try.underlying37 info40 rfl (by decide) (by omega) u4 x4_1 (⟨x5_1, x404001_3⟩ : S40) [.int .i64 x5_1, .slice Ao82 x404001_3.length co82] (fun k_ => k_ ≠ gb403) (fun k_ => some k_ = (.slice Ao82 x404001_3.length co82 : Value).ownBlock) rfl rfl ?aP (fun k_ hk_ => ((Kd.R_mono (ok' := fun k_ => ((fun k_ => k_ ≠ gb403)) k_ ∧ some k_ ≠ (u4 : Value).ownBlock) (Kd.R_types (Kd.R_apart' (HO_404001.out) (Kd.S_typed HO_4.out) (by decide)) BK403.out (by decide)) (fun k_ hk => ⟨hk.2, hk.1.2⟩))).1 k_ hk_.symm) ?aF ?aO ?aB ?aS ?aL ?_; (case aP => exact k40_mkM _ _ _ (⟨x5_1, x404001_3⟩ : S40) (Kd.R_mono (Kd.R_tight rfl (Kd.R_mono (ok' := fun k_ => ((fun k_ => k_ ≠ gb403)) k_ ∧ some k_ ≠ (u4 : Value).ownBlock) (Kd.R_types (Kd.R_apart' (HO_404001.out) (Kd.S_typed HO_4.out) (by decide)) BK403.out (by decide)) (fun k_ hk => ⟨hk.2, hk.1.2⟩))) (fun _ h_ => h_))); (case aB => exact (by repeat (first | (with_reducible first | exact HB.out | apply below_alloc | apply pw_below_drewN | apply below_drew1 | refine below_set ?_ GE379.out | refine below_set ?_ GE403.out) | exact HB.out))); (case aF => exact (fun k_ hk => Kd.freshB (g := gb403) (o := .cells #[.int .i64 x5_1, .slice Ao82 x404001_3.length co82] 40 (0, 0)) (by (with_reducible repeat (first | refine blk_drewN ?_ _ | refine blk_drew ?_ | refine blk_alloc ?_ _)); exact BK403.out) k_ hk)); (case aO => exact (by (with_reducible repeat (first | apply Kd.S_alloc | apply Kd.S_drewN | apply Kd.S_drew)); exact Kd.S_mono HO_4.out (fun k_ hk => ⟨hk.2, fun e_ => hk.1 e_⟩))); (case aS => exact (below_size (by repeat (first | (with_reducible first | exact HB.out | apply below_alloc | apply pw_below_drewN | apply below_drew1 | refine below_set ?_ GE379.out | refine below_set ?_ GE403.out) | exact HB.out)))); (case aL => have := LMc78.out; omega); intro v409 w81 ho hb hg hat; rw [← Ny408.out] at ho; have n0_ := Aside0.mk (Kd.S_over' (by (with_reducible repeat (first | apply Kd.S_alloc | apply Kd.S_drewN | apply Kd.S_drew)); exact HO_3.out) (Kd.S_typed (by (with_reducible repeat (first | apply Kd.S_alloc | apply Kd.S_drewN | apply Kd.S_drew)); exact HO_4.out)) (by decide) hg); have n1_ := Aside0.mk (Kd.R_over' (by (with_reducible repeat (first | apply Kd.R_alloc | apply Kd.R_drewN | apply Kd.R_drew)); exact HO_6.out) (Kd.S_typed (by (with_reducible repeat (first | apply Kd.S_alloc | apply Kd.S_drewN | apply Kd.S_drew)); exact HO_4.out)) (by decide) hg); have n2_ := Aside0.mk (blk_grown (g := gb379) (o := .cells #[.int .i64 a0_0, .int .i64 a0_1, .slice A0_2 l0_2.length c0_2] 24 (0, 0)) (by (with_reducible repeat (first | refine blk_drewN ?_ _ | refine blk_drew ?_ | refine blk_alloc ?_ _)); exact BK379.out) hg (Kd.S_ne HO_4.out BK379.out (by decide))); have n3_ := Aside0.mk (blk_grown (g := gb403) (o := .cells #[.int .i64 x5_1, .slice Ao82 x404001_3.length co82] 40 (0, 0)) (by (with_reducible repeat (first | refine blk_drewN ?_ _ | refine blk_drew ?_ | refine blk_alloc ?_ _)); exact BK403.out) hg (Kd.S_away HO_4.out (fun _ hk => hk.2))); have n4_ := Aside0.mk (hb); have n5_ := Aside0.mk (ho); clear HO_3; clear HO_6; clear BK379; clear BK403; clear HB; clear HO_4; clear HO_404001; have HO_3 := n0_; have HO_6 := n1_; have BK379 := n2_; have BK403 := n3_; have HB := n4_; have HO410 := n5_; clear n0_ n1_ n2_ n3_ n4_ n5_; clear ho hb hg hat))
                (try simp only [← hl6_3])
                go_roundg k3
                case measure => have := HK1.out; have := HK2.out; have := HK3.out; omega
                case rel => exact ⟨(y408), (wrap64 (x5_1 + 1)), (by first | rfl | (simp; done) | (simp [*]; done)), H', ⟨by have := HK1.out; have := HK2.out; have := HK3.out; omega⟩, ⟨by (try simp only [hl6_3]); (with_reducible repeat (first | apply Kd.S_alloc | apply Kd.S_drewN | apply Kd.S_drew)); exact Kd.S_mono HO_3.out (fun _ hk => trivial)⟩, ⟨by (try simp only [hl6_3]); (with_reducible repeat (first | apply Kd.S_alloc | apply Kd.S_drewN | apply Kd.S_drew)); exact Kd.S_mono HO410.out (fun _ hk => trivial)⟩, ⟨by (try simp only [hl6_3]); (with_reducible repeat (first | refine blk_drewN ?_ _ | refine blk_drew ?_ | refine blk_alloc ?_ _)); exact BK379.out⟩, ⟨by repeat (first | (with_reducible first | exact HB.out | apply below_alloc | apply pw_below_drewN | apply below_drew1 | refine below_set ?_ GE379.out | refine below_set ?_ GE403.out) | exact HB.out)⟩⟩
               ·rw [if_neg c78] at H
                exact absurd H (by simp)
           ·rw [if_neg c60] at H
            exact absurd H (by simp)
          ·rw [if_neg c59] at H
           exact absurd H (by simp)
         ·replace c58 := Bool.eq_false_iff.mpr c58
          subst c58
          have H1 : (davitref09_All.l0 k2 t380 x4_1 (wrap64 (x5_1 + 1)) a0_0 a0_1 l0_2) = some r := by rw [if_neg (show ¬ (false = true) by decide)] at H; exact H
          clear H
          have H := H1
          clear H1
          have H' := Aside0.mk H
          clear H
          have hcz83_0 : wr.cell? ⟨gb379, 0, none⟩ = some (.int .i64 a0_0) := (blk_cell BK379.out 0).trans rfl
          have hcz83_1 : wr.cell? ⟨gb379, 1, none⟩ = some (.int .i64 a0_1) := (blk_cell BK379.out 1).trans rfl
          have hcz83_2 : wr.cell? ⟨gb379, 2, none⟩ = some (.slice A0_2 l0_2.length c0_2) := (blk_cell BK379.out 2).trans rfl
          have hfz83_0 := blk_frozen BK379.out 0
          have hfz83_1 := blk_frozen BK379.out 1
          have hfz83_2 := blk_frozen BK379.out 2
          go_wp2
          go_roundg k2
          case measure => have := HK1.out; have := HK2.out; omega
          case rel => exact ⟨(x4_1), (wrap64 (x5_1 + 1)), (by first | rfl | (simp; done) | (simp [*]; done)), H', ⟨by have := HK1.out; have := HK2.out; omega⟩, ⟨by (with_reducible repeat (first | apply Kd.S_alloc | apply Kd.S_drewN | apply Kd.S_drew)); exact Kd.S_mono HO_3.out (fun _ hk => trivial)⟩, ⟨by (with_reducible repeat (first | apply Kd.S_alloc | apply Kd.S_drewN | apply Kd.S_drew)); exact HO_4.out⟩, ⟨by (with_reducible repeat (first | refine blk_drewN ?_ _ | refine blk_drew ?_ | refine blk_alloc ?_ _)); exact BK379.out⟩, ⟨by repeat (first | (with_reducible first | exact HB.out | apply below_alloc | apply pw_below_drewN | apply below_drew1 | refine below_set ?_ GE379.out) | exact HB.out)⟩⟩
     ·rw [if_neg c8] at H
      exact absurd H (by simp)
    ·rw [if_neg c7] at H
     exact absurd H (by simp)
   ·rw [if_neg c6] at H
    have c6b0 : decide (x5_1 < (l0_2.length : Int)) = false := decide_eq_false c6
    clear c6
    obtain rfl := Option.some.inj H
    have hcz84_0 : wr.cell? ⟨gb379, 0, none⟩ = some (.int .i64 a0_0) := (blk_cell BK379.out 0).trans rfl
    have hcz84_1 : wr.cell? ⟨gb379, 1, none⟩ = some (.int .i64 a0_1) := (blk_cell BK379.out 1).trans rfl
    have hcz84_2 : wr.cell? ⟨gb379, 2, none⟩ = some (.slice A0_2 l0_2.length c0_2) := (blk_cell BK379.out 2).trans rfl
    have hfz84_0 := blk_frozen BK379.out 0
    have hfz84_1 := blk_frozen BK379.out 1
    have hfz84_2 := blk_frozen BK379.out 2
    go_wp2
    go_ret
    exact ⟨_, by first | rfl | (simp [errW_none, errW_some] <;> rfl) | (simp [*, errW_none, errW_some] <;> rfl), by (with_reducible repeat (first | apply Kd.S_alloc | apply Kd.S_drewN | apply Kd.S_drew)); exact HO_4.out, by repeat (first | (with_reducible first | exact HB.out | apply below_alloc | apply pw_below_drewN | apply below_drew1 | refine below_set ?_ GE379.out) | exact HB.out)⟩
end
end Go.Proofs.Ytilopoegoddggaa.X
namespace Go.Proofs.Ytilopoegoddggaa.X
open Go.RowKit Go.Proofs.YtilopoegoddggaaW.PrintWords Go.Proofs.YtilopoegoddggaaW.PrintLast Go.Proofs.YtilopoegoddggaaW.PrintMore
open Go.Proofs.Ytilopoegoddggaa.G
open Classical
set_option linter.all false
section
variable {bs : List S50} {no tg : Int} (a0 a1 : Int)
def ClU (bs : List S50) (no : Int) (s : List Bool) (i : Int) : Prop := ∀ j : Int, 0 ≤ j → j < i → j ≠ no → ∀ b ∈ nextL bs j, rdOf false s b = true → rdOf false s j = true
theorem comes_l2 (hl : bs.length ≤ 1000) (R : List Bool) (c0 : Nat) (i : Int) (hi : 0 ≤ i) (hi1 : i < bs.length) (hno : i ≠ no)
  (K : ∀ s more, Snd bs (Cm bs no tg) s → rdOf false s tg = true → (more = false → ClU bs no s (i + 1)) → s.count false ≤ c0 → (more = true → s.count false < c0) → Evt (fun k => davitref09_comes.l1 k no s more (i + 1) a0 a1 bs) R) :
  ∀ (d : Nat) (p : Int) (s : List Bool) (more : Bool), 0 ≤ p → p + d = (nextL bs i).length → Snd bs (Cm bs no tg) s → rdOf false s tg = true → 0 ≤ tg →
   (more = false → ClU bs no s i) → (more = false → rdOf false s i = false ∧ ∀ b ∈ (nextL bs i).take p.toNat, rdOf false s b = false) → s.count false ≤ c0 → (more = true → s.count false < c0) →
   Evt (fun k => davitref09_comes.l2 k no s more i (nextL bs i) p a0 a1 bs) R
 | 0, p, s, more, h0, h1, hs, hz, ht0, hc, ht, hn, hm => by
  refine Evt.succ ?_
  simp only [davitref09_comes.l2, if_neg (show ¬ p < ((nextL bs i).length : Int) by omega), wrap64_small (i + 1) (by omega) (by omega)]
  refine K s more hs hz (fun e j j0 j1 hj b hb hsb => ?_) hn hm
  by_cases e' : j = i
  ·subst e'
   have := (ht e).2 b (by rw [List.take_of_length_le (by omega)]; exact hb)
   rw [this] at hsb; cases hsb
  ·exact hc e j j0 (by omega) hj b hb hsb
 | d + 1, p, s, more, h0, h1, hs, hz, ht0, hc, ht, hn, hm => by
  have hlt : p < ((nextL bs i).length : Int) := by omega
  have h3 := next_len bs i
  have hw := wrap64_small (p + 1) (by omega) (by omega)
  have hlen := hs.len
  have hmem := rd_mem h0 hlt
  have hv := (next_edges bs _ _ hmem).2
  have htk : (nextL bs i).take (p + 1).toNat = (nextL bs i).take p.toNat ++ [rd (nextL bs i) p] := by
   rw [show (p + 1).toNat = p.toNat + 1 by omega]
   exact take_one _ _ 0 (by omega)
  refine Evt.succ ?_
  simp only [davitref09_comes.l2, if_pos hlt, if_pos h0, if_pos hv.1, if_pos (show rd (nextL bs i) p < (s.length : Int) by omega), if_pos hi, if_pos (show i < (s.length : Int) by omega), hw]
  cases hsb : rdOf false s (rd (nextL bs i) p) with
  | true =>
   simp only [if_pos]
   have hCi : Cm bs no tg i := .step (hs.snd _ hv.1 hv.2 hsb) hmem hno
   have hz' : rdOf false (s.set i.toNat true) tg = true := by
    rw [rdOf_set s i tg true hi (by omega) ht0]
    split
    ·rfl
    ·exact hz
   cases hsi : rdOf false s i with
   | true =>
    have hmt : more = true := by
     cases more with
     | true => rfl
     | false => rw [(ht rfl).1] at hsi; cases hsi
    have hset : s.set i.toNat true = s := by
     have hl' : i.toNat < s.length := by omega
     have : s[i.toNat] = true := by
      unfold rdOf at hsi
      rwa [List.getD_eq_getElem?_getD, List.getElem?_eq_getElem hl'] at hsi
     rw [← this]; simp
    rw [hset]
    exact comes_l2 hl R c0 i hi hi1 hno K d (p + 1) s true (by omega) (by omega) hs hz ht0 (by simp) (by simp) hn (fun _ => hm hmt)
   | false =>
    have hcn := count_unseen s i hi (by omega) hsi
    exact comes_l2 hl R c0 i hi hi1 hno K d (p + 1) _ true (by omega) (by omega) (hs.set hi hi1 hCi) hz' ht0 (by simp) (by simp) (by omega) (fun _ => by omega)
  | false =>
   simp only [if_neg Bool.false_ne_true]
   exact comes_l2 hl R c0 i hi hi1 hno K d (p + 1) s more (by omega) (by omega) hs hz ht0 hc (fun e => ⟨(ht e).1, fun b hb => by
    rw [htk] at hb
    rcases List.mem_append.1 hb with hb | hb
    ·exact (ht e).2 b hb
    ·rw [List.mem_singleton.1 hb]; exact hsb⟩) hn hm
theorem comes_l1 (hl : bs.length ≤ 1000) (ht0 : 0 ≤ tg) (R : List Bool) (c0 : Nat)
  (K : ∀ s more, Snd bs (Cm bs no tg) s → rdOf false s tg = true → (more = false → ClU bs no s bs.length) → (more = true → s.count false < c0) → Evt (fun k => davitref09_comes.l0 k no s more a0 a1 bs) R) :
  ∀ (d : Nat) (i : Int) (s : List Bool) (more : Bool), 0 ≤ i → i + d = bs.length → Snd bs (Cm bs no tg) s → rdOf false s tg = true →
   (more = false → ClU bs no s i) → s.count false ≤ c0 → (more = true → s.count false < c0) → Evt (fun k => davitref09_comes.l1 k no s more i a0 a1 bs) R
 | 0, i, s, more, h0, h1, hs, hz, hc, hn, hm => by
  have hlen := hs.len
  refine Evt.succ ?_
  simp only [davitref09_comes.l1, if_neg (show ¬ i < (s.length : Int) by omega)]
  exact K s more hs hz (fun e j j0 j1 => hc e j j0 (by omega)) hm
 | d + 1, i, s, more, h0, h1, hs, hz, hc, hn, hm => by
  have hlen := hs.len
  have skip : (rdOf false s i = true ∨ i = no) → Evt (fun k => davitref09_comes.j2 k no s more i true a0 a1 bs) R := fun hsk => by
   refine Evt.succ ?_
   simp only [davitref09_comes.j2, if_pos, wrap64_small (i + 1) (by omega) (by omega)]
   refine comes_l1 hl ht0 R c0 K d (i + 1) s more (by omega) (by omega) hs hz (fun e j j0 j1 hj b hb hsb => ?_) hn hm
   by_cases e' : j = i
   ·subst e'; exact hsk.resolve_right hj
   ·exact hc e j j0 (by omega) hj b hb hsb
  refine Evt.succ ?_
  simp only [davitref09_comes.l1, if_pos (show i < (s.length : Int) by omega), if_pos h0]
  cases hsi : rdOf false s i with
  | true =>
   simp only [if_pos]
   exact skip (.inl hsi)
  | false =>
   simp only [if_neg Bool.false_ne_true]
   by_cases e : i = no
   ·rw [show (i == no) = true by simp [e]]
    exact skip (.inr e)
   ·rw [show (i == no) = false by simp [e]]
    refine Evt.succ ?_
    simp only [davitref09_comes.j2, if_neg Bool.false_ne_true]
    refine Evt.bind (refnext_ev a0 a1 bs i) ?_
    exact comes_l2 a0 a1 hl R c0 i h0 (by omega) e (fun s' more' q1 q2 q3 q4 q5 => comes_l1 hl ht0 R c0 K d (i + 1) s' more' (by omega) (by omega) q1 q2 q3 q4 q5) _ 0 s more (by omega) (by rw [Int.zero_add]) hs hz ht0 hc (fun _ => ⟨hsi, by simp⟩) hn hm
theorem comes_l0 (hl : bs.length ≤ 1000) (ht0 : 0 ≤ tg) : ∀ (c : Nat) (s : List Bool), Snd bs (Cm bs no tg) s → rdOf false s tg = true → s.count false ≤ c → Evt (fun k => davitref09_comes.l0 k no s true a0 a1 bs) (lst (Cm bs no tg) bs.length) := by
 intro c
 induction c using Nat.strongRecOn with
 | ind c ih =>
  intro s hs hz hc
  refine Evt.succ ?_
  simp only [davitref09_comes.l0, if_pos]
  refine comes_l1 a0 a1 hl ht0 _ c (fun s' more' q1 q2 q3 q4 => ?_) bs.length 0 s false (by omega) (by omega) hs hz (fun _ j j0 j1 => by omega) hc (by simp)
  cases more' with
  | true => exact ih _ (q4 rfl) s' q1 q2 (Nat.le_refl _)
  | false =>
   refine Evt.succ ?_
   simp only [davitref09_comes.l0, if_neg Bool.false_ne_true]
   rw [show s' = lst (Cm bs no tg) bs.length from lst_eq q1.len fun i i0 i1 => ⟨q1.snd i i0 i1, fun h => ?_⟩]
   ·exact Evt.pure _
   ·induction h with
    | here _ => exact q2
    | step ha hb hne ihh =>
     have hv := next_edges bs _ _ hb
     exact q3 rfl _ hv.1.1 hv.1.2 hne _ hb (ihh hv.2.1 hv.2.2)
theorem comes_ev (hl : bs.length ≤ 1000) (tg no : Int) (hto : 0 ≤ tg ∧ tg < bs.length) : Evt (fun k => davitref09_comes.f k a0 a1 bs tg no) (lst (Cm bs no tg) bs.length) := by
 unfold davitref09_comes.f
 simp only [if_pos (show 0 ≤ (bs.length : Int) by omega), Int.toNat_natCast, if_pos (show bs.length ≤ 281474976710656 by omega), Option.bind_some, List.length_replicate]
 by_cases e : tg = no
 ·simp only [if_pos e]
  rw [show List.replicate bs.length false = lst (Cm bs no tg) bs.length from lst_eq (by simp) fun i i0 i1 => by
   rw [rep_rd]
   refine ⟨fun h => (by cases h), fun h => ?_⟩
   exfalso
   induction h with
   | here h => exact h e
   | step _ hs _ ih => have hv := (next_edges bs _ _ hs).2; exact ih hv.1 hv.2]
  exact Evt.pure _
 ·simp only [if_neg e, if_pos hto.1, if_pos hto.2]
  refine comes_l0 a0 a1 hl hto.1 _ _ (Snd.set ⟨by simp, fun i _ _ h => by rw [rep_rd] at h; cases h⟩ hto.1 hto.2 (.here e)) ?_ (Nat.le_refl _)
  rw [rdOf_set _ tg tg true hto.1 (by simp; omega) hto.1, if_pos rfl]
def Brings (bs : List S50) (h i k : Int) : Prop := DD bs h k ∧ ∃ n, n < i ∧ Back bs h n ∧ Cm bs h n k
structure InOk (bs : List S50) (s : List Bool) (P : Int → Prop) : Prop where
 len : s.length = bs.length
 eq : ∀ k : Int, 0 ≤ k → k < bs.length → (rdOf false s k = true ↔ P k)
theorem rall_l2 (hl : bs.length ≤ 1000) (R : List S40) (out : List S40) (h : Int) (hh : 0 ≤ h ∧ h < bs.length) (n : Int) (hn : 0 ≤ n ∧ n < bs.length) (hb : Back bs h n)
  (K : ∀ s, InOk bs s (Brings bs h (n + 1)) → Evt (fun k => davitref09_All.l1 k (allT bs) out h s true (n + 1) a0 a1 bs) R) :
  ∀ (d : Nat) (i : Int) (s : List Bool), 0 ≤ i → i + d = bs.length → InOk bs s (fun k => Brings bs h n k ∨ (k < i ∧ Cm bs h n k ∧ DD bs h k)) →
   Evt (fun k => davitref09_All.l2 k (allT bs) out h s true n (lst (Cm bs h n) bs.length) i a0 a1 bs) R
 | 0, i, s, h0, h1, hs => by
  have hlen := hs.len
  refine Evt.succ ?_
  simp only [davitref09_All.l2, if_neg (show ¬ i < (s.length : Int) by omega), wrap64_small (n + 1) (by omega) (by omega)]
  refine K s ⟨hs.len, fun k k0 k1 => (hs.eq k k0 k1).trans ?_⟩
  constructor
  ·rintro (⟨q1, m, q2, q3, q4⟩ | ⟨_, q1, q2⟩)
   ·exact ⟨q1, m, by omega, q3, q4⟩
   ·exact ⟨q2, n, by omega, hb, q1⟩
  ·rintro ⟨q1, m, q2, q3, q4⟩
   by_cases e : m = n
   ·exact .inr ⟨by omega, e ▸ q4, q1⟩
   ·exact .inl ⟨q1, m, by omega, q3, q4⟩
 | d + 1, i, s, h0, h1, hs => by
  have hlen := hs.len
  have hi : i < (bs.length : Int) := by omega
  have step : ∀ b : Bool, (b = true ↔ Brings bs h n i ∨ (Cm bs h n i ∧ DD bs h i)) → Evt (fun k => davitref09_All.l2 k (allT bs) out h (s.set i.toNat b) true n (lst (Cm bs h n) bs.length) (i + 1) a0 a1 bs) R := fun b hbb => by
   refine rall_l2 hl R out h hh n hn hb K d (i + 1) _ (by omega) (by omega) ⟨by rw [List.length_set]; exact hlen, fun k k0 k1 => ?_⟩
   rw [rdOf_set s i k b h0 (by omega) k0]
   by_cases e : k = i
   ·rw [if_pos e, e, hbb]
    exact or_congr_right ⟨fun q => ⟨by omega, q⟩, fun q => q.2⟩
   ·rw [if_neg e, hs.eq k k0 k1]
    exact or_congr_right ⟨fun q => ⟨by omega, q.2⟩, fun q => ⟨by omega, q.2⟩⟩
  have hcur := hs.eq i h0 hi
  refine Evt.succ ?_
  simp only [davitref09_All.l2, if_pos (show i < (s.length : Int) by omega), if_pos h0, lst_len, if_pos hi, lst_rd (Cm bs h n) h0 hi, if_pos hh.1, allT_len, if_pos hh.2, allT_rd bs hh.1 hh.2, lst_rd (DD bs h) h0 hi, wrap64_small (i + 1) (by omega) (by omega)]
  cases hsi : rdOf false s i with
  | true =>
   simp only [if_pos]
   refine step true ⟨fun _ => ?_, fun _ => rfl⟩
   rcases hcur.1 hsi with q | q
   ·exact .inl q
   ·exact .inr q.2
  | false =>
   have hnb : ¬ Brings bs h n i := fun q => by rw [hcur.2 (.inl q)] at hsi; cases hsi
   simp only [if_neg Bool.false_ne_true]
   by_cases hc : Cm bs h n i
   ·simp only [decide_eq_true hc, if_pos]
    refine step _ ?_
    by_cases hd : DD bs h i
    ·rw [decide_eq_true hd]; exact ⟨fun _ => .inr ⟨hc, hd⟩, fun _ => rfl⟩
    ·rw [decide_eq_false hd]; exact ⟨fun q => (by cases q), fun q => q.elim (fun q => absurd q hnb) (fun q => absurd q.2 hd)⟩
   ·simp only [decide_eq_false hc, if_neg Bool.false_ne_true]
    exact step false ⟨fun q => (by cases q), fun q => q.elim (fun q => absurd q hnb) (fun q => absurd q.1 hc)⟩
theorem rall_l3 (hl : bs.length ≤ 1000) (R : List S40) (out : List S40) (hout : out.length ≤ 1000) (h : Int) (hh : 0 ≤ h ∧ h < bs.length) (s : List Bool) (hs : InOk bs s (InL bs h))
  (K : Evt (fun k => davitref09_All.l0 k (allT bs) (out ++ [⟨h, loopB bs h⟩]) (h + 1) a0 a1 bs) R) :
  ∀ (d : Nat) (i : Int), 0 ≤ i → i + d = bs.length → Evt (fun k => davitref09_All.l3 k (allT bs) out h s i a0 a1 bs h ((upTo i.toNat).filter fun k => decide (InL bs h k))) R
 | 0, i, h0, h1 => by
  have hlen := hs.len
  refine Evt.succ ?_
  simp only [davitref09_All.l3, if_neg (show ¬ i < (s.length : Int) by omega), if_pos (show out.length < 4398046511104 by omega), wrap64_small (h + 1) (by omega) (by omega)]
  rw [show i.toNat = bs.length by omega]
  exact K
 | d + 1, i, h0, h1 => by
  have hlen := hs.len
  have hi : i < (bs.length : Int) := by omega
  have ih := rall_l3 hl R out hout h hh s hs K d (i + 1) (by omega) (by omega)
  rw [show (i + 1).toNat = i.toNat + 1 by omega, upTo_succ, List.filter_append, show ((i.toNat : Nat) : Int) = i by omega] at ih
  have hfl : ((upTo i.toNat).filter fun k => decide (InL bs h k)).length ≤ 1000 := Nat.le_trans (List.length_filter_le _ _) (by rw [upTo_len]; omega)
  refine Evt.succ ?_
  simp only [davitref09_All.l3, if_pos (show i < (s.length : Int) by omega), if_pos h0, wrap64_small (i + 1) (by omega) (by omega), if_pos (show ((upTo i.toNat).filter fun k => decide (InL bs h k)).length < 17592186044416 by omega)]
  have hcur := hs.eq i h0 hi
  cases hsi : rdOf false s i with
  | true =>
   simp only [if_pos]
   rw [List.filter_cons, if_pos (decide_eq_true (hcur.1 hsi))] at ih
   exact ih
  | false =>
   simp only [if_neg Bool.false_ne_true]
   rw [List.filter_cons, if_neg (by intro q; rw [hcur.2 (of_decide_eq_true q)] at hsi; cases hsi)] at ih
   simpa using ih
theorem rall_l1 (hl : bs.length ≤ 1000) (R : List S40) (out : List S40) (hout : out.length ≤ 1000) (h : Int) (hh : 0 ≤ h ∧ h < bs.length)
  (K : Evt (fun k => davitref09_All.l0 k (allT bs) (out ++ (if HasL bs h then [⟨h, loopB bs h⟩] else [])) (h + 1) a0 a1 bs) R) :
  ∀ (d : Nat) (n : Int) (s : List Bool) (found : Bool), 0 ≤ n → n + d = bs.length → InOk bs s (Brings bs h n) → (found = true ↔ ∃ m, m < n ∧ Back bs h m) →
   Evt (fun k => davitref09_All.l1 k (allT bs) out h s found n a0 a1 bs) R
 | 0, n, s, found, h0, h1, hs, hf => by
  have hlen := hs.len
  have hE : found = true ↔ HasL bs h := hf.trans ⟨fun ⟨m, _, q⟩ => ⟨m, q⟩, fun ⟨m, q⟩ => ⟨m, by have := (next_edges bs _ _ q.2).1; omega, q⟩⟩
  refine Evt.succ ?_
  simp only [davitref09_All.l1, if_neg (show ¬ n < (bs.length : Int) by omega), if_pos hh.1, hlen, if_pos hh.2, wrap64_small (h + 1) (by omega) (by omega)]
  by_cases hc : found = true
  ·have hL := hE.1 hc
   rw [if_pos hL] at K
   simp only [if_pos hc]
   refine rall_l3 a0 a1 hl R out hout h hh _ ⟨by rw [List.length_set]; exact hlen, fun k k0 k1 => ?_⟩ K bs.length 0 (by omega) (by omega)
   rw [rdOf_set s h k true hh.1 (by omega) k0]
   by_cases e : k = h
   ·rw [if_pos e]; exact ⟨fun _ => .inl e, fun _ => rfl⟩
   ·rw [if_neg e, hs.eq k k0 k1]
    constructor
    ·rintro ⟨q1, m, _, q2, q3⟩; exact .inr ⟨q1, m, q2, q3⟩
    ·rintro (q | ⟨q1, m, q2, q3⟩)
     ·exact absurd q e
     ·exact ⟨q1, m, by have := (next_edges bs _ _ q2.2).1; omega, q2, q3⟩
  ·rw [if_neg (fun q => hc (hE.2 q)), List.append_nil] at K
   simp only [if_neg hc]
   exact K
 | d + 1, n, s, found, h0, h1, hs, hf => by
  have hn : n < (bs.length : Int) := by omega
  have skip : ¬ Back bs h n → Evt (fun k => davitref09_All.j2 k (allT bs) out h s found n true a0 a1 bs) R := fun hb => by
   refine Evt.succ ?_
   simp only [davitref09_All.j2, if_pos, wrap64_small (n + 1) (by omega) (by omega)]
   refine rall_l1 hl R out hout h hh K d (n + 1) s found (by omega) (by omega) ⟨hs.len, fun k k0 k1 => (hs.eq k k0 k1).trans (and_congr_right fun _ => ⟨fun ⟨m, q, q'⟩ => ⟨m, by omega, q'⟩, fun ⟨m, q, q'⟩ => ⟨m, ?_, q'⟩⟩)⟩ (hf.trans ⟨fun ⟨m, q, q'⟩ => ⟨m, by omega, q'⟩, fun ⟨m, q, q'⟩ => ⟨m, ?_, q'⟩⟩)
   ·have : m ≠ n := fun e => hb (e ▸ q'.1)
    omega
   ·have : m ≠ n := fun e => hb (e ▸ q')
    omega
  refine Evt.succ ?_
  simp only [davitref09_All.l1, if_pos hn, if_pos hh.1, allT_len, if_pos hh.2, if_pos h0, allT_rd bs hh.1 hh.2, lst_len, lst_rd (DD bs h) h0 hn]
  by_cases hd : DD bs h n
  ·simp only [decide_eq_true hd, if_pos]
   refine Evt.bind (refnext_ev a0 a1 bs n) (Evt.bind (has_ev _ _ (by have := next_len bs n; omega)) ?_)
   by_cases hm : h ∈ nextL bs n
   ·simp only [decide_eq_true hm, Bool.not_true]
    refine Evt.succ ?_
    simp only [davitref09_All.j2, if_neg Bool.false_ne_true]
    refine Evt.bind (comes_ev a0 a1 hl n h ⟨h0, hn⟩) ?_
    refine rall_l2 a0 a1 hl R out h hh n ⟨h0, hn⟩ ⟨hd, hm⟩ (fun s' q => rall_l1 hl R out hout h hh K d (n + 1) s' true (by omega) (by omega) q ⟨fun _ => ⟨n, by omega, hd, hm⟩, fun _ => rfl⟩) bs.length 0 s (by omega) (by omega) ⟨hs.len, fun k k0 k1 => (hs.eq k k0 k1).trans ⟨.inl, fun q => q.resolve_right fun q => by omega⟩⟩
   ·simp only [decide_eq_false hm, Bool.not_false]
    exact skip fun q => hm q.2
  ·simp only [decide_eq_false hd, if_neg Bool.false_ne_true]
   exact skip fun q => hd q.1
theorem rall_l0 (hl : bs.length ≤ 1000) : ∀ (d : Nat) (h : Int), 0 ≤ h → h + d = bs.length → Evt (fun k => davitref09_All.l0 k (allT bs) (loopsL bs h.toNat) h a0 a1 bs) (loopsL bs bs.length)
 | 0, h, h0, h1 => by
  refine Evt.succ ?_
  simp only [davitref09_All.l0, if_neg (show ¬ h < (bs.length : Int) by omega)]
  rw [show h.toNat = bs.length by omega]
  exact Evt.pure _
 | d + 1, h, h0, h1 => by
  have hh : h < (bs.length : Int) := by omega
  have ih := rall_l0 hl d (h + 1) (by omega) (by omega)
  rw [show (h + 1).toNat = h.toNat + 1 by omega, loopsL_succ, show ((h.toNat : Nat) : Int) = h by omega] at ih
  refine Evt.succ ?_
  simp only [davitref09_All.l0, if_pos hh, if_pos (show 0 ≤ (bs.length : Int) by omega), Int.toNat_natCast, if_pos (show bs.length ≤ 281474976710656 by omega)]
  exact rall_l1 a0 a1 hl _ _ (by have := loopsL_len (bs := bs) h.toNat; omega) h ⟨h0, hh⟩ ih bs.length 0 _ false (by omega) (by omega) ⟨by simp, fun k k0 k1 => by
   rw [rep_rd]
   exact ⟨fun q => (by cases q), fun ⟨_, m, q, q', _⟩ => by have := (next_edges bs _ _ q'.2).1; omega⟩⟩ ⟨fun q => (by cases q), fun ⟨m, q, q'⟩ => by have := (next_edges bs _ _ q'.2).1; omega⟩
theorem refloops_ev (hl : bs.length ≤ 1000) : Evt (fun k => davitref09_All.f k a0 a1 bs) (loopsL bs bs.length) := by
 unfold davitref09_All.f
 exact Evt.bind (refall_ev a0 a1 hl) (rall_l0 a0 a1 hl bs.length 0 (by omega) (by omega))
end
end Go.Proofs.Ytilopoegoddggaa.X
namespace Go.Proofs.Ytilopoegoddggaa.X
open Go.RowKit Go.Proofs.YtilopoegoddggaaW.PrintWords Go.Proofs.YtilopoegoddggaaW.PrintLast Go.Proofs.YtilopoegoddggaaW.PrintMore
open Go.Proofs.Ytilopoegoddggaa.G
open Classical
set_option linter.all false
def wake9 : List S50 := [(⟨false, (⟨0, ([] : List Int), false, false⟩ : S47), ([] : List (S117)), (⟨2, 0, 0, 0, ([] : List Int), 1, 0, 0⟩ : S44)⟩ : S50), (⟨false, (⟨0, ([] : List Int), false, false⟩ : S47), ([] : List (S117)), (⟨3, 0, 0, 0, ([] : List Int), 1, 2, 0⟩ : S44)⟩ : S50), (⟨false, (⟨0, ([] : List Int), false, false⟩ : S47), ([] : List (S117)), (⟨1, 0, 0, 0, ([] : List Int), 0, 0, 0⟩ : S44)⟩ : S50)]
set_option maxRecDepth 100000 in
theorem wake_loops : davitref09_All.f 200 0 1 wake9 = some [⟨1, [1]⟩] := by kernel_rfl
theorem awake09 : Evt (fun k => davitlaw09_awake.f k) true := by
 have hl : wake9.length ≤ 100 := by decide
 have hL := Evt.at (refloops_ev (bs := wake9) 0 1 (by decide)) (davitref09_All.mono _ _ _) wake_loops
 have hA := all_ev (bs := wake9) 0 1 hl
 have hD1 := deep_ev (bs := wake9) 0 1 hl 1
 have hD2 := deep_ev (bs := wake9) 0 1 hl 2
 rw [hL] at hA hD1 hD2
 rw [show deepL 1 [(⟨1, [1]⟩ : S40)] = 1 by simp [deepL]] at hD1
 rw [show deepL 2 [(⟨1, [1]⟩ : S40)] = 0 by simp [deepL]] at hD2
 unfold davitlaw09_awake.f
 simp only [Option.bind_some]
 change Evt (fun k => (loop_All.f k 0 1 wake9).bind fun t356 => (if (t356.length : Int) = 1 then (if 0 < (t356.length : Int) then (if ((rd_T40 t356 0).f0) = 1 then ((davitref02_Ints.f k ((rd_T40 t356 0).f1) (([1] : List Int))).bind fun t364 => (if t364 = true then ((loop_Deep.f k 0 1 wake9 1).bind fun t365 => (if t365 = 1 then ((loop_Deep.f k 0 1 wake9 2).bind fun t366 => (some (t366 == 0))) else (some false))) else (some false))) else (some false)) else (none)) else (some false))) true
 refine Evt.bind hA ?_
 have e0 : rd_T40 [(⟨1, [1]⟩ : S40)] 0 = ⟨1, [1]⟩ := rfl
 simp only [List.length_cons, List.length_nil, e0, if_pos (show ((0 + 1 : Nat) : Int) = 1 by simp), if_pos (show (0 : Int) < ((0 + 1 : Nat) : Int) by simp), if_pos]
 refine Evt.bind (ints_ev _ _ (by simp)) ?_
 simp only [decide_true, if_pos]
 refine Evt.bind hD1 ?_
 simp only [if_pos (show ((1 : Nat) : Int) = 1 by rfl)]
 refine Evt.bind hD2 ?_
 exact Evt.pure _
section
variable {bs : List S50} (a0 a1 : Int)
end
section
variable {bs : List S50}
theorem InL.dom {h k : Int} (hh : RR bs h) (hk : InL bs h k) : DD bs h k := by
 rcases hk with rfl | hk
 ·exact Dom.refl (next_edges bs) hh
 ·exact hk.1
theorem HasL.rch {r : List Int} {place o : Int → Int} (H : OverOk bs r place o) {h : Int} (hh : HasL bs h) : RR bs h := by
 obtain ⟨n, hd, _⟩ := hh
 exact (H.tree.anc ((H.anc _ _ hd.1).2 hd) hd.1 (H.done _ hd.1)).1
end
end Go.Proofs.Ytilopoegoddggaa.X
namespace Go.Proofs.Ytilopoegoddggaa.X
open Go.RowKit Go.Proofs.YtilopoegoddggaaW.PrintWords Go.Proofs.YtilopoegoddggaaW.PrintLast Go.Proofs.YtilopoegoddggaaW.PrintMore
open Go.Proofs.Ytilopoegoddggaa.G
open Classical
set_option linter.all false
structure Leads (bs : List S50) (n : Nat) (f : Int → List Int) : Prop where
 len : bs.length = n + 1
 at_ : ∀ i : Int, 0 ≤ i → i ≤ n → nextL bs i = f i
section
variable {bs : List S50} {n : Nat}
theorem chain_reach {f : Int → List Int} (L : Leads bs n f) (hup : ∀ i : Int, 0 ≤ i → i < n → i + 1 ∈ f i) (no : Int) : ∀ j : Nat, j ≤ n → ((j : Int) < no ∨ no < 0) → RW bs no j
 | 0, _, h => .zero (by have := L.len; omega) (by omega)
 | j + 1, hj, h => by
  have ih := chain_reach L hup no j (by omega) (by omega)
  refine .step ih ?_ (by omega)
  rw [L.at_ j (by omega) (by omega)]
  have := hup j (by omega) (by omega)
  simpa using this
theorem chain_low {f : Int → List Int} (L : Leads bs n f) (h : Int) (hle : ∀ i : Int, 0 ≤ i → i ≤ n → i < h → ∀ b ∈ f i, b ≤ i + 1) {y : Int} (hy : RW bs h y) (h0 : 0 ≤ h) : y < h := by
 induction hy with
 | zero _ hne => omega
 | step ha hs hne ih =>
  rename_i a b
  have hv := (next_edges bs _ _ hs).1
  have hl := L.len
  rw [L.at_ a (by omega) (by omega)] at hs
  have := hle a (by omega) (by omega) ih b hs
  omega
theorem no_back {f : Int → List Int} (L : Leads bs n f) (hup : ∀ i : Int, 0 ≤ i → i < n → i + 1 ∈ f i) {h m : Int} (hb : Back bs h m) : h ≤ m := by
 obtain ⟨hd, hs⟩ := hb
 have hv := (next_edges bs _ _ hs).1
 have hl := L.len
 by_cases e : h ≤ m
 ·exact e
 ·have := chain_reach L hup h m.toNat (by omega) (by omega)
  rw [show ((m.toNat : Nat) : Int) = m by omega] at this
  rcases hd.2.2 with q | q
  ·omega
  ·exact absurd this q
theorem none_loops (L : Leads bs n (fun i => if i < n then [i + 1] else [])) : loopsL bs bs.length = [] := by
 unfold loopsL
 rw [List.map_eq_nil_iff]
 refine List.filter_eq_nil_iff.2 fun h hm hh => ?_
 obtain ⟨m, hb⟩ := of_decide_eq_true hh
 have h1 := no_back L (fun i i0 i1 => by simp [i1]) hb
 have hs := hb.2
 have hv := (next_edges bs _ _ hs).1
 have hl := L.len
 rw [L.at_ m (by omega) (by omega)] at hs
 split at hs
 ·have := List.mem_singleton.1 hs; omega
 ·simp at hs
def backF (n : Nat) (h : Int) (i : Int) : List Int := if i < n - 1 then [i + 1] else if i = n - 1 then [h, n] else []
theorem back_up (h : Int) (i : Int) (i0 : 0 ≤ i) (i1 : i < n) : i + 1 ∈ backF n h i := by
 unfold backF
 by_cases e : i < n - 1
 ·rw [if_pos e]; simp
 ·rw [if_neg e, if_pos (by omega)]; simp; omega
theorem one_in {h : Int} (L : Leads bs n (backF n h)) (hh : 0 ≤ h ∧ h < n) (k : Int) (hk : 0 ≤ k ∧ k ≤ n) : InL bs h k ↔ h ≤ k ∧ k < n := by
 have hl := L.len
 have reach : ∀ m : Int, 0 ≤ m → m ≤ n → RR bs m := fun m a b => by
  have := chain_reach L (back_up h) (-1) m.toNat (by omega) (by omega)
  rwa [show ((m.toNat : Nat) : Int) = m by omega] at this
 have low : ∀ y, RW bs h y → y < h := fun y hy => chain_low L h (fun i i0 i1 i2 b hb => by
  unfold backF at hb
  rw [if_pos (by omega)] at hb
  have := List.mem_singleton.1 hb; omega) hy hh.1
 have dom : ∀ m : Int, h ≤ m → m ≤ n → DD bs h m := fun m a b => ⟨reach m (by omega) b, by omega, .inr fun q => by have := low m q; omega⟩
 have hback : Back bs h (n - 1) := ⟨dom _ (by omega) (by omega), by
  rw [L.at_ _ (by omega) (by omega)]; unfold backF; rw [if_neg (by omega), if_pos rfl]; simp⟩
 constructor
 ·rintro (rfl | ⟨hd, m, hb, hc⟩)
  ·omega
  ·have h1 : h ≤ k := by
    by_cases e : h ≤ k
    ·exact e
    ·have := chain_reach L (back_up h) h k.toNat (by omega) (by omega)
     rw [show ((k.toNat : Nat) : Int) = k by omega] at this
     rcases hd.2.2 with q | q
     ·omega
     ·exact absurd this q
   refine ⟨h1, ?_⟩
   have hm : m < n := by
    have hs := hb.2
    have hv := (next_edges bs _ _ hs).1
    rw [L.at_ m (by omega) (by omega)] at hs
    unfold backF at hs
    by_cases e : m < n - 1
    ·omega
    ·rw [if_neg e] at hs
     by_cases e2 : m = n - 1
     ·omega
     ·rw [if_neg e2] at hs; simp at hs
   cases hc with
   | here _ => exact hm
   | step _ hs _ =>
    have hv := (next_edges bs _ _ hs).1
    rw [L.at_ k hk.1 hk.2] at hs
    unfold backF at hs
    by_cases e : k < n - 1
    ·omega
    ·rw [if_neg e] at hs
     by_cases e2 : k = n - 1
     ·omega
     ·rw [if_neg e2] at hs; simp at hs
 ·rintro ⟨h1, h2⟩
  by_cases e : k = h
  ·exact .inl e
  refine .inr ⟨dom k h1 (by omega), n - 1, hback, ?_⟩
  have key : ∀ j : Nat, h < (n : Int) - 1 - j → Cm bs h (n - 1) ((n : Int) - 1 - j) := by
   intro j
   induction j with
   | zero => intro q; simpa using Cm.here (by omega)
   | succ j ih =>
    intro q
    refine .step (ih (by omega)) ?_ (by omega)
    rw [L.at_ _ (by omega) (by omega)]
    unfold backF
    rw [if_pos (by omega)]
    rw [List.mem_singleton]; omega
  have := key ((n : Int) - 1 - k).toNat (by omega)
  rwa [show (n : Int) - 1 - (((n : Int) - 1 - k).toNat : Nat) = k by omega] at this
theorem one_loops {h : Int} (L : Leads bs n (backF n h)) (hh : 0 ≤ h ∧ h < n) : loopsL bs bs.length = [⟨h, (upTo n).filter fun k => decide (h ≤ k)⟩] := by
 have hl := L.len
 have hB : loopB bs h = (upTo n).filter fun k => decide (h ≤ k) := by
  unfold loopB
  rw [hl, upTo_succ, List.filter_append]
  rw [show List.filter (fun k => decide (InL bs h k)) [(n : Int)] = [] by
   rw [List.filter_cons, if_neg (by
    intro q
    have := (one_in L hh n (by omega)).1 (of_decide_eq_true q)
    omega), List.filter_nil], List.append_nil]
  refine List.filter_congr fun k hk => decide_eq_decide.2 ?_
  have hv := mem_upTo.1 hk
  rw [one_in L hh k (by omega)]
  exact ⟨fun q => q.1, fun q => ⟨q, hv.2⟩⟩
 have only : ∀ x : Int, HasL bs x → x = h := by
  rintro x ⟨m, hb⟩
  have h1 := no_back L (back_up h) hb
  have hs := hb.2
  have hv := (next_edges bs _ _ hs).1
  rw [L.at_ m (by omega) (by omega)] at hs
  unfold backF at hs
  by_cases e : m < n - 1
  ·rw [if_pos e] at hs; have := List.mem_singleton.1 hs; omega
  ·rw [if_neg e] at hs
   by_cases e2 : m = n - 1
   ·rw [if_pos e2] at hs
    rcases List.mem_cons.1 hs with q | q
    ·exact q
    ·have := List.mem_singleton.1 q; omega
   ·rw [if_neg e2] at hs; simp at hs
 have has : HasL bs h := by
  refine ⟨n - 1, ?_, by rw [L.at_ _ (by omega) (by omega)]; unfold backF; rw [if_neg (by omega), if_pos rfl]; simp⟩
  have q := (one_in L hh (n - 1) (by omega)).2 (by omega)
  rcases q with q | q
  ·rw [← q]
   have hr := chain_reach L (back_up h) (-1) (n - 1) (by omega) (by omega)
   rw [show ((n - 1 : Nat) : Int) = (n : Int) - 1 by omega] at hr
   exact Dom.refl (next_edges bs) hr
  ·exact q.1
 unfold loopsL
 rw [show (upTo bs.length).filter (fun x => decide (HasL bs x)) = [h] from strict_ext _ _ ((upTo_strict _).filter _) (by simp) fun x => by
  rw [List.mem_filter, mem_upTo, decide_eq_true_eq, List.mem_singleton]
  exact ⟨fun q => only x q.2, fun q => ⟨by omega, q ▸ has⟩⟩]
 rw [List.map_cons, List.map_nil, hB]
end
end Go.Proofs.Ytilopoegoddggaa.X
namespace Go.Proofs.Ytilopoegoddggaa.X
open Go.RowKit Go.Proofs.YtilopoegoddggaaW.PrintWords Go.Proofs.YtilopoegoddggaaW.PrintLast Go.Proofs.YtilopoegoddggaaW.PrintMore
open Go.Proofs.Ytilopoegoddggaa.G
open Classical
set_option linter.all false
def blkJ (t : Int) : S50 := ⟨false, ⟨0, [], false, false⟩, [], ⟨2, 0, 0, 0, [], t, 0, 0⟩⟩
def blkR : S50 := ⟨false, ⟨0, [], false, false⟩, [], ⟨1, 0, 0, 0, [], 0, 0, 0⟩⟩
def jumps (n : Nat) : List S50 := (List.range n).map fun (i : Nat) => blkJ ((i : Int) + 1)
theorem jumps_succ (n : Nat) : jumps (n + 1) = jumps n ++ [blkJ ((n : Int) + 1)] := by simp [jumps, List.range_succ]
theorem jumps_len (n : Nat) : (jumps n).length = n := by simp [jumps]
theorem rd50_set (y : List S50) (i j : Int) (b : S50) (h0 : 0 ≤ i) (h1 : i < (y.length : Int)) (h2 : 0 ≤ j) : rd_T50 (y.set i.toNat b) j = if j = i then b else rd_T50 y j := by
 unfold rd_T50
 rw [List.getD_eq_getElem?_getD, List.getD_eq_getElem?_getD, List.getElem?_set]
 by_cases e : j = i
 ·subst e; rw [if_pos rfl, if_pos rfl, if_pos (by omega)]; rfl
 ·rw [if_neg (by omega), if_neg e]
theorem rd_chain (n : Nat) (i : Int) (h0 : 0 ≤ i) (h1 : i < n) : rd_T50 (jumps n ++ [blkR]) i = blkJ (i + 1) := by
 unfold rd_T50 jumps
 rw [List.getD_eq_getElem?_getD, List.getElem?_append_left (by simp; omega), List.getElem?_map, List.getElem?_range (by omega)]
 simp only [Option.map_some, Option.getD_some]
 rw [show ((i.toNat : Nat) : Int) = i by omega]
theorem rd_last (n : Nat) : rd_T50 (jumps n ++ [blkR]) n = blkR := by
 unfold rd_T50
 rw [List.getD_eq_getElem?_getD, List.getElem?_append_right (by rw [jumps_len]; omega), jumps_len]
 simp
theorem next_of {bs : List S50} {i : Int} (h0 : 0 ≤ i) (h1 : i < bs.length) : nextL bs i = (allL (rd_T50 bs i)).filter fun k => isB bs.length k := by
 unfold nextL
 rw [if_pos ((isB_iff _ _).2 ⟨h0, h1⟩)]
theorem leads1 (n : Nat) : Leads (jumps n ++ [blkR]) n (fun i => if i < n then [i + 1] else []) := by
 have hl : (jumps n ++ [blkR]).length = n + 1 := by simp [jumps_len]
 refine ⟨hl, fun i h0 h1 => ?_⟩
 rw [next_of h0 (by omega), hl]
 by_cases e : i < n
 ·rw [if_pos e, rd_chain n i h0 e]
  have hb : isB (n + 1) (i + 1) = true := (isB_iff _ _).2 ⟨by omega, by omega⟩
  simp [allL, goalsL, blkJ, hb]
 ·rw [if_neg e, show i = (n : Int) by omega, rd_last]
  simp [allL, goalsL, blkR]
theorem leads2 (n : Nat) (hn : 0 < n) (h : Int) (hh : 0 ≤ h ∧ h < n) (b : S50) (hb : b.f3 = ⟨3, 0, 0, 0, [], h, n, 0⟩) : Leads ((jumps n ++ [blkR]).set ((n : Int) - 1).toNat b) n (backF n h) := by
 have hl : (jumps n ++ [blkR]).length = n + 1 := by simp [jumps_len]
 refine ⟨by rw [List.length_set]; exact hl, fun i h0 h1 => ?_⟩
 rw [next_of h0 (by rw [List.length_set]; omega), List.length_set, hl, rd50_set _ _ i b (by omega) (by omega) h0]
 unfold backF
 by_cases e : i < (n : Int) - 1
 ·rw [if_pos e, if_neg (by omega), rd_chain n i h0 (by omega)]
  have hb : isB (n + 1) (i + 1) = true := (isB_iff _ _).2 ⟨by omega, by omega⟩
  simp [allL, goalsL, blkJ, hb]
 ·rw [if_neg e]
  by_cases e2 : i = (n : Int) - 1
  ·rw [if_pos e2, if_pos e2]
   have hb1 : isB (n + 1) h = true := (isB_iff _ _).2 ⟨by omega, by omega⟩
   have hb2 : isB (n + 1) n = true := (isB_iff _ _).2 ⟨by omega, by omega⟩
   simp [allL, goalsL, hb, hb1, hb2]
  ·rw [if_neg e2, if_neg e2, show i = (n : Int) by omega, rd_last]
   simp [allL, goalsL, blkR]
theorem from_len (h : Nat) : ∀ n : Nat, h ≤ n → ((upTo n).filter fun k => decide ((h : Int) ≤ k)).length = n - h := by
 intro n
 induction n with
 | zero => intro hle; simp [upTo]
 | succ n ih =>
  intro hle
  rw [upTo_succ, List.filter_append, List.length_append]
  by_cases e : h = n + 1
  ·subst e
   have : (upTo n).filter (fun k => decide (((n + 1 : Nat) : Int) ≤ k)) = [] := List.filter_eq_nil_iff.2 fun k hk q => by
    have := mem_upTo.1 hk
    have := of_decide_eq_true q
    omega
   rw [this]
   simp; omega
  ·rw [ih (by omega), List.filter_cons, if_pos (decide_eq_true (by omega))]
   simp; omega
section
variable {n : Nat} {h : Int}
theorem none_l1 (hn : n ≤ 11) (hh : 0 ≤ h ∧ h < n) {bs : List S50} (L : Leads bs n (backF n h)) : ∀ (d : Nat) (i : Int), 0 ≤ i → i + d = n + 1 → Evt (fun k => davitlaw09_LoopNone.l1 k n h i 0 1 bs) true
 | 0, i, h0, h1 => by
  refine Evt.succ ?_
  simp only [davitlaw09_LoopNone.l1, if_neg (show ¬ i ≤ (n : Int) by omega)]
  exact Evt.pure _
 | d + 1, i, h0, h1 => by
  have hl := L.len
  have ih := none_l1 hn hh L d (i + 1) (by omega) (by omega)
  have hD := deep_ev (bs := bs) 0 1 (by omega) i
  rw [one_loops L hh] at hD
  have hw := wrap64_small (i + 1) (by omega) (by omega)
  have hmem : i ∈ (upTo n).filter (fun k => decide (h ≤ k)) ↔ h ≤ i ∧ i < n := by
   rw [List.mem_filter, mem_upTo, decide_eq_true_eq]
   omega
  have yes : h ≤ i → i < n → deepL i [(⟨h, (upTo n).filter fun k => decide (h ≤ k)⟩ : S40)] = 1 := fun a b => by
   unfold deepL
   rw [List.filter_cons, if_pos (decide_eq_true (hmem.2 ⟨a, b⟩))]
   simp
  have no : ¬ (h ≤ i ∧ i < n) → deepL i [(⟨h, (upTo n).filter fun k => decide (h ≤ k)⟩ : S40)] = 0 := fun a => by
   unfold deepL
   rw [List.filter_cons, if_neg (fun q => a (hmem.1 (of_decide_eq_true q)))]
   simp
  refine Evt.succ ?_
  by_cases e : i ≥ h
  ·by_cases e2 : i < n
   ·simp only [davitlaw09_LoopNone.l1, if_pos (show i ≤ (n : Int) by omega), if_pos e, decide_eq_true e2]
    refine Evt.succ ?_
    simp only [davitlaw09_LoopNone.j3, if_pos, hw]
    refine Evt.bind hD ?_
    rw [yes (by omega) e2]
    simp only [if_pos (show ((1 : Nat) : Int) = 1 from rfl)]
    exact ih
   ·simp only [davitlaw09_LoopNone.l1, if_pos (show i ≤ (n : Int) by omega), if_pos e, decide_eq_false e2]
    refine Evt.succ ?_
    simp only [davitlaw09_LoopNone.j3, if_neg Bool.false_ne_true, hw]
    refine Evt.bind hD ?_
    rw [no (by omega)]
    simp only [if_pos (show ((0 : Nat) : Int) = 0 from rfl)]
    exact ih
  ·simp only [davitlaw09_LoopNone.l1, if_pos (show i ≤ (n : Int) by omega), if_neg e]
   refine Evt.succ ?_
   simp only [davitlaw09_LoopNone.j3, if_neg Bool.false_ne_true, hw]
   refine Evt.bind hD ?_
   rw [no (by omega)]
   simp only [if_pos (show ((0 : Nat) : Int) = 0 from rfl)]
   exact ih
theorem none_l0 (a1 : Int) (hn : n ≤ 11) (hn0 : 0 < n) (he : Int.tmod (wrap64 a1) n = h) (hh : 0 ≤ h ∧ h < n) : ∀ (d : Nat) (i : Int), 0 ≤ i → i + d = n → Evt (fun k => davitlaw09_LoopNone.l0 k a1 n i 0 1 (jumps i.toNat)) true
 | 0, i, h0, h1 => by
  have L1 := leads1 n
  have hl1 := L1.len
  refine Evt.succ ?_
  simp only [davitlaw09_LoopNone.l0, if_neg (show ¬ i < (n : Int) by omega), jumps_len, if_pos (show i.toNat < 925904528653 by omega), Option.bind_some]
  rw [show i.toNat = n by omega]
  simp only [show (⟨false, ⟨0, [], false, false⟩, [], ⟨1, 0, 0, 0, [], 0, 0, 0⟩⟩ : S50) = blkR from rfl]
  refine Evt.bind (all_ev 0 1 (by omega)) ?_
  rw [none_loops L1]
  simp only [List.length_nil, if_pos (show ((0 : Nat) : Int) = 0 from rfl), if_neg (show ¬ (n : Int) = 0 by omega), wrap64_small ((n : Int) - 1) (by omega) (by omega), if_pos (show 0 ≤ (n : Int) - 1 by omega)]
  simp only [hl1, if_pos (show (n : Int) - 1 < ((n + 1 : Nat) : Int) by omega), he]
  have L2 := leads2 n hn0 h hh ⟨(rd_T50 (jumps n ++ [blkR]) ((n : Int) - 1)).f0, ⟨(rd_T50 (jumps n ++ [blkR]) ((n : Int) - 1)).f1.f0, (rd_T50 (jumps n ++ [blkR]) ((n : Int) - 1)).f1.f1, (rd_T50 (jumps n ++ [blkR]) ((n : Int) - 1)).f1.f2, (rd_T50 (jumps n ++ [blkR]) ((n : Int) - 1)).f1.f3⟩, (rd_T50 (jumps n ++ [blkR]) ((n : Int) - 1)).f2, ⟨3, 0, 0, 0, [], h, n, 0⟩⟩ rfl
  have hl2 := L2.len
  refine Evt.bind (all_ev 0 1 (by omega)) ?_
  rw [one_loops L2 hh]
  have e0 : rd_T40 [(⟨h, (upTo n).filter fun k => decide (h ≤ k)⟩ : S40)] 0 = ⟨h, (upTo n).filter fun k => decide (h ≤ k)⟩ := rfl
  have hlen : (((upTo n).filter fun k => decide (h ≤ k)).length : Int) = (n : Int) - h := by
   have := from_len h.toNat n (by omega)
   rw [show ((h.toNat : Nat) : Int) = h by omega] at this
   omega
  simp only [List.length_cons, List.length_nil, e0, if_pos (show ((0 + 1 : Nat) : Int) = 1 by simp), if_pos (show (0 : Int) < ((0 + 1 : Nat) : Int) by simp), if_pos, hlen, wrap64_small ((n : Int) - h) (by omega) (by omega), bne_self_eq_false]
  refine Evt.succ ?_
  simp only [davitlaw09_LoopNone.j1, if_neg Bool.false_ne_true]
  exact none_l1 hn hh L2 (n + 1) 0 (by omega) (by omega)
 | d + 1, i, h0, h1 => by
  have ih := none_l0 a1 hn hn0 he hh d (i + 1) (by omega) (by omega)
  rw [show (i + 1).toNat = i.toNat + 1 by omega, jumps_succ, show ((i.toNat : Nat) : Int) = i by omega] at ih
  refine Evt.succ ?_
  simp only [davitlaw09_LoopNone.l0, if_pos (show i < (n : Int) by omega), jumps_len, if_pos (show i.toNat < 925904528653 by omega), wrap64_small (i + 1) (by omega) (by omega)]
  exact ih
end
theorem u8_range {a : Int} (h : (Lit.int .u8 a).wf = true) : 0 ≤ a ∧ a ≤ 255 := by
 simp [Lit.wf, IntKind.min, IntKind.max, IntKind.signed, IntKind.bits] at h
 omega
theorem loopNone_pure : davitlaw09_LoopNone.Pure := by
 intro a0 a1 w0 w1
 have r0 := u8_range w0
 have r1 := u8_range w1
 refine Evt.ex (g := fun k => davitlaw09_LoopNone.f k a0 a1) ?_
 unfold davitlaw09_LoopNone.f
 refine Evt.bind awake09 ?_
 simp only [if_pos]
 have t0 : Int.tmod a0 10 = a0 % 10 := Int.tmod_eq_emod_of_nonneg r0.1
 obtain ⟨n, hn⟩ : ∃ n : Nat, (n : Int) = a0 % 10 + 2 := ⟨(a0 % 10 + 2).toNat, by omega⟩
 rw [t0, wrap64_small (a0 % 10) (by omega) (by omega), ← hn, wrap64_small (n : Int) (by omega) (by omega)]
 have t1 : Int.tmod (wrap64 a1) n = a1 % n := by rw [wrap64_small a1 (by omega) (by omega)]; exact Int.tmod_eq_emod_of_nonneg r1.1
 exact none_l0 (h := a1 % n) a1 (by omega) (by omega) t1 ⟨Int.emod_nonneg _ (by omega), Int.emod_lt_of_pos _ (by omega)⟩ n 0 (by omega) (by omega)
end Go.Proofs.Ytilopoegoddggaa.X
namespace Go.Proofs.Ytilopoegoddggaa.Pure
open Go.RowKit Go.Proofs.Ytilopoegoddggaa.X
theorem LoopNone : davitlaw09_LoopNone.Pure := loopNone_pure
end Go.Proofs.Ytilopoegoddggaa.Pure
namespace Go.Proofs.Ytilopoegoddggaa.loopNone
open Go.ChangeShapes Go.WideShapes Go.ChangeAt Go.RowKit
open Go.ChangeMaps (open_string shut_string)
set_option linter.unusedVariables false
theorem own : ownKnob Try.prog.godebug = none := by kernel_rfl
set_option maxRecDepth 100000 in
theorem lifted (os : Os) (started : os.Started) (H : Type) (enc : TypeId × Value → H) :
  ReturnsInHanded {} Try.checked os 10 .any (Rows.loopNoneSpec.pre6 enc Try.prog Try.f10 Rows.loopNoneRow.domain false) (Rows.loopNoneSpec.post enc Try.prog Try.f10 false true false false) := by
 refine returnsInHanded_of_change_sized (C := Try.checked) own started (by kernel_rfl) Try.func10
  (ChangeSpec.witness6 (enc := enc) (C := Try.checked) false ⟨#[], #[.int .u8 0, .int .u8 0], []⟩ 8 (by kernel_rfl) (by kernel_rfl) (by kernel_rfl) (by kernel_rfl)) ?_
 intro W base args ds gs before hval0 hW hcnd hsz0 _
 have hsz : (DataW.weightsEach Try.prog (Try.f10.params.toList ++ Rows.loopNoneSpec.plain.varTypes Try.prog) (ds ++ gs)).all (· ≤ reachBytes) = true := hsz0
 have hval : ∀ (j : Nat) t v, Try.f10.params[j]? = some t → args[j]? = some v → Value.okWide Try.prog W .any base t v := hval0
 have hW' := hW
 obtain ⟨p, q, hA0, hV, rfl, hfz, hnd⟩ := hW
 have hA : DataW.TrodAll enc Try.prog W 0 (fun _ => true) true Try.f10.params.toList args.toList ds p := hA0
 rw [Try.params10] at hA hval hsz
 obtain ⟨v0, vs0, d0, ds0, p0, q0, hargs, rfl, rfl, h0, r0⟩ := trodAll_cons hA
 obtain ⟨v1, vs1, d1, ds1, p1, q1, rfl, rfl, rfl, h1, r1⟩ := trodAll_cons r0
 obtain ⟨rfl, rfl, rfl⟩ := trodAll_nil r1
 obtain rfl : args = #[v0, v1] := by cases args; simp_all
 obtain ⟨rfl, rfl⟩ := trodVars_none hV
 obtain ⟨a0, rfl, rfl, rfl, w0⟩ := open_int Try.underlying5 (hval 0 5 v0 rfl rfl) h0
 obtain ⟨a1, rfl, rfl, rfl, w1⟩ := open_int Try.underlying5 (hval 1 5 v1 rfl rfl) h1
 clear hA0 hval0 hsz0 hsz
 refine (X.davitlaw09_LoopNone.walk Pure.LoopNone a0 a1 W w0 w1).mono fun e W' ⟨he, bel⟩ => ?_
 subst he
 exact ⟨_, rfl, _, _, _, [], _, [], hW', trodAll_mk1 (shut_bool Try.underlying4 _), (trodAll_cons_mk (shut_int Try.underlying5 w0) (trodAll_cons_mk (shut_int Try.underlying5 w1) trodAll_mk0)), rfl, bel.frame _, fun h => by cases h⟩
theorem over : Rows.loopNoneRow.holds Try.pinned (OpenSpec.ofChange Rows.loopNoneSpec) :=
 OpenClaim.holds_of_wide 10 Try.f10 rfl rfl rfl rfl rfl rfl rfl ⟨rfl, rfl, rfl, rfl, rfl⟩ rfl rfl rfl rfl rfl (by kernel_rfl) Try.func10 (by kernel_rfl)
  (of_decide_eq_true (by kernel_rfl)) (by unfold Func.isWrapper; first | (rw [if_pos (by decide +kernel)]; kernel_rfl) | (rw [if_neg (by decide +kernel)]; exact ⟨rfl, rfl⟩))
  (fun os started H enc _ => lifted os started H enc)
theorem proved : Rows.LoopNoneSaid := over
#print axioms proved
end Go.Proofs.Ytilopoegoddggaa.loopNone
namespace Go.Proofs.Ytilopoegoddggaa
theorem loopNone_holds : Rows.LoopNoneSaid := loopNone.proved
end Go.Proofs.Ytilopoegoddggaa
