/- Part 5 of the proof of the statement CallsRight: the words of the walks, the walks through the functions that it reaches, and the plain laws of what they compute. -/
import Derived.Test.YtjjcnbfmmhokeaaMCallsRight3
import Derived.Lib.SlicesCompact
import Derived.Deep.Slices
import Derived.Lib.SmallJoins
import Derived.ChangeArms
import Derived.Test.YtjjcnbfmmhokeaaRows
import Derived.WalkKit
import Derived.ProofKit
import Derived.OpenShut
import Derived.ShutString
import Derived.ChangeOld
import Derived.Below
import Derived.SizedLaws
import Derived.Carry
namespace Go.Proofs.Ytjjcnbfmmhokeaa.X
open Go.RowKit Go.Proofs.YtjjcnbfmmhokeaaW.PrintWords Go.Proofs.YtjjcnbfmmhokeaaW.PrintLast Go.Proofs.YtjjcnbfmmhokeaaW.PrintMore
attribute [local go_sem] max2_int min2_int max_two min_two max_three min_three max_four min_four
set_option linter.all false
noncomputable section
mutual
def davitlaw11_CallsRight.j0 : Nat → Bool → List (S33) → Option (Bool)
 | 0, _, _ => none
 | k + 1, x36, x207000 => if x36 = true then (some false) else ((calls_Used.f k x207000).bind fun t221 => (if (t221.length : Int) = (x207000.length : Int) then (davitlaw11_CallsRight.l0 k t221 0 x207000) else (some false)))
def davitlaw11_CallsRight.l0 : Nat → List Bool → Int → List (S33) → Option (Bool)
 | 0, _, _, _ => none
 | k + 1, x7, x8, x207000 => if x8 < (x7.length : Int) then (if 0 ≤ x8 then (if x8 = 0 then (if ((rdOf false x7 x8) != true) = true then (some false) else (davitlaw11_CallsRight.l0 k x7 (wrap64 (x8 + 1)) x207000)) else ((davitref11_To.f k x207000 0).bind fun t225 => ((davitref07_Has.f k t225 x8).bind fun t228 => (if ((rdOf false x7 x8) != t228) = true then (some false) else (davitlaw11_CallsRight.l0 k x7 (wrap64 (x8 + 1)) x207000))))) else (none)) else ((calls_Groups.f k x207000).bind fun t229 => ((davitref11_Groups.f k x207000).bind fun t232 => (if (t229.length : Int) = (t232.length : Int) then (davitlaw11_CallsRight.l1 k t229 t232 0) else (some false))))
def davitlaw11_CallsRight.l1 : Nat → List (List Int) → List (List Int) → Int → Option (Bool)
 | 0, _, _, _ => none
 | k + 1, x9, x10, x11 => if x11 < (x9.length : Int) then (if 0 ≤ x11 then (if x11 < (x10.length : Int) then ((davitref02_Ints.f k (rd_L5 x9 x11) (rd_L5 x10 x11)).bind fun t237 => (if t237 = true then (davitlaw11_CallsRight.l1 k x9 x10 (wrap64 (x11 + 1))) else (some false))) else (none)) else (none)) else (some true)
end
def davitlaw11_CallsRight.f (k : Nat) (l0_0 : List (S33)) (a1 : Int) (a2 : Int) : Option (Bool) := (davitlaw11_awake.f k).bind fun t207 => (if t207 = true then ((davitref02_Short.f k l0_0).bind fun t208 => (if t208 = true then ((calls_Of.f l0_0 a1).bind fun t209 => ((davitref11_Of.f k l0_0 a1).bind fun t212 => ((davitref02_Ints.f k t209 t212).bind fun t215 => (if t215 = true then ((calls_Comes.f k l0_0 a1 a2).bind fun t216 => ((davitref11_To.f k l0_0 a1).bind fun t217 => ((davitref07_Has.f k t217 a2).bind fun t220 => (davitlaw11_CallsRight.j0 k (t216 != t220) l0_0)))) else (davitlaw11_CallsRight.j0 k true l0_0))))) else (some true))) else (some false))
theorem davitlaw11_CallsRight.mono_l : ∀ k, (∀ y0 y1, LeO (davitlaw11_CallsRight.j0 k y0 y1) (davitlaw11_CallsRight.j0 (k + 1) y0 y1)) ∧ (∀ y0 y1 y2, LeO (davitlaw11_CallsRight.l0 k y0 y1 y2) (davitlaw11_CallsRight.l0 (k + 1) y0 y1 y2)) ∧ (∀ y0 y1 y2, LeO (davitlaw11_CallsRight.l1 k y0 y1 y2) (davitlaw11_CallsRight.l1 (k + 1) y0 y1 y2))
 | 0 => ⟨fun _ _ r h => by simp [davitlaw11_CallsRight.j0] at h, fun _ _ _ r h => by simp [davitlaw11_CallsRight.l0] at h, fun _ _ _ r h => by simp [davitlaw11_CallsRight.l1] at h⟩
 | k + 1 => by
  obtain ⟨ih0, ih1, ih2⟩ := davitlaw11_CallsRight.mono_l k
  refine ⟨?_, ?_, ?_⟩
  ·intro y0 y1
   unfold davitlaw11_CallsRight.j0
   repeat' first
   | (with_reducible exact ih0 _ _)
   | (with_reducible exact ih1 _ _ _)
   | (with_reducible exact ih2 _ _ _)
   | (with_reducible exact calls_Comes.mono _ _ _ _)
   | (with_reducible exact calls_Groups.mono _ _)
   | (with_reducible exact calls_Used.mono _ _)
   | (with_reducible exact davitlaw11_awake.mono _)
   | (with_reducible exact davitref02_Ints.mono _ _ _)
   | (with_reducible exact davitref02_Short.mono _ _)
   | (with_reducible exact davitref07_Has.mono _ _ _)
   | (with_reducible exact davitref11_Groups.mono _ _)
   | (with_reducible exact davitref11_Of.mono _ _ _)
   | (with_reducible exact davitref11_To.mono _ _ _)
   | (with_reducible exact LeO.refl _)
   | (with_reducible exact LeO.none _)
   | (with_reducible refine LeO.ite ?_ ?_)
   | (with_reducible refine LeO.bind ?_ (fun _ => ?_))
   | exact ih0 _ _
   | exact ih1 _ _ _
   | exact ih2 _ _ _
   | exact calls_Comes.mono _ _ _ _
   | exact calls_Groups.mono _ _
   | exact calls_Used.mono _ _
   | exact davitlaw11_awake.mono _
   | exact davitref02_Ints.mono _ _ _
   | exact davitref02_Short.mono _ _
   | exact davitref07_Has.mono _ _ _
   | exact davitref11_Groups.mono _ _
   | exact davitref11_Of.mono _ _ _
   | exact davitref11_To.mono _ _ _
   | exact LeO.none _
   | refine LeO.ite ?_ ?_
   | refine LeO.bind ?_ (fun _ => ?_)
  ·intro y0 y1 y2
   unfold davitlaw11_CallsRight.l0
   repeat' first
   | (with_reducible exact ih0 _ _)
   | (with_reducible exact ih1 _ _ _)
   | (with_reducible exact ih2 _ _ _)
   | (with_reducible exact calls_Comes.mono _ _ _ _)
   | (with_reducible exact calls_Groups.mono _ _)
   | (with_reducible exact calls_Used.mono _ _)
   | (with_reducible exact davitlaw11_awake.mono _)
   | (with_reducible exact davitref02_Ints.mono _ _ _)
   | (with_reducible exact davitref02_Short.mono _ _)
   | (with_reducible exact davitref07_Has.mono _ _ _)
   | (with_reducible exact davitref11_Groups.mono _ _)
   | (with_reducible exact davitref11_Of.mono _ _ _)
   | (with_reducible exact davitref11_To.mono _ _ _)
   | (with_reducible exact LeO.refl _)
   | (with_reducible exact LeO.none _)
   | (with_reducible refine LeO.ite ?_ ?_)
   | (with_reducible refine LeO.bind ?_ (fun _ => ?_))
   | exact ih0 _ _
   | exact ih1 _ _ _
   | exact ih2 _ _ _
   | exact calls_Comes.mono _ _ _ _
   | exact calls_Groups.mono _ _
   | exact calls_Used.mono _ _
   | exact davitlaw11_awake.mono _
   | exact davitref02_Ints.mono _ _ _
   | exact davitref02_Short.mono _ _
   | exact davitref07_Has.mono _ _ _
   | exact davitref11_Groups.mono _ _
   | exact davitref11_Of.mono _ _ _
   | exact davitref11_To.mono _ _ _
   | exact LeO.none _
   | refine LeO.ite ?_ ?_
   | refine LeO.bind ?_ (fun _ => ?_)
  ·intro y0 y1 y2
   unfold davitlaw11_CallsRight.l1
   repeat' first
   | (with_reducible exact ih0 _ _)
   | (with_reducible exact ih1 _ _ _)
   | (with_reducible exact ih2 _ _ _)
   | (with_reducible exact calls_Comes.mono _ _ _ _)
   | (with_reducible exact calls_Groups.mono _ _)
   | (with_reducible exact calls_Used.mono _ _)
   | (with_reducible exact davitlaw11_awake.mono _)
   | (with_reducible exact davitref02_Ints.mono _ _ _)
   | (with_reducible exact davitref02_Short.mono _ _)
   | (with_reducible exact davitref07_Has.mono _ _ _)
   | (with_reducible exact davitref11_Groups.mono _ _)
   | (with_reducible exact davitref11_Of.mono _ _ _)
   | (with_reducible exact davitref11_To.mono _ _ _)
   | (with_reducible exact LeO.refl _)
   | (with_reducible exact LeO.none _)
   | (with_reducible refine LeO.ite ?_ ?_)
   | (with_reducible refine LeO.bind ?_ (fun _ => ?_))
   | exact ih0 _ _
   | exact ih1 _ _ _
   | exact ih2 _ _ _
   | exact calls_Comes.mono _ _ _ _
   | exact calls_Groups.mono _ _
   | exact calls_Used.mono _ _
   | exact davitlaw11_awake.mono _
   | exact davitref02_Ints.mono _ _ _
   | exact davitref02_Short.mono _ _
   | exact davitref07_Has.mono _ _ _
   | exact davitref11_Groups.mono _ _
   | exact davitref11_Of.mono _ _ _
   | exact davitref11_To.mono _ _ _
   | exact LeO.none _
   | refine LeO.ite ?_ ?_
   | refine LeO.bind ?_ (fun _ => ?_)
theorem davitlaw11_CallsRight.mono : ∀ a0 a1 a2 k, LeO (davitlaw11_CallsRight.f k a0 a1 a2) (davitlaw11_CallsRight.f (k + 1) a0 a1 a2) := by
 intro a0 a1 a2 k
 obtain ⟨ih0, ih1, ih2⟩ := davitlaw11_CallsRight.mono_l k
 unfold davitlaw11_CallsRight.f
 repeat' first
   | (with_reducible exact ih0 _ _)
   | (with_reducible exact ih1 _ _ _)
   | (with_reducible exact ih2 _ _ _)
   | (with_reducible exact calls_Comes.mono _ _ _ _)
   | (with_reducible exact calls_Groups.mono _ _)
   | (with_reducible exact calls_Used.mono _ _)
   | (with_reducible exact davitlaw11_awake.mono _)
   | (with_reducible exact davitref02_Ints.mono _ _ _)
   | (with_reducible exact davitref02_Short.mono _ _)
   | (with_reducible exact davitref07_Has.mono _ _ _)
   | (with_reducible exact davitref11_Groups.mono _ _)
   | (with_reducible exact davitref11_Of.mono _ _ _)
   | (with_reducible exact davitref11_To.mono _ _ _)
   | (with_reducible exact LeO.refl _)
   | (with_reducible exact LeO.none _)
   | (with_reducible refine LeO.ite ?_ ?_)
   | (with_reducible refine LeO.bind ?_ (fun _ => ?_))
   | exact ih0 _ _
   | exact ih1 _ _ _
   | exact ih2 _ _ _
   | exact calls_Comes.mono _ _ _ _
   | exact calls_Groups.mono _ _
   | exact calls_Used.mono _ _
   | exact davitlaw11_awake.mono _
   | exact davitref02_Ints.mono _ _ _
   | exact davitref02_Short.mono _ _
   | exact davitref07_Has.mono _ _ _
   | exact davitref11_Groups.mono _ _
   | exact davitref11_Of.mono _ _ _
   | exact davitref11_To.mono _ _ _
   | exact LeO.none _
   | refine LeO.ite ?_ ?_
   | refine LeO.bind ?_ (fun _ => ?_)
def davitlaw11_CallsRight.T5 : Bool × List (List Nat × List Nat) := (true, [([], []), ([], []), ([0, 1], [0, 1]), ([], []), ([], []), ([3, 4, 2], [3, 4]), ([2, 5, 5], [2, 5]), ([6], [6]), ([7, 6], [7]), ([8], [8]), ([8], [8]), ([8], [8]), ([9, 10, 11, 8, 8], [8, 9, 10, 11]), ([8], [8]), ([8], [8]), ([13, 14, 12, 8], [8, 13, 14]), ([8], [8]), ([15, 16, 15, 8], [8, 15, 16]), ([12, 17, 8], [8, 12, 17]), ([8, 18], [8, 18])])
def davitlaw11_CallsRight.B5 : List Nat := [0, 0, 3, 0, 0, 31, 63, 127, 255, 511, 511, 511, 4095, 511, 511, 32767, 511, 131071, 262143, 524287]
theorem davitlaw11_CallsRight.tab5 : rtab .any (opsOf Try.f5 5) = davitlaw11_CallsRight.T5 := by kernel_rfl
theorem davitlaw11_CallsRight.bits5 : waitsOk davitlaw11_CallsRight.T5.2 davitlaw11_CallsRight.B5 = true := by kernel_rfl
def davitlaw11_CallsRight.T13 : Bool × List (List Nat × List Nat) := (true, [([], []), ([], []), ([0, 1], [0, 1]), ([2], [2]), ([], []), ([4], [4]), ([5], [5]), ([6], [6]), ([7, 6, 6], [6, 7]), ([6], [6]), ([8, 9, 8, 6], [6, 8, 9]), ([6, 10], [6, 10]), ([3, 11], [3, 11])])
def davitlaw11_CallsRight.B13 : List Nat := [0, 0, 3, 7, 0, 16, 48, 112, 240, 112, 1008, 2032, 4095]
theorem davitlaw11_CallsRight.tab13 : rtab .any (opsOf Try.f5 13) = davitlaw11_CallsRight.T13 := by kernel_rfl
theorem davitlaw11_CallsRight.bits13 : waitsOk davitlaw11_CallsRight.T13.2 davitlaw11_CallsRight.B13 = true := by kernel_rfl
def davitlaw11_CallsRight.T21 : Bool × List (List Nat × List Nat) := (true, [([], []), ([], []), ([0, 1], [0, 1]), ([2], [2]), ([], []), ([], []), ([4, 5], [4, 5]), ([6], [6]), ([3, 7], [3, 7]), ([8], [8])])
def davitlaw11_CallsRight.B21 : List Nat := [0, 0, 3, 7, 0, 0, 48, 112, 255, 511]
theorem davitlaw11_CallsRight.tab21 : rtab .any (opsOf Try.f5 21) = davitlaw11_CallsRight.T21 := by kernel_rfl
theorem davitlaw11_CallsRight.bits21 : waitsOk davitlaw11_CallsRight.T21.2 davitlaw11_CallsRight.B21 = true := by kernel_rfl
set_option maxHeartbeats 8000000 in
set_option maxRecDepth 100000 in
theorem davitlaw11_CallsRight.calls (k : Nat) (A0_0 : Option Addr) (c0_0 : Nat) (l0_0 : List (S33)) (a1 : Int) (a2 : Int) (r : Bool) (w : World) (hr0_0 : Kd.C k33 w A0_0 l0_0.length l0_0) (hc0_0 : l0_0.length ≤ c0_0) (h : davitlaw11_CallsRight.f k l0_0 a1 a2 = some r) :
  Calls Try.prog 5 #[.agg #[.slice A0_0 l0_0.length c0_0], .int .i64 a1, .int .i64 a2] w fun e w' => e = .returned (.bool r) ∧ Below w.heap.size w w' := by
 have hu24 := Try.underlying24
 have HR0_0 := Aside0.mk hr0_0
 have HC0_0 := Aside0.mk hc0_0
 clear hr0_0 hc0_0
 have HB := Aside0.mk (Below.refl w.heap.size w)
 have H : ((davitlaw11_awake.f k).bind fun t207 => (if t207 = true then ((davitref02_Short.f k l0_0).bind fun t208 => (if t208 = true then ((calls_Of.f l0_0 a1).bind fun t209 => ((davitref11_Of.f k l0_0 a1).bind fun t212 => ((davitref02_Ints.f k t209 t212).bind fun t215 => (if t215 = true then ((calls_Comes.f k l0_0 a1 a2).bind fun t216 => ((davitref11_To.f k l0_0 a1).bind fun t217 => ((davitref07_Has.f k t217 a2).bind fun t220 => (davitlaw11_CallsRight.j0 k (t216 != t220) l0_0)))) else (davitlaw11_CallsRight.j0 k true l0_0))))) else (some true))) else (some false))) = some r := h
 clear h
 replace H := Option.bind_eq_some_iff.mp H
 obtain ⟨t207, A40, H⟩ := H
 replace H : (if t207 = true then ((davitref02_Short.f k l0_0).bind fun t208 => (if t208 = true then ((calls_Of.f l0_0 a1).bind fun t209 => ((davitref11_Of.f k l0_0 a1).bind fun t212 => ((davitref02_Ints.f k t209 t212).bind fun t215 => (if t215 = true then ((calls_Comes.f k l0_0 a1 a2).bind fun t216 => ((davitref11_To.f k l0_0 a1).bind fun t217 => ((davitref07_Has.f k t217 a2).bind fun t220 => (davitlaw11_CallsRight.j0 k (t216 != t220) l0_0)))) else (davitlaw11_CallsRight.j0 k true l0_0))))) else (some true))) else (some false)) = some r := H
 have A4 := Aside0.mk A40
 clear A40
 by_cases c5 : t207 = true
 ·subst c5
  have H1 : ((davitref02_Short.f k l0_0).bind fun t208 => (if t208 = true then ((calls_Of.f l0_0 a1).bind fun t209 => ((davitref11_Of.f k l0_0 a1).bind fun t212 => ((davitref02_Ints.f k t209 t212).bind fun t215 => (if t215 = true then ((calls_Comes.f k l0_0 a1 a2).bind fun t216 => ((davitref11_To.f k l0_0 a1).bind fun t217 => ((davitref07_Has.f k t217 a2).bind fun t220 => (davitlaw11_CallsRight.j0 k (t216 != t220) l0_0)))) else (davitlaw11_CallsRight.j0 k true l0_0))))) else (some true))) = some r := by rw [if_pos rfl] at H; exact H
  clear H
  have H := H1
  clear H1
  replace H := Option.bind_eq_some_iff.mp H
  obtain ⟨t208, A60, H⟩ := H
  replace H : (if t208 = true then ((calls_Of.f l0_0 a1).bind fun t209 => ((davitref11_Of.f k l0_0 a1).bind fun t212 => ((davitref02_Ints.f k t209 t212).bind fun t215 => (if t215 = true then ((calls_Comes.f k l0_0 a1 a2).bind fun t216 => ((davitref11_To.f k l0_0 a1).bind fun t217 => ((davitref07_Has.f k t217 a2).bind fun t220 => (davitlaw11_CallsRight.j0 k (t216 != t220) l0_0)))) else (davitlaw11_CallsRight.j0 k true l0_0))))) else (some true)) = some r := H
  have A6 := Aside0.mk A60
  clear A60
  by_cases c7 : t208 = true
  ·subst c7
   have H1 : ((calls_Of.f l0_0 a1).bind fun t209 => ((davitref11_Of.f k l0_0 a1).bind fun t212 => ((davitref02_Ints.f k t209 t212).bind fun t215 => (if t215 = true then ((calls_Comes.f k l0_0 a1 a2).bind fun t216 => ((davitref11_To.f k l0_0 a1).bind fun t217 => ((davitref07_Has.f k t217 a2).bind fun t220 => (davitlaw11_CallsRight.j0 k (t216 != t220) l0_0)))) else (davitlaw11_CallsRight.j0 k true l0_0))))) = some r := by rw [if_pos rfl] at H; exact H
   clear H
   have H := H1
   clear H1
   have HC8 := Aside0.mk H
   clear H
   go_enter Try.func5, Try.ntmps5
   go_upto_region 5 with (first | ((with_reducible refine gate_dst (N := 3) rfl ?_); refine box_event ?hg (N := 3) ?hd (cs := #[.slice A0_0 l0_0.length c0_0]) (t := 24) ?hr ?_; (case hd => rfl); (case hg => rfl); (case hr => first | (go_simp; done) | (go_simp; rfl)); intro gb206 hg w9 hbox hb; have n0_ := Aside0.mk (below_step (by repeat (first | (with_reducible first | exact HB.out | apply below_alloc | apply pw_below_drewN | apply below_drew1) | exact HB.out)) hb); have n1_ := Aside0.mk (hbox); have n2_ := Aside0.mk ((by rw [hg]; exact (below_size (by repeat (first | (with_reducible first | exact HB.out | apply below_alloc | apply pw_below_drewN | apply below_drew1) | exact HB.out))) : w.heap.size ≤ gb206)); have n3_ := Aside0.mk ((by rw [hg]; exact (below_size (by repeat (first | (with_reducible first | exact HB.out | apply below_alloc | apply pw_below_drewN | apply below_drew1) | exact HB.out))) : w.heap.size ≤ gb206)); clear HB; have HB := n0_; have BK206 := n1_; have GW206 := n2_; have GE206 := n3_; clear n0_ n1_ n2_ n3_; clear hb hbox hg) | ((with_reducible refine gate_callee (f := 6) rfl ?_); refine goesL_ (some 12) rfl rfl Try.func6 (by kernel_rfl) rfl #[] rfl (by (try simp only [List.map_toArray, List.map_cons, List.map_nil]); first | done | rfl | (simp only [List.length_drop, List.length_take]; rfl)) ?_; (with_reducible refine (davitlaw11_awake.calls k  true _ A4.out).mono ?_); rintro e w10 ⟨rfl, hb⟩; refine ⟨_, rfl, ?_⟩; have n0_ := Aside0.mk (blk_below (g := gb206) (o := .cells #[.slice A0_0 l0_0.length c0_0] 24 (0, 0)) (by (with_reducible repeat (first | refine blk_drewN ?_ _ | refine blk_drew ?_ | refine blk_alloc ?_ _)); exact BK206.out) hb); have n1_ := Aside0.mk (below_step (by repeat (first | (with_reducible first | exact HB.out | apply below_alloc | apply pw_below_drewN | apply below_drew1 | refine below_set ?_ GE206.out) | exact HB.out)) hb); clear BK206; clear HB; have BK206 := n0_; have HB := n1_; clear n0_ n1_; (try clear hb); (try clear hb2); (try clear hk); (try clear hi); have hcz11_0 : w10.cell? ⟨gb206, 0, none⟩ = some (.slice A0_0 l0_0.length c0_0) := (blk_cell BK206.out 0).trans rfl; have hfz11_0 := blk_frozen BK206.out 0) | ((with_reducible refine gate_callee (f := 7) rfl ?_); refine goesL_ (some 15) rfl rfl Try.func7 (by kernel_rfl) rfl #[.agg #[.slice A0_0 l0_0.length c0_0]] rfl (by (try simp only [List.map_toArray, List.map_cons, List.map_nil]); first | done | rfl | (simp only [List.length_drop, List.length_take]; rfl)) ?_; (with_reducible refine (davitref02_Short.calls k _ _ l0_0 true _ ?side1 ?side2 A6.out).mono ?_); (case side1 => repeat (first | exact (Kd.C_below HR0_0.out HB.out) | (with_reducible refine Kd.C_alloc ?_ _) | (with_reducible refine Kd.C_drewN ?_ _) | (with_reducible refine Kd.C_drew ?_))); (case side2 => exact HC0_0.out); rintro e w12 ⟨rfl, hb⟩; refine ⟨_, rfl, ?_⟩; have n0_ := Aside0.mk (blk_below (g := gb206) (o := .cells #[.slice A0_0 l0_0.length c0_0] 24 (0, 0)) (by (with_reducible repeat (first | refine blk_drewN ?_ _ | refine blk_drew ?_ | refine blk_alloc ?_ _)); exact BK206.out) hb); have n1_ := Aside0.mk (below_step (by repeat (first | (with_reducible first | exact HB.out | apply below_alloc | apply pw_below_drewN | apply below_drew1 | refine below_set ?_ GE206.out) | exact HB.out)) hb); clear BK206; clear HB; have BK206 := n0_; have HB := n1_; clear n0_ n1_; (try clear hb); (try clear hb2); (try clear hk); (try clear hi)))
   (try simp only [Act.put, List.setIfInBounds_toArray, List.set_cons_zero, List.set_cons_succ])
   go_cut [36] (fun v36 wc => ∃ (kq : Nat) (x36_7 : Bool), v36 = .bool x36_7 ∧ Aside0 (davitlaw11_CallsRight.j0 kq x36_7 l0_0 = some r) ∧ Aside0 (kq ≤ k) ∧ Aside0 (wc.heap[gb206]? = some (.cells #[(.slice A0_0 l0_0.length c0_0)] 24 (0, 0))) ∧ Aside0 (Below w.heap.size w wc))
   case first =>
    have H := HC8.out
    clear HC8
    replace H := Option.bind_eq_some_iff.mp H
    obtain ⟨t209, A130, H⟩ := H
    replace H : ((davitref11_Of.f k l0_0 a1).bind fun t212 => ((davitref02_Ints.f k t209 t212).bind fun t215 => (if t215 = true then ((calls_Comes.f k l0_0 a1 a2).bind fun t216 => ((davitref11_To.f k l0_0 a1).bind fun t217 => ((davitref07_Has.f k t217 a2).bind fun t220 => (davitlaw11_CallsRight.j0 k (t216 != t220) l0_0)))) else (davitlaw11_CallsRight.j0 k true l0_0)))) = some r := H
    have A13 := Aside0.mk A130
    clear A130
    replace H := Option.bind_eq_some_iff.mp H
    obtain ⟨t212, A140, H⟩ := H
    replace H : ((davitref02_Ints.f k t209 t212).bind fun t215 => (if t215 = true then ((calls_Comes.f k l0_0 a1 a2).bind fun t216 => ((davitref11_To.f k l0_0 a1).bind fun t217 => ((davitref07_Has.f k t217 a2).bind fun t220 => (davitlaw11_CallsRight.j0 k (t216 != t220) l0_0)))) else (davitlaw11_CallsRight.j0 k true l0_0))) = some r := H
    have A14 := Aside0.mk A140
    clear A140
    replace H := Option.bind_eq_some_iff.mp H
    obtain ⟨t215, A150, H⟩ := H
    replace H : (if t215 = true then ((calls_Comes.f k l0_0 a1 a2).bind fun t216 => ((davitref11_To.f k l0_0 a1).bind fun t217 => ((davitref07_Has.f k t217 a2).bind fun t220 => (davitlaw11_CallsRight.j0 k (t216 != t220) l0_0)))) else (davitlaw11_CallsRight.j0 k true l0_0)) = some r := H
    have A15 := Aside0.mk A150
    clear A150
    by_cases c16 : t215 = true
    ·subst c16
     have H1 : ((calls_Comes.f k l0_0 a1 a2).bind fun t216 => ((davitref11_To.f k l0_0 a1).bind fun t217 => ((davitref07_Has.f k t217 a2).bind fun t220 => (davitlaw11_CallsRight.j0 k (t216 != t220) l0_0)))) = some r := by rw [if_pos rfl] at H; exact H
     clear H
     have H := H1
     clear H1
     replace H := Option.bind_eq_some_iff.mp H
     obtain ⟨t216, A170, H⟩ := H
     replace H : ((davitref11_To.f k l0_0 a1).bind fun t217 => ((davitref07_Has.f k t217 a2).bind fun t220 => (davitlaw11_CallsRight.j0 k (t216 != t220) l0_0))) = some r := H
     have A17 := Aside0.mk A170
     clear A170
     replace H := Option.bind_eq_some_iff.mp H
     obtain ⟨t217, A180, H⟩ := H
     replace H : ((davitref07_Has.f k t217 a2).bind fun t220 => (davitlaw11_CallsRight.j0 k (t216 != t220) l0_0)) = some r := H
     have A18 := Aside0.mk A180
     clear A180
     replace H := Option.bind_eq_some_iff.mp H
     obtain ⟨t220, A190, H⟩ := H
     replace H : (davitlaw11_CallsRight.j0 k (t216 != t220) l0_0) = some r := H
     have A19 := Aside0.mk A190
     clear A190
     have H' := Aside0.mk H
     clear H
     try go_wp2
     have n0_ := Aside0.mk (blk_drew BK206.out)
     have n1_ := Aside0.mk (below_drew1 HB.out)
     clear BK206
     clear HB
     have BK206 := n0_
     have HB := n1_
     clear n0_ n1_
     refine start_ (n := 20) (S := fun w' => w'.cell? ⟨gb206, 0, none⟩ = some (.slice A0_0 l0_0.length c0_0)) (ds := []) #[false, false, false, false, false, false, false, false, false, false, false, false, false, false, false, false, false, false, false, false] (by kernel_rfl) rfl rfl ((blk_cell BK206.out 0).trans rfl) (fun hHeld => ?_); refine with_tabW davitlaw11_CallsRight.tab5 davitlaw11_CallsRight.bits5 (fun HT_ HW_ => ?_)
     generalize w12.drew = w20 at BK206 HB hHeld ⊢
     refine pure_ (i := 1) (N := some 18) (v := ?_) (a' := ?_) #[false, true, false, false, false, false, false, false, false, false, false, false, false, false, false, false, false, false, false, false] rfl rfl (any_of HT_.out (by kernel_rfl)) (fun _ _ _ h => h) (Or.inl ⟨by rfl, ?_⟩) ?_ ?_
     rotate_left
     ·intro w'
      go_simp
      with_reducible rfl
     rotate_left
     ·simp only [Act.put, List.setIfInBounds_toArray, List.set_cons_zero, List.set_cons_succ, i64_w, i32_w]
      rfl
     refine pure_ (i := 4) (N := some 21) (v := ?_) (a' := ?_) #[false, true, false, false, true, false, false, false, false, false, false, false, false, false, false, false, false, false, false, false] rfl rfl (any_of HT_.out (by kernel_rfl)) (fun _ _ _ h => h) (Or.inl ⟨by rfl, ?_⟩) ?_ ?_
     rotate_left
     ·intro w'
      go_simp
      with_reducible rfl
     rotate_left
     ·simp only [Act.put, List.setIfInBounds_toArray, List.set_cons_zero, List.set_cons_succ, i64_w, i32_w]
      rfl
     refine take_ (i := 0) (N := some 17) (v := ?_) (a' := ?_) #[true, true, false, false, true, false, false, false, false, false, false, false, false, false, false, false, false, false, false, false] rfl rfl (take_ofW HT_.out HW_.out (by kernel_rfl)) (fun _ _ _ h => h) (Or.inl ⟨by rfl, ?_⟩) hHeld ?_ ?_
     rotate_left
     ·intro w' s0
      go_simp
      with_reducible rfl
     rotate_left
     ·simp only [Act.put, List.setIfInBounds_toArray, List.set_cons_zero, List.set_cons_succ, i64_w, i32_w]
      rfl
     refine take_ (i := 3) (N := some 20) (v := ?_) (a' := ?_) #[true, true, false, true, true, false, false, false, false, false, false, false, false, false, false, false, false, false, false, false] rfl rfl (take_ofW HT_.out HW_.out (by kernel_rfl)) (fun _ _ _ h => h) (Or.inl ⟨by rfl, ?_⟩) hHeld ?_ ?_
     rotate_left
     ·intro w' s0
      go_simp
      with_reducible rfl
     rotate_left
     ·simp only [Act.put, List.setIfInBounds_toArray, List.set_cons_zero, List.set_cons_succ, i64_w, i32_w]
      rfl
     refine one_ (i := 2) (N := some 19) #[true, true, true, true, true, false, false, false, false, false, false, false, false, false, false, false, false, false, false, false] rfl rfl (one_of HT_.out (by kernel_rfl)) (by decide) (fun K hK => ?_)
     refine goes_ Try.func11 (by kernel_rfl) rfl #[.agg #[.slice A0_0 l0_0.length c0_0], .int .i64 a1] (by rfl) rfl rfl (by (try simp only [List.map_toArray, List.map_cons, List.map_nil]); first | done | rfl | (simp only [List.length_drop, List.length_take]; rfl)) ?_
     with_reducible refine (calls_Of.calls _ _ l0_0 a1 t209 _ ?side1 ?side2 A13.out).mono ?_
     (case side1 => repeat (first | exact (Kd.C_below HR0_0.out HB.out) | (with_reducible refine Kd.C_alloc ?_ _) | (with_reducible refine Kd.C_drewN ?_ _) | (with_reducible refine Kd.C_drew ?_)))
     (case side2 => exact HC0_0.out)
     rintro e w21 ⟨v210, rfl, ho0, hb⟩
     refine ⟨_, rfl, ?_⟩
     have n0_ := Aside0.mk (Kd.R_lower ho0 (below_size (by repeat (first | (with_reducible first | exact HB.out | apply below_alloc | apply pw_below_drewN | apply below_drew1 | refine below_set ?_ GE206.out) | exact HB.out))))
     have n1_ := Aside0.mk (blk_below (g := gb206) (o := .cells #[.slice A0_0 l0_0.length c0_0] 24 (0, 0)) (by (with_reducible repeat (first | refine blk_drewN ?_ _ | refine blk_drew ?_ | refine blk_alloc ?_ _)); exact BK206.out) hb)
     have n2_ := Aside0.mk (below_step (by repeat (first | (with_reducible first | exact HB.out | apply below_alloc | apply pw_below_drewN | apply below_drew1 | refine below_set ?_ GE206.out) | exact HB.out)) hb)
     clear BK206
     clear HB
     have HO211 := n0_
     have BK206 := n1_
     have HB := n2_
     clear n0_ n1_ n2_
     (try clear hb)
     (try clear hb2)
     (try clear hk)
     (try clear hi)
     (try clear ho0)
     refine hK.out _ _ ((blk_cell BK206.out 0).trans rfl) (fun hHeld => ?_)
     clear hK K
     refine norm_ (a' := ?_) ?_ ?_
     rotate_left
     ·show Act.put _ (some 19) _ = _
      simp only [Act.put, List.setIfInBounds_toArray, List.set_cons_zero, List.set_cons_succ, i64_w, i32_w]
      rfl
     refine one_ (i := 5) (N := some 22) #[true, true, true, true, true, true, false, false, false, false, false, false, false, false, false, false, false, false, false, false] rfl rfl (one_of HT_.out (by kernel_rfl)) (by decide) (fun K hK => ?_)
     refine goes_ Try.func13 (by kernel_rfl) rfl #[.agg #[.slice A0_0 l0_0.length c0_0], .int .i64 a1] (by rfl) rfl rfl (by (try simp only [List.map_toArray, List.map_cons, List.map_nil]); first | done | rfl | (simp only [List.length_drop, List.length_take]; rfl)) ?_
     with_reducible refine (davitref11_Of.calls k _ _ l0_0 a1 t212 _ ?side1 ?side2 A14.out).mono ?_
     (case side1 => repeat (first | exact (Kd.C_below HR0_0.out HB.out) | (with_reducible refine Kd.C_alloc ?_ _) | (with_reducible refine Kd.C_drewN ?_ _) | (with_reducible refine Kd.C_drew ?_)))
     (case side2 => exact HC0_0.out)
     rintro e w22 ⟨v213, rfl, ho0, hb⟩
     refine ⟨_, rfl, ?_⟩
     have n0_ := Aside0.mk (Kd.R_elder' (by (with_reducible repeat (first | apply Kd.R_alloc | apply Kd.R_drewN | apply Kd.R_drew)); exact HO211.out) (Kd.R_base ho0) hb)
     have n1_ := Aside0.mk (Kd.R_lower (Kd.R_new' ho0 (Kd.R_lt (by (with_reducible repeat (first | apply Kd.R_alloc | apply Kd.R_drewN | apply Kd.R_drew)); exact HO211.out))) (below_size (by repeat (first | (with_reducible first | exact HB.out | apply below_alloc | apply pw_below_drewN | apply below_drew1 | refine below_set ?_ GE206.out) | exact HB.out))))
     have n2_ := Aside0.mk (blk_below (g := gb206) (o := .cells #[.slice A0_0 l0_0.length c0_0] 24 (0, 0)) (by (with_reducible repeat (first | refine blk_drewN ?_ _ | refine blk_drew ?_ | refine blk_alloc ?_ _)); exact BK206.out) hb)
     have n3_ := Aside0.mk (below_step (by repeat (first | (with_reducible first | exact HB.out | apply below_alloc | apply pw_below_drewN | apply below_drew1 | refine below_set ?_ GE206.out) | exact HB.out)) hb)
     clear HO211
     clear BK206
     clear HB
     have HO211 := n0_
     have HO214 := n1_
     have BK206 := n2_
     have HB := n3_
     clear n0_ n1_ n2_ n3_
     (try clear hb)
     (try clear hb2)
     (try clear hk)
     (try clear hi)
     (try clear ho0)
     obtain ⟨Ao23, co23, eo23⟩ := Kd.R_slice HO211.out
     (first | subst eo23 | (injection eo23 with f1_ f2_ f3_; have f4_ := f1_.symm; have f5_ := f3_.symm; clear f1_ f2_ f3_; subst f4_; subst f5_))
     obtain ⟨Ao24, co24, eo24⟩ := Kd.R_slice HO214.out
     (first | subst eo24 | (injection eo24 with f1_ f2_ f3_; have f4_ := f1_.symm; have f5_ := f3_.symm; clear f1_ f2_ f3_; subst f4_; subst f5_))
     refine hK.out _ _ ((blk_cell BK206.out 0).trans rfl) (fun hHeld => ?_)
     clear hK K
     refine norm_ (a' := ?_) ?_ ?_
     rotate_left
     ·show Act.put _ (some 22) _ = _
      simp only [Act.put, List.setIfInBounds_toArray, List.set_cons_zero, List.set_cons_succ, i64_w, i32_w]
      rfl
     refine one_ (i := 6) (N := some 23) #[true, true, true, true, true, true, true, false, false, false, false, false, false, false, false, false, false, false, false, false] rfl rfl (one_of HT_.out (by kernel_rfl)) (by decide) (fun K hK => ?_)
     refine goes_ Try.func12 (by kernel_rfl) rfl #[.slice Ao23 t209.length co23, .slice Ao24 t212.length co24] (by rfl) rfl rfl (by (try simp only [List.map_toArray, List.map_cons, List.map_nil]); first | done | rfl | (simp only [List.length_drop, List.length_take]; rfl)) ?_
     with_reducible refine (davitref02_Ints.calls k _ _ t209 _ _ t212 true _ ?side1 ?side2 ?side3 ?side4 A15.out).mono ?_
     (case side1 => repeat (first | exact (Kd.R_reads' HO211.out).2.2 | (with_reducible refine Kd.C_alloc ?_ _) | (with_reducible refine Kd.C_drewN ?_ _) | (with_reducible refine Kd.C_drew ?_)))
     (case side2 => exact (Kd.R_reads' HO211.out).2.1)
     (case side3 => repeat (first | exact (Kd.R_reads' HO214.out).2.2 | (with_reducible refine Kd.C_alloc ?_ _) | (with_reducible refine Kd.C_drewN ?_ _) | (with_reducible refine Kd.C_drew ?_)))
     (case side4 => exact (Kd.R_reads' HO214.out).2.1)
     rintro e w' ⟨rfl, ⟨nd, rfl⟩⟩
     refine ⟨_, rfl, ?_⟩
     refine hK.out _ _ ((blk_cell BK206.out 0).trans rfl) (fun hHeld => ?_)
     clear hK K
     refine norm_ (a' := ?_) ?_ ?_
     rotate_left
     ·show Act.put _ (some 23) _ = _
      simp only [Act.put, List.setIfInBounds_toArray, List.set_cons_zero, List.set_cons_succ, i64_w, i32_w]
      rfl
     refine pure_ (i := 7) (N := some 24) (v := ?_) (a' := ?_) #[true, true, true, true, true, true, true, true, false, false, false, false, false, false, false, false, false, false, false, false] rfl rfl (any_of HT_.out (by kernel_rfl)) (fun _ _ _ h => h) (Or.inl ⟨by rfl, ?_⟩) ?_ ?_
     rotate_left
     ·intro w'
      go_simp
      with_reducible rfl
     rotate_left
     ·simp only [Act.put, List.setIfInBounds_toArray, List.set_cons_zero, List.set_cons_succ, i64_w, i32_w]
      rfl
     refine pure_ (i := 8) (N := some 25) (v := ?_) (a' := ?_) #[true, true, true, true, true, true, true, true, true, false, false, false, false, false, false, false, false, false, false, false] rfl rfl (any_of HT_.out (by kernel_rfl)) (fun _ _ _ h => h) (Or.inl ⟨by rfl, ?_⟩) ?_ ?_
     rotate_left
     ·intro w'
      go_simp
      with_reducible rfl
     rotate_left
     ·simp only [Act.put, List.setIfInBounds_toArray, List.set_cons_zero, List.set_cons_succ, i64_w, i32_w]
      rfl
     refine pure_ (i := 10) (N := some 27) (v := ?_) (a' := ?_) #[true, true, true, true, true, true, true, true, true, false, true, false, false, false, false, false, false, false, false, false] rfl rfl (any_of HT_.out (by kernel_rfl)) (fun _ _ _ h => h) (Or.inl ⟨by rfl, ?_⟩) ?_ ?_
     rotate_left
     ·intro w'
      go_simp
      with_reducible rfl
     rotate_left
     ·simp only [Act.put, List.setIfInBounds_toArray, List.set_cons_zero, List.set_cons_succ, i64_w, i32_w]
      rfl
     refine pure_ (i := 11) (N := some 28) (v := ?_) (a' := ?_) #[true, true, true, true, true, true, true, true, true, false, true, true, false, false, false, false, false, false, false, false] rfl rfl (any_of HT_.out (by kernel_rfl)) (fun _ _ _ h => h) (Or.inl ⟨by rfl, ?_⟩) ?_ ?_
     rotate_left
     ·intro w'
      go_simp
      with_reducible rfl
     rotate_left
     ·simp only [Act.put, List.setIfInBounds_toArray, List.set_cons_zero, List.set_cons_succ, i64_w, i32_w]
      rfl
     refine pure_ (i := 14) (N := some 31) (v := ?_) (a' := ?_) #[true, true, true, true, true, true, true, true, true, false, true, true, false, false, true, false, false, false, false, false] rfl rfl (any_of HT_.out (by kernel_rfl)) (fun _ _ _ h => h) (Or.inl ⟨by rfl, ?_⟩) ?_ ?_
     rotate_left
     ·intro w'
      go_simp
      with_reducible rfl
     rotate_left
     ·simp only [Act.put, List.setIfInBounds_toArray, List.set_cons_zero, List.set_cons_succ, i64_w, i32_w]
      rfl
     refine pure_ (i := 16) (N := some 33) (v := ?_) (a' := ?_) #[true, true, true, true, true, true, true, true, true, false, true, true, false, false, true, false, true, false, false, false] rfl rfl (any_of HT_.out (by kernel_rfl)) (fun _ _ _ h => h) (Or.inl ⟨by rfl, ?_⟩) ?_ ?_
     rotate_left
     ·intro w'
      go_simp
      with_reducible rfl
     rotate_left
     ·simp only [Act.put, List.setIfInBounds_toArray, List.set_cons_zero, List.set_cons_succ, i64_w, i32_w]
      rfl
     refine take_ (i := 9) (N := some 26) (v := ?_) (a' := ?_) #[true, true, true, true, true, true, true, true, true, true, true, true, false, false, true, false, true, false, false, false] rfl rfl (take_ofW HT_.out HW_.out (by kernel_rfl)) (fun _ _ _ h => h) (Or.inl ⟨by rfl, ?_⟩) hHeld ?_ ?_
     rotate_left
     ·intro w' s0
      go_simp
      with_reducible rfl
     rotate_left
     ·simp only [Act.put, List.setIfInBounds_toArray, List.set_cons_zero, List.set_cons_succ, i64_w, i32_w]
      rfl
     refine take_ (i := 13) (N := some 30) (v := ?_) (a' := ?_) #[true, true, true, true, true, true, true, true, true, true, true, true, false, true, true, false, true, false, false, false] rfl rfl (take_ofW HT_.out HW_.out (by kernel_rfl)) (fun _ _ _ h => h) (Or.inl ⟨by rfl, ?_⟩) hHeld ?_ ?_
     rotate_left
     ·intro w' s0
      go_simp
      with_reducible rfl
     rotate_left
     ·simp only [Act.put, List.setIfInBounds_toArray, List.set_cons_zero, List.set_cons_succ, i64_w, i32_w]
      rfl
     refine one_ (i := 12) (N := some 29) #[true, true, true, true, true, true, true, true, true, true, true, true, true, true, true, false, true, false, false, false] rfl rfl (one_of HT_.out (by kernel_rfl)) (by decide) (fun K hK => ?_)
     refine goes_ Try.func9 (by kernel_rfl) rfl #[.agg #[.slice A0_0 l0_0.length c0_0], .int .i64 a1, .int .i64 a2] (by rfl) rfl rfl (by (try simp only [List.map_toArray, List.map_cons, List.map_nil]); first | done | rfl | (simp only [List.length_drop, List.length_take]; rfl)) ?_
     with_reducible refine (calls_Comes.calls k _ _ l0_0 a1 a2 t216 _ ?side1 ?side2 A17.out).mono ?_
     (case side1 => repeat (first | exact (Kd.C_below HR0_0.out (by repeat (first | (with_reducible first | exact HB.out | apply below_alloc | apply pw_below_drewN | apply below_drew1 | refine below_set ?_ GE206.out) | exact HB.out))) | (with_reducible refine Kd.C_alloc ?_ _) | (with_reducible refine Kd.C_drewN ?_ _) | (with_reducible refine Kd.C_drew ?_)))
     (case side2 => exact HC0_0.out)
     rintro e w25 ⟨rfl, hb⟩
     refine ⟨_, rfl, ?_⟩
     have n0_ := Aside0.mk (Kd.R_below (by (with_reducible repeat (first | apply Kd.R_alloc | apply Kd.R_drewN | apply Kd.R_drew)); exact HO211.out) hb)
     have n1_ := Aside0.mk (Kd.R_below (by (with_reducible repeat (first | apply Kd.R_alloc | apply Kd.R_drewN | apply Kd.R_drew)); exact HO214.out) hb)
     have n2_ := Aside0.mk (blk_below (g := gb206) (o := .cells #[.slice A0_0 l0_0.length c0_0] 24 (0, 0)) (by (with_reducible repeat (first | refine blk_drewN ?_ _ | refine blk_drew ?_ | refine blk_alloc ?_ _)); exact BK206.out) hb)
     have n3_ := Aside0.mk (below_step (by repeat (first | (with_reducible first | exact HB.out | apply below_alloc | apply pw_below_drewN | apply below_drew1 | refine below_set ?_ GE206.out) | exact HB.out)) hb)
     clear HO211
     clear HO214
     clear BK206
     clear HB
     have HO211 := n0_
     have HO214 := n1_
     have BK206 := n2_
     have HB := n3_
     clear n0_ n1_ n2_ n3_
     (try clear hb)
     (try clear hb2)
     (try clear hk)
     (try clear hi)
     refine hK.out _ _ ((blk_cell BK206.out 0).trans rfl) (fun hHeld => ?_)
     clear hK K
     refine norm_ (a' := ?_) ?_ ?_
     rotate_left
     ·show Act.put _ (some 29) _ = _
      simp only [Act.put, List.setIfInBounds_toArray, List.set_cons_zero, List.set_cons_succ, i64_w, i32_w]
      rfl
     refine one_ (i := 15) (N := some 32) #[true, true, true, true, true, true, true, true, true, true, true, true, true, true, true, true, true, false, false, false] rfl rfl (one_of HT_.out (by kernel_rfl)) (by decide) (fun K hK => ?_)
     refine goes_ Try.func14 (by kernel_rfl) rfl #[.agg #[.slice A0_0 l0_0.length c0_0], .int .i64 a1] (by rfl) rfl rfl (by (try simp only [List.map_toArray, List.map_cons, List.map_nil]); first | done | rfl | (simp only [List.length_drop, List.length_take]; rfl)) ?_
     with_reducible refine (davitref11_To.calls k _ _ l0_0 a1 t217 _ ?side1 ?side2 A18.out).mono ?_
     (case side1 => repeat (first | exact (Kd.C_below HR0_0.out HB.out) | (with_reducible refine Kd.C_alloc ?_ _) | (with_reducible refine Kd.C_drewN ?_ _) | (with_reducible refine Kd.C_drew ?_)))
     (case side2 => exact HC0_0.out)
     rintro e w26 ⟨v218, rfl, ho0, hb⟩
     refine ⟨_, rfl, ?_⟩
     have n0_ := Aside0.mk (Kd.R_elder' (by (with_reducible repeat (first | apply Kd.R_alloc | apply Kd.R_drewN | apply Kd.R_drew)); exact HO211.out) (Kd.R_base ho0) hb)
     have n1_ := Aside0.mk (Kd.R_elder' (by (with_reducible repeat (first | apply Kd.R_alloc | apply Kd.R_drewN | apply Kd.R_drew)); exact HO214.out) (Kd.R_base ho0) hb)
     have n2_ := Aside0.mk (Kd.R_lower (Kd.R_new' (Kd.R_new' ho0 (Kd.R_lt (by (with_reducible repeat (first | apply Kd.R_alloc | apply Kd.R_drewN | apply Kd.R_drew)); exact HO211.out))) (Kd.R_lt (by (with_reducible repeat (first | apply Kd.R_alloc | apply Kd.R_drewN | apply Kd.R_drew)); exact HO214.out))) (below_size (by repeat (first | (with_reducible first | exact HB.out | apply below_alloc | apply pw_below_drewN | apply below_drew1 | refine below_set ?_ GE206.out) | exact HB.out))))
     have n3_ := Aside0.mk (blk_below (g := gb206) (o := .cells #[.slice A0_0 l0_0.length c0_0] 24 (0, 0)) (by (with_reducible repeat (first | refine blk_drewN ?_ _ | refine blk_drew ?_ | refine blk_alloc ?_ _)); exact BK206.out) hb)
     have n4_ := Aside0.mk (below_step (by repeat (first | (with_reducible first | exact HB.out | apply below_alloc | apply pw_below_drewN | apply below_drew1 | refine below_set ?_ GE206.out) | exact HB.out)) hb)
     clear HO211
     clear HO214
     clear BK206
     clear HB
     have HO211 := n0_
     have HO214 := n1_
     have HO219 := n2_
     have BK206 := n3_
     have HB := n4_
     clear n0_ n1_ n2_ n3_ n4_
     (try clear hb)
     (try clear hb2)
     (try clear hk)
     (try clear hi)
     (try clear ho0)
     obtain ⟨Ao27, co27, eo27⟩ := Kd.R_slice HO219.out
     (first | subst eo27 | (injection eo27 with f1_ f2_ f3_; have f4_ := f1_.symm; have f5_ := f3_.symm; clear f1_ f2_ f3_; subst f4_; subst f5_))
     refine hK.out _ _ ((blk_cell BK206.out 0).trans rfl) (fun hHeld => ?_)
     clear hK K
     refine norm_ (a' := ?_) ?_ ?_
     rotate_left
     ·show Act.put _ (some 32) _ = _
      simp only [Act.put, List.setIfInBounds_toArray, List.set_cons_zero, List.set_cons_succ, i64_w, i32_w]
      rfl
     refine one_ (i := 17) (N := some 34) #[true, true, true, true, true, true, true, true, true, true, true, true, true, true, true, true, true, true, false, false] rfl rfl (one_of HT_.out (by kernel_rfl)) (by decide) (fun K hK => ?_)
     refine goes_ Try.func10 (by kernel_rfl) rfl #[.slice Ao27 t217.length co27, .int .i64 a2] (by rfl) rfl rfl (by (try simp only [List.map_toArray, List.map_cons, List.map_nil]); first | done | rfl | (simp only [List.length_drop, List.length_take]; rfl)) ?_
     with_reducible refine (davitref07_Has.calls k _ _ t217 a2 t220 _ ?side1 ?side2 A19.out).mono ?_
     (case side1 => repeat (first | exact (Kd.R_reads' HO219.out).2.2 | (with_reducible refine Kd.C_alloc ?_ _) | (with_reducible refine Kd.C_drewN ?_ _) | (with_reducible refine Kd.C_drew ?_)))
     (case side2 => exact (Kd.R_reads' HO219.out).2.1)
     rintro e w' ⟨rfl, ⟨nd, rfl⟩⟩
     refine ⟨_, rfl, ?_⟩
     refine hK.out _ _ ((blk_cell BK206.out 0).trans rfl) (fun hHeld => ?_)
     clear hK K
     refine norm_ (a' := ?_) ?_ ?_
     rotate_left
     ·show Act.put _ (some 34) _ = _
      simp only [Act.put, List.setIfInBounds_toArray, List.set_cons_zero, List.set_cons_succ, i64_w, i32_w]
      rfl
     refine pure_ (i := 18) (N := some 35) (v := ?_) (a' := ?_) #[true, true, true, true, true, true, true, true, true, true, true, true, true, true, true, true, true, true, true, false] rfl rfl (any_of HT_.out (by kernel_rfl)) (fun _ _ _ h => h) (Or.inl ⟨by rfl, ?_⟩) ?_ ?_
     rotate_left
     ·intro w'
      go_simp
      with_reducible rfl
     rotate_left
     ·simp only [Act.put, List.setIfInBounds_toArray, List.set_cons_zero, List.set_cons_succ, i64_w, i32_w]
      rfl
     refine pure_ (i := 19) (N := some 36) (v := ?_) (a' := ?_) #[true, true, true, true, true, true, true, true, true, true, true, true, true, true, true, true, true, true, true, true] rfl rfl (any_of HT_.out (by kernel_rfl)) (fun _ _ _ h => h) (Or.inl ⟨by rfl, ?_⟩) ?_ ?_
     rotate_left
     ·intro w'
      go_simp
      with_reducible rfl
     rotate_left
     ·simp only [Act.put, List.setIfInBounds_toArray, List.set_cons_zero, List.set_cons_succ, i64_w, i32_w]
      rfl
     refine done_ (done_of HT_.out (by kernel_rfl)) ?_
     try go_wp2
     go_meet
     case rel => exact ⟨_, ((t216 != t220)), (by first | rfl | (simp; done) | (simp [*]; done)), H', ⟨by first | omega | exact Nat.le_refl _⟩, ⟨by (with_reducible repeat (first | refine blk_drewN ?_ _ | refine blk_drew ?_ | refine blk_alloc ?_ _)); exact BK206.out⟩, ⟨by repeat (first | (with_reducible first | exact HB.out | apply below_alloc | apply pw_below_drewN | apply below_drew1 | refine below_set ?_ GE206.out) | exact HB.out)⟩⟩
    ·replace c16 := Bool.eq_false_iff.mpr c16
     subst c16
     have H1 : (davitlaw11_CallsRight.j0 k true l0_0) = some r := by rw [if_neg (show ¬ (false = true) by decide)] at H; exact H
     clear H
     have H := H1
     clear H1
     have H' := Aside0.mk H
     clear H
     try go_wp2
     have n0_ := Aside0.mk (blk_drew BK206.out)
     have n1_ := Aside0.mk (below_drew1 HB.out)
     clear BK206
     clear HB
     have BK206 := n0_
     have HB := n1_
     clear n0_ n1_
     refine start_ (n := 20) (S := fun w' => w'.cell? ⟨gb206, 0, none⟩ = some (.slice A0_0 l0_0.length c0_0)) (ds := []) #[false, false, false, false, false, false, false, false, false, false, false, false, false, false, false, false, false, false, false, false] (by kernel_rfl) rfl rfl ((blk_cell BK206.out 0).trans rfl) (fun hHeld => ?_); refine with_tabW davitlaw11_CallsRight.tab5 davitlaw11_CallsRight.bits5 (fun HT_ HW_ => ?_)
     generalize w12.drew = w28 at BK206 HB hHeld ⊢
     refine pure_ (i := 1) (N := some 18) (v := ?_) (a' := ?_) #[false, true, false, false, false, false, false, false, false, false, false, false, false, false, false, false, false, false, false, false] rfl rfl (any_of HT_.out (by kernel_rfl)) (fun _ _ _ h => h) (Or.inl ⟨by rfl, ?_⟩) ?_ ?_
     rotate_left
     ·intro w'
      go_simp
      with_reducible rfl
     rotate_left
     ·simp only [Act.put, List.setIfInBounds_toArray, List.set_cons_zero, List.set_cons_succ, i64_w, i32_w]
      rfl
     refine pure_ (i := 4) (N := some 21) (v := ?_) (a' := ?_) #[false, true, false, false, true, false, false, false, false, false, false, false, false, false, false, false, false, false, false, false] rfl rfl (any_of HT_.out (by kernel_rfl)) (fun _ _ _ h => h) (Or.inl ⟨by rfl, ?_⟩) ?_ ?_
     rotate_left
     ·intro w'
      go_simp
      with_reducible rfl
     rotate_left
     ·simp only [Act.put, List.setIfInBounds_toArray, List.set_cons_zero, List.set_cons_succ, i64_w, i32_w]
      rfl
     refine take_ (i := 0) (N := some 17) (v := ?_) (a' := ?_) #[true, true, false, false, true, false, false, false, false, false, false, false, false, false, false, false, false, false, false, false] rfl rfl (take_ofW HT_.out HW_.out (by kernel_rfl)) (fun _ _ _ h => h) (Or.inl ⟨by rfl, ?_⟩) hHeld ?_ ?_
     rotate_left
     ·intro w' s0
      go_simp
      with_reducible rfl
     rotate_left
     ·simp only [Act.put, List.setIfInBounds_toArray, List.set_cons_zero, List.set_cons_succ, i64_w, i32_w]
      rfl
     refine take_ (i := 3) (N := some 20) (v := ?_) (a' := ?_) #[true, true, false, true, true, false, false, false, false, false, false, false, false, false, false, false, false, false, false, false] rfl rfl (take_ofW HT_.out HW_.out (by kernel_rfl)) (fun _ _ _ h => h) (Or.inl ⟨by rfl, ?_⟩) hHeld ?_ ?_
     rotate_left
     ·intro w' s0
      go_simp
      with_reducible rfl
     rotate_left
     ·simp only [Act.put, List.setIfInBounds_toArray, List.set_cons_zero, List.set_cons_succ, i64_w, i32_w]
      rfl
     refine one_ (i := 2) (N := some 19) #[true, true, true, true, true, false, false, false, false, false, false, false, false, false, false, false, false, false, false, false] rfl rfl (one_of HT_.out (by kernel_rfl)) (by decide) (fun K hK => ?_)
     refine goes_ Try.func11 (by kernel_rfl) rfl #[.agg #[.slice A0_0 l0_0.length c0_0], .int .i64 a1] (by rfl) rfl rfl (by (try simp only [List.map_toArray, List.map_cons, List.map_nil]); first | done | rfl | (simp only [List.length_drop, List.length_take]; rfl)) ?_
     with_reducible refine (calls_Of.calls _ _ l0_0 a1 t209 _ ?side1 ?side2 A13.out).mono ?_
     (case side1 => repeat (first | exact (Kd.C_below HR0_0.out HB.out) | (with_reducible refine Kd.C_alloc ?_ _) | (with_reducible refine Kd.C_drewN ?_ _) | (with_reducible refine Kd.C_drew ?_)))
     (case side2 => exact HC0_0.out)
     rintro e w29 ⟨v210, rfl, ho0, hb⟩
     refine ⟨_, rfl, ?_⟩
     have n0_ := Aside0.mk (Kd.R_lower ho0 (below_size (by repeat (first | (with_reducible first | exact HB.out | apply below_alloc | apply pw_below_drewN | apply below_drew1 | refine below_set ?_ GE206.out) | exact HB.out))))
     have n1_ := Aside0.mk (blk_below (g := gb206) (o := .cells #[.slice A0_0 l0_0.length c0_0] 24 (0, 0)) (by (with_reducible repeat (first | refine blk_drewN ?_ _ | refine blk_drew ?_ | refine blk_alloc ?_ _)); exact BK206.out) hb)
     have n2_ := Aside0.mk (below_step (by repeat (first | (with_reducible first | exact HB.out | apply below_alloc | apply pw_below_drewN | apply below_drew1 | refine below_set ?_ GE206.out) | exact HB.out)) hb)
     clear BK206
     clear HB
     have HO211 := n0_
     have BK206 := n1_
     have HB := n2_
     clear n0_ n1_ n2_
     (try clear hb)
     (try clear hb2)
     (try clear hk)
     (try clear hi)
     (try clear ho0)
     refine hK.out _ _ ((blk_cell BK206.out 0).trans rfl) (fun hHeld => ?_)
     clear hK K
     refine norm_ (a' := ?_) ?_ ?_
     rotate_left
     ·show Act.put _ (some 19) _ = _
      simp only [Act.put, List.setIfInBounds_toArray, List.set_cons_zero, List.set_cons_succ, i64_w, i32_w]
      rfl
     refine one_ (i := 5) (N := some 22) #[true, true, true, true, true, true, false, false, false, false, false, false, false, false, false, false, false, false, false, false] rfl rfl (one_of HT_.out (by kernel_rfl)) (by decide) (fun K hK => ?_)
     refine goes_ Try.func13 (by kernel_rfl) rfl #[.agg #[.slice A0_0 l0_0.length c0_0], .int .i64 a1] (by rfl) rfl rfl (by (try simp only [List.map_toArray, List.map_cons, List.map_nil]); first | done | rfl | (simp only [List.length_drop, List.length_take]; rfl)) ?_
     with_reducible refine (davitref11_Of.calls k _ _ l0_0 a1 t212 _ ?side1 ?side2 A14.out).mono ?_
     (case side1 => repeat (first | exact (Kd.C_below HR0_0.out HB.out) | (with_reducible refine Kd.C_alloc ?_ _) | (with_reducible refine Kd.C_drewN ?_ _) | (with_reducible refine Kd.C_drew ?_)))
     (case side2 => exact HC0_0.out)
     rintro e w30 ⟨v213, rfl, ho0, hb⟩
     refine ⟨_, rfl, ?_⟩
     have n0_ := Aside0.mk (Kd.R_elder' (by (with_reducible repeat (first | apply Kd.R_alloc | apply Kd.R_drewN | apply Kd.R_drew)); exact HO211.out) (Kd.R_base ho0) hb)
     have n1_ := Aside0.mk (Kd.R_lower (Kd.R_new' ho0 (Kd.R_lt (by (with_reducible repeat (first | apply Kd.R_alloc | apply Kd.R_drewN | apply Kd.R_drew)); exact HO211.out))) (below_size (by repeat (first | (with_reducible first | exact HB.out | apply below_alloc | apply pw_below_drewN | apply below_drew1 | refine below_set ?_ GE206.out) | exact HB.out))))
     have n2_ := Aside0.mk (blk_below (g := gb206) (o := .cells #[.slice A0_0 l0_0.length c0_0] 24 (0, 0)) (by (with_reducible repeat (first | refine blk_drewN ?_ _ | refine blk_drew ?_ | refine blk_alloc ?_ _)); exact BK206.out) hb)
     have n3_ := Aside0.mk (below_step (by repeat (first | (with_reducible first | exact HB.out | apply below_alloc | apply pw_below_drewN | apply below_drew1 | refine below_set ?_ GE206.out) | exact HB.out)) hb)
     clear HO211
     clear BK206
     clear HB
     have HO211 := n0_
     have HO214 := n1_
     have BK206 := n2_
     have HB := n3_
     clear n0_ n1_ n2_ n3_
     (try clear hb)
     (try clear hb2)
     (try clear hk)
     (try clear hi)
     (try clear ho0)
     obtain ⟨Ao31, co31, eo31⟩ := Kd.R_slice HO211.out
     (first | subst eo31 | (injection eo31 with f1_ f2_ f3_; have f4_ := f1_.symm; have f5_ := f3_.symm; clear f1_ f2_ f3_; subst f4_; subst f5_))
     obtain ⟨Ao32, co32, eo32⟩ := Kd.R_slice HO214.out
     (first | subst eo32 | (injection eo32 with f1_ f2_ f3_; have f4_ := f1_.symm; have f5_ := f3_.symm; clear f1_ f2_ f3_; subst f4_; subst f5_))
     refine hK.out _ _ ((blk_cell BK206.out 0).trans rfl) (fun hHeld => ?_)
     clear hK K
     refine norm_ (a' := ?_) ?_ ?_
     rotate_left
     ·show Act.put _ (some 22) _ = _
      simp only [Act.put, List.setIfInBounds_toArray, List.set_cons_zero, List.set_cons_succ, i64_w, i32_w]
      rfl
     refine one_ (i := 6) (N := some 23) #[true, true, true, true, true, true, true, false, false, false, false, false, false, false, false, false, false, false, false, false] rfl rfl (one_of HT_.out (by kernel_rfl)) (by decide) (fun K hK => ?_)
     refine goes_ Try.func12 (by kernel_rfl) rfl #[.slice Ao31 t209.length co31, .slice Ao32 t212.length co32] (by rfl) rfl rfl (by (try simp only [List.map_toArray, List.map_cons, List.map_nil]); first | done | rfl | (simp only [List.length_drop, List.length_take]; rfl)) ?_
     with_reducible refine (davitref02_Ints.calls k _ _ t209 _ _ t212 false _ ?side1 ?side2 ?side3 ?side4 A15.out).mono ?_
     (case side1 => repeat (first | exact (Kd.R_reads' HO211.out).2.2 | (with_reducible refine Kd.C_alloc ?_ _) | (with_reducible refine Kd.C_drewN ?_ _) | (with_reducible refine Kd.C_drew ?_)))
     (case side2 => exact (Kd.R_reads' HO211.out).2.1)
     (case side3 => repeat (first | exact (Kd.R_reads' HO214.out).2.2 | (with_reducible refine Kd.C_alloc ?_ _) | (with_reducible refine Kd.C_drewN ?_ _) | (with_reducible refine Kd.C_drew ?_)))
     (case side4 => exact (Kd.R_reads' HO214.out).2.1)
     rintro e w' ⟨rfl, ⟨nd, rfl⟩⟩
     refine ⟨_, rfl, ?_⟩
     refine hK.out _ _ ((blk_cell BK206.out 0).trans rfl) (fun hHeld => ?_)
     clear hK K
     refine norm_ (a' := ?_) ?_ ?_
     rotate_left
     ·show Act.put _ (some 23) _ = _
      simp only [Act.put, List.setIfInBounds_toArray, List.set_cons_zero, List.set_cons_succ, i64_w, i32_w]
      rfl
     refine pure_ (i := 7) (N := some 24) (v := ?_) (a' := ?_) #[true, true, true, true, true, true, true, true, false, false, false, false, false, false, false, false, false, false, false, false] rfl rfl (any_of HT_.out (by kernel_rfl)) (fun _ _ _ h => h) (Or.inl ⟨by rfl, ?_⟩) ?_ ?_
     rotate_left
     ·intro w'
      go_simp
      with_reducible rfl
     rotate_left
     ·simp only [Act.put, List.setIfInBounds_toArray, List.set_cons_zero, List.set_cons_succ, i64_w, i32_w]
      rfl
     refine pure_ (i := 8) (N := some 25) (v := ?_) (a' := ?_) #[true, true, true, true, true, true, true, true, true, false, false, false, false, false, false, false, false, false, false, false] rfl rfl (any_of HT_.out (by kernel_rfl)) (fun _ _ _ h => h) (Or.inl ⟨by rfl, ?_⟩) ?_ ?_
     rotate_left
     ·intro w'
      go_simp
      with_reducible rfl
     rotate_left
     ·simp only [Act.put, List.setIfInBounds_toArray, List.set_cons_zero, List.set_cons_succ, i64_w, i32_w]
      rfl
     refine pure_ (i := 9) (N := some 26) (v := undef) (a' := ?_) #[true, true, true, true, true, true, true, true, true, true, false, false, false, false, false, false, false, false, false, false] rfl rfl (any_of HT_.out (by kernel_rfl)) (fun _ _ _ h => h) (Or.inr ⟨by rfl, rfl⟩) ?_ ?_
     rotate_left
     ·simp only [Act.put, List.setIfInBounds_toArray, List.set_cons_zero, List.set_cons_succ, i64_w, i32_w]
      rfl
     refine pure_ (i := 10) (N := some 27) (v := undef) (a' := ?_) #[true, true, true, true, true, true, true, true, true, true, true, false, false, false, false, false, false, false, false, false] rfl rfl (any_of HT_.out (by kernel_rfl)) (fun _ _ _ h => h) (Or.inr ⟨by rfl, rfl⟩) ?_ ?_
     rotate_left
     ·simp only [Act.put, List.setIfInBounds_toArray, List.set_cons_zero, List.set_cons_succ, i64_w, i32_w]
      rfl
     refine pure_ (i := 11) (N := some 28) (v := undef) (a' := ?_) #[true, true, true, true, true, true, true, true, true, true, true, true, false, false, false, false, false, false, false, false] rfl rfl (any_of HT_.out (by kernel_rfl)) (fun _ _ _ h => h) (Or.inr ⟨by rfl, rfl⟩) ?_ ?_
     rotate_left
     ·simp only [Act.put, List.setIfInBounds_toArray, List.set_cons_zero, List.set_cons_succ, i64_w, i32_w]
      rfl
     refine pure_ (i := 12) (N := some 29) (v := undef) (a' := ?_) #[true, true, true, true, true, true, true, true, true, true, true, true, true, false, false, false, false, false, false, false] rfl rfl (any_of HT_.out (by kernel_rfl)) (fun _ _ _ h => h) (Or.inr ⟨by rfl, rfl⟩) ?_ ?_
     rotate_left
     ·simp only [Act.put, List.setIfInBounds_toArray, List.set_cons_zero, List.set_cons_succ, i64_w, i32_w]
      rfl
     refine pure_ (i := 13) (N := some 30) (v := undef) (a' := ?_) #[true, true, true, true, true, true, true, true, true, true, true, true, true, true, false, false, false, false, false, false] rfl rfl (any_of HT_.out (by kernel_rfl)) (fun _ _ _ h => h) (Or.inr ⟨by rfl, rfl⟩) ?_ ?_
     rotate_left
     ·simp only [Act.put, List.setIfInBounds_toArray, List.set_cons_zero, List.set_cons_succ, i64_w, i32_w]
      rfl
     refine pure_ (i := 14) (N := some 31) (v := undef) (a' := ?_) #[true, true, true, true, true, true, true, true, true, true, true, true, true, true, true, false, false, false, false, false] rfl rfl (any_of HT_.out (by kernel_rfl)) (fun _ _ _ h => h) (Or.inr ⟨by rfl, rfl⟩) ?_ ?_
     rotate_left
     ·simp only [Act.put, List.setIfInBounds_toArray, List.set_cons_zero, List.set_cons_succ, i64_w, i32_w]
      rfl
     refine pure_ (i := 15) (N := some 32) (v := undef) (a' := ?_) #[true, true, true, true, true, true, true, true, true, true, true, true, true, true, true, true, false, false, false, false] rfl rfl (any_of HT_.out (by kernel_rfl)) (fun _ _ _ h => h) (Or.inr ⟨by rfl, rfl⟩) ?_ ?_
     rotate_left
     ·simp only [Act.put, List.setIfInBounds_toArray, List.set_cons_zero, List.set_cons_succ, i64_w, i32_w]
      rfl
     refine pure_ (i := 16) (N := some 33) (v := undef) (a' := ?_) #[true, true, true, true, true, true, true, true, true, true, true, true, true, true, true, true, true, false, false, false] rfl rfl (any_of HT_.out (by kernel_rfl)) (fun _ _ _ h => h) (Or.inr ⟨by rfl, rfl⟩) ?_ ?_
     rotate_left
     ·simp only [Act.put, List.setIfInBounds_toArray, List.set_cons_zero, List.set_cons_succ, i64_w, i32_w]
      rfl
     refine pure_ (i := 17) (N := some 34) (v := undef) (a' := ?_) #[true, true, true, true, true, true, true, true, true, true, true, true, true, true, true, true, true, true, false, false] rfl rfl (any_of HT_.out (by kernel_rfl)) (fun _ _ _ h => h) (Or.inr ⟨by rfl, rfl⟩) ?_ ?_
     rotate_left
     ·simp only [Act.put, List.setIfInBounds_toArray, List.set_cons_zero, List.set_cons_succ, i64_w, i32_w]
      rfl
     refine pure_ (i := 18) (N := some 35) (v := undef) (a' := ?_) #[true, true, true, true, true, true, true, true, true, true, true, true, true, true, true, true, true, true, true, false] rfl rfl (any_of HT_.out (by kernel_rfl)) (fun _ _ _ h => h) (Or.inr ⟨by rfl, rfl⟩) ?_ ?_
     rotate_left
     ·simp only [Act.put, List.setIfInBounds_toArray, List.set_cons_zero, List.set_cons_succ, i64_w, i32_w]
      rfl
     refine pure_ (i := 19) (N := some 36) (v := ?_) (a' := ?_) #[true, true, true, true, true, true, true, true, true, true, true, true, true, true, true, true, true, true, true, true] rfl rfl (any_of HT_.out (by kernel_rfl)) (fun _ _ _ h => h) (Or.inl ⟨by rfl, ?_⟩) ?_ ?_
     rotate_left
     ·intro w'
      go_simp
      with_reducible rfl
     rotate_left
     ·simp only [Act.put, List.setIfInBounds_toArray, List.set_cons_zero, List.set_cons_succ, i64_w, i32_w]
      rfl
     refine done_ (done_of HT_.out (by kernel_rfl)) ?_
     try go_wp2
     go_meet
     case rel => exact ⟨_, (true), (by first | rfl | (simp; done) | (simp [*]; done)), H', ⟨by first | omega | exact Nat.le_refl _⟩, ⟨by (with_reducible repeat (first | refine blk_drewN ?_ _ | refine blk_drew ?_ | refine blk_alloc ?_ _)); exact BK206.out⟩, ⟨by repeat (first | (with_reducible first | exact HB.out | apply below_alloc | apply pw_below_drewN | apply below_drew1 | refine below_set ?_ GE206.out) | exact HB.out)⟩⟩
   case rest =>
    clear HC8
    try clear c1
    try clear p2
    try clear c5
    try clear c6
    try clear c7
    try clear c9
    try clear c10
    try clear c11
    try clear c12
    try clear c13
    try clear c14
    try clear c16
    try clear hcz11_0
    try clear hfz11_0
    obtain ⟨kq, x36_7, rfl, HA, HJ7, BK206, HB⟩ := hcut
    cases kq with
    | zero => exact absurd HA.out (by simp [davitlaw11_CallsRight.j0])
    | succ kj7 =>
     have H := HA.out
     clear HA
     simp only [davitlaw11_CallsRight.j0] at H
     by_cases c33 : x36_7 = true
     ·subst c33
      have H1 : (some false) = some r := by rw [if_pos rfl] at H; exact H
      clear H
      have H := H1
      clear H1
      obtain rfl := Option.some.inj H
      go_wp2
      go_ret
      exact ⟨by first | rfl | (simp [errW_none, errW_some] <;> rfl) | (simp [*, errW_none, errW_some] <;> rfl), by repeat (first | (with_reducible first | exact HB.out | apply below_alloc | apply pw_below_drewN | apply below_drew1 | refine below_set ?_ GE206.out) | exact HB.out)⟩
     ·replace c33 := Bool.eq_false_iff.mpr c33
      subst c33
      have H1 : ((calls_Used.f kj7 l0_0).bind fun t221 => (if (t221.length : Int) = (l0_0.length : Int) then (davitlaw11_CallsRight.l0 kj7 t221 0 l0_0) else (some false))) = some r := by rw [if_neg (show ¬ (false = true) by decide)] at H; exact H
      clear H
      have H := H1
      clear H1
      replace H := Option.bind_eq_some_iff.mp H
      obtain ⟨t221, A340, H⟩ := H
      replace H : (if (t221.length : Int) = (l0_0.length : Int) then (davitlaw11_CallsRight.l0 kj7 t221 0 l0_0) else (some false)) = some r := H
      have A34 := Aside0.mk A340
      clear A340
      by_cases c35 : (t221.length : Int) = (l0_0.length : Int)
      ·rw [if_pos c35] at H
       have c35b0 : ((t221.length : Int) == (l0_0.length : Int)) = true := beq_iff_eq.mpr c35
       have c35b1 : ((t221.length : Int) != (l0_0.length : Int)) = false := bne_eq_false_iff_eq.mpr c35
       have c35b2 : (t221.length == l0_0.length) = true := by first | simpa using c35 | (simp at c35 ⊢; omega)
       clear c35
       have H' := Aside0.mk H
       clear H
       have hcz36_0 : wc.cell? ⟨gb206, 0, none⟩ = some (.slice A0_0 l0_0.length c0_0) := (blk_cell BK206.out 0).trans rfl
       have hfz36_0 := blk_frozen BK206.out 0
       go_wp2_with (first | ((with_reducible refine gate_callee (f := 15) rfl ?_); refine goesL_ (some 38) rfl rfl Try.func15 (by kernel_rfl) rfl #[.agg #[.slice A0_0 l0_0.length c0_0]] rfl (by (try simp only [List.map_toArray, List.map_cons, List.map_nil]); first | done | rfl | (simp only [List.length_drop, List.length_take]; rfl)) ?_; (with_reducible refine (calls_Used.calls kj7 _ _ l0_0 t221 _ ?side1 ?side2 A34.out).mono ?_); (case side1 => repeat (first | exact (Kd.C_below HR0_0.out HB.out) | (with_reducible refine Kd.C_alloc ?_ _) | (with_reducible refine Kd.C_drewN ?_ _) | (with_reducible refine Kd.C_drew ?_))); (case side2 => exact HC0_0.out); rintro e w37 ⟨v222, rfl, ho0, hb⟩; refine ⟨_, rfl, ?_⟩; have n0_ := Aside0.mk (Kd.R_lower ho0 (below_size (by repeat (first | (with_reducible first | exact HB.out | apply below_alloc | apply pw_below_drewN | apply below_drew1 | refine below_set ?_ GE206.out) | exact HB.out)))); have n1_ := Aside0.mk (blk_below (g := gb206) (o := .cells #[.slice A0_0 l0_0.length c0_0] 24 (0, 0)) (by (with_reducible repeat (first | refine blk_drewN ?_ _ | refine blk_drew ?_ | refine blk_alloc ?_ _)); exact BK206.out) hb); have n2_ := Aside0.mk (below_step (by repeat (first | (with_reducible first | exact HB.out | apply below_alloc | apply pw_below_drewN | apply below_drew1 | refine below_set ?_ GE206.out) | exact HB.out)) hb); clear BK206; clear HB; have HO223 := n0_; have BK206 := n1_; have HB := n2_; clear n0_ n1_ n2_; (try clear hb); (try clear hb2); (try clear hk); (try clear hi); (try clear ho0); obtain ⟨Ao38, co38, eo38⟩ := Kd.R_slice HO223.out; subst eo38; have hcz39_0 : w37.cell? ⟨gb206, 0, none⟩ = some (.slice A0_0 l0_0.length c0_0) := (blk_cell BK206.out 0).trans rfl; have hfz39_0 := blk_frozen BK206.out 0))
       go_loopg [8] kj7 (fun kq v8 w' => ∃ (x8_2 : Int), v8 = .int .i64 x8_2 ∧ Aside0 (davitlaw11_CallsRight.l0 kq t221 x8_2 l0_0 = some r) ∧ Aside0 (kq ≤ kj7) ∧ Aside0 (Kd.R Kd.bool 4 w' w.heap.size (fun _ => True) (.slice Ao38 t221.length co38) t221) ∧ Aside0 (w'.heap[gb206]? = some (.cells #[(.slice A0_0 l0_0.length c0_0)] 24 (0, 0))) ∧ Aside0 (Below w.heap.size w w'))
       case atStart => exact ⟨(0), (by first | rfl | (simp; done) | (simp [*]; done)), H', ⟨Nat.le_refl _⟩, ⟨by (with_reducible repeat (first | apply Kd.R_alloc | apply Kd.R_drewN | apply Kd.R_drew)); exact HO223.out⟩, ⟨by (with_reducible repeat (first | refine blk_drewN ?_ _ | refine blk_drew ?_ | refine blk_alloc ?_ _)); exact BK206.out⟩, ⟨by repeat (first | (with_reducible first | exact HB.out | apply below_alloc | apply pw_below_drewN | apply below_drew1 | refine below_set ?_ GE206.out) | exact HB.out)⟩⟩
       case round =>
        clear H'
        try clear c1
        try clear p2
        try clear c3
        try clear c5
        try clear c6
        try clear c7
        try clear c9
        try clear c10
        try clear c11
        try clear c12
        try clear c13
        try clear c14
        try clear c15
        try clear c16
        try clear c33
        try clear c35
        try clear c35b0
        try clear c35b1
        try clear c35b2
        try clear hcz11_0
        try clear hcz36_0
        try clear hcz39_0
        try clear hfz11_0
        try clear hfz36_0
        try clear hfz39_0
        try clear p2
        obtain ⟨x8_2, rfl, HA, HK2, HO_7, BK206, HB⟩ := hrel
        cases gk with
        | zero => exact absurd HA.out (by simp [davitlaw11_CallsRight.l0])
        | succ k2 =>
         have H := HA.out
         clear HA
         simp only [davitlaw11_CallsRight.l0] at H
         by_cases c40 : x8_2 < (t221.length : Int)
         ·rw [if_pos c40] at H
          have c40b0 : decide (x8_2 < (t221.length : Int)) = true := decide_eq_true c40
          clear c40
          by_cases c41 : 0 ≤ x8_2
          ·rw [if_pos c41] at H
           have c41b0 : decide (0 ≤ x8_2) = true := decide_eq_true c41
           clear c41
           by_cases c42 : x8_2 = 0
           ·rw [if_pos c42] at H
            have c42b0 : (x8_2 == 0) = true := beq_iff_eq.mpr c42
            have c42b1 : (x8_2 != 0) = false := bne_eq_false_iff_eq.mpr c42
            clear c42
            by_cases c43 : ((rdOf false t221 x8_2) != true) = true
            ·rw [if_pos c43] at H
             have c43b0 : ((rdOf false t221 x8_2) != true) = true := c43
             (try (have c43b1 : decide ((rdOf false t221 x8_2) = true) = false := by simpa using c43))
             (try (have c43b2 : ((rdOf false t221 x8_2) == true) = false := by simpa using c43))
             (try (have c43b3 : ¬ ((rdOf false t221 x8_2) = true) := by simpa using c43))
             clear c43
             obtain rfl := Option.some.inj H
             try go_wp2
             have n0_ := Aside0.mk (Kd.R_drew HO_7.out)
             have n1_ := Aside0.mk (blk_drew BK206.out)
             have n2_ := Aside0.mk (below_drew1 HB.out)
             clear HO_7
             clear BK206
             clear HB
             have HO_7 := n0_
             have BK206 := n1_
             have HB := n2_
             clear n0_ n1_ n2_
             have p224 : 0 ≤ (x8_2 : Int) := of_decide_eq_true (by first | (with_reducible assumption) | assumption)
             have q224 : x8_2 < (t221.length : Int) := of_decide_eq_true (by first | (with_reducible assumption) | assumption)
             obtain ⟨ad224, e224, hx224_0⟩ := Kd.at_bool (Kd.R_reads' HO_7.out).2.2 x8_2 p224 q224
             cases e224
             replace p224 := eq_true p224
             replace q224 := eq_true q224
             refine start_ (n := 13) (S := fun w' => w'.cell? (ad224.add (x8_2).toNat) = some (.bool (rdOf false t221 x8_2))) (ds := []) #[false, false, false, false, false, false, false, false, false, false, false, false, false] (by kernel_rfl) rfl rfl (hx224_0) (fun hHeld => ?_); refine with_tabW davitlaw11_CallsRight.tab13 davitlaw11_CallsRight.bits13 (fun HT_ HW_ => ?_)
             generalize wr.drew = w44 at HO_7 BK206 HB hx224_0 hHeld ⊢
             refine pure_ (i := 0) (N := some 51) (v := ?_) (a' := ?_) #[true, false, false, false, false, false, false, false, false, false, false, false, false] rfl rfl (any_of HT_.out (by kernel_rfl)) (fun _ _ _ h => h) (Or.inl ⟨by rfl, ?_⟩) ?_ ?_
             rotate_left
             ·intro w'
              go_simp
              with_reducible rfl
             rotate_left
             ·simp only [Act.put, List.setIfInBounds_toArray, List.set_cons_zero, List.set_cons_succ, i64_w, i32_w]
              rfl
             refine pure_ (i := 1) (N := some 52) (v := ?_) (a' := ?_) #[true, true, false, false, false, false, false, false, false, false, false, false, false] rfl rfl (any_of HT_.out (by kernel_rfl)) (fun _ _ _ h => h) (Or.inl ⟨by rfl, ?_⟩) ?_ ?_
             rotate_left
             ·intro w'
              go_simp
              with_reducible rfl
             rotate_left
             ·simp only [Act.put, List.setIfInBounds_toArray, List.set_cons_zero, List.set_cons_succ, i64_w, i32_w]
              rfl
             refine pure_ (i := 2) (N := some 53) (v := ?_) (a' := ?_) #[true, true, true, false, false, false, false, false, false, false, false, false, false] rfl rfl (any_of HT_.out (by kernel_rfl)) (fun _ _ _ h => h) (Or.inl ⟨by rfl, ?_⟩) ?_ ?_
             rotate_left
             ·intro w'
              go_simp
              with_reducible rfl
             rotate_left
             ·simp only [Act.put, List.setIfInBounds_toArray, List.set_cons_zero, List.set_cons_succ, i64_w, i32_w]
              rfl
             refine pure_ (i := 4) (N := some 55) (v := ?_) (a' := ?_) #[true, true, true, false, true, false, false, false, false, false, false, false, false] rfl rfl (any_of HT_.out (by kernel_rfl)) (fun _ _ _ h => h) (Or.inl ⟨by rfl, ?_⟩) ?_ ?_
             rotate_left
             ·intro w'
              go_simp
              with_reducible rfl
             rotate_left
             ·simp only [Act.put, List.setIfInBounds_toArray, List.set_cons_zero, List.set_cons_succ, i64_w, i32_w]
              rfl
             refine pure_ (i := 5) (N := some 56) (v := ?_) (a' := ?_) #[true, true, true, false, true, true, false, false, false, false, false, false, false] rfl rfl (any_of HT_.out (by kernel_rfl)) (fun _ _ _ h => h) (Or.inl ⟨by rfl, ?_⟩) ?_ ?_
             rotate_left
             ·intro w'
              go_simp
              with_reducible rfl
             rotate_left
             ·simp only [Act.put, List.setIfInBounds_toArray, List.set_cons_zero, List.set_cons_succ, i64_w, i32_w]
              rfl
             refine pure_ (i := 6) (N := some 57) (v := ?_) (a' := ?_) #[true, true, true, false, true, true, true, false, false, false, false, false, false] rfl rfl (any_of HT_.out (by kernel_rfl)) (fun _ _ _ h => h) (Or.inl ⟨by rfl, ?_⟩) ?_ ?_
             rotate_left
             ·intro w'
              go_simp
              with_reducible rfl
             rotate_left
             ·simp only [Act.put, List.setIfInBounds_toArray, List.set_cons_zero, List.set_cons_succ, i64_w, i32_w]
              rfl
             refine pure_ (i := 7) (N := some 58) (v := undef) (a' := ?_) #[true, true, true, false, true, true, true, true, false, false, false, false, false] rfl rfl (any_of HT_.out (by kernel_rfl)) (fun _ _ _ h => h) (Or.inr ⟨by rfl, rfl⟩) ?_ ?_
             rotate_left
             ·simp only [Act.put, List.setIfInBounds_toArray, List.set_cons_zero, List.set_cons_succ, i64_w, i32_w]
              rfl
             refine pure_ (i := 8) (N := some 59) (v := undef) (a' := ?_) #[true, true, true, false, true, true, true, true, true, false, false, false, false] rfl rfl (any_of HT_.out (by kernel_rfl)) (fun _ _ _ h => h) (Or.inr ⟨by rfl, rfl⟩) ?_ ?_
             rotate_left
             ·simp only [Act.put, List.setIfInBounds_toArray, List.set_cons_zero, List.set_cons_succ, i64_w, i32_w]
              rfl
             refine pure_ (i := 9) (N := some 60) (v := undef) (a' := ?_) #[true, true, true, false, true, true, true, true, true, true, false, false, false] rfl rfl (any_of HT_.out (by kernel_rfl)) (fun _ _ _ h => h) (Or.inr ⟨by rfl, rfl⟩) ?_ ?_
             rotate_left
             ·simp only [Act.put, List.setIfInBounds_toArray, List.set_cons_zero, List.set_cons_succ, i64_w, i32_w]
              rfl
             refine pure_ (i := 10) (N := some 61) (v := undef) (a' := ?_) #[true, true, true, false, true, true, true, true, true, true, true, false, false] rfl rfl (any_of HT_.out (by kernel_rfl)) (fun _ _ _ h => h) (Or.inr ⟨by rfl, rfl⟩) ?_ ?_
             rotate_left
             ·simp only [Act.put, List.setIfInBounds_toArray, List.set_cons_zero, List.set_cons_succ, i64_w, i32_w]
              rfl
             refine pure_ (i := 11) (N := some 62) (v := ?_) (a' := ?_) #[true, true, true, false, true, true, true, true, true, true, true, true, false] rfl rfl (any_of HT_.out (by kernel_rfl)) (fun _ _ _ h => h) (Or.inl ⟨by rfl, ?_⟩) ?_ ?_
             rotate_left
             ·intro w'
              go_simp
              with_reducible rfl
             rotate_left
             ·simp only [Act.put, List.setIfInBounds_toArray, List.set_cons_zero, List.set_cons_succ, i64_w, i32_w]
              rfl
             refine take_ (i := 3) (N := some 54) (v := ?_) (a' := ?_) #[true, true, true, true, true, true, true, true, true, true, true, true, false] rfl rfl (take_ofW HT_.out HW_.out (by kernel_rfl)) (fun _ _ _ h => h) (Or.inl ⟨by rfl, ?_⟩) hHeld ?_ ?_
             rotate_left
             ·intro w' s0
              go_simp
              with_reducible rfl
             rotate_left
             ·simp only [Act.put, List.setIfInBounds_toArray, List.set_cons_zero, List.set_cons_succ, i64_w, i32_w]
              rfl
             refine pure_ (i := 12) (N := some 63) (v := ?_) (a' := ?_) #[true, true, true, true, true, true, true, true, true, true, true, true, true] rfl rfl (any_of HT_.out (by kernel_rfl)) (fun _ _ _ h => h) (Or.inl ⟨by rfl, ?_⟩) ?_ ?_
             rotate_left
             ·intro w'
              go_simp
              with_reducible rfl
             rotate_left
             ·simp only [Act.put, List.setIfInBounds_toArray, List.set_cons_zero, List.set_cons_succ, i64_w, i32_w]
              rfl
             refine done_ (done_of HT_.out (by kernel_rfl)) ?_
             try go_wp2
             go_ret
             exact ⟨by first | rfl | (simp [errW_none, errW_some] <;> rfl) | (simp [*, errW_none, errW_some] <;> rfl), by repeat (first | (with_reducible first | exact HB.out | apply below_alloc | apply pw_below_drewN | apply below_drew1 | refine below_set ?_ GE206.out) | exact HB.out)⟩
            ·rw [if_neg c43] at H
             have c43b0 : ((rdOf false t221 x8_2) != true) = false := by simpa using c43
             (try (have c43b1 : decide ((rdOf false t221 x8_2) = true) = true := by simpa using c43))
             (try (have c43b2 : ((rdOf false t221 x8_2) == true) = true := by simpa using c43))
             clear c43
             have H' := Aside0.mk H
             clear H
             try go_wp2
             have n0_ := Aside0.mk (Kd.R_drew HO_7.out)
             have n1_ := Aside0.mk (blk_drew BK206.out)
             have n2_ := Aside0.mk (below_drew1 HB.out)
             clear HO_7
             clear BK206
             clear HB
             have HO_7 := n0_
             have BK206 := n1_
             have HB := n2_
             clear n0_ n1_ n2_
             have p224 : 0 ≤ (x8_2 : Int) := of_decide_eq_true (by first | (with_reducible assumption) | assumption)
             have q224 : x8_2 < (t221.length : Int) := of_decide_eq_true (by first | (with_reducible assumption) | assumption)
             obtain ⟨ad224, e224, hx224_0⟩ := Kd.at_bool (Kd.R_reads' HO_7.out).2.2 x8_2 p224 q224
             cases e224
             replace p224 := eq_true p224
             replace q224 := eq_true q224
             refine start_ (n := 13) (S := fun w' => w'.cell? (ad224.add (x8_2).toNat) = some (.bool (rdOf false t221 x8_2))) (ds := []) #[false, false, false, false, false, false, false, false, false, false, false, false, false] (by kernel_rfl) rfl rfl (hx224_0) (fun hHeld => ?_); refine with_tabW davitlaw11_CallsRight.tab13 davitlaw11_CallsRight.bits13 (fun HT_ HW_ => ?_)
             generalize wr.drew = w45 at HO_7 BK206 HB hx224_0 hHeld ⊢
             refine pure_ (i := 0) (N := some 51) (v := ?_) (a' := ?_) #[true, false, false, false, false, false, false, false, false, false, false, false, false] rfl rfl (any_of HT_.out (by kernel_rfl)) (fun _ _ _ h => h) (Or.inl ⟨by rfl, ?_⟩) ?_ ?_
             rotate_left
             ·intro w'
              go_simp
              with_reducible rfl
             rotate_left
             ·simp only [Act.put, List.setIfInBounds_toArray, List.set_cons_zero, List.set_cons_succ, i64_w, i32_w]
              rfl
             refine pure_ (i := 1) (N := some 52) (v := ?_) (a' := ?_) #[true, true, false, false, false, false, false, false, false, false, false, false, false] rfl rfl (any_of HT_.out (by kernel_rfl)) (fun _ _ _ h => h) (Or.inl ⟨by rfl, ?_⟩) ?_ ?_
             rotate_left
             ·intro w'
              go_simp
              with_reducible rfl
             rotate_left
             ·simp only [Act.put, List.setIfInBounds_toArray, List.set_cons_zero, List.set_cons_succ, i64_w, i32_w]
              rfl
             refine pure_ (i := 2) (N := some 53) (v := ?_) (a' := ?_) #[true, true, true, false, false, false, false, false, false, false, false, false, false] rfl rfl (any_of HT_.out (by kernel_rfl)) (fun _ _ _ h => h) (Or.inl ⟨by rfl, ?_⟩) ?_ ?_
             rotate_left
             ·intro w'
              go_simp
              with_reducible rfl
             rotate_left
             ·simp only [Act.put, List.setIfInBounds_toArray, List.set_cons_zero, List.set_cons_succ, i64_w, i32_w]
              rfl
             refine pure_ (i := 4) (N := some 55) (v := ?_) (a' := ?_) #[true, true, true, false, true, false, false, false, false, false, false, false, false] rfl rfl (any_of HT_.out (by kernel_rfl)) (fun _ _ _ h => h) (Or.inl ⟨by rfl, ?_⟩) ?_ ?_
             rotate_left
             ·intro w'
              go_simp
              with_reducible rfl
             rotate_left
             ·simp only [Act.put, List.setIfInBounds_toArray, List.set_cons_zero, List.set_cons_succ, i64_w, i32_w]
              rfl
             refine pure_ (i := 5) (N := some 56) (v := ?_) (a' := ?_) #[true, true, true, false, true, true, false, false, false, false, false, false, false] rfl rfl (any_of HT_.out (by kernel_rfl)) (fun _ _ _ h => h) (Or.inl ⟨by rfl, ?_⟩) ?_ ?_
             rotate_left
             ·intro w'
              go_simp
              with_reducible rfl
             rotate_left
             ·simp only [Act.put, List.setIfInBounds_toArray, List.set_cons_zero, List.set_cons_succ, i64_w, i32_w]
              rfl
             refine pure_ (i := 6) (N := some 57) (v := ?_) (a' := ?_) #[true, true, true, false, true, true, true, false, false, false, false, false, false] rfl rfl (any_of HT_.out (by kernel_rfl)) (fun _ _ _ h => h) (Or.inl ⟨by rfl, ?_⟩) ?_ ?_
             rotate_left
             ·intro w'
              go_simp
              with_reducible rfl
             rotate_left
             ·simp only [Act.put, List.setIfInBounds_toArray, List.set_cons_zero, List.set_cons_succ, i64_w, i32_w]
              rfl
             refine pure_ (i := 7) (N := some 58) (v := undef) (a' := ?_) #[true, true, true, false, true, true, true, true, false, false, false, false, false] rfl rfl (any_of HT_.out (by kernel_rfl)) (fun _ _ _ h => h) (Or.inr ⟨by rfl, rfl⟩) ?_ ?_
             rotate_left
             ·simp only [Act.put, List.setIfInBounds_toArray, List.set_cons_zero, List.set_cons_succ, i64_w, i32_w]
              rfl
             refine pure_ (i := 8) (N := some 59) (v := undef) (a' := ?_) #[true, true, true, false, true, true, true, true, true, false, false, false, false] rfl rfl (any_of HT_.out (by kernel_rfl)) (fun _ _ _ h => h) (Or.inr ⟨by rfl, rfl⟩) ?_ ?_
             rotate_left
             ·simp only [Act.put, List.setIfInBounds_toArray, List.set_cons_zero, List.set_cons_succ, i64_w, i32_w]
              rfl
             refine pure_ (i := 9) (N := some 60) (v := undef) (a' := ?_) #[true, true, true, false, true, true, true, true, true, true, false, false, false] rfl rfl (any_of HT_.out (by kernel_rfl)) (fun _ _ _ h => h) (Or.inr ⟨by rfl, rfl⟩) ?_ ?_
             rotate_left
             ·simp only [Act.put, List.setIfInBounds_toArray, List.set_cons_zero, List.set_cons_succ, i64_w, i32_w]
              rfl
             refine pure_ (i := 10) (N := some 61) (v := undef) (a' := ?_) #[true, true, true, false, true, true, true, true, true, true, true, false, false] rfl rfl (any_of HT_.out (by kernel_rfl)) (fun _ _ _ h => h) (Or.inr ⟨by rfl, rfl⟩) ?_ ?_
             rotate_left
             ·simp only [Act.put, List.setIfInBounds_toArray, List.set_cons_zero, List.set_cons_succ, i64_w, i32_w]
              rfl
             refine pure_ (i := 11) (N := some 62) (v := ?_) (a' := ?_) #[true, true, true, false, true, true, true, true, true, true, true, true, false] rfl rfl (any_of HT_.out (by kernel_rfl)) (fun _ _ _ h => h) (Or.inl ⟨by rfl, ?_⟩) ?_ ?_
             rotate_left
             ·intro w'
              go_simp
              with_reducible rfl
             rotate_left
             ·simp only [Act.put, List.setIfInBounds_toArray, List.set_cons_zero, List.set_cons_succ, i64_w, i32_w]
              rfl
             refine take_ (i := 3) (N := some 54) (v := ?_) (a' := ?_) #[true, true, true, true, true, true, true, true, true, true, true, true, false] rfl rfl (take_ofW HT_.out HW_.out (by kernel_rfl)) (fun _ _ _ h => h) (Or.inl ⟨by rfl, ?_⟩) hHeld ?_ ?_
             rotate_left
             ·intro w' s0
              go_simp
              with_reducible rfl
             rotate_left
             ·simp only [Act.put, List.setIfInBounds_toArray, List.set_cons_zero, List.set_cons_succ, i64_w, i32_w]
              rfl
             refine pure_ (i := 12) (N := some 63) (v := ?_) (a' := ?_) #[true, true, true, true, true, true, true, true, true, true, true, true, true] rfl rfl (any_of HT_.out (by kernel_rfl)) (fun _ _ _ h => h) (Or.inl ⟨by rfl, ?_⟩) ?_ ?_
             rotate_left
             ·intro w'
              go_simp
              with_reducible rfl
             rotate_left
             ·simp only [Act.put, List.setIfInBounds_toArray, List.set_cons_zero, List.set_cons_succ, i64_w, i32_w]
              rfl
             refine done_ (done_of HT_.out (by kernel_rfl)) ?_
             try go_wp2
             go_roundg k2
             case measure => have := HJ7.out; have := HK2.out; omega
             case rel => exact ⟨(wrap64 (x8_2 + 1)), (by first | rfl | (simp; done) | (simp [*]; done)), H', ⟨by have := HJ7.out; have := HK2.out; omega⟩, ⟨by (with_reducible repeat (first | apply Kd.R_alloc | apply Kd.R_drewN | apply Kd.R_drew)); exact HO_7.out⟩, ⟨by (with_reducible repeat (first | refine blk_drewN ?_ _ | refine blk_drew ?_ | refine blk_alloc ?_ _)); exact BK206.out⟩, ⟨by repeat (first | (with_reducible first | exact HB.out | apply below_alloc | apply pw_below_drewN | apply below_drew1 | refine below_set ?_ GE206.out) | exact HB.out)⟩⟩
           ·rw [if_neg c42] at H
            have c42b0 : (x8_2 == 0) = false := beq_eq_false_iff_ne.mpr c42
            have c42b1 : (x8_2 != 0) = true := bne_iff_ne.mpr c42
            replace H := Option.bind_eq_some_iff.mp H
            obtain ⟨t225, A460, H⟩ := H
            replace H : ((davitref07_Has.f k2 t225 x8_2).bind fun t228 => (if ((rdOf false t221 x8_2) != t228) = true then (some false) else (davitlaw11_CallsRight.l0 k2 t221 (wrap64 (x8_2 + 1)) l0_0))) = some r := H
            have A46 := Aside0.mk A460
            clear A460
            replace H := Option.bind_eq_some_iff.mp H
            obtain ⟨t228, A470, H⟩ := H
            replace H : (if ((rdOf false t221 x8_2) != t228) = true then (some false) else (davitlaw11_CallsRight.l0 k2 t221 (wrap64 (x8_2 + 1)) l0_0)) = some r := H
            have A47 := Aside0.mk A470
            clear A470
            by_cases c48 : ((rdOf false t221 x8_2) != t228) = true
            ·rw [if_pos c48] at H
             have c48b0 : ((rdOf false t221 x8_2) != t228) = true := c48
             (try (have c48b1 : decide ((rdOf false t221 x8_2) = t228) = false := by simpa using c48))
             (try (have c48b2 : ((rdOf false t221 x8_2) == t228) = false := by simpa using c48))
             (try (have c48b3 : ¬ ((rdOf false t221 x8_2) = t228) := by simpa using c48))
             clear c48
             obtain rfl := Option.some.inj H
             try go_wp2
             have n0_ := Aside0.mk (Kd.R_drew HO_7.out)
             have n1_ := Aside0.mk (blk_drew BK206.out)
             have n2_ := Aside0.mk (below_drew1 HB.out)
             clear HO_7
             clear BK206
             clear HB
             have HO_7 := n0_
             have BK206 := n1_
             have HB := n2_
             clear n0_ n1_ n2_
             have p224 : 0 ≤ (x8_2 : Int) := of_decide_eq_true (by first | (with_reducible assumption) | assumption)
             have q224 : x8_2 < (t221.length : Int) := of_decide_eq_true (by first | (with_reducible assumption) | assumption)
             obtain ⟨ad224, e224, hx224_0⟩ := Kd.at_bool (Kd.R_reads' HO_7.out).2.2 x8_2 p224 q224
             cases e224
             replace p224 := eq_true p224
             replace q224 := eq_true q224
             refine start_ (n := 13) (S := fun w' => w'.cell? ⟨gb206, 0, none⟩ = some (.slice A0_0 l0_0.length c0_0) ∧ w'.cell? (ad224.add (x8_2).toNat) = some (.bool (rdOf false t221 x8_2))) (ds := []) #[false, false, false, false, false, false, false, false, false, false, false, false, false] (by kernel_rfl) rfl rfl ⟨(blk_cell BK206.out 0).trans rfl, hx224_0⟩ (fun hHeld => ?_); refine with_tabW davitlaw11_CallsRight.tab13 davitlaw11_CallsRight.bits13 (fun HT_ HW_ => ?_)
             generalize wr.drew = w49 at HO_7 BK206 HB hx224_0 hHeld ⊢
             refine pure_ (i := 0) (N := some 51) (v := ?_) (a' := ?_) #[true, false, false, false, false, false, false, false, false, false, false, false, false] rfl rfl (any_of HT_.out (by kernel_rfl)) (fun _ _ _ h => h) (Or.inl ⟨by rfl, ?_⟩) ?_ ?_
             rotate_left
             ·intro w'
              go_simp
              with_reducible rfl
             rotate_left
             ·simp only [Act.put, List.setIfInBounds_toArray, List.set_cons_zero, List.set_cons_succ, i64_w, i32_w]
              rfl
             refine pure_ (i := 1) (N := some 52) (v := ?_) (a' := ?_) #[true, true, false, false, false, false, false, false, false, false, false, false, false] rfl rfl (any_of HT_.out (by kernel_rfl)) (fun _ _ _ h => h) (Or.inl ⟨by rfl, ?_⟩) ?_ ?_
             rotate_left
             ·intro w'
              go_simp
              with_reducible rfl
             rotate_left
             ·simp only [Act.put, List.setIfInBounds_toArray, List.set_cons_zero, List.set_cons_succ, i64_w, i32_w]
              rfl
             refine pure_ (i := 2) (N := some 53) (v := ?_) (a' := ?_) #[true, true, true, false, false, false, false, false, false, false, false, false, false] rfl rfl (any_of HT_.out (by kernel_rfl)) (fun _ _ _ h => h) (Or.inl ⟨by rfl, ?_⟩) ?_ ?_
             rotate_left
             ·intro w'
              go_simp
              with_reducible rfl
             rotate_left
             ·simp only [Act.put, List.setIfInBounds_toArray, List.set_cons_zero, List.set_cons_succ, i64_w, i32_w]
              rfl
             refine pure_ (i := 4) (N := some 55) (v := ?_) (a' := ?_) #[true, true, true, false, true, false, false, false, false, false, false, false, false] rfl rfl (any_of HT_.out (by kernel_rfl)) (fun _ _ _ h => h) (Or.inl ⟨by rfl, ?_⟩) ?_ ?_
             rotate_left
             ·intro w'
              go_simp
              with_reducible rfl
             rotate_left
             ·simp only [Act.put, List.setIfInBounds_toArray, List.set_cons_zero, List.set_cons_succ, i64_w, i32_w]
              rfl
             refine pure_ (i := 5) (N := some 56) (v := ?_) (a' := ?_) #[true, true, true, false, true, true, false, false, false, false, false, false, false] rfl rfl (any_of HT_.out (by kernel_rfl)) (fun _ _ _ h => h) (Or.inl ⟨by rfl, ?_⟩) ?_ ?_
             rotate_left
             ·intro w'
              go_simp
              with_reducible rfl
             rotate_left
             ·simp only [Act.put, List.setIfInBounds_toArray, List.set_cons_zero, List.set_cons_succ, i64_w, i32_w]
              rfl
             refine pure_ (i := 6) (N := some 57) (v := ?_) (a' := ?_) #[true, true, true, false, true, true, true, false, false, false, false, false, false] rfl rfl (any_of HT_.out (by kernel_rfl)) (fun _ _ _ h => h) (Or.inl ⟨by rfl, ?_⟩) ?_ ?_
             rotate_left
             ·intro w'
              go_simp
              with_reducible rfl
             rotate_left
             ·simp only [Act.put, List.setIfInBounds_toArray, List.set_cons_zero, List.set_cons_succ, i64_w, i32_w]
              rfl
             refine pure_ (i := 9) (N := some 60) (v := ?_) (a' := ?_) #[true, true, true, false, true, true, true, false, false, true, false, false, false] rfl rfl (any_of HT_.out (by kernel_rfl)) (fun _ _ _ h => h) (Or.inl ⟨by rfl, ?_⟩) ?_ ?_
             rotate_left
             ·intro w'
              go_simp
              with_reducible rfl
             rotate_left
             ·simp only [Act.put, List.setIfInBounds_toArray, List.set_cons_zero, List.set_cons_succ, i64_w, i32_w]
              rfl
             refine take_ (i := 3) (N := some 54) (v := ?_) (a' := ?_) #[true, true, true, true, true, true, true, false, false, true, false, false, false] rfl rfl (take_ofW HT_.out HW_.out (by kernel_rfl)) (fun _ _ _ h => h) (Or.inl ⟨by rfl, ?_⟩) hHeld ?_ ?_
             rotate_left
             ·rintro w' ⟨s0, s1⟩
              go_simp
              with_reducible rfl
             rotate_left
             ·simp only [Act.put, List.setIfInBounds_toArray, List.set_cons_zero, List.set_cons_succ, i64_w, i32_w]
              rfl
             refine take_ (i := 7) (N := some 58) (v := ?_) (a' := ?_) #[true, true, true, true, true, true, true, true, false, true, false, false, false] rfl rfl (take_ofW HT_.out HW_.out (by kernel_rfl)) (fun _ _ _ h => h) (Or.inl ⟨by rfl, ?_⟩) hHeld ?_ ?_
             rotate_left
             ·rintro w' ⟨s0, s1⟩
              go_simp
              with_reducible rfl
             rotate_left
             ·simp only [Act.put, List.setIfInBounds_toArray, List.set_cons_zero, List.set_cons_succ, i64_w, i32_w]
              rfl
             refine one_ (i := 8) (N := some 59) #[true, true, true, true, true, true, true, true, true, true, false, false, false] rfl rfl (one_of HT_.out (by kernel_rfl)) (by decide) (fun K hK => ?_)
             refine goes_ Try.func14 (by kernel_rfl) rfl #[.agg #[.slice A0_0 l0_0.length c0_0], .int .i64 0] (by rfl) rfl rfl (by (try simp only [List.map_toArray, List.map_cons, List.map_nil]); first | done | rfl | (simp only [List.length_drop, List.length_take]; rfl)) ?_
             with_reducible refine (davitref11_To.calls k2 _ _ l0_0 0 t225 _ ?side1 ?side2 A46.out).mono ?_
             (case side1 => repeat (first | exact (Kd.C_below HR0_0.out HB.out) | (with_reducible refine Kd.C_alloc ?_ _) | (with_reducible refine Kd.C_drewN ?_ _) | (with_reducible refine Kd.C_drew ?_)))
             (case side2 => exact HC0_0.out)
             rintro e w50 ⟨v226, rfl, ho0, hb⟩
             have HS1_ := (hb.cell (World.block_lt_of_cell? _ _ (hHeld.2))).trans (hHeld.2)
             refine ⟨_, rfl, ?_⟩
             have n0_ := Aside0.mk (Kd.R_below (by (with_reducible repeat (first | apply Kd.R_alloc | apply Kd.R_drewN | apply Kd.R_drew)); exact HO_7.out) hb)
             have n1_ := Aside0.mk (Kd.R_lower ho0 (below_size (by repeat (first | (with_reducible first | exact HB.out | apply below_alloc | apply pw_below_drewN | apply below_drew1 | refine below_set ?_ GE206.out) | exact HB.out))))
             have n2_ := Aside0.mk (blk_below (g := gb206) (o := .cells #[.slice A0_0 l0_0.length c0_0] 24 (0, 0)) (by (with_reducible repeat (first | refine blk_drewN ?_ _ | refine blk_drew ?_ | refine blk_alloc ?_ _)); exact BK206.out) hb)
             have n3_ := Aside0.mk (below_step (by repeat (first | (with_reducible first | exact HB.out | apply below_alloc | apply pw_below_drewN | apply below_drew1 | refine below_set ?_ GE206.out) | exact HB.out)) hb)
             clear HO_7
             clear BK206
             clear HB
             have HO_7 := n0_
             have HO227 := n1_
             have BK206 := n2_
             have HB := n3_
             clear n0_ n1_ n2_ n3_
             (try clear hb)
             (try clear hb2)
             (try clear hk)
             (try clear hi)
             (try clear ho0)
             obtain ⟨Ao51, co51, eo51⟩ := Kd.R_slice HO227.out
             (first | subst eo51 | (injection eo51 with f1_ f2_ f3_; have f4_ := f1_.symm; have f5_ := f3_.symm; clear f1_ f2_ f3_; subst f4_; subst f5_))
             refine hK.out _ _ ⟨(blk_cell BK206.out 0).trans rfl, HS1_⟩ (fun hHeld => ?_)
             clear hK K
             refine norm_ (a' := ?_) ?_ ?_
             rotate_left
             ·show Act.put _ (some 59) _ = _
              simp only [Act.put, List.setIfInBounds_toArray, List.set_cons_zero, List.set_cons_succ, i64_w, i32_w]
              rfl
             refine one_ (i := 10) (N := some 61) #[true, true, true, true, true, true, true, true, true, true, true, false, false] rfl rfl (one_of HT_.out (by kernel_rfl)) (by decide) (fun K hK => ?_)
             refine goes_ Try.func10 (by kernel_rfl) rfl #[.slice Ao51 t225.length co51, .int .i64 x8_2] (by rfl) rfl rfl (by (try simp only [List.map_toArray, List.map_cons, List.map_nil]); first | done | rfl | (simp only [List.length_drop, List.length_take]; rfl)) ?_
             with_reducible refine (davitref07_Has.calls k2 _ _ t225 x8_2 t228 _ ?side1 ?side2 A47.out).mono ?_
             (case side1 => repeat (first | exact (Kd.R_reads' HO227.out).2.2 | (with_reducible refine Kd.C_alloc ?_ _) | (with_reducible refine Kd.C_drewN ?_ _) | (with_reducible refine Kd.C_drew ?_)))
             (case side2 => exact (Kd.R_reads' HO227.out).2.1)
             rintro e w' ⟨rfl, ⟨nd, rfl⟩⟩
             refine ⟨_, rfl, ?_⟩
             refine hK.out _ _ ⟨(blk_cell BK206.out 0).trans rfl, hHeld.2⟩ (fun hHeld => ?_)
             clear hK K
             refine norm_ (a' := ?_) ?_ ?_
             rotate_left
             ·show Act.put _ (some 61) _ = _
              simp only [Act.put, List.setIfInBounds_toArray, List.set_cons_zero, List.set_cons_succ, i64_w, i32_w]
              rfl
             refine pure_ (i := 11) (N := some 62) (v := ?_) (a' := ?_) #[true, true, true, true, true, true, true, true, true, true, true, true, false] rfl rfl (any_of HT_.out (by kernel_rfl)) (fun _ _ _ h => h) (Or.inl ⟨by rfl, ?_⟩) ?_ ?_
             rotate_left
             ·intro w'
              go_simp
              with_reducible rfl
             rotate_left
             ·simp only [Act.put, List.setIfInBounds_toArray, List.set_cons_zero, List.set_cons_succ, i64_w, i32_w]
              rfl
             refine pure_ (i := 12) (N := some 63) (v := ?_) (a' := ?_) #[true, true, true, true, true, true, true, true, true, true, true, true, true] rfl rfl (any_of HT_.out (by kernel_rfl)) (fun _ _ _ h => h) (Or.inl ⟨by rfl, ?_⟩) ?_ ?_
             rotate_left
             ·intro w'
              go_simp
              with_reducible rfl
             rotate_left
             ·simp only [Act.put, List.setIfInBounds_toArray, List.set_cons_zero, List.set_cons_succ, i64_w, i32_w]
              rfl
             refine done_ (done_of HT_.out (by kernel_rfl)) ?_
             try go_wp2
             go_ret
             exact ⟨by first | rfl | (simp [errW_none, errW_some] <;> rfl) | (simp [*, errW_none, errW_some] <;> rfl), by repeat (first | (with_reducible first | exact HB.out | apply below_alloc | apply pw_below_drewN | apply below_drew1 | refine below_set ?_ GE206.out) | exact HB.out)⟩
            ·rw [if_neg c48] at H
             have c48b0 : ((rdOf false t221 x8_2) != t228) = false := by simpa using c48
             (try (have c48b1 : decide ((rdOf false t221 x8_2) = t228) = true := by simpa using c48))
             (try (have c48b2 : ((rdOf false t221 x8_2) == t228) = true := by simpa using c48))
             clear c48
             have H' := Aside0.mk H
             clear H
             try go_wp2
             have n0_ := Aside0.mk (Kd.R_drew HO_7.out)
             have n1_ := Aside0.mk (blk_drew BK206.out)
             have n2_ := Aside0.mk (below_drew1 HB.out)
             clear HO_7
             clear BK206
             clear HB
             have HO_7 := n0_
             have BK206 := n1_
             have HB := n2_
             clear n0_ n1_ n2_
             have p224 : 0 ≤ (x8_2 : Int) := of_decide_eq_true (by first | (with_reducible assumption) | assumption)
             have q224 : x8_2 < (t221.length : Int) := of_decide_eq_true (by first | (with_reducible assumption) | assumption)
             obtain ⟨ad224, e224, hx224_0⟩ := Kd.at_bool (Kd.R_reads' HO_7.out).2.2 x8_2 p224 q224
             cases e224
             replace p224 := eq_true p224
             replace q224 := eq_true q224
             refine start_ (n := 13) (S := fun w' => w'.cell? ⟨gb206, 0, none⟩ = some (.slice A0_0 l0_0.length c0_0) ∧ w'.cell? (ad224.add (x8_2).toNat) = some (.bool (rdOf false t221 x8_2))) (ds := []) #[false, false, false, false, false, false, false, false, false, false, false, false, false] (by kernel_rfl) rfl rfl ⟨(blk_cell BK206.out 0).trans rfl, hx224_0⟩ (fun hHeld => ?_); refine with_tabW davitlaw11_CallsRight.tab13 davitlaw11_CallsRight.bits13 (fun HT_ HW_ => ?_)
             generalize wr.drew = w52 at HO_7 BK206 HB hx224_0 hHeld ⊢
             refine pure_ (i := 0) (N := some 51) (v := ?_) (a' := ?_) #[true, false, false, false, false, false, false, false, false, false, false, false, false] rfl rfl (any_of HT_.out (by kernel_rfl)) (fun _ _ _ h => h) (Or.inl ⟨by rfl, ?_⟩) ?_ ?_
             rotate_left
             ·intro w'
              go_simp
              with_reducible rfl
             rotate_left
             ·simp only [Act.put, List.setIfInBounds_toArray, List.set_cons_zero, List.set_cons_succ, i64_w, i32_w]
              rfl
             refine pure_ (i := 1) (N := some 52) (v := ?_) (a' := ?_) #[true, true, false, false, false, false, false, false, false, false, false, false, false] rfl rfl (any_of HT_.out (by kernel_rfl)) (fun _ _ _ h => h) (Or.inl ⟨by rfl, ?_⟩) ?_ ?_
             rotate_left
             ·intro w'
              go_simp
              with_reducible rfl
             rotate_left
             ·simp only [Act.put, List.setIfInBounds_toArray, List.set_cons_zero, List.set_cons_succ, i64_w, i32_w]
              rfl
             refine pure_ (i := 2) (N := some 53) (v := ?_) (a' := ?_) #[true, true, true, false, false, false, false, false, false, false, false, false, false] rfl rfl (any_of HT_.out (by kernel_rfl)) (fun _ _ _ h => h) (Or.inl ⟨by rfl, ?_⟩) ?_ ?_
             rotate_left
             ·intro w'
              go_simp
              with_reducible rfl
             rotate_left
             ·simp only [Act.put, List.setIfInBounds_toArray, List.set_cons_zero, List.set_cons_succ, i64_w, i32_w]
              rfl
             refine pure_ (i := 4) (N := some 55) (v := ?_) (a' := ?_) #[true, true, true, false, true, false, false, false, false, false, false, false, false] rfl rfl (any_of HT_.out (by kernel_rfl)) (fun _ _ _ h => h) (Or.inl ⟨by rfl, ?_⟩) ?_ ?_
             rotate_left
             ·intro w'
              go_simp
              with_reducible rfl
             rotate_left
             ·simp only [Act.put, List.setIfInBounds_toArray, List.set_cons_zero, List.set_cons_succ, i64_w, i32_w]
              rfl
             refine pure_ (i := 5) (N := some 56) (v := ?_) (a' := ?_) #[true, true, true, false, true, true, false, false, false, false, false, false, false] rfl rfl (any_of HT_.out (by kernel_rfl)) (fun _ _ _ h => h) (Or.inl ⟨by rfl, ?_⟩) ?_ ?_
             rotate_left
             ·intro w'
              go_simp
              with_reducible rfl
             rotate_left
             ·simp only [Act.put, List.setIfInBounds_toArray, List.set_cons_zero, List.set_cons_succ, i64_w, i32_w]
              rfl
             refine pure_ (i := 6) (N := some 57) (v := ?_) (a' := ?_) #[true, true, true, false, true, true, true, false, false, false, false, false, false] rfl rfl (any_of HT_.out (by kernel_rfl)) (fun _ _ _ h => h) (Or.inl ⟨by rfl, ?_⟩) ?_ ?_
             rotate_left
             ·intro w'
              go_simp
              with_reducible rfl
             rotate_left
             ·simp only [Act.put, List.setIfInBounds_toArray, List.set_cons_zero, List.set_cons_succ, i64_w, i32_w]
              rfl
             refine pure_ (i := 9) (N := some 60) (v := ?_) (a' := ?_) #[true, true, true, false, true, true, true, false, false, true, false, false, false] rfl rfl (any_of HT_.out (by kernel_rfl)) (fun _ _ _ h => h) (Or.inl ⟨by rfl, ?_⟩) ?_ ?_
             rotate_left
             ·intro w'
              go_simp
              with_reducible rfl
             rotate_left
             ·simp only [Act.put, List.setIfInBounds_toArray, List.set_cons_zero, List.set_cons_succ, i64_w, i32_w]
              rfl
             refine take_ (i := 3) (N := some 54) (v := ?_) (a' := ?_) #[true, true, true, true, true, true, true, false, false, true, false, false, false] rfl rfl (take_ofW HT_.out HW_.out (by kernel_rfl)) (fun _ _ _ h => h) (Or.inl ⟨by rfl, ?_⟩) hHeld ?_ ?_
             rotate_left
             ·rintro w' ⟨s0, s1⟩
              go_simp
              with_reducible rfl
             rotate_left
             ·simp only [Act.put, List.setIfInBounds_toArray, List.set_cons_zero, List.set_cons_succ, i64_w, i32_w]
              rfl
             refine take_ (i := 7) (N := some 58) (v := ?_) (a' := ?_) #[true, true, true, true, true, true, true, true, false, true, false, false, false] rfl rfl (take_ofW HT_.out HW_.out (by kernel_rfl)) (fun _ _ _ h => h) (Or.inl ⟨by rfl, ?_⟩) hHeld ?_ ?_
             rotate_left
             ·rintro w' ⟨s0, s1⟩
              go_simp
              with_reducible rfl
             rotate_left
             ·simp only [Act.put, List.setIfInBounds_toArray, List.set_cons_zero, List.set_cons_succ, i64_w, i32_w]
              rfl
             refine one_ (i := 8) (N := some 59) #[true, true, true, true, true, true, true, true, true, true, false, false, false] rfl rfl (one_of HT_.out (by kernel_rfl)) (by decide) (fun K hK => ?_)
             refine goes_ Try.func14 (by kernel_rfl) rfl #[.agg #[.slice A0_0 l0_0.length c0_0], .int .i64 0] (by rfl) rfl rfl (by (try simp only [List.map_toArray, List.map_cons, List.map_nil]); first | done | rfl | (simp only [List.length_drop, List.length_take]; rfl)) ?_
             with_reducible refine (davitref11_To.calls k2 _ _ l0_0 0 t225 _ ?side1 ?side2 A46.out).mono ?_
             (case side1 => repeat (first | exact (Kd.C_below HR0_0.out HB.out) | (with_reducible refine Kd.C_alloc ?_ _) | (with_reducible refine Kd.C_drewN ?_ _) | (with_reducible refine Kd.C_drew ?_)))
             (case side2 => exact HC0_0.out)
             rintro e w53 ⟨v226, rfl, ho0, hb⟩
             have HS1_ := (hb.cell (World.block_lt_of_cell? _ _ (hHeld.2))).trans (hHeld.2)
             refine ⟨_, rfl, ?_⟩
             have n0_ := Aside0.mk (Kd.R_below (by (with_reducible repeat (first | apply Kd.R_alloc | apply Kd.R_drewN | apply Kd.R_drew)); exact HO_7.out) hb)
             have n1_ := Aside0.mk (Kd.R_lower ho0 (below_size (by repeat (first | (with_reducible first | exact HB.out | apply below_alloc | apply pw_below_drewN | apply below_drew1 | refine below_set ?_ GE206.out) | exact HB.out))))
             have n2_ := Aside0.mk (blk_below (g := gb206) (o := .cells #[.slice A0_0 l0_0.length c0_0] 24 (0, 0)) (by (with_reducible repeat (first | refine blk_drewN ?_ _ | refine blk_drew ?_ | refine blk_alloc ?_ _)); exact BK206.out) hb)
             have n3_ := Aside0.mk (below_step (by repeat (first | (with_reducible first | exact HB.out | apply below_alloc | apply pw_below_drewN | apply below_drew1 | refine below_set ?_ GE206.out) | exact HB.out)) hb)
             clear HO_7
             clear BK206
             clear HB
             have HO_7 := n0_
             have HO227 := n1_
             have BK206 := n2_
             have HB := n3_
             clear n0_ n1_ n2_ n3_
             (try clear hb)
             (try clear hb2)
             (try clear hk)
             (try clear hi)
             (try clear ho0)
             obtain ⟨Ao54, co54, eo54⟩ := Kd.R_slice HO227.out
             (first | subst eo54 | (injection eo54 with f1_ f2_ f3_; have f4_ := f1_.symm; have f5_ := f3_.symm; clear f1_ f2_ f3_; subst f4_; subst f5_))
             refine hK.out _ _ ⟨(blk_cell BK206.out 0).trans rfl, HS1_⟩ (fun hHeld => ?_)
             clear hK K
             refine norm_ (a' := ?_) ?_ ?_
             rotate_left
             ·show Act.put _ (some 59) _ = _
              simp only [Act.put, List.setIfInBounds_toArray, List.set_cons_zero, List.set_cons_succ, i64_w, i32_w]
              rfl
             refine one_ (i := 10) (N := some 61) #[true, true, true, true, true, true, true, true, true, true, true, false, false] rfl rfl (one_of HT_.out (by kernel_rfl)) (by decide) (fun K hK => ?_)
             refine goes_ Try.func10 (by kernel_rfl) rfl #[.slice Ao54 t225.length co54, .int .i64 x8_2] (by rfl) rfl rfl (by (try simp only [List.map_toArray, List.map_cons, List.map_nil]); first | done | rfl | (simp only [List.length_drop, List.length_take]; rfl)) ?_
             with_reducible refine (davitref07_Has.calls k2 _ _ t225 x8_2 t228 _ ?side1 ?side2 A47.out).mono ?_
             (case side1 => repeat (first | exact (Kd.R_reads' HO227.out).2.2 | (with_reducible refine Kd.C_alloc ?_ _) | (with_reducible refine Kd.C_drewN ?_ _) | (with_reducible refine Kd.C_drew ?_)))
             (case side2 => exact (Kd.R_reads' HO227.out).2.1)
             rintro e w' ⟨rfl, ⟨nd, rfl⟩⟩
             refine ⟨_, rfl, ?_⟩
             refine hK.out _ _ ⟨(blk_cell BK206.out 0).trans rfl, hHeld.2⟩ (fun hHeld => ?_)
             clear hK K
             refine norm_ (a' := ?_) ?_ ?_
             rotate_left
             ·show Act.put _ (some 61) _ = _
              simp only [Act.put, List.setIfInBounds_toArray, List.set_cons_zero, List.set_cons_succ, i64_w, i32_w]
              rfl
             refine pure_ (i := 11) (N := some 62) (v := ?_) (a' := ?_) #[true, true, true, true, true, true, true, true, true, true, true, true, false] rfl rfl (any_of HT_.out (by kernel_rfl)) (fun _ _ _ h => h) (Or.inl ⟨by rfl, ?_⟩) ?_ ?_
             rotate_left
             ·intro w'
              go_simp
              with_reducible rfl
             rotate_left
             ·simp only [Act.put, List.setIfInBounds_toArray, List.set_cons_zero, List.set_cons_succ, i64_w, i32_w]
              rfl
             refine pure_ (i := 12) (N := some 63) (v := ?_) (a' := ?_) #[true, true, true, true, true, true, true, true, true, true, true, true, true] rfl rfl (any_of HT_.out (by kernel_rfl)) (fun _ _ _ h => h) (Or.inl ⟨by rfl, ?_⟩) ?_ ?_
             rotate_left
             ·intro w'
              go_simp
              with_reducible rfl
             rotate_left
             ·simp only [Act.put, List.setIfInBounds_toArray, List.set_cons_zero, List.set_cons_succ, i64_w, i32_w]
              rfl
             refine done_ (done_of HT_.out (by kernel_rfl)) ?_
             try go_wp2
             go_roundg k2
             case measure => have := HJ7.out; have := HK2.out; omega
             case rel => exact ⟨(wrap64 (x8_2 + 1)), (by first | rfl | (simp; done) | (simp [*]; done)), H', ⟨by have := HJ7.out; have := HK2.out; omega⟩, ⟨by (with_reducible repeat (first | apply Kd.R_alloc | apply Kd.R_drewN | apply Kd.R_drew)); exact HO_7.out⟩, ⟨by (with_reducible repeat (first | refine blk_drewN ?_ _ | refine blk_drew ?_ | refine blk_alloc ?_ _)); exact BK206.out⟩, ⟨by repeat (first | (with_reducible first | exact HB.out | apply below_alloc | apply pw_below_drewN | apply below_drew1 | refine below_set ?_ GE206.out) | exact HB.out)⟩⟩
          ·rw [if_neg c41] at H
           exact absurd H (by simp)
         ·rw [if_neg c40] at H
          have c40b0 : decide (x8_2 < (t221.length : Int)) = false := decide_eq_false c40
          clear c40
          replace H := Option.bind_eq_some_iff.mp H
          obtain ⟨t229, A550, H⟩ := H
          replace H : ((davitref11_Groups.f k2 l0_0).bind fun t232 => (if (t229.length : Int) = (t232.length : Int) then (davitlaw11_CallsRight.l1 k2 t229 t232 0) else (some false))) = some r := H
          have A55 := Aside0.mk A550
          clear A550
          replace H := Option.bind_eq_some_iff.mp H
          obtain ⟨t232, A560, H⟩ := H
          replace H : (if (t229.length : Int) = (t232.length : Int) then (davitlaw11_CallsRight.l1 k2 t229 t232 0) else (some false)) = some r := H
          have A56 := Aside0.mk A560
          clear A560
          by_cases c57 : (t229.length : Int) = (t232.length : Int)
          ·rw [if_pos c57] at H
           have c57b0 : ((t229.length : Int) == (t232.length : Int)) = true := beq_iff_eq.mpr c57
           have c57b1 : ((t229.length : Int) != (t232.length : Int)) = false := bne_eq_false_iff_eq.mpr c57
           have c57b2 : (t229.length == t232.length) = true := by first | simpa using c57 | (simp at c57 ⊢; omega)
           clear c57
           have H' := Aside0.mk H
           clear H
           try go_wp2
           have n0_ := Aside0.mk (Kd.R_drew HO_7.out)
           have n1_ := Aside0.mk (blk_drew BK206.out)
           have n2_ := Aside0.mk (below_drew1 HB.out)
           clear HO_7
           clear BK206
           clear HB
           have HO_7 := n0_
           have BK206 := n1_
           have HB := n2_
           clear n0_ n1_ n2_
           refine start_ (n := 6) (S := fun w' => w'.cell? ⟨gb206, 0, none⟩ = some (.slice A0_0 l0_0.length c0_0)) (ds := []) #[false, false, false, false, false, false] (by kernel_rfl) rfl rfl ((blk_cell BK206.out 0).trans rfl) (fun hHeld => ?_)
           generalize wr.drew = w58 at HO_7 BK206 HB hHeld ⊢
           refine take_ (i := 0) (N := some 64) (v := ?_) (a' := ?_) #[true, false, false, false, false, false] rfl rfl (by kernel_rfl) (fun _ _ _ h => h) (Or.inl ⟨by rfl, ?_⟩) hHeld ?_ ?_
           rotate_left
           ·intro w' s0
            go_simp
            with_reducible rfl
           rotate_left
           ·simp only [Act.put, List.setIfInBounds_toArray, List.set_cons_zero, List.set_cons_succ, i64_w, i32_w]
            rfl
           refine take_ (i := 2) (N := some 66) (v := ?_) (a' := ?_) #[true, false, true, false, false, false] rfl rfl (by kernel_rfl) (fun _ _ _ h => h) (Or.inl ⟨by rfl, ?_⟩) hHeld ?_ ?_
           rotate_left
           ·intro w' s0
            go_simp
            with_reducible rfl
           rotate_left
           ·simp only [Act.put, List.setIfInBounds_toArray, List.set_cons_zero, List.set_cons_succ, i64_w, i32_w]
            rfl
           refine one_ (i := 1) (N := some 65) #[true, true, true, false, false, false] rfl rfl (by kernel_rfl) (by decide) (fun K hK => ?_)
           refine goes_ Try.func8 (by kernel_rfl) rfl #[.agg #[.slice A0_0 l0_0.length c0_0]] (by rfl) rfl rfl (by (try simp only [List.map_toArray, List.map_cons, List.map_nil]); first | done | rfl | (simp only [List.length_drop, List.length_take]; rfl)) ?_
           with_reducible refine (calls_Groups.calls k2 _ _ l0_0 t229 _ ?side1 ?side2 A55.out).mono ?_
           (case side1 => repeat (first | exact (Kd.C_below HR0_0.out HB.out) | (with_reducible refine Kd.C_alloc ?_ _) | (with_reducible refine Kd.C_drewN ?_ _) | (with_reducible refine Kd.C_drew ?_)))
           (case side2 => exact HC0_0.out)
           rintro e w59 ⟨v230, rfl, ho0, hb⟩
           refine ⟨_, rfl, ?_⟩
           have n0_ := Aside0.mk (Kd.R_below (by (with_reducible repeat (first | apply Kd.R_alloc | apply Kd.R_drewN | apply Kd.R_drew)); exact HO_7.out) hb)
           have n1_ := Aside0.mk (Kd.S_lower ho0 (below_size (by repeat (first | (with_reducible first | exact HB.out | apply below_alloc | apply pw_below_drewN | apply below_drew1 | refine below_set ?_ GE206.out) | exact HB.out))))
           have n2_ := Aside0.mk (blk_below (g := gb206) (o := .cells #[.slice A0_0 l0_0.length c0_0] 24 (0, 0)) (by (with_reducible repeat (first | refine blk_drewN ?_ _ | refine blk_drew ?_ | refine blk_alloc ?_ _)); exact BK206.out) hb)
           have n3_ := Aside0.mk (below_step (by repeat (first | (with_reducible first | exact HB.out | apply below_alloc | apply pw_below_drewN | apply below_drew1 | refine below_set ?_ GE206.out) | exact HB.out)) hb)
           clear HO_7
           clear BK206
           clear HB
           have HO_7 := n0_
           have HO231 := n1_
           have BK206 := n2_
           have HB := n3_
           clear n0_ n1_ n2_ n3_
           (try clear hb)
           (try clear hb2)
           (try clear hk)
           (try clear hi)
           (try clear ho0)
           refine hK.out _ _ ((blk_cell BK206.out 0).trans rfl) (fun hHeld => ?_)
           clear hK K
           refine norm_ (a' := ?_) ?_ ?_
           rotate_left
           ·show Act.put _ (some 65) _ = _
            simp only [Act.put, List.setIfInBounds_toArray, List.set_cons_zero, List.set_cons_succ, i64_w, i32_w]
            rfl
           refine one_ (i := 3) (N := some 67) #[true, true, true, true, false, false] rfl rfl (by kernel_rfl) (by decide) (fun K hK => ?_)
           refine goes_ Try.func16 (by kernel_rfl) rfl #[.agg #[.slice A0_0 l0_0.length c0_0]] (by rfl) rfl rfl (by (try simp only [List.map_toArray, List.map_cons, List.map_nil]); first | done | rfl | (simp only [List.length_drop, List.length_take]; rfl)) ?_
           with_reducible refine (davitref11_Groups.calls k2 _ _ l0_0 t232 _ ?side1 ?side2 A56.out).mono ?_
           (case side1 => repeat (first | exact (Kd.C_below HR0_0.out HB.out) | (with_reducible refine Kd.C_alloc ?_ _) | (with_reducible refine Kd.C_drewN ?_ _) | (with_reducible refine Kd.C_drew ?_)))
           (case side2 => exact HC0_0.out)
           rintro e w60 ⟨v233, rfl, ho0, hb⟩
           refine ⟨_, rfl, ?_⟩
           have n0_ := Aside0.mk (Kd.R_below (by (with_reducible repeat (first | apply Kd.R_alloc | apply Kd.R_drewN | apply Kd.R_drew)); exact HO_7.out) hb)
           have n1_ := Aside0.mk (Kd.S_elder' (by (with_reducible repeat (first | apply Kd.S_alloc | apply Kd.S_drewN | apply Kd.S_drew)); exact HO231.out) (Kd.S_base ho0) hb)
           have n2_ := Aside0.mk (Kd.S_lower (Kd.S_new' ho0 (Kd.S_lt (by (with_reducible repeat (first | apply Kd.S_alloc | apply Kd.S_drewN | apply Kd.S_drew)); exact HO231.out))) (below_size (by repeat (first | (with_reducible first | exact HB.out | apply below_alloc | apply pw_below_drewN | apply below_drew1 | refine below_set ?_ GE206.out) | exact HB.out))))
           have n3_ := Aside0.mk (blk_below (g := gb206) (o := .cells #[.slice A0_0 l0_0.length c0_0] 24 (0, 0)) (by (with_reducible repeat (first | refine blk_drewN ?_ _ | refine blk_drew ?_ | refine blk_alloc ?_ _)); exact BK206.out) hb)
           have n4_ := Aside0.mk (below_step (by repeat (first | (with_reducible first | exact HB.out | apply below_alloc | apply pw_below_drewN | apply below_drew1 | refine below_set ?_ GE206.out) | exact HB.out)) hb)
           clear HO_7
           clear HO231
           clear BK206
           clear HB
           have HO_7 := n0_
           have HO231 := n1_
           have HO234 := n2_
           have BK206 := n3_
           have HB := n4_
           clear n0_ n1_ n2_ n3_ n4_
           (try clear hb)
           (try clear hb2)
           (try clear hk)
           (try clear hi)
           (try clear ho0)
           refine hK.out _ _ ((blk_cell BK206.out 0).trans rfl) (fun hHeld => ?_)
           clear hK K
           refine norm_ (a' := ?_) ?_ ?_
           rotate_left
           ·show Act.put _ (some 67) _ = _
            simp only [Act.put, List.setIfInBounds_toArray, List.set_cons_zero, List.set_cons_succ, i64_w, i32_w]
            rfl
           refine pure_ (i := 4) (N := some 9) (v := ?_) (a' := ?_) #[true, true, true, true, true, false] rfl rfl (by kernel_rfl) (fun _ _ _ h => h) (Or.inl ⟨by rfl, ?_⟩) ?_ ?_
           rotate_left
           ·intro w'
            go_simp
            with_reducible rfl
           rotate_left
           ·simp only [Act.put, List.setIfInBounds_toArray, List.set_cons_zero, List.set_cons_succ, i64_w, i32_w]
            rfl
           refine pure_ (i := 5) (N := some 10) (v := ?_) (a' := ?_) #[true, true, true, true, true, true] rfl rfl (by kernel_rfl) (fun _ _ _ h => h) (Or.inl ⟨by rfl, ?_⟩) ?_ ?_
           rotate_left
           ·intro w'
            go_simp
            with_reducible rfl
           rotate_left
           ·simp only [Act.put, List.setIfInBounds_toArray, List.set_cons_zero, List.set_cons_succ, i64_w, i32_w]
            rfl
           refine done_ (by kernel_rfl) ?_
           obtain ⟨Ao61, co61, eo61⟩ := Kd.S_slice HO231.out
           subst eo61
           obtain ⟨Ao62, co62, eo62⟩ := Kd.S_slice HO234.out
           subst eo62
           try go_wp2
           go_loopg [11] k2 (fun kq v11 w' => ∃ (x11_3 : Int), v11 = .int .i64 x11_3 ∧ Aside0 (davitlaw11_CallsRight.l1 kq t229 t232 x11_3 = some r) ∧ Aside0 (kq ≤ k2) ∧ Aside0 (Kd.S (Kd.slice 3 (Kd.int .i64)) 29 w' w.heap.size (fun k_ => some k_ ≠ ((.slice Ao62 t232.length co62) : Value).ownBlock) (.slice Ao61 t229.length co61) t229) ∧ Aside0 (Kd.S (Kd.slice 3 (Kd.int .i64)) 29 w' w.heap.size (fun k_ => some k_ ≠ ((.slice Ao61 t229.length co61) : Value).ownBlock) (.slice Ao62 t232.length co62) t232) ∧ Aside0 (w'.heap[gb206]? = some (.cells #[(.slice A0_0 l0_0.length c0_0)] 24 (0, 0))) ∧ Aside0 (Below w.heap.size w w'))
           case atStart => exact ⟨(0), (by first | rfl | (simp; done) | (simp [*]; done)), H', ⟨Nat.le_refl _⟩, ⟨by (with_reducible repeat (first | apply Kd.S_alloc | apply Kd.S_drewN | apply Kd.S_drew)); exact Kd.S_mono HO231.out (fun _ hk => hk.2)⟩, ⟨by (with_reducible repeat (first | apply Kd.S_alloc | apply Kd.S_drewN | apply Kd.S_drew)); exact Kd.S_mono HO234.out (fun _ hk => hk.2)⟩, ⟨by (with_reducible repeat (first | refine blk_drewN ?_ _ | refine blk_drew ?_ | refine blk_alloc ?_ _)); exact BK206.out⟩, ⟨by repeat (first | (with_reducible first | exact HB.out | apply below_alloc | apply pw_below_drewN | apply below_drew1 | refine below_set ?_ GE206.out) | exact HB.out)⟩⟩
           case round =>
            clear H'
            try clear c1
            try clear p2
            try clear q2
            try clear hx2
            try clear c4
            try clear c5
            try clear p6
            try clear c8
            try clear c10
            try clear c14
            try clear c16
            try clear p22
            try clear q22
            try clear hx22
            try clear c40
            try clear c40b0
            try clear c41
            try clear c42
            try clear c42b0
            try clear c42b1
            try clear c48
            try clear c48b0
            try clear c48b1
            try clear c48b2
            try clear c57
            try clear c57b0
            try clear c57b1
            try clear c57b2
            try clear hx224_0
            try clear p224
            try clear q224
            obtain ⟨x11_3, rfl, HA, HK3, HO_9, HO_10, BK206, HB⟩ := hrel
            cases gk with
            | zero => exact absurd HA.out (by simp [davitlaw11_CallsRight.l1])
            | succ k3 =>
             have H := HA.out
             clear HA
             simp only [davitlaw11_CallsRight.l1] at H
             by_cases c63 : x11_3 < (t229.length : Int)
             ·rw [if_pos c63] at H
              have c63b0 : decide (x11_3 < (t229.length : Int)) = true := decide_eq_true c63
              clear c63
              by_cases c64 : 0 ≤ x11_3
              ·rw [if_pos c64] at H
               have c64b0 : decide (0 ≤ x11_3) = true := decide_eq_true c64
               clear c64
               by_cases c65 : x11_3 < (t232.length : Int)
               ·rw [if_pos c65] at H
                have c65b0 : decide (x11_3 < (t232.length : Int)) = true := decide_eq_true c65
                clear c65
                replace H := Option.bind_eq_some_iff.mp H
                obtain ⟨t237, A660, H⟩ := H
                replace H : (if t237 = true then (davitlaw11_CallsRight.l1 k3 t229 t232 (wrap64 (x11_3 + 1))) else (some false)) = some r := H
                have A66 := Aside0.mk A660
                clear A660
                by_cases c67 : t237 = true
                ·subst c67
                 have H1 : (davitlaw11_CallsRight.l1 k3 t229 t232 (wrap64 (x11_3 + 1))) = some r := by rw [if_pos rfl] at H; exact H
                 clear H
                 have H := H1
                 clear H1
                 have H' := Aside0.mk H
                 clear H
                 try go_wp2
                 have n0_ := Aside0.mk (Kd.S_drew HO_9.out)
                 have n1_ := Aside0.mk (Kd.S_drew HO_10.out)
                 have n2_ := Aside0.mk (blk_drew BK206.out)
                 have n3_ := Aside0.mk (below_drew1 HB.out)
                 clear HO_9
                 clear HO_10
                 clear BK206
                 clear HB
                 have HO_9 := n0_
                 have HO_10 := n1_
                 have BK206 := n2_
                 have HB := n3_
                 clear n0_ n1_ n2_ n3_
                 have p235 : 0 ≤ (x11_3 : Int) := of_decide_eq_true (by first | (with_reducible assumption) | assumption)
                 have q235 : x11_3 < (t229.length : Int) := of_decide_eq_true (by first | (with_reducible assumption) | assumption)
                 obtain ⟨ad235, A235_0, c235_0, e235, hx235_0, hl235_0, hi235_0⟩ := at_L5 (Kd.S_reads' HO_9.out).2.2 x11_3 p235 q235
                 cases e235
                 obtain ⟨ce235, hce235, hMe235, hcc235⟩ := Kd.S_get HO_9.out [] x11_3 p235 (by first | exact q235 | exact of_decide_eq_true (by first | (with_reducible assumption) | assumption) | (have e_ := (Kd.S_reads' HO_9.out).1; omega))
                 obtain ⟨ve235_0, rfl, ge235_0⟩ := hMe235
                 have hv235_0 := hcc235 0 _ rfl
                 rw [Nat.add_zero, show ((Kd.slice 3 (Kd.int .i64))).sz = 1 from rfl, Nat.mul_one] at hv235_0
                 replace hv235_0 := Option.some.inj (hv235_0.symm.trans hx235_0)
                 rw [hv235_0] at ge235_0
                 have HL235_0 := Aside0.mk (show Kd.R (Kd.int .i64) 3 _ _ _ _ (rd_L5 t229 x11_3) from ge235_0)
                 clear hv235_0 ge235_0
                 clear hcc235 hce235
                 have HR235_0 := Aside0.mk hi235_0
                 have HC235_0 := Aside0.mk hl235_0
                 clear hi235_0 hl235_0
                 replace p235 := eq_true p235
                 replace q235 := eq_true q235
                 have p236 : 0 ≤ (x11_3 : Int) := of_decide_eq_true (by first | (with_reducible assumption) | assumption)
                 have q236 : x11_3 < (t232.length : Int) := of_decide_eq_true (by first | (with_reducible assumption) | assumption)
                 obtain ⟨ad236, A236_0, c236_0, e236, hx236_0, hl236_0, hi236_0⟩ := at_L5 (Kd.S_reads' HO_10.out).2.2 x11_3 p236 q236
                 cases e236
                 obtain ⟨ce236, hce236, hMe236, hcc236⟩ := Kd.S_get HO_10.out [] x11_3 p236 (by first | exact q236 | exact of_decide_eq_true (by first | (with_reducible assumption) | assumption) | (have e_ := (Kd.S_reads' HO_10.out).1; omega))
                 obtain ⟨ve236_0, rfl, ge236_0⟩ := hMe236
                 have hv236_0 := hcc236 0 _ rfl
                 rw [Nat.add_zero, show ((Kd.slice 3 (Kd.int .i64))).sz = 1 from rfl, Nat.mul_one] at hv236_0
                 replace hv236_0 := Option.some.inj (hv236_0.symm.trans hx236_0)
                 rw [hv236_0] at ge236_0
                 have HL236_0 := Aside0.mk (show Kd.R (Kd.int .i64) 3 _ _ _ _ (rd_L5 t232 x11_3) from ge236_0)
                 clear hv236_0 ge236_0
                 clear hcc236 hce236
                 have HR236_0 := Aside0.mk hi236_0
                 have HC236_0 := Aside0.mk hl236_0
                 clear hi236_0 hl236_0
                 replace p236 := eq_true p236
                 replace q236 := eq_true q236
                 refine start_ (n := 10) (S := fun w' => w'.cell? (ad235.add (x11_3).toNat) = some (.slice A235_0 (rd_L5 t229 x11_3).length c235_0) ∧ w'.cell? (ad236.add (x11_3).toNat) = some (.slice A236_0 (rd_L5 t232 x11_3).length c236_0)) (ds := []) #[false, false, false, false, false, false, false, false, false, false] (by kernel_rfl) rfl rfl ⟨hx235_0, hx236_0⟩ (fun hHeld => ?_); refine with_tabW davitlaw11_CallsRight.tab21 davitlaw11_CallsRight.bits21 (fun HT_ HW_ => ?_)
                 generalize wr.drew = w68 at HO_9 HO_10 BK206 HB HL235_0 HL236_0 HR235_0 HR236_0 hx235_0 hx236_0 hHeld ⊢
                 refine pure_ (i := 0) (N := some 79) (v := ?_) (a' := ?_) #[true, false, false, false, false, false, false, false, false, false] rfl rfl (any_of HT_.out (by kernel_rfl)) (fun _ _ _ h => h) (Or.inl ⟨by rfl, ?_⟩) ?_ ?_
                 rotate_left
                 ·intro w'
                  go_simp
                  with_reducible rfl
                 rotate_left
                 ·simp only [Act.put, List.setIfInBounds_toArray, List.set_cons_zero, List.set_cons_succ, i64_w, i32_w]
                  rfl
                 refine pure_ (i := 1) (N := some 80) (v := ?_) (a' := ?_) #[true, true, false, false, false, false, false, false, false, false] rfl rfl (any_of HT_.out (by kernel_rfl)) (fun _ _ _ h => h) (Or.inl ⟨by rfl, ?_⟩) ?_ ?_
                 rotate_left
                 ·intro w'
                  go_simp
                  with_reducible rfl
                 rotate_left
                 ·simp only [Act.put, List.setIfInBounds_toArray, List.set_cons_zero, List.set_cons_succ, i64_w, i32_w]
                  rfl
                 refine pure_ (i := 2) (N := some 81) (v := ?_) (a' := ?_) #[true, true, true, false, false, false, false, false, false, false] rfl rfl (any_of HT_.out (by kernel_rfl)) (fun _ _ _ h => h) (Or.inl ⟨by rfl, ?_⟩) ?_ ?_
                 rotate_left
                 ·intro w'
                  go_simp
                  with_reducible rfl
                 rotate_left
                 ·simp only [Act.put, List.setIfInBounds_toArray, List.set_cons_zero, List.set_cons_succ, i64_w, i32_w]
                  rfl
                 refine pure_ (i := 4) (N := some 83) (v := ?_) (a' := ?_) #[true, true, true, false, true, false, false, false, false, false] rfl rfl (any_of HT_.out (by kernel_rfl)) (fun _ _ _ h => h) (Or.inl ⟨by rfl, ?_⟩) ?_ ?_
                 rotate_left
                 ·intro w'
                  go_simp
                  with_reducible rfl
                 rotate_left
                 ·simp only [Act.put, List.setIfInBounds_toArray, List.set_cons_zero, List.set_cons_succ, i64_w, i32_w]
                  rfl
                 refine pure_ (i := 5) (N := some 84) (v := ?_) (a' := ?_) #[true, true, true, false, true, true, false, false, false, false] rfl rfl (any_of HT_.out (by kernel_rfl)) (fun _ _ _ h => h) (Or.inl ⟨by rfl, ?_⟩) ?_ ?_
                 rotate_left
                 ·intro w'
                  go_simp
                  with_reducible rfl
                 rotate_left
                 ·simp only [Act.put, List.setIfInBounds_toArray, List.set_cons_zero, List.set_cons_succ, i64_w, i32_w]
                  rfl
                 refine pure_ (i := 6) (N := some 85) (v := ?_) (a' := ?_) #[true, true, true, false, true, true, true, false, false, false] rfl rfl (any_of HT_.out (by kernel_rfl)) (fun _ _ _ h => h) (Or.inl ⟨by rfl, ?_⟩) ?_ ?_
                 rotate_left
                 ·intro w'
                  go_simp
                  with_reducible rfl
                 rotate_left
                 ·simp only [Act.put, List.setIfInBounds_toArray, List.set_cons_zero, List.set_cons_succ, i64_w, i32_w]
                  rfl
                 refine take_ (i := 3) (N := some 82) (v := ?_) (a' := ?_) #[true, true, true, true, true, true, true, false, false, false] rfl rfl (take_ofW HT_.out HW_.out (by kernel_rfl)) (fun _ _ _ h => h) (Or.inl ⟨by rfl, ?_⟩) hHeld ?_ ?_
                 rotate_left
                 ·rintro w' ⟨s0, s1⟩
                  go_simp
                  with_reducible rfl
                 rotate_left
                 ·simp only [Act.put, List.setIfInBounds_toArray, List.set_cons_zero, List.set_cons_succ, i64_w, i32_w]
                  rfl
                 refine take_ (i := 7) (N := some 86) (v := ?_) (a' := ?_) #[true, true, true, true, true, true, true, true, false, false] rfl rfl (take_ofW HT_.out HW_.out (by kernel_rfl)) (fun _ _ _ h => h) (Or.inl ⟨by rfl, ?_⟩) hHeld ?_ ?_
                 rotate_left
                 ·rintro w' ⟨s0, s1⟩
                  go_simp
                  with_reducible rfl
                 rotate_left
                 ·simp only [Act.put, List.setIfInBounds_toArray, List.set_cons_zero, List.set_cons_succ, i64_w, i32_w]
                  rfl
                 refine one_ (i := 8) (N := some 87) #[true, true, true, true, true, true, true, true, true, false] rfl rfl (one_of HT_.out (by kernel_rfl)) (by decide) (fun K hK => ?_)
                 refine goes_ Try.func12 (by kernel_rfl) rfl #[.slice A235_0 (rd_L5 t229 x11_3).length c235_0, .slice A236_0 (rd_L5 t232 x11_3).length c236_0] (by rfl) rfl rfl (by (try simp only [List.map_toArray, List.map_cons, List.map_nil]); first | done | rfl | (simp only [List.length_drop, List.length_take]; rfl)) ?_
                 with_reducible refine (davitref02_Ints.calls k3 _ _ (rd_L5 t229 x11_3) _ _ (rd_L5 t232 x11_3) true _ ?side1 ?side2 ?side3 ?side4 A66.out).mono ?_
                 (case side1 => repeat (first | exact (by repeat (first | (with_reducible exact HR235_0.out) | (with_reducible refine Kd.C_alloc ?_ _) | (with_reducible refine Kd.C_drewN ?_ _) | (with_reducible refine Kd.C_drew ?_) | exact HR235_0.out)) | (with_reducible refine Kd.C_alloc ?_ _) | (with_reducible refine Kd.C_drewN ?_ _) | (with_reducible refine Kd.C_drew ?_)))
                 (case side2 => exact HC235_0.out)
                 (case side3 => repeat (first | exact (by repeat (first | (with_reducible exact HR236_0.out) | (with_reducible refine Kd.C_alloc ?_ _) | (with_reducible refine Kd.C_drewN ?_ _) | (with_reducible refine Kd.C_drew ?_) | exact HR236_0.out)) | (with_reducible refine Kd.C_alloc ?_ _) | (with_reducible refine Kd.C_drewN ?_ _) | (with_reducible refine Kd.C_drew ?_)))
                 (case side4 => exact HC236_0.out)
                 rintro e w' ⟨rfl, ⟨nd, rfl⟩⟩
                 refine ⟨_, rfl, ?_⟩
                 refine hK.out _ _ ⟨hHeld.1, hHeld.2⟩ (fun hHeld => ?_)
                 clear hK K
                 refine norm_ (a' := ?_) ?_ ?_
                 rotate_left
                 ·show Act.put _ (some 87) _ = _
                  simp only [Act.put, List.setIfInBounds_toArray, List.set_cons_zero, List.set_cons_succ, i64_w, i32_w]
                  rfl
                 refine pure_ (i := 9) (N := some 88) (v := ?_) (a' := ?_) #[true, true, true, true, true, true, true, true, true, true] rfl rfl (any_of HT_.out (by kernel_rfl)) (fun _ _ _ h => h) (Or.inl ⟨by rfl, ?_⟩) ?_ ?_
                 rotate_left
                 ·intro w'
                  go_simp
                  with_reducible rfl
                 rotate_left
                 ·simp only [Act.put, List.setIfInBounds_toArray, List.set_cons_zero, List.set_cons_succ, i64_w, i32_w]
                  rfl
                 refine done_ (done_of HT_.out (by kernel_rfl)) ?_
                 try go_wp2
                 go_roundg k3
                 case measure => have := HJ7.out; have := HK2.out; have := HK3.out; omega
                 case rel => exact ⟨(wrap64 (x11_3 + 1)), (by first | rfl | (simp; done) | (simp [*]; done)), H', ⟨by have := HJ7.out; have := HK2.out; have := HK3.out; omega⟩, ⟨by (with_reducible repeat (first | apply Kd.S_alloc | apply Kd.S_drewN | apply Kd.S_drew)); exact HO_9.out⟩, ⟨by (with_reducible repeat (first | apply Kd.S_alloc | apply Kd.S_drewN | apply Kd.S_drew)); exact HO_10.out⟩, ⟨by (with_reducible repeat (first | refine blk_drewN ?_ _ | refine blk_drew ?_ | refine blk_alloc ?_ _)); exact BK206.out⟩, ⟨by repeat (first | (with_reducible first | exact HB.out | apply below_alloc | apply pw_below_drewN | apply below_drew1 | refine below_set ?_ GE206.out) | exact HB.out)⟩⟩
                ·replace c67 := Bool.eq_false_iff.mpr c67
                 subst c67
                 have H1 : (some false) = some r := by rw [if_neg (show ¬ (false = true) by decide)] at H; exact H
                 clear H
                 have H := H1
                 clear H1
                 obtain rfl := Option.some.inj H
                 try go_wp2
                 have n0_ := Aside0.mk (Kd.S_drew HO_9.out)
                 have n1_ := Aside0.mk (Kd.S_drew HO_10.out)
                 have n2_ := Aside0.mk (blk_drew BK206.out)
                 have n3_ := Aside0.mk (below_drew1 HB.out)
                 clear HO_9
                 clear HO_10
                 clear BK206
                 clear HB
                 have HO_9 := n0_
                 have HO_10 := n1_
                 have BK206 := n2_
                 have HB := n3_
                 clear n0_ n1_ n2_ n3_
                 have p235 : 0 ≤ (x11_3 : Int) := of_decide_eq_true (by first | (with_reducible assumption) | assumption)
                 have q235 : x11_3 < (t229.length : Int) := of_decide_eq_true (by first | (with_reducible assumption) | assumption)
                 obtain ⟨ad235, A235_0, c235_0, e235, hx235_0, hl235_0, hi235_0⟩ := at_L5 (Kd.S_reads' HO_9.out).2.2 x11_3 p235 q235
                 cases e235
                 obtain ⟨ce235, hce235, hMe235, hcc235⟩ := Kd.S_get HO_9.out [] x11_3 p235 (by first | exact q235 | exact of_decide_eq_true (by first | (with_reducible assumption) | assumption) | (have e_ := (Kd.S_reads' HO_9.out).1; omega))
                 obtain ⟨ve235_0, rfl, ge235_0⟩ := hMe235
                 have hv235_0 := hcc235 0 _ rfl
                 rw [Nat.add_zero, show ((Kd.slice 3 (Kd.int .i64))).sz = 1 from rfl, Nat.mul_one] at hv235_0
                 replace hv235_0 := Option.some.inj (hv235_0.symm.trans hx235_0)
                 rw [hv235_0] at ge235_0
                 have HL235_0 := Aside0.mk (show Kd.R (Kd.int .i64) 3 _ _ _ _ (rd_L5 t229 x11_3) from ge235_0)
                 clear hv235_0 ge235_0
                 clear hcc235 hce235
                 have HR235_0 := Aside0.mk hi235_0
                 have HC235_0 := Aside0.mk hl235_0
                 clear hi235_0 hl235_0
                 replace p235 := eq_true p235
                 replace q235 := eq_true q235
                 have p236 : 0 ≤ (x11_3 : Int) := of_decide_eq_true (by first | (with_reducible assumption) | assumption)
                 have q236 : x11_3 < (t232.length : Int) := of_decide_eq_true (by first | (with_reducible assumption) | assumption)
                 obtain ⟨ad236, A236_0, c236_0, e236, hx236_0, hl236_0, hi236_0⟩ := at_L5 (Kd.S_reads' HO_10.out).2.2 x11_3 p236 q236
                 cases e236
                 obtain ⟨ce236, hce236, hMe236, hcc236⟩ := Kd.S_get HO_10.out [] x11_3 p236 (by first | exact q236 | exact of_decide_eq_true (by first | (with_reducible assumption) | assumption) | (have e_ := (Kd.S_reads' HO_10.out).1; omega))
                 obtain ⟨ve236_0, rfl, ge236_0⟩ := hMe236
                 have hv236_0 := hcc236 0 _ rfl
                 rw [Nat.add_zero, show ((Kd.slice 3 (Kd.int .i64))).sz = 1 from rfl, Nat.mul_one] at hv236_0
                 replace hv236_0 := Option.some.inj (hv236_0.symm.trans hx236_0)
                 rw [hv236_0] at ge236_0
                 have HL236_0 := Aside0.mk (show Kd.R (Kd.int .i64) 3 _ _ _ _ (rd_L5 t232 x11_3) from ge236_0)
                 clear hv236_0 ge236_0
                 clear hcc236 hce236
                 have HR236_0 := Aside0.mk hi236_0
                 have HC236_0 := Aside0.mk hl236_0
                 clear hi236_0 hl236_0
                 replace p236 := eq_true p236
                 replace q236 := eq_true q236
                 refine start_ (n := 10) (S := fun w' => w'.cell? (ad235.add (x11_3).toNat) = some (.slice A235_0 (rd_L5 t229 x11_3).length c235_0) ∧ w'.cell? (ad236.add (x11_3).toNat) = some (.slice A236_0 (rd_L5 t232 x11_3).length c236_0)) (ds := []) #[false, false, false, false, false, false, false, false, false, false] (by kernel_rfl) rfl rfl ⟨hx235_0, hx236_0⟩ (fun hHeld => ?_); refine with_tabW davitlaw11_CallsRight.tab21 davitlaw11_CallsRight.bits21 (fun HT_ HW_ => ?_)
                 generalize wr.drew = w69 at HO_9 HO_10 BK206 HB HL235_0 HL236_0 HR235_0 HR236_0 hx235_0 hx236_0 hHeld ⊢
                 refine pure_ (i := 0) (N := some 79) (v := ?_) (a' := ?_) #[true, false, false, false, false, false, false, false, false, false] rfl rfl (any_of HT_.out (by kernel_rfl)) (fun _ _ _ h => h) (Or.inl ⟨by rfl, ?_⟩) ?_ ?_
                 rotate_left
                 ·intro w'
                  go_simp
                  with_reducible rfl
                 rotate_left
                 ·simp only [Act.put, List.setIfInBounds_toArray, List.set_cons_zero, List.set_cons_succ, i64_w, i32_w]
                  rfl
                 refine pure_ (i := 1) (N := some 80) (v := ?_) (a' := ?_) #[true, true, false, false, false, false, false, false, false, false] rfl rfl (any_of HT_.out (by kernel_rfl)) (fun _ _ _ h => h) (Or.inl ⟨by rfl, ?_⟩) ?_ ?_
                 rotate_left
                 ·intro w'
                  go_simp
                  with_reducible rfl
                 rotate_left
                 ·simp only [Act.put, List.setIfInBounds_toArray, List.set_cons_zero, List.set_cons_succ, i64_w, i32_w]
                  rfl
                 refine pure_ (i := 2) (N := some 81) (v := ?_) (a' := ?_) #[true, true, true, false, false, false, false, false, false, false] rfl rfl (any_of HT_.out (by kernel_rfl)) (fun _ _ _ h => h) (Or.inl ⟨by rfl, ?_⟩) ?_ ?_
                 rotate_left
                 ·intro w'
                  go_simp
                  with_reducible rfl
                 rotate_left
                 ·simp only [Act.put, List.setIfInBounds_toArray, List.set_cons_zero, List.set_cons_succ, i64_w, i32_w]
                  rfl
                 refine pure_ (i := 4) (N := some 83) (v := ?_) (a' := ?_) #[true, true, true, false, true, false, false, false, false, false] rfl rfl (any_of HT_.out (by kernel_rfl)) (fun _ _ _ h => h) (Or.inl ⟨by rfl, ?_⟩) ?_ ?_
                 rotate_left
                 ·intro w'
                  go_simp
                  with_reducible rfl
                 rotate_left
                 ·simp only [Act.put, List.setIfInBounds_toArray, List.set_cons_zero, List.set_cons_succ, i64_w, i32_w]
                  rfl
                 refine pure_ (i := 5) (N := some 84) (v := ?_) (a' := ?_) #[true, true, true, false, true, true, false, false, false, false] rfl rfl (any_of HT_.out (by kernel_rfl)) (fun _ _ _ h => h) (Or.inl ⟨by rfl, ?_⟩) ?_ ?_
                 rotate_left
                 ·intro w'
                  go_simp
                  with_reducible rfl
                 rotate_left
                 ·simp only [Act.put, List.setIfInBounds_toArray, List.set_cons_zero, List.set_cons_succ, i64_w, i32_w]
                  rfl
                 refine pure_ (i := 6) (N := some 85) (v := ?_) (a' := ?_) #[true, true, true, false, true, true, true, false, false, false] rfl rfl (any_of HT_.out (by kernel_rfl)) (fun _ _ _ h => h) (Or.inl ⟨by rfl, ?_⟩) ?_ ?_
                 rotate_left
                 ·intro w'
                  go_simp
                  with_reducible rfl
                 rotate_left
                 ·simp only [Act.put, List.setIfInBounds_toArray, List.set_cons_zero, List.set_cons_succ, i64_w, i32_w]
                  rfl
                 refine take_ (i := 3) (N := some 82) (v := ?_) (a' := ?_) #[true, true, true, true, true, true, true, false, false, false] rfl rfl (take_ofW HT_.out HW_.out (by kernel_rfl)) (fun _ _ _ h => h) (Or.inl ⟨by rfl, ?_⟩) hHeld ?_ ?_
                 rotate_left
                 ·rintro w' ⟨s0, s1⟩
                  go_simp
                  with_reducible rfl
                 rotate_left
                 ·simp only [Act.put, List.setIfInBounds_toArray, List.set_cons_zero, List.set_cons_succ, i64_w, i32_w]
                  rfl
                 refine take_ (i := 7) (N := some 86) (v := ?_) (a' := ?_) #[true, true, true, true, true, true, true, true, false, false] rfl rfl (take_ofW HT_.out HW_.out (by kernel_rfl)) (fun _ _ _ h => h) (Or.inl ⟨by rfl, ?_⟩) hHeld ?_ ?_
                 rotate_left
                 ·rintro w' ⟨s0, s1⟩
                  go_simp
                  with_reducible rfl
                 rotate_left
                 ·simp only [Act.put, List.setIfInBounds_toArray, List.set_cons_zero, List.set_cons_succ, i64_w, i32_w]
                  rfl
                 refine one_ (i := 8) (N := some 87) #[true, true, true, true, true, true, true, true, true, false] rfl rfl (one_of HT_.out (by kernel_rfl)) (by decide) (fun K hK => ?_)
                 refine goes_ Try.func12 (by kernel_rfl) rfl #[.slice A235_0 (rd_L5 t229 x11_3).length c235_0, .slice A236_0 (rd_L5 t232 x11_3).length c236_0] (by rfl) rfl rfl (by (try simp only [List.map_toArray, List.map_cons, List.map_nil]); first | done | rfl | (simp only [List.length_drop, List.length_take]; rfl)) ?_
                 with_reducible refine (davitref02_Ints.calls k3 _ _ (rd_L5 t229 x11_3) _ _ (rd_L5 t232 x11_3) false _ ?side1 ?side2 ?side3 ?side4 A66.out).mono ?_
                 (case side1 => repeat (first | exact (by repeat (first | (with_reducible exact HR235_0.out) | (with_reducible refine Kd.C_alloc ?_ _) | (with_reducible refine Kd.C_drewN ?_ _) | (with_reducible refine Kd.C_drew ?_) | exact HR235_0.out)) | (with_reducible refine Kd.C_alloc ?_ _) | (with_reducible refine Kd.C_drewN ?_ _) | (with_reducible refine Kd.C_drew ?_)))
                 (case side2 => exact HC235_0.out)
                 (case side3 => repeat (first | exact (by repeat (first | (with_reducible exact HR236_0.out) | (with_reducible refine Kd.C_alloc ?_ _) | (with_reducible refine Kd.C_drewN ?_ _) | (with_reducible refine Kd.C_drew ?_) | exact HR236_0.out)) | (with_reducible refine Kd.C_alloc ?_ _) | (with_reducible refine Kd.C_drewN ?_ _) | (with_reducible refine Kd.C_drew ?_)))
                 (case side4 => exact HC236_0.out)
                 rintro e w' ⟨rfl, ⟨nd, rfl⟩⟩
                 refine ⟨_, rfl, ?_⟩
                 refine hK.out _ _ ⟨hHeld.1, hHeld.2⟩ (fun hHeld => ?_)
                 clear hK K
                 refine norm_ (a' := ?_) ?_ ?_
                 rotate_left
                 ·show Act.put _ (some 87) _ = _
                  simp only [Act.put, List.setIfInBounds_toArray, List.set_cons_zero, List.set_cons_succ, i64_w, i32_w]
                  rfl
                 refine pure_ (i := 9) (N := some 88) (v := ?_) (a' := ?_) #[true, true, true, true, true, true, true, true, true, true] rfl rfl (any_of HT_.out (by kernel_rfl)) (fun _ _ _ h => h) (Or.inl ⟨by rfl, ?_⟩) ?_ ?_
                 rotate_left
                 ·intro w'
                  go_simp
                  with_reducible rfl
                 rotate_left
                 ·simp only [Act.put, List.setIfInBounds_toArray, List.set_cons_zero, List.set_cons_succ, i64_w, i32_w]
                  rfl
                 refine done_ (done_of HT_.out (by kernel_rfl)) ?_
                 try go_wp2
                 go_ret
                 exact ⟨by first | rfl | (simp [errW_none, errW_some] <;> rfl) | (simp [*, errW_none, errW_some] <;> rfl), by repeat (first | (with_reducible first | exact HB.out | apply below_alloc | apply pw_below_drewN | apply below_drew1 | refine below_set ?_ GE206.out) | exact HB.out)⟩
               ·rw [if_neg c65] at H
                exact absurd H (by simp)
              ·rw [if_neg c64] at H
               exact absurd H (by simp)
             ·rw [if_neg c63] at H
              have c63b0 : decide (x11_3 < (t229.length : Int)) = false := decide_eq_false c63
              clear c63
              obtain rfl := Option.some.inj H
              go_wp2
              go_ret
              exact ⟨by first | rfl | (simp [errW_none, errW_some] <;> rfl) | (simp [*, errW_none, errW_some] <;> rfl), by repeat (first | (with_reducible first | exact HB.out | apply below_alloc | apply pw_below_drewN | apply below_drew1 | refine below_set ?_ GE206.out) | exact HB.out)⟩
          ·rw [if_neg c57] at H
           have c57b0 : ((t229.length : Int) == (t232.length : Int)) = false := beq_eq_false_iff_ne.mpr c57
           have c57b1 : ((t229.length : Int) != (t232.length : Int)) = true := bne_iff_ne.mpr c57
           have c57b2 : (t229.length == t232.length) = false := by first | simpa using c57 | (simp at c57 ⊢; omega)
           obtain rfl := Option.some.inj H
           try go_wp2
           have n0_ := Aside0.mk (Kd.R_drew HO_7.out)
           have n1_ := Aside0.mk (blk_drew BK206.out)
           have n2_ := Aside0.mk (below_drew1 HB.out)
           clear HO_7
           clear BK206
           clear HB
           have HO_7 := n0_
           have BK206 := n1_
           have HB := n2_
           clear n0_ n1_ n2_
           refine start_ (n := 6) (S := fun w' => w'.cell? ⟨gb206, 0, none⟩ = some (.slice A0_0 l0_0.length c0_0)) (ds := []) #[false, false, false, false, false, false] (by kernel_rfl) rfl rfl ((blk_cell BK206.out 0).trans rfl) (fun hHeld => ?_)
           generalize wr.drew = w70 at HO_7 BK206 HB hHeld ⊢
           refine take_ (i := 0) (N := some 64) (v := ?_) (a' := ?_) #[true, false, false, false, false, false] rfl rfl (by kernel_rfl) (fun _ _ _ h => h) (Or.inl ⟨by rfl, ?_⟩) hHeld ?_ ?_
           rotate_left
           ·intro w' s0
            go_simp
            with_reducible rfl
           rotate_left
           ·simp only [Act.put, List.setIfInBounds_toArray, List.set_cons_zero, List.set_cons_succ, i64_w, i32_w]
            rfl
           refine take_ (i := 2) (N := some 66) (v := ?_) (a' := ?_) #[true, false, true, false, false, false] rfl rfl (by kernel_rfl) (fun _ _ _ h => h) (Or.inl ⟨by rfl, ?_⟩) hHeld ?_ ?_
           rotate_left
           ·intro w' s0
            go_simp
            with_reducible rfl
           rotate_left
           ·simp only [Act.put, List.setIfInBounds_toArray, List.set_cons_zero, List.set_cons_succ, i64_w, i32_w]
            rfl
           refine one_ (i := 1) (N := some 65) #[true, true, true, false, false, false] rfl rfl (by kernel_rfl) (by decide) (fun K hK => ?_)
           refine goes_ Try.func8 (by kernel_rfl) rfl #[.agg #[.slice A0_0 l0_0.length c0_0]] (by rfl) rfl rfl (by (try simp only [List.map_toArray, List.map_cons, List.map_nil]); first | done | rfl | (simp only [List.length_drop, List.length_take]; rfl)) ?_
           with_reducible refine (calls_Groups.calls k2 _ _ l0_0 t229 _ ?side1 ?side2 A55.out).mono ?_
           (case side1 => repeat (first | exact (Kd.C_below HR0_0.out HB.out) | (with_reducible refine Kd.C_alloc ?_ _) | (with_reducible refine Kd.C_drewN ?_ _) | (with_reducible refine Kd.C_drew ?_)))
           (case side2 => exact HC0_0.out)
           rintro e w71 ⟨v230, rfl, ho0, hb⟩
           refine ⟨_, rfl, ?_⟩
           have n0_ := Aside0.mk (Kd.R_below (by (with_reducible repeat (first | apply Kd.R_alloc | apply Kd.R_drewN | apply Kd.R_drew)); exact HO_7.out) hb)
           have n1_ := Aside0.mk (Kd.S_lower ho0 (below_size (by repeat (first | (with_reducible first | exact HB.out | apply below_alloc | apply pw_below_drewN | apply below_drew1 | refine below_set ?_ GE206.out) | exact HB.out))))
           have n2_ := Aside0.mk (blk_below (g := gb206) (o := .cells #[.slice A0_0 l0_0.length c0_0] 24 (0, 0)) (by (with_reducible repeat (first | refine blk_drewN ?_ _ | refine blk_drew ?_ | refine blk_alloc ?_ _)); exact BK206.out) hb)
           have n3_ := Aside0.mk (below_step (by repeat (first | (with_reducible first | exact HB.out | apply below_alloc | apply pw_below_drewN | apply below_drew1 | refine below_set ?_ GE206.out) | exact HB.out)) hb)
           clear HO_7
           clear BK206
           clear HB
           have HO_7 := n0_
           have HO231 := n1_
           have BK206 := n2_
           have HB := n3_
           clear n0_ n1_ n2_ n3_
           (try clear hb)
           (try clear hb2)
           (try clear hk)
           (try clear hi)
           (try clear ho0)
           refine hK.out _ _ ((blk_cell BK206.out 0).trans rfl) (fun hHeld => ?_)
           clear hK K
           refine norm_ (a' := ?_) ?_ ?_
           rotate_left
           ·show Act.put _ (some 65) _ = _
            simp only [Act.put, List.setIfInBounds_toArray, List.set_cons_zero, List.set_cons_succ, i64_w, i32_w]
            rfl
           refine one_ (i := 3) (N := some 67) #[true, true, true, true, false, false] rfl rfl (by kernel_rfl) (by decide) (fun K hK => ?_)
           refine goes_ Try.func16 (by kernel_rfl) rfl #[.agg #[.slice A0_0 l0_0.length c0_0]] (by rfl) rfl rfl (by (try simp only [List.map_toArray, List.map_cons, List.map_nil]); first | done | rfl | (simp only [List.length_drop, List.length_take]; rfl)) ?_
           with_reducible refine (davitref11_Groups.calls k2 _ _ l0_0 t232 _ ?side1 ?side2 A56.out).mono ?_
           (case side1 => repeat (first | exact (Kd.C_below HR0_0.out HB.out) | (with_reducible refine Kd.C_alloc ?_ _) | (with_reducible refine Kd.C_drewN ?_ _) | (with_reducible refine Kd.C_drew ?_)))
           (case side2 => exact HC0_0.out)
           rintro e w72 ⟨v233, rfl, ho0, hb⟩
           refine ⟨_, rfl, ?_⟩
           have n0_ := Aside0.mk (Kd.R_below (by (with_reducible repeat (first | apply Kd.R_alloc | apply Kd.R_drewN | apply Kd.R_drew)); exact HO_7.out) hb)
           have n1_ := Aside0.mk (Kd.S_elder' (by (with_reducible repeat (first | apply Kd.S_alloc | apply Kd.S_drewN | apply Kd.S_drew)); exact HO231.out) (Kd.S_base ho0) hb)
           have n2_ := Aside0.mk (Kd.S_lower (Kd.S_new' ho0 (Kd.S_lt (by (with_reducible repeat (first | apply Kd.S_alloc | apply Kd.S_drewN | apply Kd.S_drew)); exact HO231.out))) (below_size (by repeat (first | (with_reducible first | exact HB.out | apply below_alloc | apply pw_below_drewN | apply below_drew1 | refine below_set ?_ GE206.out) | exact HB.out))))
           have n3_ := Aside0.mk (blk_below (g := gb206) (o := .cells #[.slice A0_0 l0_0.length c0_0] 24 (0, 0)) (by (with_reducible repeat (first | refine blk_drewN ?_ _ | refine blk_drew ?_ | refine blk_alloc ?_ _)); exact BK206.out) hb)
           have n4_ := Aside0.mk (below_step (by repeat (first | (with_reducible first | exact HB.out | apply below_alloc | apply pw_below_drewN | apply below_drew1 | refine below_set ?_ GE206.out) | exact HB.out)) hb)
           clear HO_7
           clear HO231
           clear BK206
           clear HB
           have HO_7 := n0_
           have HO231 := n1_
           have HO234 := n2_
           have BK206 := n3_
           have HB := n4_
           clear n0_ n1_ n2_ n3_ n4_
           (try clear hb)
           (try clear hb2)
           (try clear hk)
           (try clear hi)
           (try clear ho0)
           refine hK.out _ _ ((blk_cell BK206.out 0).trans rfl) (fun hHeld => ?_)
           clear hK K
           refine norm_ (a' := ?_) ?_ ?_
           rotate_left
           ·show Act.put _ (some 67) _ = _
            simp only [Act.put, List.setIfInBounds_toArray, List.set_cons_zero, List.set_cons_succ, i64_w, i32_w]
            rfl
           refine pure_ (i := 4) (N := some 9) (v := ?_) (a' := ?_) #[true, true, true, true, true, false] rfl rfl (by kernel_rfl) (fun _ _ _ h => h) (Or.inl ⟨by rfl, ?_⟩) ?_ ?_
           rotate_left
           ·intro w'
            go_simp
            with_reducible rfl
           rotate_left
           ·simp only [Act.put, List.setIfInBounds_toArray, List.set_cons_zero, List.set_cons_succ, i64_w, i32_w]
            rfl
           refine pure_ (i := 5) (N := some 10) (v := ?_) (a' := ?_) #[true, true, true, true, true, true] rfl rfl (by kernel_rfl) (fun _ _ _ h => h) (Or.inl ⟨by rfl, ?_⟩) ?_ ?_
           rotate_left
           ·intro w'
            go_simp
            with_reducible rfl
           rotate_left
           ·simp only [Act.put, List.setIfInBounds_toArray, List.set_cons_zero, List.set_cons_succ, i64_w, i32_w]
            rfl
           refine done_ (by kernel_rfl) ?_
           obtain ⟨Ao73, co73, eo73⟩ := Kd.S_slice HO231.out
           subst eo73
           obtain ⟨Ao74, co74, eo74⟩ := Kd.S_slice HO234.out
           subst eo74
           try go_wp2
           go_ret
           exact ⟨by first | rfl | (simp [errW_none, errW_some] <;> rfl) | (simp [*, errW_none, errW_some] <;> rfl), by repeat (first | (with_reducible first | exact HB.out | apply below_alloc | apply pw_below_drewN | apply below_drew1 | refine below_set ?_ GE206.out) | exact HB.out)⟩
      ·rw [if_neg c35] at H
       have c35b0 : ((t221.length : Int) == (l0_0.length : Int)) = false := beq_eq_false_iff_ne.mpr c35
       have c35b1 : ((t221.length : Int) != (l0_0.length : Int)) = true := bne_iff_ne.mpr c35
       have c35b2 : (t221.length == l0_0.length) = false := by first | simpa using c35 | (simp at c35 ⊢; omega)
       obtain rfl := Option.some.inj H
       have hcz75_0 : wc.cell? ⟨gb206, 0, none⟩ = some (.slice A0_0 l0_0.length c0_0) := (blk_cell BK206.out 0).trans rfl
       have hfz75_0 := blk_frozen BK206.out 0
       go_wp2_with (first | ((with_reducible refine gate_callee (f := 15) rfl ?_); refine goesL_ (some 38) rfl rfl Try.func15 (by kernel_rfl) rfl #[.agg #[.slice A0_0 l0_0.length c0_0]] rfl (by (try simp only [List.map_toArray, List.map_cons, List.map_nil]); first | done | rfl | (simp only [List.length_drop, List.length_take]; rfl)) ?_; (with_reducible refine (calls_Used.calls kj7 _ _ l0_0 t221 _ ?side1 ?side2 A34.out).mono ?_); (case side1 => repeat (first | exact (Kd.C_below HR0_0.out HB.out) | (with_reducible refine Kd.C_alloc ?_ _) | (with_reducible refine Kd.C_drewN ?_ _) | (with_reducible refine Kd.C_drew ?_))); (case side2 => exact HC0_0.out); rintro e w76 ⟨v222, rfl, ho0, hb⟩; refine ⟨_, rfl, ?_⟩; have n0_ := Aside0.mk (Kd.R_lower ho0 (below_size (by repeat (first | (with_reducible first | exact HB.out | apply below_alloc | apply pw_below_drewN | apply below_drew1 | refine below_set ?_ GE206.out) | exact HB.out)))); have n1_ := Aside0.mk (blk_below (g := gb206) (o := .cells #[.slice A0_0 l0_0.length c0_0] 24 (0, 0)) (by (with_reducible repeat (first | refine blk_drewN ?_ _ | refine blk_drew ?_ | refine blk_alloc ?_ _)); exact BK206.out) hb); have n2_ := Aside0.mk (below_step (by repeat (first | (with_reducible first | exact HB.out | apply below_alloc | apply pw_below_drewN | apply below_drew1 | refine below_set ?_ GE206.out) | exact HB.out)) hb); clear BK206; clear HB; have HO223 := n0_; have BK206 := n1_; have HB := n2_; clear n0_ n1_ n2_; (try clear hb); (try clear hb2); (try clear hk); (try clear hi); (try clear ho0); obtain ⟨Ao77, co77, eo77⟩ := Kd.R_slice HO223.out; subst eo77; have hcz78_0 : w76.cell? ⟨gb206, 0, none⟩ = some (.slice A0_0 l0_0.length c0_0) := (blk_cell BK206.out 0).trans rfl; have hfz78_0 := blk_frozen BK206.out 0))
       go_ret
       exact ⟨by first | rfl | (simp [errW_none, errW_some] <;> rfl) | (simp [*, errW_none, errW_some] <;> rfl), by repeat (first | (with_reducible first | exact HB.out | apply below_alloc | apply pw_below_drewN | apply below_drew1 | refine below_set ?_ GE206.out) | exact HB.out)⟩
  ·replace c7 := Bool.eq_false_iff.mpr c7
   subst c7
   have H1 : (some true) = some r := by rw [if_neg (show ¬ (false = true) by decide)] at H; exact H
   clear H
   have H := H1
   clear H1
   obtain rfl := Option.some.inj H
   go_enter Try.func5, Try.ntmps5
   go_wp2_with (first | ((with_reducible refine gate_dst (N := 3) rfl ?_); refine box_event ?hg (N := 3) ?hd (cs := #[.slice A0_0 l0_0.length c0_0]) (t := 24) ?hr ?_; (case hd => rfl); (case hg => rfl); (case hr => first | (go_simp; done) | (go_simp; rfl)); intro gb206 hg w79 hbox hb; have n0_ := Aside0.mk (below_step (by repeat (first | (with_reducible first | exact HB.out | apply below_alloc | apply pw_below_drewN | apply below_drew1) | exact HB.out)) hb); have n1_ := Aside0.mk (hbox); have n2_ := Aside0.mk ((by rw [hg]; exact (below_size (by repeat (first | (with_reducible first | exact HB.out | apply below_alloc | apply pw_below_drewN | apply below_drew1) | exact HB.out))) : w.heap.size ≤ gb206)); have n3_ := Aside0.mk ((by rw [hg]; exact (below_size (by repeat (first | (with_reducible first | exact HB.out | apply below_alloc | apply pw_below_drewN | apply below_drew1) | exact HB.out))) : w.heap.size ≤ gb206)); clear HB; have HB := n0_; have BK206 := n1_; have GW206 := n2_; have GE206 := n3_; clear n0_ n1_ n2_ n3_; clear hb hbox hg) | ((with_reducible refine gate_callee (f := 6) rfl ?_); refine goesL_ (some 12) rfl rfl Try.func6 (by kernel_rfl) rfl #[] rfl (by (try simp only [List.map_toArray, List.map_cons, List.map_nil]); first | done | rfl | (simp only [List.length_drop, List.length_take]; rfl)) ?_; (with_reducible refine (davitlaw11_awake.calls k  true _ A4.out).mono ?_); rintro e w80 ⟨rfl, hb⟩; refine ⟨_, rfl, ?_⟩; have n0_ := Aside0.mk (blk_below (g := gb206) (o := .cells #[.slice A0_0 l0_0.length c0_0] 24 (0, 0)) (by (with_reducible repeat (first | refine blk_drewN ?_ _ | refine blk_drew ?_ | refine blk_alloc ?_ _)); exact BK206.out) hb); have n1_ := Aside0.mk (below_step (by repeat (first | (with_reducible first | exact HB.out | apply below_alloc | apply pw_below_drewN | apply below_drew1 | refine below_set ?_ GE206.out) | exact HB.out)) hb); clear BK206; clear HB; have BK206 := n0_; have HB := n1_; clear n0_ n1_; (try clear hb); (try clear hb2); (try clear hk); (try clear hi); have hcz81_0 : w80.cell? ⟨gb206, 0, none⟩ = some (.slice A0_0 l0_0.length c0_0) := (blk_cell BK206.out 0).trans rfl; have hfz81_0 := blk_frozen BK206.out 0) | ((with_reducible refine gate_callee (f := 7) rfl ?_); refine goesL_ (some 15) rfl rfl Try.func7 (by kernel_rfl) rfl #[.agg #[.slice A0_0 l0_0.length c0_0]] rfl (by (try simp only [List.map_toArray, List.map_cons, List.map_nil]); first | done | rfl | (simp only [List.length_drop, List.length_take]; rfl)) ?_; (with_reducible refine (davitref02_Short.calls k _ _ l0_0 false _ ?side1 ?side2 A6.out).mono ?_); (case side1 => repeat (first | exact (Kd.C_below HR0_0.out HB.out) | (with_reducible refine Kd.C_alloc ?_ _) | (with_reducible refine Kd.C_drewN ?_ _) | (with_reducible refine Kd.C_drew ?_))); (case side2 => exact HC0_0.out); rintro e w82 ⟨rfl, hb⟩; refine ⟨_, rfl, ?_⟩; have n0_ := Aside0.mk (blk_below (g := gb206) (o := .cells #[.slice A0_0 l0_0.length c0_0] 24 (0, 0)) (by (with_reducible repeat (first | refine blk_drewN ?_ _ | refine blk_drew ?_ | refine blk_alloc ?_ _)); exact BK206.out) hb); have n1_ := Aside0.mk (below_step (by repeat (first | (with_reducible first | exact HB.out | apply below_alloc | apply pw_below_drewN | apply below_drew1 | refine below_set ?_ GE206.out) | exact HB.out)) hb); clear BK206; clear HB; have BK206 := n0_; have HB := n1_; clear n0_ n1_; (try clear hb); (try clear hb2); (try clear hk); (try clear hi)))
   go_ret
   exact ⟨by first | rfl | (simp [errW_none, errW_some] <;> rfl) | (simp [*, errW_none, errW_some] <;> rfl), by repeat (first | (with_reducible first | exact HB.out | apply below_alloc | apply pw_below_drewN | apply below_drew1 | refine below_set ?_ GE206.out) | exact HB.out)⟩
 ·replace c5 := Bool.eq_false_iff.mpr c5
  subst c5
  have H1 : (some false) = some r := by rw [if_neg (show ¬ (false = true) by decide)] at H; exact H
  clear H
  have H := H1
  clear H1
  obtain rfl := Option.some.inj H
  go_enter Try.func5, Try.ntmps5
  go_wp2_with (first | ((with_reducible refine gate_dst (N := 3) rfl ?_); refine box_event ?hg (N := 3) ?hd (cs := #[.slice A0_0 l0_0.length c0_0]) (t := 24) ?hr ?_; (case hd => rfl); (case hg => rfl); (case hr => first | (go_simp; done) | (go_simp; rfl)); intro gb206 hg w83 hbox hb; have n0_ := Aside0.mk (below_step (by repeat (first | (with_reducible first | exact HB.out | apply below_alloc | apply pw_below_drewN | apply below_drew1) | exact HB.out)) hb); have n1_ := Aside0.mk (hbox); have n2_ := Aside0.mk ((by rw [hg]; exact (below_size (by repeat (first | (with_reducible first | exact HB.out | apply below_alloc | apply pw_below_drewN | apply below_drew1) | exact HB.out))) : w.heap.size ≤ gb206)); have n3_ := Aside0.mk ((by rw [hg]; exact (below_size (by repeat (first | (with_reducible first | exact HB.out | apply below_alloc | apply pw_below_drewN | apply below_drew1) | exact HB.out))) : w.heap.size ≤ gb206)); clear HB; have HB := n0_; have BK206 := n1_; have GW206 := n2_; have GE206 := n3_; clear n0_ n1_ n2_ n3_; clear hb hbox hg) | ((with_reducible refine gate_callee (f := 6) rfl ?_); refine goesL_ (some 12) rfl rfl Try.func6 (by kernel_rfl) rfl #[] rfl (by (try simp only [List.map_toArray, List.map_cons, List.map_nil]); first | done | rfl | (simp only [List.length_drop, List.length_take]; rfl)) ?_; (with_reducible refine (davitlaw11_awake.calls k  false _ A4.out).mono ?_); rintro e w84 ⟨rfl, hb⟩; refine ⟨_, rfl, ?_⟩; have n0_ := Aside0.mk (blk_below (g := gb206) (o := .cells #[.slice A0_0 l0_0.length c0_0] 24 (0, 0)) (by (with_reducible repeat (first | refine blk_drewN ?_ _ | refine blk_drew ?_ | refine blk_alloc ?_ _)); exact BK206.out) hb); have n1_ := Aside0.mk (below_step (by repeat (first | (with_reducible first | exact HB.out | apply below_alloc | apply pw_below_drewN | apply below_drew1 | refine below_set ?_ GE206.out) | exact HB.out)) hb); clear BK206; clear HB; have BK206 := n0_; have HB := n1_; clear n0_ n1_; (try clear hb); (try clear hb2); (try clear hk); (try clear hi)))
  go_ret
  exact ⟨by first | rfl | (simp [errW_none, errW_some] <;> rfl) | (simp [*, errW_none, errW_some] <;> rfl), by repeat (first | (with_reducible first | exact HB.out | apply below_alloc | apply pw_below_drewN | apply below_drew1 | refine below_set ?_ GE206.out) | exact HB.out)⟩
end
end Go.Proofs.Ytjjcnbfmmhokeaa.X
namespace Go.Proofs.Ytjjcnbfmmhokeaa.G
open Go.Proofs.Ytjjcnbfmmhokeaa.X Go.RowKit Go.Proofs.YtjjcnbfmmhokeaaW.PrintWords
set_option linter.all false
def Evt {α : Type} (g : Nat → Option α) (r : α) : Prop := ∃ k0, ∀ k, k0 ≤ k → g k = some r
theorem Evt.succ {α : Type} {g : Nat → Option α} {r : α} (h : Evt (fun k => g (k + 1)) r) : Evt g r := by
 obtain ⟨k0, h⟩ := h
 refine ⟨k0 + 1, fun k hk => ?_⟩
 obtain ⟨j, rfl⟩ : ∃ j, k = j + 1 := ⟨k - 1, by omega⟩
 exact h j (by omega)
theorem Evt.bind {α β : Type} {g : Nat → Option α} {h : Nat → α → Option β} {a : α} {r : β} (h1 : Evt g a) (h2 : Evt (fun k => h k a) r) : Evt (fun k => (g k).bind (h k)) r := by
 obtain ⟨k1, h1⟩ := h1
 obtain ⟨k2, h2⟩ := h2
 refine ⟨k1 + k2, fun k hk => ?_⟩
 show (g k).bind (h k) = some r
 rw [h1 k (by omega)]
 exact h2 k (by omega)
theorem Evt.pure {α : Type} (r : α) : Evt (fun _ => some r) r := ⟨0, fun _ _ => rfl⟩
theorem Evt.const {α : Type} {o : Option α} {r : α} (h : o = some r) : Evt (fun _ => o) r := ⟨0, fun _ _ => h⟩
theorem Evt.congr {α : Type} {g g' : Nat → Option α} {r : α} (h : Evt g' r) (e : ∀ k, g k = g' k) : Evt g r := by
 obtain ⟨k0, h⟩ := h
 exact ⟨k0, fun k hk => (e k).trans (h k hk)⟩
theorem Evt.inj {α : Type} {g : Nat → Option α} {r s : α} (h1 : Evt g r) (h2 : Evt g s) : r = s := by
 obtain ⟨k1, h1⟩ := h1
 obtain ⟨k2, h2⟩ := h2
 have e1 := h1 (k1 + k2) (by omega)
 have e2 := h2 (k1 + k2) (by omega)
 rw [e1] at e2
 exact Option.some.inj e2
theorem Evt.ex {α : Type} {g : Nat → Option α} {r : α} (h : Evt g r) : ∃ k, g k = some r := by
 obtain ⟨k0, h⟩ := h
 exact ⟨k0, h k0 (Nat.le_refl _)⟩
theorem Evt.of_mono {α : Type} {g : Nat → Option α} {r : α} (hm : ∀ k, LeO (g k) (g (k + 1))) {k : Nat} (h : g k = some r) : Evt g r := by
 refine ⟨k, fun j hj => ?_⟩
 obtain ⟨d, rfl⟩ := Nat.exists_eq_add_of_le hj
 clear hj
 induction d with
 | zero => exact h
 | succ d ih => exact hm (k + d) _ ih
theorem wrap_small (n : Int) (h0 : -9223372036854775808 ≤ n) (h1 : n ≤ 9223372036854775807) : wrap64 n = n := by unfold wrap64; omega
theorem getD_in {α : Type} (l : List α) (k : Nat) (z : α) (h : k < l.length) : l.getD k z ∈ l := by
 rw [List.getD_eq_getElem?_getD, List.getElem?_eq_getElem h]
 exact List.getElem_mem h
theorem drop_one {α : Type} (l : List α) (k : Nat) (z : α) (h : k < l.length) : l.drop k = l.getD k z :: l.drop (k + 1) := by
 rw [List.drop_eq_getElem_cons h, List.getD_eq_getElem?_getD, List.getElem?_eq_getElem h]; rfl
theorem take_snoc {α : Type} (l : List α) (k : Nat) (z : α) (h : k < l.length) : l.take (k + 1) = l.take k ++ [l.getD k z] := by
 rw [List.take_succ_eq_append_getElem h, List.getD_eq_getElem?_getD, List.getElem?_eq_getElem h]; rfl
theorem of_getD {α : Type} {l : List α} {x : α} (h : x ∈ l) (z : α) : ∃ k, k < l.length ∧ l.getD k z = x := by
 obtain ⟨k, hk, rfl⟩ := List.getElem_of_mem h
 exact ⟨k, hk, by rw [List.getD_eq_getElem?_getD, List.getElem?_eq_getElem hk]; rfl⟩
theorem cast_succ (i : Nat) : (((i + 1 : Nat)) : Int) = (i : Int) + 1 := by omega
end Go.Proofs.Ytjjcnbfmmhokeaa.G
namespace Go.Proofs.Ytjjcnbfmmhokeaa.G
open Go.RowKit
set_option linter.all false
theorem strict_ext : ∀ (l l' : List Int), l.Pairwise (· < ·) → l'.Pairwise (· < ·) → (∀ x, x ∈ l ↔ x ∈ l') → l = l'
 | [], [], _, _, _ => rfl
 | [], y :: l', _, _, h => absurd ((h y).2 (List.mem_cons_self ..)) (by simp)
 | x :: l, [], _, _, h => absurd ((h x).1 (List.mem_cons_self ..)) (by simp)
 | x :: l, y :: l', h1, h2, h => by
  obtain ⟨a1, a2⟩ := List.pairwise_cons.1 h1
  obtain ⟨b1, b2⟩ := List.pairwise_cons.1 h2
  have e : x = y := by
   rcases List.mem_cons.1 ((h x).1 (List.mem_cons_self ..)) with e | e
   ·exact e
   ·rcases List.mem_cons.1 ((h y).2 (List.mem_cons_self ..)) with e' | e'
    ·exact e'.symm
    ·have := a1 y e'; have := b1 x e; omega
  subst e
  congr 1
  refine strict_ext l l' a2 b2 fun z => ⟨fun hz => ?_, fun hz => ?_⟩
  ·rcases List.mem_cons.1 ((h z).1 (List.mem_cons_of_mem _ hz)) with e | e
   ·have := a1 z hz; omega
   ·exact e
  ·rcases List.mem_cons.1 ((h z).2 (List.mem_cons_of_mem _ hz)) with e | e
   ·have := b1 z hz; omega
   ·exact e
theorem compact_up (d : Array Int) (hs : ∀ i j, i ≤ j → j < d.size → d[i]! ≤ d[j]!) : ∀ m, m ≤ d.size →
  (Lib.compactUpTo d m).Pairwise (· < ·) ∧ (∀ x ∈ Lib.compactUpTo d m, ∃ j, j < m ∧ x = d[j]!) ∧ (∀ j, j < m → d[j]! ∈ Lib.compactUpTo d m)
 | 0, _ => by simp [Lib.compactUpTo]
 | m + 1, hm => by
  obtain ⟨h1, h2, h3⟩ := compact_up d hs m (by omega)
  rw [Lib.compactUpTo_succ]
  by_cases hk : Lib.keeps d m = true
  ·rw [if_pos hk]
   refine ⟨List.pairwise_append.2 ⟨h1, by simp, fun a ha b hb => ?_⟩, fun x hx => ?_, fun j hj => ?_⟩
   ·rw [List.mem_singleton.1 hb]
    obtain ⟨j, hj, rfl⟩ := h2 a ha
    have q1 := hs j (m - 1) (by omega) (by omega)
    have q2 := hs (m - 1) m (by omega) (by omega)
    have q3 : d[m]! ≠ d[m - 1]! := by
     intro e
     rw [Lib.keeps_neg (by omega) e] at hk
     cases hk
    omega
   ·rcases List.mem_append.1 hx with hx | hx
    ·obtain ⟨j, hj, e⟩ := h2 x hx
     exact ⟨j, by omega, e⟩
    ·exact ⟨m, by omega, List.mem_singleton.1 hx⟩
   ·by_cases e : j = m
    ·exact List.mem_append_right _ (by rw [e]; simp)
    ·exact List.mem_append_left _ (h3 j (by omega))
  ·rw [if_neg hk, List.append_nil]
   refine ⟨h1, fun x hx => ?_, fun j hj => ?_⟩
   ·obtain ⟨j, hj, e⟩ := h2 x hx
    exact ⟨j, by omega, e⟩
   ·by_cases e : j = m
    ·subst e
     have q : j ≠ 0 ∧ d[j]! = d[j - 1]! := by
      unfold Lib.keeps at hk
      simpa using hk
     rw [q.2]
     exact h3 (j - 1) (by omega)
    ·exact h3 j (by omega)
theorem sorted_compact (l : List Int) : (Lib.compact (l.mergeSort fun x y => decide (x ≤ y))).Pairwise (· < ·) ∧ ∀ x, x ∈ Lib.compact (l.mergeSort fun x y => decide (x ≤ y)) ↔ x ∈ l := by
 have hp := List.pairwise_mergeSort (le := fun x y : Int => decide (x ≤ y)) (fun a b c h1 h2 => by simp at h1 h2 ⊢; omega) (fun a b => by simp; omega) l
 generalize hz : (l.mergeSort fun x y => decide (x ≤ y)) = zs at hp ⊢
 have hm : ∀ x, x ∈ zs ↔ x ∈ l := fun x => by rw [← hz]; exact List.mem_mergeSort
 have hget : ∀ j (h : j < zs.length), zs.toArray[j]! = zs[j] := fun j h => by simp [getElem!_pos, h]
 have hs : ∀ i j, i ≤ j → j < zs.toArray.size → zs.toArray[i]! ≤ zs.toArray[j]! := fun i j hij hj => by
  have hj' : j < zs.length := by simpa using hj
  rw [hget j hj', hget i (by omega)]
  by_cases e : i = j
  ·subst e; exact Int.le_refl _
  ·have := List.pairwise_iff_getElem.1 hp i j (by omega) hj' (by omega)
   simpa using this
 obtain ⟨h1, h2, h3⟩ := compact_up zs.toArray hs zs.length (by simp)
 refine ⟨h1, fun x => (⟨fun hx => ?_, fun hx => ?_⟩ : _ ↔ x ∈ zs).trans (hm x)⟩
 ·obtain ⟨j, hj, rfl⟩ := h2 x hx
  rw [hget j hj]; exact List.getElem_mem hj
 ·obtain ⟨j, hj, rfl⟩ := List.getElem_of_mem hx
  have := h3 j hj
  rw [hget j hj] at this
  exact this
def pickN (p : Nat → Bool) (n : Nat) : List Int := ((List.range n).filter p).map fun (k : Nat) => (k : Int)
theorem pickN_strict (p : Nat → Bool) (n : Nat) : (pickN p n).Pairwise (· < ·) := by
 unfold pickN
 rw [List.pairwise_map]
 exact (List.pairwise_lt_range.sublist List.filter_sublist).imp (fun h => by omega)
theorem mem_pickN {p : Nat → Bool} {n : Nat} {x : Int} : x ∈ pickN p n ↔ ∃ k : Nat, x = (k : Int) ∧ k < n ∧ p k = true := by
 unfold pickN
 rw [List.mem_map]
 constructor
 ·rintro ⟨k, hk, rfl⟩
  have := List.mem_filter.1 hk
  exact ⟨k, rfl, List.mem_range.1 this.1, this.2⟩
 ·rintro ⟨k, rfl, h1, h2⟩
  exact ⟨k, List.mem_filter.2 ⟨List.mem_range.2 h1, h2⟩, rfl⟩
theorem pickN_succ (p : Nat → Bool) (n : Nat) : pickN p (n + 1) = pickN p n ++ (if p n = true then [(n : Int)] else []) := by
 unfold pickN
 rw [List.range_succ, List.filter_append, List.map_append]
 congr 1
 by_cases h : p n = true
 ·rw [if_pos h, List.filter_cons_of_pos h]; rfl
 ·rw [if_neg h, List.filter_cons_of_neg h]; rfl
theorem pickN_len (p : Nat → Bool) (n : Nat) : (pickN p n).length ≤ n := by
 unfold pickN
 rw [List.length_map]
 exact Nat.le_trans (List.length_filter_le _ _) (by simp)
theorem compact_pick (l : List Int) (n : Nat) (h : ∀ x ∈ l, 0 ≤ x ∧ x < (n : Int)) : Lib.compact (l.mergeSort fun x y => decide (x ≤ y)) = pickN (fun k => decide ((k : Int) ∈ l)) n := by
 obtain ⟨h1, h2⟩ := sorted_compact l
 refine strict_ext _ _ h1 (pickN_strict _ _) fun x => (h2 x).trans ?_
 rw [mem_pickN]
 constructor
 ·intro hx
  have := h x hx
  exact ⟨x.toNat, by omega, by omega, decide_eq_true (by rw [show ((x.toNat : Nat) : Int) = x by omega]; exact hx)⟩
 ·rintro ⟨k, rfl, _, hk⟩
  exact of_decide_eq_true hk
end Go.Proofs.Ytjjcnbfmmhokeaa.G
namespace Go.Proofs.Ytjjcnbfmmhokeaa.G
open Go.Proofs.Ytjjcnbfmmhokeaa.X Go.RowKit Go.Proofs.YtjjcnbfmmhokeaaW.PrintWords
set_option linter.all false
structure GoodB (b : S44) : Prop where
 ins : b.f2.length ≤ 70
 ctc : b.f1.f1.length ≤ 20
 arg : b.f3.f4.length ≤ 20
 xar : ∀ x ∈ b.f2, x.f6.length ≤ 20
structure GoodF (f : S33) : Prop where
 len : f.f2.length ≤ 70
 blk : ∀ b ∈ f.f2, GoodB b
structure Sh (m : List S33) : Prop where
 len : m.length ≤ 20
 fn : ∀ f ∈ m, GoodF f
theorem rdF (l : List S33) (i : Nat) : rd_T33 l (i : Int) = l.getD i z33 := by unfold rd_T33; rw [Int.toNat_natCast]
theorem rdB (l : List S44) (i : Nat) : rd_T44 l (i : Int) = l.getD i z44 := by unfold rd_T44; rw [Int.toNat_natCast]
theorem rdI (l : List S36) (i : Nat) : rd_T36 l (i : Int) = l.getD i z36 := by unfold rd_T36; rw [Int.toNat_natCast]
theorem short_l2 (m : List S33) (n : Int) (i k : Nat) (b : S44) (hk : k < 70) (hb : b.f2.length ≤ 70) (G : Prop)
  (h : ∃ r, Evt (fun f => davitref02_Short.l1 f n (i : Int) ((k : Int) + 1) m) r ∧ (r = true → G)) :
  ∀ (d j : Nat), j + d = b.f2.length → (∀ q, q < j → (b.f2.getD q z36).f6.length ≤ 20) →
   ∃ r, Evt (fun f => davitref02_Short.l2 f n (i : Int) (k : Int) (j : Int) m b.f0 b.f1.f0 b.f1.f1 b.f1.f2 b.f1.f3 b.f2 b.f3.f0 b.f3.f1 b.f3.f2 b.f3.f3 b.f3.f4 b.f3.f5 b.f3.f6 b.f3.f7) r ∧ (r = true → (∀ x ∈ b.f2, x.f6.length ≤ 20) ∧ G) := by
 intro d
 induction d with
 | zero =>
  intro j hj hq
  obtain ⟨r, hr, hG⟩ := h
  refine ⟨r, Evt.succ (Evt.congr hr fun f => ?_), fun e => ⟨fun x hx => ?_, hG e⟩⟩
  ·rw [davitref02_Short.l2, if_neg (by omega), wrap_small _ (by omega) (by omega)]
  ·obtain ⟨q, hq1, rfl⟩ := of_getD hx z36
   exact hq q (by omega)
 | succ d ih =>
  intro j hj hq
  by_cases hx : ((b.f2.getD j z36).f6.length : Int) > 20
  ·refine ⟨false, Evt.succ (Evt.congr (Evt.pure _) fun f => ?_), fun e => by cases e⟩
   rw [davitref02_Short.l2, if_pos (by omega), if_pos (by omega), rdI, if_pos hx]
  ·obtain ⟨r, hr, hG⟩ := ih (j + 1) (by omega) (fun q hq1 => by
    rcases Nat.lt_or_ge q j with h | h
    ·exact hq q h
    ·obtain rfl : q = j := by omega
     omega)
   rw [cast_succ] at hr
   refine ⟨r, Evt.succ (Evt.congr hr fun f => ?_), hG⟩
   rw [davitref02_Short.l2, if_pos (by omega), if_pos (by omega), rdI, if_neg hx, wrap_small _ (by omega) (by omega)]
theorem short_l1 (m : List S33) (i : Nat) (hi : i < m.length) (hm : m.length ≤ 20) (hB : (m.getD i z33).f2.length ≤ 70) (G : Prop)
  (h : ∀ n : Int, 0 ≤ n → n ≤ (i + 1) * 4900 → ∃ r, Evt (fun f => davitref02_Short.l0 f n ((i : Int) + 1) m) r ∧ (r = true → G)) :
  ∀ (d k : Nat) (n : Int), k + d = (m.getD i z33).f2.length → 0 ≤ n → n ≤ i * 4900 + k * 70 → (∀ q, q < k → GoodB ((m.getD i z33).f2.getD q z44)) →
   ∃ r, Evt (fun f => davitref02_Short.l1 f n (i : Int) (k : Int) m) r ∧ (r = true → GoodF (m.getD i z33) ∧ G) := by
 intro d
 induction d with
 | zero =>
  intro k n hk h0 h1 hq
  obtain ⟨r, hr, hG⟩ := h n h0 (by omega)
  refine ⟨r, Evt.succ (Evt.congr hr fun f => ?_), fun e => ⟨⟨hB, fun b hb => ?_⟩, hG e⟩⟩
  ·rw [davitref02_Short.l1, if_pos (by omega), if_pos (by omega), rdF, if_neg (by omega), wrap_small _ (by omega) (by omega)]
  ·obtain ⟨q, hq1, rfl⟩ := of_getD hb z44
   exact hq q (by omega)
 | succ d ih =>
  intro k n hk h0 h1 hq
  obtain ⟨b, hb⟩ : ∃ b, b = (m.getD i z33).f2.getD k z44 := ⟨_, rfl⟩
  have start : ∀ {r : Bool} {x : Bool}, x = decide ((b.f2.length : Int) > 70 ∨ (b.f1.f1.length : Int) > 20 ∨ (b.f3.f4.length : Int) > 20) → Evt (fun f => davitref02_Short.j2 f n (i : Int) (k : Int) x m b.f0 b.f1.f0 b.f1.f1 b.f1.f2 b.f1.f3 b.f2 b.f3.f0 b.f3.f1 b.f3.f2 b.f3.f3 b.f3.f4 b.f3.f5 b.f3.f6 b.f3.f7) r → Evt (fun f => davitref02_Short.l1 f n (i : Int) (k : Int) m) r := by
   intro r x hx hr
   refine Evt.succ (Evt.congr hr fun f => ?_)
   rw [davitref02_Short.l1, if_pos (by omega), if_pos (by omega), rdF, if_pos (by omega), if_pos (by omega), rdB, ← hb, hx]
   by_cases c1 : (b.f2.length : Int) > 70
   ·rw [if_pos c1, decide_eq_true (.inl c1)]
   ·rw [if_neg c1]
    by_cases c2 : (b.f1.f1.length : Int) > 20
    ·rw [if_pos c2, decide_eq_true (.inr (.inl c2))]
    ·rw [if_neg c2]
     congr 1
     exact decide_eq_decide.2 ⟨fun h => .inr (.inr h), fun h => by omega⟩
  by_cases hbad : (b.f2.length : Int) > 70 ∨ (b.f1.f1.length : Int) > 20 ∨ (b.f3.f4.length : Int) > 20
  ·refine ⟨false, start (x := true) (by rw [decide_eq_true hbad]) (Evt.succ (Evt.congr (Evt.pure _) fun f => ?_)), fun e => by cases e⟩
   rw [davitref02_Short.j2, if_pos rfl]
  ·have hk70 : k < 70 := by omega
   have hG : ∃ r, Evt (fun f => davitref02_Short.l2 f (n + (b.f2.length : Int)) (i : Int) (k : Int) ((0 : Nat) : Int) m b.f0 b.f1.f0 b.f1.f1 b.f1.f2 b.f1.f3 b.f2 b.f3.f0 b.f3.f1 b.f3.f2 b.f3.f3 b.f3.f4 b.f3.f5 b.f3.f6 b.f3.f7) r ∧ (r = true → GoodF (m.getD i z33) ∧ G) := by
    by_cases hxa : ∀ x ∈ b.f2, x.f6.length ≤ 20
    ·have gb : GoodB b := ⟨by omega, by omega, by omega, hxa⟩
     obtain ⟨r, hr, hG⟩ := short_l2 m (n + (b.f2.length : Int)) i k b hk70 (by omega) (GoodF (m.getD i z33) ∧ G) (by
      have := ih (k + 1) (n + (b.f2.length : Int)) (by omega) (by omega) (by omega) (fun q hq1 => by
       rcases Nat.lt_or_ge q k with h | h
       ·exact hq q h
       ·obtain rfl : q = k := by omega
        rw [← hb]; exact gb)
      rwa [cast_succ] at this) b.f2.length 0 (by omega) (fun q hq => by omega)
     exact ⟨r, hr, fun e => (hG e).2⟩
    ·
     have key : ∀ (d j : Nat), j + d = b.f2.length → (∃ q, j ≤ q ∧ q < b.f2.length ∧ ¬ (b.f2.getD q z36).f6.length ≤ 20) → Evt (fun f => davitref02_Short.l2 f (n + (b.f2.length : Int)) (i : Int) (k : Int) (j : Int) m b.f0 b.f1.f0 b.f1.f1 b.f1.f2 b.f1.f3 b.f2 b.f3.f0 b.f3.f1 b.f3.f2 b.f3.f3 b.f3.f4 b.f3.f5 b.f3.f6 b.f3.f7) false := by
      intro d
      induction d with
      | zero => rintro j hj ⟨q, h1, h2, _⟩; omega
      | succ d ih2 =>
       rintro j hj ⟨q, h1, h2, h3⟩
       by_cases hx : ((b.f2.getD j z36).f6.length : Int) > 20
       ·refine Evt.succ (Evt.congr (Evt.pure _) fun f => ?_)
        rw [davitref02_Short.l2, if_pos (by omega), if_pos (by omega), rdI, if_pos hx]
       ·have hne : q ≠ j := fun e => by subst e; omega
        have := ih2 (j + 1) (by omega) ⟨q, by omega, h2, h3⟩
        rw [cast_succ] at this
        refine Evt.succ (Evt.congr this fun f => ?_)
        rw [davitref02_Short.l2, if_pos (by omega), if_pos (by omega), rdI, if_neg hx, wrap_small _ (by omega) (by omega)]
     have hex : ∃ q, 0 ≤ q ∧ q < b.f2.length ∧ ¬ (b.f2.getD q z36).f6.length ≤ 20 := by
      apply Classical.byContradiction
      intro hno
      refine hxa fun x hx => ?_
      obtain ⟨q, hq1, rfl⟩ := of_getD hx z36
      apply Classical.byContradiction
      intro h3
      exact hno ⟨q, Nat.zero_le _, hq1, h3⟩
     exact ⟨false, key b.f2.length 0 (by omega) hex, fun e => by cases e⟩
   obtain ⟨r, hr, hG⟩ := hG
   refine ⟨r, start (x := false) (by rw [decide_eq_false hbad]) (Evt.succ (Evt.congr hr fun f => ?_)), hG⟩
   rw [davitref02_Short.j2, if_neg (by simp), wrap_small _ (by omega) (by omega)]
   rfl
theorem short_l0 (m : List S33) (hm : m.length ≤ 20) : ∀ (d i : Nat) (n : Int), i + d = m.length → 0 ≤ n → n ≤ i * 4900 → (∀ q, q < i → GoodF (m.getD q z33)) →
  ∃ r, Evt (fun f => davitref02_Short.l0 f n (i : Int) m) r ∧ (r = true → Sh m) := by
 intro d
 induction d with
 | zero =>
  intro i n hi h0 h1 hq
  refine ⟨_, Evt.succ (Evt.congr (Evt.pure (decide (n ≤ 2000))) fun f => ?_), fun _ => ⟨hm, fun f hf => ?_⟩⟩
  ·rw [davitref02_Short.l0, if_neg (by omega)]
  ·obtain ⟨q, hq1, rfl⟩ := of_getD hf z33
   exact hq q (by omega)
 | succ d ih =>
  intro i n hi h0 h1 hq
  by_cases hB : (((m.getD i z33).f2).length : Int) > 70
  ·refine ⟨false, Evt.succ (Evt.congr (Evt.pure _) fun f => ?_), fun e => by cases e⟩
   rw [davitref02_Short.l0, if_pos (by omega), if_pos (by omega), rdF, if_pos hB]
  ·by_cases hg : GoodF (m.getD i z33)
   ·obtain ⟨r, hr, hG⟩ := short_l1 m i (by omega) hm (by omega) (Sh m) (fun n h0 h1 => by
     have := ih (i + 1) n (by omega) h0 (by omega) (fun q hq1 => by
      rcases Nat.lt_or_ge q i with h | h
      ·exact hq q h
      ·obtain rfl : q = i := by omega
       exact hg)
     rwa [cast_succ] at this) (m.getD i z33).f2.length 0 n (by omega) h0 (by omega) (fun q hq => by omega)
    refine ⟨r, Evt.succ (Evt.congr hr fun f => ?_), fun e => (hG e).2⟩
    rw [davitref02_Short.l0, if_pos (by omega), if_pos (by omega), rdF, if_neg hB]
    rfl
   ·
    have hend : ∀ (d i : Nat) (n : Int), i + d = m.length → 0 ≤ n → n ≤ i * 4900 → ∃ r, Evt (fun f => davitref02_Short.l0 f n (i : Int) m) r ∧ (r = true → True) := by
     intro d
     induction d with
     | zero =>
      intro i n hi h0 h1
      refine ⟨_, Evt.succ (Evt.congr (Evt.pure (decide (n ≤ 2000))) fun f => ?_), fun _ => trivial⟩
      rw [davitref02_Short.l0, if_neg (by omega)]
     | succ d ih2 =>
      intro i n hi h0 h1
      by_cases hB : (((m.getD i z33).f2).length : Int) > 70
      ·refine ⟨false, Evt.succ (Evt.congr (Evt.pure _) fun f => ?_), fun _ => trivial⟩
       rw [davitref02_Short.l0, if_pos (by omega), if_pos (by omega), rdF, if_pos hB]
      ·obtain ⟨r, hr, _⟩ := short_l1 m i (by omega) hm (by omega) True (fun n h0 h1 => by
        have := ih2 (i + 1) n (by omega) h0 (by omega)
        rwa [cast_succ] at this) (m.getD i z33).f2.length 0 n (by omega) h0 (by omega) (fun q hq => by omega)
       refine ⟨r, Evt.succ (Evt.congr hr fun f => ?_), fun _ => trivial⟩
       rw [davitref02_Short.l0, if_pos (by omega), if_pos (by omega), rdF, if_neg hB]
       rfl
    obtain ⟨r, hr, hG⟩ := short_l1 m i (by omega) hm (by omega) True (fun n h0 h1 => by
     have := hend d (i + 1) n (by omega) h0 (by omega)
     rwa [cast_succ] at this) (m.getD i z33).f2.length 0 n (by omega) h0 (by omega) (fun q hq => by omega)
    refine ⟨r, Evt.succ (Evt.congr hr fun f => ?_), fun e => absurd (hG e).1 hg⟩
    rw [davitref02_Short.l0, if_pos (by omega), if_pos (by omega), rdF, if_neg hB]
    rfl
theorem short_ev (m : List S33) : ∃ r, Evt (fun f => davitref02_Short.f f m) r ∧ (r = true → Sh m) := by
 by_cases hm : (m.length : Int) > 20
 ·refine ⟨false, Evt.congr (Evt.pure _) fun f => ?_, fun e => by cases e⟩
  unfold davitref02_Short.f
  rw [if_pos hm]
 ·obtain ⟨r, hr, hG⟩ := short_l0 m (by omega) m.length 0 0 (by omega) (by omega) (by omega) (fun q hq => by omega)
  refine ⟨r, Evt.congr hr fun f => ?_, hG⟩
  unfold davitref02_Short.f
  rw [if_neg hm]
  rfl
end Go.Proofs.Ytjjcnbfmmhokeaa.G
namespace Go.Proofs.Ytjjcnbfmmhokeaa.G
open Go.Proofs.Ytjjcnbfmmhokeaa.X Go.RowKit Go.Proofs.YtjjcnbfmmhokeaaW.PrintWords
set_option linter.all false
def insCalls (l : List S36) (k : Int) : Bool := l.any fun x => x.f0 == 11 && x.f5 == k
def blkCalls (b : S44) (k : Int) : Bool := insCalls b.f2 k || (b.f3.f0 == 4 && b.f3.f3 == k)
def callsB (bs : List S44) (k : Int) : Bool := bs.any fun b => blkCalls b k
def E (m : List S33) (a b : Nat) : Bool := callsB (m.getD a z33).f2 (b : Int)
def ofL (m : List S33) (a : Nat) : List Int := pickN (E m a) m.length
theorem goIns_ok : ∀ (l : List S36) (out : List Int), out.length + l.length < 1000000 → ∃ r, goIns l out = some r ∧ r.length ≤ out.length + l.length ∧ ∀ k, k ∈ r ↔ k ∈ out ∨ insCalls l k = true
 | [], out, _ => ⟨out, rfl, Nat.le_refl _, fun k => by simp [insCalls]⟩
 | x :: r, out, h => by
  simp only [List.length_cons] at h
  rw [goIns]
  by_cases e : x.f0 = 11
  ·rw [if_pos e, if_pos (by omega)]
   obtain ⟨q, h1, h2, h3⟩ := goIns_ok r (out ++ [x.f5]) (by simp; omega)
   refine ⟨q, h1, by simp at h2 ⊢; omega, fun k => (h3 k).trans ?_⟩
   simp only [insCalls, List.any_cons, List.mem_append, List.mem_singleton, Bool.or_eq_true, Bool.and_eq_true, beq_iff_eq, e]
   constructor
   ·rintro ((h | h) | h)
    ·exact .inl h
    ·exact .inr (.inl ⟨trivial, h.symm⟩)
    ·exact .inr (.inr h)
   ·rintro (h | h | h)
    ·exact .inl (.inl h)
    ·exact .inl (.inr h.2.symm)
    ·exact .inr h
  ·rw [if_neg e]
   obtain ⟨q, h1, h2, h3⟩ := goIns_ok r out (by omega)
   refine ⟨q, h1, by simp; omega, fun k => (h3 k).trans ?_⟩
   simp only [insCalls, List.any_cons, Bool.or_eq_true, Bool.and_eq_true, beq_iff_eq, e, false_and, false_or]
theorem goBlk_ok : ∀ (l : List S44) (out : List Int), (∀ b ∈ l, b.f2.length ≤ 70) → out.length + l.length * 71 < 1000000 → ∃ r, goBlk l out = some r ∧ r.length ≤ out.length + l.length * 71 ∧ ∀ k, k ∈ r ↔ k ∈ out ∨ callsB l k = true
 | [], out, _, _ => ⟨out, rfl, by simp, fun k => by simp [callsB]⟩
 | b :: r, out, hb, h => by
  simp only [List.length_cons] at h
  have h70 := hb b (by simp)
  obtain ⟨o1, e1, l1, m1⟩ := goIns_ok b.f2 out (by omega)
  have e2 : ∃ o2, goEnd b o1 = some o2 ∧ o2.length ≤ o1.length + 1 ∧ ∀ k, k ∈ o2 ↔ k ∈ o1 ∨ (b.f3.f0 = 4 ∧ b.f3.f3 = k) := by
   unfold goEnd
   by_cases e : b.f3.f0 = 4
   ·rw [if_pos e, if_pos (by omega)]
    exact ⟨_, rfl, by simp, fun k => by simp [e, eq_comm]⟩
   ·rw [if_neg e]
    exact ⟨_, rfl, by omega, fun k => by simp [e]⟩
  obtain ⟨o2, e2, l2, m2⟩ := e2
  obtain ⟨q, e3, l3, m3⟩ := goBlk_ok r o2 (fun x hx => hb x (by simp [hx])) (by omega)
  refine ⟨q, by rw [goBlk, e1, Option.bind_some, e2, Option.bind_some, e3], by simp; omega, fun k => ?_⟩
  rw [m3, m2, m1]
  simp only [callsB, List.any_cons, blkCalls, Bool.or_eq_true, Bool.and_eq_true, beq_iff_eq]
  constructor
  ·rintro (((h | h) | h) | h)
   ·exact .inl h
   ·exact .inr (.inl (.inl h))
   ·exact .inr (.inl (.inr h))
   ·exact .inr (.inr h)
  ·rintro (h | (h | h) | h)
   ·exact .inl (.inl (.inl h))
   ·exact .inl (.inl (.inr h))
   ·exact .inl (.inr h)
   ·exact .inr h
theorem isB_iff (n : Nat) (k : Int) : isB n k = true ↔ 0 ≤ k ∧ k < (n : Int) := by unfold isB; simp
theorem of_prog (m : List S33) (hm : Sh m) (a : Int) : calls_Of.f m a = some (if isB m.length a = true then ofL m a.toNat else []) := by
 unfold calls_Of.f
 by_cases h : isB m.length a = true
 ·rw [if_pos h, if_pos h]
  have h01 := (isB_iff _ _).1 h
  have hf : rd_T33 m a = m.getD a.toNat z33 := rfl
  have hmem : m.getD a.toNat z33 ∈ m := getD_in m _ z33 (by omega)
  have hg := hm.fn _ hmem
  rw [hf]
  obtain ⟨o, e1, l1, m1⟩ := goBlk_ok (m.getD a.toNat z33).f2 [] (fun b hb => (hg.blk b hb).ins) (by have := hg.len; rw [List.length_nil]; omega)
  have := hg.len
  rw [e1, Option.bind_some, if_pos (by rw [List.length_nil] at l1; omega)]
  congr 1
  rw [compact_pick _ m.length (fun x hx => (isB_iff _ _).1 (List.mem_filter.1 hx).2)]
  unfold ofL pickN
  congr 1
  refine List.filter_congr fun k hk => ?_
  have hk := List.mem_range.1 hk
  have e : ((k : Int) ∈ o.filter fun k => isB m.length k) ↔ E m a.toNat k = true := by
   rw [List.mem_filter, m1, isB_iff]
   unfold E
   constructor
   ·rintro ⟨h1 | h1, _⟩
    ·cases h1
    ·exact h1
   ·intro h1
    exact ⟨.inr h1, by omega, by omega⟩
  cases hE : E m a.toNat k with
  | true => exact decide_eq_true (e.2 hE)
  | false => exact decide_eq_false fun h => by rw [e.1 h] at hE; cases hE
 ·rw [if_neg h, if_neg h]
theorem refCalls_l1 (l : List S44) (a0 a1 : Int) (k : Int) (hl : l.length ≤ 100000) (i : Nat) (hi : i < l.length) (hb : (l.getD i z44).f2.length ≤ 100000) (res : Bool)
  (hyes : blkCalls (l.getD i z44) k = true → res = true) (hno : blkCalls (l.getD i z44) k = false → Evt (fun f => davitref11_Calls.l0 f k ((i : Int) + 1) a0 a1 l) res) :
  ∀ (d j : Nat), j + d = (l.getD i z44).f2.length → (insCalls ((l.getD i z44).f2.take j) k = false) → Evt (fun f => davitref11_Calls.l1 f k (i : Int) (j : Int) a0 a1 l) res := by
 obtain ⟨b, hbe⟩ : ∃ b, b = l.getD i z44 := ⟨_, rfl⟩
 rw [← hbe] at hb hyes hno ⊢
 intro d
 induction d with
 | zero =>
  intro j hj hp
  rw [List.take_of_length_le (by omega)] at hp
  by_cases e4 : b.f3.f0 = 4
  ·by_cases ek : b.f3.f3 = k
   ·obtain rfl := hyes (by unfold blkCalls; simp [e4, ek])
    refine Evt.succ (Evt.congr (Evt.pure _) fun f => ?_)
    rw [davitref11_Calls.l1, if_pos (by omega), if_pos (by omega), rdB, ← hbe, if_neg (by omega), if_pos e4, if_pos ek]
   ·refine Evt.succ (Evt.congr (hno (by unfold blkCalls; simp [hp, ek])) fun f => ?_)
    rw [davitref11_Calls.l1, if_pos (by omega), if_pos (by omega), rdB, ← hbe, if_neg (by omega), if_pos e4, if_neg ek, wrap_small _ (by omega) (by omega)]
  ·refine Evt.succ (Evt.congr (hno (by unfold blkCalls; simp [hp, e4])) fun f => ?_)
   rw [davitref11_Calls.l1, if_pos (by omega), if_pos (by omega), rdB, ← hbe, if_neg (by omega), if_neg e4, wrap_small _ (by omega) (by omega)]
 | succ d ih =>
  intro j hj hp
  have hjl : j < b.f2.length := by omega
  have hw : wrap64 ((j : Int) + 1) = (j : Int) + 1 := wrap_small _ (by omega) (by omega)
  by_cases hc : (b.f2.getD j z36).f0 = 11 ∧ (b.f2.getD j z36).f5 = k
  ·obtain rfl := hyes (by
    unfold blkCalls insCalls
    rw [Bool.or_eq_true]
    exact .inl (List.any_eq_true.2 ⟨_, getD_in b.f2 j z36 hjl, by simp only [hc.1, hc.2, beq_self_eq_true, Bool.and_self]⟩))
   refine Evt.succ (Evt.congr (Evt.pure _) fun f => ?_)
   rw [davitref11_Calls.l1, if_pos (by omega), if_pos (by omega), rdB, ← hbe, if_pos (by omega), if_pos (by omega), rdI, if_pos hc.1, if_pos hc.2]
  ·have nx := ih (j + 1) (by omega) (by
    rw [take_snoc b.f2 j z36 hjl]
    unfold insCalls at hp ⊢
    rw [List.any_append, hp, Bool.false_or, List.any_cons, List.any_nil, Bool.or_false, Bool.and_eq_false_iff]
    by_cases e : (b.f2.getD j z36).f0 = 11
    ·right; exact beq_eq_false_iff_ne.2 (fun h => hc ⟨e, h⟩)
    ·left; exact beq_eq_false_iff_ne.2 e)
   rw [cast_succ] at nx
   refine Evt.succ (Evt.congr nx fun f => ?_)
   rw [davitref11_Calls.l1, if_pos (by omega), if_pos (by omega), rdB, ← hbe, if_pos (by omega), if_pos (by omega), rdI, hw]
   by_cases e : (b.f2.getD j z36).f0 = 11
   ·rw [if_pos e, if_neg (fun h => hc ⟨e, h⟩)]
   ·rw [if_neg e]
theorem refCalls_ev (l : List S44) (a0 a1 : Int) (k : Int) (hl : l.length ≤ 100000) (hb : ∀ b ∈ l, b.f2.length ≤ 100000) : Evt (fun f => davitref11_Calls.f f a0 a1 l k) (callsB l k) := by
 have key : ∀ (d i : Nat), i + d = l.length → callsB (l.take i) k = false → Evt (fun f => davitref11_Calls.l0 f k (i : Int) a0 a1 l) (callsB l k) := by
  intro d
  induction d with
  | zero =>
   intro i hi hp
   rw [List.take_of_length_le (by omega)] at hp
   rw [hp]
   refine Evt.succ (Evt.congr (Evt.pure _) fun f => ?_)
   rw [davitref11_Calls.l0, if_neg (by omega)]
  | succ d ih =>
   intro i hi hp
   have hil : i < l.length := by omega
   have hmem := getD_in l i z44 hil
   have := refCalls_l1 l a0 a1 k hl i hil (hb _ hmem) (callsB l k) (fun h => by unfold callsB; exact List.any_eq_true.2 ⟨_, hmem, h⟩) (fun h => by
    have := ih (i + 1) (by omega) (by
     rw [take_snoc l i z44 hil]
     unfold callsB at hp ⊢
     rw [List.any_append, hp, Bool.false_or, List.any_cons, List.any_nil, Bool.or_false]
     exact h)
    rwa [cast_succ] at this) (l.getD i z44).f2.length 0 (by omega) rfl
   refine Evt.succ (Evt.congr this fun f => ?_)
   rw [davitref11_Calls.l0, if_pos (by omega)]
   rfl
 exact key l.length 0 (by omega) rfl
theorem of_ref (m : List S33) (hm : Sh m) (a : Int) : Evt (fun f => davitref11_Of.f f m a) (if isB m.length a = true then ofL m a.toNat else []) := by
 have hl := hm.len
 by_cases h : isB m.length a = true
 ·rw [if_pos h]
  have h01 := (isB_iff _ _).1 h
  have hg := hm.fn _ (getD_in m a.toNat z33 (by omega))
  have key : ∀ (d i : Nat), i + d = m.length → Evt (fun f => davitref11_Of.l0 f a (pickN (E m a.toNat) i) (i : Int) m) (ofL m a.toNat) := by
   intro d
   induction d with
   | zero =>
    intro i hi
    obtain rfl : i = m.length := by omega
    refine Evt.succ (Evt.congr (Evt.pure _) fun f => ?_)
    rw [davitref11_Of.l0, if_neg (by omega)]
    rfl
   | succ d ih =>
    intro i hi
    have nx := ih (i + 1) (by omega)
    rw [cast_succ, pickN_succ] at nx
    have hc := refCalls_ev (m.getD a.toNat z33).f2 (m.getD a.toNat z33).f0 (m.getD a.toNat z33).f1 (i : Int) (by have := hg.len; omega) (fun b hb => by have := (hg.blk b hb).ins; omega)
    have hlen := pickN_len (E m a.toNat) i
    refine Evt.succ (Evt.congr (Evt.bind (h := fun f t155 => (if t155 = true then (if (pickN (E m a.toNat) i).length < 17592186044416 then (davitref11_Of.l0 f a (pickN (E m a.toNat) i ++ [(i : Int)]) (wrap64 ((i : Int) + 1)) m) else none) else (davitref11_Of.l0 f a (pickN (E m a.toNat) i) (wrap64 ((i : Int) + 1)) m))) hc ?_) fun f => ?_)
    ·refine Evt.congr nx fun f => ?_
     rw [wrap_small _ (by omega) (by omega)]
     by_cases hE : E m a.toNat i = true
     ·rw [if_pos (show callsB _ _ = true from hE), if_pos (by omega), if_pos hE]
     ·rw [if_neg (show ¬ callsB _ _ = true from hE), if_neg hE, List.append_nil]
    ·rw [davitref11_Of.l0, if_pos (by omega), if_pos (by omega), if_pos (by omega), if_pos (by omega)]
     rfl
  exact key m.length 0 (by omega)
 ·rw [if_neg h]
  have h01 : ¬ (0 ≤ a ∧ a < (m.length : Int)) := fun h2 => h ((isB_iff _ _).2 h2)
  have key : ∀ (d i : Nat), i + d = m.length → Evt (fun f => davitref11_Of.l0 f a [] (i : Int) m) ([] : List Int) := by
   intro d
   induction d with
   | zero =>
    intro i hi
    refine Evt.succ (Evt.congr (Evt.pure _) fun f => ?_)
    rw [davitref11_Of.l0, if_neg (by omega)]
   | succ d ih =>
    intro i hi
    have nx := ih (i + 1) (by omega)
    rw [cast_succ] at nx
    refine Evt.succ (Evt.congr nx fun f => ?_)
    rw [davitref11_Of.l0, if_pos (by omega), wrap_small _ (by omega) (by omega)]
    by_cases h1 : a ≥ 0
    ·rw [if_pos h1, if_neg (by omega)]
    ·rw [if_neg h1]
  exact key m.length 0 (by omega)
theorem has_ev (l : List Int) (x : Int) (hl : l.length ≤ 100000) : Evt (fun f => davitref07_Has.f f l x) (decide (x ∈ l)) := by
 have key : ∀ (d i : Nat), i + d = l.length → x ∉ l.take i → Evt (fun f => davitref07_Has.l0 f l x (i : Int)) (decide (x ∈ l)) := by
  intro d
  induction d with
  | zero =>
   intro i hi hp
   rw [List.take_of_length_le (by omega)] at hp
   rw [decide_eq_false hp]
   refine Evt.succ (Evt.congr (Evt.pure _) fun f => ?_)
   rw [davitref07_Has.l0, if_neg (by omega)]
  | succ d ih =>
   intro i hi hp
   have hil : i < l.length := by omega
   have hr : rd l (i : Int) = l.getD i 0 := by unfold rd; rw [Int.toNat_natCast]
   by_cases e : l.getD i 0 = x
   ·rw [decide_eq_true (by rw [← e]; exact getD_in l i 0 hil)]
    refine Evt.succ (Evt.congr (Evt.pure _) fun f => ?_)
    rw [davitref07_Has.l0, if_pos (by omega), if_pos (by omega), hr, if_pos e]
   ·have nx := ih (i + 1) (by omega) (by
     rw [take_snoc l i 0 hil, List.mem_append, List.mem_singleton]
     rintro (h | h)
     ·exact hp h
     ·exact e h.symm)
    rw [cast_succ] at nx
    refine Evt.succ (Evt.congr nx fun f => ?_)
    rw [davitref07_Has.l0, if_pos (by omega), if_pos (by omega), hr, if_neg e, wrap_small _ (by omega) (by omega)]
 exact key l.length 0 (by omega) (by simp)
end Go.Proofs.Ytjjcnbfmmhokeaa.G
namespace Go.Proofs.Ytjjcnbfmmhokeaa.G
open Go.Proofs.Ytjjcnbfmmhokeaa.X Go.RowKit Go.Proofs.YtjjcnbfmmhokeaaW.PrintWords
set_option linter.all false
set_option maxHeartbeats 8000000
inductive TC (n : Nat) (R : Nat → Nat → Bool) : Nat → Nat → Prop
 | one {a b : Nat} : a < n → b < n → R a b = true → TC n R a b
 | step {a b c : Nat} : a < n → b < n → R a b = true → TC n R b c → TC n R a c
theorem TC.lt {n : Nat} {R : Nat → Nat → Bool} {a b : Nat} (h : TC n R a b) : a < n ∧ b < n := by
 induction h with
 | one h1 h2 _ => exact ⟨h1, h2⟩
 | step h1 _ _ _ ih => exact ⟨h1, ih.2⟩
theorem TC.trans {n : Nat} {R : Nat → Nat → Bool} {a b c : Nat} (h : TC n R a b) (h2 : TC n R b c) : TC n R a c := by
 induction h with
 | one h1 hb hR => exact .step h1 hb hR h2
 | step h1 hb hR _ ih => exact .step h1 hb hR (ih h2)
def wstep (T : Nat → Nat → Bool) (k : Nat) : Nat → Nat → Bool := fun i j => T i j || (T i k && T k j)
def wsh (R : Nat → Nat → Bool) : Nat → Nat → Nat → Bool
 | 0 => R
 | k + 1 => wstep (wsh R k) k
theorem wstep_row (T : Nat → Nat → Bool) (k j : Nat) : wstep T k k j = T k j := by unfold wstep; cases T k j <;> cases T k k <;> rfl
theorem wstep_col (T : Nat → Nat → Bool) (k i : Nat) : wstep T k i k = T i k := by unfold wstep; cases T i k <;> cases T k k <;> rfl
theorem wsh_up (R : Nat → Nat → Bool) (k i j : Nat) (h : wsh R k i j = true) : wsh R (k + 1) i j = true := by
 show wstep _ _ _ _ = true
 unfold wstep
 rw [h, Bool.true_or]
theorem wsh_ge (R : Nat → Nat → Bool) (k d i j : Nat) (h : wsh R k i j = true) : wsh R (k + d) i j = true := by
 induction d with
 | zero => exact h
 | succ d ih => exact wsh_up R _ i j ih
theorem wsh_succ (R : Nat → Nat → Bool) (k i j : Nat) : wsh R (k + 1) i j = true ↔ wsh R k i j = true ∨ (wsh R k i k = true ∧ wsh R k k j = true) := by
 show wstep _ _ _ _ = true ↔ _
 unfold wstep
 rw [Bool.or_eq_true, Bool.and_eq_true]
theorem wsh_via (R : Nat → Nat → Bool) : ∀ (k c a b : Nat), c < k → wsh R k a c = true → wsh R k c b = true → wsh R k a b = true
 | 0, c, _, _, h, _, _ => absurd h (Nat.not_lt_zero _)
 | k + 1, c, a, b, hc, h1, h2 => by
  rw [wsh_succ] at h1 h2 ⊢
  rcases Nat.lt_or_ge c k with hlt | hge
  ·rcases h1 with h1 | ⟨h1, h1'⟩
   ·rcases h2 with h2 | ⟨h2, h2'⟩
    ·exact .inl (wsh_via R k c a b hlt h1 h2)
    ·exact .inr ⟨wsh_via R k c a k hlt h1 h2, h2'⟩
   ·rcases h2 with h2 | ⟨h2, h2'⟩
    ·exact .inr ⟨h1, wsh_via R k c k b hlt h1' h2⟩
    ·exact .inr ⟨h1, h2'⟩
  ·obtain rfl : c = k := by omega
   refine .inr ⟨?_, ?_⟩
   ·rcases h1 with h1 | h1
    ·exact h1
    ·exact h1.1
   ·rcases h2 with h2 | h2
    ·exact h2
    ·exact h2.2
theorem wsh_sound (n : Nat) (R : Nat → Nat → Bool) : ∀ (k a b : Nat), k ≤ n → a < n → b < n → wsh R k a b = true → TC n R a b
 | 0, a, b, _, ha, hb, h => .one ha hb h
 | k + 1, a, b, hk, ha, hb, h => by
  rcases (wsh_succ R k a b).1 h with h | ⟨h1, h2⟩
  ·exact wsh_sound n R k a b (by omega) ha hb h
  ·exact (wsh_sound n R k a k (by omega) ha (by omega) h1).trans (wsh_sound n R k k b (by omega) (by omega) hb h2)
theorem wsh_iff (n : Nat) (R : Nat → Nat → Bool) (a b : Nat) (ha : a < n) (hb : b < n) : wsh R n a b = true ↔ TC n R a b := by
 refine ⟨wsh_sound n R n a b (Nat.le_refl _) ha hb, fun h => ?_⟩
 have up : ∀ i j, R i j = true → wsh R n i j = true := fun i j h => by
  have := wsh_ge R 0 n i j h
  rwa [Nat.zero_add] at this
 clear ha hb
 induction h with
 | one h1 h2 hR => exact up _ _ hR
 | step h1 h2 hR _ ih => exact wsh_via R n _ _ _ h2 (up _ _ hR) ih
structure Tab (n : Nat) (t : List (List Bool)) (T : Nat → Nat → Bool) : Prop where
 len : t.length = n
 row : ∀ i, i < n → (t.getD i []).length = n
 val : ∀ i j, i < n → j < n → tv t i j = T i j
theorem Tab.set {n : Nat} {t : List (List Bool)} {T T' : Nat → Nat → Bool} (h : Tab n t T) (a b : Nat) (ha : a < n) (hb : b < n) (v : Bool) (hv : T' a b = v) (ho : ∀ i j, ¬ (i = a ∧ j = b) → T' i j = T i j) : Tab n (t.set a ((t.getD a []).set b v)) T' := by
 have hget : ∀ i, (t.set a ((t.getD a []).set b v)).getD i [] = if i = a then (t.getD a []).set b v else t.getD i [] := by
  intro i
  rw [List.getD_eq_getElem?_getD, List.getElem?_set]
  by_cases e : a = i
  ·subst e
   rw [if_pos rfl, if_pos (by rw [h.len]; exact ha), if_pos rfl]
   rfl
  ·rw [if_neg e, if_neg (fun h => e h.symm), ← List.getD_eq_getElem?_getD]
 refine ⟨by rw [List.length_set]; exact h.len, fun i hi => ?_, fun i j hi hj => ?_⟩
 ·rw [hget]
  split
  ·rw [List.length_set]; exact h.row a ha
  ·exact h.row i hi
 ·unfold tv
  rw [hget]
  by_cases e : i = a
  ·subst e
   rw [if_pos rfl]
   by_cases e2 : j = b
   ·subst e2
    rw [List.getD_eq_getElem?_getD, List.getElem?_set_self (by rw [h.row i hi]; exact hj), hv]
    rfl
   ·rw [List.getD_eq_getElem?_getD, List.getElem?_set_ne (fun h => e2 h.symm), ← List.getD_eq_getElem?_getD, ho i j (fun h => e2 h.2)]
    exact h.val i j hi hj
  ·rw [if_neg e, ho i j (fun h => e h.1)]
   exact h.val i j hi hj
theorem Tab.same {n : Nat} {t : List (List Bool)} {T T' : Nat → Nat → Bool} (h : Tab n t T) (e : ∀ i j, i < n → j < n → T' i j = T i j) : Tab n t T' := ⟨h.len, h.row, fun i j hi hj => by rw [e i j hi hj]; exact h.val i j hi hj⟩
theorem rdL (t : List (List Bool)) (i : Nat) : rd_L15 t (i : Int) = t.getD i [] := by unfold rd_L15; rw [Int.toNat_natCast]
theorem rdBool (l : List Bool) (i : Nat) : rdOf false l (i : Int) = l.getD i false := by unfold rdOf; rw [Int.toNat_natCast]
def mix (T : Nat → Nat → Bool) (k a b : Nat) : Nat → Nat → Bool := fun i j => if i < a ∨ (i = a ∧ j < b) then wstep T k i j else T i j
theorem tab_l4 (n : Nat) (hn : n ≤ 1000) (k a : Nat) (hk : k < n) (ha : a < n) (T : Nat → Nat → Bool) (res : List (List Bool)) (x40 : Int)
  (K : ∀ t, Tab n t (mix T k (a + 1) 0) → Evt (fun f => calls_table.l3 f t (k : Int) (n : Int) x40 (n : Int) ((a : Int) + 1)) res) :
  ∀ (d b : Nat) (t : List (List Bool)), b + d = n → Tab n t (mix T k a b) → Evt (fun f => calls_table.l4 f t (k : Int) (a : Int) (n : Int) x40 (n : Int) (a : Int) (n : Int) (b : Int)) res := by
 intro d
 induction d with
 | zero =>
  intro b t hb ht
  refine Evt.succ (Evt.congr (K t (ht.same fun i j hi hj => ?_)) fun f => ?_)
  ·unfold mix
   by_cases h : i < a + 1 ∨ (i = a + 1 ∧ j < 0)
   ·rw [if_pos h, if_pos (by omega)]
   ·rw [if_neg h, if_neg (by omega)]
  ·rw [calls_table.l4, if_neg (by omega), wrap_small _ (by omega) (by omega)]
 | succ d ih =>
  intro b t hb ht
  have hbn : b < n := by omega
  have hw : wrap64 ((b : Int) + 1) = (b : Int) + 1 := wrap_small _ (by omega) (by omega)
  have hlen := ht.len
  have hra := ht.row a ha
  have hrk := ht.row k hk
  have vab : (t.getD a []).getD b false = T a b := by
   have := ht.val a b ha hbn
   unfold tv at this
   rw [this]; unfold mix; rw [if_neg (by omega)]
  have vak : (t.getD a []).getD k false = T a k := by
   have := ht.val a k ha hk
   unfold tv at this
   rw [this]; unfold mix
   split
   ·exact wstep_col T k a
   ·rfl
  have vkb : (t.getD k []).getD b false = T k b := by
   have := ht.val k b hk hbn
   unfold tv at this
   rw [this]; unfold mix
   split
   ·exact wstep_row T k b
   ·rfl
  have next : ∀ v : Bool, wstep T k a b = v → Evt (fun f => calls_table.l4 f (t.set a ((t.getD a []).set b v)) (k : Int) (a : Int) (n : Int) x40 (n : Int) (a : Int) (n : Int) ((b : Int) + 1)) res := by
   intro v hv
   have := ih (b + 1) (t.set a ((t.getD a []).set b v)) (by omega) (ht.set a b ha hbn v (by unfold mix; rw [if_pos (by omega)]; exact hv) (fun i j hij => by
    unfold mix
    by_cases h : i < a ∨ (i = a ∧ j < b)
    ·rw [if_pos (by omega), if_pos h]
    ·rw [if_neg (by omega), if_neg h]))
   rwa [cast_succ] at this
  cases h1 : T a b with
  | true =>
   refine Evt.succ (Evt.congr (next true (by unfold wstep; rw [h1, Bool.true_or])) fun f => ?_)
   rw [calls_table.l4, if_pos (by omega), if_pos (by omega), if_pos (by omega), if_pos (by omega), rdL, if_pos (by omega), rdBool, vab, h1, if_pos rfl, hw, Int.toNat_natCast, Int.toNat_natCast]
  | false =>
   cases h2 : T a k with
   | true =>
    refine Evt.succ (Evt.congr (next (T k b) (by unfold wstep; rw [h1, h2]; simp)) fun f => ?_)
    rw [calls_table.l4, if_pos (by omega), if_pos (by omega), if_pos (by omega), if_pos (by omega), rdL, if_pos (by omega), rdBool, vab, h1, if_neg (by simp), if_pos (by omega), if_pos (by omega), rdBool, vak, h2, if_pos rfl, if_pos (by omega), rdL, if_pos (by omega), rdBool, vkb, hw, Int.toNat_natCast, Int.toNat_natCast]
   | false =>
    refine Evt.succ (Evt.congr (next false (by unfold wstep; rw [h1, h2]; simp)) fun f => ?_)
    rw [calls_table.l4, if_pos (by omega), if_pos (by omega), if_pos (by omega), if_pos (by omega), rdL, if_pos (by omega), rdBool, vab, h1, if_neg (by simp), if_pos (by omega), if_pos (by omega), rdBool, vak, h2, if_neg (by simp), hw, Int.toNat_natCast, Int.toNat_natCast]
theorem tab_l3 (n : Nat) (hn : n ≤ 1000) (k : Nat) (hk : k < n) (T : Nat → Nat → Bool) (res : List (List Bool))
  (K : ∀ t, Tab n t (wstep T k) → Evt (fun f => calls_table.l2 f t (n : Int) ((k : Int) + 1)) res) :
  ∀ (d a : Nat) (t : List (List Bool)), a + d = n → Tab n t (mix T k a 0) → Evt (fun f => calls_table.l3 f t (k : Int) (n : Int) (k : Int) (n : Int) (a : Int)) res := by
 intro d
 induction d with
 | zero =>
  intro a t ha ht
  refine Evt.succ (Evt.congr (K t (ht.same fun i j hi hj => ?_)) fun f => ?_)
  ·unfold mix; rw [if_pos (by omega)]
  ·rw [calls_table.l3, if_neg (by omega), wrap_small _ (by omega) (by omega)]
 | succ d ih =>
  intro a t ha ht
  have := tab_l4 n hn k a hk (by omega) T res (k : Int) (fun t ht => by
   have := ih (a + 1) t (by omega) ht
   rwa [cast_succ] at this) n 0 t (by omega) ht
  refine Evt.succ (Evt.congr this fun f => ?_)
  rw [calls_table.l3, if_pos (by omega), ht.len]
  rfl
theorem tab_l2 (n : Nat) (hn : n ≤ 1000) (R : Nat → Nat → Bool) : ∀ (d k : Nat) (t : List (List Bool)), k + d = n → Tab n t (wsh R k) → ∃ r, Evt (fun f => calls_table.l2 f t (n : Int) (k : Int)) r ∧ Tab n r (wsh R n) := by
 intro d
 induction d with
 | zero =>
  intro k t hk ht
  obtain rfl : k = n := by omega
  refine ⟨t, Evt.succ (Evt.congr (Evt.pure _) fun f => ?_), ht⟩
  rw [calls_table.l2, if_neg (by omega)]
 | succ d ih =>
  intro k t hk ht
  obtain ⟨t2, h2⟩ : ∃ t2, Tab n t2 (wstep (wsh R k) k) := ⟨(List.range n).map fun i => (List.range n).map fun j => wstep (wsh R k) k i j, by simp, fun i hi => by simp [List.getD_eq_getElem?_getD, hi], fun i j hi hj => by simp [tv, List.getD_eq_getElem?_getD, hi, hj]⟩
  have uniq : ∀ t, Tab n t (wstep (wsh R k) k) → t = t2 := by
   intro t h
   apply List.ext_getElem?
   intro i
   by_cases hi : i < n
   ·have e1 : t[i]? = some (t.getD i []) := by rw [List.getD_eq_getElem?_getD, List.getElem?_eq_getElem (by rw [h.len]; exact hi)]; rfl
    have e2 : t2[i]? = some (t2.getD i []) := by rw [List.getD_eq_getElem?_getD, List.getElem?_eq_getElem (by rw [h2.len]; exact hi)]; rfl
    rw [e1, e2]
    congr 1
    apply List.ext_getElem?
    intro j
    by_cases hj : j < n
    ·have f1 : (t.getD i [])[j]? = some ((t.getD i []).getD j false) := by rw [List.getD_eq_getElem?_getD (l := t.getD i []), List.getElem?_eq_getElem (by rw [h.row i hi]; exact hj)]; rfl
     have f2 : (t2.getD i [])[j]? = some ((t2.getD i []).getD j false) := by rw [List.getD_eq_getElem?_getD (l := t2.getD i []), List.getElem?_eq_getElem (by rw [h2.row i hi]; exact hj)]; rfl
     rw [f1, f2]
     have a1 := h.val i j hi hj
     have a2 := h2.val i j hi hj
     unfold tv at a1 a2
     rw [a1, a2]
    ·rw [List.getElem?_eq_none (by rw [h.row i hi]; omega), List.getElem?_eq_none (by rw [h2.row i hi]; omega)]
   ·rw [List.getElem?_eq_none (by rw [h.len]; omega), List.getElem?_eq_none (by rw [h2.len]; omega)]
  obtain ⟨r, hr, hT⟩ := ih (k + 1) t2 (by omega) h2
  rw [cast_succ] at hr
  refine ⟨r, ?_, hT⟩
  have := tab_l3 n hn k (by omega) (wsh R k) r (fun t h => by rw [uniq t h]; exact hr) n 0 t (by omega) (ht.same fun i j hi hj => by unfold mix; rw [if_neg (by omega)])
  refine Evt.succ (Evt.congr this fun f => ?_)
  rw [calls_table.l2, if_pos (by omega), ht.len]
  rfl
theorem tab_l1 (m : List S33) (a : Nat) (ha : a < m.length) (hm : Sh m) (x : List (List Bool)) (hx : x.length ≤ 20) (res : List (List Bool)) (K : ∀ r : List Bool, r.length = m.length → (∀ j, j < m.length → r.getD j false = E m a j) → Evt (fun f => calls_table.l0 f (x ++ [r]) (m.length : Int) ((a : Int) + 1) m) res) :
  ∀ (d i : Nat) (r : List Bool), i + d = (ofL m a).length → r.length = m.length → (∀ j, j < m.length → r.getD j false = decide ((j : Int) ∈ (ofL m a).take i)) →
   Evt (fun f => calls_table.l1 f x r (m.length : Int) (a : Int) (ofL m a) ((ofL m a).length : Int) (i : Int) m) res := by
 have hl := hm.len
 have hol : (ofL m a).length ≤ m.length := pickN_len _ _
 intro d
 induction d with
 | zero =>
  intro i r hi hr hv
  rw [List.take_of_length_le (by omega)] at hv
  refine Evt.succ (Evt.congr (K r hr fun j hj => ?_) fun f => ?_)
  ·rw [hv j hj]
   cases hE : E m a j with
   | true => exact decide_eq_true (mem_pickN.2 ⟨j, rfl, hj, hE⟩)
   | false =>
    refine decide_eq_false fun h => ?_
    obtain ⟨q, e, _, h2⟩ := mem_pickN.1 h
    have : j = q := by omega
    subst this
    rw [hE] at h2; cases h2
  ·rw [calls_table.l1, if_neg (by omega), if_pos (by omega), wrap_small _ (by omega) (by omega)]
 | succ d ih =>
  intro i r hi hr hv
  have hil : i < (ofL m a).length := by omega
  obtain ⟨q, hq, hqn, _⟩ := mem_pickN.1 (getD_in (ofL m a) i 0 hil)
  have hrd : rd (ofL m a) (i : Int) = (q : Int) := by unfold rd; rw [Int.toNat_natCast]; exact hq
  have nx := ih (i + 1) (r.set q true) (by omega) (by rw [List.length_set]; exact hr) (fun j hj => by
   rw [take_snoc (ofL m a) i 0 hil]
   by_cases e : j = q
   ·subst e
    rw [List.getD_eq_getElem?_getD, List.getElem?_set_self (by omega), decide_eq_true (by rw [List.mem_append]; exact .inr (by rw [List.mem_singleton]; exact hq.symm))]
    rfl
   ·rw [List.getD_eq_getElem?_getD, List.getElem?_set_ne (fun h => e h.symm), ← List.getD_eq_getElem?_getD, hv j hj]
    refine decide_eq_decide.2 ⟨fun h => List.mem_append_left _ h, fun h => ?_⟩
    rcases List.mem_append.1 h with h | h
    ·exact h
    ·have h2 := List.mem_singleton.1 h
     rw [show (ofL m a).getD i 0 = (q : Int) from hq] at h2
     exact absurd (by omega) e)
  rw [cast_succ] at nx
  refine Evt.succ (Evt.congr nx fun f => ?_)
  rw [calls_table.l1, if_pos (by omega), if_pos (by omega), if_pos (by omega), hrd, if_pos (by omega), if_pos (by omega), wrap_small _ (by omega) (by omega), Int.toNat_natCast]
theorem table_ev (m : List S33) (hm : Sh m) : ∃ t, Evt (fun f => calls_table.f f m) t ∧ Tab m.length t (wsh (E m) m.length) := by
 have hl := hm.len
 obtain ⟨t1, h1⟩ : ∃ t1, t1 = (List.range m.length).map fun i => (List.range m.length).map fun j => E m i j := ⟨_, rfl⟩
 have hT : Tab m.length t1 (E m) := by
  rw [h1]
  exact ⟨by simp, fun i hi => by simp [List.getD_eq_getElem?_getD, hi], fun i j hi hj => by simp [tv, List.getD_eq_getElem?_getD, hi, hj]⟩
 obtain ⟨r, hr, hR⟩ := tab_l2 m.length (by omega) (E m) m.length 0 t1 (by omega) hT
 have key : ∀ (d i : Nat), i + d = m.length → Evt (fun f => calls_table.l0 f (t1.take i) (m.length : Int) (i : Int) m) r := by
  intro d
  induction d with
  | zero =>
   intro i hi
   refine Evt.succ (Evt.congr hr fun f => ?_)
   rw [calls_table.l0, if_neg (by omega), List.take_of_length_le (by rw [hT.len]; omega), hT.len]
   rfl
  | succ d ih =>
   intro i hi
   have hil : i < m.length := by omega
   have nx := ih (i + 1) (by omega)
   rw [cast_succ, take_snoc t1 i [] (by rw [hT.len]; exact hil)] at nx
   have hiB : isB m.length (i : Int) = true := (isB_iff _ _).2 ⟨by omega, by omega⟩
   have := tab_l1 m i hil hm (t1.take i) (by rw [List.length_take]; omega) r (fun q hq hv => by
    have : q = t1.getD i [] := by
     apply List.ext_getElem?
     intro j
     by_cases hj : j < m.length
     ·have f1 : q[j]? = some (q.getD j false) := by rw [List.getD_eq_getElem?_getD, List.getElem?_eq_getElem (by omega)]; rfl
      have f2 : (t1.getD i [])[j]? = some ((t1.getD i []).getD j false) := by rw [List.getD_eq_getElem?_getD (l := t1.getD i []), List.getElem?_eq_getElem (by rw [hT.row i hil]; exact hj)]; rfl
      have := hT.val i j hil hj
      unfold tv at this
      rw [f1, f2, hv j hj, this]
     ·rw [List.getElem?_eq_none (by omega), List.getElem?_eq_none (by rw [hT.row i hil]; omega)]
    rw [this]; exact nx) (ofL m i).length 0 (List.replicate m.length false) (by omega) (by simp) (fun j hj => by simp [List.getD_eq_getElem?_getD, hj])
   refine Evt.succ (Evt.congr this fun f => ?_)
   rw [calls_table.l0, if_pos (by omega), if_pos (by omega), if_pos (by omega), of_prog m hm, if_pos hiB, Option.bind_some, Int.toNat_natCast, Int.toNat_natCast]
   rfl
 refine ⟨r, Evt.congr (key m.length 0 (by omega)) fun f => rfl, hR⟩
structure ToInv (m : List S33) (a : Nat) (out : List Int) (i : Nat) : Prop where
 nd : out.Nodup
 tc : ∀ x ∈ out, ∃ b : Nat, x = (b : Int) ∧ TC m.length (E m) a b
 fst : ∀ b, b < m.length → E m a b = true → (b : Int) ∈ out
 clo : ∀ j, j < i → ∀ c, c < m.length → ∀ b : Nat, out.getD j 0 = (b : Int) → E m b c = true → (c : Int) ∈ out
theorem ToInv.len {m : List S33} {a : Nat} {out : List Int} {i : Nat} (h : ToInv m a out i) : out.length ≤ m.length := by
 have := h.nd.length_le_of_subset (l₂ := (List.range m.length).map fun (k : Nat) => (k : Int)) (fun x hx => by
  obtain ⟨b, rfl, hb⟩ := h.tc x hx
  exact List.mem_map.2 ⟨b, List.mem_range.2 hb.lt.2, rfl⟩)
 simpa using this
theorem getD_app {α : Type} (l : List α) (x z : α) (j : Nat) (h : j < l.length) : (l ++ [x]).getD j z = l.getD j z := by
 rw [List.getD_eq_getElem?_getD, List.getElem?_append_left h, ← List.getD_eq_getElem?_getD]
def addI (o : List Int) (x : Int) : List Int := if x ∈ o then o else o ++ [x]
theorem addI_in {o : List Int} {x : Int} (h : x ∈ o) : addI o x = o := if_pos h
theorem addI_out {o : List Int} {x : Int} (h : x ∉ o) : addI o x = o ++ [x] := if_neg h
theorem to_inner (m : List S33) (hm : m.length ≤ 1000) (b i : Nat) (hi : i ≤ 1000) (fin r : List Int) (hr : Evt (fun f => davitref11_To.l0 f fin ((i : Int) + 1) m) r) :
  ∀ (d k : Nat) (o : List Int), k + d = (ofL m b).length → o.length + d ≤ 1000 → ((ofL m b).drop k).foldl addI o = fin → Evt (fun f => davitref11_To.l1 f o (i : Int) (ofL m b) (k : Int) m) r := by
 have hol0 : (ofL m b).length ≤ m.length := pickN_len _ _
 generalize hol : ofL m b = ol at hol0 ⊢
 have hlist : ∀ k, k < ol.length → ∃ q : Nat, ol.getD k 0 = (q : Int) := fun k hk => by
  rw [← hol] at hk ⊢
  obtain ⟨q, hq, _⟩ := mem_pickN.1 (getD_in (ofL m b) k 0 hk)
  exact ⟨q, hq⟩
 clear hol
 intro d
 induction d with
 | zero =>
  intro k o hk ho he
  rw [List.drop_of_length_le (by omega)] at he
  rw [show o = fin from he]
  refine Evt.succ (Evt.congr hr fun f => ?_)
  rw [davitref11_To.l1, if_neg (by omega), wrap_small _ (by omega) (by omega)]
 | succ d ih =>
  intro k o hk ho he
  have hkl : k < ol.length := by omega
  obtain ⟨q, hq⟩ := hlist k hkl
  have hrd : rd ol (k : Int) = (q : Int) := by unfold rd; rw [Int.toNat_natCast]; exact hq
  have hw : wrap64 ((k : Int) + 1) = (k : Int) + 1 := wrap_small _ (by omega) (by omega)
  have c1 : (k : Int) < (ol.length : Int) := by omega
  have c2 : (0 : Int) ≤ (k : Int) := Int.natCast_nonneg k
  have c3 : o.length < 17592186044416 := by omega
  have hh := has_ev o (q : Int) (by omega)
  rw [drop_one ol k 0 hkl, List.foldl_cons, hq] at he
  by_cases hin : (q : Int) ∈ o
  ·rw [decide_eq_true hin] at hh
   rw [addI_in hin] at he
   have nx := ih (k + 1) o (by omega) (by omega) he
   rw [cast_succ] at nx
   refine Evt.succ (Evt.congr (Evt.bind (h := fun f t168 => (if t168 = true then (davitref11_To.l1 f o (i : Int) ol (wrap64 ((k : Int) + 1)) m) else (if o.length < 17592186044416 then (davitref11_To.l1 f (o ++ [(q : Int)]) (i : Int) ol (wrap64 ((k : Int) + 1)) m) else none))) hh (Evt.congr nx fun f => by rw [if_pos rfl, hw])) fun f => ?_)
   rw [davitref11_To.l1, if_pos c1, if_pos c2, hrd]
  ·rw [decide_eq_false hin] at hh
   rw [addI_out hin] at he
   have nx := ih (k + 1) (o ++ [(q : Int)]) (by omega) (by simp; omega) he
   rw [cast_succ] at nx
   refine Evt.succ (Evt.congr (Evt.bind (h := fun f t168 => (if t168 = true then (davitref11_To.l1 f o (i : Int) ol (wrap64 ((k : Int) + 1)) m) else (if o.length < 17592186044416 then (davitref11_To.l1 f (o ++ [(q : Int)]) (i : Int) ol (wrap64 ((k : Int) + 1)) m) else none))) hh (Evt.congr nx fun f => by rw [if_neg (by simp), if_pos c3, hw])) fun f => ?_)
   rw [davitref11_To.l1, if_pos c1, if_pos c2, hrd]
theorem to_l0 (m : List S33) (hm : Sh m) (a : Nat) : ∀ (d i : Nat) (out : List Int), i + d = m.length → i ≤ out.length → ToInv m a out i → ∃ r, Evt (fun f => davitref11_To.l0 f out (i : Int) m) r ∧ ToInv m a r r.length := by
 have hl := hm.len
 intro d
 induction d with
 | zero =>
  intro i out hi hio hI
  have := hI.len
  obtain rfl : i = out.length := by omega
  refine ⟨out, Evt.succ (Evt.congr (Evt.pure _) fun f => ?_), hI⟩
  rw [davitref11_To.l0, if_neg (by omega)]
 | succ d ih =>
  intro i out hi hio hI
  have hlen := hI.len
  by_cases hlt : i < out.length
  ·obtain ⟨b, hb, hbT⟩ := hI.tc _ (getD_in out i 0 hlt)
   have hrd : rd out (i : Int) = (b : Int) := by unfold rd; rw [Int.toNat_natCast]; exact hb
   have hof := of_ref m hm (b : Int)
   rw [if_pos ((isB_iff _ _).2 ⟨by omega, by have := hbT.lt.2; omega⟩), Int.toNat_natCast] at hof
   obtain ⟨fin, hfin⟩ : ∃ fin : List Int, fin = (ofL m b).foldl addI out := ⟨_, rfl⟩
   have hstep : ∀ (l : List Int) (o : List Int), ToInv m a o i → (i < o.length ∧ o.getD i 0 = (b : Int)) → (∀ x ∈ l, ∃ q : Nat, x = (q : Int) ∧ q < m.length ∧ E m b q = true) → ToInv m a (l.foldl addI o) i ∧ (i < (l.foldl addI o).length ∧ (l.foldl addI o).getD i 0 = (b : Int)) ∧ (∀ x ∈ o, x ∈ l.foldl addI o) ∧ ∀ x ∈ l, x ∈ l.foldl addI o := by
    intro l
    induction l with
    | nil => intro o h1 h2 _; exact ⟨h1, h2, fun x hx => hx, fun x hx => by cases hx⟩
    | cons x l ihl =>
     intro o h1 h2 h3
     rw [List.foldl_cons]
     by_cases hin : x ∈ o
     ·rw [addI_in hin]
      obtain ⟨g1, g2, g3, g4⟩ := ihl o h1 h2 (fun y hy => h3 y (by simp [hy]))
      exact ⟨g1, g2, g3, fun y hy => (List.mem_cons.1 hy).elim (fun e => by rw [e]; exact g3 x hin) (g4 y)⟩
     ·rw [addI_out hin]
      obtain ⟨q, rfl, hqn, hqE⟩ := h3 x (by simp)
      have hI2 : ToInv m a (o ++ [(q : Int)]) i := by
       refine ⟨List.nodup_append.2 ⟨h1.nd, by simp, fun x hx y hy e => hin (by rw [List.mem_singleton.1 hy] at e; rw [← e]; exact hx)⟩, fun x hx => ?_, fun c hc hE => List.mem_append_left _ (h1.fst c hc hE), fun j hj c hc b' hb' hE => List.mem_append_left _ (h1.clo j hj c hc b' (by rw [getD_app _ _ _ _ (by omega)] at hb'; exact hb') hE)⟩
       rcases List.mem_append.1 hx with hx | hx
       ·exact h1.tc x hx
       ·exact ⟨q, List.mem_singleton.1 hx, hbT.trans (.one hbT.lt.2 hqn hqE)⟩
      obtain ⟨g1, g2, g3, g4⟩ := ihl (o ++ [(q : Int)]) hI2 ⟨by simp; omega, by rw [getD_app _ _ _ _ h2.1]; exact h2.2⟩ (fun y hy => h3 y (by simp [hy]))
      exact ⟨g1, g2, fun y hy => g3 y (List.mem_append_left _ hy), fun y hy => (List.mem_cons.1 hy).elim (fun e => by rw [e]; exact g3 _ (by simp)) (g4 y)⟩
   obtain ⟨f1, f2, f3, f4⟩ := hstep (ofL m b) out hI ⟨hlt, hb⟩ (fun x hx => mem_pickN.1 hx)
   rw [← hfin] at f1 f2 f3 f4
   have hI3 : ToInv m a fin (i + 1) := ⟨f1.nd, f1.tc, f1.fst, fun j hj c hc b' hb' hE => by
    rcases Nat.lt_or_ge j i with h | h
    ·exact f1.clo j h c hc b' hb' hE
    ·obtain rfl : j = i := by omega
     rw [f2.2] at hb'
     have : b = b' := by omega
     subst this
     exact f4 _ (mem_pickN.2 ⟨c, rfl, hc, hE⟩)⟩
   obtain ⟨r, hr, hR⟩ := ih (i + 1) fin (by omega) f2.1 hI3
   rw [cast_succ] at hr
   have hol : (ofL m b).length ≤ m.length := pickN_len _ _
   have hin := to_inner m (by omega) b i (by omega) fin r hr (ofL m b).length 0 out (by omega) (by omega) (by rw [hfin, List.drop_zero])
   refine ⟨r, Evt.succ (Evt.congr (Evt.bind (h := fun f t164 => davitref11_To.l1 f out (i : Int) t164 0 m) hof hin) fun f => ?_), hR⟩
   rw [davitref11_To.l0, if_pos (by omega), if_pos (by omega), hrd]
  ·obtain rfl : i = out.length := by omega
   refine ⟨out, Evt.succ (Evt.congr (Evt.pure _) fun f => ?_), hI⟩
   rw [davitref11_To.l0, if_neg (by omega)]
theorem to_ev (m : List S33) (hm : Sh m) (a : Nat) (ha : a < m.length) : ∃ r, Evt (fun f => davitref11_To.f f m (a : Int)) r ∧ r.length ≤ m.length ∧ ∀ x : Int, x ∈ r ↔ ∃ b : Nat, x = (b : Int) ∧ TC m.length (E m) a b := by
 have hof := of_ref m hm (a : Int)
 rw [if_pos ((isB_iff _ _).2 ⟨by omega, by omega⟩), Int.toNat_natCast] at hof
 have h0 : ToInv m a (ofL m a) 0 := by
  refine ⟨?_, fun x hx => ?_, fun b hb hE => mem_pickN.2 ⟨b, rfl, hb, hE⟩, fun j hj => by omega⟩
  ·rw [List.nodup_iff_pairwise_ne]
   exact (pickN_strict _ _).imp (fun h => by omega)
  ·obtain ⟨q, rfl, h1, h2⟩ := mem_pickN.1 hx
   exact ⟨q, rfl, .one ha h1 h2⟩
 obtain ⟨r, hr, hR⟩ := to_l0 m hm a m.length 0 (ofL m a) (by omega) (by omega) h0
 refine ⟨r, Evt.congr (Evt.bind (h := fun f t => davitref11_To.l0 f t 0 m) hof hr) fun f => rfl, hR.len, fun x => ⟨hR.tc x, ?_⟩⟩
 rintro ⟨b, rfl, hb⟩
 have : ∀ {c b : Nat}, TC m.length (E m) c b → (c = a ∨ (c : Int) ∈ r) → (b : Int) ∈ r := by
  intro c b h
  have one : ∀ {c b : Nat}, b < m.length → E m c b = true → (c = a ∨ (c : Int) ∈ r) → (b : Int) ∈ r := by
   intro c' b' hb' hE' hc'
   rcases hc' with e' | hc'
   ·rw [e'] at hE'
    exact hR.fst b' hb' hE'
   ·obtain ⟨j, hj, e⟩ := of_getD hc' 0
    exact hR.clo j hj b' hb' c' e hE'
  induction h with
  | one h1 h2 hE => exact fun hc => one h2 hE hc
  | step h1 h2 hE _ ih => exact fun hc => ih (.inr (one h2 hE hc))
 exact this hb (.inl rfl)
end Go.Proofs.Ytjjcnbfmmhokeaa.G
namespace Go.Proofs.Ytjjcnbfmmhokeaa.G
open Go.Proofs.Ytjjcnbfmmhokeaa.X Go.RowKit Go.Proofs.YtjjcnbfmmhokeaaW.PrintWords
set_option linter.all false
set_option maxHeartbeats 4000000
theorem filter_less {α : Type} (p q : α → Bool) : ∀ (l : List α) (x : α), x ∈ l → (∀ y ∈ l, p y = true → q y = true) → q x = true → p x = false → (l.filter p).length < (l.filter q).length
 | y :: l, x, hx, hs, hq, hp => by
  have le : (l.filter p).length ≤ (l.filter q).length := by
   clear hx
   induction l with
   | nil => simp
   | cons z l ih =>
    have h1 := ih (fun w hw => hs w (by rcases List.mem_cons.1 hw with e | e <;> simp [e]))
    cases hz : p z with
    | true =>
     rw [List.filter_cons_of_pos hz, List.filter_cons_of_pos (hs z (by simp) hz)]
     simpa using h1
    | false =>
     rw [List.filter_cons_of_neg (by simp [hz])]
     cases hz2 : q z with
     | true => rw [List.filter_cons_of_pos hz2]; simp; omega
     | false => rw [List.filter_cons_of_neg (by simp [hz2])]; exact h1
  by_cases e : y = x
  ·subst e
   rw [List.filter_cons_of_neg (by simp [hp]), List.filter_cons_of_pos hq]
   simp; omega
  ·have hxl : x ∈ l := (List.mem_cons.1 hx).resolve_left fun h => e h.symm
   have h1 := filter_less p q l x hxl (fun w hw => hs w (.tail _ hw)) hq hp
   cases hz : p y with
   | true =>
    rw [List.filter_cons_of_pos hz, List.filter_cons_of_pos (hs y (.head _) hz)]
    simpa using h1
   | false =>
    rw [List.filter_cons_of_neg (by simp [hz])]
    cases hz2 : q y with
    | true => rw [List.filter_cons_of_pos hz2]; simp; omega
    | false => rw [List.filter_cons_of_neg (by simp [hz2])]; exact h1
def clsP (T : Nat → Nat → Bool) (a k : Nat) : Bool := k == a || (T a k && T k a)
def cls (n : Nat) (T : Nat → Nat → Bool) (a : Nat) : List Int := pickN (clsP T a) n
def badP (T : Nat → Nat → Bool) (done : List Int) (a k : Nat) : Bool := T a k && !(decide ((k : Int) ∈ done)) && !(T k a) && !(k == a)
theorem clsP_iff {T : Nat → Nat → Bool} {a k : Nat} : clsP T a k = true ↔ k = a ∨ (T a k = true ∧ T k a = true) := by unfold clsP; simp
theorem badP_iff {T : Nat → Nat → Bool} {done : List Int} {a k : Nat} : badP T done a k = true ↔ T a k = true ∧ (k : Int) ∉ done ∧ T k a = false ∧ k ≠ a := by unfold badP; simp [and_assoc]
theorem mem_cls {n : Nat} {T : Nat → Nat → Bool} {a k : Nat} : (k : Int) ∈ cls n T a ↔ k < n ∧ (k = a ∨ (T a k = true ∧ T k a = true)) := by
 unfold cls
 rw [mem_pickN]
 constructor
 ·rintro ⟨q, e, h1, h2⟩
  obtain rfl : k = q := by omega
  exact ⟨h1, clsP_iff.1 h2⟩
 ·rintro ⟨h1, h2⟩
  exact ⟨k, rfl, h1, clsP_iff.2 h2⟩
structure GI (n : Nat) (T : Nat → Nat → Bool) (out : List (List Int)) : Prop where
 cl : ∀ g ∈ out, ∃ a, a < n ∧ g = cls n T a
 nd : out.flatten.Nodup
 ord : ∀ pre g post, out = pre ++ g :: post → ∀ a b : Nat, a < n → b < n → (a : Int) ∈ g → T a b = true → (b : Int) ∈ pre.flatten ∨ (b : Int) ∈ g
def Trn (n : Nat) (T : Nat → Nat → Bool) : Prop := ∀ a b c, a < n → b < n → c < n → T a b = true → T b c = true → T a c = true
theorem GI.inn {n : Nat} {T : Nat → Nat → Bool} {out : List (List Int)} (h : GI n T out) : ∀ x ∈ out.flatten, ∃ k : Nat, x = (k : Int) ∧ k < n := by
 intro x hx
 obtain ⟨g, hg, hxg⟩ := List.mem_flatten.1 hx
 obtain ⟨a, _, rfl⟩ := h.cl g hg
 obtain ⟨k, e, h1, _⟩ := mem_pickN.1 hxg
 exact ⟨k, e, h1⟩
theorem GI.len {n : Nat} {T : Nat → Nat → Bool} {out : List (List Int)} (h : GI n T out) : out.flatten.length ≤ n := by
 have := h.nd.length_le_of_subset (l₂ := (List.range n).map fun (k : Nat) => (k : Int)) (fun x hx => by
  obtain ⟨k, rfl, hk⟩ := h.inn x hx
  exact List.mem_map.2 ⟨k, List.mem_range.2 hk, rfl⟩)
 simpa using this
theorem GI.all {n : Nat} {T : Nat → Nat → Bool} {out : List (List Int)} (h : GI n T out) : out.flatten.length = n ↔ ∀ a, a < n → (a : Int) ∈ out.flatten := by
 constructor
 ·intro hl a ha
  refine Classical.byContradiction fun hn => ?_
  have nd2 : ((a : Int) :: out.flatten).Nodup := List.nodup_cons.2 ⟨hn, h.nd⟩
  have := nd2.length_le_of_subset (l₂ := (List.range n).map fun (k : Nat) => (k : Int)) (fun x hx => by
   rcases List.mem_cons.1 hx with rfl | hx
   ·exact List.mem_map.2 ⟨a, List.mem_range.2 ha, rfl⟩
   ·obtain ⟨k, rfl, hk⟩ := h.inn x hx
    exact List.mem_map.2 ⟨k, List.mem_range.2 hk, rfl⟩)
  simp at this
  simp at hl
  omega
 ·intro ha
  have nd2 : ((List.range n).map fun (k : Nat) => (k : Int)).Nodup := by
   rw [List.nodup_iff_pairwise_ne, List.pairwise_map]
   exact List.pairwise_lt_range.imp (fun h => by omega)
  have := nd2.length_le_of_subset (l₂ := out.flatten) (fun x hx => by
   obtain ⟨k, hk, rfl⟩ := List.mem_map.1 hx
   exact ha k (List.mem_range.1 hk))
  have := h.len
  simp at *
  omega
theorem GI.clo {n : Nat} {T : Nat → Nat → Bool} (hT : Trn n T) {out : List (List Int)} (h : GI n T out) {a b : Nat} (ha : a < n) (hb : b < n) (had : (a : Int) ∈ out.flatten) (h1 : T a b = true) (h2 : T b a = true) : (b : Int) ∈ out.flatten := by
 obtain ⟨g, hg, hag⟩ := List.mem_flatten.1 had
 obtain ⟨c, hc, rfl⟩ := h.cl g hg
 refine List.mem_flatten.2 ⟨_, hg, mem_cls.2 ⟨hb, ?_⟩⟩
 rcases (mem_cls.1 hag).2 with rfl | ⟨h3, h4⟩
 ·exact .inr ⟨h1, h2⟩
 ·exact .inr ⟨hT c a b hc ha hb h3 h1, hT b a c hb ha hc h2 h4⟩
theorem GI.next {n : Nat} {T : Nat → Nat → Bool} (hT : Trn n T) {out : List (List Int)} (h : GI n T out) {c : Nat} (hc : c < n) (hcd : (c : Int) ∉ out.flatten) (hf : ∀ k, k < n → badP T out.flatten c k = false) : GI n T (out ++ [cls n T c]) := by
 have hcls : ∀ k : Nat, (k : Int) ∈ cls n T c → (k : Int) ∉ out.flatten := by
  intro k hk hkd
  obtain ⟨hkn, rfl | ⟨h1, h2⟩⟩ := mem_cls.1 hk
  ·exact hcd hkd
  ·exact hcd (h.clo hT hkn hc hkd h2 h1)
 refine ⟨fun g hg => ?_, ?_, ?_⟩
 ·rcases List.mem_append.1 hg with hg | hg
  ·exact h.cl g hg
  ·exact ⟨c, hc, List.mem_singleton.1 hg⟩
 ·rw [List.flatten_append]
  refine List.nodup_append.2 ⟨h.nd, ?_, fun x hx y hy e => ?_⟩
  ·simp only [List.flatten_cons, List.flatten_nil, List.append_nil]
   rw [List.nodup_iff_pairwise_ne]
   exact (pickN_strict _ _).imp (fun h => by omega)
  ·simp only [List.flatten_cons, List.flatten_nil, List.append_nil] at hy
   obtain ⟨k, rfl, _⟩ := h.inn x hx
   rw [← e] at hy
   exact hcls k hy hx
 ·intro pre g post e a b ha hb hag hab
  rcases List.eq_nil_or_concat post with rfl | ⟨post', z, rfl⟩
  ·obtain ⟨rfl, e2⟩ := List.append_inj' e rfl
   have e2 : cls n T c = g := (List.cons.inj e2).1
   subst e2
   obtain ⟨_, hca⟩ := mem_cls.1 hag
   have hcb : T c b = true := by
    rcases hca with rfl | ⟨h1, _⟩
    ·exact hab
    ·exact hT c a b hc ha hb h1 hab
   by_cases hbd : (b : Int) ∈ out.flatten
   ·exact .inl hbd
   ·refine .inr (mem_cls.2 ⟨hb, ?_⟩)
    have := hf b hb
    by_cases hbc : b = c
    ·exact .inl hbc
    ·refine .inr ⟨hcb, ?_⟩
     cases hTb : T b c with
     | true => rfl
     | false =>
      rw [badP_iff.2 ⟨hcb, hbd, hTb, hbc⟩] at this
      cases this
  ·rw [List.concat_eq_append, ← List.cons_append, ← List.append_assoc] at e
   obtain ⟨e1, _⟩ := List.append_inj' e rfl
   exact h.ord pre g post' e1 a b ha hb hag hab
theorem free_ex {n : Nat} {T : Nat → Nat → Bool} (hT : Trn n T) (done : List Int) : ∀ (s a : Nat), a < n → (a : Int) ∉ done → ((List.range n).filter fun (j : Nat) => !(decide ((j : Int) ∈ done)) && (j == a || T a j)).length ≤ s → ∃ c, c < n ∧ (c : Int) ∉ done ∧ ∀ k, k < n → badP T done c k = false
 | 0, a, ha, had, hs => by
  have : a ∈ (List.range n).filter fun (j : Nat) => !(decide ((j : Int) ∈ done)) && (j == a || T a j) := by
   refine List.mem_filter.2 ⟨List.mem_range.2 ha, ?_⟩
   simp [had]
  have := List.length_pos_of_mem this
  omega
 | s + 1, a, ha, had, hs => by
  by_cases hf : ∀ k, k < n → badP T done a k = false
  ·exact ⟨a, ha, had, hf⟩
  ·obtain ⟨k, hk⟩ := Classical.not_forall.1 hf
   obtain ⟨hkn, hk⟩ := Classical.not_imp.1 hk
   have hk : badP T done a k = true := by simpa using hk
   obtain ⟨h1, h2, h3, h4⟩ := badP_iff.1 hk
   refine free_ex hT done s k hkn h2 ?_
   have := filter_less (fun (j : Nat) => !(decide ((j : Int) ∈ done)) && (j == k || T k j)) (fun (j : Nat) => !(decide ((j : Int) ∈ done)) && (j == a || T a j)) (List.range n) a (List.mem_range.2 ha) (fun y hy hp => by
    have hyn := List.mem_range.1 hy
    simp only [Bool.and_eq_true, Bool.or_eq_true, beq_iff_eq] at hp ⊢
    refine ⟨hp.1, ?_⟩
    rcases hp.2 with rfl | hp
    ·exact .inr h1
    ·exact .inr (hT a k y ha hkn hyn h1 hp)) (by simp [had]) (by
    have : ¬ a = k := fun e => h4 e.symm
    simp [had, h3, this])
   omega
end Go.Proofs.Ytjjcnbfmmhokeaa.G
namespace Go.Proofs.Ytjjcnbfmmhokeaa.G
open Go.Proofs.Ytjjcnbfmmhokeaa.X Go.RowKit Go.Proofs.YtjjcnbfmmhokeaaW.PrintWords
set_option linter.all false
set_option maxHeartbeats 8000000
theorem markL_in : ∀ (g : List Int) (d : List Bool) (a : Nat), (∀ x ∈ g, ∃ k : Nat, x = (k : Int) ∧ k < d.length) → ((markL d g).getD a false = true ↔ d.getD a false = true ∨ (a : Int) ∈ g)
 | [], d, a, _ => by unfold markL; simp
 | x :: g, d, a, h => by
  obtain ⟨k, rfl, hk⟩ := h x (by simp)
  have := markL_in g (d.set k true) a (fun y hy => by rw [List.length_set]; exact h y (by simp [hy]))
  unfold markL at this ⊢
  rw [List.foldl_cons, Int.toNat_natCast, this]
  by_cases e : a = k
  ·subst e
   rw [List.getD_eq_getElem?_getD, List.getElem?_set_self hk]
   simp
  ·rw [List.getD_eq_getElem?_getD, List.getElem?_set_ne (fun h => e h.symm), ← List.getD_eq_getElem?_getD]
   have : ¬ (a : Int) = (k : Int) := by omega
   simp [this]
theorem grpL_cls {n : Nat} {t : List (List Bool)} {T : Nat → Nat → Bool} (ht : Tab n t T) (a : Nat) (ha : a < n) : grpL t a n = cls n T a := by
 unfold grpL cls pickN
 congr 1
 refine List.filter_congr fun k hk => ?_
 have hk := List.mem_range.1 hk
 unfold clsP
 rw [ht.val a k ha hk, ht.val k a hk ha]
theorem freeB_iff {n : Nat} {t : List (List Bool)} {T : Nat → Nat → Bool} (ht : Tab n t T) (d : List Bool) (done : List Int) (hd : ∀ a, a < n → (d.getD a false = true ↔ (a : Int) ∈ done)) (a : Nat) (ha : a < n) : freeB t d a = true ↔ (a : Int) ∉ done ∧ ∀ k, k < n → badP T done a k = false := by
 unfold freeB freeTo
 rw [ht.len, Bool.and_eq_true, List.all_eq_true]
 constructor
 ·rintro ⟨h1, h2⟩
  refine ⟨fun h => ?_, fun k hk => ?_⟩
  ·rw [(hd a ha).2 h] at h2; cases h2
  ·have := h1 k (List.mem_range.2 hk)
   rw [ht.val a k ha hk, ht.val k a hk ha] at this
   cases hb : badP T done a k with
   | false => rfl
   | true =>
    obtain ⟨g1, g2, g3, g4⟩ := badP_iff.1 hb
    have hdk : d.getD k false = false := by
     cases hx : d.getD k false with
     | false => rfl
     | true => exact absurd ((hd k hk).1 hx) g2
    rw [g1, g3, hdk] at this
    simp [g4] at this
 ·rintro ⟨h1, h2⟩
  refine ⟨fun k hk => ?_, ?_⟩
  ·have hk := List.mem_range.1 hk
   rw [ht.val a k ha hk, ht.val k a hk ha]
   have := h2 k hk
   unfold badP at this
   have e : decide ((k : Int) ∈ done) = d.getD k false := by
    cases hx : d.getD k false with
    | true => exact decide_eq_true ((hd k hk).1 hx)
    | false => exact decide_eq_false fun h => by rw [(hd k hk).2 h] at hx; cases hx
   rw [e] at this
   rw [this]; rfl
  ·cases hx : d.getD a false with
   | false => rfl
   | true => exact absurd ((hd a ha).1 hx) h1
structure ToL (n : Nat) (T : Nat → Nat → Bool) (tol : List (List Int)) : Prop where
 len : tol.length = n
 row : ∀ i, i < n → (tol.getD i []).length ≤ n
 inn : ∀ i k : Nat, i < n → k < n → ((k : Int) ∈ tol.getD i [] ↔ T i k = true)
theorem rdL5 (t : List (List Int)) (i : Nat) : rd_L5 t (i : Int) = t.getD i [] := by unfold rd_L5; rw [Int.toNat_natCast]
theorem cls_succ (T : Nat → Nat → Bool) (a k : Nat) : cls (k + 1) T a = cls k T a ++ (if clsP T a k = true then [(k : Int)] else []) := pickN_succ _ _
theorem cls_len (T : Nat → Nat → Bool) (a k : Nat) : (cls k T a).length ≤ k := pickN_len _ _
theorem j4_yes (T : Nat → Nat → Bool) (tol out : List (List Int)) (done g : List Int) (a k : Nat) (hk : k ≤ 1000) (hg : g.length ≤ 1000) (x9 : Bool) (res : List (List Int))
  (nx : Evt (fun f => davitref11_Groups.l3 f tol out done (a : Int) (g ++ [(k : Int)]) x9 ((k : Int) + 1)) res) : Evt (fun f => davitref11_Groups.j4 f tol out done (a : Int) g x9 (k : Int) true) res := by
 have hw : wrap64 ((k : Int) + 1) = (k : Int) + 1 := wrap_small _ (by omega) (by omega)
 have c : g.length < 17592186044416 := by omega
 refine Evt.succ (Evt.congr nx fun f => ?_)
 rw [davitref11_Groups.j4, if_pos rfl, if_pos c, hw]
theorem j4_no (tol out : List (List Int)) (done g : List Int) (a k : Nat) (hk : k ≤ 1000) (hg : g.length ≤ 1000) (hat : a < tol.length) (hrow : (tol.getD a []).length ≤ 1000) (hdl : done.length ≤ 1000) (x9 : Bool) (res : List (List Int))
  (nx : Evt (fun f => davitref11_Groups.l3 f tol out done (a : Int) g (x9 && !(decide ((k : Int) ∈ tol.getD a []) && !(decide ((k : Int) ∈ done)))) ((k : Int) + 1)) res) : Evt (fun f => davitref11_Groups.j4 f tol out done (a : Int) g x9 (k : Int) false) res := by
 have hw : wrap64 ((k : Int) + 1) = (k : Int) + 1 := wrap_small _ (by omega) (by omega)
 have c2 : (0 : Int) ≤ (a : Int) := Int.natCast_nonneg a
 have c1 : (a : Int) < (tol.length : Int) := by omega
 have hf := has_ev (tol.getD a []) (k : Int) (by omega)
 have hd := has_ev done (k : Int) (by omega)
 have e : ∀ f, davitref11_Groups.j4 (f + 1) tol out done (a : Int) g x9 (k : Int) false = (davitref07_Has.f f (tol.getD a []) (k : Int)).bind fun t204 => (if t204 = true then ((davitref07_Has.f f done (k : Int)).bind fun t205 => (if t205 = true then (davitref11_Groups.l3 f tol out done (a : Int) g x9 ((k : Int) + 1)) else (davitref11_Groups.l3 f tol out done (a : Int) g false ((k : Int) + 1)))) else (davitref11_Groups.l3 f tol out done (a : Int) g x9 ((k : Int) + 1))) := by
  intro f
  rw [davitref11_Groups.j4, if_neg Bool.false_ne_true, if_pos c2, if_pos c1, rdL5, hw]
 refine Evt.succ (Evt.congr ?_ e)
 refine Evt.bind (h := fun f t204 => (if t204 = true then ((davitref07_Has.f f done (k : Int)).bind fun t205 => (if t205 = true then (davitref11_Groups.l3 f tol out done (a : Int) g x9 ((k : Int) + 1)) else (davitref11_Groups.l3 f tol out done (a : Int) g false ((k : Int) + 1)))) else (davitref11_Groups.l3 f tol out done (a : Int) g x9 ((k : Int) + 1)))) hf ?_
 cases h1 : decide ((k : Int) ∈ tol.getD a []) with
 | false =>
  rw [h1, Bool.false_and, Bool.not_false, Bool.and_true] at nx
  exact Evt.congr nx fun f => if_neg Bool.false_ne_true
 | true =>
  rw [h1, Bool.true_and, Bool.not_not] at nx
  refine Evt.congr ?_ fun f => if_pos rfl
  refine Evt.bind (h := fun f t205 => (if t205 = true then (davitref11_Groups.l3 f tol out done (a : Int) g x9 ((k : Int) + 1)) else (davitref11_Groups.l3 f tol out done (a : Int) g false ((k : Int) + 1)))) hd ?_
  cases h2 : decide ((k : Int) ∈ done) with
  | false =>
   rw [h2, Bool.and_false] at nx
   exact Evt.congr nx fun f => if_neg Bool.false_ne_true
  | true =>
   rw [h2, Bool.and_true] at nx
   exact Evt.congr nx fun f => if_pos rfl
theorem l3_round (tol out : List (List Int)) (done g : List Int) (a k : Nat) (hkt : k < tol.length) (hk : k ≤ 1000) (hat : a < tol.length) (hra : (tol.getD a []).length ≤ 1000) (hrk : (tol.getD k []).length ≤ 1000) (x9 : Bool) (res : List (List Int))
  (nx : Evt (fun f => davitref11_Groups.j4 f tol out done (a : Int) g x9 (k : Int) (decide (k = a) || (decide ((k : Int) ∈ tol.getD a []) && decide ((a : Int) ∈ tol.getD k [])))) res) : Evt (fun f => davitref11_Groups.l3 f tol out done (a : Int) g x9 (k : Int)) res := by
 have c2 : (0 : Int) ≤ (a : Int) := Int.natCast_nonneg a
 have c1 : (a : Int) < (tol.length : Int) := by omega
 have c3 : (k : Int) < (tol.length : Int) := by omega
 have c4 : (0 : Int) ≤ (k : Int) := Int.natCast_nonneg k
 have hf := has_ev (tol.getD a []) (k : Int) (by omega)
 have hb := has_ev (tol.getD k []) (a : Int) (by omega)
 have e : ∀ f, davitref11_Groups.l3 (f + 1) tol out done (a : Int) g x9 (k : Int) = (davitref07_Has.f f (tol.getD k []) (a : Int)).bind fun t197 => (if (k : Int) = (a : Int) then (davitref11_Groups.j4 f tol out done (a : Int) g x9 (k : Int) true) else ((davitref07_Has.f f (tol.getD a []) (k : Int)).bind fun t199 => (if t199 = true then (davitref11_Groups.j4 f tol out done (a : Int) g x9 (k : Int) t197) else (davitref11_Groups.j4 f tol out done (a : Int) g x9 (k : Int) false)))) := by
  intro f
  rw [davitref11_Groups.l3, if_pos c3, if_pos c4, rdL5, rdL5]
  simp only [if_pos c2, if_pos c1]
 refine Evt.succ (Evt.congr ?_ e)
 refine Evt.bind (h := fun f t197 => (if (k : Int) = (a : Int) then (davitref11_Groups.j4 f tol out done (a : Int) g x9 (k : Int) true) else ((davitref07_Has.f f (tol.getD a []) (k : Int)).bind fun t199 => (if t199 = true then (davitref11_Groups.j4 f tol out done (a : Int) g x9 (k : Int) t197) else (davitref11_Groups.j4 f tol out done (a : Int) g x9 (k : Int) false))))) hb ?_
 by_cases h : k = a
 ·rw [decide_eq_true h, Bool.true_or] at nx
  have h' : (k : Int) = (a : Int) := by omega
  exact Evt.congr nx fun f => if_pos h'
 ·rw [decide_eq_false h, Bool.false_or] at nx
  have h' : ¬ (k : Int) = (a : Int) := by omega
  refine Evt.congr ?_ fun f => if_neg h'
  refine Evt.bind (h := fun f t199 => (if t199 = true then (davitref11_Groups.j4 f tol out done (a : Int) g x9 (k : Int) (decide ((a : Int) ∈ tol.getD k []))) else (davitref11_Groups.j4 f tol out done (a : Int) g x9 (k : Int) false))) hf ?_
  cases h1 : decide ((k : Int) ∈ tol.getD a []) with
  | false =>
   rw [h1, Bool.false_and] at nx
   exact Evt.congr nx fun f => if_neg Bool.false_ne_true
  | true =>
   rw [h1, Bool.true_and] at nx
   exact Evt.congr nx fun f => if_pos rfl
theorem ToL.dec {n : Nat} {T : Nat → Nat → Bool} {tol : List (List Int)} (ht : ToL n T tol) {i k : Nat} (hi : i < n) (hk : k < n) : decide ((k : Int) ∈ tol.getD i []) = T i k := by
 cases hx : T i k with
 | true => exact decide_eq_true ((ht.inn i k hi hk).2 hx)
 | false =>
  refine decide_eq_false fun h => ?_
  rw [(ht.inn i k hi hk).1 h] at hx
  cases hx
theorem ref_l3 (n : Nat) (hn : n ≤ 20) (T : Nat → Nat → Bool) (tol : List (List Int)) (ht : ToL n T tol) (out : List (List Int)) (done : List Int) (hdl : done.length ≤ n) (hol : out.length ≤ 1000) (a : Nat) (ha : a < n) (res : List (List Int)) (v : Bool)
  (Kf : v = false → Evt (fun f => davitref11_Groups.l2 f tol out done ((a : Int) + 1)) res)
  (Kt : v = true → Evt (fun f => davitref11_Groups.l1 f tol (out ++ [cls n T a]) (done ++ cls n T a)) res)
  (hv : v = (List.range n).all fun k => !(badP T done a k)) :
  ∀ (d k : Nat) (x9 : Bool), k + d = n → x9 = ((List.range k).all fun k => !(badP T done a k)) → Evt (fun f => davitref11_Groups.l3 f tol out done (a : Int) (cls k T a) x9 (k : Int)) res := by
 have hlen := ht.len
 intro d
 induction d with
 | zero =>
  intro k x9 hk h9
  obtain rfl : k = n := by omega
  rw [← hv] at h9
  subst h9
  have c0 : ¬ (k : Int) < (tol.length : Int) := by omega
  have hcl := cls_len T a k
  cases x9 with
  | true =>
   have c1 : out.length < 5864062014805 := by omega
   have c2 : done.length + (cls k T a).length < 17592186044416 := by omega
   refine Evt.succ (Evt.congr (Kt rfl) fun f => ?_)
   rw [davitref11_Groups.l3, if_neg c0, if_pos rfl, if_pos c1, if_pos c2]
  | false =>
   have hw : wrap64 ((a : Int) + 1) = (a : Int) + 1 := wrap_small _ (by omega) (by omega)
   refine Evt.succ (Evt.congr (Kf rfl) fun f => ?_)
   rw [davitref11_Groups.l3, if_neg c0, if_neg Bool.false_ne_true, hw]
 | succ d ih =>
  intro k x9 hk h9
  have hkn : k < n := by omega
  have hra := ht.row a ha
  have hrk := ht.row k hkn
  have hpl := cls_len T a k
  have dka := ht.dec hkn ha
  have dak := ht.dec ha hkn
  have nx := ih (k + 1) (x9 && !(badP T done a k)) (by omega) (by
   rw [List.range_succ, List.all_append, ← h9]
   simp)
  rw [cast_succ, cls_succ] at nx
  have e : (decide (k = a) || (decide ((k : Int) ∈ tol.getD a []) && decide ((a : Int) ∈ tol.getD k []))) = clsP T a k := by
   rw [dka, dak]; unfold clsP
   congr 1
  have bad : badP T done a k = (T a k && !(decide ((k : Int) ∈ done)) && !(clsP T a k)) := by
   unfold badP clsP
   cases T a k <;> cases T k a <;> cases (k == a) <;> cases decide ((k : Int) ∈ done) <;> rfl
  refine l3_round tol out done (cls k T a) a k (by omega) (by omega) (by omega) (by omega) (by omega) x9 res ?_
  rw [e]
  cases hc : clsP T a k with
  | true =>
   rw [hc, Bool.not_true, Bool.and_false] at bad
   rw [bad, hc, if_pos rfl, Bool.not_false, Bool.and_true] at nx
   exact j4_yes T tol out done (cls k T a) a k (by omega) (by omega) x9 res nx
  | false =>
   rw [hc, Bool.not_false, Bool.and_true] at bad
   rw [bad, hc, if_neg Bool.false_ne_true, List.append_nil, ← dak] at nx
   exact j4_no tol out done (cls k T a) a k (by omega) (by omega) (by omega) (by omega) (by omega) x9 res nx
theorem ref_l2 (n : Nat) (hn : n ≤ 20) (T : Nat → Nat → Bool) (tol : List (List Int)) (ht : ToL n T tol) (out : List (List Int)) (done : List Int) (hdl : done.length ≤ n) (hol : out.length ≤ 1000) (c : Nat) (hc : c < n) (hcd : (c : Int) ∉ done) (hf : ∀ k, k < n → badP T done c k = false) (hfirst : ∀ a, a < c → ¬ ((a : Int) ∉ done ∧ ∀ k, k < n → badP T done a k = false)) (res : List (List Int))
  (K : Evt (fun f => davitref11_Groups.l1 f tol (out ++ [cls n T c]) (done ++ cls n T c)) res) :
  ∀ (d a : Nat), a + d = c → Evt (fun f => davitref11_Groups.l2 f tol out done (a : Int)) res := by
 have hlen := ht.len
 intro d
 induction d with
 | zero =>
  intro a ha
  obtain rfl : a = c := by omega
  have hd := has_ev done (a : Int) (by omega)
  have c1 : (a : Int) < (tol.length : Int) := by omega
  rw [decide_eq_false hcd] at hd
  have := ref_l3 n hn T tol ht out done hdl hol a hc res true (fun h => by cases h) (fun _ => K) (by
   symm
   rw [List.all_eq_true]
   intro k hk
   rw [hf k (List.mem_range.1 hk)]; rfl) n 0 true (by omega) rfl
  refine Evt.succ (Evt.congr (Evt.bind (h := fun f t189 => if t189 = true then (davitref11_Groups.l2 f tol out done (wrap64 ((a : Int) + 1))) else (davitref11_Groups.l3 f tol out done (a : Int) ([] : List Int) true 0)) hd (Evt.congr this fun f => if_neg Bool.false_ne_true)) fun f => ?_)
  rw [davitref11_Groups.l2, if_pos c1]
 | succ d ih =>
  intro a ha
  have nx := ih (a + 1) (by omega)
  rw [cast_succ] at nx
  have hw : wrap64 ((a : Int) + 1) = (a : Int) + 1 := wrap_small _ (by omega) (by omega)
  have hd := has_ev done (a : Int) (by omega)
  have c1 : (a : Int) < (tol.length : Int) := by omega
  by_cases had : (a : Int) ∈ done
  ·rw [decide_eq_true had] at hd
   refine Evt.succ (Evt.congr (Evt.bind (h := fun f t189 => if t189 = true then (davitref11_Groups.l2 f tol out done (wrap64 ((a : Int) + 1))) else (davitref11_Groups.l3 f tol out done (a : Int) ([] : List Int) true 0)) hd (Evt.congr nx fun f => by rw [if_pos rfl, hw])) fun f => ?_)
   rw [davitref11_Groups.l2, if_pos c1]
  ·rw [decide_eq_false had] at hd
   have := ref_l3 n hn T tol ht out done hdl hol a (by omega) res false (fun _ => nx) (fun h => by cases h) (by
    symm
    cases hx : (List.range n).all fun k => !(badP T done a k) with
    | false => rfl
    | true =>
     refine absurd ⟨had, fun k hk => ?_⟩ (hfirst a (by omega))
     have := List.all_eq_true.1 hx k (List.mem_range.2 hk)
     simpa using this) n 0 true (by omega) rfl
   refine Evt.succ (Evt.congr (Evt.bind (h := fun f t189 => if t189 = true then (davitref11_Groups.l2 f tol out done (wrap64 ((a : Int) + 1))) else (davitref11_Groups.l3 f tol out done (a : Int) ([] : List Int) true 0)) hd (Evt.congr this fun f => if_neg Bool.false_ne_true)) fun f => ?_)
   rw [davitref11_Groups.l2, if_pos c1]
theorem go_all (n : Nat) (hn : n ≤ 20) (T : Nat → Nat → Bool) (hT : Trn n T) (t : List (List Bool)) (ht : Tab n t T) (tol : List (List Int)) (htl : ToL n T tol) :
  ∀ (f : Nat) (d : List Bool) (out : List (List Int)), GI n T out → d.length = n → (∀ a, a < n → (d.getD a false = true ↔ (a : Int) ∈ out.flatten)) → n ≤ f + out.flatten.length → out.length ≤ out.flatten.length →
   Evt (fun k => davitref11_Groups.l1 k tol out out.flatten) (grpGo t f d out) ∧ GI n T (grpGo t f d out) ∧ (grpGo t f d out).flatten.length = n ∧ (grpGo t f d out).length ≤ n := by
 intro f
 induction f with
 | zero =>
  intro d out hG hd hdd hf hol
  have hlen := hG.len
  refine ⟨Evt.succ (Evt.congr (Evt.pure _) fun k => ?_), hG, by unfold grpGo; omega, by unfold grpGo; omega⟩
  rw [davitref11_Groups.l1, if_neg (by rw [htl.len]; omega)]
  rfl
 | succ f ih =>
  intro d out hG hd hdd hf hol
  have hlen := hG.len
  cases hft : ffTo t d t.length with
  | none =>
   have hall : out.flatten.length = n := by
    rw [hG.all]
    intro a ha
    refine Classical.byContradiction fun had => ?_
    obtain ⟨c, hc, hcd, hcf⟩ := free_ex hT out.flatten _ a ha had (Nat.le_refl _)
    have := List.find?_eq_none.1 hft c (List.mem_range.2 (by rw [ht.len]; exact hc))
    exact this ((freeB_iff ht d out.flatten hdd c hc).2 ⟨hcd, hcf⟩)
   rw [show grpGo t (f + 1) d out = out from by rw [grpGo, hft]]
   refine ⟨Evt.succ (Evt.congr (Evt.pure _) fun k => ?_), hG, hall, by omega⟩
   rw [davitref11_Groups.l1, if_neg (by rw [htl.len]; omega)]
  | some c =>
   have hc : c < n := by have := ffTo_lt hft; rw [ht.len] at this; exact this
   obtain ⟨hfc, xs, ys, e, hbef⟩ := List.find?_eq_some_iff_append.1 hft
   obtain ⟨hcd, hcf⟩ := (freeB_iff ht d out.flatten hdd c hc).1 hfc
   have hfirst : ∀ a, a < c → ¬ ((a : Int) ∉ out.flatten ∧ ∀ k, k < n → badP T out.flatten a k = false) := by
    intro a hac hh
    have han : a < n := by omega
    have hfa := (freeB_iff ht d out.flatten hdd a han).2 hh
    have : a ∈ xs := by
     have hp := List.pairwise_lt_range (n := t.length)
     rw [e] at hp
     have hm : a ∈ xs ++ c :: ys := by rw [← e]; exact List.mem_range.2 (by rw [ht.len]; exact han)
     rcases List.mem_append.1 hm with h | h
     ·exact h
     ·rcases List.mem_cons.1 h with h | h
      ·omega
      ·have := (List.pairwise_cons.1 (List.pairwise_append.1 hp).2.1).1 a h
       omega
    have := hbef a this
    rw [hfa] at this
    cases this
   have hG2 := hG.next hT hc hcd hcf
   have hg : grpL t c t.length = cls n T c := by rw [ht.len]; exact grpL_cls ht c hc
   rw [show grpGo t (f + 1) d out = grpGo t f (markL d (cls n T c)) (out ++ [cls n T c]) from by rw [grpGo, hft]; show grpGo t f (markL d (grpL t c t.length)) (out ++ [grpL t c t.length]) = _; rw [hg]]
   have hfl : (out ++ [cls n T c]).flatten = out.flatten ++ cls n T c := by simp
   have hpos : 0 < (cls n T c).length := List.length_pos_of_mem (mem_cls.2 ⟨hc, .inl rfl⟩)
   obtain ⟨i1, i2, i3, i4⟩ := ih (markL d (cls n T c)) (out ++ [cls n T c]) hG2 (by rw [markL_len]; exact hd) (fun a ha => by
    rw [markL_in _ _ _ (fun x hx => by
     obtain ⟨k, e, h1, _⟩ := mem_pickN.1 hx
     exact ⟨k, e, by rw [hd]; exact h1⟩), hdd a ha, hfl, List.mem_append]) (by rw [hfl, List.length_append]; omega) (by rw [hfl, List.length_append, List.length_append, List.length_singleton]; omega)
   refine ⟨?_, i2, i3, i4⟩
   rw [hfl] at i1
   have := ref_l2 n hn T tol htl out out.flatten hlen (by omega) c hc hcd hcf hfirst _ i1 c 0 (by omega)
   refine Evt.succ (Evt.congr this fun k => ?_)
   have hnotall : out.flatten.length < n := by
    rcases Nat.lt_or_ge out.flatten.length n with h | h
    ·exact h
    ·exact absurd (hG.all.1 (by omega) c hc) hcd
   rw [davitref11_Groups.l1, if_pos (by rw [htl.len]; omega)]
   rfl
theorem groups_ev (m : List S33) (hm : Sh m) : ∃ g, Evt (fun f => calls_Groups.f f m) g ∧ Evt (fun f => davitref11_Groups.f f m) g ∧ GI m.length (wsh (E m) m.length) g ∧ g.flatten.length = m.length ∧ g.length ≤ m.length := by
 have hl := hm.len
 obtain ⟨t, ht, hT⟩ := table_ev m hm
 have trn : Trn m.length (wsh (E m) m.length) := by
  intro a b c ha hb hc h1 h2
  exact (wsh_iff _ _ a c ha hc).2 (((wsh_iff _ _ a b ha hb).1 h1).trans ((wsh_iff _ _ b c hb hc).1 h2))
 have hsq : Sq t := by
  refine ⟨by rw [hT.len]; omega, fun r hr => ?_⟩
  obtain ⟨k, hk, rfl⟩ := of_getD hr []
  rw [hT.row k (by rw [← hT.len]; exact hk), hT.len]
 have lists : ∃ tol, ToL m.length (wsh (E m) m.length) tol ∧ ∀ res, Evt (fun f => davitref11_Groups.l1 f tol ([] : List (List Int)) ([] : List Int)) res → Evt (fun f => davitref11_Groups.f f m) res := by
  have each : ∀ a, ∃ r : List Int, a < m.length → Evt (fun f => davitref11_To.f f m (a : Int)) r ∧ r.length ≤ m.length ∧ ∀ x : Int, x ∈ r ↔ ∃ b : Nat, x = (b : Int) ∧ TC m.length (E m) a b := by
   intro a
   by_cases ha : a < m.length
   ·obtain ⟨r, h⟩ := to_ev m hm a ha
    exact ⟨r, fun _ => h⟩
   ·exact ⟨[], fun h => absurd h ha⟩
  obtain ⟨F, hF⟩ := Classical.axiomOfChoice each
  refine ⟨(List.range m.length).map F, ⟨by simp, fun i hi => ?_, fun i k hi hk => ?_⟩, fun res hres => ?_⟩
  ·simp [List.getD_eq_getElem?_getD, hi]; exact (hF i hi).2.1
  ·have : ((List.range m.length).map F).getD i [] = F i := by simp [List.getD_eq_getElem?_getD, hi]
   rw [this, (hF i hi).2.2, wsh_iff _ _ i k hi hk]
   constructor
   ·rintro ⟨b, e, h⟩
    obtain rfl : k = b := by omega
    exact h
   ·exact fun h => ⟨k, rfl, h⟩
  ·have key : ∀ (d i : Nat), i + d = m.length → Evt (fun f => davitref11_Groups.l0 f ((List.range i).map F) (i : Int) m) res := by
    intro d
    induction d with
    | zero =>
     intro i hi
     obtain rfl : i = m.length := by omega
     refine Evt.succ (Evt.congr hres fun f => ?_)
     rw [davitref11_Groups.l0, if_neg (by omega)]
    | succ d ih =>
     intro i hi
     have nx := ih (i + 1) (by omega)
     rw [cast_succ, List.range_succ, List.map_append] at nx
     refine Evt.succ (Evt.congr (Evt.bind (h := fun f t183 => (if ((List.range i).map F).length < 5864062014805 then (davitref11_Groups.l0 f (((List.range i).map F) ++ [t183]) (wrap64 ((i : Int) + 1)) m) else (none))) (hF i (by omega)).1 (Evt.congr nx fun f => by rw [if_pos (by simp; omega), wrap_small _ (by omega) (by omega)]; rfl)) fun f => ?_)
     rw [davitref11_Groups.l0, if_pos (by omega)]
   exact Evt.congr (key m.length 0 (by omega)) fun f => rfl
 obtain ⟨tol, htol, hev⟩ := lists
 obtain ⟨r1, r2, r3, r4⟩ := go_all m.length hl (wsh (E m) m.length) trn t hT tol htol t.length (List.replicate t.length false) [] ⟨fun g hg => (by cases hg), List.nodup_nil, fun pre g post e => (by simp at e)⟩ (by simp [hT.len]) (fun a ha => by simp [List.getD_eq_getElem?_getD, hT.len, ha]) (by rw [hT.len]; omega) (by simp)
 refine ⟨_, Evt.congr (Evt.bind (h := fun f t => if Sq t then some (grpGo t t.length (List.replicate t.length false) []) else none) ht (Evt.const (by rw [if_pos hsq]))) fun f => rfl, hev _ r1, r2, r3, r4⟩
end Go.Proofs.Ytjjcnbfmmhokeaa.G
namespace Go.Proofs.Ytjjcnbfmmhokeaa.G
open Go.Proofs.Ytjjcnbfmmhokeaa.X Go.RowKit Go.Proofs.YtjjcnbfmmhokeaaW.PrintWords
set_option linter.all false
set_option maxHeartbeats 4000000
theorem awake_ev : Evt davitlaw11_awake.f true := by
 have : davitlaw11_awake.f 60 = some true := by decide +kernel
 exact Evt.of_mono davitlaw11_awake.mono this
def cm (m : List S33) (a b : Int) : Bool := isB m.length a && isB m.length b && wsh (E m) m.length a.toNat b.toNat
theorem cm_nat (m : List S33) (a b : Nat) (ha : a < m.length) (hb : b < m.length) : cm m (a : Int) (b : Int) = wsh (E m) m.length a b := by
 unfold cm
 rw [(isB_iff m.length (a : Int)).2 ⟨by omega, by omega⟩, (isB_iff m.length (b : Int)).2 ⟨by omega, by omega⟩, Int.toNat_natCast, Int.toNat_natCast]
 rfl
theorem comes_ev (m : List S33) (hm : Sh m) (a b : Int) : Evt (fun f => calls_Comes.f f m a b) (cm m a b) := by
 have hl := hm.len
 obtain ⟨t, ht, hT⟩ := table_ev m hm
 by_cases ha : isB m.length a = true
 ·obtain ⟨h1, h2⟩ := (isB_iff _ _).1 ha
  by_cases hb : isB m.length b = true
  ·obtain ⟨h3, h4⟩ := (isB_iff _ _).1 hb
   obtain ⟨x, rfl⟩ : ∃ x : Nat, a = (x : Int) := ⟨a.toNat, by omega⟩
   obtain ⟨y, rfl⟩ : ∃ y : Nat, b = (y : Int) := ⟨b.toNat, by omega⟩
   rw [cm_nat m x y (by omega) (by omega)]
   have hlen := hT.len
   have hrow := hT.row x (by omega)
   have hv := hT.val x y (by omega) (by omega)
   unfold tv at hv
   refine Evt.congr (Evt.bind (h := fun f t137 => (if 0 ≤ (x : Int) then (if (x : Int) < (t137.length : Int) then (if 0 ≤ (y : Int) then (if (y : Int) < ((rd_L15 t137 (x : Int)).length : Int) then (some (rdOf false (rd_L15 t137 (x : Int)) (y : Int))) else (none)) else (none)) else (none)) else (none))) ht (Evt.const (by rw [if_pos (by omega), if_pos (by omega), if_pos (by omega), rdL, if_pos (by omega), rdBool, hv]))) fun f => ?_
   unfold calls_Comes.f
   rw [if_neg (by omega), if_neg (by omega), if_neg (by omega), if_neg (by omega)]
  ·rw [show cm m a b = false from by unfold cm; rw [show isB m.length b = false from by simpa using hb]; simp]
   refine Evt.congr (Evt.pure _) fun f => ?_
   have hb' : ¬ (0 ≤ b ∧ b < (m.length : Int)) := fun h => hb ((isB_iff _ _).2 h)
   unfold calls_Comes.f
   rw [if_neg (by omega), if_neg (by omega)]
   by_cases h3 : b < 0
   ·rw [if_pos h3]
   ·rw [if_neg h3, if_pos (by omega)]
 ·rw [show cm m a b = false from by unfold cm; rw [show isB m.length a = false from by simpa using ha]; simp]
  refine Evt.congr (Evt.pure _) fun f => ?_
  have ha' : ¬ (0 ≤ a ∧ a < (m.length : Int)) := fun h => ha ((isB_iff _ _).2 h)
  unfold calls_Comes.f
  by_cases h3 : a < 0
  ·rw [if_pos h3]
  ·rw [if_neg h3, if_pos (by omega)]
theorem to_any (m : List S33) (hm : Sh m) (a : Int) : ∃ r, Evt (fun f => davitref11_To.f f m a) r ∧ r.length ≤ m.length ∧ ∀ b : Int, decide (b ∈ r) = cm m a b := by
 have hl := hm.len
 by_cases ha : isB m.length a = true
 ·obtain ⟨h1, h2⟩ := (isB_iff _ _).1 ha
  obtain ⟨x, rfl⟩ : ∃ x : Nat, a = (x : Int) := ⟨a.toNat, by omega⟩
  obtain ⟨r, hr, hrl, hin⟩ := to_ev m hm x (by omega)
  refine ⟨r, hr, hrl, fun b => ?_⟩
  by_cases hb : b ∈ r
  ·rw [decide_eq_true hb]
   obtain ⟨y, rfl, hy⟩ := (hin b).1 hb
   rw [cm_nat m x y hy.lt.1 hy.lt.2]
   exact ((wsh_iff _ _ x y hy.lt.1 hy.lt.2).2 hy).symm
  ·rw [decide_eq_false hb]
   cases hc : cm m (x : Int) b with
   | false => rfl
   | true =>
    exfalso
    unfold cm at hc
    simp only [Bool.and_eq_true] at hc
    obtain ⟨⟨_, hc2⟩, hc3⟩ := hc
    obtain ⟨h3, h4⟩ := (isB_iff _ _).1 hc2
    obtain ⟨y, rfl⟩ : ∃ y : Nat, b = (y : Int) := ⟨b.toNat, by omega⟩
    rw [Int.toNat_natCast, Int.toNat_natCast] at hc3
    exact hb ((hin _).2 ⟨y, rfl, (wsh_iff _ _ x y (by omega) (by omega)).1 hc3⟩)
 ·have hof := of_ref m hm a
  rw [if_neg ha] at hof
  refine ⟨[], Evt.congr (Evt.bind (h := fun f t => davitref11_To.l0 f t 0 m) hof (Evt.succ (Evt.congr (Evt.pure _) fun f => ?_))) fun f => rfl, by simp, fun b => ?_⟩
  ·rw [davitref11_To.l0, if_neg (by simp)]
  ·unfold cm
   rw [show isB m.length a = false from by simpa using ha]
   simp
theorem used_ev (m : List S33) (hm : Sh m) : ∃ u, Evt (fun f => calls_Used.f f m) u ∧ u.length = m.length ∧ ∀ k : Nat, k < m.length → u.getD k false = (k == 0 || cm m 0 (k : Int)) := by
 have hl := hm.len
 by_cases h0 : m.length = 0
 ·refine ⟨[], Evt.congr (Evt.pure _) fun f => ?_, by simp [h0], fun k hk => by omega⟩
  unfold calls_Used.f
  rw [if_pos (by omega)]
 ·obtain ⟨t, ht, hT⟩ := table_ev m hm
  have hlen := hT.len
  have hrow := hT.row 0 (by omega)
  refine ⟨(t.getD 0 []).set 0 true, Evt.congr (Evt.bind (h := fun f t174 => (if 0 < (t174.length : Int) then ((slices_Clone_bool_bool.f (rd_L15 t174 0)).bind fun t178 => (if 0 < (t178.length : Int) then (some (t178.set (0 : Int).toNat true)) else (none))) else (none))) ht (Evt.const ?_)) fun f => ?_, by rw [List.length_set]; exact hrow, fun k hk => ?_⟩
  ·rw [if_pos (by omega), show rd_L15 t 0 = t.getD 0 [] from rdL t 0]
   unfold slices_Clone_bool_bool.f
   rw [if_pos (by omega), Option.bind_some, if_pos (by omega)]
   rfl
  ·unfold calls_Used.f
   rw [if_neg (by omega)]
  ·by_cases e : k = 0
   ·subst e
    rw [List.getD_eq_getElem?_getD, List.getElem?_set_self (by omega)]
    rfl
   ·rw [List.getD_eq_getElem?_getD, List.getElem?_set_ne (fun h => e h.symm), ← List.getD_eq_getElem?_getD]
    have := hT.val 0 k (by omega) hk
    unfold tv at this
    rw [this, show cm m 0 (k : Int) = wsh (E m) m.length 0 k from cm_nat m 0 k (by omega) hk]
    simp [e]
theorem ints_ev (l : List Int) (hl : l.length ≤ 100000) : Evt (fun f => davitref02_Ints.f f l l) true := by
 have key : ∀ (d i : Nat), i + d = l.length → Evt (fun f => davitref02_Ints.l0 f l l (i : Int)) true := by
  intro d
  induction d with
  | zero =>
   intro i hi
   refine Evt.succ (Evt.congr (Evt.pure _) fun f => ?_)
   rw [davitref02_Ints.l0, if_neg (by omega)]
  | succ d ih =>
   intro i hi
   have nx := ih (i + 1) (by omega)
   rw [cast_succ] at nx
   refine Evt.succ (Evt.congr nx fun f => ?_)
   rw [davitref02_Ints.l0, if_pos (by omega), if_pos (by omega), if_pos (by omega), if_pos rfl, wrap_small _ (by omega) (by omega)]
 refine Evt.congr (key l.length 0 (by omega)) fun f => ?_
 unfold davitref02_Ints.f
 rw [if_pos rfl]
 rfl
end Go.Proofs.Ytjjcnbfmmhokeaa.G
namespace Go.Proofs.Ytjjcnbfmmhokeaa.Pure
open Go.RowKit Go.Proofs.Ytjjcnbfmmhokeaa.X Go.Proofs.Ytjjcnbfmmhokeaa.G Go.Proofs.YtjjcnbfmmhokeaaW.PrintWords
set_option linter.all false
set_option maxHeartbeats 4000000
theorem CallsRight (m : List S33) (a b : Int) : ∃ k, davitlaw11_CallsRight.f k m a b = some true := by
 obtain ⟨s, hs, hsh⟩ := short_ev m
 refine Evt.ex (Evt.congr (g' := fun k => (davitlaw11_awake.f k).bind fun t207 => (if t207 = true then ((davitref02_Short.f k m).bind fun t208 => (if t208 = true then ((calls_Of.f m a).bind fun t209 => ((davitref11_Of.f k m a).bind fun t212 => ((davitref02_Ints.f k t209 t212).bind fun t215 => (if t215 = true then ((calls_Comes.f k m a b).bind fun t216 => ((davitref11_To.f k m a).bind fun t217 => ((davitref07_Has.f k t217 b).bind fun t220 => (davitlaw11_CallsRight.j0 k (t216 != t220) m)))) else (davitlaw11_CallsRight.j0 k true m))))) else (some true))) else (some false))) (Evt.bind awake_ev ?_) fun k => rfl)
 refine Evt.congr ?_ fun k => by rw [if_pos rfl]
 refine Evt.bind hs ?_
 cases s with
 | false => exact Evt.congr (Evt.pure _) fun k => by rw [if_neg (by simp)]
 | true =>
  have hm := hsh rfl
  have hl := hm.len
  refine Evt.congr ?_ fun k => by rw [if_pos rfl, of_prog m hm a, Option.bind_some]
  obtain ⟨o, ho⟩ : ∃ o, o = (if isB m.length a = true then ofL m a.toNat else []) := ⟨_, rfl⟩
  have hol : o.length ≤ 20 := by
   rw [ho]; split
   ·exact Nat.le_trans (pickN_len _ _) hl
   ·simp
  have hof := of_ref m hm a
  rw [← ho] at hof ⊢
  refine Evt.bind hof (Evt.bind (ints_ev o (by omega)) ?_)
  refine Evt.congr ?_ fun k => by rw [if_pos rfl]
  obtain ⟨r, hr, hrl, hrb⟩ := to_any m hm a
  refine Evt.bind (comes_ev m hm a b) (Evt.bind hr ?_)
  refine Evt.bind (has_ev r b (by omega)) ?_
  rw [hrb b]
  refine Evt.congr (g' := fun k => davitlaw11_CallsRight.j0 k false m) ?_ fun k => by simp
  obtain ⟨u, hu, hul, huv⟩ := used_ev m hm
  obtain ⟨g, hg1, hg2, hgI, hgf, hgl⟩ := groups_ev m hm
  have L1 : ∀ (d i : Nat), i + d = g.length → Evt (fun f => davitlaw11_CallsRight.l1 f g g (i : Int)) true := by
   intro d
   induction d with
   | zero =>
    intro i hi
    refine Evt.succ (Evt.congr (Evt.pure _) fun f => ?_)
    rw [davitlaw11_CallsRight.l1, if_neg (by omega)]
   | succ d ih =>
    intro i hi
    have nx := ih (i + 1) (by omega)
    rw [cast_succ] at nx
    have hgi : (g.getD i []).length ≤ 100000 := by
     obtain ⟨c, _, e⟩ := hgI.cl _ (getD_in g i [] (by omega))
     rw [e]
     exact Nat.le_trans (pickN_len _ _) (by omega)
    refine Evt.succ (Evt.congr (Evt.bind (h := fun f t237 => (if t237 = true then (davitlaw11_CallsRight.l1 f g g (wrap64 ((i : Int) + 1))) else (some false))) (ints_ev (g.getD i []) hgi) (Evt.congr nx fun f => by rw [if_pos rfl, G.wrap_small _ (by omega) (by omega)])) fun f => ?_)
    rw [davitlaw11_CallsRight.l1, if_pos (by omega), if_pos (by omega), if_pos (by omega), rdL5]
  have fin : Evt (fun k => (calls_Groups.f k m).bind fun t229 => ((davitref11_Groups.f k m).bind fun t232 => (if (t229.length : Int) = (t232.length : Int) then (davitlaw11_CallsRight.l1 k t229 t232 0) else (some false)))) true := by
   refine Evt.bind hg1 (Evt.bind hg2 ?_)
   exact Evt.congr (L1 g.length 0 (by omega)) fun k => by rw [if_pos rfl]; rfl
  obtain ⟨r0, hr0, hr0l, hr0b⟩ := to_any m hm 0
  have L0 : ∀ (d i : Nat), i + d = m.length → Evt (fun f => davitlaw11_CallsRight.l0 f u (i : Int) m) true := by
   intro d
   induction d with
   | zero =>
    intro i hi
    refine Evt.succ (Evt.congr fin fun f => ?_)
    rw [davitlaw11_CallsRight.l0, if_neg (by omega)]
   | succ d ih =>
    intro i hi
    have nx := ih (i + 1) (by omega)
    rw [cast_succ] at nx
    have hv := huv i (by omega)
    by_cases e : i = 0
    ·subst e
     refine Evt.succ (Evt.congr nx fun f => ?_)
     rw [davitlaw11_CallsRight.l0, if_pos (by omega), if_pos (by omega), if_pos (by omega), rdBool, hv, if_neg (by simp), G.wrap_small _ (by omega) (by omega)]
    ·have hh := has_ev r0 (i : Int) (by omega)
     rw [hr0b] at hh
     refine Evt.succ (Evt.congr (Evt.bind (h := fun f t225 => ((davitref07_Has.f f t225 (i : Int)).bind fun t228 => (if ((rdOf false u (i : Int)) != t228) = true then (some false) else (davitlaw11_CallsRight.l0 f u (wrap64 ((i : Int) + 1)) m)))) hr0 (Evt.bind hh (Evt.congr nx fun f => by
      rw [rdBool, hv, if_neg (by simp [e]), G.wrap_small _ (by omega) (by omega)]))) fun f => ?_)
     rw [davitlaw11_CallsRight.l0, if_pos (by omega), if_pos (by omega), if_neg (by omega)]
  refine Evt.succ (Evt.congr (Evt.bind (h := fun k t221 => (if (t221.length : Int) = (m.length : Int) then (davitlaw11_CallsRight.l0 k t221 0 m) else (some false))) hu (Evt.congr (L0 m.length 0 (by omega)) fun k => by rw [if_pos (by omega)]; rfl)) fun k => ?_)
  rw [davitlaw11_CallsRight.j0, if_neg (by simp)]
end Go.Proofs.Ytjjcnbfmmhokeaa.Pure
namespace Go.Proofs.Ytjjcnbfmmhokeaa.X
open Go.ChangeShapes Go.WideShapes Go.ChangeAt Go.RowKit Go.Proofs.YtjjcnbfmmhokeaaW.PrintWords Go.Proofs.YtjjcnbfmmhokeaaW.PrintLast Go.Proofs.YtjjcnbfmmhokeaaW.PrintMore
set_option linter.all false
def Opens {α : Type} (d : Kd α) (t : TypeId) : Prop := ∀ (H : Type) (enc : TypeId × Value → H) (w : World) (fuel : Nat) (cs : List Value) (x : DataW H × List MemPlace),
 DataW.trod enc Try.prog w 0 (fun _ => true) true fuel t cs = some x → ∃ a, d.K w a cs
theorem Opens.int {k : IntKind} {t : TypeId} (ht : Try.prog.underlying t = some (.int k)) : Opens (Kd.int k) t := fun H enc w fuel cs x h => by
 obtain ⟨n, rfl, _⟩ := DataW.trod_int ht h
 exact ⟨n, rfl⟩
theorem Opens.bool {t : TypeId} (ht : Try.prog.underlying t = some .bool) : Opens Kd.bool t := fun H enc w fuel cs x h => by
 obtain ⟨n, rfl, _⟩ := DataW.trod_bool ht h
 exact ⟨n, rfl⟩
theorem Opens.slice {α : Type} {d : Kd α} {t e : TypeId} (e' : Nat) (ht : Try.prog.underlying t = some (.slice e)) (hd : Opens d e) (hs : d.sz = Try.prog.cellsOf e) : Opens (Kd.slice e' d) t := fun H enc w fuel cs x h => by
 rcases Go.Deep.open_slice ht h with ⟨rfl, _⟩ | ⟨a, len, cap, m, n, D, Pl, rfl, _, hl, hm, hmm, _, hx⟩
 ·exact ⟨[], none, 0, rfl, Nat.le_refl _, ⟨rfl, by simp, fun h => absurd h (by simp)⟩⟩
 ·have hlm : len ≤ m := by rw [hmm]; split <;> omega
  have key : ∀ j, j ≤ len → ∃ xs : List α, xs.length = j ∧ ∀ i p, xs[i]? = some p → ∃ c, c.length = d.sz ∧ d.K w p c ∧ ∀ q u, c[q]? = some u → w.cell? (a.add (i * d.sz + q)) = some u := by
   intro j
   induction j with
   | zero => exact fun _ => ⟨[], rfl, fun i p h => by simp at h⟩
   | succ j ih =>
    intro hj
    obtain ⟨xs, h1, h2⟩ := ih (by omega)
    obtain ⟨cs', h3, h4⟩ := hx j (by omega)
    obtain ⟨p, hp⟩ := hd H enc w n cs' _ h4
    obtain ⟨_, h5, h6⟩ := World.cells?_some h3
    refine ⟨xs ++ [p], by simp [h1], fun i q hq => ?_⟩
    by_cases hi : i < j
    ·rw [List.getElem?_append_left (by omega)] at hq
     exact h2 i q hq
    ·have hi' : i = j := by
      have := (List.getElem?_eq_some_iff.1 hq).1
      simp [h1] at this; omega
     subst hi'
     rw [List.getElem?_append_right (by omega), h1, Nat.sub_self] at hq
     simp at hq
     subst hq
     refine ⟨cs', by rw [h5, hs], hp, fun z u hz => ?_⟩
     have hzl := (List.getElem?_eq_some_iff.1 hz).1
     have := h6 z (by omega)
     rw [Go.Deep.add_add, ← hs] at this
     rw [this, hz]
  obtain ⟨xs, h1, h2⟩ := key len (Nat.le_refl _)
  have hmx : maxLen ≤ 9223372036854775807 := by decide
  exact ⟨xs, some a, cap, by rw [h1], by rw [h1]; exact hl, ⟨rfl, by omega, fun _ => ⟨a, rfl, h2⟩⟩⟩
theorem Opens.iso {α β : Type} {d : Kd α} {t : TypeId} (f : β → α) (g : α → β) (hg : ∀ y, f (g y) = y) (h : Opens d t) : Opens (Kd.iso d f) t := fun H enc w fuel cs x hx => by
 obtain ⟨a, ha⟩ := h H enc w fuel cs x hx
 exact ⟨g a, show d.K w (f (g a)) cs by rw [hg]; exact ha⟩
def OpensF {α : Type} (d : Kd α) (fs : List Field) (off : Nat) : Prop := ∀ (H : Type) (enc : TypeId × Value → H) (w : World) (n : Nat) (cs : List Value), cs.length = off + d.sz →
 (∀ f ∈ fs, ∃ y, DataW.trod enc Try.prog w 0 (fun _ => true) true n f.type ((cs.drop f.offset).take (Try.prog.cellsOf f.type)) = some y) → ∃ a, d.K w a (cs.drop off)
theorem OpensF.one {α : Type} {d : Kd α} {f : Field} {off : Nat} (ho : f.offset = off) (hd : Opens d f.type) (hs : Try.prog.cellsOf f.type = d.sz) : OpensF d [f] off := fun H enc w n cs hl h => by
 obtain ⟨y, hy⟩ := h f (List.mem_cons_self ..)
 rw [ho, hs, List.take_of_length_le (by rw [List.length_drop]; omega)] at hy
 exact hd H enc w n _ _ hy
theorem OpensF.cons {α β : Type} {d : Kd α} {d2 : Kd β} {f : Field} {fs : List Field} {off : Nat} (ho : f.offset = off) (hd : Opens d f.type) (hs : Try.prog.cellsOf f.type = d.sz) (h2 : OpensF d2 fs (off + d.sz)) : OpensF (Kd.pair d d2) (f :: fs) off := fun H enc w n cs hl h => by
 obtain ⟨y, hy⟩ := h f (List.mem_cons_self ..)
 rw [ho, hs] at hy
 obtain ⟨a, ha⟩ := hd H enc w n _ _ hy
 have hl' : cs.length = off + (d.sz + d2.sz) := hl
 obtain ⟨b, hb⟩ := h2 H enc w n cs (by omega) fun g hg => h g (List.mem_cons_of_mem _ hg)
 refine ⟨(a, b), _, _, ?_, ha, hb⟩
 rw [show cs.drop (off + d.sz) = (cs.drop off).drop d.sz by rw [List.drop_drop], List.take_append_drop]
theorem Opens.struct {α : Type} {d : Kd α} {t : TypeId} {fs : Array Field} (ht : Try.prog.underlying t = some (.struct fs)) (hs : Try.prog.cellsOf t = d.sz) (h : OpensF d fs.toList 0) : Opens d t := fun H enc w fuel cs x hx => by
 obtain ⟨xs, n, _, _, hl, hlen, hf⟩ := DataW.trod_struct ht hx
 have := h H enc w n cs (by omega) fun f hm => by
  obtain ⟨i, hi, e⟩ := List.getElem_of_mem hm
  have hi' : i < fs.size := by simpa using hi
  have := hf i f (by rw [← e]; simp [hi'])
  rw [this, List.getElem?_eq_getElem (by omega)]
  exact ⟨_, rfl⟩
 simpa using this
end Go.Proofs.Ytjjcnbfmmhokeaa.X
namespace Go.Proofs.Ytjjcnbfmmhokeaa.X
open Go.RowKit Go.Proofs.YtjjcnbfmmhokeaaW.PrintWords Go.Proofs.YtjjcnbfmmhokeaaW.PrintLast Go.Proofs.YtjjcnbfmmhokeaaW.PrintMore
set_option linter.all false
set_option maxRecDepth 100000
theorem oInt : Opens (Kd.int .i64) 3 := Opens.int Try.underlying3
theorem oBool : Opens Kd.bool 4 := Opens.bool Try.underlying4
theorem oInts : Opens (Kd.slice 3 (Kd.int .i64)) 29 := Opens.slice 3 Try.underlying29 oInt (by kernel_rfl)
theorem oWords : Opens (Kd.slice 34 (Kd.int .u16)) 38 := Opens.slice 34 (t := 38) (e := 34) (by kernel_rfl) (Opens.int (by kernel_rfl)) (by kernel_rfl)
theorem o40 : Opens k40 40 := Opens.iso _ (fun y => ⟨y.1, y.2.1, y.2.2.1, y.2.2.2⟩) (fun _ => rfl) (Opens.struct Try.underlying40 (by kernel_rfl)
 (.cons rfl oInt (by kernel_rfl) (.cons rfl oWords (by kernel_rfl) (.cons rfl oBool (by kernel_rfl) (.one rfl oBool (by kernel_rfl))))))
theorem o36 : Opens k36 36 := Opens.iso _ (fun y => ⟨y.1, y.2.1, y.2.2.1, y.2.2.2.1, y.2.2.2.2.1, y.2.2.2.2.2.1, y.2.2.2.2.2.2⟩) (fun _ => rfl) (Opens.struct Try.underlying36 (by kernel_rfl)
 (.cons rfl oInt (by kernel_rfl) (.cons rfl oInt (by kernel_rfl) (.cons rfl oInt (by kernel_rfl) (.cons rfl oInt (by kernel_rfl) (.cons rfl (Opens.int (by kernel_rfl)) (by kernel_rfl) (.cons rfl oInt (by kernel_rfl) (.one rfl oInts (by kernel_rfl)))))))))
theorem o42 : Opens k42 42 := Opens.iso _ (fun y => ⟨y.1, y.2.1, y.2.2.1, y.2.2.2.1, y.2.2.2.2.1, y.2.2.2.2.2.1, y.2.2.2.2.2.2.1, y.2.2.2.2.2.2.2⟩) (fun _ => rfl) (Opens.struct Try.underlying42 (by kernel_rfl)
 (.cons rfl oInt (by kernel_rfl) (.cons rfl oInt (by kernel_rfl) (.cons rfl oInt (by kernel_rfl) (.cons rfl oInt (by kernel_rfl) (.cons rfl oInts (by kernel_rfl) (.cons rfl oInt (by kernel_rfl) (.cons rfl oInt (by kernel_rfl) (.one rfl oInt (by kernel_rfl))))))))))
theorem o44 : Opens k44 44 := Opens.iso _ (fun y => ⟨y.1, y.2.1, y.2.2.1, y.2.2.2⟩) (fun _ => rfl) (Opens.struct Try.underlying44 (by kernel_rfl)
 (.cons rfl oBool (by kernel_rfl) (.cons rfl o40 (by kernel_rfl) (.cons rfl (Opens.slice 36 (t := 37) (e := 36) (by kernel_rfl) o36 (by kernel_rfl)) (by kernel_rfl) (.one rfl o42 (by kernel_rfl))))))
theorem o33 : Opens k33 33 := Opens.iso _ (fun y => ⟨y.1, y.2.1, y.2.2⟩) (fun _ => rfl) (Opens.struct Try.underlying33 (by kernel_rfl)
 (.cons rfl oInt (by kernel_rfl) (.cons rfl oInt (by kernel_rfl) (.one rfl (Opens.slice 44 (t := 31) (e := 44) (by kernel_rfl) o44 (by kernel_rfl)) (by kernel_rfl)))))
theorem o24 : Opens k24 24 := Opens.iso _ (fun y => ⟨y⟩) (fun _ => rfl) (Opens.struct Try.underlying24 (by kernel_rfl)
 (.one rfl (Opens.slice 33 (t := 22) (e := 33) (by kernel_rfl) o33 (by kernel_rfl)) (by kernel_rfl)))
theorem open_mod {H : Type} {enc : TypeId × Value → H} {W : World} {r : Reach} {b0 : Nat} {v : Value} {d : DataW H} {p : List MemPlace} (hv : Value.okWide Try.prog W r b0 24 v) (h : DataW.Trod enc Try.prog W 0 (fun _ => true) true 24 v d p) :
  ∃ (A : Option Addr) (c : Nat) (l : List S33), v = .agg #[.slice A l.length c] ∧ Kd.C k33 W A l.length l ∧ l.length ≤ c := by
 obtain ⟨cs, rfl, hsz⟩ := Go.WideShapes.okWide_struct (t := 24) Try.underlying24 hv
 have hsz : cs.size = 1 := hsz.trans (by kernel_rfl)
 obtain ⟨c0, rfl⟩ : ∃ c0, cs = #[c0] := by
  obtain ⟨l⟩ := cs
  match l, hsz with
  | [c0], _ => exact ⟨c0, rfl⟩
 obtain ⟨fuel, hf⟩ := h
 obtain ⟨a, ha⟩ := o24 H enc W fuel _ _ hf
 obtain ⟨A, c, e, hc, hC⟩ := ha
 simp only [Value.cells] at e
 injection e with e _
 subst e
 exact ⟨A, c, a.f0, rfl, hC, hc⟩
end Go.Proofs.Ytjjcnbfmmhokeaa.X
namespace Go.Proofs.Ytjjcnbfmmhokeaa.callsRight
open Go.ChangeShapes Go.WideShapes Go.ChangeAt Go.RowKit Go.Proofs.Ytjjcnbfmmhokeaa.X Go.Proofs.YtjjcnbfmmhokeaaW.PrintWords
set_option linter.all false
theorem own : ownKnob Try.prog.godebug = none := by kernel_rfl
theorem laidOut : laidOutB Try.prog = true := by kernel_rfl
set_option maxRecDepth 100000 in
theorem lifted (os : Os) (started : os.Started) (H : Type) (enc : TypeId × Value → H) :
  ReturnsInHanded {} Try.checked os 5 .any (Rows.callsRightSpec.pre6 enc Try.prog Try.f5 Rows.callsRightRow.domain false) (Rows.callsRightSpec.post enc Try.prog Try.f5 false true false false) := by
 refine returnsInHanded_of_change_sized (C := Try.checked) own started (by kernel_rfl) Try.func5
  (ChangeSpec.witness6 (enc := enc) (C := Try.checked) false ⟨#[], #[.agg #[.slice none 0 0], .int .i64 0, .int .i64 0], []⟩ 8 (by kernel_rfl) (by kernel_rfl) (by kernel_rfl) (by kernel_rfl)) ?_
 intro W base args ds gs before hval0 hW hcnd hsz0 _
 have hval : ∀ (j : Nat) t v, Try.f5.params[j]? = some t → args[j]? = some v → Value.okWide Try.prog W .any base t v := hval0
 have hW' := hW
 obtain ⟨p, q, hA0, hV, rfl, hfz, hnd⟩ := hW
 have hA : DataW.TrodAll enc Try.prog W 0 (fun _ => true) true Try.f5.params.toList args.toList ds p := hA0
 rw [Try.params5] at hA hval
 obtain ⟨v0, vs0, d0, ds0, p0, q0, hargs, rfl, rfl, h0, r0⟩ := trodAll_cons hA
 obtain ⟨v1, vs1, d1, ds1, p1, q1, rfl, rfl, rfl, h1, r1⟩ := trodAll_cons r0
 obtain ⟨v2, vs2, d2, ds2, p2, q2, rfl, rfl, rfl, h2, r2⟩ := trodAll_cons r1
 obtain ⟨rfl, rfl, rfl⟩ := trodAll_nil r2
 obtain rfl : args = #[v0, v1, v2] := by cases args; simp_all
 obtain ⟨rfl, rfl⟩ := trodVars_none hV
 have k0 := h0
 have lt0 : ∀ x ∈ p0, x.block < W.heap.size := by obtain ⟨m, hm⟩ := k0; exact DataW.trod_lt m _ _ _ hm
 obtain ⟨A_0, c_0, l_0, rfl, hC_0, hc_0⟩ := open_mod (hval 0 24 v0 rfl rfl) h0
 obtain ⟨a1, rfl, rfl, rfl, w1⟩ := open_int Try.underlying3 (hval 1 3 v1 rfl rfl) h1
 obtain ⟨a2, rfl, rfl, rfl, w2⟩ := open_int Try.underlying3 (hval 2 3 v2 rfl rfl) h2
 clear hA0 hval0 hsz0
 obtain ⟨k, hk⟩ := Pure.CallsRight l_0 a1 a2
 refine (davitlaw11_CallsRight.calls k A_0 c_0 l_0 a1 a2 true W hC_0 hc_0 hk).mono fun e W' ⟨he, bel⟩ => ?_
 subst he
 exact ⟨_, rfl, _, _, _, [], _, [], hW', trodAll_mk1 (shut_bool Try.underlying4 _), (trodAll_cons_mk (Below.trod laidOut (by kernel_rfl) (of_decide_eq_true (by kernel_rfl)) k0 bel lt0) (trodAll_cons_mk (shut_int Try.underlying3 w1) (trodAll_cons_mk (shut_int Try.underlying3 w2) trodAll_mk0))), rfl, bel.frame _, fun h => by cases h⟩
theorem over : Rows.callsRightRow.holds Try.pinned (OpenSpec.ofChange Rows.callsRightSpec) :=
 OpenClaim.holds_of_wide 5 Try.f5 rfl rfl rfl rfl rfl rfl rfl ⟨rfl, rfl, rfl, rfl, rfl⟩ rfl rfl rfl rfl rfl (by kernel_rfl) Try.func5 (by kernel_rfl)
  (of_decide_eq_true (by kernel_rfl)) (by unfold Func.isWrapper; first | (rw [if_pos (by decide +kernel)]; kernel_rfl) | (rw [if_neg (by decide +kernel)]; exact ⟨rfl, rfl⟩))
  (fun os started H enc _ => lifted os started H enc)
theorem proved : Rows.CallsRightSaid := over
#print axioms proved
end Go.Proofs.Ytjjcnbfmmhokeaa.callsRight
namespace Go.Proofs.Ytjjcnbfmmhokeaa
theorem callsRight_holds : Rows.CallsRightSaid := callsRight.proved
end Go.Proofs.Ytjjcnbfmmhokeaa
