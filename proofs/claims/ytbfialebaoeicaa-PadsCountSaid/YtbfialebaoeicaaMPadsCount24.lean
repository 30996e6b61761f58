/- Part 25 of the proof of the statement PadsCount: the words of the walks, the walks through the functions that it reaches, and the plain laws of what they compute. -/
import Derived.Test.YtbfialebaoeicaaMPadsCount23
import Derived.RegionTactic
import Derived.ChangeAlike
import Derived.Deep.QuietTactic
import Derived.BigQuiet
import Derived.Deep.MidRow
namespace Go.Proofs.Ytbfialebaoeicaa.X
open Go.RowKit Go.Proofs.YtbfialebaoeicaaW.PrintWords Go.Proofs.YtbfialebaoeicaaW.PrintLast Go.Proofs.YtbfialebaoeicaaW.PrintMore
set_option linter.all false
set_option maxHeartbeats 16000000 in
set_option maxRecDepth 100000 in
theorem r14 {s0 s2 s4 s7 s8 s9 s10 s11 s12 s13 s14 s15 s16 s17 s18 s19 s20 s21 s22 s23 s24 s25 s26 s27 s28 s29 s30 s31 s32 s33 s34 s35 s36 s37 s38 s39 s40 s41 s42 s43 s44 s45 s46 s47 s48 s49 s50 s51 s52 s53 s54 s55 s56 s57 s58 s59 s60 s61 s62 s63 s64 s65 s66 s67 s68 s69 s70 s71 s72 s73 s74 s75 s76 s77 s78 s79 s80 s81 s82 s83 s84 s85 s86 s87 s88 s89 s90 s91 s92 s93 s94 s95 s96 s97 s98 s99 s100 s101 s102 s103 s104 s105 s106 s107 s108 s109 s110 s111 s112 s113 s114 s115 s116 s117 s118 s119 s120 s121 s122 s123 s124 s125 s126 s127 s128 s129 s130 s131 s132 s133 s134 s135 s136 s137 s138 s139 s140 s141 s142 s143 s144 s145 s146 s147 s148 s149 s150 s151 s152 s153 s154 s155 s156 s157 s158 s159 s160 s161 s162 s163 s164 s165 s166 s167 s168 s169 s170 s171 s172 s173 s174 s175 s176 s177 s178 s179 s180 s181 s182 s183 s184 s185 s186 s187 s188 s189 s190 s191 s192 : Value} {Q : Exit → Act → World → Prop} (m : List S27) (f : S27) (b q : S41) (c0 cn c1 d1 c4 c5 c6 e4 e5 e6 : Nat) (ad ae bd be : Addr) (A4 A5 A6 B4 B5 B6 : Option Addr) (g1 g3 : Nat) (x y : Int) (wr : World) (hx : 0 ≤ x ∧ x < (m.length : Int)) (hy : 0 ≤ y ∧ y < (f.f2.length : Int))
  (h1 : wr.heap[g1]? = some (.cells #[.slice (some ad) m.length c0] 24 (0, 0))) (h3 : wr.heap[g3]? = some (.cells #[.slice (some ae) m.length cn] 24 (0, 0))) (hyy : wr.cell? ⟨(ad.add (x.toNat * 3)).block, (ad.add (x.toNat * 3)).off + 2, none⟩ = some (.slice (some bd) f.f2.length c1)) (hzz : wr.cell? ⟨(ae.add (x.toNat * 3)).block, (ae.add (x.toNat * 3)).off + 2, none⟩ = some (.slice (some be) f.f2.length d1)) (Y0_ : wr.cell? (bd.add (y.toNat * 14)) = some (.bool b.f0)) (Y1_ : wr.cell? ⟨(bd.add (y.toNat * 14)).block, (bd.add (y.toNat * 14)).off + 1, none⟩ = some (.int .i64 b.f1.f0)) (Y2_ : wr.cell? ⟨(bd.add (y.toNat * 14)).block, (bd.add (y.toNat * 14)).off + 2, none⟩ = some (.slice A4 b.f1.f1.length c4)) (Y3_ : wr.cell? ⟨(bd.add (y.toNat * 14)).block, (bd.add (y.toNat * 14)).off + 3, none⟩ = some (.bool b.f1.f2)) (Y4_ : wr.cell? ⟨(bd.add (y.toNat * 14)).block, (bd.add (y.toNat * 14)).off + 4, none⟩ = some (.bool b.f1.f3)) (Y5_ : wr.cell? ⟨(bd.add (y.toNat * 14)).block, (bd.add (y.toNat * 14)).off + 5, none⟩ = some (.slice A5 b.f2.length c5)) (Y6_ : wr.cell? ⟨(bd.add (y.toNat * 14)).block, (bd.add (y.toNat * 14)).off + 6, none⟩ = some (.int .i64 b.f3.f0)) (Y7_ : wr.cell? ⟨(bd.add (y.toNat * 14)).block, (bd.add (y.toNat * 14)).off + 7, none⟩ = some (.int .i64 b.f3.f1)) (Y8_ : wr.cell? ⟨(bd.add (y.toNat * 14)).block, (bd.add (y.toNat * 14)).off + 8, none⟩ = some (.int .i64 b.f3.f2)) (Y9_ : wr.cell? ⟨(bd.add (y.toNat * 14)).block, (bd.add (y.toNat * 14)).off + 9, none⟩ = some (.int .i64 b.f3.f3)) (Y10_ : wr.cell? ⟨(bd.add (y.toNat * 14)).block, (bd.add (y.toNat * 14)).off + 10, none⟩ = some (.slice A6 b.f3.f4.length c6)) (Y11_ : wr.cell? ⟨(bd.add (y.toNat * 14)).block, (bd.add (y.toNat * 14)).off + 11, none⟩ = some (.int .i64 b.f3.f5)) (Y12_ : wr.cell? ⟨(bd.add (y.toNat * 14)).block, (bd.add (y.toNat * 14)).off + 12, none⟩ = some (.int .i64 b.f3.f6)) (Y13_ : wr.cell? ⟨(bd.add (y.toNat * 14)).block, (bd.add (y.toNat * 14)).off + 13, none⟩ = some (.int .i64 b.f3.f7)) (U0_ : wr.cell? (be.add (y.toNat * 14)) = some (.bool q.f0)) (U1_ : wr.cell? ⟨(be.add (y.toNat * 14)).block, (be.add (y.toNat * 14)).off + 1, none⟩ = some (.int .i64 q.f1.f0)) (U2_ : wr.cell? ⟨(be.add (y.toNat * 14)).block, (be.add (y.toNat * 14)).off + 2, none⟩ = some (.slice B4 q.f1.f1.length e4)) (U3_ : wr.cell? ⟨(be.add (y.toNat * 14)).block, (be.add (y.toNat * 14)).off + 3, none⟩ = some (.bool q.f1.f2)) (U4_ : wr.cell? ⟨(be.add (y.toNat * 14)).block, (be.add (y.toNat * 14)).off + 4, none⟩ = some (.bool q.f1.f3)) (U5_ : wr.cell? ⟨(be.add (y.toNat * 14)).block, (be.add (y.toNat * 14)).off + 5, none⟩ = some (.slice B5 q.f2.length e5)) (U6_ : wr.cell? ⟨(be.add (y.toNat * 14)).block, (be.add (y.toNat * 14)).off + 6, none⟩ = some (.int .i64 q.f3.f0)) (U7_ : wr.cell? ⟨(be.add (y.toNat * 14)).block, (be.add (y.toNat * 14)).off + 7, none⟩ = some (.int .i64 q.f3.f1)) (U8_ : wr.cell? ⟨(be.add (y.toNat * 14)).block, (be.add (y.toNat * 14)).off + 8, none⟩ = some (.int .i64 q.f3.f2)) (U9_ : wr.cell? ⟨(be.add (y.toNat * 14)).block, (be.add (y.toNat * 14)).off + 9, none⟩ = some (.int .i64 q.f3.f3)) (U10_ : wr.cell? ⟨(be.add (y.toNat * 14)).block, (be.add (y.toNat * 14)).off + 10, none⟩ = some (.slice B6 q.f3.f4.length e6)) (U11_ : wr.cell? ⟨(be.add (y.toNat * 14)).block, (be.add (y.toNat * 14)).off + 11, none⟩ = some (.int .i64 q.f3.f5)) (U12_ : wr.cell? ⟨(be.add (y.toNat * 14)).block, (be.add (y.toNat * 14)).off + 12, none⟩ = some (.int .i64 q.f3.f6)) (U13_ : wr.cell? ⟨(be.add (y.toNat * 14)).block, (be.add (y.toNat * 14)).off + 13, none⟩ = some (.int .i64 q.f3.f7))
  (hP : ∀ c (a : Act) (N : Option Tmp) (v : Value) w, Q (.panic c) (a.put N v) w → Q (.panic c) a w)
  (hQ : ∀ (g7 g8 : Nat) (W : World), Below wr.heap.size wr W → W.heap[g7]? = some (.cells #[.bool b.f0, .int .i64 b.f1.f0, .slice A4 b.f1.f1.length c4, .bool b.f1.f2, .bool b.f1.f3, .slice A5 b.f2.length c5, .int .i64 b.f3.f0, .int .i64 b.f3.f1, .int .i64 b.f3.f2, .int .i64 b.f3.f3, .slice A6 b.f3.f4.length c6, .int .i64 b.f3.f5, .int .i64 b.f3.f6, .int .i64 b.f3.f7] 41 (0, 0)) → W.heap[g8]? = some (.cells #[.bool q.f0, .int .i64 q.f1.f0, .slice B4 q.f1.f1.length e4, .bool q.f1.f2, .bool q.f1.f3, .slice B5 q.f2.length e5, .int .i64 q.f3.f0, .int .i64 q.f3.f1, .int .i64 q.f3.f2, .int .i64 q.f3.f3, .slice B6 q.f3.f4.length e6, .int .i64 q.f3.f5, .int .i64 q.f3.f6, .int .i64 q.f3.f7] 41 (0, 0)) → Q .normal { tmps := #[s0, .pointer (some ⟨g1, 0, none⟩), s2, .pointer (some ⟨g3, 0, none⟩), s4, .int .i64 x, .int .i64 y, .pointer (some ⟨g7, 0, none⟩), .pointer (some ⟨g8, 0, none⟩), s9, s10, s11, s12, s13, s14, s15, s16, s17, s18, s19, s20, s21, s22, s23, s24, s25, s26, s27, s28, s29, s30, s31, s32, s33, s34, s35, s36, s37, s38, s39, s40, s41, s42, s43, .pointer (some ⟨g1, 0, none⟩), .slice (some ad) m.length c0, .int .i64 x, .pointer (some (ad.add (x.toNat * 3))), .pointer (some ⟨(ad.add (x.toNat * 3)).block, (ad.add (x.toNat * 3)).off + 2, none⟩), .slice (some bd) f.f2.length c1, .int .i64 y, .pointer (some (bd.add (y.toNat * 14))), .agg #[.bool b.f0, .int .i64 b.f1.f0, .slice A4 b.f1.f1.length c4, .bool b.f1.f2, .bool b.f1.f3, .slice A5 b.f2.length c5, .int .i64 b.f3.f0, .int .i64 b.f3.f1, .int .i64 b.f3.f2, .int .i64 b.f3.f3, .slice A6 b.f3.f4.length c6, .int .i64 b.f3.f5, .int .i64 b.f3.f6, .int .i64 b.f3.f7], .pointer (some ⟨g3, 0, none⟩), .slice (some ae) m.length cn, .int .i64 x, .pointer (some (ae.add (x.toNat * 3))), .pointer (some ⟨(ae.add (x.toNat * 3)).block, (ae.add (x.toNat * 3)).off + 2, none⟩), .slice (some be) f.f2.length d1, .int .i64 y, .pointer (some (be.add (y.toNat * 14))), .agg #[.bool q.f0, .int .i64 q.f1.f0, .slice B4 q.f1.f1.length e4, .bool q.f1.f2, .bool q.f1.f3, .slice B5 q.f2.length e5, .int .i64 q.f3.f0, .int .i64 q.f3.f1, .int .i64 q.f3.f2, .int .i64 q.f3.f3, .slice B6 q.f3.f4.length e6, .int .i64 q.f3.f5, .int .i64 q.f3.f6, .int .i64 q.f3.f7], s62, s63, s64, s65, s66, s67, s68, s69, s70, s71, s72, s73, s74, s75, s76, s77, s78, s79, s80, s81, s82, s83, s84, s85, s86, s87, s88, s89, s90, s91, s92, s93, s94, s95, s96, s97, s98, s99, s100, s101, s102, s103, s104, s105, s106, s107, s108, s109, s110, s111, s112, s113, s114, s115, s116, s117, s118, s119, s120, s121, s122, s123, s124, s125, s126, s127, s128, s129, s130, s131, s132, s133, s134, s135, s136, s137, s138, s139, s140, s141, s142, s143, s144, s145, s146, s147, s148, s149, s150, s151, s152, s153, s154, s155, s156, s157, s158, s159, s160, s161, s162, s163, s164, s165, s166, s167, s168, s169, s170, s171, s172, s173, s174, s175, s176, s177, s178, s179, s180, s181, s182, s183, s184, s185, s186, s187, s188, s189, s190, s191, s192], defers := [] } W) :
  (Code.region 14 (opsOf Try.f12 14) true).wp Try.prog Q { tmps := #[s0, .pointer (some ⟨g1, 0, none⟩), s2, .pointer (some ⟨g3, 0, none⟩), s4, .int .i64 x, .int .i64 y, s7, s8, s9, s10, s11, s12, s13, s14, s15, s16, s17, s18, s19, s20, s21, s22, s23, s24, s25, s26, s27, s28, s29, s30, s31, s32, s33, s34, s35, s36, s37, s38, s39, s40, s41, s42, s43, s44, s45, s46, s47, s48, s49, s50, s51, s52, s53, s54, s55, s56, s57, s58, s59, s60, s61, s62, s63, s64, s65, s66, s67, s68, s69, s70, s71, s72, s73, s74, s75, s76, s77, s78, s79, s80, s81, s82, s83, s84, s85, s86, s87, s88, s89, s90, s91, s92, s93, s94, s95, s96, s97, s98, s99, s100, s101, s102, s103, s104, s105, s106, s107, s108, s109, s110, s111, s112, s113, s114, s115, s116, s117, s118, s119, s120, s121, s122, s123, s124, s125, s126, s127, s128, s129, s130, s131, s132, s133, s134, s135, s136, s137, s138, s139, s140, s141, s142, s143, s144, s145, s146, s147, s148, s149, s150, s151, s152, s153, s154, s155, s156, s157, s158, s159, s160, s161, s162, s163, s164, s165, s166, s167, s168, s169, s170, s171, s172, s173, s174, s175, s176, s177, s178, s179, s180, s181, s182, s183, s184, s185, s186, s187, s188, s189, s190, s191, s192], defers := [] } wr := by
 have h1a := Aside0.mk h1
 have h3a := Aside0.mk h3
 have hyya := Aside0.mk hyy
 have hzza := Aside0.mk hzz
 have Y0_a := Aside0.mk Y0_
 have Y1_a := Aside0.mk Y1_
 have Y2_a := Aside0.mk Y2_
 have Y3_a := Aside0.mk Y3_
 have Y4_a := Aside0.mk Y4_
 have Y5_a := Aside0.mk Y5_
 have Y6_a := Aside0.mk Y6_
 have Y7_a := Aside0.mk Y7_
 have Y8_a := Aside0.mk Y8_
 have Y9_a := Aside0.mk Y9_
 have Y10_a := Aside0.mk Y10_
 have Y11_a := Aside0.mk Y11_
 have Y12_a := Aside0.mk Y12_
 have Y13_a := Aside0.mk Y13_
 have U0_a := Aside0.mk U0_
 have U1_a := Aside0.mk U1_
 have U2_a := Aside0.mk U2_
 have U3_a := Aside0.mk U3_
 have U4_a := Aside0.mk U4_
 have U5_a := Aside0.mk U5_
 have U6_a := Aside0.mk U6_
 have U7_a := Aside0.mk U7_
 have U8_a := Aside0.mk U8_
 have U9_a := Aside0.mk U9_
 have U10_a := Aside0.mk U10_
 have U11_a := Aside0.mk U11_
 have U12_a := Aside0.mk U12_
 have U13_a := Aside0.mk U13_
 have HQQ := Aside0.mk hQ
 have p1 : (0 ≤ x) = True := eq_true hx.1
 have p2 : (x < (m.length : Int)) = True := eq_true hx.2
 have p3 : (0 ≤ y) = True := eq_true hy.1
 have p4 : (y < (f.f2.length : Int)) = True := eq_true hy.2
 clear hx hy hQ h1 h3 hyy hzz Y0_ Y1_ Y2_ Y3_ Y4_ Y5_ Y6_ Y7_ Y8_ Y9_ Y10_ Y11_ Y12_ Y13_ U0_ U1_ U2_ U3_ U4_ U5_ U6_ U7_ U8_ U9_ U10_ U11_ U12_ U13_
 have hu24 := Try.underlying24
 have hu27 := Try.underlying27
 have hu41 := Try.underlying41
 conv in opsOf _ _ => whnf
 refine start_ (S := (fun W : World => Below wr.heap.size wr W)) (ds := []) #[false, false, false, false, false, false, false, false, false, false, false, false, false, false, false, false, false, false, false, false, false, false] (by kernel_rfl) (by rfl) (by rfl) (below_drew (Below.refl _ _)) (fun hS => ?_)
 refine pure_ (i := 0) (N := some 44) (v := .pointer (some ⟨g1, 0, none⟩)) (a' := ?axrg1) #[true, false, false, false, false, false, false, false, false, false, false, false, false, false, false, false, false, false, false, false, false, false] rfl rfl (by kernel_rfl) (fun c a w h => hP c a _ _ w h) (Or.inl ⟨by rfl, ?yyrg1⟩) ?harg1 ?hhrg1
 case yyrg1 => intro W; go_simp; done
 case harg1 => try simp only [Act.put, List.setIfInBounds_toArray, List.set_cons_zero, List.set_cons_succ]; exact rfl
 refine take_ (i := 1) (N := some 45) (v := .slice (some ad) m.length c0) (a' := ?axrg2) #[true, true, false, false, false, false, false, false, false, false, false, false, false, false, false, false, false, false, false, false, false, false] rfl rfl (by kernel_rfl) (fun c a w h => hP c a _ _ w h) (Or.inl ⟨by rfl, ?yyrg2⟩) hS ?harg2 ?hhrg2
 case yyrg2 => intro W hW; have p1_ := (blk_cell (blk_below h1a.out hW) 0).trans rfl; go_simp; done
 case harg2 => try simp only [Act.put, List.setIfInBounds_toArray, List.set_cons_zero, List.set_cons_succ]; exact rfl
 refine pure_ (i := 2) (N := some 46) (v := .int .i64 x) (a' := ?axrg3) #[true, true, true, false, false, false, false, false, false, false, false, false, false, false, false, false, false, false, false, false, false, false] rfl rfl (by kernel_rfl) (fun c a w h => hP c a _ _ w h) (Or.inl ⟨by rfl, ?yyrg3⟩) ?harg3 ?hhrg3
 case yyrg3 => intro W; go_simp; done
 case harg3 => try simp only [Act.put, List.setIfInBounds_toArray, List.set_cons_zero, List.set_cons_succ]; exact rfl
 refine pure_ (i := 3) (N := some 47) (v := .pointer (some (ad.add (x.toNat * 3)))) (a' := ?axrg4) #[true, true, true, true, false, false, false, false, false, false, false, false, false, false, false, false, false, false, false, false, false, false] rfl rfl (by kernel_rfl) (fun c a w h => hP c a _ _ w h) (Or.inl ⟨by rfl, ?yyrg4⟩) ?harg4 ?hhrg4
 case yyrg4 => intro W; go_simp; done
 case harg4 => try simp only [Act.put, List.setIfInBounds_toArray, List.set_cons_zero, List.set_cons_succ]; exact rfl
 refine pure_ (i := 4) (N := some 48) (v := .pointer (some ⟨(ad.add (x.toNat * 3)).block, (ad.add (x.toNat * 3)).off + 2, none⟩)) (a' := ?axrg5) #[true, true, true, true, true, false, false, false, false, false, false, false, false, false, false, false, false, false, false, false, false, false] rfl rfl (by kernel_rfl) (fun c a w h => hP c a _ _ w h) (Or.inl ⟨by rfl, ?yyrg5⟩) ?harg5 ?hhrg5
 case yyrg5 => intro W; go_simp; done
 case harg5 => try simp only [Act.put, List.setIfInBounds_toArray, List.set_cons_zero, List.set_cons_succ]; exact rfl
 refine take_ (i := 5) (N := some 49) (v := .slice (some bd) f.f2.length c1) (a' := ?axrg6) #[true, true, true, true, true, true, false, false, false, false, false, false, false, false, false, false, false, false, false, false, false, false] rfl rfl (by kernel_rfl) (fun c a w h => hP c a _ _ w h) (Or.inl ⟨by rfl, ?yyrg6⟩) hS ?harg6 ?hhrg6
 case yyrg6 => intro W hW; have py := pw_cell_below hW hyya.out; go_simp; done
 case harg6 => try simp only [Act.put, List.setIfInBounds_toArray, List.set_cons_zero, List.set_cons_succ]; exact rfl
 refine pure_ (i := 6) (N := some 50) (v := .int .i64 y) (a' := ?axrg7) #[true, true, true, true, true, true, true, false, false, false, false, false, false, false, false, false, false, false, false, false, false, false] rfl rfl (by kernel_rfl) (fun c a w h => hP c a _ _ w h) (Or.inl ⟨by rfl, ?yyrg7⟩) ?harg7 ?hhrg7
 case yyrg7 => intro W; go_simp; done
 case harg7 => try simp only [Act.put, List.setIfInBounds_toArray, List.set_cons_zero, List.set_cons_succ]; exact rfl
 refine pure_ (i := 7) (N := some 51) (v := .pointer (some (bd.add (y.toNat * 14)))) (a' := ?axrg8) #[true, true, true, true, true, true, true, true, false, false, false, false, false, false, false, false, false, false, false, false, false, false] rfl rfl (by kernel_rfl) (fun c a w h => hP c a _ _ w h) (Or.inl ⟨by rfl, ?yyrg8⟩) ?harg8 ?hhrg8
 case yyrg8 => intro W; go_simp; done
 case harg8 => try simp only [Act.put, List.setIfInBounds_toArray, List.set_cons_zero, List.set_cons_succ]; exact rfl
 refine take_ (i := 8) (N := some 52) (v := .agg #[.bool b.f0, .int .i64 b.f1.f0, .slice A4 b.f1.f1.length c4, .bool b.f1.f2, .bool b.f1.f3, .slice A5 b.f2.length c5, .int .i64 b.f3.f0, .int .i64 b.f3.f1, .int .i64 b.f3.f2, .int .i64 b.f3.f3, .slice A6 b.f3.f4.length c6, .int .i64 b.f3.f5, .int .i64 b.f3.f6, .int .i64 b.f3.f7]) (a' := ?axrg9) #[true, true, true, true, true, true, true, true, true, false, false, false, false, false, false, false, false, false, false, false, false, false] rfl rfl (by kernel_rfl) (fun c a w h => hP c a _ _ w h) (Or.inl ⟨by rfl, ?yyrg9⟩) hS ?harg9 ?hhrg9
 case yyrg9 => intro W hW; have py0 := pw_cell_below hW Y0_a.out; have py1 := pw_cell_below hW Y1_a.out; have py2 := pw_cell_below hW Y2_a.out; have py3 := pw_cell_below hW Y3_a.out; have py4 := pw_cell_below hW Y4_a.out; have py5 := pw_cell_below hW Y5_a.out; have py6 := pw_cell_below hW Y6_a.out; have py7 := pw_cell_below hW Y7_a.out; have py8 := pw_cell_below hW Y8_a.out; have py9 := pw_cell_below hW Y9_a.out; have py10 := pw_cell_below hW Y10_a.out; have py11 := pw_cell_below hW Y11_a.out; have py12 := pw_cell_below hW Y12_a.out; have py13 := pw_cell_below hW Y13_a.out; go_simp; done
 case harg9 => try simp only [Act.put, List.setIfInBounds_toArray, List.set_cons_zero, List.set_cons_succ]; exact rfl
 refine pure_ (i := 9) (N := some 53) (v := .pointer (some ⟨g3, 0, none⟩)) (a' := ?axrg10) #[true, true, true, true, true, true, true, true, true, true, false, false, false, false, false, false, false, false, false, false, false, false] rfl rfl (by kernel_rfl) (fun c a w h => hP c a _ _ w h) (Or.inl ⟨by rfl, ?yyrg10⟩) ?harg10 ?hhrg10
 case yyrg10 => intro W; go_simp; done
 case harg10 => try simp only [Act.put, List.setIfInBounds_toArray, List.set_cons_zero, List.set_cons_succ]; exact rfl
 refine take_ (i := 10) (N := some 54) (v := .slice (some ae) m.length cn) (a' := ?axrg11) #[true, true, true, true, true, true, true, true, true, true, true, false, false, false, false, false, false, false, false, false, false, false] rfl rfl (by kernel_rfl) (fun c a w h => hP c a _ _ w h) (Or.inl ⟨by rfl, ?yyrg11⟩) hS ?harg11 ?hhrg11
 case yyrg11 => intro W hW; have p3_ := (blk_cell (blk_below h3a.out hW) 0).trans rfl; go_simp; done
 case harg11 => try simp only [Act.put, List.setIfInBounds_toArray, List.set_cons_zero, List.set_cons_succ]; exact rfl
 refine pure_ (i := 11) (N := some 55) (v := .int .i64 x) (a' := ?axrg12) #[true, true, true, true, true, true, true, true, true, true, true, true, false, false, false, false, false, false, false, false, false, false] rfl rfl (by kernel_rfl) (fun c a w h => hP c a _ _ w h) (Or.inl ⟨by rfl, ?yyrg12⟩) ?harg12 ?hhrg12
 case yyrg12 => intro W; go_simp; done
 case harg12 => try simp only [Act.put, List.setIfInBounds_toArray, List.set_cons_zero, List.set_cons_succ]; exact rfl
 refine pure_ (i := 12) (N := some 56) (v := .pointer (some (ae.add (x.toNat * 3)))) (a' := ?axrg13) #[true, true, true, true, true, true, true, true, true, true, true, true, true, false, false, false, false, false, false, false, false, false] rfl rfl (by kernel_rfl) (fun c a w h => hP c a _ _ w h) (Or.inl ⟨by rfl, ?yyrg13⟩) ?harg13 ?hhrg13
 case yyrg13 => intro W; go_simp; done
 case harg13 => try simp only [Act.put, List.setIfInBounds_toArray, List.set_cons_zero, List.set_cons_succ]; exact rfl
 refine pure_ (i := 13) (N := some 57) (v := .pointer (some ⟨(ae.add (x.toNat * 3)).block, (ae.add (x.toNat * 3)).off + 2, none⟩)) (a' := ?axrg14) #[true, true, true, true, true, true, true, true, true, true, true, true, true, true, false, false, false, false, false, false, false, false] rfl rfl (by kernel_rfl) (fun c a w h => hP c a _ _ w h) (Or.inl ⟨by rfl, ?yyrg14⟩) ?harg14 ?hhrg14
 case yyrg14 => intro W; go_simp; done
 case harg14 => try simp only [Act.put, List.setIfInBounds_toArray, List.set_cons_zero, List.set_cons_succ]; exact rfl
 refine take_ (i := 14) (N := some 58) (v := .slice (some be) f.f2.length d1) (a' := ?axrg15) #[true, true, true, true, true, true, true, true, true, true, true, true, true, true, true, false, false, false, false, false, false, false] rfl rfl (by kernel_rfl) (fun c a w h => hP c a _ _ w h) (Or.inl ⟨by rfl, ?yyrg15⟩) hS ?harg15 ?hhrg15
 case yyrg15 => intro W hW; have pz := pw_cell_below hW hzza.out; go_simp; done
 case harg15 => try simp only [Act.put, List.setIfInBounds_toArray, List.set_cons_zero, List.set_cons_succ]; exact rfl
 refine pure_ (i := 15) (N := some 59) (v := .int .i64 y) (a' := ?axrg16) #[true, true, true, true, true, true, true, true, true, true, true, true, true, true, true, true, false, false, false, false, false, false] rfl rfl (by kernel_rfl) (fun c a w h => hP c a _ _ w h) (Or.inl ⟨by rfl, ?yyrg16⟩) ?harg16 ?hhrg16
 case yyrg16 => intro W; go_simp; done
 case harg16 => try simp only [Act.put, List.setIfInBounds_toArray, List.set_cons_zero, List.set_cons_succ]; exact rfl
 refine pure_ (i := 16) (N := some 60) (v := .pointer (some (be.add (y.toNat * 14)))) (a' := ?axrg17) #[true, true, true, true, true, true, true, true, true, true, true, true, true, true, true, true, true, false, false, false, false, false] rfl rfl (by kernel_rfl) (fun c a w h => hP c a _ _ w h) (Or.inl ⟨by rfl, ?yyrg17⟩) ?harg17 ?hhrg17
 case yyrg17 => intro W; go_simp; done
 case harg17 => try simp only [Act.put, List.setIfInBounds_toArray, List.set_cons_zero, List.set_cons_succ]; exact rfl
 refine take_ (i := 17) (N := some 61) (v := .agg #[.bool q.f0, .int .i64 q.f1.f0, .slice B4 q.f1.f1.length e4, .bool q.f1.f2, .bool q.f1.f3, .slice B5 q.f2.length e5, .int .i64 q.f3.f0, .int .i64 q.f3.f1, .int .i64 q.f3.f2, .int .i64 q.f3.f3, .slice B6 q.f3.f4.length e6, .int .i64 q.f3.f5, .int .i64 q.f3.f6, .int .i64 q.f3.f7]) (a' := ?axrg18) #[true, true, true, true, true, true, true, true, true, true, true, true, true, true, true, true, true, true, false, false, false, false] rfl rfl (by kernel_rfl) (fun c a w h => hP c a _ _ w h) (Or.inl ⟨by rfl, ?yyrg18⟩) hS ?harg18 ?hhrg18
 case yyrg18 => intro W hW; have pz0 := pw_cell_below hW U0_a.out; have pz1 := pw_cell_below hW U1_a.out; have pz2 := pw_cell_below hW U2_a.out; have pz3 := pw_cell_below hW U3_a.out; have pz4 := pw_cell_below hW U4_a.out; have pz5 := pw_cell_below hW U5_a.out; have pz6 := pw_cell_below hW U6_a.out; have pz7 := pw_cell_below hW U7_a.out; have pz8 := pw_cell_below hW U8_a.out; have pz9 := pw_cell_below hW U9_a.out; have pz10 := pw_cell_below hW U10_a.out; have pz11 := pw_cell_below hW U11_a.out; have pz12 := pw_cell_below hW U12_a.out; have pz13 := pw_cell_below hW U13_a.out; go_simp; done
 case harg18 => try simp only [Act.put, List.setIfInBounds_toArray, List.set_cons_zero, List.set_cons_succ]; exact rfl
 refine two_ (i := 18) (j := 19) (Ni := some 7) (Nj := some 8) #[true, true, true, true, true, true, true, true, true, true, true, true, true, true, true, true, true, true, true, false, false, false] #[true, true, true, true, true, true, true, true, true, true, true, true, true, true, true, true, true, true, false, true, false, false] rfl rfl rfl rfl (by kernel_rfl) (by decide) (by decide) (fun K hK => ?_) (fun K hK => ?_)
 ·skip
  refine value_ (w1 := ?_) (v := ?_) (by rfl) rfl ?_ ?_
  rotate_left 2
  ·go_simp
   constructor
   ·rfl
   ·rfl
  refine hK _ _ (below_alloc hS _) (fun hS => ?_)
  clear hK K
  try simp only [Act.put, List.setIfInBounds_toArray, List.set_cons_zero, List.set_cons_succ]
  have HX0 := Aside0.mk (show (World.drew (World.alloc wr (.cells #[.bool false, .int .i64 0, .slice none 0 0, .bool false, .bool false, .slice none 0 0, .int .i64 0, .int .i64 0, .int .i64 0, .int .i64 0, .slice none 0 0, .int .i64 0, .int .i64 0, .int .i64 0] 41))).heap[wr.heap.size]? = some (.cells #[.bool false, .int .i64 0, .slice none 0 0, .bool false, .bool false, .slice none 0 0, .int .i64 0, .int .i64 0, .int .i64 0, .int .i64 0, .slice none 0 0, .int .i64 0, .int .i64 0, .int .i64 0] 41 (0, 0)) from blk_new _ _)
  have HNE0 := Aside0.mk (show wr.heap.size ≠ (wr.heap.size + 1) from by omega)
  refine one_ (i := 19) (N := some 8) #[true, true, true, true, true, true, true, true, true, true, true, true, true, true, true, true, true, true, true, true, false, false] rfl rfl (by kernel_rfl) (by decide) (fun K hK => ?_)
  refine value_ (w1 := ?_) (v := ?_) (by rfl) rfl ?_ ?_
  rotate_left 2
  ·go_simp
   constructor
   ·rfl
   ·rfl
  refine hK _ _ (below_alloc hS _) (fun hS => ?_)
  clear hK K
  try simp only [Act.put, List.setIfInBounds_toArray, List.set_cons_zero, List.set_cons_succ]
  have HY1 := Aside0.mk (show (World.drew (World.alloc (World.alloc wr (.cells #[.bool false, .int .i64 0, .slice none 0 0, .bool false, .bool false, .slice none 0 0, .int .i64 0, .int .i64 0, .int .i64 0, .int .i64 0, .slice none 0 0, .int .i64 0, .int .i64 0, .int .i64 0] 41)) (.cells #[.bool false, .int .i64 0, .slice none 0 0, .bool false, .bool false, .slice none 0 0, .int .i64 0, .int .i64 0, .int .i64 0, .int .i64 0, .slice none 0 0, .int .i64 0, .int .i64 0, .int .i64 0] 41))).heap[(wr.heap.size + 1)]? = some (.cells #[.bool false, .int .i64 0, .slice none 0 0, .bool false, .bool false, .slice none 0 0, .int .i64 0, .int .i64 0, .int .i64 0, .int .i64 0, .slice none 0 0, .int .i64 0, .int .i64 0, .int .i64 0] 41 (0, 0)) from blk_new2 _ _ _)
  have HX1 := Aside0.mk (show (World.drew (World.alloc (World.alloc wr (.cells #[.bool false, .int .i64 0, .slice none 0 0, .bool false, .bool false, .slice none 0 0, .int .i64 0, .int .i64 0, .int .i64 0, .int .i64 0, .slice none 0 0, .int .i64 0, .int .i64 0, .int .i64 0] 41)) (.cells #[.bool false, .int .i64 0, .slice none 0 0, .bool false, .bool false, .slice none 0 0, .int .i64 0, .int .i64 0, .int .i64 0, .int .i64 0, .slice none 0 0, .int .i64 0, .int .i64 0, .int .i64 0] 41))).heap[wr.heap.size]? = some (.cells #[.bool false, .int .i64 0, .slice none 0 0, .bool false, .bool false, .slice none 0 0, .int .i64 0, .int .i64 0, .int .i64 0, .int .i64 0, .slice none 0 0, .int .i64 0, .int .i64 0, .int .i64 0] 41 (0, 0)) from blk_alloc HX0.out _)
  generalize (World.drew (World.alloc (World.alloc wr (.cells #[.bool false, .int .i64 0, .slice none 0 0, .bool false, .bool false, .slice none 0 0, .int .i64 0, .int .i64 0, .int .i64 0, .int .i64 0, .slice none 0 0, .int .i64 0, .int .i64 0, .int .i64 0] 41)) (.cells #[.bool false, .int .i64 0, .slice none 0 0, .bool false, .bool false, .slice none 0 0, .int .i64 0, .int .i64 0, .int .i64 0, .int .i64 0, .slice none 0 0, .int .i64 0, .int .i64 0, .int .i64 0] 41))) = W2_ at HX1 HY1 hS ⊢
  clear HX0
  refine one_ (i := 20) (N := none) #[true, true, true, true, true, true, true, true, true, true, true, true, true, true, true, true, true, true, true, true, true, false] rfl rfl (by kernel_rfl) (by decide) (fun K hK => ?_)
  rw [if_pos (by rfl)]
  refine wp_store_mid _ (.tmp 7) (.tmp 52) rfl (wr.heap.size) 0 #[.bool b.f0, .int .i64 b.f1.f0, .slice A4 b.f1.f1.length c4, .bool b.f1.f2, .bool b.f1.f3, .slice A5 b.f2.length c5, .int .i64 b.f3.f0, .int .i64 b.f3.f1, .int .i64 b.f3.f2, .int .i64 b.f3.f3, .slice A6 b.f3.f4.length c6, .int .i64 b.f3.f5, .int .i64 b.f3.f6, .int .i64 b.f3.f7] (by kernel_rfl) (by kernel_rfl) (there_blk HX1.out 0 14 (Nat.le_refl _)) (by kernel_rfl) (by kernel_rfl) ?_
  have hS' : Below wr.heap.size wr (World.setCells W2_ wr.heap.size 0 (#[.bool b.f0, .int .i64 b.f1.f0, .slice A4 b.f1.f1.length c4, .bool b.f1.f2, .bool b.f1.f3, .slice A5 b.f2.length c5, .int .i64 b.f3.f0, .int .i64 b.f3.f1, .int .i64 b.f3.f2, .int .i64 b.f3.f3, .slice A6 b.f3.f4.length c6, .int .i64 b.f3.f5, .int .i64 b.f3.f6, .int .i64 b.f3.f7] : Array Value).toList) := setL_below hS (by first | exact Nat.le_refl _ | exact Nat.le_succ _) _ _
  have HQ0 : Aside0 ((World.heap (World.setCells W2_ wr.heap.size 0 (#[.bool b.f0, .int .i64 b.f1.f0, .slice A4 b.f1.f1.length c4, .bool b.f1.f2, .bool b.f1.f3, .slice A5 b.f2.length c5, .int .i64 b.f3.f0, .int .i64 b.f3.f1, .int .i64 b.f3.f2, .int .i64 b.f3.f3, .slice A6 b.f3.f4.length c6, .int .i64 b.f3.f5, .int .i64 b.f3.f6, .int .i64 b.f3.f7] : Array Value).toList))[wr.heap.size]? = some (.cells #[.bool b.f0, .int .i64 b.f1.f0, .slice A4 b.f1.f1.length c4, .bool b.f1.f2, .bool b.f1.f3, .slice A5 b.f2.length c5, .int .i64 b.f3.f0, .int .i64 b.f3.f1, .int .i64 b.f3.f2, .int .i64 b.f3.f3, .slice A6 b.f3.f4.length c6, .int .i64 b.f3.f5, .int .i64 b.f3.f6, .int .i64 b.f3.f7] 41 (0, 0))) := ⟨setL_blk _ _ HX1.out (by kernel_rfl)⟩
  have HQ1 : Aside0 ((World.heap (World.setCells W2_ wr.heap.size 0 (#[.bool b.f0, .int .i64 b.f1.f0, .slice A4 b.f1.f1.length c4, .bool b.f1.f2, .bool b.f1.f3, .slice A5 b.f2.length c5, .int .i64 b.f3.f0, .int .i64 b.f3.f1, .int .i64 b.f3.f2, .int .i64 b.f3.f3, .slice A6 b.f3.f4.length c6, .int .i64 b.f3.f5, .int .i64 b.f3.f6, .int .i64 b.f3.f7] : Array Value).toList))[(wr.heap.size + 1)]? = some (.cells #[.bool false, .int .i64 0, .slice none 0 0, .bool false, .bool false, .slice none 0 0, .int .i64 0, .int .i64 0, .int .i64 0, .int .i64 0, .slice none 0 0, .int .i64 0, .int .i64 0, .int .i64 0] 41 (0, 0))) := ⟨setL_far HY1.out (Ne.symm HNE0.out) _ _⟩
  clear hS HX1 HY1
  generalize (World.setCells W2_ wr.heap.size 0 (#[.bool b.f0, .int .i64 b.f1.f0, .slice A4 b.f1.f1.length c4, .bool b.f1.f2, .bool b.f1.f3, .slice A5 b.f2.length c5, .int .i64 b.f3.f0, .int .i64 b.f3.f1, .int .i64 b.f3.f2, .int .i64 b.f3.f3, .slice A6 b.f3.f4.length c6, .int .i64 b.f3.f5, .int .i64 b.f3.f6, .int .i64 b.f3.f7] : Array Value).toList) = W3_ at hS' HQ0 HQ1 ⊢
  have HAo := HQ0
  have HBo := HQ1
  clear HQ0 HQ1
  refine hK _ _ hS' (fun hS => ?_)
  clear hK K hS'
  try simp only [Act.put, List.setIfInBounds_toArray, List.set_cons_zero, List.set_cons_succ]
  refine one_ (i := 21) (N := none) #[true, true, true, true, true, true, true, true, true, true, true, true, true, true, true, true, true, true, true, true, true, true] rfl rfl (by kernel_rfl) (by decide) (fun K hK => ?_)
  rw [if_pos (by rfl)]
  refine wp_store_mid _ (.tmp 8) (.tmp 61) rfl ((wr.heap.size + 1)) 0 #[.bool q.f0, .int .i64 q.f1.f0, .slice B4 q.f1.f1.length e4, .bool q.f1.f2, .bool q.f1.f3, .slice B5 q.f2.length e5, .int .i64 q.f3.f0, .int .i64 q.f3.f1, .int .i64 q.f3.f2, .int .i64 q.f3.f3, .slice B6 q.f3.f4.length e6, .int .i64 q.f3.f5, .int .i64 q.f3.f6, .int .i64 q.f3.f7] (by kernel_rfl) (by kernel_rfl) (there_blk HBo.out 0 14 (Nat.le_refl _)) (by kernel_rfl) (by kernel_rfl) ?_
  have hS' : Below wr.heap.size wr (World.setCells W3_ (wr.heap.size + 1) 0 (#[.bool q.f0, .int .i64 q.f1.f0, .slice B4 q.f1.f1.length e4, .bool q.f1.f2, .bool q.f1.f3, .slice B5 q.f2.length e5, .int .i64 q.f3.f0, .int .i64 q.f3.f1, .int .i64 q.f3.f2, .int .i64 q.f3.f3, .slice B6 q.f3.f4.length e6, .int .i64 q.f3.f5, .int .i64 q.f3.f6, .int .i64 q.f3.f7] : Array Value).toList) := setL_below hS (by first | exact Nat.le_refl _ | exact Nat.le_succ _) _ _
  have HQ0 : Aside0 ((World.heap (World.setCells W3_ (wr.heap.size + 1) 0 (#[.bool q.f0, .int .i64 q.f1.f0, .slice B4 q.f1.f1.length e4, .bool q.f1.f2, .bool q.f1.f3, .slice B5 q.f2.length e5, .int .i64 q.f3.f0, .int .i64 q.f3.f1, .int .i64 q.f3.f2, .int .i64 q.f3.f3, .slice B6 q.f3.f4.length e6, .int .i64 q.f3.f5, .int .i64 q.f3.f6, .int .i64 q.f3.f7] : Array Value).toList))[(wr.heap.size + 1)]? = some (.cells #[.bool q.f0, .int .i64 q.f1.f0, .slice B4 q.f1.f1.length e4, .bool q.f1.f2, .bool q.f1.f3, .slice B5 q.f2.length e5, .int .i64 q.f3.f0, .int .i64 q.f3.f1, .int .i64 q.f3.f2, .int .i64 q.f3.f3, .slice B6 q.f3.f4.length e6, .int .i64 q.f3.f5, .int .i64 q.f3.f6, .int .i64 q.f3.f7] 41 (0, 0))) := ⟨setL_blk _ _ HBo.out (by kernel_rfl)⟩
  have HQ1 : Aside0 ((World.heap (World.setCells W3_ (wr.heap.size + 1) 0 (#[.bool q.f0, .int .i64 q.f1.f0, .slice B4 q.f1.f1.length e4, .bool q.f1.f2, .bool q.f1.f3, .slice B5 q.f2.length e5, .int .i64 q.f3.f0, .int .i64 q.f3.f1, .int .i64 q.f3.f2, .int .i64 q.f3.f3, .slice B6 q.f3.f4.length e6, .int .i64 q.f3.f5, .int .i64 q.f3.f6, .int .i64 q.f3.f7] : Array Value).toList))[wr.heap.size]? = some (.cells #[.bool b.f0, .int .i64 b.f1.f0, .slice A4 b.f1.f1.length c4, .bool b.f1.f2, .bool b.f1.f3, .slice A5 b.f2.length c5, .int .i64 b.f3.f0, .int .i64 b.f3.f1, .int .i64 b.f3.f2, .int .i64 b.f3.f3, .slice A6 b.f3.f4.length c6, .int .i64 b.f3.f5, .int .i64 b.f3.f6, .int .i64 b.f3.f7] 41 (0, 0))) := ⟨setL_far HAo.out HNE0.out _ _⟩
  clear hS HAo HBo
  generalize (World.setCells W3_ (wr.heap.size + 1) 0 (#[.bool q.f0, .int .i64 q.f1.f0, .slice B4 q.f1.f1.length e4, .bool q.f1.f2, .bool q.f1.f3, .slice B5 q.f2.length e5, .int .i64 q.f3.f0, .int .i64 q.f3.f1, .int .i64 q.f3.f2, .int .i64 q.f3.f3, .slice B6 q.f3.f4.length e6, .int .i64 q.f3.f5, .int .i64 q.f3.f6, .int .i64 q.f3.f7] : Array Value).toList) = W4_ at hS' HQ0 HQ1 ⊢
  have HBm := HQ0
  have HAm := HQ1
  clear HQ0 HQ1
  refine hK _ _ hS' (fun hS => ?_)
  clear hK K hS'
  try simp only [Act.put, List.setIfInBounds_toArray, List.set_cons_zero, List.set_cons_succ]
  refine done_ (by kernel_rfl) ?_
  exact HQQ.out wr.heap.size (wr.heap.size + 1) _ hS HAm.out HBm.out
 ·skip
  refine value_ (w1 := ?_) (v := ?_) (by rfl) rfl ?_ ?_
  rotate_left 2
  ·go_simp
   constructor
   ·rfl
   ·rfl
  refine hK _ _ (below_alloc hS _) (fun hS => ?_)
  clear hK K
  try simp only [Act.put, List.setIfInBounds_toArray, List.set_cons_zero, List.set_cons_succ]
  have HX0 := Aside0.mk (show (World.drew (World.alloc wr (.cells #[.bool false, .int .i64 0, .slice none 0 0, .bool false, .bool false, .slice none 0 0, .int .i64 0, .int .i64 0, .int .i64 0, .int .i64 0, .slice none 0 0, .int .i64 0, .int .i64 0, .int .i64 0] 41))).heap[wr.heap.size]? = some (.cells #[.bool false, .int .i64 0, .slice none 0 0, .bool false, .bool false, .slice none 0 0, .int .i64 0, .int .i64 0, .int .i64 0, .int .i64 0, .slice none 0 0, .int .i64 0, .int .i64 0, .int .i64 0] 41 (0, 0)) from blk_new _ _)
  have HNE0 := Aside0.mk (show wr.heap.size ≠ (wr.heap.size + 1) from by omega)
  refine one_ (i := 18) (N := some 7) #[true, true, true, true, true, true, true, true, true, true, true, true, true, true, true, true, true, true, true, true, false, false] rfl rfl (by kernel_rfl) (by decide) (fun K hK => ?_)
  refine value_ (w1 := ?_) (v := ?_) (by rfl) rfl ?_ ?_
  rotate_left 2
  ·go_simp
   constructor
   ·rfl
   ·rfl
  refine hK _ _ (below_alloc hS _) (fun hS => ?_)
  clear hK K
  try simp only [Act.put, List.setIfInBounds_toArray, List.set_cons_zero, List.set_cons_succ]
  have HY1 := Aside0.mk (show (World.drew (World.alloc (World.alloc wr (.cells #[.bool false, .int .i64 0, .slice none 0 0, .bool false, .bool false, .slice none 0 0, .int .i64 0, .int .i64 0, .int .i64 0, .int .i64 0, .slice none 0 0, .int .i64 0, .int .i64 0, .int .i64 0] 41)) (.cells #[.bool false, .int .i64 0, .slice none 0 0, .bool false, .bool false, .slice none 0 0, .int .i64 0, .int .i64 0, .int .i64 0, .int .i64 0, .slice none 0 0, .int .i64 0, .int .i64 0, .int .i64 0] 41))).heap[(wr.heap.size + 1)]? = some (.cells #[.bool false, .int .i64 0, .slice none 0 0, .bool false, .bool false, .slice none 0 0, .int .i64 0, .int .i64 0, .int .i64 0, .int .i64 0, .slice none 0 0, .int .i64 0, .int .i64 0, .int .i64 0] 41 (0, 0)) from blk_new2 _ _ _)
  have HX1 := Aside0.mk (show (World.drew (World.alloc (World.alloc wr (.cells #[.bool false, .int .i64 0, .slice none 0 0, .bool false, .bool false, .slice none 0 0, .int .i64 0, .int .i64 0, .int .i64 0, .int .i64 0, .slice none 0 0, .int .i64 0, .int .i64 0, .int .i64 0] 41)) (.cells #[.bool false, .int .i64 0, .slice none 0 0, .bool false, .bool false, .slice none 0 0, .int .i64 0, .int .i64 0, .int .i64 0, .int .i64 0, .slice none 0 0, .int .i64 0, .int .i64 0, .int .i64 0] 41))).heap[wr.heap.size]? = some (.cells #[.bool false, .int .i64 0, .slice none 0 0, .bool false, .bool false, .slice none 0 0, .int .i64 0, .int .i64 0, .int .i64 0, .int .i64 0, .slice none 0 0, .int .i64 0, .int .i64 0, .int .i64 0] 41 (0, 0)) from blk_alloc HX0.out _)
  generalize (World.drew (World.alloc (World.alloc wr (.cells #[.bool false, .int .i64 0, .slice none 0 0, .bool false, .bool false, .slice none 0 0, .int .i64 0, .int .i64 0, .int .i64 0, .int .i64 0, .slice none 0 0, .int .i64 0, .int .i64 0, .int .i64 0] 41)) (.cells #[.bool false, .int .i64 0, .slice none 0 0, .bool false, .bool false, .slice none 0 0, .int .i64 0, .int .i64 0, .int .i64 0, .int .i64 0, .slice none 0 0, .int .i64 0, .int .i64 0, .int .i64 0] 41))) = W2_ at HX1 HY1 hS ⊢
  clear HX0
  refine one_ (i := 20) (N := none) #[true, true, true, true, true, true, true, true, true, true, true, true, true, true, true, true, true, true, true, true, true, false] rfl rfl (by kernel_rfl) (by decide) (fun K hK => ?_)
  rw [if_pos (by rfl)]
  refine wp_store_mid _ (.tmp 7) (.tmp 52) rfl ((wr.heap.size + 1)) 0 #[.bool b.f0, .int .i64 b.f1.f0, .slice A4 b.f1.f1.length c4, .bool b.f1.f2, .bool b.f1.f3, .slice A5 b.f2.length c5, .int .i64 b.f3.f0, .int .i64 b.f3.f1, .int .i64 b.f3.f2, .int .i64 b.f3.f3, .slice A6 b.f3.f4.length c6, .int .i64 b.f3.f5, .int .i64 b.f3.f6, .int .i64 b.f3.f7] (by kernel_rfl) (by kernel_rfl) (there_blk HY1.out 0 14 (Nat.le_refl _)) (by kernel_rfl) (by kernel_rfl) ?_
  have hS' : Below wr.heap.size wr (World.setCells W2_ (wr.heap.size + 1) 0 (#[.bool b.f0, .int .i64 b.f1.f0, .slice A4 b.f1.f1.length c4, .bool b.f1.f2, .bool b.f1.f3, .slice A5 b.f2.length c5, .int .i64 b.f3.f0, .int .i64 b.f3.f1, .int .i64 b.f3.f2, .int .i64 b.f3.f3, .slice A6 b.f3.f4.length c6, .int .i64 b.f3.f5, .int .i64 b.f3.f6, .int .i64 b.f3.f7] : Array Value).toList) := setL_below hS (by first | exact Nat.le_refl _ | exact Nat.le_succ _) _ _
  have HQ0 : Aside0 ((World.heap (World.setCells W2_ (wr.heap.size + 1) 0 (#[.bool b.f0, .int .i64 b.f1.f0, .slice A4 b.f1.f1.length c4, .bool b.f1.f2, .bool b.f1.f3, .slice A5 b.f2.length c5, .int .i64 b.f3.f0, .int .i64 b.f3.f1, .int .i64 b.f3.f2, .int .i64 b.f3.f3, .slice A6 b.f3.f4.length c6, .int .i64 b.f3.f5, .int .i64 b.f3.f6, .int .i64 b.f3.f7] : Array Value).toList))[(wr.heap.size + 1)]? = some (.cells #[.bool b.f0, .int .i64 b.f1.f0, .slice A4 b.f1.f1.length c4, .bool b.f1.f2, .bool b.f1.f3, .slice A5 b.f2.length c5, .int .i64 b.f3.f0, .int .i64 b.f3.f1, .int .i64 b.f3.f2, .int .i64 b.f3.f3, .slice A6 b.f3.f4.length c6, .int .i64 b.f3.f5, .int .i64 b.f3.f6, .int .i64 b.f3.f7] 41 (0, 0))) := ⟨setL_blk _ _ HY1.out (by kernel_rfl)⟩
  have HQ1 : Aside0 ((World.heap (World.setCells W2_ (wr.heap.size + 1) 0 (#[.bool b.f0, .int .i64 b.f1.f0, .slice A4 b.f1.f1.length c4, .bool b.f1.f2, .bool b.f1.f3, .slice A5 b.f2.length c5, .int .i64 b.f3.f0, .int .i64 b.f3.f1, .int .i64 b.f3.f2, .int .i64 b.f3.f3, .slice A6 b.f3.f4.length c6, .int .i64 b.f3.f5, .int .i64 b.f3.f6, .int .i64 b.f3.f7] : Array Value).toList))[wr.heap.size]? = some (.cells #[.bool false, .int .i64 0, .slice none 0 0, .bool false, .bool false, .slice none 0 0, .int .i64 0, .int .i64 0, .int .i64 0, .int .i64 0, .slice none 0 0, .int .i64 0, .int .i64 0, .int .i64 0] 41 (0, 0))) := ⟨setL_far HX1.out (Ne.symm (Ne.symm HNE0.out)) _ _⟩
  clear hS HY1 HX1
  generalize (World.setCells W2_ (wr.heap.size + 1) 0 (#[.bool b.f0, .int .i64 b.f1.f0, .slice A4 b.f1.f1.length c4, .bool b.f1.f2, .bool b.f1.f3, .slice A5 b.f2.length c5, .int .i64 b.f3.f0, .int .i64 b.f3.f1, .int .i64 b.f3.f2, .int .i64 b.f3.f3, .slice A6 b.f3.f4.length c6, .int .i64 b.f3.f5, .int .i64 b.f3.f6, .int .i64 b.f3.f7] : Array Value).toList) = W3_ at hS' HQ0 HQ1 ⊢
  have HAo := HQ0
  have HBo := HQ1
  clear HQ0 HQ1
  refine hK _ _ hS' (fun hS => ?_)
  clear hK K hS'
  try simp only [Act.put, List.setIfInBounds_toArray, List.set_cons_zero, List.set_cons_succ]
  refine one_ (i := 21) (N := none) #[true, true, true, true, true, true, true, true, true, true, true, true, true, true, true, true, true, true, true, true, true, true] rfl rfl (by kernel_rfl) (by decide) (fun K hK => ?_)
  rw [if_pos (by rfl)]
  refine wp_store_mid _ (.tmp 8) (.tmp 61) rfl (wr.heap.size) 0 #[.bool q.f0, .int .i64 q.f1.f0, .slice B4 q.f1.f1.length e4, .bool q.f1.f2, .bool q.f1.f3, .slice B5 q.f2.length e5, .int .i64 q.f3.f0, .int .i64 q.f3.f1, .int .i64 q.f3.f2, .int .i64 q.f3.f3, .slice B6 q.f3.f4.length e6, .int .i64 q.f3.f5, .int .i64 q.f3.f6, .int .i64 q.f3.f7] (by kernel_rfl) (by kernel_rfl) (there_blk HBo.out 0 14 (Nat.le_refl _)) (by kernel_rfl) (by kernel_rfl) ?_
  have hS' : Below wr.heap.size wr (World.setCells W3_ wr.heap.size 0 (#[.bool q.f0, .int .i64 q.f1.f0, .slice B4 q.f1.f1.length e4, .bool q.f1.f2, .bool q.f1.f3, .slice B5 q.f2.length e5, .int .i64 q.f3.f0, .int .i64 q.f3.f1, .int .i64 q.f3.f2, .int .i64 q.f3.f3, .slice B6 q.f3.f4.length e6, .int .i64 q.f3.f5, .int .i64 q.f3.f6, .int .i64 q.f3.f7] : Array Value).toList) := setL_below hS (by first | exact Nat.le_refl _ | exact Nat.le_succ _) _ _
  have HQ0 : Aside0 ((World.heap (World.setCells W3_ wr.heap.size 0 (#[.bool q.f0, .int .i64 q.f1.f0, .slice B4 q.f1.f1.length e4, .bool q.f1.f2, .bool q.f1.f3, .slice B5 q.f2.length e5, .int .i64 q.f3.f0, .int .i64 q.f3.f1, .int .i64 q.f3.f2, .int .i64 q.f3.f3, .slice B6 q.f3.f4.length e6, .int .i64 q.f3.f5, .int .i64 q.f3.f6, .int .i64 q.f3.f7] : Array Value).toList))[wr.heap.size]? = some (.cells #[.bool q.f0, .int .i64 q.f1.f0, .slice B4 q.f1.f1.length e4, .bool q.f1.f2, .bool q.f1.f3, .slice B5 q.f2.length e5, .int .i64 q.f3.f0, .int .i64 q.f3.f1, .int .i64 q.f3.f2, .int .i64 q.f3.f3, .slice B6 q.f3.f4.length e6, .int .i64 q.f3.f5, .int .i64 q.f3.f6, .int .i64 q.f3.f7] 41 (0, 0))) := ⟨setL_blk _ _ HBo.out (by kernel_rfl)⟩
  have HQ1 : Aside0 ((World.heap (World.setCells W3_ wr.heap.size 0 (#[.bool q.f0, .int .i64 q.f1.f0, .slice B4 q.f1.f1.length e4, .bool q.f1.f2, .bool q.f1.f3, .slice B5 q.f2.length e5, .int .i64 q.f3.f0, .int .i64 q.f3.f1, .int .i64 q.f3.f2, .int .i64 q.f3.f3, .slice B6 q.f3.f4.length e6, .int .i64 q.f3.f5, .int .i64 q.f3.f6, .int .i64 q.f3.f7] : Array Value).toList))[(wr.heap.size + 1)]? = some (.cells #[.bool b.f0, .int .i64 b.f1.f0, .slice A4 b.f1.f1.length c4, .bool b.f1.f2, .bool b.f1.f3, .slice A5 b.f2.length c5, .int .i64 b.f3.f0, .int .i64 b.f3.f1, .int .i64 b.f3.f2, .int .i64 b.f3.f3, .slice A6 b.f3.f4.length c6, .int .i64 b.f3.f5, .int .i64 b.f3.f6, .int .i64 b.f3.f7] 41 (0, 0))) := ⟨setL_far HAo.out (Ne.symm HNE0.out) _ _⟩
  clear hS HAo HBo
  generalize (World.setCells W3_ wr.heap.size 0 (#[.bool q.f0, .int .i64 q.f1.f0, .slice B4 q.f1.f1.length e4, .bool q.f1.f2, .bool q.f1.f3, .slice B5 q.f2.length e5, .int .i64 q.f3.f0, .int .i64 q.f3.f1, .int .i64 q.f3.f2, .int .i64 q.f3.f3, .slice B6 q.f3.f4.length e6, .int .i64 q.f3.f5, .int .i64 q.f3.f6, .int .i64 q.f3.f7] : Array Value).toList) = W4_ at hS' HQ0 HQ1 ⊢
  have HBm := HQ0
  have HAm := HQ1
  clear HQ0 HQ1
  refine hK _ _ hS' (fun hS => ?_)
  clear hK K hS'
  try simp only [Act.put, List.setIfInBounds_toArray, List.set_cons_zero, List.set_cons_succ]
  refine done_ (by kernel_rfl) ?_
  exact HQQ.out (wr.heap.size + 1) wr.heap.size _ hS HAm.out HBm.out
end Go.Proofs.Ytbfialebaoeicaa.X
