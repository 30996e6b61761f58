/- Part 24 of the proof of the statement ShapeCopies: the words of the walks, the walks through the functions that it reaches, and the plain laws of what they compute. -/
import Derived.Test.YtbfialebaoeicaaMShapeCopies22
import Derived.RegionTactic
import Derived.ChangeAlike
import Derived.Deep.QuietTactic
import Derived.BigQuiet
import Derived.Deep.MidRow
namespace Go.Proofs.Ytbfialebaoeicaa.X
open Go.RowKit Go.Proofs.YtbfialebaoeicaaW.PrintWords Go.Proofs.YtbfialebaoeicaaW.PrintLast Go.Proofs.YtbfialebaoeicaaW.PrintMore
set_option linter.all false
theorem ss_c (a : List S27) (A : Option Addr) (c : Nat) (A' : Option Addr) (c' : Nat) (W : World) (h : Kd.C k27 W A a.length a) (h' : Kd.C k27 W A' a.length a) (hb : Bnd a) : Calls Try.prog 25 #[.agg #[.slice A a.length c], .agg #[.slice A' a.length c']] W fun e w' => e = .returned (.bool true) ∧ Below W.heap.size W w' := by
 have h2 := same_c a A c a A' c' W h h' hb
 rw [eqL_refl funcE_refl] at h2
 exact h2
theorem rs_c (a : List S27) (A : Option Addr) (c : Nat) (A' : Option Addr) (c' : Nat) (W : World) (h : Kd.C k27 W A a.length a) (h' : Kd.C k27 W A' a.length a) (hb : Bnd a) : Calls Try.prog 26 #[.agg #[.slice A a.length c], .agg #[.slice A' a.length c']] W fun e w' => e = .returned (.bool true) ∧ Below W.heap.size W w' := by
 have h2 := rsame_c a A c a A' c' W h h' hb
 rw [eqL_refl funcE_refl] at h2
 exact h2
set_option maxHeartbeats 16000000 in
set_option maxRecDepth 100000 in
theorem r6c {s0 s1 s2 s5 s6 s8 s9 s10 s11 s12 s13 s14 s15 s16 s17 s18 s19 s20 s21 s22 s23 s24 s25 s26 s27 s28 s29 s30 s31 s32 s33 s34 s35 s36 s37 s38 s39 s40 s41 s42 s43 s44 s45 s46 s47 s48 s49 s50 s51 s52 s53 s54 s55 s56 s57 s58 s59 s60 s61 s62 s63 s64 s65 s66 s67 s68 s69 s70 s71 s72 s73 s74 s75 s76 s77 s78 s79 s80 s81 s82 s83 s84 s85 s86 s87 s88 s89 s90 s91 s92 s93 s94 s95 s96 s97 s98 s99 s100 s101 s102 s103 s104 s105 s106 s107 s108 s109 s110 s111 s112 s113 s114 s115 s116 s117 s118 s119 s120 s121 s122 s123 s124 s125 s126 s127 s128 s129 s130 s131 s132 s133 s134 s135 s136 s137 s138 s139 s140 s141 s142 s143 s144 s145 s146 s147 : Value} {Q : Exit → Act → World → Prop} (a : List S27) (A0 : Option Addr) (c0 : Nat) (b : List S27) (B0 : Option Addr) (e0 : Nat) (D1 : Option Addr) (k1 g3 g4 g7 : Nat) (wr : World) (ha : Kd.C k27 wr A0 a.length a) (hb : Kd.C k27 wr B0 b.length b) (hc : Kd.C k27 wr D1 a.length a) (hn : Bnd a) (h3 : wr.heap[g3]? = some (.cells #[.slice A0 a.length c0] 24 (0, 0))) (h4 : wr.heap[g4]? = some (.cells #[.slice B0 b.length e0] 24 (0, 0))) (h7 : wr.heap[g7]? = some (.cells #[.slice D1 a.length k1] 24 (0, 0)))
  (hP : ∀ c (a : Act) (N : Option Tmp) (v : Value) w, Q (.panic c) (a.put N v) w → Q (.panic c) a w)
  (hQ : ∀ (W : World), Below wr.heap.size wr W → Q .normal { tmps := #[s0, s1, s2, .pointer (some ⟨g3, 0, none⟩), .pointer (some ⟨g4, 0, none⟩), s5, s6, .pointer (some ⟨g7, 0, none⟩), s8, s9, s10, s11, s12, s13, s14, s15, s16, s17, s18, s19, s20, s21, s22, s23, s24, .agg #[.slice A0 a.length c0], .agg #[.slice B0 b.length e0], .bool (eqL funcE a b), .agg #[.slice A0 a.length c0], .agg #[.slice B0 b.length e0], .bool (eqL funcE a b), .bool false, .bool false, .agg #[.slice D1 a.length k1], .agg #[.slice A0 a.length c0], .bool true, .bool false, .bool false, .bool false, .agg #[.slice D1 a.length k1], .agg #[.slice A0 a.length c0], .bool true, .bool false, .bool false, s44, s45, s46, s47, s48, s49, s50, s51, s52, s53, s54, s55, s56, s57, s58, s59, s60, s61, s62, s63, s64, s65, s66, s67, s68, s69, s70, s71, s72, s73, s74, s75, s76, s77, s78, s79, s80, s81, s82, s83, s84, s85, s86, s87, s88, s89, s90, s91, s92, s93, s94, s95, s96, s97, s98, s99, s100, s101, s102, s103, s104, s105, s106, s107, s108, s109, s110, s111, s112, s113, s114, s115, s116, s117, s118, s119, s120, s121, s122, s123, s124, s125, s126, s127, s128, s129, s130, s131, s132, s133, s134, s135, s136, s137, s138, s139, s140, s141, s142, s143, s144, s145, s146, s147], defers := [] } W) :
  (Code.region 6 (opsOf Try.f4 6) true).wp Try.prog Q { tmps := #[s0, s1, s2, .pointer (some ⟨g3, 0, none⟩), .pointer (some ⟨g4, 0, none⟩), s5, s6, .pointer (some ⟨g7, 0, none⟩), s8, s9, s10, s11, s12, s13, s14, s15, s16, s17, s18, s19, s20, s21, s22, s23, s24, s25, s26, s27, s28, s29, s30, s31, s32, s33, s34, s35, s36, s37, s38, s39, s40, s41, s42, s43, s44, s45, s46, s47, s48, s49, s50, s51, s52, s53, s54, s55, s56, s57, s58, s59, s60, s61, s62, s63, s64, s65, s66, s67, s68, s69, s70, s71, s72, s73, s74, s75, s76, s77, s78, s79, s80, s81, s82, s83, s84, s85, s86, s87, s88, s89, s90, s91, s92, s93, s94, s95, s96, s97, s98, s99, s100, s101, s102, s103, s104, s105, s106, s107, s108, s109, s110, s111, s112, s113, s114, s115, s116, s117, s118, s119, s120, s121, s122, s123, s124, s125, s126, s127, s128, s129, s130, s131, s132, s133, s134, s135, s136, s137, s138, s139, s140, s141, s142, s143, s144, s145, s146, s147], defers := [] } wr := by
 have HQQ := Aside0.mk hQ
 have HA := Aside0.mk ha
 have HB := Aside0.mk hb
 have HC := Aside0.mk hc
 have HN := Aside0.mk hn
 have H3 := Aside0.mk h3
 have H4 := Aside0.mk h4
 have H7 := Aside0.mk h7
 clear ha hb hc hn h3 h4 h7 hQ
 have hu24 := Try.underlying24
 have hu27 := Try.underlying27
 have hu41 := Try.underlying41
 conv in opsOf _ _ => whnf
 refine start_ (S := (fun W : World => Below wr.heap.size wr W)) (ds := []) #[bF,bF,bF,bF,bF,bF,bF,bF,bF,bF,bF,bF,bF,bF,bF,bF,bF,bF,bF] (by kernel_rfl) (by rfl) (by rfl) (below_drew (Below.refl _ _)) (fun hS => ?_)
 refine take_ (i := 0) (N := some 25) (v := .agg #[.slice A0 a.length c0]) (a' := ?axca1) #[bT,bF,bF,bF,bF,bF,bF,bF,bF,bF,bF,bF,bF,bF,bF,bF,bF,bF,bF] rfl rfl (by kernel_rfl) (fun c a w h => hP c a _ _ w h) (Or.inl ⟨by rfl, ?yyca1⟩) hS ?haca1 ?hhca1
 case yyca1 => intro W hW; have m0 := (blk_cell (blk_below H3.out hW) 0).trans rfl; have n0 := (blk_cell (blk_below H4.out hW) 0).trans rfl; have p0 := (blk_cell (blk_below H7.out hW) 0).trans rfl; go_simp; done
 case haca1 => try simp only [Act.put, sA_, sZ_, sS_]; exact rfl
 refine take_ (i := 1) (N := some 26) (v := .agg #[.slice B0 b.length e0]) (a' := ?axca2) #[bT,bT,bF,bF,bF,bF,bF,bF,bF,bF,bF,bF,bF,bF,bF,bF,bF,bF,bF] rfl rfl (by kernel_rfl) (fun c a w h => hP c a _ _ w h) (Or.inl ⟨by rfl, ?yyca2⟩) hS ?haca2 ?hhca2
 case yyca2 => intro W hW; have m0 := (blk_cell (blk_below H3.out hW) 0).trans rfl; have n0 := (blk_cell (blk_below H4.out hW) 0).trans rfl; have p0 := (blk_cell (blk_below H7.out hW) 0).trans rfl; go_simp; done
 case haca2 => try simp only [Act.put, sA_, sZ_, sS_]; exact rfl
 refine take_ (i := 3) (N := some 28) (v := .agg #[.slice A0 a.length c0]) (a' := ?axca3) #[bT,bT,bF,bT,bF,bF,bF,bF,bF,bF,bF,bF,bF,bF,bF,bF,bF,bF,bF] rfl rfl (by kernel_rfl) (fun c a w h => hP c a _ _ w h) (Or.inl ⟨by rfl, ?yyca3⟩) hS ?haca3 ?hhca3
 case yyca3 => intro W hW; have m0 := (blk_cell (blk_below H3.out hW) 0).trans rfl; have n0 := (blk_cell (blk_below H4.out hW) 0).trans rfl; have p0 := (blk_cell (blk_below H7.out hW) 0).trans rfl; go_simp; done
 case haca3 => try simp only [Act.put, sA_, sZ_, sS_]; exact rfl
 refine take_ (i := 4) (N := some 29) (v := .agg #[.slice B0 b.length e0]) (a' := ?axca4) #[bT,bT,bF,bT,bT,bF,bF,bF,bF,bF,bF,bF,bF,bF,bF,bF,bF,bF,bF] rfl rfl (by kernel_rfl) (fun c a w h => hP c a _ _ w h) (Or.inl ⟨by rfl, ?yyca4⟩) hS ?haca4 ?hhca4
 case yyca4 => intro W hW; have m0 := (blk_cell (blk_below H3.out hW) 0).trans rfl; have n0 := (blk_cell (blk_below H4.out hW) 0).trans rfl; have p0 := (blk_cell (blk_below H7.out hW) 0).trans rfl; go_simp; done
 case haca4 => try simp only [Act.put, sA_, sZ_, sS_]; exact rfl
 refine one_ (i := 2) (N := some 27) #[bT,bT,bT,bT,bT,bF,bF,bF,bF,bF,bF,bF,bF,bF,bF,bF,bF,bF,bF] rfl rfl (by kernel_rfl) (by decide) (fun K hK => ?_)
 refine goes_ Try.func25 (by kernel_rfl) rfl #[.agg #[.slice A0 a.length c0], .agg #[.slice B0 b.length e0]] (by rfl) rfl rfl (by simp only [List.map_toArray, List.map_cons, List.map_nil]; rfl) ?_
 refine (same_c a A0 c0 b B0 e0 _ (Kd.C_below HA.out hS) (Kd.C_below HB.out hS) HN.out).mono ?_
 rintro e w7 ⟨rfl, hb⟩
 refine ⟨_, rfl, ?_⟩
 have hS' := hS.trans (hb.mono hS.size)
 clear hb
 refine hK _ _ hS' (fun hS => ?_)
 clear hK K
 try simp only [Act.put, sA_, sZ_, sS_]
 refine one_ (i := 5) (N := some 30) #[bT,bT,bT,bT,bT,bT,bF,bF,bF,bF,bF,bF,bF,bF,bF,bF,bF,bF,bF] rfl rfl (by kernel_rfl) (by decide) (fun K hK => ?_)
 refine goes_ Try.func26 (by kernel_rfl) rfl #[.agg #[.slice A0 a.length c0], .agg #[.slice B0 b.length e0]] (by rfl) rfl rfl (by simp only [List.map_toArray, List.map_cons, List.map_nil]; rfl) ?_
 refine (rsame_c a A0 c0 b B0 e0 _ (Kd.C_below HA.out hS) (Kd.C_below HB.out hS) HN.out).mono ?_
 rintro e w7 ⟨rfl, hb⟩
 refine ⟨_, rfl, ?_⟩
 have hS' := hS.trans (hb.mono hS.size)
 clear hb
 refine hK _ _ hS' (fun hS => ?_)
 clear hK K
 try simp only [Act.put, sA_, sZ_, sS_]
 refine take_ (i := 6) (N := some 31) (v := .bool false) (a' := ?axca5) #[bT,bT,bT,bT,bT,bT,bT,bF,bF,bF,bF,bF,bF,bF,bF,bF,bF,bF,bF] rfl rfl (by kernel_rfl) (fun c a w h => hP c a _ _ w h) (Or.inl ⟨by rfl, ?yyca5⟩) hS ?haca5 ?hhca5
 case yyca5 => intro W hW; have m0 := (blk_cell (blk_below H3.out hW) 0).trans rfl; have n0 := (blk_cell (blk_below H4.out hW) 0).trans rfl; have p0 := (blk_cell (blk_below H7.out hW) 0).trans rfl; go_simp; done
 case haca5 => try simp only [Act.put, sA_, sZ_, sS_]; exact rfl
 refine take_ (i := 7) (N := some 32) (v := .bool false) (a' := ?axca6) #[bT,bT,bT,bT,bT,bT,bT,bT,bF,bF,bF,bF,bF,bF,bF,bF,bF,bF,bF] rfl rfl (by kernel_rfl) (fun c a w h => hP c a _ _ w h) (Or.inl ⟨by rfl, ?yyca6⟩) hS ?haca6 ?hhca6
 case yyca6 => intro W hW; have m0 := (blk_cell (blk_below H3.out hW) 0).trans rfl; have n0 := (blk_cell (blk_below H4.out hW) 0).trans rfl; have p0 := (blk_cell (blk_below H7.out hW) 0).trans rfl; go_simp; done
 case haca6 => try simp only [Act.put, sA_, sZ_, sS_]; exact rfl
 refine take_ (i := 8) (N := some 33) (v := .agg #[.slice D1 a.length k1]) (a' := ?axca7) #[bT,bT,bT,bT,bT,bT,bT,bT,bT,bF,bF,bF,bF,bF,bF,bF,bF,bF,bF] rfl rfl (by kernel_rfl) (fun c a w h => hP c a _ _ w h) (Or.inl ⟨by rfl, ?yyca7⟩) hS ?haca7 ?hhca7
 case yyca7 => intro W hW; have m0 := (blk_cell (blk_below H3.out hW) 0).trans rfl; have n0 := (blk_cell (blk_below H4.out hW) 0).trans rfl; have p0 := (blk_cell (blk_below H7.out hW) 0).trans rfl; go_simp; done
 case haca7 => try simp only [Act.put, sA_, sZ_, sS_]; exact rfl
 refine take_ (i := 9) (N := some 34) (v := .agg #[.slice A0 a.length c0]) (a' := ?axca8) #[bT,bT,bT,bT,bT,bT,bT,bT,bT,bT,bF,bF,bF,bF,bF,bF,bF,bF,bF] rfl rfl (by kernel_rfl) (fun c a w h => hP c a _ _ w h) (Or.inl ⟨by rfl, ?yyca8⟩) hS ?haca8 ?hhca8
 case yyca8 => intro W hW; have m0 := (blk_cell (blk_below H3.out hW) 0).trans rfl; have n0 := (blk_cell (blk_below H4.out hW) 0).trans rfl; have p0 := (blk_cell (blk_below H7.out hW) 0).trans rfl; go_simp; done
 case haca8 => try simp only [Act.put, sA_, sZ_, sS_]; exact rfl
 refine one_ (i := 10) (N := some 35) #[bT,bT,bT,bT,bT,bT,bT,bT,bT,bT,bT,bF,bF,bF,bF,bF,bF,bF,bF] rfl rfl (by kernel_rfl) (by decide) (fun K hK => ?_)
 refine goes_ Try.func26 (by kernel_rfl) rfl #[.agg #[.slice D1 a.length k1], .agg #[.slice A0 a.length c0]] (by rfl) rfl rfl (by simp only [List.map_toArray, List.map_cons, List.map_nil]; rfl) ?_
 refine (rs_c a D1 k1 A0 c0 _ (Kd.C_below HC.out hS) (Kd.C_below HA.out hS) HN.out).mono ?_
 rintro e w7 ⟨rfl, hb⟩
 refine ⟨_, rfl, ?_⟩
 have hS' := hS.trans (hb.mono hS.size)
 clear hb
 refine hK _ _ hS' (fun hS => ?_)
 clear hK K
 try simp only [Act.put, sA_, sZ_, sS_]
 refine take_ (i := 11) (N := some 36) (v := .bool false) (a' := ?axca9) #[bT,bT,bT,bT,bT,bT,bT,bT,bT,bT,bT,bT,bF,bF,bF,bF,bF,bF,bF] rfl rfl (by kernel_rfl) (fun c a w h => hP c a _ _ w h) (Or.inl ⟨by rfl, ?yyca9⟩) hS ?haca9 ?hhca9
 case yyca9 => intro W hW; have m0 := (blk_cell (blk_below H3.out hW) 0).trans rfl; have n0 := (blk_cell (blk_below H4.out hW) 0).trans rfl; have p0 := (blk_cell (blk_below H7.out hW) 0).trans rfl; go_simp; done
 case haca9 => try simp only [Act.put, sA_, sZ_, sS_]; exact rfl
 refine take_ (i := 12) (N := some 37) (v := .bool false) (a' := ?axca10) #[bT,bT,bT,bT,bT,bT,bT,bT,bT,bT,bT,bT,bT,bF,bF,bF,bF,bF,bF] rfl rfl (by kernel_rfl) (fun c a w h => hP c a _ _ w h) (Or.inl ⟨by rfl, ?yyca10⟩) hS ?haca10 ?hhca10
 case yyca10 => intro W hW; have m0 := (blk_cell (blk_below H3.out hW) 0).trans rfl; have n0 := (blk_cell (blk_below H4.out hW) 0).trans rfl; have p0 := (blk_cell (blk_below H7.out hW) 0).trans rfl; go_simp; done
 case haca10 => try simp only [Act.put, sA_, sZ_, sS_]; exact rfl
 refine take_ (i := 13) (N := some 38) (v := .bool false) (a' := ?axca11) #[bT,bT,bT,bT,bT,bT,bT,bT,bT,bT,bT,bT,bT,bT,bF,bF,bF,bF,bF] rfl rfl (by kernel_rfl) (fun c a w h => hP c a _ _ w h) (Or.inl ⟨by rfl, ?yyca11⟩) hS ?haca11 ?hhca11
 case yyca11 => intro W hW; have m0 := (blk_cell (blk_below H3.out hW) 0).trans rfl; have n0 := (blk_cell (blk_below H4.out hW) 0).trans rfl; have p0 := (blk_cell (blk_below H7.out hW) 0).trans rfl; go_simp; done
 case haca11 => try simp only [Act.put, sA_, sZ_, sS_]; exact rfl
 refine take_ (i := 14) (N := some 39) (v := .agg #[.slice D1 a.length k1]) (a' := ?axca12) #[bT,bT,bT,bT,bT,bT,bT,bT,bT,bT,bT,bT,bT,bT,bT,bF,bF,bF,bF] rfl rfl (by kernel_rfl) (fun c a w h => hP c a _ _ w h) (Or.inl ⟨by rfl, ?yyca12⟩) hS ?haca12 ?hhca12
 case yyca12 => intro W hW; have m0 := (blk_cell (blk_below H3.out hW) 0).trans rfl; have n0 := (blk_cell (blk_below H4.out hW) 0).trans rfl; have p0 := (blk_cell (blk_below H7.out hW) 0).trans rfl; go_simp; done
 case haca12 => try simp only [Act.put, sA_, sZ_, sS_]; exact rfl
 refine take_ (i := 15) (N := some 40) (v := .agg #[.slice A0 a.length c0]) (a' := ?axca13) #[bT,bT,bT,bT,bT,bT,bT,bT,bT,bT,bT,bT,bT,bT,bT,bT,bF,bF,bF] rfl rfl (by kernel_rfl) (fun c a w h => hP c a _ _ w h) (Or.inl ⟨by rfl, ?yyca13⟩) hS ?haca13 ?hhca13
 case yyca13 => intro W hW; have m0 := (blk_cell (blk_below H3.out hW) 0).trans rfl; have n0 := (blk_cell (blk_below H4.out hW) 0).trans rfl; have p0 := (blk_cell (blk_below H7.out hW) 0).trans rfl; go_simp; done
 case haca13 => try simp only [Act.put, sA_, sZ_, sS_]; exact rfl
 refine one_ (i := 16) (N := some 41) #[bT,bT,bT,bT,bT,bT,bT,bT,bT,bT,bT,bT,bT,bT,bT,bT,bT,bF,bF] rfl rfl (by kernel_rfl) (by decide) (fun K hK => ?_)
 refine goes_ Try.func25 (by kernel_rfl) rfl #[.agg #[.slice D1 a.length k1], .agg #[.slice A0 a.length c0]] (by rfl) rfl rfl (by simp only [List.map_toArray, List.map_cons, List.map_nil]; rfl) ?_
 refine (ss_c a D1 k1 A0 c0 _ (Kd.C_below HC.out hS) (Kd.C_below HA.out hS) HN.out).mono ?_
 rintro e w7 ⟨rfl, hb⟩
 refine ⟨_, rfl, ?_⟩
 have hS' := hS.trans (hb.mono hS.size)
 clear hb
 refine hK _ _ hS' (fun hS => ?_)
 clear hK K
 try simp only [Act.put, sA_, sZ_, sS_]
 refine take_ (i := 17) (N := some 42) (v := .bool false) (a' := ?axca14) #[bT,bT,bT,bT,bT,bT,bT,bT,bT,bT,bT,bT,bT,bT,bT,bT,bT,bT,bF] rfl rfl (by kernel_rfl) (fun c a w h => hP c a _ _ w h) (Or.inl ⟨by rfl, ?yyca14⟩) hS ?haca14 ?hhca14
 case yyca14 => intro W hW; have m0 := (blk_cell (blk_below H3.out hW) 0).trans rfl; have n0 := (blk_cell (blk_below H4.out hW) 0).trans rfl; have p0 := (blk_cell (blk_below H7.out hW) 0).trans rfl; go_simp; done
 case haca14 => try simp only [Act.put, sA_, sZ_, sS_]; exact rfl
 refine take_ (i := 18) (N := some 43) (v := .bool false) (a' := ?axca15) #[bT,bT,bT,bT,bT,bT,bT,bT,bT,bT,bT,bT,bT,bT,bT,bT,bT,bT,bT] rfl rfl (by kernel_rfl) (fun c a w h => hP c a _ _ w h) (Or.inl ⟨by rfl, ?yyca15⟩) hS ?haca15 ?hhca15
 case yyca15 => intro W hW; have m0 := (blk_cell (blk_below H3.out hW) 0).trans rfl; have n0 := (blk_cell (blk_below H4.out hW) 0).trans rfl; have p0 := (blk_cell (blk_below H7.out hW) 0).trans rfl; go_simp; done
 case haca15 => try simp only [Act.put, sA_, sZ_, sS_]; exact rfl
 refine done_ (by kernel_rfl) ?_
 exact HQQ.out _ hS
end Go.Proofs.Ytbfialebaoeicaa.X
namespace Go.Proofs.Ytbfialebaoeicaa.X
open Go.RowKit Go.Proofs.YtbfialebaoeicaaW.PrintWords Go.Proofs.YtbfialebaoeicaaW.PrintLast Go.Proofs.YtbfialebaoeicaaW.PrintMore
set_option linter.all false
set_option maxHeartbeats 16000000 in
set_option maxRecDepth 100000 in
theorem r10c {s0 s1 s3 s4 s5 s6 s8 s9 s10 s11 s12 s13 s14 s15 s16 s17 s18 s19 s20 s21 s22 s23 s24 s25 s26 s27 s28 s29 s30 s31 s32 s33 s34 s35 s36 s37 s38 s39 s40 s41 s42 s43 s44 s45 s46 s47 s48 s49 s50 s51 s52 s53 s54 s55 s56 s57 s58 s59 s60 s61 s62 s63 s64 s65 s66 s67 s68 s69 s70 s71 s72 s73 s74 s75 s76 s77 s78 s79 s80 s81 s82 s83 s84 s85 s86 s87 s88 s89 s90 s91 s92 s93 s94 s95 s96 s97 s98 s99 s100 s101 s102 s103 s104 s105 s106 s107 s108 s109 s110 s111 s112 s113 s114 s115 s116 s117 s118 s119 s120 s121 s122 s123 s124 s125 s126 s127 s128 s129 s130 s131 s132 s133 s134 s135 s136 s137 s138 s139 s140 s141 s142 s143 s144 s145 s146 s147 : Value} {Q : Exit → Act → World → Prop} (a : List S27) (A2 : Option Addr) (c2 k1 g0 g7 : Nat) (t x : Int) (wr : World) (h7 : wr.heap[g7]? = some (.cells #[.slice (some ⟨g0, 0, none⟩) a.length k1] 24 (0, 0))) (p1 : (0 ≤ x) = True) (p2 : (x < (a.length : Int)) = True) (hx : t.tmod (a.length : Int) = x) (hwa : IntKind.i64.wrap t = t) (hz : ((a.length : Int) == 0) = false) (hl2 : ((a.length : Int) = 0) = False) (hl3 : (a = []) = False) (hy0 : wr.cell? ⟨g0, x.toNat * 3, none⟩ = some (.int .i64 (rd_T27 a x).f0)) (hy1 : wr.cell? ⟨g0, x.toNat * 3 + 1, none⟩ = some (.int .i64 (rd_T27 a x).f1)) (hy2 : wr.cell? ⟨g0, x.toNat * 3 + 2, none⟩ = some (.slice A2 (rd_T27 a x).f2.length c2))
  (hP : ∀ c (a : Act) (N : Option Tmp) (v : Value) w, Q (.panic c) (a.put N v) w → Q (.panic c) a w)
  (hQ : ∀ (g9 : Nat) (W : World), Below wr.heap.size wr W → W.heap[g9]? = some (.cells #[.int .i64 (rd_T27 a x).f0, .int .i64 (rd_T27 a x).f1, .slice A2 (rd_T27 a x).f2.length c2] 27 (0, 0)) → wr.heap.size ≤ g9 → Q .normal { tmps := #[s0, s1, .int .u16 t, s3, s4, s5, s6, .pointer (some ⟨g7, 0, none⟩), s8, .pointer (some ⟨g9, 0, none⟩), s10, s11, s12, s13, s14, s15, s16, s17, s18, s19, s20, s21, s22, s23, s24, s25, s26, s27, s28, s29, s30, s31, s32, s33, s34, s35, s36, s37, s38, s39, s40, s41, s42, s43, s44, s45, s46, s47, .pointer (some ⟨g7, 0, none⟩), .slice (some ⟨g0, 0, none⟩) a.length k1, .int .u16 t, .int .i64 t, .pointer (some ⟨g7, 0, none⟩), .slice (some ⟨g0, 0, none⟩) a.length k1, .int .i64 a.length, .int .i64 x, .pointer (some ⟨g0, x.toNat * 3, none⟩), .agg #[.int .i64 (rd_T27 a x).f0, .int .i64 (rd_T27 a x).f1, .slice A2 (rd_T27 a x).f2.length c2], s58, s59, s60, s61, s62, s63, s64, s65, s66, s67, s68, s69, s70, s71, s72, s73, s74, s75, s76, s77, s78, s79, s80, s81, s82, s83, s84, s85, s86, s87, s88, s89, s90, s91, s92, s93, s94, s95, s96, s97, s98, s99, s100, s101, s102, s103, s104, s105, s106, s107, s108, s109, s110, s111, s112, s113, s114, s115, s116, s117, s118, s119, s120, s121, s122, s123, s124, s125, s126, s127, s128, s129, s130, s131, s132, s133, s134, s135, s136, s137, s138, s139, s140, s141, s142, s143, s144, s145, s146, s147], defers := [] } W) :
  (Code.region 10 (opsOf Try.f4 10) true).wp Try.prog Q { tmps := #[s0, s1, .int .u16 t, s3, s4, s5, s6, .pointer (some ⟨g7, 0, none⟩), s8, s9, s10, s11, s12, s13, s14, s15, s16, s17, s18, s19, s20, s21, s22, s23, s24, s25, s26, s27, s28, s29, s30, s31, s32, s33, s34, s35, s36, s37, s38, s39, s40, s41, s42, s43, s44, s45, s46, s47, s48, s49, s50, s51, s52, s53, s54, s55, s56, s57, s58, s59, s60, s61, s62, s63, s64, s65, s66, s67, s68, s69, s70, s71, s72, s73, s74, s75, s76, s77, s78, s79, s80, s81, s82, s83, s84, s85, s86, s87, s88, s89, s90, s91, s92, s93, s94, s95, s96, s97, s98, s99, s100, s101, s102, s103, s104, s105, s106, s107, s108, s109, s110, s111, s112, s113, s114, s115, s116, s117, s118, s119, s120, s121, s122, s123, s124, s125, s126, s127, s128, s129, s130, s131, s132, s133, s134, s135, s136, s137, s138, s139, s140, s141, s142, s143, s144, s145, s146, s147], defers := [] } wr := by
 have HQQ := Aside0.mk hQ
 have H7 := Aside0.mk h7
 have Y0 := Aside0.mk hy0
 have Y1 := Aside0.mk hy1
 have Y2 := Aside0.mk hy2
 clear h7 hy0 hy1 hy2 hQ
 have hu24 := Try.underlying24
 have hu27 := Try.underlying27
 have hu41 := Try.underlying41
 conv in opsOf _ _ => whnf
 refine start_ (S := (fun W : World => Below wr.heap.size wr W)) (ds := [11]) #[bF,bF,bF,bF,bF,bF,bF,bF,bF,bF,bF,bF] (by kernel_rfl) (by rfl) (by rfl) (below_drew (Below.refl _ _)) (fun hS => ?_)
 refine take_ (i := 0) (N := some 48) (v := .pointer (some ⟨g7, 0, none⟩)) (a' := ?axcb1) #[bT,bF,bF,bF,bF,bF,bF,bF,bF,bF,bF,bF] rfl rfl (by kernel_rfl) (fun c a w h => hP c a _ _ w h) (Or.inl ⟨by rfl, ?yycb1⟩) hS ?hacb1 ?hhcb1
 case yycb1 => intro W hW; have p0 := (blk_cell (blk_below H7.out hW) 0).trans rfl; have y0 := pw_cell_below hW Y0.out; have y1 := pw_cell_below hW Y1.out; have y2 := pw_cell_below hW Y2.out; go_simp; done
 case hacb1 => try simp only [Act.put, sA_, sZ_, sS_]; exact rfl
 refine take_ (i := 1) (N := some 49) (v := .slice (some ⟨g0, 0, none⟩) a.length k1) (a' := ?axcb2) #[bT,bT,bF,bF,bF,bF,bF,bF,bF,bF,bF,bF] rfl rfl (by kernel_rfl) (fun c a w h => hP c a _ _ w h) (Or.inl ⟨by rfl, ?yycb2⟩) hS ?hacb2 ?hhcb2
 case yycb2 => intro W hW; have p0 := (blk_cell (blk_below H7.out hW) 0).trans rfl; have y0 := pw_cell_below hW Y0.out; have y1 := pw_cell_below hW Y1.out; have y2 := pw_cell_below hW Y2.out; go_simp; done
 case hacb2 => try simp only [Act.put, sA_, sZ_, sS_]; exact rfl
 refine take_ (i := 2) (N := some 50) (v := .int .u16 t) (a' := ?axcb3) #[bT,bT,bT,bF,bF,bF,bF,bF,bF,bF,bF,bF] rfl rfl (by kernel_rfl) (fun c a w h => hP c a _ _ w h) (Or.inl ⟨by rfl, ?yycb3⟩) hS ?hacb3 ?hhcb3
 case yycb3 => intro W hW; have p0 := (blk_cell (blk_below H7.out hW) 0).trans rfl; have y0 := pw_cell_below hW Y0.out; have y1 := pw_cell_below hW Y1.out; have y2 := pw_cell_below hW Y2.out; go_simp; done
 case hacb3 => try simp only [Act.put, sA_, sZ_, sS_]; exact rfl
 refine take_ (i := 3) (N := some 51) (v := .int .i64 t) (a' := ?axcb4) #[bT,bT,bT,bT,bF,bF,bF,bF,bF,bF,bF,bF] rfl rfl (by kernel_rfl) (fun c a w h => hP c a _ _ w h) (Or.inl ⟨by rfl, ?yycb4⟩) hS ?hacb4 ?hhcb4
 case yycb4 => intro W hW; have p0 := (blk_cell (blk_below H7.out hW) 0).trans rfl; have y0 := pw_cell_below hW Y0.out; have y1 := pw_cell_below hW Y1.out; have y2 := pw_cell_below hW Y2.out; go_simp; done
 case hacb4 => try simp only [Act.put, sA_, sZ_, sS_]; exact rfl
 refine take_ (i := 4) (N := some 52) (v := .pointer (some ⟨g7, 0, none⟩)) (a' := ?axcb5) #[bT,bT,bT,bT,bT,bF,bF,bF,bF,bF,bF,bF] rfl rfl (by kernel_rfl) (fun c a w h => hP c a _ _ w h) (Or.inl ⟨by rfl, ?yycb5⟩) hS ?hacb5 ?hhcb5
 case yycb5 => intro W hW; have p0 := (blk_cell (blk_below H7.out hW) 0).trans rfl; have y0 := pw_cell_below hW Y0.out; have y1 := pw_cell_below hW Y1.out; have y2 := pw_cell_below hW Y2.out; go_simp; done
 case hacb5 => try simp only [Act.put, sA_, sZ_, sS_]; exact rfl
 refine take_ (i := 5) (N := some 53) (v := .slice (some ⟨g0, 0, none⟩) a.length k1) (a' := ?axcb6) #[bT,bT,bT,bT,bT,bT,bF,bF,bF,bF,bF,bF] rfl rfl (by kernel_rfl) (fun c a w h => hP c a _ _ w h) (Or.inl ⟨by rfl, ?yycb6⟩) hS ?hacb6 ?hhcb6
 case yycb6 => intro W hW; have p0 := (blk_cell (blk_below H7.out hW) 0).trans rfl; have y0 := pw_cell_below hW Y0.out; have y1 := pw_cell_below hW Y1.out; have y2 := pw_cell_below hW Y2.out; go_simp; done
 case hacb6 => try simp only [Act.put, sA_, sZ_, sS_]; exact rfl
 refine take_ (i := 6) (N := some 54) (v := .int .i64 a.length) (a' := ?axcb7) #[bT,bT,bT,bT,bT,bT,bT,bF,bF,bF,bF,bF] rfl rfl (by kernel_rfl) (fun c a w h => hP c a _ _ w h) (Or.inl ⟨by rfl, ?yycb7⟩) hS ?hacb7 ?hhcb7
 case yycb7 => intro W hW; have p0 := (blk_cell (blk_below H7.out hW) 0).trans rfl; have y0 := pw_cell_below hW Y0.out; have y1 := pw_cell_below hW Y1.out; have y2 := pw_cell_below hW Y2.out; go_simp; done
 case hacb7 => try simp only [Act.put, sA_, sZ_, sS_]; exact rfl
 refine take_ (i := 7) (N := some 55) (v := .int .i64 x) (a' := ?axcb8) #[bT,bT,bT,bT,bT,bT,bT,bT,bF,bF,bF,bF] rfl rfl (by kernel_rfl) (fun c a w h => hP c a _ _ w h) (Or.inl ⟨by rfl, ?yycb8⟩) hS ?hacb8 ?hhcb8
 case yycb8 => intro W hW; have p0 := (blk_cell (blk_below H7.out hW) 0).trans rfl; have y0 := pw_cell_below hW Y0.out; have y1 := pw_cell_below hW Y1.out; have y2 := pw_cell_below hW Y2.out; go_simp; done
 case hacb8 => try simp only [Act.put, sA_, sZ_, sS_]; exact rfl
 refine take_ (i := 8) (N := some 56) (v := .pointer (some ⟨g0, x.toNat * 3, none⟩)) (a' := ?axcb9) #[bT,bT,bT,bT,bT,bT,bT,bT,bT,bF,bF,bF] rfl rfl (by kernel_rfl) (fun c a w h => hP c a _ _ w h) (Or.inl ⟨by rfl, ?yycb9⟩) hS ?hacb9 ?hhcb9
 case yycb9 => intro W hW; have p0 := (blk_cell (blk_below H7.out hW) 0).trans rfl; have y0 := pw_cell_below hW Y0.out; have y1 := pw_cell_below hW Y1.out; have y2 := pw_cell_below hW Y2.out; go_simp; done
 case hacb9 => try simp only [Act.put, sA_, sZ_, sS_]; exact rfl
 refine take_ (i := 9) (N := some 57) (v := .agg #[.int .i64 (rd_T27 a x).f0, .int .i64 (rd_T27 a x).f1, .slice A2 (rd_T27 a x).f2.length c2]) (a' := ?axcb10) #[bT,bT,bT,bT,bT,bT,bT,bT,bT,bT,bF,bF] rfl rfl (by kernel_rfl) (fun c a w h => hP c a _ _ w h) (Or.inl ⟨by rfl, ?yycb10⟩) hS ?hacb10 ?hhcb10
 case yycb10 => intro W hW; have p0 := (blk_cell (blk_below H7.out hW) 0).trans rfl; have y0 := pw_cell_below hW Y0.out; have y1 := pw_cell_below hW Y1.out; have y2 := pw_cell_below hW Y2.out; go_simp; done
 case hacb10 => try simp only [Act.put, sA_, sZ_, sS_]; exact rfl
 refine one_ (i := 10) (N := some 9) #[bT,bT,bT,bT,bT,bT,bT,bT,bT,bT,bT,bF] rfl rfl (by kernel_rfl) (by decide) (fun K hK => ?_)
 refine value_ (w1 := ?_) (v := ?_) (by rfl) rfl ?_ ?_
 rotate_left 2
 ·go_simp
  constructor
  ·rfl
  ·rfl
 have HXN := Aside0.mk (show (World.drew (World.alloc wr (.cells #[.int .i64 0, .int .i64 0, .slice none 0 0] 27 (0, 0)))).heap[wr.heap.size]? = some (.cells #[.int .i64 0, .int .i64 0, .slice none 0 0] 27 (0, 0)) from blk_drew (blk_new _ _))
 refine hK _ _ (below_alloc hS _) (fun hS => ?_)
 clear hK K
 try simp only [Act.put, sA_, sZ_, sS_]
 generalize (World.drew (World.alloc wr (.cells #[.int .i64 0, .int .i64 0, .slice none 0 0] 27 (0, 0)))) = W9 at HXN hS ⊢
 refine last_ (i := 11) (N := none) #[bT,bT,bT,bT,bT,bT,bT,bT,bT,bT,bT,bT] rfl rfl (by kernel_rfl) (by decide) (fun K hK => ?_)
 rw [if_pos (by rfl)]
 refine wp_store_mid _ (.tmp 9) (.tmp 57) rfl (wr.heap.size) 0 #[.int .i64 (rd_T27 a x).f0, .int .i64 (rd_T27 a x).f1, .slice A2 (rd_T27 a x).f2.length c2] (by kernel_rfl) (by kernel_rfl) (there_blk HXN.out 0 3 (Nat.le_refl _)) (by kernel_rfl) (by kernel_rfl) ?_
 have hSS : Below wr.heap.size wr (World.setCells W9 wr.heap.size 0 (#[.int .i64 (rd_T27 a x).f0, .int .i64 (rd_T27 a x).f1, .slice A2 (rd_T27 a x).f2.length c2] : Array Value).toList) := setL_below hS (Nat.le_refl _) _ _
 have HX9 := Aside0.mk (show (World.setCells W9 wr.heap.size 0 (#[.int .i64 (rd_T27 a x).f0, .int .i64 (rd_T27 a x).f1, .slice A2 (rd_T27 a x).f2.length c2] : Array Value).toList).heap[wr.heap.size]? = some (.cells #[.int .i64 (rd_T27 a x).f0, .int .i64 (rd_T27 a x).f1, .slice A2 (rd_T27 a x).f2.length c2] 27 (0, 0)) from setL_blk _ _ HXN.out (by kernel_rfl))
 refine hK _ _ ?_
 clear hK K
 try simp only [Act.put, sA_, sZ_, sS_]
 refine done_ (by kernel_rfl) ?_
 exact HQQ.out _ _ hSS HX9.out (Nat.le_refl _)
end Go.Proofs.Ytbfialebaoeicaa.X
namespace Go.Proofs.Ytbfialebaoeicaa.X
open Go.RowKit Go.Proofs.YtbfialebaoeicaaW.PrintWords Go.Proofs.YtbfialebaoeicaaW.PrintLast Go.Proofs.YtbfialebaoeicaaW.PrintMore
set_option linter.all false
set_option maxHeartbeats 16000000 in
set_option maxRecDepth 100000 in
theorem r13c {s0 s1 s3 s4 s5 s6 s7 s8 s10 s11 s12 s13 s14 s15 s16 s17 s18 s19 s20 s21 s22 s23 s24 s25 s26 s27 s28 s29 s30 s31 s32 s33 s34 s35 s36 s37 s38 s39 s40 s41 s42 s43 s44 s45 s46 s47 s48 s49 s50 s51 s52 s53 s54 s55 s56 s57 s58 s59 s60 s61 s62 s63 s64 s65 s66 s67 s68 s69 s70 s71 s72 s73 s74 s75 s76 s77 s78 s79 s80 s81 s82 s83 s84 s85 s86 s87 s88 s89 s90 s91 s92 s93 s94 s95 s96 s97 s98 s99 s100 s101 s102 s103 s104 s105 s106 s107 s108 s109 s110 s111 s112 s113 s114 s115 s116 s117 s118 s119 s120 s121 s122 s123 s124 s125 s126 s127 s128 s129 s130 s131 s132 s133 s134 s135 s136 s137 s138 s139 s140 s141 s142 s143 s144 s145 s146 s147 : Value} {Q : Exit → Act → World → Prop} (a : List S27) (c2 gb g9 : Nat) (t x y : Int) (wr : World) (h9 : wr.heap[g9]? = some (.cells #[.int .i64 (rd_T27 a x).f0, .int .i64 (rd_T27 a x).f1, .slice (some ⟨gb, 0, none⟩) (rd_T27 a x).f2.length c2] 27 (0, 0))) (p3 : (0 ≤ y) = True) (p4 : (y < ((rd_T27 a x).f2.length : Int)) = True) (hy : (t.tdiv 7).tmod ((rd_T27 a x).f2.length : Int) = y) (hwa : IntKind.i64.wrap t = t) (hwd : IntKind.i64.wrap (t.tdiv 7) = t.tdiv 7) (hz : (((rd_T27 a x).f2.length : Int) == 0) = false) (hl2 : (((rd_T27 a x).f2.length : Int) = 0) = False) (hl3 : ((rd_T27 a x).f2 = []) = False)
  (hP : ∀ c (a : Act) (N : Option Tmp) (v : Value) w, Q (.panic c) (a.put N v) w → Q (.panic c) a w)
  (hQ : ∀ (W : World), Below wr.heap.size wr W → Q .normal { tmps := #[s0, s1, .int .u16 t, s3, s4, s5, s6, s7, s8, .pointer (some ⟨g9, 0, none⟩), .pointer (some ⟨gb, y.toNat * 14, none⟩), s11, s12, s13, s14, s15, s16, s17, s18, s19, s20, s21, s22, s23, s24, s25, s26, s27, s28, s29, s30, s31, s32, s33, s34, s35, s36, s37, s38, s39, s40, s41, s42, s43, s44, s45, s46, s47, s48, s49, s50, s51, s52, s53, s54, s55, s56, s57, s58, s59, s60, s61, .pointer (some ⟨g9, 2, none⟩), .slice (some ⟨gb, 0, none⟩) (rd_T27 a x).f2.length c2, .int .u16 t, .int .i64 t, .int .i64 (t.tdiv 7), .pointer (some ⟨g9, 2, none⟩), .slice (some ⟨gb, 0, none⟩) (rd_T27 a x).f2.length c2, .int .i64 (rd_T27 a x).f2.length, .int .i64 y, .pointer (some ⟨gb, y.toNat * 14, none⟩), s72, s73, s74, s75, s76, s77, s78, s79, s80, s81, s82, s83, s84, s85, s86, s87, s88, s89, s90, s91, s92, s93, s94, s95, s96, s97, s98, s99, s100, s101, s102, s103, s104, s105, s106, s107, s108, s109, s110, s111, s112, s113, s114, s115, s116, s117, s118, s119, s120, s121, s122, s123, s124, s125, s126, s127, s128, s129, s130, s131, s132, s133, s134, s135, s136, s137, s138, s139, s140, s141, s142, s143, s144, s145, s146, s147], defers := [] } W) :
  (Code.region 13 (opsOf Try.f4 13) true).wp Try.prog Q { tmps := #[s0, s1, .int .u16 t, s3, s4, s5, s6, s7, s8, .pointer (some ⟨g9, 0, none⟩), s10, s11, s12, s13, s14, s15, s16, s17, s18, s19, s20, s21, s22, s23, s24, s25, s26, s27, s28, s29, s30, s31, s32, s33, s34, s35, s36, s37, s38, s39, s40, s41, s42, s43, s44, s45, s46, s47, s48, s49, s50, s51, s52, s53, s54, s55, s56, s57, s58, s59, s60, s61, s62, s63, s64, s65, s66, s67, s68, s69, s70, s71, s72, s73, s74, s75, s76, s77, s78, s79, s80, s81, s82, s83, s84, s85, s86, s87, s88, s89, s90, s91, s92, s93, s94, s95, s96, s97, s98, s99, s100, s101, s102, s103, s104, s105, s106, s107, s108, s109, s110, s111, s112, s113, s114, s115, s116, s117, s118, s119, s120, s121, s122, s123, s124, s125, s126, s127, s128, s129, s130, s131, s132, s133, s134, s135, s136, s137, s138, s139, s140, s141, s142, s143, s144, s145, s146, s147], defers := [] } wr := by
 have HQQ := Aside0.mk hQ
 have H9 := Aside0.mk h9
 clear h9 hQ
 have hu24 := Try.underlying24
 have hu27 := Try.underlying27
 have hu41 := Try.underlying41
 conv in opsOf _ _ => whnf
 refine start_ (S := (fun W : World => Below wr.heap.size wr W)) (ds := []) #[bF,bF,bF,bF,bF,bF,bF,bF,bF,bF,bF] (by kernel_rfl) (by rfl) (by rfl) (below_drew (Below.refl _ _)) (fun hS => ?_)
 refine take_ (i := 0) (N := some 62) (v := .pointer (some ⟨g9, 2, none⟩)) (a' := ?axcc1) #[bT,bF,bF,bF,bF,bF,bF,bF,bF,bF,bF] rfl rfl (by kernel_rfl) (fun c a w h => hP c a _ _ w h) (Or.inl ⟨by rfl, ?yycc1⟩) hS ?hacc1 ?hhcc1
 case yycc1 => intro W hW; have f2 := (blk_cell (blk_below H9.out hW) 2).trans rfl; go_simp; done
 case hacc1 => try simp only [Act.put, sA_, sZ_, sS_]; exact rfl
 refine take_ (i := 1) (N := some 63) (v := .slice (some ⟨gb, 0, none⟩) (rd_T27 a x).f2.length c2) (a' := ?axcc2) #[bT,bT,bF,bF,bF,bF,bF,bF,bF,bF,bF] rfl rfl (by kernel_rfl) (fun c a w h => hP c a _ _ w h) (Or.inl ⟨by rfl, ?yycc2⟩) hS ?hacc2 ?hhcc2
 case yycc2 => intro W hW; have f2 := (blk_cell (blk_below H9.out hW) 2).trans rfl; go_simp; done
 case hacc2 => try simp only [Act.put, sA_, sZ_, sS_]; exact rfl
 refine take_ (i := 2) (N := some 64) (v := .int .u16 t) (a' := ?axcc3) #[bT,bT,bT,bF,bF,bF,bF,bF,bF,bF,bF] rfl rfl (by kernel_rfl) (fun c a w h => hP c a _ _ w h) (Or.inl ⟨by rfl, ?yycc3⟩) hS ?hacc3 ?hhcc3
 case yycc3 => intro W hW; have f2 := (blk_cell (blk_below H9.out hW) 2).trans rfl; go_simp; done
 case hacc3 => try simp only [Act.put, sA_, sZ_, sS_]; exact rfl
 refine take_ (i := 3) (N := some 65) (v := .int .i64 t) (a' := ?axcc4) #[bT,bT,bT,bT,bF,bF,bF,bF,bF,bF,bF] rfl rfl (by kernel_rfl) (fun c a w h => hP c a _ _ w h) (Or.inl ⟨by rfl, ?yycc4⟩) hS ?hacc4 ?hhcc4
 case yycc4 => intro W hW; have f2 := (blk_cell (blk_below H9.out hW) 2).trans rfl; go_simp; done
 case hacc4 => try simp only [Act.put, sA_, sZ_, sS_]; exact rfl
 refine take_ (i := 4) (N := some 66) (v := .int .i64 (t.tdiv 7)) (a' := ?axcc5) #[bT,bT,bT,bT,bT,bF,bF,bF,bF,bF,bF] rfl rfl (by kernel_rfl) (fun c a w h => hP c a _ _ w h) (Or.inl ⟨by rfl, ?yycc5⟩) hS ?hacc5 ?hhcc5
 case yycc5 => intro W hW; have f2 := (blk_cell (blk_below H9.out hW) 2).trans rfl; go_simp; done
 case hacc5 => try simp only [Act.put, sA_, sZ_, sS_]; exact rfl
 refine take_ (i := 5) (N := some 67) (v := .pointer (some ⟨g9, 2, none⟩)) (a' := ?axcc6) #[bT,bT,bT,bT,bT,bT,bF,bF,bF,bF,bF] rfl rfl (by kernel_rfl) (fun c a w h => hP c a _ _ w h) (Or.inl ⟨by rfl, ?yycc6⟩) hS ?hacc6 ?hhcc6
 case yycc6 => intro W hW; have f2 := (blk_cell (blk_below H9.out hW) 2).trans rfl; go_simp; done
 case hacc6 => try simp only [Act.put, sA_, sZ_, sS_]; exact rfl
 refine take_ (i := 6) (N := some 68) (v := .slice (some ⟨gb, 0, none⟩) (rd_T27 a x).f2.length c2) (a' := ?axcc7) #[bT,bT,bT,bT,bT,bT,bT,bF,bF,bF,bF] rfl rfl (by kernel_rfl) (fun c a w h => hP c a _ _ w h) (Or.inl ⟨by rfl, ?yycc7⟩) hS ?hacc7 ?hhcc7
 case yycc7 => intro W hW; have f2 := (blk_cell (blk_below H9.out hW) 2).trans rfl; go_simp; done
 case hacc7 => try simp only [Act.put, sA_, sZ_, sS_]; exact rfl
 refine take_ (i := 7) (N := some 69) (v := .int .i64 (rd_T27 a x).f2.length) (a' := ?axcc8) #[bT,bT,bT,bT,bT,bT,bT,bT,bF,bF,bF] rfl rfl (by kernel_rfl) (fun c a w h => hP c a _ _ w h) (Or.inl ⟨by rfl, ?yycc8⟩) hS ?hacc8 ?hhcc8
 case yycc8 => intro W hW; have f2 := (blk_cell (blk_below H9.out hW) 2).trans rfl; go_simp; done
 case hacc8 => try simp only [Act.put, sA_, sZ_, sS_]; exact rfl
 refine take_ (i := 8) (N := some 70) (v := .int .i64 y) (a' := ?axcc9) #[bT,bT,bT,bT,bT,bT,bT,bT,bT,bF,bF] rfl rfl (by kernel_rfl) (fun c a w h => hP c a _ _ w h) (Or.inl ⟨by rfl, ?yycc9⟩) hS ?hacc9 ?hhcc9
 case yycc9 => intro W hW; have f2 := (blk_cell (blk_below H9.out hW) 2).trans rfl; go_simp; done
 case hacc9 => try simp only [Act.put, sA_, sZ_, sS_]; exact rfl
 refine take_ (i := 9) (N := some 71) (v := .pointer (some ⟨gb, y.toNat * 14, none⟩)) (a' := ?axcc10) #[bT,bT,bT,bT,bT,bT,bT,bT,bT,bT,bF] rfl rfl (by kernel_rfl) (fun c a w h => hP c a _ _ w h) (Or.inl ⟨by rfl, ?yycc10⟩) hS ?hacc10 ?hhcc10
 case yycc10 => intro W hW; have f2 := (blk_cell (blk_below H9.out hW) 2).trans rfl; go_simp; done
 case hacc10 => try simp only [Act.put, sA_, sZ_, sS_]; exact rfl
 refine take_ (i := 10) (N := some 10) (v := .pointer (some ⟨gb, y.toNat * 14, none⟩)) (a' := ?axcc11) #[bT,bT,bT,bT,bT,bT,bT,bT,bT,bT,bT] rfl rfl (by kernel_rfl) (fun c a w h => hP c a _ _ w h) (Or.inl ⟨by rfl, ?yycc11⟩) hS ?hacc11 ?hhcc11
 case yycc11 => intro W hW; have f2 := (blk_cell (blk_below H9.out hW) 2).trans rfl; go_simp; done
 case hacc11 => try simp only [Act.put, sA_, sZ_, sS_]; exact rfl
 refine done_ (by kernel_rfl) ?_
 exact HQQ.out _ hS
end Go.Proofs.Ytbfialebaoeicaa.X
namespace Go.Proofs.Ytbfialebaoeicaa.X
open Go.RowKit Go.Proofs.YtbfialebaoeicaaW.PrintWords Go.Proofs.YtbfialebaoeicaaW.PrintLast Go.Proofs.YtbfialebaoeicaaW.PrintMore
set_option linter.all false
theorem SM_rows {w : World} {base : Nat} {ok : Nat → Prop} {g0 n c : Nat} {m : List S27} (h : Kd.S sF 27 w base ok (.slice (some ⟨g0, 0, none⟩) n c) m) (x y : Int) (h0 : 0 ≤ x) (h1 : x < (n : Int)) (h2 : 0 ≤ y) (h3 : y < ((rd_T27 m x).f2.length : Int)) {b : S41} (hb : (rd_T41 (rd_T27 m x).f2 y) = b) :
  ∃ (gb c2 : Nat) (v4 v5 : Value) (ok4 ok5 : Nat → Prop), w.cell? ⟨g0, x.toNat * 3 + 2, none⟩ = some (.slice (some ⟨gb, 0, none⟩) (rd_T27 m x).f2.length c2) ∧ (base ≤ gb ∧ gb < w.heap.size ∧ ok gb ∧ gb ≠ g0) ∧ (w.cell? ⟨gb, y.toNat * 14 + 2, none⟩ = some v4 ∧ w.cell? ⟨gb, y.toNat * 14 + 5, none⟩ = some v5 ∧ w.cell? ⟨gb, y.toNat * 14 + 11, none⟩ = some (.int .i64 b.f3.f5) ∧ w.frozen? ⟨gb, y.toNat * 14 + 11, none⟩ = false) ∧
  (Kd.int .u16).R 44 w base ok4 v4 b.f1.f1 ∧ Kd.S k49 49 w base ok5 v5 b.f2 ∧ (∀ k, ok4 k → ok k ∧ k ≠ g0 ∧ k ≠ gb) ∧ (∀ k, ok5 k → ok k ∧ k ≠ g0 ∧ k ≠ gb) ∧
  (∀ v, Kd.S sF 27 (w.setCell ⟨gb, y.toNat * 14 + 11, none⟩ (.int .i64 v)) base ok (.slice (some ⟨g0, 0, none⟩) n c) (putB m x y (setTo b v))) ∧
  (∀ (p : Addr) (u : Value) (l : List Int), ok4 p.block → (Kd.int .u16).R 44 (w.setCell p u) base ok4 v4 l → Kd.S sF 27 (w.setCell p u) base ok (.slice (some ⟨g0, 0, none⟩) n c) (putB m x y ⟨b.f0, ⟨b.f1.f0, l, b.f1.f2, b.f1.f3⟩, b.f2, b.f3⟩)) ∧
  (∀ (p : Addr) (u : Value) (l : List S49), ok5 p.block → Kd.S k49 49 (w.setCell p u) base ok5 v5 l → Kd.S sF 27 (w.setCell p u) base ok (.slice (some ⟨g0, 0, none⟩) n c) (putB m x y ⟨b.f0, b.f1, l, b.f3⟩)) := by
 obtain ⟨oki, c1, hcl, hM, hcc, hok, hH⟩ := Kd.S_lend h z27 x h0 h1
 obtain ⟨v2, rfl, hS⟩ := hM
 have hS' : Kd.S sB 41 w base oki v2 (rd_T27 m x).f2 := hS
 obtain ⟨gb, c2, rfl, hg0, hg1, _⟩ := Kd.S_form hS' (by omega)
 have hgk : oki gb := (Kd.S_R hS').1 gb rfl
 obtain ⟨okB, cB, hclB, hMB, hccB, hfrB, hokB, hHB⟩ := Kd.S_elem hS' z41 y h2 h3
 rw [show (rd_T27 m x).f2.getD y.toNat z41 = b from hb] at hMB
 obtain ⟨v4, v5, v10, t_, rfl, hR4, hS5, hR10⟩ := hMB
 have key : ∀ (p : Addr) (u : Value) (b' : S41), okB p.block → sB.M (w.setCell p u) base okB b' [.bool b.f0, .int .i64 b.f1.f0, v4, .bool b.f1.f2, .bool b.f1.f3, v5, .int .i64 b.f3.f0, .int .i64 b.f3.f1, .int .i64 b.f3.f2, .int .i64 b.f3.f3, v10, .int .i64 b.f3.f5, .int .i64 b.f3.f6, .int .i64 b.f3.f7] → Kd.S sF 27 (w.setCell p u) base ok (.slice (some ⟨g0, 0, none⟩) n c) (putB m x y b') := by
  intro p u b' hp hMn
  have hn := Kd.H_back (Kd.H_step (w1 := w.setCell p u) hHB (fun k _ hk _ => Below.heap_setCell _ _ _ k (fun e => hk (e ▸ hp)))) (x' := b') (okp := okB) hMn (fun _ h => h)
  exact Kd.H_back (Kd.H_step (w1 := w.setCell p u) hH (fun k _ hk _ => Below.heap_setCell _ _ _ k (fun e => hk (e ▸ (hokB _ hp).1)))) (x' := ⟨(rd_T27 m x).f0, (rd_T27 m x).f1, (rd_T27 m x).f2.set y.toNat b'⟩) (okp := oki) ⟨.slice (some ⟨gb, 0, none⟩) (rd_T27 m x).f2.length c2, rfl, hn⟩ (fun _ h => h)
 have hall : ∀ k, okB k → ok k ∧ k ≠ g0 ∧ k ≠ gb := fun k hk => ⟨(hok k (hokB k hk).1).1, (hok k (hokB k hk).1).2, (hokB k hk).2⟩
 have hTo : ∀ v, Kd.S sF 27 (w.setCell ⟨gb, y.toNat * 14 + 11, none⟩ (.int .i64 v)) base ok (.slice (some ⟨g0, 0, none⟩) n c) (putB m x y (setTo b v)) := by
  intro v
  have hn := S_seg0 (d := sB) hHB h2 h3 (u := .int .i64 v) (j := 11) (by show 11 + 1 ≤ 14; omega) (x' := setTo b v) (okp := okB) ⟨v4, v5, v10, t_, rfl, hR4, hS5, hR10⟩ (fun _ h => h)
  exact Kd.H_back (Kd.H_step (w1 := w.setCell ⟨gb, y.toNat * 14 + 11, none⟩ (.int .i64 v)) hH (fun k _ hk _ => Below.heap_setCell _ _ _ k (fun e => hk (e ▸ hgk)))) (x' := ⟨(rd_T27 m x).f0, (rd_T27 m x).f1, (rd_T27 m x).f2.set y.toNat (setTo b v)⟩) (okp := oki) ⟨.slice (some ⟨gb, 0, none⟩) (rd_T27 m x).f2.length c2, rfl, hn⟩ (fun _ h => h)
 exact ⟨gb, c2, v4, v5, fun k => okB k ∧ t_ k = 0, fun k => okB k ∧ t_ k = 1, hcc 2 _ rfl, ⟨hg0, hg1, (hok gb hgk).1, (hok gb hgk).2⟩, ⟨hccB 2 _ rfl, hccB 5 _ rfl, hccB 11 _ rfl, hfrB 11⟩, hR4, hS5, fun k hk => hall k hk.1, fun k hk => hall k hk.1, hTo,
  fun p u l hp hr => key p u _ hp.1 ⟨v4, v5, v10, t_, rfl, hr, Kd.S_far hS5 (fun k hk e => by have h1_ := hk.2; rw [e] at h1_; have := hp.2; omega) u, Kd.R_far hR10 (fun k hk e => by have h1_ := hk.2; rw [e] at h1_; have := hp.2; omega) u⟩,
  fun p u l hp hr => key p u _ hp.1 ⟨v4, v5, v10, t_, rfl, Kd.R_far hR4 (fun k hk e => by have h1_ := hk.2; rw [e] at h1_; have := hp.2; omega) u, hr, Kd.R_far hR10 (fun k hk e => by have h1_ := hk.2; rw [e] at h1_; have := hp.2; omega) u⟩⟩
def ins1 (i : S49) (v : Int) : S49 := ⟨i.f0, v, i.f2, i.f3, i.f4, i.f5, i.f6⟩
def ins6 (i : S49) (l : List Int) : S49 := ⟨i.f0, i.f1, i.f2, i.f3, i.f4, i.f5, l⟩
theorem SI_first {w : World} {base : Nat} {ok : Nat → Prop} {v : Value} {l : List S49} (h : Kd.S k49 49 w base ok v l) (hp : 0 < l.length) : ∃ (gi ci : Nat) (v6 : Value) (ok6 : Nat → Prop), v = .slice (some ⟨gi, 0, none⟩) l.length ci ∧ ok gi ∧ (w.cell? ⟨gi, 1, none⟩ = some (.int .i64 (rd_T49 l 0).f1) ∧ w.frozen? ⟨gi, 1, none⟩ = false ∧ w.cell? ⟨gi, 6, none⟩ = some v6) ∧
  (Kd.int .i64).R 3 w base ok6 v6 (rd_T49 l 0).f6 ∧ (∀ k, ok6 k → ok k ∧ k ≠ gi) ∧ (∀ u, Kd.S k49 49 (w.setCell ⟨gi, 1, none⟩ (.int .i64 u)) base ok v (l.set 0 (ins1 (rd_T49 l 0) u))) ∧
  (∀ (p : Addr) (u : Value) (r : List Int), ok6 p.block → (Kd.int .i64).R 3 (w.setCell p u) base ok6 v6 r → Kd.S k49 49 (w.setCell p u) base ok v (l.set 0 (ins6 (rd_T49 l 0) r))) := by
 obtain ⟨gi, ci, rfl, hg0, hg1, _⟩ := Kd.S_form h hp
 obtain ⟨okI, cI, hcl, hM, hcc, hfr, hokI, hH⟩ := Kd.S_elem h z49 0 (by omega) (by omega)
 obtain ⟨v6, rfl, hR⟩ := k49_openM hM
 refine ⟨gi, ci, v6, okI, rfl, (Kd.S_R h).1 gi rfl, ⟨hcc 1 _ rfl, hfr 1, hcc 6 _ rfl⟩, hR, hokI, fun u => ?_, fun p u r hp hr => ?_⟩
 ·exact S_seg0 (d := k49) hH (by omega) (by omega) (u := .int .i64 u) (j := 1) (by decide) (x' := ins1 (rd_T49 l 0) u) (okp := okI) (k49_mkM w base okI (ins1 (rd_T49 l 0) u) hR) (fun _ h => h)
 ·exact Kd.H_back (Kd.H_step (w1 := w.setCell p u) hH (fun k _ hk _ => Below.heap_setCell _ _ _ k (fun e => hk (e ▸ hp)))) (x' := ins6 (rd_T49 l 0) r) (okp := okI) (k49_mkM (w.setCell p u) base okI (ins6 (rd_T49 l 0) r) hr) (fun _ h => h)
theorem R_first {k : IntKind} {e : Nat} {w : World} {base : Nat} {ok : Nat → Prop} {v : Value} {l : List Int} (h : (Kd.int k).R e w base ok v l) (hp : 0 < l.length) : ∃ (g cc : Nat), v = .slice (some ⟨g, 0, none⟩) l.length cc ∧ ok g ∧ w.cell? ⟨g, 0, none⟩ = some (.int k (rd l 0)) ∧ w.frozen? ⟨g, 0, none⟩ = false ∧ ∀ u, (Kd.int k).R e (w.setCell ⟨g, 0, none⟩ (.int k u)) base ok v (l.set 0 u) := by
 obtain ⟨g, cc, rfl, hg0, hg1, _⟩ := Kd.R_form h hp
 obtain ⟨cs, hcl, hM, hcc, hfr⟩ := Kd.R_elem h 0 0 (by omega) (by omega)
 have hM' : cs = [.int k (l.getD (0 : Int).toNat 0)] := hM
 subst hM'
 refine ⟨g, cc, rfl, h.1 g rfl, hcc 0 _ rfl, hfr 0, fun u => ?_⟩
 exact Kd.R_putn (enc := fun x => .int k x) h 0 u
theorem putB_rd (m : List S27) (x y : Int) (b : S41) (h0 : 0 ≤ x) (h1 : x < (m.length : Int)) (h2 : 0 ≤ y) (h3 : y < ((rd_T27 m x).f2.length : Int)) : (rd_T27 (putB m x y b) x) = ⟨(rd_T27 m x).f0, (rd_T27 m x).f1, (rd_T27 m x).f2.set y.toNat b⟩ ∧ rd_T41 ((rd_T27 m x).f2.set y.toNat b) y = b := by
 constructor
 ·exact set_get _ _ _ _ (by omega)
 ·exact set_get _ _ _ _ (by omega)
theorem putB_put (m : List S27) (x y : Int) (b b' : S41) (h0 : 0 ≤ x) (h1 : x < (m.length : Int)) (h2 : 0 ≤ y) (h3 : y < ((rd_T27 m x).f2.length : Int)) : putB (putB m x y b) x y b' = putB m x y b' := by
 have h := (putB_rd m x y b h0 h1 h2 h3).1
 show (putB m x y b).set x.toNat ⟨(rd_T27 (putB m x y b) x).f0, (rd_T27 (putB m x y b) x).f1, (rd_T27 (putB m x y b) x).f2.set y.toNat b'⟩ = _
 rw [h]
 unfold putB
 rw [set_set, set_set]
theorem putB_differs {m : List S27} {x y : Int} {b : S41} (h0 : 0 ≤ x) (h1 : x < (m.length : Int)) (h2 : 0 ≤ y) (h3 : y < ((rd_T27 m x).f2.length : Int)) (h : b.f3.f5 ≠ (rd_T41 (rd_T27 m x).f2 y).f3.f5) : eqL funcE (putB m x y b) m = false := sameM_ne fun e => by
 obtain ⟨h4, h5⟩ := putB_rd m x y b h0 h1 h2 h3
 rw [e] at h4
 rw [h4] at h
 exact h (congrArg (fun q => q.f3.f5) h5.symm)
theorem wrap_ne (n : Int) : wrap64 (n + 1) ≠ n := by unfold wrap64; omega
theorem bnd_put2 {m : List S27} (h : Bnd m) {x y : Int} {b' : S41} (h0 : 0 ≤ x) (h1 : x < (m.length : Int)) (e1 : b'.f2.length ≤ 1000000) (e2 : b'.f1.f1.length ≤ 20) (e3 : b'.f3.f4.length ≤ 1000000) (e4 : ∀ i ∈ b'.f2, i.f6.length ≤ 1000000) : Bnd (putB m x y b') := by
 have hF := h.f _ (show rd_T27 m x ∈ m from rd_mem' m z27 x h0 h1)
 refine ⟨by rw [putB_len]; exact h.nf, fun f hf => ?_⟩
 rcases List.mem_or_eq_of_mem_set (show f ∈ m.set x.toNat _ from hf) with hf | rfl
 ·exact h.f f hf
 ·refine ⟨by show ((rd_T27 m x).f2.set y.toNat b').length ≤ _; rw [List.length_set]; exact hF.nb, fun b'' hb'' => ?_, fun b'' hb'' => ?_, fun b'' hb'' => ?_, fun b'' hb'' => ?_⟩ <;> rcases List.mem_or_eq_of_mem_set (show b'' ∈ (rd_T27 m x).f2.set y.toNat b' from hb'') with hb'' | rfl
  ·exact hF.ni b'' hb''
  ·exact e1
  ·exact hF.nc b'' hb''
  ·exact e2
  ·exact hF.ne b'' hb''
  ·exact e3
  ·exact hF.na b'' hb''
  ·exact e4
theorem SM_rowsP {w : World} {base : Nat} {ok : Nat → Prop} {g0 c : Nat} {a : List S27} {x y : Int} {b : S41} (h : Kd.S sF 27 w base ok (.slice (some ⟨g0, 0, none⟩) a.length c) (putB a x y b)) (h0 : 0 ≤ x) (h1 : x < (a.length : Int)) (h2 : 0 ≤ y) (h3 : y < ((rd_T27 a x).f2.length : Int)) :
  ∃ (gb c2 : Nat) (v4 v5 : Value) (ok4 ok5 : Nat → Prop), w.cell? ⟨g0, x.toNat * 3 + 2, none⟩ = some (.slice (some ⟨gb, 0, none⟩) (rd_T27 a x).f2.length c2) ∧ (base ≤ gb ∧ gb < w.heap.size ∧ ok gb ∧ gb ≠ g0) ∧ (w.cell? ⟨gb, y.toNat * 14 + 2, none⟩ = some v4 ∧ w.cell? ⟨gb, y.toNat * 14 + 5, none⟩ = some v5 ∧ w.cell? ⟨gb, y.toNat * 14 + 11, none⟩ = some (.int .i64 b.f3.f5) ∧ w.frozen? ⟨gb, y.toNat * 14 + 11, none⟩ = false) ∧
  (Kd.int .u16).R 44 w base ok4 v4 b.f1.f1 ∧ Kd.S k49 49 w base ok5 v5 b.f2 ∧ (∀ k, ok4 k → ok k ∧ k ≠ g0 ∧ k ≠ gb) ∧ (∀ k, ok5 k → ok k ∧ k ≠ g0 ∧ k ≠ gb) ∧
  (∀ (p : Addr) (u : Value) (l : List Int), ok4 p.block → (Kd.int .u16).R 44 (w.setCell p u) base ok4 v4 l → Kd.S sF 27 (w.setCell p u) base ok (.slice (some ⟨g0, 0, none⟩) a.length c) (putB a x y ⟨b.f0, ⟨b.f1.f0, l, b.f1.f2, b.f1.f3⟩, b.f2, b.f3⟩)) ∧
  (∀ (p : Addr) (u : Value) (l : List S49), ok5 p.block → Kd.S k49 49 (w.setCell p u) base ok5 v5 l → Kd.S sF 27 (w.setCell p u) base ok (.slice (some ⟨g0, 0, none⟩) a.length c) (putB a x y ⟨b.f0, b.f1, l, b.f3⟩)) := by
 obtain ⟨e1, e2⟩ := putB_rd a x y b h0 h1 h2 h3
 have e3 : rd_T41 (rd_T27 (putB a x y b) x).f2 y = b := by rw [e1]; exact e2
 have e4 : (rd_T27 (putB a x y b) x).f2.length = (rd_T27 a x).f2.length := by
  rw [e1]
  exact List.length_set ..
 obtain ⟨gb, c2, v4, v5, ok4, ok5, hr, hg, hv, hR4, hR5, hk4, hk5, _, hC4, hC5⟩ := SM_rows h x y h0 h1 h2 (by rw [e4]; exact h3) e3
 rw [e4] at hr
 refine ⟨gb, c2, v4, v5, ok4, ok5, hr, hg, hv, hR4, hR5, hk4, hk5, fun p u l hp hq => ?_, fun p u l hp hq => ?_⟩
 ·have h_ := hC4 p u l hp hq
  rw [putB_put a x y b _ h0 h1 h2 h3] at h_
  exact h_
 ·have h_ := hC5 p u l hp hq
  rw [putB_put a x y b _ h0 h1 h2 h3] at h_
  exact h_
end Go.Proofs.Ytbfialebaoeicaa.X
