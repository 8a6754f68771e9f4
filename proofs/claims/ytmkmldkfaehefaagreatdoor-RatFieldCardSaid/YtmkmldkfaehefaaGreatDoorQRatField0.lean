/-
The law RatField holds at every input that its row lets in: the row's walk and its plain law, tied to the program's text. Conditions: none beyond the given row's own.
Parts of the proof, in build order: LRatField0, LRatField1, LRatField2, LRatField3, LRatField, PuRatField, RowRatField.
-/
import Derived.Test.YtmkmldkfaehefaaGreatDoorC4
import Derived.Test.YtmkmldkfaehefaaGreatDoorProg
import Derived.Below
import Derived.Deep.Draws
import Derived.Deep.AppendLies
import Derived.Maps.AppendAt
import Derived.OwnWalk
import Derived.Laws.BytesArg
import Derived.Laws.MakeOwn
import Derived.Laws.OwnMore
import Derived.Deep.OwnRows
import Derived.Tactics
import Derived.Lib.ConvBytes
import Derived.Laws.Slices
import Derived.WalkKit
import Derived.KernelRfl
import Derived.RowKit3
import Derived.Deep.LoopGhost
import Derived.Deep.QuietTactic
import Derived.BigQuiet
import Derived.WideLaws
import Derived.Deep.DeepCutAuto
import Derived.Deep.CutBlock
import Derived.Deep.RegionHeld3
import Derived.Laws.Rows
import Derived.Lib.AppendStr
import Derived.ArgAppend
import Derived.Laws.IdiomCopy
import Derived.OrdersHeld
import Derived.Laws.BitsLemmas
import Derived.RowKit
import Derived.Test.YtmkmldkfaehefaaGreatDoorC0
import Derived.Test.YtmkmldkfaehefaaGreatDoorC5
import Derived.Test.YtmkmldkfaehefaaGreatDoorC2
import Derived.Test.YtmkmldkfaehefaaGreatDoorTie
import Derived.Test.YtmkmldkfaehefaaGreatDoorCards
import Derived.SevenTiedAt
set_option linter.unusedVariables false
set_option linter.unusedSimpArgs false
open Go.RowKit Go.Proofs.YtmkmldkfaehefaaGreatDoorW.PrintWords Go.Proofs.YtmkmldkfaehefaaGreatDoorW.PrintLast Go.Proofs.YtmkmldkfaehefaaGreatDoorW.PrintMore
attribute [local go_sem] max2_int min2_int max_two min_two max_three min_three max_four min_four   -- for this text's walks alone
section
namespace Go.Proofs.YtmkmldkfaehefaaGreatDoor.LRatField
def errW : Option Int → Value
 | none => .nilIface
 | some c => .iface 0 (.int .i64 c)
theorem errW_none : errW none = .nilIface := rfl
theorem errW_some (c : Int) : errW (some c) = .iface 0 (.int .i64 c) := rfl
theorem info35 : (Tryz.prog.info? 35).map (fun i => (i.zero, i.size, i.bytes)) = some (some (.agg #[(.string ⟨#[]⟩), (.string ⟨#[]⟩)]), 2, 32) := by kernel_rfl
end Go.Proofs.YtmkmldkfaehefaaGreatDoor.LRatField
end

section
namespace Go.Proofs.YtmkmldkfaehefaaGreatDoor.LRatField
theorem eqA35 (d : Nat) (w : World) (x0 y0 : ByteArray) (x1 y1 : ByteArray) :
  (Op.equalIn (d + 2) 35 (.agg #[.string x0, .string x1]) (.agg #[.string y0, .string y1])).run Tryz.prog w = .ok (x0.toList == y0.toList && (x1.toList == y1.toList)) w := by
 refine eqA_of Tryz.underlying35 (by kernel_rfl) ?_; refine eqf_cons (by rfl) (by go_simp; rfl) (by go_simp; rfl) (by go_simp) ?_; exact eqf_last (by rfl) (by go_simp; rfl) (by go_simp; rfl) (by go_simp)
end Go.Proofs.YtmkmldkfaehefaaGreatDoor.LRatField
end

section
namespace Go.Proofs.YtmkmldkfaehefaaGreatDoor.LRatField
end Go.Proofs.YtmkmldkfaehefaaGreatDoor.LRatField
end

section
namespace Go.Proofs.YtmkmldkfaehefaaGreatDoor.LRatField
open Go.Proofs.YtmkmldkfaehefaaGreatDoor.Pz (S35 k35 k35_mkM)
attribute [local go_sem high] eqA35
mutual
def dl3_RatField.j0 : Nat → Bool → ByteArray → ByteArray → ByteArray → ByteArray → ByteArray → ByteArray → Option (Bool)
 | 0, _, _, _, _, _, _, _ => none
 | k + 1, x18, x102000, x102001, x103000, x103001, x104000, x104001 => if x18 = true then ((dl3_fixed.f).bind fun t109 => (some t109)) else ((rat_Add.f x102000 x102001 x103000 x103001).bind fun bt110 => ((rat_Add.f bt110.1 bt110.2 x104000 x104001).bind fun bt112 => ((rat_Add.f x104000 x104001 x103000 x103001).bind fun bt114 => ((rat_Add.f x102000 x102001 bt114.1 bt114.2).bind fun bt116 => (if (!(bt112.1.toList == bt116.1.toList) || (!(bt112.2.toList == bt116.2.toList))) = true then (dl3_RatField.j1 k true x102000 x102001 x103000 x103001) else ((rat_Mul.f x102000 x102001 x103000 x103001).bind fun bt118 => ((rat_Mul.f bt118.1 bt118.2 x104000 x104001).bind fun bt120 => ((rat_Mul.f x104000 x104001 x103000 x103001).bind fun bt122 => ((rat_Mul.f x102000 x102001 bt122.1 bt122.2).bind fun bt124 => (if (!(bt120.1.toList == bt124.1.toList) || (!(bt120.2.toList == bt124.2.toList))) = true then (dl3_RatField.j1 k true x102000 x102001 x103000 x103001) else ((rat_Add.f x103000 x103001 x104000 x104001).bind fun bt126 => ((rat_Mul.f x102000 x102001 bt126.1 bt126.2).bind fun bt128 => ((rat_Mul.f x102000 x102001 x103000 x103001).bind fun bt130 => ((rat_Mul.f x102000 x102001 x104000 x104001).bind fun bt132 => ((rat_Add.f bt130.1 bt130.2 bt132.1 bt132.2).bind fun bt134 => (if (!(bt128.1.toList == bt134.1.toList) || (!(bt128.2.toList == bt134.2.toList))) = true then (dl3_RatField.j1 k true x102000 x102001 x103000 x103001) else ((rat_Add.f x102000 x102001 x103000 x103001).bind fun bt136 => ((rat_May.f bt136.1 bt136.2).bind fun t138 => (if t138 = true then ((rat_Mul.f x102000 x102001 x103000 x103001).bind fun bt139 => ((rat_May.f bt139.1 bt139.2).bind fun t141 => (dl3_RatField.j1 k (!t141) x102000 x102001 x103000 x103001))) else (dl3_RatField.j1 k true x102000 x102001 x103000 x103001))))))))))))))))))))
def dl3_RatField.j1 : Nat → Bool → ByteArray → ByteArray → ByteArray → ByteArray → Option (Bool)
 | 0, _, _, _, _, _ => none
 | k + 1, x72, x102000, x102001, x103000, x103001 => if x72 = true then (some false) else ((rat_Div.f x102000 x102001 x103000 x103001).bind fun bt142 => ((rat_Sign.f x103000 x103001).bind fun t146 => (if (bt142.2.2 != (t146 != 0)) = true then (dl3_RatField.j2 k true x102000 x102001 x103000 x103001) else (if bt142.2.2 = true then ((rat_Mul.f bt142.1 bt142.2.1 x103000 x103001).bind fun bt147 => (dl3_RatField.j2 k (!(bt147.1.toList == x102000.toList) || (!(bt147.2.toList == x102001.toList))) x102000 x102001 x103000 x103001)) else (dl3_RatField.j2 k false x102000 x102001 x103000 x103001)))))
def dl3_RatField.j2 : Nat → Bool → ByteArray → ByteArray → ByteArray → ByteArray → Option (Bool)
 | 0, _, _, _, _, _ => none
 | k + 1, x93, x102000, x102001, x103000, x103001 => if x93 = true then (some false) else ((rat_Sub.f x102000 x102001 x102000 x102001).bind fun bt149 => ((rat_Of.f 0).bind fun bt151 => (if (bt149.1.toList == bt151.1.toList && (bt149.2.toList == bt151.2.toList)) = true then ((rat_Sub.f x102000 x102001 x103000 x103001).bind fun bt153 => ((rat_Add.f bt153.1 bt153.2 x103000 x103001).bind fun bt155 => (some (bt155.1.toList == x102000.toList && (bt155.2.toList == x102001.toList))))) else (some false))))
end
def dl3_RatField.f (k : Nat) (a0_0 : ByteArray) (a0_1 : ByteArray) (a1_0 : ByteArray) (a1_1 : ByteArray) (a2_0 : ByteArray) (a2_1 : ByteArray) : Option (Bool) := (dl3_fixed.f).bind fun t104 => (if t104 = true then ((r3_Good.f (([(⟨a0_0, a0_1⟩ : S35), (⟨a1_0, a1_1⟩ : S35), (⟨a2_0, a2_1⟩ : S35)] : List (S35)))).bind fun t108 => (dl3_RatField.j0 k (!t108) a0_0 a0_1 a1_0 a1_1 a2_0 a2_1)) else (dl3_RatField.j0 k true a0_0 a0_1 a1_0 a1_1 a2_0 a2_1))
def dl3_RatField.T3 : Bool × List (List Nat × List Nat) := (true, [([], []), ([], []), ([0, 1], [0, 1]), ([], []), ([2, 3, 2], [2, 3]), ([], []), ([], []), ([], []), ([6, 7, 4], [6, 7]), ([5, 8, 8], [5, 8]), ([4, 9], [4, 9]), ([10, 9], [10]), ([11], [11]), ([11], [11]), ([12, 13, 11, 11], [11, 12, 13]), ([11], [11]), ([14, 15, 14, 11], [11, 14, 15]), ([11], [11]), ([11], [11]), ([11], [11]), ([18, 19, 16, 11], [11, 18, 19]), ([17, 20, 20, 11], [11, 17, 20]), ([16, 21, 11], [11, 16, 21]), ([11, 22], [11, 22]), ([23, 21], [23]), ([24], [24]), ([24], [24]), ([24], [24]), ([26, 27, 24, 24], [24, 26, 27]), ([25, 28, 28, 24], [24, 25, 28]), ([24], [24]), ([24], [24]), ([30, 31, 29, 24], [24, 30, 31]), ([24], [24]), ([24], [24]), ([33, 34, 32, 24], [24, 33, 34]), ([32, 35, 35, 24], [24, 32, 35]), ([29, 36, 24], [24, 29, 36]), ([24, 37], [24, 37]), ([38, 36], [38]), ([39], [39]), ([39], [39]), ([40, 41, 39, 39], [39, 40, 41]), ([42, 42, 39], [39, 42]), ([43, 39], [39, 43]), ([39, 44], [39, 44]), ([45, 43], [45]), ([46], [46]), ([46], [46]), ([47, 48, 46, 46], [46, 47, 48]), ([49, 49, 46], [46, 49]), ([50, 46], [46, 50]), ([46, 51], [46, 51])])
def dl3_RatField.B3 : List Nat := [0, 0, 3, 0, 15, 0, 0, 0, 223, 511, 1023, 2047, 4095, 4095, 16383, 4095, 65535, 4095, 4095, 4095, 917503, 2097151, 4194303, 8388607, 16777215, 33554431, 33554431, 33554431, 234881023, 536870911, 33554431, 33554431, 4294967295, 33554431, 33554431, 34359738367, 68719476735, 137438953471, 274877906943, 549755813887, 1099511627775, 1099511627775, 4398046511103, 8796093022207, 17592186044415, 35184372088831, 70368744177663, 140737488355327, 140737488355327, 562949953421311, 1125899906842623, 2251799813685247, 4503599627370495]
theorem dl3_RatField.tab3 : rtab .any (opsOf Tryz.f5 3) = dl3_RatField.T3 := by kernel_rfl
theorem dl3_RatField.bits3 : waitsOk dl3_RatField.T3.2 dl3_RatField.B3 = true := by kernel_rfl
def dl3_RatField.T6 : Bool × List (List Nat × List Nat) := (true, [([], []), ([], []), ([1], [1]), ([2], [2]), ([0, 3], [0, 3]), ([4, 2], [4]), ([5], [5]), ([6, 5, 5], [5, 6]), ([7], [7]), ([7], [7]), ([8, 9, 7, 7], [7, 8, 9]), ([7], [7]), ([10, 11, 7], [7, 10, 11]), ([7, 12, 5], [5, 7, 12]), ([5, 13], [5, 13])])
def dl3_RatField.B6 : List Nat := [0, 0, 2, 6, 15, 31, 63, 127, 255, 255, 1023, 255, 4095, 8191, 16383]
theorem dl3_RatField.tab6 : rtab .any (opsOf Tryz.f5 6) = dl3_RatField.T6 := by kernel_rfl
theorem dl3_RatField.bits6 : waitsOk dl3_RatField.T6.2 dl3_RatField.B6 = true := by kernel_rfl
def dl3_RatField.T8 : Bool × List (List Nat × List Nat) := (true, [([], []), ([], []), ([0, 1], [0, 1]), ([2], []), ([2, 3], [2, 3]), ([4, 3], [4]), ([5], [5]), ([5], [5]), ([6, 7, 5, 5], [5, 6, 7]), ([5], [5]), ([8, 9, 8, 5], [5, 8, 9]), ([5], [5]), ([10, 11, 5], [5, 10, 11]), ([5, 12], [5, 12]), ([13, 10, 0, 1, 2, 3, 4, 5, 6, 7, 8, 9, 10, 11, 12, 13], [13])])
def dl3_RatField.B8 : List Nat := [0, 0, 3, 7, 15, 31, 63, 63, 255, 63, 1023, 63, 4095, 8191, 16383]
theorem dl3_RatField.tab8 : rtab .any (opsOf Tryz.f5 8) = dl3_RatField.T8 := by kernel_rfl
theorem dl3_RatField.bits8 : waitsOk dl3_RatField.T8.2 dl3_RatField.B8 = true := by kernel_rfl
set_option maxHeartbeats 8000000 in
set_option maxRecDepth 100000 in
theorem dl3_RatField.calls (k : Nat) (a0_0 : ByteArray) (a0_1 : ByteArray) (a1_0 : ByteArray) (a1_1 : ByteArray) (a2_0 : ByteArray) (a2_1 : ByteArray) (r : Bool) (w : World) (hL_ : Laid w) (hr_ : Aside0 (r = true)) (h : dl3_RatField.f k a0_0 a0_1 a1_0 a1_1 a2_0 a2_1 = some r) :
  Calls Tryz.prog 5 #[.agg #[.string a0_0, .string a0_1], .agg #[.string a1_0, .string a1_1], .agg #[.string a2_0, .string a2_1]] w fun e w' => e = .returned (.bool r) ∧ Below w.heap.size w w' := by
 have hu35 := Tryz.underlying35; have HLD := Aside0.mk hL_; clear hL_; have HB := Aside0.mk (Below.refl w.heap.size w); have H := h; unfold dl3_RatField.f at H; clear h; have HC4 := Aside0.mk H; clear H; go_enter Tryz.func5, Tryz.ntmps5
 go_upto_region 1 with (first | ((with_reducible refine gate_dst (N := 3) rfl ?_); (try (refine gate_guard (by rfl) ?_; dsimp only)); refine be_ 3 #[.string a0_0, .string a0_1] 35 ?_; intro gb101 hg w5 hbox hb; have BK101 := Aside0.mk (hbox); have GW101 := ge_ HB hg; have GE101 := ge_ HB hg; replace HB := bs_ HB hb; clear hb hbox hg) | ((with_reducible refine gate_dst (N := 4) rfl ?_); (try (refine gate_guard (by rfl) ?_; dsimp only)); refine be_ 4 #[.string a1_0, .string a1_1] 35 ?_; intro gb102 hg w6 hbox hb; have BK102 := Aside0.mk (hbox); have GW102 := ge_ HB hg; have GE102 := ge_ HB hg; have NB101_102 := nl_ BK101 hg; have NB102_101 := ng_ BK101 hg; replace BK101 := kb_ BK101 hb; replace HB := bs_ HB hb; clear hb hbox hg) | ((with_reducible refine gate_dst (N := 5) rfl ?_); (try (refine gate_guard (by rfl) ?_; dsimp only)); refine be_ 5 #[.string a2_0, .string a2_1] 35 ?_; intro gb103 hg w7 hbox hb; have BK103 := Aside0.mk (hbox); have GW103 := ge_ HB hg; have GE103 := ge_ HB hg; have NB101_103 := nl_ BK101 hg; have NB103_101 := ng_ BK101 hg; have NB102_103 := nl_ BK102 hg; have NB103_102 := ng_ BK102 hg; replace BK101 := kb_ BK101 hb; replace BK102 := kb_ BK102 hb; replace HB := bs_ HB hb; clear hb hbox hg))
 (try simp only [Act.put, List.setIfInBounds_toArray, List.set_cons_zero, List.set_cons_succ])
 go_cut [18] (fun v18 wc => ∃ (kq : Nat) (x18_3 : Bool), v18 = .bool x18_3 ∧ Aside0 (dl3_RatField.j0 kq x18_3 a0_0 a0_1 a1_0 a1_1 a2_0 a2_1 = some r) ∧ Aside0 (kq ≤ k) ∧ Aside0 (wc.heap[gb101]? = some (.cells #[.string a0_0, .string a0_1] 35 (0, 0))) ∧ Aside0 (wc.heap[gb102]? = some (.cells #[.string a1_0, .string a1_1] 35 (0, 0))) ∧ Aside0 (wc.heap[gb103]? = some (.cells #[.string a2_0, .string a2_1] 35 (0, 0))) ∧ Aside0 (Below w.heap.size w wc))
 case first =>
  have H := HC4.out; clear HC4; obtain ⟨t104, A8, H⟩ := bi_ H; by_cases c9 : t104 = true
  ·subst c9; rw [if_pos rfl] at H; obtain ⟨y105, hy105⟩ : ∃ y_ : List (S35), y_ = (([(⟨a0_0, a0_1⟩ : S35), (⟨a1_0, a1_1⟩ : S35), (⟨a2_0, a2_1⟩ : S35)] : List (S35))) := ⟨_, rfl⟩
   replace H : ((r3_Good.f y105).bind fun t108 => (dl3_RatField.j0 k (!t108) a0_0 a0_1 a1_0 a1_1 a2_0 a2_1)) = some r := by first | (rw [hy105]; with_reducible exact H) | (have H2_ := (Option.bind_some _ _).symm.trans H; rw [hy105]; with_reducible exact H2_) | (have H2_ := (Option.bind_some _ _).symm.trans H; with_reducible exact H2_) | with_reducible exact H | (rw [hy105]; exact H) | exact H
   have Ny105 := Aside0.mk hy105; clear hy105; obtain ⟨t108, A10, H⟩ := bi_ H; have H' := Aside0.mk H; clear H
   go_wp2_with (first | (refine gl_ 9 Tryz.func32 #[] ?_; refine mo_ (dl3_fixed.calls  true _ (lb_ HLD HB) A8.out) ?_; intro w11 hb; replace BK101 := kb_ BK101 hb; replace BK102 := kb_ BK102 hb; replace BK103 := kb_ BK103 hb; replace HB := bs_ HB hb; (try clear hb); (try clear hb2); (try clear hk); (try clear hi); have hnb12 := NB101_102.out; have hnc12 := NB102_101.out; have hnb13 := NB101_103.out; have hnc13 := NB103_101.out; have hcz14_0 := bc_ BK101 0 rfl; have hcz14_1 := bc_ BK101 1 rfl; have hfz14_0 := blk_frozen BK101.out 0; have hfz14_1 := blk_frozen BK101.out 1; have hnb15 := NB102_103.out; have hnc15 := NB103_102.out; have hcz16_0 := bc_ BK102 0 rfl; have hcz16_1 := bc_ BK102 1 rfl; have hfz16_0 := blk_frozen BK102.out 0; have hfz16_1 := blk_frozen BK102.out 1; have hcz17_0 := bc_ BK103 0 rfl; have hcz17_1 := bc_ BK103 1 rfl; have hfz17_0 := blk_frozen BK103.out 0; have hfz17_1 := blk_frozen BK103.out 1) | ((with_reducible refine gate_dst (N := 15) rfl ?_); (try (refine gate_guard (by rfl) ?_; dsimp only)); refine Kd.R_lit k35 _ 35 ?hg (N := 15) ?hd (xs := ([(⟨a0_0, a0_1⟩ : S35), (⟨a1_0, a1_1⟩ : S35), (⟨a2_0, a2_1⟩ : S35)] : List (S35))) (inner := [.string a0_0, .string a0_1, .string a1_0, .string a1_1, .string a2_0, .string a2_1]) (ok := fun _ => True) (okp := fun _ => True) ?hr ?hp (fun _ hk => hk) trivial (Below.refl _ _) (Nat.le_refl _) (by simp) ?_; (case hd => rfl); (case hg => rfl); (case hr => first | (go_simp; done) | (go_simp; rfl)); (case hp => exact (Reps.c2 (show Kd.M k35 _ _ _ (⟨a0_0, a0_1⟩ : S35) [.string a0_0, .string a0_1] from (k35_mkM _ _ _ (⟨a0_0, a0_1⟩ : S35) )) (Reps.c2 (show Kd.M k35 _ _ _ (⟨a1_0, a1_1⟩ : S35) [.string a1_0, .string a1_1] from (k35_mkM _ _ _ (⟨a1_0, a1_1⟩ : S35) )) (Reps.c2 (show Kd.M k35 _ _ _ (⟨a2_0, a2_1⟩ : S35) [.string a2_0, .string a2_1] from (k35_mkM _ _ _ (⟨a2_0, a2_1⟩ : S35) )) (Reps.none _ _))))); intro v106 w18 ho19 hb hg_ hnew_; clear hg_ hnew_; (first | rw [← Ny105.out] at ho19 | (simp only [Int.reduceToNat] at ho19; rw [← Ny105.out] at ho19)); have HO107 := Aside0.mk (Kd.R_lower (Kd.R_newB (Kd.R_newB (Kd.R_newB ho19 (g := gb101) (o := .cells #[.string a0_0, .string a0_1] 35 (0, 0)) (k_ BK101.out)) (g := gb102) (o := .cells #[.string a1_0, .string a1_1] 35 (0, 0)) (k_ BK102.out)) (g := gb103) (o := .cells #[.string a2_0, .string a2_1] 35 (0, 0)) (k_ BK103.out)) (below_size (b_ HB.out))); replace BK101 := kb_ BK101 hb; replace BK102 := kb_ BK102 hb; replace BK103 := kb_ BK103 hb; replace HB := bs_ HB hb; clear hb ho19; obtain ⟨Ao20, co20, eo20⟩ := Kd.R_slice HO107.out; subst eo20) | (go_at_call 53; (with_reducible refine (r3_Good.calls _ _ y105 t108 _ ?side1 ?side2 A10.out).mono ?_); (case side1 => exact c_ (Kd.R_reads' HO107.out).2.2); (case side2 => exact (Kd.R_reads' HO107.out).2.1); rintro e w21 ⟨rfl, hb⟩; replace HO107 := Aside0.mk (Kd.R_below (w_ HO107.out) hb); replace BK101 := kb_ BK101 hb; replace BK102 := kb_ BK102 hb; replace BK103 := kb_ BK103 hb; replace HB := bs_ HB hb; (try clear hb); (try clear hb2); (try clear hk); (try clear hi)))
   go_meet
   case rel => exact ⟨_, (!t108), rl_, H', ⟨by first | omega | exact Nat.le_refl _⟩, ⟨k_ BK101.out⟩, ⟨k_ BK102.out⟩, ⟨k_ BK103.out⟩, ⟨b_ HB.out⟩⟩
  ·replace c9 := Bool.eq_false_iff.mpr c9; subst c9; rw [if_neg nf_] at H; have H' := Aside0.mk H; clear H
   go_wp2_with (first | (refine gl_ 9 Tryz.func32 #[] ?_; refine mo_ (dl3_fixed.calls  false _ (lb_ HLD HB) A8.out) ?_; intro w22 hb; replace BK101 := kb_ BK101 hb; replace BK102 := kb_ BK102 hb; replace BK103 := kb_ BK103 hb; replace HB := bs_ HB hb; (try clear hb); (try clear hb2); (try clear hk); (try clear hi)))
   go_meet
   case rel => exact ⟨_, (true), rl_, H', ⟨by first | omega | exact Nat.le_refl _⟩, ⟨k_ BK101.out⟩, ⟨k_ BK102.out⟩, ⟨k_ BK103.out⟩, ⟨b_ HB.out⟩⟩
 case rest =>
  clear HC4; (try clear c1); (try clear c2); (try clear p2); (try clear c3); (try clear c5); (try clear c9); (try clear c12); (try clear c13); (try clear c15); (try clear hcz14_0); (try clear hcz14_1); (try clear hcz16_0); (try clear hcz16_1); (try clear hcz17_0); (try clear hcz17_1); (try clear hfz14_0); (try clear hfz14_1); (try clear hfz16_0); (try clear hfz16_1); (try clear hfz17_0); (try clear hfz17_1); obtain ⟨kq, x18_3, rfl, HA, HJ3, BK101, BK102, BK103, HB⟩ := hcut
  cases kq with
  | zero => exact absurd HA.out (by simp [dl3_RatField.j0])
  | succ kj3 =>
   have H := HA.out; clear HA; simp only [dl3_RatField.j0] at H; by_cases c23 : x18_3 = true
   ·subst c23; rw [if_pos rfl] at H; obtain ⟨t109, A24, H⟩ := bi_ H; obtain rfl := Option.some.inj H
    go_wp2_with (first | (refine gl_ 19 Tryz.func32 #[] ?_; refine mo_ (dl3_fixed.calls  t109 _ (lb_ HLD HB) A24.out) ?_; intro w25 hb; replace BK101 := kb_ BK101 hb; replace BK102 := kb_ BK102 hb; replace BK103 := kb_ BK103 hb; replace HB := bs_ HB hb; (try clear hb); (try clear hb2); (try clear hk); (try clear hi)))
    go_ret
    exact ⟨er_, b_ HB.out⟩
   ·replace c23 := Bool.eq_false_iff.mpr c23; subst c23; rw [if_neg nf_] at H; have HC26 := Aside0.mk H; clear H
    go_upto_region 3 with (fail)
    go_cut [72] (fun v72 wc => ∃ (kq : Nat) (x72_25 : Bool), v72 = .bool x72_25 ∧ Aside0 (dl3_RatField.j1 kq x72_25 a0_0 a0_1 a1_0 a1_1 = some r) ∧ Aside0 (kq ≤ kj3) ∧ Aside0 (wc.heap[gb101]? = some (.cells #[.string a0_0, .string a0_1] 35 (0, 0))) ∧ Aside0 (wc.heap[gb102]? = some (.cells #[.string a1_0, .string a1_1] 35 (0, 0))) ∧ Aside0 (wc.heap[gb103]? = some (.cells #[.string a2_0, .string a2_1] 35 (0, 0))) ∧ Aside0 (Below w.heap.size w wc))
    case first =>
     have H := HC26.out; clear HC26; obtain ⟨⟨t110, t111⟩, A27, H⟩ := bi_ H; (try dsimp only at H); obtain ⟨⟨t112, t113⟩, A28, H⟩ := bi_ H; (try dsimp only at H); obtain ⟨⟨t114, t115⟩, A29, H⟩ := bi_ H; (try dsimp only at H); obtain ⟨⟨t116, t117⟩, A30, H⟩ := bi_ H; (try dsimp only at H); by_cases c31 : (!(t112.toList == t116.toList) || (!(t113.toList == t117.toList))) = true
     ·rw [if_pos c31] at H; exact absurd (H.trans (congrArg some hr_.out)) (by generalize kj3 = q_; rcases q_ with _ | _ | _ | q_ <;> simp [dl3_RatField.j1])
     ·rw [if_neg c31] at H
      have c31b0 : (!(t112.toList == t116.toList) || (!(t113.toList == t117.toList))) = false := by simpa using c31
      clear c31; (first | rw [c31b0] | (simp only [i64_w, i32_w]; rw [c31b0]) | skip); obtain ⟨⟨t118, t119⟩, A37, H⟩ := bi_ H; (try dsimp only at H); obtain ⟨⟨t120, t121⟩, A38, H⟩ := bi_ H; (try dsimp only at H); obtain ⟨⟨t122, t123⟩, A39, H⟩ := bi_ H; (try dsimp only at H); obtain ⟨⟨t124, t125⟩, A40, H⟩ := bi_ H; (try dsimp only at H); by_cases c41 : (!(t120.toList == t124.toList) || (!(t121.toList == t125.toList))) = true
      ·rw [if_pos c41] at H; exact absurd (H.trans (congrArg some hr_.out)) (by generalize kj3 = q_; rcases q_ with _ | _ | _ | q_ <;> simp [dl3_RatField.j1])
      ·rw [if_neg c41] at H
       have c41b0 : (!(t120.toList == t124.toList) || (!(t121.toList == t125.toList))) = false := by simpa using c41
       clear c41; obtain ⟨⟨t126, t127⟩, A51, H⟩ := bi_ H; (try dsimp only at H); obtain ⟨⟨t128, t129⟩, A52, H⟩ := bi_ H; (try dsimp only at H); obtain ⟨⟨t130, t131⟩, A53, H⟩ := bi_ H; (try dsimp only at H); obtain ⟨⟨t132, t133⟩, A54, H⟩ := bi_ H; (try dsimp only at H); obtain ⟨⟨t134, t135⟩, A55, H⟩ := bi_ H; (try dsimp only at H); by_cases c56 : (!(t128.toList == t134.toList) || (!(t129.toList == t135.toList))) = true
       ·rw [if_pos c56] at H; exact absurd (H.trans (congrArg some hr_.out)) (by generalize kj3 = q_; rcases q_ with _ | _ | _ | q_ <;> simp [dl3_RatField.j1])
       ·rw [if_neg c56] at H
        have c56b0 : (!(t128.toList == t134.toList) || (!(t129.toList == t135.toList))) = false := by simpa using c56
        clear c56; obtain ⟨⟨t136, t137⟩, A71, H⟩ := bi_ H; (try dsimp only at H); obtain ⟨t138, A72, H⟩ := bi_ H; by_cases c73 : t138 = true
        ·subst c73; rw [if_pos rfl] at H; obtain ⟨⟨t139, t140⟩, A74, H⟩ := bi_ H; (try dsimp only at H); obtain ⟨t141, A75, H⟩ := bi_ H; have H' := Aside0.mk H; clear H
         try go_wp2
         replace BK101 := Aside0.mk (blk_drew BK101.out); replace BK102 := Aside0.mk (blk_drew BK102.out); replace BK103 := Aside0.mk (blk_drew BK103.out); replace HB := Aside0.mk (below_drew1 HB.out); refine sa_ 53 (fun w' => w'.cell? ⟨gb101, 0, none⟩ = some (.string a0_0) ∧ w'.cell? ⟨gb101, 1, none⟩ = some (.string a0_1) ∧ w'.cell? ⟨gb102, 0, none⟩ = some (.string a1_0) ∧ w'.cell? ⟨gb102, 1, none⟩ = some (.string a1_1) ∧ w'.cell? ⟨gb103, 0, none⟩ = some (.string a2_0) ∧ w'.cell? ⟨gb103, 1, none⟩ = some (.string a2_1)) (fun hHeld => ?_); refine with_tabW dl3_RatField.tab3 dl3_RatField.bits3 (fun HT_ HW_ => ?_); generalize wc.drew = w76 at BK101 BK102 BK103 HB hHeld ⊢; refine t6_ 0 20 rfl rfl HT_ HW_ hHeld ?_; refine t6_ 1 21 rfl rfl HT_ HW_ hHeld ?_; refine t6_ 3 23 rfl rfl HT_ HW_ hHeld ?_; refine t6_ 5 25 rfl rfl HT_ HW_ hHeld ?_; refine t6_ 6 26 rfl rfl HT_ HW_ hHeld ?_; refine t6_ 7 27 rfl rfl HT_ HW_ hHeld ?_; refine on_ 2 (some 22) rfl rfl HT_ (fun K hK => ?_); refine gs_ Tryz.func47 #[.agg #[.string a0_0, .string a0_1], .agg #[.string a1_0, .string a1_1]] ?_; refine mo_ (rat_Add.calls a0_0 a0_1 a1_0 a1_1 t110 t111 _ (lb_ HLD HB) A27.out) ?_; intro w77 hb; replace BK101 := kb_ BK101 hb; replace BK102 := kb_ BK102 hb; replace BK103 := kb_ BK103 hb; replace HB := bs_ HB hb; (try clear hb); refine hk_ hK (fun hHeld => ?_); clear hK K; refine nm_ ?_; refine on_ 4 (some 24) rfl rfl HT_ (fun K hK => ?_); refine gs_ Tryz.func47 #[.agg #[.string t110, .string t111], .agg #[.string a2_0, .string a2_1]] ?_; refine mo_ (rat_Add.calls t110 t111 a2_0 a2_1 t112 t113 _ (lb_ HLD HB) A28.out) ?_; intro w78 hb; replace BK101 := kb_ BK101 hb; replace BK102 := kb_ BK102 hb; replace BK103 := kb_ BK103 hb; replace HB := bs_ HB hb; (try clear hb); refine hk_ hK (fun hHeld => ?_); clear hK K; refine nm_ ?_; refine on_ 8 (some 28) rfl rfl HT_ (fun K hK => ?_); refine gs_ Tryz.func47 #[.agg #[.string a2_0, .string a2_1], .agg #[.string a1_0, .string a1_1]] ?_; refine mo_ (rat_Add.calls a2_0 a2_1 a1_0 a1_1 t114 t115 _ (lb_ HLD HB) A29.out) ?_; intro w79 hb; replace BK101 := kb_ BK101 hb; replace BK102 := kb_ BK102 hb; replace BK103 := kb_ BK103 hb; replace HB := bs_ HB hb; (try clear hb); refine hk_ hK (fun hHeld => ?_); clear hK K; refine nm_ ?_; refine on_ 9 (some 29) rfl rfl HT_ (fun K hK => ?_); refine gs_ Tryz.func47 #[.agg #[.string a0_0, .string a0_1], .agg #[.string t114, .string t115]] ?_; refine mo_ (rat_Add.calls a0_0 a0_1 t114 t115 t116 t117 _ (lb_ HLD HB) A30.out) ?_; intro w80 hb; replace BK101 := kb_ BK101 hb; replace BK102 := kb_ BK102 hb; replace BK103 := kb_ BK103 hb; replace HB := bs_ HB hb; (try clear hb); refine hk_ hK (fun hHeld => ?_); clear hK K; refine nm_ ?_; refine pu_ 10 30 rfl rfl HT_ ?_; refine pu_ 11 31 rfl rfl HT_ ?_; refine t6_ 12 32 rfl rfl HT_ HW_ hHeld ?_; refine t6_ 13 33 rfl rfl HT_ HW_ hHeld ?_; refine t6_ 15 35 rfl rfl HT_ HW_ hHeld ?_; refine t6_ 17 37 rfl rfl HT_ HW_ hHeld ?_; refine t6_ 18 38 rfl rfl HT_ HW_ hHeld ?_; refine t6_ 19 39 rfl rfl HT_ HW_ hHeld ?_; refine on_ 14 (some 34) rfl rfl HT_ (fun K hK => ?_); refine gs_ Tryz.func51 #[.agg #[.string a0_0, .string a0_1], .agg #[.string a1_0, .string a1_1]] ?_; refine mo_ (rat_Mul.calls a0_0 a0_1 a1_0 a1_1 t118 t119 _ (lb_ HLD HB) A37.out) ?_; intro w81 hb; replace BK101 := kb_ BK101 hb; replace BK102 := kb_ BK102 hb; replace BK103 := kb_ BK103 hb; replace HB := bs_ HB hb; (try clear hb); refine hk_ hK (fun hHeld => ?_); clear hK K; refine nm_ ?_; refine on_ 16 (some 36) rfl rfl HT_ (fun K hK => ?_); refine gs_ Tryz.func51 #[.agg #[.string t118, .string t119], .agg #[.string a2_0, .string a2_1]] ?_; refine mo_ (rat_Mul.calls t118 t119 a2_0 a2_1 t120 t121 _ (lb_ HLD HB) A38.out) ?_; intro w82 hb; replace BK101 := kb_ BK101 hb; replace BK102 := kb_ BK102 hb; replace BK103 := kb_ BK103 hb; replace HB := bs_ HB hb; (try clear hb); refine hk_ hK (fun hHeld => ?_); clear hK K; refine nm_ ?_; refine on_ 20 (some 40) rfl rfl HT_ (fun K hK => ?_); refine gs_ Tryz.func51 #[.agg #[.string a2_0, .string a2_1], .agg #[.string a1_0, .string a1_1]] ?_; refine mo_ (rat_Mul.calls a2_0 a2_1 a1_0 a1_1 t122 t123 _ (lb_ HLD HB) A39.out) ?_; intro w83 hb; replace BK101 := kb_ BK101 hb; replace BK102 := kb_ BK102 hb; replace BK103 := kb_ BK103 hb; replace HB := bs_ HB hb; (try clear hb); refine hk_ hK (fun hHeld => ?_); clear hK K; refine nm_ ?_; refine on_ 21 (some 41) rfl rfl HT_ (fun K hK => ?_); refine gs_ Tryz.func51 #[.agg #[.string a0_0, .string a0_1], .agg #[.string t122, .string t123]] ?_; refine mo_ (rat_Mul.calls a0_0 a0_1 t122 t123 t124 t125 _ (lb_ HLD HB) A40.out) ?_; intro w84 hb; replace BK101 := kb_ BK101 hb; replace BK102 := kb_ BK102 hb; replace BK103 := kb_ BK103 hb; replace HB := bs_ HB hb; (try clear hb); refine hk_ hK (fun hHeld => ?_); clear hK K; refine nm_ ?_; refine pu_ 22 42 rfl rfl HT_ ?_; refine pu_ 23 43 rfl rfl HT_ ?_; refine pu_ 24 44 rfl rfl HT_ ?_; refine t6_ 25 45 rfl rfl HT_ HW_ hHeld ?_; refine t6_ 26 46 rfl rfl HT_ HW_ hHeld ?_; refine t6_ 27 47 rfl rfl HT_ HW_ hHeld ?_; refine t6_ 30 50 rfl rfl HT_ HW_ hHeld ?_; refine t6_ 31 51 rfl rfl HT_ HW_ hHeld ?_; refine t6_ 33 53 rfl rfl HT_ HW_ hHeld ?_; refine t6_ 34 54 rfl rfl HT_ HW_ hHeld ?_; refine on_ 28 (some 48) rfl rfl HT_ (fun K hK => ?_); refine gs_ Tryz.func47 #[.agg #[.string a1_0, .string a1_1], .agg #[.string a2_0, .string a2_1]] ?_; refine mo_ (rat_Add.calls a1_0 a1_1 a2_0 a2_1 t126 t127 _ (lb_ HLD HB) A51.out) ?_; intro w85 hb; replace BK101 := kb_ BK101 hb; replace BK102 := kb_ BK102 hb; replace BK103 := kb_ BK103 hb; replace HB := bs_ HB hb; (try clear hb); refine hk_ hK (fun hHeld => ?_); clear hK K; refine nm_ ?_; refine on_ 29 (some 49) rfl rfl HT_ (fun K hK => ?_); refine gs_ Tryz.func51 #[.agg #[.string a0_0, .string a0_1], .agg #[.string t126, .string t127]] ?_; refine mo_ (rat_Mul.calls a0_0 a0_1 t126 t127 t128 t129 _ (lb_ HLD HB) A52.out) ?_; intro w86 hb; replace BK101 := kb_ BK101 hb; replace BK102 := kb_ BK102 hb; replace BK103 := kb_ BK103 hb; replace HB := bs_ HB hb; (try clear hb); refine hk_ hK (fun hHeld => ?_); clear hK K; refine nm_ ?_; refine on_ 32 (some 52) rfl rfl HT_ (fun K hK => ?_); refine gs_ Tryz.func51 #[.agg #[.string a0_0, .string a0_1], .agg #[.string a1_0, .string a1_1]] ?_; refine mo_ (rat_Mul.calls a0_0 a0_1 a1_0 a1_1 t130 t131 _ (lb_ HLD HB) A53.out) ?_; intro w87 hb; replace BK101 := kb_ BK101 hb; replace BK102 := kb_ BK102 hb; replace BK103 := kb_ BK103 hb; replace HB := bs_ HB hb; (try clear hb); refine hk_ hK (fun hHeld => ?_); clear hK K; refine nm_ ?_; refine on_ 35 (some 55) rfl rfl HT_ (fun K hK => ?_); refine gs_ Tryz.func51 #[.agg #[.string a0_0, .string a0_1], .agg #[.string a2_0, .string a2_1]] ?_; refine mo_ (rat_Mul.calls a0_0 a0_1 a2_0 a2_1 t132 t133 _ (lb_ HLD HB) A54.out) ?_; intro w88 hb; replace BK101 := kb_ BK101 hb; replace BK102 := kb_ BK102 hb; replace BK103 := kb_ BK103 hb; replace HB := bs_ HB hb; (try clear hb); refine hk_ hK (fun hHeld => ?_); clear hK K; refine nm_ ?_; refine on_ 36 (some 56) rfl rfl HT_ (fun K hK => ?_); refine gs_ Tryz.func47 #[.agg #[.string t130, .string t131], .agg #[.string t132, .string t133]] ?_; refine mo_ (rat_Add.calls t130 t131 t132 t133 t134 t135 _ (lb_ HLD HB) A55.out) ?_; intro w89 hb; replace BK101 := kb_ BK101 hb; replace BK102 := kb_ BK102 hb; replace BK103 := kb_ BK103 hb; replace HB := bs_ HB hb; (try clear hb); refine hk_ hK (fun hHeld => ?_); clear hK K; refine nm_ ?_; refine pu_ 37 57 rfl rfl HT_ ?_; refine pu_ 38 58 rfl rfl HT_ ?_; refine pu_ 39 59 rfl rfl HT_ ?_; refine t6_ 40 60 rfl rfl HT_ HW_ hHeld ?_; refine t6_ 41 61 rfl rfl HT_ HW_ hHeld ?_; refine on_ 42 (some 62) rfl rfl HT_ (fun K hK => ?_); refine gs_ Tryz.func47 #[.agg #[.string a0_0, .string a0_1], .agg #[.string a1_0, .string a1_1]] ?_; refine mo_ (rat_Add.calls a0_0 a0_1 a1_0 a1_1 t136 t137 _ (lb_ HLD HB) A71.out) ?_; intro w90 hb; replace BK101 := kb_ BK101 hb; replace BK102 := kb_ BK102 hb; replace BK103 := kb_ BK103 hb; replace HB := bs_ HB hb; (try clear hb); refine hk_ hK (fun hHeld => ?_); clear hK K; refine nm_ ?_; refine on_ 43 (some 63) rfl rfl HT_ (fun K hK => ?_); refine gs_ Tryz.func39 #[.agg #[.string t136, .string t137]] ?_; refine mo_ (rat_May.calls t136 t137 true _ (lb_ HLD HB) A72.out) ?_; intro w91 hb; replace BK101 := kb_ BK101 hb; replace BK102 := kb_ BK102 hb; replace BK103 := kb_ BK103 hb; replace HB := bs_ HB hb; (try clear hb); refine hk_ hK (fun hHeld => ?_); clear hK K; refine nm_ ?_; refine pu_ 44 64 rfl rfl HT_ ?_; refine pu_ 45 65 rfl rfl HT_ ?_; refine pu_ 46 66 rfl rfl HT_ ?_; refine t6_ 47 67 rfl rfl HT_ HW_ hHeld ?_; refine t6_ 48 68 rfl rfl HT_ HW_ hHeld ?_; refine on_ 49 (some 69) rfl rfl HT_ (fun K hK => ?_); refine gs_ Tryz.func51 #[.agg #[.string a0_0, .string a0_1], .agg #[.string a1_0, .string a1_1]] ?_; refine mo_ (rat_Mul.calls a0_0 a0_1 a1_0 a1_1 t139 t140 _ (lb_ HLD HB) A74.out) ?_; intro w92 hb; replace BK101 := kb_ BK101 hb; replace BK102 := kb_ BK102 hb; replace BK103 := kb_ BK103 hb; replace HB := bs_ HB hb; (try clear hb); refine hk_ hK (fun hHeld => ?_); clear hK K; refine nm_ ?_; refine on_ 50 (some 70) rfl rfl HT_ (fun K hK => ?_); refine gs_ Tryz.func39 #[.agg #[.string t139, .string t140]] ?_; refine mo_ (rat_May.calls t139 t140 t141 _ (lb_ HLD HB) A75.out) ?_; intro w93 hb; replace BK101 := kb_ BK101 hb; replace BK102 := kb_ BK102 hb; replace BK103 := kb_ BK103 hb; replace HB := bs_ HB hb; (try clear hb); refine hk_ hK (fun hHeld => ?_); clear hK K; refine nm_ ?_; refine pu_ 51 71 rfl rfl HT_ ?_; refine pu_ 52 72 rfl rfl HT_ ?_; refine done_ (done_of HT_.out (by kernel_rfl)) ?_
         try go_wp2
         go_meet
         case rel => exact ⟨_, (!t141), rl_, H', ⟨by have := HJ3.out; first | omega | exact Nat.le_refl _⟩, ⟨k_ BK101.out⟩, ⟨k_ BK102.out⟩, ⟨k_ BK103.out⟩, ⟨b_ HB.out⟩⟩
        ·replace c73 := Bool.eq_false_iff.mpr c73; subst c73
         have H1 : (dl3_RatField.j1 kj3 true a0_0 a0_1 a1_0 a1_1) = some r := by rw [if_neg (show ¬ (false = true) by decide)] at H; exact H
         exact absurd (H1.trans (congrArg some hr_.out)) (by generalize kj3 = q_; rcases q_ with _ | _ | _ | q_ <;> simp [dl3_RatField.j1])
    case rest =>
     clear HC26; (try clear p2); (try clear c3); (try clear c4); (try clear c5); (try clear c39); (try clear c47); (try clear c51); obtain ⟨kq, x72_25, rfl, HA, HJ25, BK101, BK102, BK103, HB⟩ := hcut
     cases kq with
     | zero => exact absurd HA.out (by simp [dl3_RatField.j1])
     | succ kj25 =>
      have H := HA.out; clear HA; simp only [dl3_RatField.j1] at H; by_cases c110 : x72_25 = true
      ·subst c110
       have H1 : (some false) = some r := by rw [if_pos rfl] at H; exact H
       exact absurd (H1.trans (congrArg some hr_.out)) (by decide)
      ·replace c110 := Bool.eq_false_iff.mpr c110; subst c110; rw [if_neg nf_] at H; obtain ⟨⟨t142, t143, t144⟩, A111, H⟩ := bi_ H; (try dsimp only at H); have HC112 := Aside0.mk H; clear H; have hnb113 := NB101_102.out; have hnc113 := NB102_101.out; have hnb114 := NB101_103.out; have hnc114 := NB103_101.out; have hcz115_0 := bc_ BK101 0 rfl; have hcz115_1 := bc_ BK101 1 rfl; have hfz115_0 := blk_frozen BK101.out 0; have hfz115_1 := blk_frozen BK101.out 1; have hnb116 := NB102_103.out; have hnc116 := NB103_102.out; have hcz117_0 := bc_ BK102 0 rfl; have hcz117_1 := bc_ BK102 1 rfl; have hfz117_0 := blk_frozen BK102.out 0; have hfz117_1 := blk_frozen BK102.out 1
       go_upto_region 6 with (first | (refine gl_ 76 Tryz.func35 #[.agg #[.string a0_0, .string a0_1], .agg #[.string a1_0, .string a1_1]] ?_; refine mo_ (rat_Div.calls a0_0 a0_1 a1_0 a1_1 t142 t143 t144 _ (lb_ HLD HB) A111.out) ?_; intro w118 hb; replace BK101 := kb_ BK101 hb; replace BK102 := kb_ BK102 hb; replace BK103 := kb_ BK103 hb; replace HB := bs_ HB hb; (try clear hb); (try clear hb2); (try clear hk); (try clear hi)) | ((with_reducible refine gate_dst (N := 7) rfl ?_); (try (refine gate_guard (by rfl) ?_; dsimp only)); refine be_ 7 #[.string (⟨#[]⟩ : ByteArray), .string (⟨#[]⟩ : ByteArray)] 35 ?_; intro gb145 hg w119 hbox hb; have BK145 := Aside0.mk (hbox); have GW145 := ge_ HB hg; have GE145 := ge_ HB hg; have NB101_145 := nl_ BK101 hg; have NB145_101 := ng_ BK101 hg; have NB102_145 := nl_ BK102 hg; have NB145_102 := ng_ BK102 hg; have NB103_145 := nl_ BK103 hg; have NB145_103 := ng_ BK103 hg; replace BK101 := kb_ BK101 hb; replace BK102 := kb_ BK102 hb; replace BK103 := kb_ BK103 hb; replace HB := bs_ HB hb; clear hb hbox hg; have hnb120 := NB145_101.out; have hnc120 := NB101_145.out; have hnb121 := NB145_102.out; have hnc121 := NB102_145.out; have hnb122 := NB145_103.out; have hnc122 := NB103_145.out; have hcz123_0 := bc_ BK145 0 rfl; have hcz123_1 := bc_ BK145 1 rfl; have hfz123_0 := blk_frozen BK145.out 0; have hfz123_1 := blk_frozen BK145.out 1))
       (try simp only [Act.put, List.setIfInBounds_toArray, List.set_cons_zero, List.set_cons_succ])
       go_cut [93] (fun v93 wc => ∃ (kq : Nat) (x93_111 : Bool), v93 = .bool x93_111 ∧ Aside0 (dl3_RatField.j2 kq x93_111 a0_0 a0_1 a1_0 a1_1 = some r) ∧ Aside0 (kq ≤ kj25) ∧ Aside0 (wc.heap[gb101]? = some (.cells #[.string a0_0, .string a0_1] 35 (0, 0))) ∧ Aside0 (wc.heap[gb102]? = some (.cells #[.string a1_0, .string a1_1] 35 (0, 0))) ∧ Aside0 (wc.heap[gb103]? = some (.cells #[.string a2_0, .string a2_1] 35 (0, 0))) ∧ Aside0 (wc.heap[gb145]? = some (.cells #[.string t142, .string t143] 35 (0, 0))) ∧ Aside0 (Below w.heap.size w wc))
       case first =>
        have H := HC112.out; clear HC112; obtain ⟨t146, A124, H⟩ := bi_ H; by_cases c125 : (t144 != (t146 != 0)) = true
        ·rw [if_pos c125] at H; exact absurd (H.trans (congrArg some hr_.out)) (by generalize kj25 = q_; rcases q_ with _ | _ | _ | q_ <;> simp [dl3_RatField.j2])
        ·rw [if_neg c125] at H
         have c125b0 : (t144 != (t146 != 0)) = false := by simpa using c125
         (try (have c125b1 : decide (t144 = (t146 != 0)) = true := by simpa using c125)); (try (have c125b2 : (t144 == (t146 != 0)) = true := by simpa using c125)); clear c125; (first | rw [c125b0] | (simp only [i64_w, i32_w]; rw [c125b0]) | skip); by_cases c129 : t144 = true
         ·subst c129; rw [if_pos rfl] at H; obtain ⟨⟨t147, t148⟩, A130, H⟩ := bi_ H; (try dsimp only at H); have H' := Aside0.mk H; clear H
          try go_wp2
          have n0_ : Aside0 (((w119.setCell ⟨gb145, 0, none⟩ (.string t142)).setCell ⟨gb145, 1, none⟩ (.string t143)).heap[gb101]? = some (.cells #[.string a0_0, .string a0_1] 35 (0, 0))) := ⟨fr_ BK101.out⟩; have n1_ : Aside0 (((w119.setCell ⟨gb145, 0, none⟩ (.string t142)).setCell ⟨gb145, 1, none⟩ (.string t143)).heap[gb102]? = some (.cells #[.string a1_0, .string a1_1] 35 (0, 0))) := ⟨fr_ BK102.out⟩; have n2_ : Aside0 (((w119.setCell ⟨gb145, 0, none⟩ (.string t142)).setCell ⟨gb145, 1, none⟩ (.string t143)).heap[gb103]? = some (.cells #[.string a2_0, .string a2_1] 35 (0, 0))) := ⟨fr_ BK103.out⟩; have n3_ : Aside0 (((w119.setCell ⟨gb145, 0, none⟩ (.string t142)).setCell ⟨gb145, 1, none⟩ (.string t143)).heap[gb145]? = some (.cells #[.string t142, .string t143] 35 (0, 0))) := ⟨rp_ BK145.out⟩; have n4_ : Aside0 (Below w.heap.size w ((w119.setCell ⟨gb145, 0, none⟩ (.string t142)).setCell ⟨gb145, 1, none⟩ (.string t143))) := ⟨b_ HB.out⟩; (try clear BK101); (try clear BK102); (try clear BK103); (try clear BK145); (try clear HB); generalize ((w119.setCell ⟨gb145, 0, none⟩ (.string t142)).setCell ⟨gb145, 1, none⟩ (.string t143)) = w131 at n0_ n1_ n2_ n3_ n4_ ⊢; have BK101 := n0_; have BK102 := n1_; have BK103 := n2_; have BK145 := n3_; have HB := n4_; clear n0_ n1_ n2_ n3_ n4_; replace BK101 := Aside0.mk (blk_drew BK101.out); replace BK102 := Aside0.mk (blk_drew BK102.out); replace BK103 := Aside0.mk (blk_drew BK103.out); replace BK145 := Aside0.mk (blk_drew BK145.out); replace HB := Aside0.mk (below_drew1 HB.out); refine sa_ 15 (fun w' => w'.cell? ⟨gb102, 0, none⟩ = some (.string a1_0) ∧ w'.cell? ⟨gb102, 1, none⟩ = some (.string a1_1) ∧ w'.cell? ⟨gb145, 0, none⟩ = some (.string t142) ∧ w'.cell? ⟨gb145, 1, none⟩ = some (.string t143) ∧ w'.cell? ⟨gb101, 0, none⟩ = some (.string a0_0) ∧ w'.cell? ⟨gb101, 1, none⟩ = some (.string a0_1)) (fun hHeld => ?_); refine with_tabW dl3_RatField.tab6 dl3_RatField.bits6 (fun HT_ HW_ => ?_); generalize w131.drew = w132 at BK101 BK102 BK103 BK145 HB hHeld ⊢; refine pu_ 0 79 rfl rfl HT_ ?_; refine t6_ 1 80 rfl rfl HT_ HW_ hHeld ?_; refine on_ 2 (some 81) rfl rfl HT_ (fun K hK => ?_); refine gs_ Tryz.func41 #[.agg #[.string a1_0, .string a1_1]] ?_; refine mo_ (rat_Sign.calls a1_0 a1_1 t146 _ (lb_ HLD HB) A124.out) ?_; intro w133 hb; replace BK101 := kb_ BK101 hb; replace BK102 := kb_ BK102 hb; replace BK103 := kb_ BK103 hb; replace BK145 := kb_ BK145 hb; replace HB := bs_ HB hb; (try clear hb); refine hk_ hK (fun hHeld => ?_); clear hK K; refine nm_ ?_; refine pu_ 3 82 rfl rfl HT_ ?_; refine pu_ 4 83 rfl rfl HT_ ?_; refine pu_ 5 84 rfl rfl HT_ ?_; refine pu_ 6 85 rfl rfl HT_ ?_; refine pu_ 7 86 rfl rfl HT_ ?_; refine t6_ 8 87 rfl rfl HT_ HW_ hHeld ?_; refine t6_ 9 88 rfl rfl HT_ HW_ hHeld ?_; refine t6_ 11 90 rfl rfl HT_ HW_ hHeld ?_; refine on_ 10 (some 89) rfl rfl HT_ (fun K hK => ?_); refine gs_ Tryz.func51 #[.agg #[.string t142, .string t143], .agg #[.string a1_0, .string a1_1]] ?_; refine mo_ (rat_Mul.calls t142 t143 a1_0 a1_1 t147 t148 _ (lb_ HLD HB) A130.out) ?_; intro w134 hb; replace BK101 := kb_ BK101 hb; replace BK102 := kb_ BK102 hb; replace BK103 := kb_ BK103 hb; replace BK145 := kb_ BK145 hb; replace HB := bs_ HB hb; (try clear hb); refine hk_ hK (fun hHeld => ?_); clear hK K; refine nm_ ?_; refine pu_ 12 91 rfl rfl HT_ ?_; refine pu_ 13 92 rfl rfl HT_ ?_; refine pu_ 14 93 rfl rfl HT_ ?_; refine done_ (done_of HT_.out (by kernel_rfl)) ?_
          try go_wp2
          go_meet
          case rel => exact ⟨_, ((!(t147.toList == a0_0.toList) || (!(t148.toList == a0_1.toList)))), rl_, H', ⟨by have := HJ3.out; have := HJ25.out; first | omega | exact Nat.le_refl _⟩, ⟨k_ BK101.out⟩, ⟨k_ BK102.out⟩, ⟨k_ BK103.out⟩, ⟨k_ BK145.out⟩, ⟨b_ HB.out⟩⟩
         ·replace c129 := Bool.eq_false_iff.mpr c129; subst c129; rw [if_neg nf_] at H; have H' := Aside0.mk H; clear H
          try go_wp2
          have n0_ : Aside0 (((w119.setCell ⟨gb145, 0, none⟩ (.string t142)).setCell ⟨gb145, 1, none⟩ (.string t143)).heap[gb101]? = some (.cells #[.string a0_0, .string a0_1] 35 (0, 0))) := ⟨fr_ BK101.out⟩; have n1_ : Aside0 (((w119.setCell ⟨gb145, 0, none⟩ (.string t142)).setCell ⟨gb145, 1, none⟩ (.string t143)).heap[gb102]? = some (.cells #[.string a1_0, .string a1_1] 35 (0, 0))) := ⟨fr_ BK102.out⟩; have n2_ : Aside0 (((w119.setCell ⟨gb145, 0, none⟩ (.string t142)).setCell ⟨gb145, 1, none⟩ (.string t143)).heap[gb103]? = some (.cells #[.string a2_0, .string a2_1] 35 (0, 0))) := ⟨fr_ BK103.out⟩; have n3_ : Aside0 (((w119.setCell ⟨gb145, 0, none⟩ (.string t142)).setCell ⟨gb145, 1, none⟩ (.string t143)).heap[gb145]? = some (.cells #[.string t142, .string t143] 35 (0, 0))) := ⟨rp_ BK145.out⟩; have n4_ : Aside0 (Below w.heap.size w ((w119.setCell ⟨gb145, 0, none⟩ (.string t142)).setCell ⟨gb145, 1, none⟩ (.string t143))) := ⟨b_ HB.out⟩; (try clear BK101); (try clear BK102); (try clear BK103); (try clear BK145); (try clear HB); generalize ((w119.setCell ⟨gb145, 0, none⟩ (.string t142)).setCell ⟨gb145, 1, none⟩ (.string t143)) = w135 at n0_ n1_ n2_ n3_ n4_ ⊢; have BK101 := n0_; have BK102 := n1_; have BK103 := n2_; have BK145 := n3_; have HB := n4_; clear n0_ n1_ n2_ n3_ n4_; replace BK101 := Aside0.mk (blk_drew BK101.out); replace BK102 := Aside0.mk (blk_drew BK102.out); replace BK103 := Aside0.mk (blk_drew BK103.out); replace BK145 := Aside0.mk (blk_drew BK145.out); replace HB := Aside0.mk (below_drew1 HB.out); refine sa_ 15 (fun w' => w'.cell? ⟨gb102, 0, none⟩ = some (.string a1_0) ∧ w'.cell? ⟨gb102, 1, none⟩ = some (.string a1_1)) (fun hHeld => ?_); refine with_tabW dl3_RatField.tab6 dl3_RatField.bits6 (fun HT_ HW_ => ?_); generalize w135.drew = w136 at BK101 BK102 BK103 BK145 HB hHeld ⊢; refine pu_ 0 79 rfl rfl HT_ ?_; refine t2_ 1 80 rfl rfl HT_ HW_ hHeld ?_; refine on_ 2 (some 81) rfl rfl HT_ (fun K hK => ?_); refine gs_ Tryz.func41 #[.agg #[.string a1_0, .string a1_1]] ?_; refine mo_ (rat_Sign.calls a1_0 a1_1 t146 _ (lb_ HLD HB) A124.out) ?_; intro w137 hb; replace BK101 := kb_ BK101 hb; replace BK102 := kb_ BK102 hb; replace BK103 := kb_ BK103 hb; replace BK145 := kb_ BK145 hb; replace HB := bs_ HB hb; (try clear hb); refine hk_ hK (fun hHeld => ?_); clear hK K; refine nm_ ?_; refine pu_ 3 82 rfl rfl HT_ ?_; refine pu_ 4 83 rfl rfl HT_ ?_; refine pu_ 5 84 rfl rfl HT_ ?_; refine pu_ 6 85 rfl rfl HT_ ?_; refine pu_ 7 86 rfl rfl HT_ ?_; refine pv_ 8 87 rfl rfl HT_ ?_; refine pv_ 9 88 rfl rfl HT_ ?_; refine pv_ 10 89 rfl rfl HT_ ?_; refine pv_ 11 90 rfl rfl HT_ ?_; refine pv_ 12 91 rfl rfl HT_ ?_; refine pu_ 13 92 rfl rfl HT_ ?_; refine pu_ 14 93 rfl rfl HT_ ?_; refine done_ (done_of HT_.out (by kernel_rfl)) ?_
          try go_wp2
          go_meet
          case rel => exact ⟨_, (false), rl_, H', ⟨by have := HJ3.out; have := HJ25.out; first | omega | exact Nat.le_refl _⟩, ⟨k_ BK101.out⟩, ⟨k_ BK102.out⟩, ⟨k_ BK103.out⟩, ⟨k_ BK145.out⟩, ⟨b_ HB.out⟩⟩
       case rest =>
        clear HC112; (try clear c1); (try clear p2); (try clear c3); (try clear c4); (try clear c5); (try clear c11); (try clear c12); (try clear c35); (try clear c41); (try clear c51); (try clear c113); (try clear c114); (try clear c116); (try clear c120); (try clear c121); (try clear c122); (try clear c125); (try clear c125b0); (try clear c125b1); (try clear c125b2); (try clear c129); (try clear hcz115_0); (try clear hcz115_1); (try clear hcz117_0); (try clear hcz117_1); (try clear hcz123_0); (try clear hcz123_1); (try clear hfz115_0); (try clear hfz115_1); (try clear hfz117_0); (try clear hfz117_1); (try clear hfz123_0); (try clear hfz123_1); obtain ⟨kq, x93_111, rfl, HA, HJ111, BK101, BK102, BK103, BK145, HB⟩ := hcut
        cases kq with
        | zero => exact absurd HA.out (by simp [dl3_RatField.j2])
        | succ kj111 =>
         have H := HA.out; clear HA; simp only [dl3_RatField.j2] at H; by_cases c138 : x93_111 = true
         ·subst c138
          have H1 : (some false) = some r := by rw [if_pos rfl] at H; exact H
          exact absurd (H1.trans (congrArg some hr_.out)) (by decide)
         ·replace c138 := Bool.eq_false_iff.mpr c138; subst c138; rw [if_neg nf_] at H; obtain ⟨⟨t149, t150⟩, A139, H⟩ := bi_ H; (try dsimp only at H); obtain ⟨⟨t151, t152⟩, A140, H⟩ := bi_ H; (try dsimp only at H); by_cases c141 : (t149.toList == t151.toList && (t150.toList == t152.toList)) = true
          ·rw [if_pos c141] at H; have c141b0 : (t149.toList == t151.toList && (t150.toList == t152.toList)) = true := c141; (try (have c141b1 : decide (t149.toList = t151.toList && (t150.toList == t152.toList)) = true := by simpa using c141)); (try (have c141b2 : (t149.toList == t151.toList && (t150.toList == t152.toList)) = true := by simpa using c141)); clear c141; obtain ⟨⟨t153, t154⟩, A142, H⟩ := bi_ H; (try dsimp only at H); obtain ⟨⟨t155, t156⟩, A143, H⟩ := bi_ H; (try dsimp only at H); obtain rfl := Option.some.inj H
           try go_wp2
           replace BK101 := Aside0.mk (blk_drew BK101.out); replace BK102 := Aside0.mk (blk_drew BK102.out); replace BK103 := Aside0.mk (blk_drew BK103.out); replace BK145 := Aside0.mk (blk_drew BK145.out); replace HB := Aside0.mk (below_drew1 HB.out); refine sa_ 15 (fun w' => w'.cell? ⟨gb101, 0, none⟩ = some (.string a0_0) ∧ w'.cell? ⟨gb101, 1, none⟩ = some (.string a0_1) ∧ w'.cell? ⟨gb102, 0, none⟩ = some (.string a1_0) ∧ w'.cell? ⟨gb102, 1, none⟩ = some (.string a1_1)) (fun hHeld => ?_); refine with_tabW dl3_RatField.tab8 dl3_RatField.bits8 (fun HT_ HW_ => ?_); generalize wc.drew = w144 at BK101 BK102 BK103 BK145 HB hHeld ⊢; refine t4_ 0 94 rfl rfl HT_ HW_ hHeld ?_; refine t4_ 1 95 rfl rfl HT_ HW_ hHeld ?_; refine on_ 2 (some 96) rfl rfl HT_ (fun K hK => ?_); refine gs_ Tryz.func49 #[.agg #[.string a0_0, .string a0_1], .agg #[.string a0_0, .string a0_1]] ?_; refine mo_ (rat_Sub.calls a0_0 a0_1 a0_0 a0_1 t149 t150 _ (lb_ HLD HB) A139.out) ?_; intro w145 hb; replace BK101 := kb_ BK101 hb; replace BK102 := kb_ BK102 hb; replace BK103 := kb_ BK103 hb; replace BK145 := kb_ BK145 hb; replace HB := bs_ HB hb; (try clear hb); refine hk_ hK (fun hHeld => ?_); clear hK K; refine nm_ ?_; refine on_ 3 (some 97) rfl rfl HT_ (fun K hK => ?_); refine gs_ Tryz.func54 #[.int .i64 0] ?_; refine mo_ (rat_Of.calls 0 t151 t152 _ (lb_ HLD HB) A140.out) ?_; intro w146 hb; replace BK101 := kb_ BK101 hb; replace BK102 := kb_ BK102 hb; replace BK103 := kb_ BK103 hb; replace BK145 := kb_ BK145 hb; replace HB := bs_ HB hb; (try clear hb); refine hk_ hK (fun hHeld => ?_); clear hK K; refine nm_ ?_; refine pu_ 4 98 rfl rfl HT_ ?_; refine pu_ 5 99 rfl rfl HT_ ?_; refine t4_ 6 100 rfl rfl HT_ HW_ hHeld ?_; refine t4_ 7 101 rfl rfl HT_ HW_ hHeld ?_; refine t4_ 9 103 rfl rfl HT_ HW_ hHeld ?_; refine t4_ 11 105 rfl rfl HT_ HW_ hHeld ?_; refine on_ 8 (some 102) rfl rfl HT_ (fun K hK => ?_); refine gs_ Tryz.func49 #[.agg #[.string a0_0, .string a0_1], .agg #[.string a1_0, .string a1_1]] ?_; refine mo_ (rat_Sub.calls a0_0 a0_1 a1_0 a1_1 t153 t154 _ (lb_ HLD HB) A142.out) ?_; intro w147 hb; replace BK101 := kb_ BK101 hb; replace BK102 := kb_ BK102 hb; replace BK103 := kb_ BK103 hb; replace BK145 := kb_ BK145 hb; replace HB := bs_ HB hb; (try clear hb); refine hk_ hK (fun hHeld => ?_); clear hK K; refine nm_ ?_; refine on_ 10 (some 104) rfl rfl HT_ (fun K hK => ?_); refine gs_ Tryz.func47 #[.agg #[.string t153, .string t154], .agg #[.string a1_0, .string a1_1]] ?_; refine mo_ (rat_Add.calls t153 t154 a1_0 a1_1 t155 t156 _ (lb_ HLD HB) A143.out) ?_; intro w148 hb; replace BK101 := kb_ BK101 hb; replace BK102 := kb_ BK102 hb; replace BK103 := kb_ BK103 hb; replace BK145 := kb_ BK145 hb; replace HB := bs_ HB hb; (try clear hb); refine hk_ hK (fun hHeld => ?_); clear hK K; refine nm_ ?_; refine pu_ 12 106 rfl rfl HT_ ?_; refine pu_ 13 107 rfl rfl HT_ ?_; refine pu_ 14 6 rfl rfl HT_ ?_; refine done_ (done_of HT_.out (by kernel_rfl)) ?_
           try go_wp2
           go_ret
           exact ⟨er_, b_ HB.out⟩
          ·rw [if_neg c141] at H; exact absurd (H.trans (congrArg some hr_.out)) (by decide)
end Go.Proofs.YtmkmldkfaehefaaGreatDoor.LRatField
end

section
namespace Go.Proofs.YtmkmldkfaehefaaGreatDoor.LRatField
end Go.Proofs.YtmkmldkfaehefaaGreatDoor.LRatField
end

section
namespace Go.Proofs.YtmkmldkfaehefaaGreatDoor
theorem pureRatField (a0_0 a0_1 a1_0 a1_1 a2_0 a2_1 : ByteArray) : ∃ k, LRatField.dl3_RatField.f k a0_0 a0_1 a1_0 a1_1 a2_0 a2_1 = some true := by
 refine ⟨3, ?_⟩
 unfold LRatField.dl3_RatField.f dl3_fixed.f
 have hj : LRatField.dl3_RatField.j0 3 true a0_0 a0_1 a1_0 a1_1 a2_0 a2_1 = some true := by
  simp only [LRatField.dl3_RatField.j0]
  rfl
 rw [Option.bind_some, if_pos rfl, goods3, Option.bind_some]
 cases h0 : goodR ⟨a0_0, a0_1⟩ <;> cases h1 : goodR ⟨a1_0, a1_1⟩ <;> cases h2 : goodR ⟨a2_0, a2_1⟩
 all_goals first | exact hj | skip
 obtain ⟨x, rfl, rfl, sx⟩ := of_good h0
 obtain ⟨y, rfl, rfl, sy⟩ := of_good h1
 obtain ⟨z, rfl, rfl, sz⟩ := of_good h2
 have s1 := szR_add x y
 have s2 := szR_add (x + y) z
 have s3 := szR_add z y
 have s4 := szR_mul x y
 have s5 := szR_mul z y
 have s6 := szR_add y z
 have s7 := szR_mul x z
 have s8 := szR_sub x x
 have s9 := szR_sub x y
 have ne1 : ∀ p : Rat, ¬ (!decide (p = p)) = true := by intro p; simp
 have e1 : x + (z + y) = x + y + z := by grind
 have e2 : x * (z * y) = x * y * z := by grind
 have e3 : x * y + x * z = x * (y + z) := (Rat.mul_add x y z).symm
 have last : LRatField.dl3_RatField.j2 1 false (rT x).1 (rT x).2 (rT y).1 (rT y).2 = some true := by
  simp only [LRatField.dl3_RatField.j2]
  have e4 : x - x = ((0 : Int) : Rat) := by rw [Rat.sub_self]; rfl
  have e5 : x - y + y = x := by grind
  rw [if_neg (by decide), hSub (by omega) (by omega), Option.bind_some, hOf (by decide) (by decide), Option.bind_some, rT_beq, if_pos (decide_eq_true e4), hSub (by omega) (by omega), Option.bind_some, hAdd (by omega) (by omega), Option.bind_some, rT_beq, decide_eq_true e5]
 have mid : LRatField.dl3_RatField.j1 2 false (rT x).1 (rT x).2 (rT y).1 (rT y).2 = some true := by
  show LRatField.dl3_RatField.j1 (1 + 1) false _ _ _ _ = _
  simp only [LRatField.dl3_RatField.j1]
  rw [if_neg (by decide)]
  by_cases hy : y = 0
  ·rw [hy] at last ⊢
   rw [hDiv0 (by omega), Option.bind_some, hSign (Nat.le_trans szR_zero (by decide)), Option.bind_some, cmpQ_ne, if_neg (by decide), if_neg (by decide)]
   exact last
  ·have s10 := szR_div x hy
   have e6 : x / y * y = x := Rat.div_mul_cancel hy
   rw [hDiv (by omega) (by omega) hy, Option.bind_some, hSign (by omega), Option.bind_some, cmpQ_ne, decide_eq_false hy, if_neg (by simp), if_pos rfl, hMul (by omega) (by omega), Option.bind_some, rT_bne, e6, decide_eq_true (rfl : x = x)]
   exact last
 show LRatField.dl3_RatField.j0 (2 + 1) false _ _ _ _ _ _ = _
 simp only [LRatField.dl3_RatField.j0]
 rw [if_neg (by decide), hAdd (by omega) (by omega), Option.bind_some, hAdd (by omega) (by omega), Option.bind_some, hAdd (by omega) (by omega), Option.bind_some, hAdd (by omega) (by omega), Option.bind_some, rT_bne, e1, if_neg (ne1 _), hMul (by omega) (by omega), Option.bind_some, hMul (by omega) (by omega), Option.bind_some, hMul (by omega) (by omega), Option.bind_some, hMul (by omega) (by omega), Option.bind_some, rT_bne, e2, if_neg (ne1 _), hAdd (by omega) (by omega), Option.bind_some, hMul (by omega) (by omega), Option.bind_some, Option.bind_some, hMul (by omega) (by omega), Option.bind_some, hAdd (by omega) (by omega), Option.bind_some, rT_bne, e3, if_neg (ne1 _), Option.bind_some, hMay (by omega), Option.bind_some, if_pos rfl, Option.bind_some, hMay (by omega), Option.bind_some]
 exact mid
end Go.Proofs.YtmkmldkfaehefaaGreatDoor
end

section
namespace Go.Proofs.YtmkmldkfaehefaaGreatDoor.ratField
open Go.ChangeShapes Go.WideShapes Go.ChangeAt Go.RowKit
set_option maxRecDepth 100000 in
theorem lifted (os : Os) (started : os.Started) (H : Type) (enc : TypeId × Value → H) :
  ReturnsInHanded {} Tryz.checked os 5 .any (fun w args => (Rows.ratFieldSpec.pre enc Tryz.prog Tryz.f5 Rows.ratFieldRow.domain false w args ∧ laidMetH Tryz.prog laidL w) ∧ sizedMet enc Tryz.prog Tryz.f5 (OpenSpec.ofChange Rows.ratFieldSpec) false w args)
   (Rows.ratFieldSpec.post enc Tryz.prog Tryz.f5 false true false false) := by
 refine returnsInHanded_of_change_and (C := Tryz.checked) (X := fun w _ => laidMetH Tryz.prog laidL w) (fun _ _ _ hh h => h.of_heap hh) own started (by kernel_rfl) Tryz.func5
  (ChangeSpec.witness_shaped (enc := enc) (C := Tryz.checked) (os := os) (X := fun w _ => laidMetH Tryz.prog laidL w) false (World.doorLaid Tryz.prog 4000 os) #[.agg #[.string ByteArray.empty, .string ByteArray.empty], .agg #[.string ByteArray.empty, .string ByteArray.empty], .agg #[.string ByteArray.empty, .string ByteArray.empty]] 8 rfl (World.shaped_of_RefB (by kernel_rfl) (by kernel_rfl)) (by kernel_rfl) (by kernel_rfl) (by kernel_rfl) (door_met os _)) ?_
 intro W base args ds gs before hval0 hW _ hsz0 hL _
 have hsz : (DataW.weightsEach Tryz.prog (Tryz.f5.params.toList ++ Rows.ratFieldSpec.plain.varTypes Tryz.prog) (ds ++ gs)).all (· ≤ reachBytes) = true := hsz0
 have hval : ∀ (j : Nat) t v, Tryz.f5.params[j]? = some t → args[j]? = some v → Value.okWide Tryz.prog W .any base t v := hval0
 have hW' := hW
 obtain ⟨p, q, hA0, hV, rfl, hfz, hnd⟩ := hW
 have hA : DataW.TrodAll enc Tryz.prog W 0 (fun _ => true) true Tryz.f5.params.toList args.toList ds p := hA0
 rw [Tryz.params5] at hA hval hsz
 obtain ⟨v0, vs0, d0, ds0, p0, q0, hargs, rfl, rfl, h0, r0⟩ := trodAll_cons hA
 obtain ⟨v1, vs1, d1, ds1, p1, q1, rfl, rfl, rfl, h1, r1⟩ := trodAll_cons r0
 obtain ⟨v2, vs2, d2, ds2, p2, q2, rfl, rfl, rfl, h2, r2⟩ := trodAll_cons r1
 obtain ⟨rfl, rfl, rfl⟩ := trodAll_nil r2
 obtain rfl : args = #[v0, v1, v2] := by cases args; simp_all
 obtain ⟨rfl, rfl⟩ := trodVars_none hV
 obtain ⟨a0_0, a0_1, rfl, rfl, rfl, y0_0, y0_1⟩ := open_s2 Tryz.underlying35 Tryz.underlying9 Tryz.underlying9 (by kernel_rfl) (by kernel_rfl : Tryz.prog.cellsOf 35 = 2) (hval 0 35 v0 rfl rfl) h0
 obtain ⟨a1_0, a1_1, rfl, rfl, rfl, y1_0, y1_1⟩ := open_s2 Tryz.underlying35 Tryz.underlying9 Tryz.underlying9 (by kernel_rfl) (by kernel_rfl : Tryz.prog.cellsOf 35 = 2) (hval 1 35 v1 rfl rfl) h1
 obtain ⟨a2_0, a2_1, rfl, rfl, rfl, y2_0, y2_1⟩ := open_s2 Tryz.underlying35 Tryz.underlying9 Tryz.underlying9 (by kernel_rfl) (by kernel_rfl : Tryz.prog.cellsOf 35 = 2) (hval 2 35 v2 rfl rfl) h2
 clear hA0 hval0 hsz0 hsz
 obtain ⟨k, hf⟩ := pureRatField a0_0 a0_1 a1_0 a1_1 a2_0 a2_1 
 refine (LRatField.dl3_RatField.calls k a0_0 a0_1 a1_0 a1_1 a2_0 a2_1 true W (laid_of hL) ⟨rfl⟩ hf).mono fun e W' ⟨he, bel⟩ => ?_
 subst he
 exact ⟨_, rfl, _, _, _, [], _, [], hW', trodAll_mk1 (shut_bool Tryz.underlying4 _), (trodAll_cons_mk (shut_s2 Tryz.underlying35 Tryz.underlying9 Tryz.underlying9 (by kernel_rfl) (by kernel_rfl : Tryz.prog.cellsOf 35 = 2) y0_0 y0_1) (trodAll_cons_mk (shut_s2 Tryz.underlying35 Tryz.underlying9 Tryz.underlying9 (by kernel_rfl) (by kernel_rfl : Tryz.prog.cellsOf 35 = 2) y1_0 y1_1) (trodAll_cons_mk (shut_s2 Tryz.underlying35 Tryz.underlying9 Tryz.underlying9 (by kernel_rfl) (by kernel_rfl : Tryz.prog.cellsOf 35 = 2) y2_0 y2_1) trodAll_mk0))), rfl, bel.frame _, fun h => by cases h⟩
theorem over : Rows.RatFieldSaid :=
 OpenClaim.holds_of_wide 5 Tryz.f5 rfl rfl rfl rfl rfl rfl rfl ⟨rfl, rfl, rfl, rfl, rfl⟩ rfl rfl rfl rfl rfl (by kernel_rfl) Tryz.func5 (by kernel_rfl)
  (of_decide_eq_true (by kernel_rfl)) (by unfold Func.isWrapper; first | (rw [if_pos (by decide +kernel)]; kernel_rfl) | (rw [if_neg (by decide +kernel)]; exact ⟨rfl, rfl⟩))
  (fun os started H enc _ => lifted os started H enc)
theorem proved : Rows.RatFieldCardSaid :=
 Claim7.holds_tied_plain_at .later [] [.data, .data, .data, .sentinel, .sentinel] true (true, "bdbd4e5b09325eccd875a060e8c411f452cabddbb7ed0d3b3fcf22eeff5f72e7") true
  over (fun _ h => by cases h) (by kernel_rfl) (fun _ h => by cases h) ratField_row_tie rfl ⟨rfl, rfl⟩ (by kernel_rfl) rfl
  (fun f fn hf hfn => by
   obtain rfl : f = 5 := Option.some.inj ((show Tryz.prog.funcNamed "debenture/debenturelaw03.RatField" = some 5 by kernel_rfl).symm.trans hf) |>.symm
   obtain rfl : fn = Tryz.f5 := (Option.some.inj (Tryz.func5.symm.trans hfn)).symm
   exact ⟨by kernel_rfl, fun j t ht => by
    rw [Tryz.params5] at ht
    have hm : t ∈ [35, 35, 35] := by simpa using Array.mem_of_getElem? ht
    have hall : ([35, 35, 35].all fun u => !Tryz.prog.wantsStandIn u) = true := by kernel_rfl
    exact (show Tryz.prog.wantsStandIn t = false by simpa using List.all_eq_true.1 hall t hm)⟩)
  (by kernel_rfl)
end Go.Proofs.YtmkmldkfaehefaaGreatDoor.ratField
namespace Go.Proofs.YtmkmldkfaehefaaGreatDoor
theorem ratField_holds : Rows.RatFieldCardSaid := ratField.proved
#print axioms ratField_holds
end Go.Proofs.YtmkmldkfaehefaaGreatDoor
end
