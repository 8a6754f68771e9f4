/-
The law RatOrder holds at every input that its row lets in: the row's walk and its plain law, tied to the program's text. Conditions: none beyond the given row's own.
Parts of the proof, in build order: LRatOrder0, LRatOrder1, LRatOrder2, LRatOrder3, LRatOrder, PuRatOrder, RowRatOrder.
-/
import Derived.Test.YtmkmldkfaehefaaGreatDoorC4
import Derived.Test.YtmkmldkfaehefaaGreatDoorProg
import Derived.Below
import Derived.Deep.Draws
import Derived.Deep.AppendLies
import Derived.Maps.AppendAt
import Derived.OwnWalk
import Derived.Laws.BytesArg
import Derived.Laws.MakeOwn
import Derived.Laws.OwnMore
import Derived.Deep.OwnRows
import Derived.Tactics
import Derived.Lib.ConvBytes
import Derived.Laws.Slices
import Derived.WalkKit
import Derived.KernelRfl
import Derived.RowKit3
import Derived.Deep.LoopGhost
import Derived.Deep.QuietTactic
import Derived.BigQuiet
import Derived.WideLaws
import Derived.Deep.DeepCutAuto
import Derived.Deep.CutBlock
import Derived.Deep.RegionHeld3
import Derived.Laws.Rows
import Derived.Lib.AppendStr
import Derived.ArgAppend
import Derived.Laws.IdiomCopy
import Derived.OrdersHeld
import Derived.Laws.BitsLemmas
import Derived.RowKit
import Derived.Test.YtmkmldkfaehefaaGreatDoorC0
import Derived.Test.YtmkmldkfaehefaaGreatDoorC5
import Derived.Test.YtmkmldkfaehefaaGreatDoorC2
import Derived.Test.YtmkmldkfaehefaaGreatDoorTie
import Derived.Test.YtmkmldkfaehefaaGreatDoorCards
import Derived.SevenTiedAt
set_option linter.unusedVariables false
set_option linter.unusedSimpArgs false
open Go.RowKit Go.Proofs.YtmkmldkfaehefaaGreatDoorW.PrintWords Go.Proofs.YtmkmldkfaehefaaGreatDoorW.PrintLast Go.Proofs.YtmkmldkfaehefaaGreatDoorW.PrintMore
attribute [local go_sem] max2_int min2_int max_two min_two max_three min_three max_four min_four   -- for this text's walks alone
section
namespace Go.Proofs.YtmkmldkfaehefaaGreatDoor.LRatOrder
def errW : Option Int → Value
 | none => .nilIface
 | some c => .iface 0 (.int .i64 c)
theorem errW_none : errW none = .nilIface := rfl
theorem errW_some (c : Int) : errW (some c) = .iface 0 (.int .i64 c) := rfl
theorem info35 : (Tryz.prog.info? 35).map (fun i => (i.zero, i.size, i.bytes)) = some (some (.agg #[(.string ⟨#[]⟩), (.string ⟨#[]⟩)]), 2, 32) := by kernel_rfl
end Go.Proofs.YtmkmldkfaehefaaGreatDoor.LRatOrder
end

section
namespace Go.Proofs.YtmkmldkfaehefaaGreatDoor.LRatOrder
theorem eqA35 (d : Nat) (w : World) (x0 y0 : ByteArray) (x1 y1 : ByteArray) :
  (Op.equalIn (d + 2) 35 (.agg #[.string x0, .string x1]) (.agg #[.string y0, .string y1])).run Tryz.prog w = .ok (x0.toList == y0.toList && (x1.toList == y1.toList)) w := by
 refine eqA_of Tryz.underlying35 (by kernel_rfl) ?_; refine eqf_cons (by rfl) (by go_simp; rfl) (by go_simp; rfl) (by go_simp) ?_; exact eqf_last (by rfl) (by go_simp; rfl) (by go_simp; rfl) (by go_simp)
end Go.Proofs.YtmkmldkfaehefaaGreatDoor.LRatOrder
end

section
namespace Go.Proofs.YtmkmldkfaehefaaGreatDoor.LRatOrder
end Go.Proofs.YtmkmldkfaehefaaGreatDoor.LRatOrder
end

section
namespace Go.Proofs.YtmkmldkfaehefaaGreatDoor.LRatOrder
open Go.Proofs.YtmkmldkfaehefaaGreatDoor.Pz (S35 k35 k35_mkM)
attribute [local go_sem high] eqA35
mutual
def dl3_RatOrder.j0 : Nat → Bool → ByteArray → ByteArray → ByteArray → ByteArray → ByteArray → ByteArray → Option (Bool)
 | 0, _, _, _, _, _, _, _ => none
 | k + 1, x17, x102000, x102001, x103000, x103001, x104000, x104001 => if x17 = true then ((dl3_fixed.f).bind fun t109 => (some t109)) else ((rat_Cmp.f x102000 x102001 x103000 x103001).bind fun t110 => ((rat_Cmp.f x103000 x103001 x102000 x102001).bind fun t111 => (if t110 = (wrap64 (-t111)) then ((rat_Sub.f x102000 x102001 x103000 x103001).bind fun bt112 => ((rat_Sign.f bt112.1 bt112.2).bind fun t114 => (if t110 = t114 then ((rat_Add.f x102000 x102001 x104000 x104001).bind fun bt115 => ((rat_Add.f x103000 x103001 x104000 x104001).bind fun bt117 => ((rat_Cmp.f bt115.1 bt115.2 bt117.1 bt117.2).bind fun t119 => (if t110 = t119 then (dl3_RatOrder.j1 k t110 ((t110 == 0) != (x102000.toList == x103000.toList && (x102001.toList == x103001.toList))) x102000 x102001 x103000 x103001 x104000 x104001) else (dl3_RatOrder.j1 k t110 true x102000 x102001 x103000 x103001 x104000 x104001))))) else (dl3_RatOrder.j1 k t110 true x102000 x102001 x103000 x103001 x104000 x104001)))) else (dl3_RatOrder.j1 k t110 true x102000 x102001 x103000 x103001 x104000 x104001))))
def dl3_RatOrder.j1 : Nat → Int → Bool → ByteArray → ByteArray → ByteArray → ByteArray → ByteArray → ByteArray → Option (Bool)
 | 0, _, _, _, _, _, _, _, _ => none
 | k + 1, x7, x54, x102000, x102001, x103000, x103001, x104000, x104001 => if x54 = true then (some false) else ((rat_Sign.f x104000 x104001).bind fun t120 => (if t120 ≤ 0 then (some true) else ((rat_Mul.f x102000 x102001 x104000 x104001).bind fun bt121 => ((rat_Mul.f x103000 x103001 x104000 x104001).bind fun bt123 => ((rat_Cmp.f bt121.1 bt121.2 bt123.1 bt123.2).bind fun t125 => (some (x7 == t125)))))))
end
def dl3_RatOrder.f (k : Nat) (a0_0 : ByteArray) (a0_1 : ByteArray) (a1_0 : ByteArray) (a1_1 : ByteArray) (a2_0 : ByteArray) (a2_1 : ByteArray) : Option (Bool) := (dl3_fixed.f).bind fun t104 => (if t104 = true then ((r3_Good.f (([(⟨a0_0, a0_1⟩ : S35), (⟨a1_0, a1_1⟩ : S35), (⟨a2_0, a2_1⟩ : S35)] : List (S35)))).bind fun t108 => (dl3_RatOrder.j0 k (!t108) a0_0 a0_1 a1_0 a1_1 a2_0 a2_1)) else (dl3_RatOrder.j0 k true a0_0 a0_1 a1_0 a1_1 a2_0 a2_1))
def dl3_RatOrder.T4 : Bool × List (List Nat × List Nat) := (true, [([], []), ([], []), ([], []), ([1, 2], [1, 2]), ([3], [3]), ([0, 4], [0, 4]), ([5, 3], [5]), ([6], [6]), ([6], [6]), ([6], [6]), ([8, 9, 6, 6], [6, 8, 9]), ([10, 10, 6], [6, 10]), ([7, 11, 6], [6, 7, 11]), ([6, 12], [6, 12]), ([13, 11], [13]), ([14], [14]), ([14], [14]), ([14], [14]), ([16, 17, 14, 14], [14, 16, 17]), ([14], [14]), ([14], [14]), ([19, 20, 18, 14], [14, 19, 20]), ([18, 21, 21, 14], [14, 18, 21]), ([15, 22, 14], [14, 15, 22]), ([14, 23], [14, 23]), ([24, 22], [24]), ([25], [25]), ([26, 25], [25, 26]), ([25], [25]), ([25], [25]), ([28, 29, 25], [25, 28, 29]), ([27, 30, 25], [25, 27, 30]), ([25, 31], [25, 31])])
def dl3_RatOrder.B4 : List Nat := [0, 0, 0, 6, 14, 31, 63, 127, 127, 127, 895, 1919, 4095, 8191, 16383, 32767, 32767, 32767, 229375, 32767, 32767, 2064383, 4161535, 8388607, 16777215, 33554431, 67108863, 134217727, 67108863, 67108863, 872415231, 2147483647, 4294967295]
theorem dl3_RatOrder.tab4 : rtab .any (opsOf Tryz.f6 4) = dl3_RatOrder.T4 := by kernel_rfl
theorem dl3_RatOrder.bits4 : waitsOk dl3_RatOrder.T4.2 dl3_RatOrder.B4 = true := by kernel_rfl
def dl3_RatOrder.T6 : Bool × List (List Nat × List Nat) := (true, [([], []), ([0], [0]), ([1], [1]), ([2, 1], [2]), ([3], [3]), ([3], [3]), ([3], [3]), ([5, 6, 3, 3], [3, 5, 6]), ([3], [3]), ([3], [3]), ([8, 9, 7, 3], [3, 8, 9]), ([7, 10, 10, 3], [3, 7, 10]), ([4, 11, 3], [3, 4, 11]), ([3, 12], [3, 12]), ([13, 11, 0, 1, 2, 3, 4, 5, 6, 7, 8, 9, 10, 11, 12, 13], [13])])
def dl3_RatOrder.B6 : List Nat := [0, 1, 3, 7, 15, 15, 15, 111, 15, 15, 1007, 2031, 4095, 8191, 16383]
theorem dl3_RatOrder.tab6 : rtab .any (opsOf Tryz.f6 6) = dl3_RatOrder.T6 := by kernel_rfl
theorem dl3_RatOrder.bits6 : waitsOk dl3_RatOrder.T6.2 dl3_RatOrder.B6 = true := by kernel_rfl
set_option maxHeartbeats 8000000 in
set_option maxRecDepth 100000 in
theorem dl3_RatOrder.calls (k : Nat) (a0_0 : ByteArray) (a0_1 : ByteArray) (a1_0 : ByteArray) (a1_1 : ByteArray) (a2_0 : ByteArray) (a2_1 : ByteArray) (r : Bool) (w : World) (hL_ : Laid w) (hr_ : Aside0 (r = true)) (h : dl3_RatOrder.f k a0_0 a0_1 a1_0 a1_1 a2_0 a2_1 = some r) :
  Calls Tryz.prog 6 #[.agg #[.string a0_0, .string a0_1], .agg #[.string a1_0, .string a1_1], .agg #[.string a2_0, .string a2_1]] w fun e w' => e = .returned (.bool r) ∧ Below w.heap.size w w' := by
 have hu35 := Tryz.underlying35; have HLD := Aside0.mk hL_; clear hL_; have HB := Aside0.mk (Below.refl w.heap.size w); have H := h; unfold dl3_RatOrder.f at H; clear h; have HC4 := Aside0.mk H; clear H; go_enter Tryz.func6, Tryz.ntmps6
 go_upto_region 1 with (first | ((with_reducible refine gate_dst (N := 3) rfl ?_); (try (refine gate_guard (by rfl) ?_; dsimp only)); refine be_ 3 #[.string a0_0, .string a0_1] 35 ?_; intro gb101 hg w5 hbox hb; have BK101 := Aside0.mk (hbox); have GW101 := ge_ HB hg; have GE101 := ge_ HB hg; replace HB := bs_ HB hb; clear hb hbox hg) | ((with_reducible refine gate_dst (N := 4) rfl ?_); (try (refine gate_guard (by rfl) ?_; dsimp only)); refine be_ 4 #[.string a1_0, .string a1_1] 35 ?_; intro gb102 hg w6 hbox hb; have BK102 := Aside0.mk (hbox); have GW102 := ge_ HB hg; have GE102 := ge_ HB hg; have NB101_102 := nl_ BK101 hg; have NB102_101 := ng_ BK101 hg; replace BK101 := kb_ BK101 hb; replace HB := bs_ HB hb; clear hb hbox hg) | ((with_reducible refine gate_dst (N := 5) rfl ?_); (try (refine gate_guard (by rfl) ?_; dsimp only)); refine be_ 5 #[.string a2_0, .string a2_1] 35 ?_; intro gb103 hg w7 hbox hb; have BK103 := Aside0.mk (hbox); have GW103 := ge_ HB hg; have GE103 := ge_ HB hg; have NB101_103 := nl_ BK101 hg; have NB103_101 := ng_ BK101 hg; have NB102_103 := nl_ BK102 hg; have NB103_102 := ng_ BK102 hg; replace BK101 := kb_ BK101 hb; replace BK102 := kb_ BK102 hb; replace HB := bs_ HB hb; clear hb hbox hg))
 (try simp only [Act.put, List.setIfInBounds_toArray, List.set_cons_zero, List.set_cons_succ])
 go_cut [17] (fun v17 wc => ∃ (kq : Nat) (x17_3 : Bool), v17 = .bool x17_3 ∧ Aside0 (dl3_RatOrder.j0 kq x17_3 a0_0 a0_1 a1_0 a1_1 a2_0 a2_1 = some r) ∧ Aside0 (kq ≤ k) ∧ Aside0 (wc.heap[gb101]? = some (.cells #[.string a0_0, .string a0_1] 35 (0, 0))) ∧ Aside0 (wc.heap[gb102]? = some (.cells #[.string a1_0, .string a1_1] 35 (0, 0))) ∧ Aside0 (wc.heap[gb103]? = some (.cells #[.string a2_0, .string a2_1] 35 (0, 0))) ∧ Aside0 (Below w.heap.size w wc))
 case first =>
  have H := HC4.out; clear HC4; obtain ⟨t104, A8, H⟩ := bi_ H; by_cases c9 : t104 = true
  ·subst c9; rw [if_pos rfl] at H; obtain ⟨y105, hy105⟩ : ∃ y_ : List (S35), y_ = (([(⟨a0_0, a0_1⟩ : S35), (⟨a1_0, a1_1⟩ : S35), (⟨a2_0, a2_1⟩ : S35)] : List (S35))) := ⟨_, rfl⟩
   replace H : ((r3_Good.f y105).bind fun t108 => (dl3_RatOrder.j0 k (!t108) a0_0 a0_1 a1_0 a1_1 a2_0 a2_1)) = some r := by first | (rw [hy105]; with_reducible exact H) | (have H2_ := (Option.bind_some _ _).symm.trans H; rw [hy105]; with_reducible exact H2_) | (have H2_ := (Option.bind_some _ _).symm.trans H; with_reducible exact H2_) | with_reducible exact H | (rw [hy105]; exact H) | exact H
   have Ny105 := Aside0.mk hy105; clear hy105; obtain ⟨t108, A10, H⟩ := bi_ H; have H' := Aside0.mk H; clear H
   go_wp2_with (first | (refine gl_ 8 Tryz.func32 #[] ?_; refine mo_ (dl3_fixed.calls  true _ (lb_ HLD HB) A8.out) ?_; intro w11 hb; replace BK101 := kb_ BK101 hb; replace BK102 := kb_ BK102 hb; replace BK103 := kb_ BK103 hb; replace HB := bs_ HB hb; (try clear hb); (try clear hb2); (try clear hk); (try clear hi); have hnb12 := NB101_102.out; have hnc12 := NB102_101.out; have hnb13 := NB101_103.out; have hnc13 := NB103_101.out; have hcz14_0 := bc_ BK101 0 rfl; have hcz14_1 := bc_ BK101 1 rfl; have hfz14_0 := blk_frozen BK101.out 0; have hfz14_1 := blk_frozen BK101.out 1; have hnb15 := NB102_103.out; have hnc15 := NB103_102.out; have hcz16_0 := bc_ BK102 0 rfl; have hcz16_1 := bc_ BK102 1 rfl; have hfz16_0 := blk_frozen BK102.out 0; have hfz16_1 := blk_frozen BK102.out 1; have hcz17_0 := bc_ BK103 0 rfl; have hcz17_1 := bc_ BK103 1 rfl; have hfz17_0 := blk_frozen BK103.out 0; have hfz17_1 := blk_frozen BK103.out 1) | ((with_reducible refine gate_dst (N := 14) rfl ?_); (try (refine gate_guard (by rfl) ?_; dsimp only)); refine Kd.R_lit k35 _ 35 ?hg (N := 14) ?hd (xs := ([(⟨a0_0, a0_1⟩ : S35), (⟨a1_0, a1_1⟩ : S35), (⟨a2_0, a2_1⟩ : S35)] : List (S35))) (inner := [.string a0_0, .string a0_1, .string a1_0, .string a1_1, .string a2_0, .string a2_1]) (ok := fun _ => True) (okp := fun _ => True) ?hr ?hp (fun _ hk => hk) trivial (Below.refl _ _) (Nat.le_refl _) (by simp) ?_; (case hd => rfl); (case hg => rfl); (case hr => first | (go_simp; done) | (go_simp; rfl)); (case hp => exact (Reps.c2 (show Kd.M k35 _ _ _ (⟨a0_0, a0_1⟩ : S35) [.string a0_0, .string a0_1] from (k35_mkM _ _ _ (⟨a0_0, a0_1⟩ : S35) )) (Reps.c2 (show Kd.M k35 _ _ _ (⟨a1_0, a1_1⟩ : S35) [.string a1_0, .string a1_1] from (k35_mkM _ _ _ (⟨a1_0, a1_1⟩ : S35) )) (Reps.c2 (show Kd.M k35 _ _ _ (⟨a2_0, a2_1⟩ : S35) [.string a2_0, .string a2_1] from (k35_mkM _ _ _ (⟨a2_0, a2_1⟩ : S35) )) (Reps.none _ _))))); intro v106 w18 ho19 hb hg_ hnew_; clear hg_ hnew_; (first | rw [← Ny105.out] at ho19 | (simp only [Int.reduceToNat] at ho19; rw [← Ny105.out] at ho19)); have HO107 := Aside0.mk (Kd.R_lower (Kd.R_newB (Kd.R_newB (Kd.R_newB ho19 (g := gb101) (o := .cells #[.string a0_0, .string a0_1] 35 (0, 0)) (k_ BK101.out)) (g := gb102) (o := .cells #[.string a1_0, .string a1_1] 35 (0, 0)) (k_ BK102.out)) (g := gb103) (o := .cells #[.string a2_0, .string a2_1] 35 (0, 0)) (k_ BK103.out)) (below_size (b_ HB.out))); replace BK101 := kb_ BK101 hb; replace BK102 := kb_ BK102 hb; replace BK103 := kb_ BK103 hb; replace HB := bs_ HB hb; clear hb ho19; obtain ⟨Ao20, co20, eo20⟩ := Kd.R_slice HO107.out; subst eo20) | (go_at_call 53; (with_reducible refine (r3_Good.calls _ _ y105 t108 _ ?side1 ?side2 A10.out).mono ?_); (case side1 => exact c_ (Kd.R_reads' HO107.out).2.2); (case side2 => exact (Kd.R_reads' HO107.out).2.1); rintro e w21 ⟨rfl, hb⟩; replace HO107 := Aside0.mk (Kd.R_below (w_ HO107.out) hb); replace BK101 := kb_ BK101 hb; replace BK102 := kb_ BK102 hb; replace BK103 := kb_ BK103 hb; replace HB := bs_ HB hb; (try clear hb); (try clear hb2); (try clear hk); (try clear hi)))
   go_meet
   case rel => exact ⟨_, (!t108), rl_, H', ⟨by first | omega | exact Nat.le_refl _⟩, ⟨k_ BK101.out⟩, ⟨k_ BK102.out⟩, ⟨k_ BK103.out⟩, ⟨b_ HB.out⟩⟩
  ·replace c9 := Bool.eq_false_iff.mpr c9; subst c9; rw [if_neg nf_] at H; have H' := Aside0.mk H; clear H
   go_wp2_with (first | (refine gl_ 8 Tryz.func32 #[] ?_; refine mo_ (dl3_fixed.calls  false _ (lb_ HLD HB) A8.out) ?_; intro w22 hb; replace BK101 := kb_ BK101 hb; replace BK102 := kb_ BK102 hb; replace BK103 := kb_ BK103 hb; replace HB := bs_ HB hb; (try clear hb); (try clear hb2); (try clear hk); (try clear hi)))
   go_meet
   case rel => exact ⟨_, (true), rl_, H', ⟨by first | omega | exact Nat.le_refl _⟩, ⟨k_ BK101.out⟩, ⟨k_ BK102.out⟩, ⟨k_ BK103.out⟩, ⟨b_ HB.out⟩⟩
 case rest =>
  clear HC4; (try clear c1); (try clear c2); (try clear p2); (try clear c3); (try clear c6); (try clear c9); (try clear c12); (try clear c13); (try clear c15); (try clear hcz14_0); (try clear hcz14_1); (try clear hcz16_0); (try clear hcz16_1); (try clear hcz17_0); (try clear hcz17_1); (try clear hfz14_0); (try clear hfz14_1); (try clear hfz16_0); (try clear hfz16_1); (try clear hfz17_0); (try clear hfz17_1); obtain ⟨kq, x17_3, rfl, HA, HJ3, BK101, BK102, BK103, HB⟩ := hcut
  cases kq with
  | zero => exact absurd HA.out (by simp [dl3_RatOrder.j0])
  | succ kj3 =>
   have H := HA.out; clear HA; simp only [dl3_RatOrder.j0] at H; by_cases c23 : x17_3 = true
   ·subst c23; rw [if_pos rfl] at H; obtain ⟨t109, A24, H⟩ := bi_ H; obtain rfl := Option.some.inj H
    go_wp2_with (first | (refine gl_ 18 Tryz.func32 #[] ?_; refine mo_ (dl3_fixed.calls  t109 _ (lb_ HLD HB) A24.out) ?_; intro w25 hb; replace BK101 := kb_ BK101 hb; replace BK102 := kb_ BK102 hb; replace BK103 := kb_ BK103 hb; replace HB := bs_ HB hb; (try clear hb); (try clear hb2); (try clear hk); (try clear hi)))
    go_ret
    exact ⟨er_, b_ HB.out⟩
   ·replace c23 := Bool.eq_false_iff.mpr c23; subst c23; rw [if_neg nf_] at H; obtain ⟨t110, A26, H⟩ := bi_ H; have HC27 := Aside0.mk H; clear H; have hnb28 := NB101_102.out; have hnc28 := NB102_101.out; have hnb29 := NB101_103.out; have hnc29 := NB103_101.out; have hcz30_0 := bc_ BK101 0 rfl; have hcz30_1 := bc_ BK101 1 rfl; have hfz30_0 := blk_frozen BK101.out 0; have hfz30_1 := blk_frozen BK101.out 1; have hnb31 := NB102_103.out; have hnc31 := NB103_102.out; have hcz32_0 := bc_ BK102 0 rfl; have hcz32_1 := bc_ BK102 1 rfl; have hfz32_0 := blk_frozen BK102.out 0; have hfz32_1 := blk_frozen BK102.out 1
    go_upto_region 4 with (first | (refine gl_ 21 Tryz.func45 #[.agg #[.string a0_0, .string a0_1], .agg #[.string a1_0, .string a1_1]] ?_; refine mo_ (rat_Cmp.calls a0_0 a0_1 a1_0 a1_1 t110 _ (lb_ HLD HB) A26.out) ?_; intro w33 hb; replace BK101 := kb_ BK101 hb; replace BK102 := kb_ BK102 hb; replace BK103 := kb_ BK103 hb; replace HB := bs_ HB hb; (try clear hb); (try clear hb2); (try clear hk); (try clear hi)))
    (try simp only [Act.put, List.setIfInBounds_toArray, List.set_cons_zero, List.set_cons_succ])
    go_cut [54] (fun v54 wc => ∃ (kq : Nat) (x54_26 : Bool), v54 = .bool x54_26 ∧ Aside0 (dl3_RatOrder.j1 kq t110 x54_26 a0_0 a0_1 a1_0 a1_1 a2_0 a2_1 = some r) ∧ Aside0 (kq ≤ kj3) ∧ Aside0 (wc.heap[gb101]? = some (.cells #[.string a0_0, .string a0_1] 35 (0, 0))) ∧ Aside0 (wc.heap[gb102]? = some (.cells #[.string a1_0, .string a1_1] 35 (0, 0))) ∧ Aside0 (wc.heap[gb103]? = some (.cells #[.string a2_0, .string a2_1] 35 (0, 0))) ∧ Aside0 (Below w.heap.size w wc))
    case first =>
     have H := HC27.out; clear HC27; obtain ⟨t111, A34, H⟩ := bi_ H; by_cases c35 : t110 = (wrap64 (-t111))
     ·rw [if_pos c35] at H; have c35b0 : (t110 == (wrap64 (-t111))) = true := beq_iff_eq.mpr c35; have c35b1 : (t110 != (wrap64 (-t111))) = false := bne_eq_false_iff_eq.mpr c35; clear c35; (first | rw [c35b0] | (simp only [i64_w, i32_w]; rw [c35b0]) | skip); obtain ⟨⟨t112, t113⟩, A36, H⟩ := bi_ H; (try dsimp only at H); obtain ⟨t114, A37, H⟩ := bi_ H; by_cases c38 : t110 = t114
      ·rw [if_pos c38] at H; have c38b0 : (t110 == t114) = true := beq_iff_eq.mpr c38; have c38b1 : (t110 != t114) = false := bne_eq_false_iff_eq.mpr c38; clear c38; obtain ⟨⟨t115, t116⟩, A39, H⟩ := bi_ H; (try dsimp only at H); obtain ⟨⟨t117, t118⟩, A40, H⟩ := bi_ H; (try dsimp only at H); obtain ⟨t119, A41, H⟩ := bi_ H; by_cases c42 : t110 = t119
       ·rw [if_pos c42] at H; have c42b0 : (t110 == t119) = true := beq_iff_eq.mpr c42; have c42b1 : (t110 != t119) = false := bne_eq_false_iff_eq.mpr c42; clear c42; have H' := Aside0.mk H; clear H
        try go_wp2
        replace BK101 := Aside0.mk (blk_drew BK101.out); replace BK102 := Aside0.mk (blk_drew BK102.out); replace BK103 := Aside0.mk (blk_drew BK103.out); replace HB := Aside0.mk (below_drew1 HB.out); refine sa_ 33 (fun w' => w'.cell? ⟨gb102, 0, none⟩ = some (.string a1_0) ∧ w'.cell? ⟨gb102, 1, none⟩ = some (.string a1_1) ∧ w'.cell? ⟨gb101, 0, none⟩ = some (.string a0_0) ∧ w'.cell? ⟨gb101, 1, none⟩ = some (.string a0_1) ∧ w'.cell? ⟨gb103, 0, none⟩ = some (.string a2_0) ∧ w'.cell? ⟨gb103, 1, none⟩ = some (.string a2_1)) (fun hHeld => ?_); refine with_tabW dl3_RatOrder.tab4 dl3_RatOrder.bits4 (fun HT_ HW_ => ?_); generalize w33.drew = w43 at BK101 BK102 BK103 HB hHeld ⊢; refine pu_ 0 22 rfl rfl HT_ ?_; refine t6_ 1 23 rfl rfl HT_ HW_ hHeld ?_; refine t6_ 2 24 rfl rfl HT_ HW_ hHeld ?_; refine on_ 3 (some 25) rfl rfl HT_ (fun K hK => ?_); refine gs_ Tryz.func45 #[.agg #[.string a1_0, .string a1_1], .agg #[.string a0_0, .string a0_1]] ?_; refine mo_ (rat_Cmp.calls a1_0 a1_1 a0_0 a0_1 t111 _ (lb_ HLD HB) A34.out) ?_; intro w44 hb; replace BK101 := kb_ BK101 hb; replace BK102 := kb_ BK102 hb; replace BK103 := kb_ BK103 hb; replace HB := bs_ HB hb; (try clear hb); refine hk_ hK (fun hHeld => ?_); clear hK K; refine nm_ ?_; refine pu_ 4 26 rfl rfl HT_ ?_; refine pu_ 5 27 rfl rfl HT_ ?_; refine pu_ 6 28 rfl rfl HT_ ?_; refine pu_ 7 29 rfl rfl HT_ ?_; refine t6_ 8 30 rfl rfl HT_ HW_ hHeld ?_; refine t6_ 9 31 rfl rfl HT_ HW_ hHeld ?_; refine on_ 10 (some 32) rfl rfl HT_ (fun K hK => ?_); refine gs_ Tryz.func49 #[.agg #[.string a0_0, .string a0_1], .agg #[.string a1_0, .string a1_1]] ?_; refine mo_ (rat_Sub.calls a0_0 a0_1 a1_0 a1_1 t112 t113 _ (lb_ HLD HB) A36.out) ?_; intro w45 hb; replace BK101 := kb_ BK101 hb; replace BK102 := kb_ BK102 hb; replace BK103 := kb_ BK103 hb; replace HB := bs_ HB hb; (try clear hb); refine hk_ hK (fun hHeld => ?_); clear hK K; refine nm_ ?_; refine on_ 11 (some 33) rfl rfl HT_ (fun K hK => ?_); refine gs_ Tryz.func41 #[.agg #[.string t112, .string t113]] ?_; refine mo_ (rat_Sign.calls t112 t113 t114 _ (lb_ HLD HB) A37.out) ?_; intro w46 hb; replace BK101 := kb_ BK101 hb; replace BK102 := kb_ BK102 hb; replace BK103 := kb_ BK103 hb; replace HB := bs_ HB hb; (try clear hb); refine hk_ hK (fun hHeld => ?_); clear hK K; refine nm_ ?_; refine pu_ 12 34 rfl rfl HT_ ?_; refine pu_ 13 35 rfl rfl HT_ ?_; refine pu_ 14 36 rfl rfl HT_ ?_; refine pu_ 15 37 rfl rfl HT_ ?_; refine t6_ 16 38 rfl rfl HT_ HW_ hHeld ?_; refine t6_ 17 39 rfl rfl HT_ HW_ hHeld ?_; refine t6_ 19 41 rfl rfl HT_ HW_ hHeld ?_; refine t6_ 20 42 rfl rfl HT_ HW_ hHeld ?_; refine on_ 18 (some 40) rfl rfl HT_ (fun K hK => ?_); refine gs_ Tryz.func47 #[.agg #[.string a0_0, .string a0_1], .agg #[.string a2_0, .string a2_1]] ?_; refine mo_ (rat_Add.calls a0_0 a0_1 a2_0 a2_1 t115 t116 _ (lb_ HLD HB) A39.out) ?_; intro w47 hb; replace BK101 := kb_ BK101 hb; replace BK102 := kb_ BK102 hb; replace BK103 := kb_ BK103 hb; replace HB := bs_ HB hb; (try clear hb); refine hk_ hK (fun hHeld => ?_); clear hK K; refine nm_ ?_; refine on_ 21 (some 43) rfl rfl HT_ (fun K hK => ?_); refine gs_ Tryz.func47 #[.agg #[.string a1_0, .string a1_1], .agg #[.string a2_0, .string a2_1]] ?_; refine mo_ (rat_Add.calls a1_0 a1_1 a2_0 a2_1 t117 t118 _ (lb_ HLD HB) A40.out) ?_; intro w48 hb; replace BK101 := kb_ BK101 hb; replace BK102 := kb_ BK102 hb; replace BK103 := kb_ BK103 hb; replace HB := bs_ HB hb; (try clear hb); refine hk_ hK (fun hHeld => ?_); clear hK K; refine nm_ ?_; refine on_ 22 (some 44) rfl rfl HT_ (fun K hK => ?_); refine gs_ Tryz.func45 #[.agg #[.string t115, .string t116], .agg #[.string t117, .string t118]] ?_; refine mo_ (rat_Cmp.calls t115 t116 t117 t118 t119 _ (lb_ HLD HB) A41.out) ?_; intro w49 hb; replace BK101 := kb_ BK101 hb; replace BK102 := kb_ BK102 hb; replace BK103 := kb_ BK103 hb; replace HB := bs_ HB hb; (try clear hb); refine hk_ hK (fun hHeld => ?_); clear hK K; refine nm_ ?_; refine pu_ 23 45 rfl rfl HT_ ?_; refine pu_ 24 46 rfl rfl HT_ ?_; refine pu_ 25 47 rfl rfl HT_ ?_; refine pu_ 26 48 rfl rfl HT_ ?_; refine pu_ 27 49 rfl rfl HT_ ?_; refine t6_ 28 50 rfl rfl HT_ HW_ hHeld ?_; refine t6_ 29 51 rfl rfl HT_ HW_ hHeld ?_; refine pu_ 30 52 rfl rfl HT_ ?_; refine pu_ 31 53 rfl rfl HT_ ?_; refine pu_ 32 54 rfl rfl HT_ ?_; refine done_ (done_of HT_.out (by kernel_rfl)) ?_
        try go_wp2
        go_meet
        case rel => exact ⟨_, (((t110 == 0) != (a0_0.toList == a1_0.toList && (a0_1.toList == a1_1.toList)))), rl_, H', ⟨by have := HJ3.out; first | omega | exact Nat.le_refl _⟩, ⟨k_ BK101.out⟩, ⟨k_ BK102.out⟩, ⟨k_ BK103.out⟩, ⟨b_ HB.out⟩⟩
       ·rw [if_neg c42] at H; exact absurd (H.trans (congrArg some hr_.out)) (by generalize kj3 = q_; rcases q_ with _ | _ | _ | q_ <;> simp [dl3_RatOrder.j1])
      ·rw [if_neg c38] at H; exact absurd (H.trans (congrArg some hr_.out)) (by generalize kj3 = q_; rcases q_ with _ | _ | _ | q_ <;> simp [dl3_RatOrder.j1])
     ·rw [if_neg c35] at H; exact absurd (H.trans (congrArg some hr_.out)) (by generalize kj3 = q_; rcases q_ with _ | _ | _ | q_ <;> simp [dl3_RatOrder.j1])
    case rest =>
     clear HC27; (try clear p2); (try clear c3); (try clear c4); (try clear p6); (try clear c35); (try clear c35b0); (try clear c35b1); (try clear c38); (try clear c38b0); (try clear c38b1); (try clear c41); (try clear c45); (try clear c49); obtain ⟨kq, x54_26, rfl, HA, HJ26, BK101, BK102, BK103, HB⟩ := hcut
     cases kq with
     | zero => exact absurd HA.out (by simp [dl3_RatOrder.j1])
     | succ kj26 =>
      have H := HA.out; clear HA; simp only [dl3_RatOrder.j1] at H; by_cases c63 : x54_26 = true
      ·subst c63
       have H1 : (some false) = some r := by rw [if_pos rfl] at H; exact H
       exact absurd (H1.trans (congrArg some hr_.out)) (by decide)
      ·replace c63 := Bool.eq_false_iff.mpr c63; subst c63; rw [if_neg nf_] at H; obtain ⟨t120, A64, H⟩ := bi_ H; by_cases c65 : t120 ≤ 0
       ·rw [if_pos c65] at H; have c65b0 : decide (t120 ≤ 0) = true := decide_eq_true c65; clear c65; obtain rfl := Option.some.inj H
        try go_wp2
        replace BK101 := Aside0.mk (blk_drew BK101.out); replace BK102 := Aside0.mk (blk_drew BK102.out); replace BK103 := Aside0.mk (blk_drew BK103.out); replace HB := Aside0.mk (below_drew1 HB.out); refine sa_ 15 (fun w' => w'.cell? ⟨gb103, 0, none⟩ = some (.string a2_0) ∧ w'.cell? ⟨gb103, 1, none⟩ = some (.string a2_1)) (fun hHeld => ?_); refine with_tabW dl3_RatOrder.tab6 dl3_RatOrder.bits6 (fun HT_ HW_ => ?_); generalize wc.drew = w66 at BK101 BK102 BK103 HB hHeld ⊢; refine t2_ 0 55 rfl rfl HT_ HW_ hHeld ?_; refine on_ 1 (some 56) rfl rfl HT_ (fun K hK => ?_); refine gs_ Tryz.func41 #[.agg #[.string a2_0, .string a2_1]] ?_; refine mo_ (rat_Sign.calls a2_0 a2_1 t120 _ (lb_ HLD HB) A64.out) ?_; intro w67 hb; replace BK101 := kb_ BK101 hb; replace BK102 := kb_ BK102 hb; replace BK103 := kb_ BK103 hb; replace HB := bs_ HB hb; (try clear hb); refine hk_ hK (fun hHeld => ?_); clear hK K; refine nm_ ?_; refine pu_ 2 57 rfl rfl HT_ ?_; refine pu_ 3 58 rfl rfl HT_ ?_; refine pv_ 4 59 rfl rfl HT_ ?_; refine pv_ 5 60 rfl rfl HT_ ?_; refine pv_ 6 61 rfl rfl HT_ ?_; refine pv_ 7 62 rfl rfl HT_ ?_; refine pv_ 8 63 rfl rfl HT_ ?_; refine pv_ 9 64 rfl rfl HT_ ?_; refine pv_ 10 65 rfl rfl HT_ ?_; refine pv_ 11 66 rfl rfl HT_ ?_; refine pv_ 12 67 rfl rfl HT_ ?_; refine pu_ 13 68 rfl rfl HT_ ?_; refine pu_ 14 6 rfl rfl HT_ ?_; refine done_ (done_of HT_.out (by kernel_rfl)) ?_
        try go_wp2
        go_ret
        exact ⟨er_, b_ HB.out⟩
       ·rw [if_neg c65] at H; have c65b0 : decide (t120 ≤ 0) = false := decide_eq_false c65; clear c65; obtain ⟨⟨t121, t122⟩, A68, H⟩ := bi_ H; (try dsimp only at H); obtain ⟨⟨t123, t124⟩, A69, H⟩ := bi_ H; (try dsimp only at H); obtain ⟨t125, A70, H⟩ := bi_ H; obtain rfl := Option.some.inj H
        try go_wp2
        replace BK101 := Aside0.mk (blk_drew BK101.out); replace BK102 := Aside0.mk (blk_drew BK102.out); replace BK103 := Aside0.mk (blk_drew BK103.out); replace HB := Aside0.mk (below_drew1 HB.out); refine sa_ 15 (fun w' => w'.cell? ⟨gb103, 0, none⟩ = some (.string a2_0) ∧ w'.cell? ⟨gb103, 1, none⟩ = some (.string a2_1) ∧ w'.cell? ⟨gb101, 0, none⟩ = some (.string a0_0) ∧ w'.cell? ⟨gb101, 1, none⟩ = some (.string a0_1) ∧ w'.cell? ⟨gb102, 0, none⟩ = some (.string a1_0) ∧ w'.cell? ⟨gb102, 1, none⟩ = some (.string a1_1)) (fun hHeld => ?_); refine with_tabW dl3_RatOrder.tab6 dl3_RatOrder.bits6 (fun HT_ HW_ => ?_); generalize wc.drew = w71 at BK101 BK102 BK103 HB hHeld ⊢; refine t6_ 0 55 rfl rfl HT_ HW_ hHeld ?_; refine on_ 1 (some 56) rfl rfl HT_ (fun K hK => ?_); refine gs_ Tryz.func41 #[.agg #[.string a2_0, .string a2_1]] ?_; refine mo_ (rat_Sign.calls a2_0 a2_1 t120 _ (lb_ HLD HB) A64.out) ?_; intro w72 hb; replace BK101 := kb_ BK101 hb; replace BK102 := kb_ BK102 hb; replace BK103 := kb_ BK103 hb; replace HB := bs_ HB hb; (try clear hb); refine hk_ hK (fun hHeld => ?_); clear hK K; refine nm_ ?_; refine pu_ 2 57 rfl rfl HT_ ?_; refine pu_ 3 58 rfl rfl HT_ ?_; refine pu_ 4 59 rfl rfl HT_ ?_; refine t6_ 5 60 rfl rfl HT_ HW_ hHeld ?_; refine t6_ 6 61 rfl rfl HT_ HW_ hHeld ?_; refine t6_ 8 63 rfl rfl HT_ HW_ hHeld ?_; refine t6_ 9 64 rfl rfl HT_ HW_ hHeld ?_; refine on_ 7 (some 62) rfl rfl HT_ (fun K hK => ?_); refine gs_ Tryz.func51 #[.agg #[.string a0_0, .string a0_1], .agg #[.string a2_0, .string a2_1]] ?_; refine mo_ (rat_Mul.calls a0_0 a0_1 a2_0 a2_1 t121 t122 _ (lb_ HLD HB) A68.out) ?_; intro w73 hb; replace BK101 := kb_ BK101 hb; replace BK102 := kb_ BK102 hb; replace BK103 := kb_ BK103 hb; replace HB := bs_ HB hb; (try clear hb); refine hk_ hK (fun hHeld => ?_); clear hK K; refine nm_ ?_; refine on_ 10 (some 65) rfl rfl HT_ (fun K hK => ?_); refine gs_ Tryz.func51 #[.agg #[.string a1_0, .string a1_1], .agg #[.string a2_0, .string a2_1]] ?_; refine mo_ (rat_Mul.calls a1_0 a1_1 a2_0 a2_1 t123 t124 _ (lb_ HLD HB) A69.out) ?_; intro w74 hb; replace BK101 := kb_ BK101 hb; replace BK102 := kb_ BK102 hb; replace BK103 := kb_ BK103 hb; replace HB := bs_ HB hb; (try clear hb); refine hk_ hK (fun hHeld => ?_); clear hK K; refine nm_ ?_; refine on_ 11 (some 66) rfl rfl HT_ (fun K hK => ?_); refine gs_ Tryz.func45 #[.agg #[.string t121, .string t122], .agg #[.string t123, .string t124]] ?_; refine mo_ (rat_Cmp.calls t121 t122 t123 t124 t125 _ (lb_ HLD HB) A70.out) ?_; intro w75 hb; replace BK101 := kb_ BK101 hb; replace BK102 := kb_ BK102 hb; replace BK103 := kb_ BK103 hb; replace HB := bs_ HB hb; (try clear hb); refine hk_ hK (fun hHeld => ?_); clear hK K; refine nm_ ?_; refine pu_ 12 67 rfl rfl HT_ ?_; refine pu_ 13 68 rfl rfl HT_ ?_; refine pu_ 14 6 rfl rfl HT_ ?_; refine done_ (done_of HT_.out (by kernel_rfl)) ?_
        try go_wp2
        go_ret
        exact ⟨er_, b_ HB.out⟩
end Go.Proofs.YtmkmldkfaehefaaGreatDoor.LRatOrder
end

section
namespace Go.Proofs.YtmkmldkfaehefaaGreatDoor.LRatOrder
end Go.Proofs.YtmkmldkfaehefaaGreatDoor.LRatOrder
end

section
namespace Go.Proofs.YtmkmldkfaehefaaGreatDoor
theorem pureRatOrder (a0_0 a0_1 a1_0 a1_1 a2_0 a2_1 : ByteArray) : ∃ k, LRatOrder.dl3_RatOrder.f k a0_0 a0_1 a1_0 a1_1 a2_0 a2_1 = some true := by
 refine ⟨3, ?_⟩
 unfold LRatOrder.dl3_RatOrder.f dl3_fixed.f
 have hj : LRatOrder.dl3_RatOrder.j0 3 true a0_0 a0_1 a1_0 a1_1 a2_0 a2_1 = some true := by
  simp only [LRatOrder.dl3_RatOrder.j0]
  rfl
 rw [Option.bind_some, if_pos rfl, goods3, Option.bind_some]
 cases h0 : goodR ⟨a0_0, a0_1⟩ <;> cases h1 : goodR ⟨a1_0, a1_1⟩ <;> cases h2 : goodR ⟨a2_0, a2_1⟩
 all_goals first | exact hj | skip
 obtain ⟨x, rfl, rfl, sx⟩ := of_good h0
 obtain ⟨y, rfl, rfl, sy⟩ := of_good h1
 obtain ⟨z, rfl, rfl, sz⟩ := of_good h2
 have s1 := szR_sub x y
 have s2 := szR_add x z
 have s3 := szR_add y z
 have s4 := szR_mul x z
 have s5 := szR_mul y z
 show LRatOrder.dl3_RatOrder.j0 (2 + 1) false _ _ _ _ _ _ = _
 simp only [LRatOrder.dl3_RatOrder.j0]
 have c2 : cmpQ (x - y) 0 = cmpQ x y := cmpQ_sub x y
 have c3 : cmpQ (x + z) (y + z) = cmpQ x y := cmpQ_same (by constructor <;> intro h <;> grind) (by constructor <;> intro h <;> grind)
 rw [if_neg (by decide), hCmp (by omega) (by omega), Option.bind_some, hCmp (by omega) (by omega), Option.bind_some, cmpQ_rev, if_pos rfl, hSub (by omega) (by omega), Option.bind_some, hSign (by omega), Option.bind_some, c2, if_pos rfl, hAdd (by omega) (by omega), Option.bind_some, hAdd (by omega) (by omega), Option.bind_some, hCmp (by omega) (by omega), Option.bind_some, c3, if_pos rfl, rT_beq, cmpQ_zero]
 simp only [LRatOrder.dl3_RatOrder.j1]
 rw [if_neg (bne_same _), hSign (by omega), Option.bind_some]
 by_cases hz : cmpQ z 0 ≤ 0
 ·rw [if_pos hz]
 ·have hpos : 0 < z := by
   rcases cmpQ_cases z 0 with ⟨h1, h2, h3, h4⟩ | ⟨h1, h2, h3, h4⟩ | ⟨h1, h2, h3, h4⟩
   ·rw [h4] at hz; exact absurd (by decide) hz
   ·rw [h4] at hz; exact absurd (by decide) hz
   ·exact h1
  have c4 : cmpQ (x * z) (y * z) = cmpQ x y := by
   rcases cmpQ_cases x y with ⟨h1, h2, h3, h4⟩ | ⟨h1, h2, h3, h4⟩ | ⟨h1, h2, h3, h4⟩
   ·have := Rat.mul_lt_mul_of_pos_right h1 hpos
    rw [h4]; unfold cmpQ; rw [if_pos this]
   ·subst h1
    rw [h4]; unfold cmpQ; rw [if_neg Rat.lt_irrefl, if_neg Rat.lt_irrefl]
   ·have := Rat.mul_lt_mul_of_pos_right h1 hpos
    rw [h4]; unfold cmpQ; rw [if_neg (by grind), if_pos this]
  rw [if_neg hz, hMul (by omega) (by omega), Option.bind_some, hMul (by omega) (by omega), Option.bind_some, hCmp (by omega) (by omega), Option.bind_some, c4]
  simp
end Go.Proofs.YtmkmldkfaehefaaGreatDoor
end

section
namespace Go.Proofs.YtmkmldkfaehefaaGreatDoor.ratOrder
open Go.ChangeShapes Go.WideShapes Go.ChangeAt Go.RowKit
set_option maxRecDepth 100000 in
theorem lifted (os : Os) (started : os.Started) (H : Type) (enc : TypeId × Value → H) :
  ReturnsInHanded {} Tryz.checked os 6 .any (fun w args => (Rows.ratOrderSpec.pre enc Tryz.prog Tryz.f6 Rows.ratOrderRow.domain false w args ∧ laidMetH Tryz.prog laidL w) ∧ sizedMet enc Tryz.prog Tryz.f6 (OpenSpec.ofChange Rows.ratOrderSpec) false w args)
   (Rows.ratOrderSpec.post enc Tryz.prog Tryz.f6 false true false false) := by
 refine returnsInHanded_of_change_and (C := Tryz.checked) (X := fun w _ => laidMetH Tryz.prog laidL w) (fun _ _ _ hh h => h.of_heap hh) own started (by kernel_rfl) Tryz.func6
  (ChangeSpec.witness_shaped (enc := enc) (C := Tryz.checked) (os := os) (X := fun w _ => laidMetH Tryz.prog laidL w) false (World.doorLaid Tryz.prog 4000 os) #[.agg #[.string ByteArray.empty, .string ByteArray.empty], .agg #[.string ByteArray.empty, .string ByteArray.empty], .agg #[.string ByteArray.empty, .string ByteArray.empty]] 8 rfl (World.shaped_of_RefB (by kernel_rfl) (by kernel_rfl)) (by kernel_rfl) (by kernel_rfl) (by kernel_rfl) (door_met os _)) ?_
 intro W base args ds gs before hval0 hW _ hsz0 hL _
 have hsz : (DataW.weightsEach Tryz.prog (Tryz.f6.params.toList ++ Rows.ratOrderSpec.plain.varTypes Tryz.prog) (ds ++ gs)).all (· ≤ reachBytes) = true := hsz0
 have hval : ∀ (j : Nat) t v, Tryz.f6.params[j]? = some t → args[j]? = some v → Value.okWide Tryz.prog W .any base t v := hval0
 have hW' := hW
 obtain ⟨p, q, hA0, hV, rfl, hfz, hnd⟩ := hW
 have hA : DataW.TrodAll enc Tryz.prog W 0 (fun _ => true) true Tryz.f6.params.toList args.toList ds p := hA0
 rw [Tryz.params6] at hA hval hsz
 obtain ⟨v0, vs0, d0, ds0, p0, q0, hargs, rfl, rfl, h0, r0⟩ := trodAll_cons hA
 obtain ⟨v1, vs1, d1, ds1, p1, q1, rfl, rfl, rfl, h1, r1⟩ := trodAll_cons r0
 obtain ⟨v2, vs2, d2, ds2, p2, q2, rfl, rfl, rfl, h2, r2⟩ := trodAll_cons r1
 obtain ⟨rfl, rfl, rfl⟩ := trodAll_nil r2
 obtain rfl : args = #[v0, v1, v2] := by cases args; simp_all
 obtain ⟨rfl, rfl⟩ := trodVars_none hV
 obtain ⟨a0_0, a0_1, rfl, rfl, rfl, y0_0, y0_1⟩ := open_s2 Tryz.underlying35 Tryz.underlying9 Tryz.underlying9 (by kernel_rfl) (by kernel_rfl : Tryz.prog.cellsOf 35 = 2) (hval 0 35 v0 rfl rfl) h0
 obtain ⟨a1_0, a1_1, rfl, rfl, rfl, y1_0, y1_1⟩ := open_s2 Tryz.underlying35 Tryz.underlying9 Tryz.underlying9 (by kernel_rfl) (by kernel_rfl : Tryz.prog.cellsOf 35 = 2) (hval 1 35 v1 rfl rfl) h1
 obtain ⟨a2_0, a2_1, rfl, rfl, rfl, y2_0, y2_1⟩ := open_s2 Tryz.underlying35 Tryz.underlying9 Tryz.underlying9 (by kernel_rfl) (by kernel_rfl : Tryz.prog.cellsOf 35 = 2) (hval 2 35 v2 rfl rfl) h2
 clear hA0 hval0 hsz0 hsz
 obtain ⟨k, hf⟩ := pureRatOrder a0_0 a0_1 a1_0 a1_1 a2_0 a2_1 
 refine (LRatOrder.dl3_RatOrder.calls k a0_0 a0_1 a1_0 a1_1 a2_0 a2_1 true W (laid_of hL) ⟨rfl⟩ hf).mono fun e W' ⟨he, bel⟩ => ?_
 subst he
 exact ⟨_, rfl, _, _, _, [], _, [], hW', trodAll_mk1 (shut_bool Tryz.underlying4 _), (trodAll_cons_mk (shut_s2 Tryz.underlying35 Tryz.underlying9 Tryz.underlying9 (by kernel_rfl) (by kernel_rfl : Tryz.prog.cellsOf 35 = 2) y0_0 y0_1) (trodAll_cons_mk (shut_s2 Tryz.underlying35 Tryz.underlying9 Tryz.underlying9 (by kernel_rfl) (by kernel_rfl : Tryz.prog.cellsOf 35 = 2) y1_0 y1_1) (trodAll_cons_mk (shut_s2 Tryz.underlying35 Tryz.underlying9 Tryz.underlying9 (by kernel_rfl) (by kernel_rfl : Tryz.prog.cellsOf 35 = 2) y2_0 y2_1) trodAll_mk0))), rfl, bel.frame _, fun h => by cases h⟩
theorem over : Rows.RatOrderSaid :=
 OpenClaim.holds_of_wide 6 Tryz.f6 rfl rfl rfl rfl rfl rfl rfl ⟨rfl, rfl, rfl, rfl, rfl⟩ rfl rfl rfl rfl rfl (by kernel_rfl) Tryz.func6 (by kernel_rfl)
  (of_decide_eq_true (by kernel_rfl)) (by unfold Func.isWrapper; first | (rw [if_pos (by decide +kernel)]; kernel_rfl) | (rw [if_neg (by decide +kernel)]; exact ⟨rfl, rfl⟩))
  (fun os started H enc _ => lifted os started H enc)
theorem proved : Rows.RatOrderCardSaid :=
 Claim7.holds_tied_plain_at .later [] [.data, .data, .data, .sentinel, .sentinel] true (true, "bdbd4e5b09325eccd875a060e8c411f452cabddbb7ed0d3b3fcf22eeff5f72e7") true
  over (fun _ h => by cases h) (by kernel_rfl) (fun _ h => by cases h) ratOrder_row_tie rfl ⟨rfl, rfl⟩ (by kernel_rfl) rfl
  (fun f fn hf hfn => by
   obtain rfl : f = 6 := Option.some.inj ((show Tryz.prog.funcNamed "debenture/debenturelaw03.RatOrder" = some 6 by kernel_rfl).symm.trans hf) |>.symm
   obtain rfl : fn = Tryz.f6 := (Option.some.inj (Tryz.func6.symm.trans hfn)).symm
   exact ⟨by kernel_rfl, fun j t ht => by
    rw [Tryz.params6] at ht
    have hm : t ∈ [35, 35, 35] := by simpa using Array.mem_of_getElem? ht
    have hall : ([35, 35, 35].all fun u => !Tryz.prog.wantsStandIn u) = true := by kernel_rfl
    exact (show Tryz.prog.wantsStandIn t = false by simpa using List.all_eq_true.1 hall t hm)⟩)
  (by kernel_rfl)
end Go.Proofs.YtmkmldkfaehefaaGreatDoor.ratOrder
namespace Go.Proofs.YtmkmldkfaehefaaGreatDoor
theorem ratOrder_holds : Rows.RatOrderCardSaid := ratOrder.proved
#print axioms ratOrder_holds
end Go.Proofs.YtmkmldkfaehefaaGreatDoor
end
