/-
The law DecimalTells holds at every input that its row lets in: the row's walk and its plain law, tied to the program's text. Conditions: none beyond the given row's own.
Parts of the proof, in build order: LDecimalTells0, LDecimalTells1, LDecimalTells2, LDecimalTells3, LDecimalTells, PuDecimalTells, RowDecimalTells.
-/
import Derived.Test.YtaldgaiaelbbaaaGreatDoorZ4
import Derived.Test.YtaldgaiaelbbaaaGreatDoorProg
import Derived.Below
import Derived.Deep.Draws
import Derived.Deep.AppendLies
import Derived.Maps.AppendAt
import Derived.OwnWalk
import Derived.Laws.BytesArg
import Derived.Laws.MakeOwn
import Derived.Laws.OwnMore
import Derived.Deep.OwnRows
import Derived.Tactics
import Derived.Lib.ConvBytes
import Derived.Laws.Slices
import Derived.WalkKit
import Derived.KernelRfl
import Derived.RowKit3
import Derived.Deep.LoopGhost
import Derived.Deep.QuietTactic
import Derived.BigQuiet
import Derived.WideLaws
import Derived.Deep.DeepCutAuto
import Derived.Deep.CutBlock
import Derived.Deep.RegionHeld3
import Derived.Laws.Rows
import Derived.Lib.AppendStr
import Derived.ArgAppend
import Derived.Laws.IdiomCopy
import Derived.OrdersHeld
import Derived.Laws.BitsLemmas
import Derived.RowKit
import Derived.Test.YtaldgaiaelbbaaaGreatDoorZ0
import Derived.Test.YtaldgaiaelbbaaaGreatDoorZ5
import Derived.Test.YtaldgaiaelbbaaaGreatDoorZ2
import Derived.Test.YtaldgaiaelbbaaaGreatDoorTie
import Derived.Test.YtaldgaiaelbbaaaGreatDoorCards
import Derived.SevenTiedAt
set_option linter.unusedVariables false
set_option linter.unusedSimpArgs false
open Go.RowKit Go.Proofs.YtaldgaiaelbbaaaGreatDoorW.PrintWords Go.Proofs.YtaldgaiaelbbaaaGreatDoorW.PrintLast Go.Proofs.YtaldgaiaelbbaaaGreatDoorW.PrintMore
attribute [local go_sem] max2_int min2_int max_two min_two max_three min_three max_four min_four   -- for this text's walks alone
section
namespace Go.Proofs.YtaldgaiaelbbaaaGreatDoor.LDecimalTells
def errW : Option Int → Value
 | none => .nilIface
 | some c => .iface 0 (.int .i64 c)
theorem errW_none : errW none = .nilIface := rfl
theorem errW_some (c : Int) : errW (some c) = .iface 0 (.int .i64 c) := rfl
end Go.Proofs.YtaldgaiaelbbaaaGreatDoor.LDecimalTells
end

section
namespace Go.Proofs.YtaldgaiaelbbaaaGreatDoor.LDecimalTells
theorem eqA23 (d : Nat) (w : World) (x0 y0 : ByteArray) (x1 y1 : ByteArray) :
  (Op.equalIn (d + 2) 23 (.agg #[.string x0, .string x1]) (.agg #[.string y0, .string y1])).run Tryz.prog w = .ok (x0.toList == y0.toList && (x1.toList == y1.toList)) w := by
 refine eqA_of Tryz.underlying23 (by kernel_rfl) ?_; refine eqf_cons (by rfl) (by go_simp; rfl) (by go_simp; rfl) (by go_simp) ?_; exact eqf_last (by rfl) (by go_simp; rfl) (by go_simp; rfl) (by go_simp)
end Go.Proofs.YtaldgaiaelbbaaaGreatDoor.LDecimalTells
end

section
namespace Go.Proofs.YtaldgaiaelbbaaaGreatDoor.LDecimalTells
end Go.Proofs.YtaldgaiaelbbaaaGreatDoor.LDecimalTells
end

section
namespace Go.Proofs.YtaldgaiaelbbaaaGreatDoor.LDecimalTells
open Go.Proofs.YtaldgaiaelbbaaaGreatDoor.Pz (S23 k23 k23_mkM)
attribute [local go_sem high] eqA23
def dl4_DecimalTells.j0 : Nat → ByteArray → Bool → ByteArray → ByteArray → Option (Bool)
 | 0, _, _, _, _ => none
 | k + 1, x1, x21, x102000, x102001 => if x21 = true then ((dl4_fixed.f).bind fun t106 => (some t106)) else ((decimal_Parse.f x1).bind fun bt107 => ((r4_Parse.f x1).bind fun bt111 => ((decimal_Places.f x102000 x102001).bind fun bt115 => ((r4_Places.f x102000 x102001).bind fun bt117 => ((dl4_fixed.f).bind fun t119 => (if t119 = true then ((decimal_Print.f x102000 x102001).bind fun t120 => ((r4_Print.f x102000 x102001).bind fun t121 => (if t120.toList = t121.toList then (if (bt107.1.toList == bt111.1.toList && (bt107.2.1.toList == bt111.2.1.toList)) = true then (if bt107.2.2 = bt111.2.2 then (if bt115.1 = bt117.1 then (some (bt115.2 == bt117.2)) else (some false)) else (some false)) else (some false)) else (some false)))) else (some false)))))))
def dl4_DecimalTells.f (k : Nat) (a0_0 : ByteArray) (a0_1 : ByteArray) (a1 : ByteArray) : Option (Bool) := (r3_Short.f (([(⟨a0_0, a0_1⟩ : S23)] : List (S23)))).bind fun t105 => (if t105 = true then (dl4_DecimalTells.j0 k a1 (decide ((a1.size : Int) > 1100)) a0_0 a0_1) else (dl4_DecimalTells.j0 k a1 true a0_0 a0_1))
def dl4_DecimalTells.T7 : Bool × List (List Nat × List Nat) := (true, [([], []), ([0, 0], [0]), ([1], [1]), ([2, 1, 1], [1, 2]), ([1], [1]), ([4, 3, 1], [1, 4]), ([3, 5, 1], [1, 3, 5]), ([1, 6], [1, 6]), ([7, 5], [7]), ([8], [8]), ([8], [8]), ([9, 10, 8], [8, 9, 10]), ([8, 11], [8, 11]), ([12, 8], [12]), ([13], [13]), ([13], [13]), ([14, 15, 13], [13, 14, 15]), ([13, 16], [13, 16]), ([17, 13], [17]), ([18], [18]), ([18], [18]), ([19, 20, 18], [18, 19, 20]), ([18, 21], [18, 21]), ([22, 18], [22]), ([23], [23]), ([23], [23]), ([24, 25, 23], [23, 24, 25]), ([23, 26], [23, 26]), ([27, 23, 0, 1, 2, 3, 4, 5, 6, 7, 8, 9, 10, 11, 12, 13, 14, 15, 16, 17, 18, 19, 20, 21, 22, 23, 24, 25, 26, 27], [27])])
def dl4_DecimalTells.B7 : List Nat := [0, 1, 3, 7, 3, 31, 63, 127, 255, 511, 511, 2047, 4095, 8191, 16383, 16383, 65535, 131071, 262143, 524287, 524287, 2097151, 4194303, 8388607, 16777215, 16777215, 67108863, 134217727, 268435455]
theorem dl4_DecimalTells.tab7 : rtab .any (opsOf Tryz.f3 7) = dl4_DecimalTells.T7 := by kernel_rfl
theorem dl4_DecimalTells.bits7 : waitsOk dl4_DecimalTells.T7.2 dl4_DecimalTells.B7 = true := by kernel_rfl
set_option maxHeartbeats 8000000 in
set_option maxRecDepth 100000 in
theorem dl4_DecimalTells.calls (k : Nat) (a0_0 : ByteArray) (a0_1 : ByteArray) (a1 : ByteArray) (r : Bool) (w : World) (hL_ : Laid w) (hr_ : Aside0 (r = true)) (h : dl4_DecimalTells.f k a0_0 a0_1 a1 = some r) :
  Calls Tryz.prog 3 #[.agg #[.string a0_0, .string a0_1], .string a1] w fun e w' => e = .returned (.bool r) ∧ Below w.heap.size w w' := by
 have hu23 := Tryz.underlying23; have HLD := Aside0.mk hL_; clear hL_; have HB := Aside0.mk (Below.refl w.heap.size w); have H := h; unfold dl4_DecimalTells.f at H; clear h; have HC3 := Aside0.mk H; clear H; go_enter Tryz.func3, Tryz.ntmps3
 go_upto_region 1 with (first | ((with_reducible refine gate_dst (N := 2) rfl ?_); (try (refine gate_guard (by rfl) ?_; dsimp only)); refine be_ 2 #[.string a0_0, .string a0_1] 23 ?_; intro gb101 hg w4 hbox hb; have BK101 := Aside0.mk (hbox); have GW101 := ge_ HB hg; have GE101 := ge_ HB hg; replace HB := bs_ HB hb; clear hb hbox hg))
 (try simp only [Act.put, List.setIfInBounds_toArray, List.set_cons_zero, List.set_cons_succ])
 go_cut [21] (fun v21 wc => ∃ (kq : Nat) (x21_2 : Bool), v21 = .bool x21_2 ∧ Aside0 (dl4_DecimalTells.j0 kq a1 x21_2 a0_0 a0_1 = some r) ∧ Aside0 (kq ≤ k) ∧ Aside0 (wc.heap[gb101]? = some (.cells #[.string a0_0, .string a0_1] 23 (0, 0))) ∧ Aside0 (Below w.heap.size w wc))
 case first =>
  have H := HC3.out; clear HC3; obtain ⟨y102, hy102⟩ : ∃ y_ : List (S23), y_ = (([(⟨a0_0, a0_1⟩ : S23)] : List (S23))) := ⟨_, rfl⟩
  replace H : ((r3_Short.f y102).bind fun t105 => (if t105 = true then (dl4_DecimalTells.j0 k a1 (decide ((a1.size : Int) > 1100)) a0_0 a0_1) else (dl4_DecimalTells.j0 k a1 true a0_0 a0_1))) = some r := by first | (rw [hy102]; with_reducible exact H) | (have H2_ := (Option.bind_some _ _).symm.trans H; rw [hy102]; with_reducible exact H2_) | (have H2_ := (Option.bind_some _ _).symm.trans H; with_reducible exact H2_) | with_reducible exact H | (rw [hy102]; exact H) | exact H
  have Ny102 := Aside0.mk hy102; clear hy102; obtain ⟨t105, A5, H⟩ := bi_ H; by_cases c6 : t105 = true
  ·subst c6; rw [if_pos rfl] at H; have H' := Aside0.mk H; clear H; have hcz7_0 := bc_ BK101 0 rfl; have hcz7_1 := bc_ BK101 1 rfl; have hfz7_0 := blk_frozen BK101.out 0; have hfz7_1 := blk_frozen BK101.out 1
   go_wp2_with (first | ((with_reducible refine gate_dst (N := 14) rfl ?_); (try (refine gate_guard (by rfl) ?_; dsimp only)); refine Kd.R_lit k23 _ 23 ?hg (N := 14) ?hd (xs := ([(⟨a0_0, a0_1⟩ : S23)] : List (S23))) (inner := [.string a0_0, .string a0_1]) (ok := fun _ => True) (okp := fun _ => True) ?hr ?hp (fun _ hk => hk) trivial (Below.refl _ _) (Nat.le_refl _) (by simp) ?_; (case hd => rfl); (case hg => rfl); (case hr => first | (go_simp; done) | (go_simp; rfl)); (case hp => exact (Reps.c2 (show Kd.M k23 _ _ _ (⟨a0_0, a0_1⟩ : S23) [.string a0_0, .string a0_1] from (k23_mkM _ _ _ (⟨a0_0, a0_1⟩ : S23) )) (Reps.none _ _))); intro v103 w8 ho9 hb hg_ hnew_; clear hg_ hnew_; (first | rw [← Ny102.out] at ho9 | (simp only [Int.reduceToNat] at ho9; rw [← Ny102.out] at ho9)); have HO104 := Aside0.mk (Kd.R_lower (Kd.R_newB ho9 (g := gb101) (o := .cells #[.string a0_0, .string a0_1] 23 (0, 0)) (k_ BK101.out)) (below_size (b_ HB.out))); replace BK101 := kb_ BK101 hb; replace HB := bs_ HB hb; clear hb ho9; obtain ⟨Ao10, co10, eo10⟩ := Kd.R_slice HO104.out; subst eo10) | (refine gl_ 15 Tryz.func8 #[.slice Ao10 y102.length co10] ?_; (with_reducible refine (r3_Short.calls _ _ y102 true _ ?side1 ?side2 A5.out).mono ?_); (case side1 => exact c_ (Kd.R_reads' HO104.out).2.2); (case side2 => exact (Kd.R_reads' HO104.out).2.1); rintro e w11 ⟨rfl, hb⟩; refine ⟨_, rfl, ?_⟩; replace HO104 := Aside0.mk (Kd.R_below (w_ HO104.out) hb); replace BK101 := kb_ BK101 hb; replace HB := bs_ HB hb; (try clear hb); (try clear hb2); (try clear hk); (try clear hi)))
   go_meet
   case rel => exact ⟨_, (decide ((a1.size : Int) > 1100)), rl_, H', ⟨by first | omega | exact Nat.le_refl _⟩, ⟨k_ BK101.out⟩, ⟨b_ HB.out⟩⟩
  ·replace c6 := Bool.eq_false_iff.mpr c6; subst c6; rw [if_neg nf_] at H; have H' := Aside0.mk H; clear H; have hcz12_0 := bc_ BK101 0 rfl; have hcz12_1 := bc_ BK101 1 rfl; have hfz12_0 := blk_frozen BK101.out 0; have hfz12_1 := blk_frozen BK101.out 1
   go_wp2_with (first | ((with_reducible refine gate_dst (N := 14) rfl ?_); (try (refine gate_guard (by rfl) ?_; dsimp only)); refine Kd.R_lit k23 _ 23 ?hg (N := 14) ?hd (xs := ([(⟨a0_0, a0_1⟩ : S23)] : List (S23))) (inner := [.string a0_0, .string a0_1]) (ok := fun _ => True) (okp := fun _ => True) ?hr ?hp (fun _ hk => hk) trivial (Below.refl _ _) (Nat.le_refl _) (by simp) ?_; (case hd => rfl); (case hg => rfl); (case hr => first | (go_simp; done) | (go_simp; rfl)); (case hp => exact (Reps.c2 (show Kd.M k23 _ _ _ (⟨a0_0, a0_1⟩ : S23) [.string a0_0, .string a0_1] from (k23_mkM _ _ _ (⟨a0_0, a0_1⟩ : S23) )) (Reps.none _ _))); intro v103 w13 ho14 hb hg_ hnew_; clear hg_ hnew_; (first | rw [← Ny102.out] at ho14 | (simp only [Int.reduceToNat] at ho14; rw [← Ny102.out] at ho14)); have HO104 := Aside0.mk (Kd.R_lower (Kd.R_newB ho14 (g := gb101) (o := .cells #[.string a0_0, .string a0_1] 23 (0, 0)) (k_ BK101.out)) (below_size (b_ HB.out))); replace BK101 := kb_ BK101 hb; replace HB := bs_ HB hb; clear hb ho14; obtain ⟨Ao15, co15, eo15⟩ := Kd.R_slice HO104.out; subst eo15) | (refine gl_ 15 Tryz.func8 #[.slice Ao15 y102.length co15] ?_; (with_reducible refine (r3_Short.calls _ _ y102 false _ ?side1 ?side2 A5.out).mono ?_); (case side1 => exact c_ (Kd.R_reads' HO104.out).2.2); (case side2 => exact (Kd.R_reads' HO104.out).2.1); rintro e w16 ⟨rfl, hb⟩; refine ⟨_, rfl, ?_⟩; replace HO104 := Aside0.mk (Kd.R_below (w_ HO104.out) hb); replace BK101 := kb_ BK101 hb; replace HB := bs_ HB hb; (try clear hb); (try clear hb2); (try clear hk); (try clear hi)))
   go_meet
   case rel => exact ⟨_, (true), rl_, H', ⟨by first | omega | exact Nat.le_refl _⟩, ⟨k_ BK101.out⟩, ⟨b_ HB.out⟩⟩
 case rest =>
  clear HC3; (try clear c2); (try clear p2); (try clear c3); (try clear c6); (try clear c8); (try clear hcz12_0); (try clear hcz12_1); (try clear hcz7_0); (try clear hcz7_1); (try clear hfz12_0); (try clear hfz12_1); (try clear hfz7_0); (try clear hfz7_1); obtain ⟨kq, x21_2, rfl, HA, HJ2, BK101, HB⟩ := hcut
  cases kq with
  | zero => exact absurd HA.out (by simp [dl4_DecimalTells.j0])
  | succ kj2 =>
   have H := HA.out; clear HA; simp only [dl4_DecimalTells.j0] at H; by_cases c17 : x21_2 = true
   ·subst c17; rw [if_pos rfl] at H; obtain ⟨t106, A18, H⟩ := bi_ H; obtain rfl := Option.some.inj H
    go_wp2_with (first | (refine gl_ 22 Tryz.func9 #[] ?_; refine mo_ (dl4_fixed.calls  t106 _ (lb_ HLD HB) A18.out) ?_; intro w19 hb; replace BK101 := kb_ BK101 hb; replace HB := bs_ HB hb; (try clear hb); (try clear hb2); (try clear hk); (try clear hi)))
    go_ret
    exact ⟨er_, b_ HB.out⟩
   ·replace c17 := Bool.eq_false_iff.mpr c17; subst c17; rw [if_neg nf_] at H; obtain ⟨⟨t107, t108, t109⟩, A20, H⟩ := bi_ H; (try dsimp only at H); obtain ⟨⟨t111, t112, t113⟩, A21, H⟩ := bi_ H; (try dsimp only at H); obtain ⟨⟨t115, t116⟩, A22, H⟩ := bi_ H; (try dsimp only at H); obtain ⟨⟨t117, t118⟩, A23, H⟩ := bi_ H; (try dsimp only at H); obtain ⟨t119, A24, H⟩ := bi_ H; by_cases c25 : t119 = true
    ·subst c25; rw [if_pos rfl] at H; obtain ⟨t120, A26, H⟩ := bi_ H; obtain ⟨t121, A27, H⟩ := bi_ H; by_cases c28 : t120.toList = t121.toList
     ·rw [if_pos c28] at H; have c28b0 : (t120.toList == t121.toList) = true := beq_iff_eq.mpr c28; have c28b1 : (t120.toList != t121.toList) = false := bne_eq_false_iff_eq.mpr c28; clear c28; by_cases c29 : (t107.toList == t111.toList && (t108.toList == t112.toList)) = true
      ·rw [if_pos c29] at H; have c29b0 : (t107.toList == t111.toList && (t108.toList == t112.toList)) = true := c29; (try (have c29b1 : decide (t107.toList = t111.toList && (t108.toList == t112.toList)) = true := by simpa using c29)); (try (have c29b2 : (t107.toList == t111.toList && (t108.toList == t112.toList)) = true := by simpa using c29)); clear c29; by_cases c30 : t109 = t113
       ·rw [if_pos c30] at H; have c30b0 : (t109 == t113) = true := beq_iff_eq.mpr c30; have c30b1 : (t109 != t113) = false := bne_eq_false_iff_eq.mpr c30; clear c30; by_cases c31 : t115 = t117
        ·rw [if_pos c31] at H; have c31b0 : (t115 == t117) = true := beq_iff_eq.mpr c31; have c31b1 : (t115 != t117) = false := bne_eq_false_iff_eq.mpr c31; clear c31; obtain rfl := Option.some.inj H
         try go_wp2_with (first | (refine gl_ 25 Tryz.func10 #[.string a1] ?_; refine mo_ (decimal_Parse.calls a1 t107 t108 t109 _ (lb_ HLD HB) A20.out) ?_; intro w32 hb; replace BK101 := kb_ BK101 hb; replace HB := bs_ HB hb; (try clear hb); (try clear hb2); (try clear hk); (try clear hi)) | ((with_reducible refine gate_dst (N := 5) rfl ?_); (try (refine gate_guard (by rfl) ?_; dsimp only)); refine be_ 5 #[.string (⟨#[]⟩ : ByteArray), .string (⟨#[]⟩ : ByteArray)] 23 ?_; intro gb110 hg w33 hbox hb; have BK110 := Aside0.mk (hbox); have GW110 := ge_ HB hg; have GE110 := ge_ HB hg; have NB101_110 := nl_ BK101 hg; have NB110_101 := ng_ BK101 hg; replace BK101 := kb_ BK101 hb; replace HB := bs_ HB hb; clear hb hbox hg; have hnb34 := NB110_101.out; have hnc34 := NB101_110.out; have hcz35_0 := bc_ BK110 0 rfl; have hcz35_1 := bc_ BK110 1 rfl; have hfz35_0 := blk_frozen BK110.out 0; have hfz35_1 := blk_frozen BK110.out 1) | (refine gl_ 30 Tryz.func11 #[.string a1] ?_; refine mo_ (r4_Parse.calls a1 t111 t112 t113 _ A21.out) ?_; intro w36 hb; replace BK101 := Aside0.mk (blk_below (g := gb101) (o := .cells #[.string a0_0, .string a0_1] 23 (0, 0)) (fr_ BK101.out) hb); replace BK110 := Aside0.mk (blk_below (g := gb110) (o := .cells #[.string t107, .string t108] 23 (0, 0)) (rp_ BK110.out) hb); replace HB := bs_ HB hb; (try clear hb); (try clear hb2); (try clear hk); (try clear hi)) | ((with_reducible refine gate_dst (N := 7) rfl ?_); (try (refine gate_guard (by rfl) ?_; dsimp only)); refine be_ 7 #[.string (⟨#[]⟩ : ByteArray), .string (⟨#[]⟩ : ByteArray)] 23 ?_; intro gb114 hg w37 hbox hb; have BK114 := Aside0.mk (hbox); have GW114 := ge_ HB hg; have GE114 := ge_ HB hg; have NB101_114 := nl_ BK101 hg; have NB114_101 := ng_ BK101 hg; have NB110_114 := nl_ BK110 hg; have NB114_110 := ng_ BK110 hg; replace BK101 := kb_ BK101 hb; replace BK110 := kb_ BK110 hb; replace HB := bs_ HB hb; clear hb hbox hg; have hnb38 := NB114_101.out; have hnc38 := NB101_114.out; have hnb39 := NB114_110.out; have hnc39 := NB110_114.out; have hcz40_0 := bc_ BK114 0 rfl; have hcz40_1 := bc_ BK114 1 rfl; have hfz40_0 := blk_frozen BK114.out 0; have hfz40_1 := blk_frozen BK114.out 1; have hcz41_0 := bc_ BK101 0 rfl; have hcz41_1 := bc_ BK101 1 rfl; have hfz41_0 := blk_frozen BK101.out 0; have hfz41_1 := blk_frozen BK101.out 1) | (refine gl_ 35 Tryz.func12 #[.agg #[.string a0_0, .string a0_1]] ?_; refine mo_ (decimal_Places.calls a0_0 a0_1 t115 t116 _ (lb_ HLD HB) A22.out) ?_; intro w42 hb; replace BK101 := Aside0.mk (blk_below (g := gb101) (o := .cells #[.string a0_0, .string a0_1] 23 (0, 0)) (fr_ BK101.out) hb); replace BK110 := Aside0.mk (blk_below (g := gb110) (o := .cells #[.string t107, .string t108] 23 (0, 0)) (fr_ BK110.out) hb); replace BK114 := Aside0.mk (blk_below (g := gb114) (o := .cells #[.string t111, .string t112] 23 (0, 0)) (rp_ BK114.out) hb); replace HB := bs_ HB hb; (try clear hb); (try clear hb2); (try clear hk); (try clear hi); have hcz43_0 := bc_ BK101 0 rfl; have hcz43_1 := bc_ BK101 1 rfl; have hfz43_0 := blk_frozen BK101.out 0; have hfz43_1 := blk_frozen BK101.out 1) | (refine gl_ 40 Tryz.func13 #[.agg #[.string a0_0, .string a0_1]] ?_; refine mo_ (r4_Places.calls a0_0 a0_1 t117 t118 _ A23.out) ?_; intro w44 hb; replace BK101 := kb_ BK101 hb; replace BK110 := kb_ BK110 hb; replace BK114 := kb_ BK114 hb; replace HB := bs_ HB hb; (try clear hb); (try clear hb2); (try clear hk); (try clear hi)))
         replace BK101 := Aside0.mk (blk_drew BK101.out); replace BK110 := Aside0.mk (blk_drew BK110.out); replace BK114 := Aside0.mk (blk_drew BK114.out); replace HB := Aside0.mk (below_drew1 HB.out); refine sa_ 29 (fun w' => w'.cell? ⟨gb101, 0, none⟩ = some (.string a0_0) ∧ w'.cell? ⟨gb101, 1, none⟩ = some (.string a0_1) ∧ w'.cell? ⟨gb110, 0, none⟩ = some (.string t107) ∧ w'.cell? ⟨gb110, 1, none⟩ = some (.string t108) ∧ w'.cell? ⟨gb114, 0, none⟩ = some (.string t111) ∧ w'.cell? ⟨gb114, 1, none⟩ = some (.string t112)) (fun hHeld => ?_); refine with_tabW dl4_DecimalTells.tab7 dl4_DecimalTells.bits7 (fun HT_ HW_ => ?_); generalize w44.drew = w45 at BK101 BK110 BK114 HB hHeld ⊢; refine on_ 0 (some 43) rfl rfl HT_ (fun K hK => ?_); refine gs_ Tryz.func9 #[] ?_; refine mo_ (dl4_fixed.calls  true _ (lb_ HLD HB) A24.out) ?_; intro w46 hb; replace BK101 := kb_ BK101 hb; replace BK110 := kb_ BK110 hb; replace BK114 := kb_ BK114 hb; replace HB := bs_ HB hb; (try clear hb); refine hk_ hK (fun hHeld => ?_); clear hK K; refine nm_ ?_; refine pu_ 1 44 rfl rfl HT_ ?_; refine t6_ 2 45 rfl rfl HT_ HW_ hHeld ?_; refine t6_ 4 47 rfl rfl HT_ HW_ hHeld ?_; refine on_ 3 (some 46) rfl rfl HT_ (fun K hK => ?_); refine gs_ Tryz.func14 #[.agg #[.string a0_0, .string a0_1]] ?_; refine mo_ (decimal_Print.calls a0_0 a0_1 t120 _ (lb_ HLD HB) A26.out) ?_; intro w47 hb; replace BK101 := kb_ BK101 hb; replace BK110 := kb_ BK110 hb; replace BK114 := kb_ BK114 hb; replace HB := bs_ HB hb; (try clear hb); refine hk_ hK (fun hHeld => ?_); clear hK K; refine nm_ ?_; refine on_ 5 (some 48) rfl rfl HT_ (fun K hK => ?_); refine gs_ Tryz.func15 #[.agg #[.string a0_0, .string a0_1]] ?_; refine mo_ (r4_Print.calls a0_0 a0_1 t121 _ A27.out) ?_; intro w48 hb; replace BK101 := kb_ BK101 hb; replace BK110 := kb_ BK110 hb; replace BK114 := kb_ BK114 hb; replace HB := bs_ HB hb; (try clear hb); refine hk_ hK (fun hHeld => ?_); clear hK K; refine nm_ ?_; refine pu_ 6 49 rfl rfl HT_ ?_; refine pu_ 7 50 rfl rfl HT_ ?_; refine pu_ 8 51 rfl rfl HT_ ?_; refine t6_ 9 52 rfl rfl HT_ HW_ hHeld ?_; refine t6_ 10 53 rfl rfl HT_ HW_ hHeld ?_; refine pu_ 11 54 rfl rfl HT_ ?_; refine pu_ 12 55 rfl rfl HT_ ?_; refine pu_ 13 56 rfl rfl HT_ ?_; refine pu_ 14 57 rfl rfl HT_ ?_; refine pu_ 15 58 rfl rfl HT_ ?_; refine pu_ 16 59 rfl rfl HT_ ?_; refine pu_ 17 60 rfl rfl HT_ ?_; refine pu_ 18 61 rfl rfl HT_ ?_; refine pu_ 19 62 rfl rfl HT_ ?_; refine pu_ 20 63 rfl rfl HT_ ?_; refine pu_ 21 64 rfl rfl HT_ ?_; refine pu_ 22 65 rfl rfl HT_ ?_; refine pu_ 23 66 rfl rfl HT_ ?_; refine pu_ 24 67 rfl rfl HT_ ?_; refine pu_ 25 68 rfl rfl HT_ ?_; refine pu_ 26 69 rfl rfl HT_ ?_; refine pu_ 27 70 rfl rfl HT_ ?_; refine pu_ 28 4 rfl rfl HT_ ?_; refine done_ (done_of HT_.out (by kernel_rfl)) ?_
         try go_wp2
         go_ret
         exact ⟨er_, b_ HB.out⟩
        ·rw [if_neg c31] at H; exact absurd (H.trans (congrArg some hr_.out)) (by decide)
       ·rw [if_neg c30] at H; exact absurd (H.trans (congrArg some hr_.out)) (by decide)
      ·rw [if_neg c29] at H; exact absurd (H.trans (congrArg some hr_.out)) (by decide)
     ·rw [if_neg c28] at H; exact absurd (H.trans (congrArg some hr_.out)) (by decide)
    ·replace c25 := Bool.eq_false_iff.mpr c25; subst c25
     have H1 : (some false) = some r := by rw [if_neg (show ¬ (false = true) by decide)] at H; exact H
     exact absurd (H1.trans (congrArg some hr_.out)) (by decide)
end Go.Proofs.YtaldgaiaelbbaaaGreatDoor.LDecimalTells
end

section
namespace Go.Proofs.YtaldgaiaelbbaaaGreatDoor.LDecimalTells
end Go.Proofs.YtaldgaiaelbbaaaGreatDoor.LDecimalTells
end

section
namespace Go.Proofs.YtaldgaiaelbbaaaGreatDoor
theorem shortsR1 {a b : ByteArray} : r3_Short.f [⟨a, b⟩] = some (shortR ⟨a, b⟩) := by
 unfold r3_Short.f
 rw [if_pos (by simp)]
 simp [List.all_cons]
theorem of_short {a b : ByteArray} (h : shortR ⟨a, b⟩ = true) : a.size ≤ 100 ∧ b.size ≤ 100 := by
 unfold shortR at h
 rw [Bool.and_eq_true, decide_eq_true_eq, decide_eq_true_eq] at h
 exact h
theorem tt2 (a b : ByteArray) : (a.toList == a.toList && (b.toList == b.toList)) = true := by simp
theorem pureDecimalTells (a0_0 a0_1 a1 : ByteArray) (w1 : a1.size ≤ 140737488351232) : ∃ k : Nat, LDecimalTells.dl4_DecimalTells.f k a0_0 a0_1 a1 = some true := by
 refine ⟨0 + 1, ?_⟩
 unfold LDecimalTells.dl4_DecimalTells.f
 have hj : LDecimalTells.dl4_DecimalTells.j0 (0 + 1) a1 true a0_0 a0_1 = some true := by
  simp only [LDecimalTells.dl4_DecimalTells.j0]
  rfl
 rw [shortsR1, Option.bind_some]
 cases h0 : shortR ⟨a0_0, a0_1⟩
 ·exact hj
 rw [if_pos rfl]
 by_cases hs : (a1.size : Int) > 1100
 ·rw [decide_eq_true hs]
  exact hj
 rw [decide_eq_false hs]
 have g0 := of_short h0
 have hp : decimal_Parse.f a1 = some (parseS a1) := dParse (by omega)
 have hr : r4_Parse.f a1 = some (parseS a1) := if_pos (by omega)
 have sd : smD (a0_0, a0_1) = true := decide_eq_true (show a0_0.size + a0_1.size ≤ 900 by omega)
 have se : smE (a0_0, a0_1) = true := decide_eq_true (show a0_0.size + a0_1.size ≤ 300 by omega)
 have p1 : decimal_Places.f a0_0 a0_1 = some (placesS (a0_0, a0_1)) := if_pos sd
 have p2 : r4_Places.f a0_0 a0_1 = some (placesS (a0_0, a0_1)) := if_pos se
 have q1 : decimal_Print.f a0_0 a0_1 = some (printS (a0_0, a0_1)) := if_pos sd
 have q2 : r4_Print.f a0_0 a0_1 = some (printS (a0_0, a0_1)) := if_pos se
 simp only [LDecimalTells.dl4_DecimalTells.j0]
 rw [if_neg (by decide), hp, Option.bind_some, hr, Option.bind_some, p1, Option.bind_some, p2, Option.bind_some, show dl4_fixed.f = some true from rfl, Option.bind_some, if_pos rfl, q1, Option.bind_some, q2, Option.bind_some, if_pos rfl, if_pos (tt2 _ _), if_pos rfl, if_pos rfl, beq_self_eq_true]
end Go.Proofs.YtaldgaiaelbbaaaGreatDoor
end

section
namespace Go.Proofs.YtaldgaiaelbbaaaGreatDoor.decimalTells
open Go.ChangeShapes Go.WideShapes Go.ChangeAt Go.RowKit
open Go.ChangeMaps (open_string shut_string)
set_option maxRecDepth 100000 in
theorem lifted (os : Os) (started : os.Started) (H : Type) (enc : TypeId × Value → H) :
  ReturnsInHanded {} Tryz.checked os 3 .any (fun w args => (Rows.decimalTellsSpec.pre enc Tryz.prog Tryz.f3 Rows.decimalTellsRow.domain false w args ∧ laidMetH Tryz.prog laidL w) ∧ sizedMet enc Tryz.prog Tryz.f3 (OpenSpec.ofChange Rows.decimalTellsSpec) false w args)
   (Rows.decimalTellsSpec.post enc Tryz.prog Tryz.f3 false true false false) := by
 refine wrap_shaped (C := Tryz.checked) (X := fun w _ => laidMetH Tryz.prog laidL w) (fun _ _ _ hh h => h.of_heap hh) own started (by kernel_rfl) Tryz.func3
  (ChangeSpec.witness_shaped (enc := enc) (C := Tryz.checked) (os := os) (X := fun w _ => laidMetH Tryz.prog laidL w) false (World.laidAll Tryz.prog os laidL) #[.agg #[.string ByteArray.empty, .string ByteArray.empty], .string ByteArray.empty] 8 (World.laidAll_os _ _ _) (World.shaped_of_ZipB (by kernel_rfl) (by kernel_rfl)) (by kernel_rfl) (by kernel_rfl) (by kernel_rfl) (door_met os _)) ?_
 intro W base args ds gs before hval0 hW _ hsz0 hL hsh
 have hsz : (DataW.weightsEach Tryz.prog (Tryz.f3.params.toList ++ Rows.decimalTellsSpec.plain.varTypes Tryz.prog) (ds ++ gs)).all (· ≤ reachBytes) = true := hsz0
 have hval : ∀ (j : Nat) t v, Tryz.f3.params[j]? = some t → args[j]? = some v → Value.okWide Tryz.prog W .any base t v := hval0
 have hW' := hW
 obtain ⟨p, q, hA0, hV, rfl, hfz, hnd⟩ := hW
 have hA : DataW.TrodAll enc Tryz.prog W 0 (fun _ => true) true Tryz.f3.params.toList args.toList ds p := hA0
 rw [Tryz.params3] at hA hval hsz
 obtain ⟨v0, vs0, d0, ds0, p0, q0, hargs, rfl, rfl, h0, r0⟩ := trodAll_cons hA
 obtain ⟨v1, vs1, d1, ds1, p1, q1, rfl, rfl, rfl, h1, r1⟩ := trodAll_cons r0
 obtain ⟨rfl, rfl, rfl⟩ := trodAll_nil r1
 obtain rfl : args = #[v0, v1] := by cases args; simp_all
 obtain ⟨rfl, rfl⟩ := trodVars_none hV
 obtain ⟨a0_0, a0_1, rfl, rfl, rfl, y0_0, y0_1⟩ := open_s2 Tryz.underlying23 Tryz.underlying9 Tryz.underlying9 (by kernel_rfl) (by kernel_rfl : Tryz.prog.cellsOf 23 = 2) (hval 0 23 v0 rfl rfl) h0
 obtain ⟨a1, rfl, rfl, rfl, y1⟩ := open_string Tryz.underlying9 (hval 1 9 v1 rfl rfl) h1
 have w1 : a1.size ≤ 140737488351232 := by
  have z := sized_string hsz (j := 1) (t := 9) rfl rfl
  rw [Array.length_toList] at z
  exact z
 clear hA0 hval0 hsz0 hsz
 obtain ⟨k, hf⟩ := pureDecimalTells a0_0 a0_1 a1 w1
 refine (LDecimalTells.dl4_DecimalTells.calls k a0_0 a0_1 a1 true W (laid_of hL hsh) ⟨rfl⟩ hf).mono fun e W' ⟨he, bel⟩ => ?_
 subst he
 exact ⟨_, rfl, _, _, _, [], _, [], hW', trodAll_mk1 (shut_bool Tryz.underlying4 _), (trodAll_cons_mk (shut_s2 Tryz.underlying23 Tryz.underlying9 Tryz.underlying9 (by kernel_rfl) (by kernel_rfl : Tryz.prog.cellsOf 23 = 2) y0_0 y0_1) (trodAll_cons_mk (shut_string Tryz.underlying9 y1) trodAll_mk0)), rfl, bel.frame _, fun h => by cases h⟩
theorem over : Rows.DecimalTellsSaid :=
 OpenClaim.holds_of_wide 3 Tryz.f3 rfl rfl rfl rfl rfl rfl rfl ⟨rfl, rfl, rfl, rfl, rfl⟩ rfl rfl rfl rfl rfl (by kernel_rfl) Tryz.func3 (by kernel_rfl)
  (of_decide_eq_true (by kernel_rfl)) (by unfold Func.isWrapper; first | (rw [if_pos (by decide +kernel)]; kernel_rfl) | (rw [if_neg (by decide +kernel)]; exact ⟨rfl, rfl⟩))
  (fun os started H enc _ => lifted os started H enc)
theorem proved : Rows.DecimalTellsCardSaid :=
 Claim7.holds_tied_plain_at .later [] [.data, .data, .data, .data, .sentinel, .sentinel, .pinned] true (true, "7cb6501bafc06cc91aafe2374194aa0798d8fb540c1ff8bc3088fb97c665b41a") true
  over (fun _ h => by cases h) (by kernel_rfl) (fun _ h => by cases h) decimalTells_row_tie rfl ⟨rfl, rfl⟩ (by kernel_rfl) rfl
  (fun f fn hf hfn => by
   obtain rfl : f = 3 := Option.some.inj ((show Tryz.prog.funcNamed "debenture/debenturelaw04.DecimalTells" = some 3 by kernel_rfl).symm.trans hf) |>.symm
   obtain rfl : fn = Tryz.f3 := (Option.some.inj (Tryz.func3.symm.trans hfn)).symm
   exact ⟨by kernel_rfl, fun j t ht => by
    rw [Tryz.params3] at ht
    have hm : t ∈ [23, 9] := by simpa using Array.mem_of_getElem? ht
    have hall : ([23, 9].all fun u => !Tryz.prog.wantsStandIn u) = true := by kernel_rfl
    exact (show Tryz.prog.wantsStandIn t = false by simpa using List.all_eq_true.1 hall t hm)⟩)
  (by kernel_rfl)
end Go.Proofs.YtaldgaiaelbbaaaGreatDoor.decimalTells
namespace Go.Proofs.YtaldgaiaelbbaaaGreatDoor
theorem decimalTells_holds : Rows.DecimalTellsCardSaid := decimalTells.proved
#print axioms decimalTells_holds
end Go.Proofs.YtaldgaiaelbbaaaGreatDoor
end
