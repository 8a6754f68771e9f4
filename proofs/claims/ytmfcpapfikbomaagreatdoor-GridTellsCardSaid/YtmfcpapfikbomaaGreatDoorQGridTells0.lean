/-
The law GridTells holds at every input that its row lets in: the row's walk and its plain law, tied to the program's text. Conditions: none beyond the given row's own.
Parts of the proof, in build order: LGridTells0, LGridTells1, LGridTells2, LGridTells3, LGridTells, PuGridTells, RowGridTells.
-/
import Derived.Test.YtmfcpapfikbomaaGreatDoorD4
import Derived.Test.YtmfcpapfikbomaaGreatDoorProg
import Derived.Below
import Derived.Deep.Draws
import Derived.Deep.AppendLies
import Derived.Maps.AppendAt
import Derived.OwnWalk
import Derived.Laws.BytesArg
import Derived.Laws.MakeOwn
import Derived.Laws.OwnMore
import Derived.Deep.OwnRows
import Derived.Tactics
import Derived.Lib.ConvBytes
import Derived.Laws.Slices
import Derived.WalkKit
import Derived.KernelRfl
import Derived.RowKit3
import Derived.Deep.LoopGhost
import Derived.Deep.QuietTactic
import Derived.BigQuiet
import Derived.WideLaws
import Derived.Deep.DeepCutAuto
import Derived.Deep.CutBlock
import Derived.Deep.RegionHeld3
import Derived.Laws.Rows
import Derived.Lib.AppendStr
import Derived.ArgAppend
import Derived.Laws.IdiomCopy
import Derived.OrdersHeld
import Derived.Laws.BitsLemmas
import Derived.RowKit
import Derived.Test.YtmfcpapfikbomaaGreatDoorD0
import Derived.Test.YtmfcpapfikbomaaGreatDoorD5
import Derived.Test.YtmfcpapfikbomaaGreatDoorD6
import Derived.Test.YtmfcpapfikbomaaGreatDoorD2
import Derived.Test.YtmfcpapfikbomaaGreatDoorTie
import Derived.Test.YtmfcpapfikbomaaGreatDoorCards
import Derived.SevenTiedAt
set_option linter.unusedVariables false
set_option linter.unusedSimpArgs false
open Go.RowKit Go.Proofs.YtmfcpapfikbomaaGreatDoorW.PrintWords Go.Proofs.YtmfcpapfikbomaaGreatDoorW.PrintLast Go.Proofs.YtmfcpapfikbomaaGreatDoorW.PrintMore
attribute [local go_sem] max2_int min2_int max_two min_two max_three min_three max_four min_four   -- for this text's walks alone
section
namespace Go.Proofs.YtmfcpapfikbomaaGreatDoor.LGridTells
def errW : Option Int → Value
 | none => .nilIface
 | some c => .iface 0 (.int .i64 c)
theorem errW_none : errW none = .nilIface := rfl
theorem errW_some (c : Int) : errW (some c) = .iface 0 (.int .i64 c) := rfl
end Go.Proofs.YtmfcpapfikbomaaGreatDoor.LGridTells
end

section
namespace Go.Proofs.YtmfcpapfikbomaaGreatDoor.LGridTells
theorem eqA23 (d : Nat) (w : World) (x0 y0 : ByteArray) (x1 y1 : ByteArray) :
  (Op.equalIn (d + 2) 23 (.agg #[.string x0, .string x1]) (.agg #[.string y0, .string y1])).run Tryz.prog w = .ok (x0.toList == y0.toList && (x1.toList == y1.toList)) w := by
 refine eqA_of Tryz.underlying23 (by kernel_rfl) ?_; refine eqf_cons (by rfl) (by go_simp; rfl) (by go_simp; rfl) (by go_simp) ?_; exact eqf_last (by rfl) (by go_simp; rfl) (by go_simp; rfl) (by go_simp)
end Go.Proofs.YtmfcpapfikbomaaGreatDoor.LGridTells
end

section
namespace Go.Proofs.YtmfcpapfikbomaaGreatDoor.LGridTells
end Go.Proofs.YtmfcpapfikbomaaGreatDoor.LGridTells
end

section
namespace Go.Proofs.YtmfcpapfikbomaaGreatDoor.LGridTells
open Go.Proofs.YtmfcpapfikbomaaGreatDoor.Pz (S23 k23 k23_mkM)
attribute [local go_sem high] eqA23
def dl5_GridTells.f (a0_0 : ByteArray) (a0_1 : ByteArray) (a1_0 : ByteArray) (a1_1 : ByteArray) (a2 : Int) : Option (Bool) := (r3_Short.f (([(⟨a0_0, a0_1⟩ : S23), (⟨a1_0, a1_1⟩ : S23)] : List (S23)))).bind fun t106 => (if t106 = true then ((dl5_fixed.f).bind fun t108 => (if t108 = true then ((grid_Whole.f a0_0 a0_1 a2).bind fun t109 => ((r5_Whole.f a0_0 a0_1 a2).bind fun t110 => (if t109.toList = t110.toList then ((grid_Round.f a0_0 a0_1 a1_0 a1_1 a2).bind fun bt111 => ((r5_Round.f a0_0 a0_1 a1_0 a1_1 a2).bind fun bt113 => (if (bt111.1.toList == bt113.1.toList && (bt111.2.toList == bt113.2.toList)) = true then ((grid_Cents.f a0_0 a0_1).bind fun bt115 => ((r5_Cents.f a0_0 a0_1).bind fun bt117 => (some (bt115.1.toList == bt117.1.toList && (bt115.2.toList == bt117.2.toList))))) else (some false)))) else (some false)))) else (some false))) else ((dl5_fixed.f).bind fun t107 => (some t107)))
def dl5_GridTells.T3 : Bool × List (List Nat × List Nat) := (true, [([], []), ([0, 0], [0]), ([1], [1]), ([1], [1]), ([2, 3, 1, 1], [1, 2, 3]), ([1], [1]), ([1], [1]), ([5, 6, 4, 1], [1, 5, 6]), ([4, 7, 1], [1, 4, 7]), ([1, 8], [1, 8]), ([9, 7], [9]), ([10], [10]), ([10], [10]), ([10], [10]), ([11, 12, 13, 10, 10], [10, 11, 12, 13]), ([10], [10]), ([10], [10]), ([10], [10]), ([15, 16, 17, 14, 10], [10, 15, 16, 17]), ([14, 18, 10], [10, 14, 18]), ([10, 19], [10, 19]), ([20, 18], [20]), ([21], [21]), ([22, 21, 21], [21, 22]), ([21], [21]), ([24, 23, 21], [21, 24]), ([23, 25, 21], [21, 23, 25]), ([21, 26], [21, 26]), ([27, 25, 0, 1, 2, 3, 4, 5, 6, 7, 8, 9, 10, 11, 12, 13, 14, 15, 16, 17, 18, 19, 20, 21, 22, 23, 24, 25, 26, 27], [27])])
def dl5_GridTells.B3 : List Nat := [0, 1, 3, 3, 15, 3, 3, 127, 255, 511, 1023, 2047, 2047, 2047, 16383, 2047, 2047, 2047, 262143, 524287, 1048575, 2097151, 4194303, 8388607, 4194303, 33554431, 67108863, 134217727, 268435455]
theorem dl5_GridTells.tab3 : rtab .any (opsOf Tryz.f3 3) = dl5_GridTells.T3 := by kernel_rfl
theorem dl5_GridTells.bits3 : waitsOk dl5_GridTells.T3.2 dl5_GridTells.B3 = true := by kernel_rfl
set_option maxHeartbeats 8000000 in
set_option maxRecDepth 100000 in
theorem dl5_GridTells.calls (a0_0 : ByteArray) (a0_1 : ByteArray) (a1_0 : ByteArray) (a1_1 : ByteArray) (a2 : Int) (r : Bool) (w : World) (hL_ : Laid w) (hr_ : Aside0 (r = true)) (h : dl5_GridTells.f a0_0 a0_1 a1_0 a1_1 a2 = some r) :
  Calls Tryz.prog 3 #[.agg #[.string a0_0, .string a0_1], .agg #[.string a1_0, .string a1_1], .int .i64 a2] w fun e w' => e = .returned (.bool r) ∧ Below w.heap.size w w' := by
 have hu23 := Tryz.underlying23; have HLD := Aside0.mk hL_; clear hL_; have HB := Aside0.mk (Below.refl w.heap.size w); have H := h; unfold dl5_GridTells.f at H; clear h; obtain ⟨y103, hy103⟩ : ∃ y_ : List (S23), y_ = (([(⟨a0_0, a0_1⟩ : S23), (⟨a1_0, a1_1⟩ : S23)] : List (S23))) := ⟨_, rfl⟩
 replace H : ((r3_Short.f y103).bind fun t106 => (if t106 = true then ((dl5_fixed.f).bind fun t108 => (if t108 = true then ((grid_Whole.f a0_0 a0_1 a2).bind fun t109 => ((r5_Whole.f a0_0 a0_1 a2).bind fun t110 => (if t109.toList = t110.toList then ((grid_Round.f a0_0 a0_1 a1_0 a1_1 a2).bind fun bt111 => ((r5_Round.f a0_0 a0_1 a1_0 a1_1 a2).bind fun bt113 => (if (bt111.1.toList == bt113.1.toList && (bt111.2.toList == bt113.2.toList)) = true then ((grid_Cents.f a0_0 a0_1).bind fun bt115 => ((r5_Cents.f a0_0 a0_1).bind fun bt117 => (some (bt115.1.toList == bt117.1.toList && (bt115.2.toList == bt117.2.toList))))) else (some false)))) else (some false)))) else (some false))) else ((dl5_fixed.f).bind fun t107 => (some t107)))) = some r := by first | (rw [hy103]; with_reducible exact H) | (have H2_ := (Option.bind_some _ _).symm.trans H; rw [hy103]; with_reducible exact H2_) | (have H2_ := (Option.bind_some _ _).symm.trans H; with_reducible exact H2_) | with_reducible exact H | (rw [hy103]; exact H) | exact H
 have Ny103 := Aside0.mk hy103; clear hy103; obtain ⟨t106, A4, H⟩ := bi_ H; by_cases c5 : t106 = true
 ·subst c5; rw [if_pos rfl] at H; obtain ⟨t108, A6, H⟩ := bi_ H; by_cases c7 : t108 = true
  ·subst c7; rw [if_pos rfl] at H; obtain ⟨t109, A8, H⟩ := bi_ H; obtain ⟨t110, A9, H⟩ := bi_ H; by_cases c10 : t109.toList = t110.toList
   ·rw [if_pos c10] at H; have c10b0 : (t109.toList == t110.toList) = true := beq_iff_eq.mpr c10; have c10b1 : (t109.toList != t110.toList) = false := bne_eq_false_iff_eq.mpr c10; clear c10; obtain ⟨⟨t111, t112⟩, A11, H⟩ := bi_ H; (try dsimp only at H); obtain ⟨⟨t113, t114⟩, A12, H⟩ := bi_ H; (try dsimp only at H); by_cases c13 : (t111.toList == t113.toList && (t112.toList == t114.toList)) = true
    ·rw [if_pos c13] at H; have c13b0 : (t111.toList == t113.toList && (t112.toList == t114.toList)) = true := c13; (try (have c13b1 : decide (t111.toList = t113.toList && (t112.toList == t114.toList)) = true := by simpa using c13)); (try (have c13b2 : (t111.toList == t113.toList && (t112.toList == t114.toList)) = true := by simpa using c13)); clear c13; obtain ⟨⟨t115, t116⟩, A14, H⟩ := bi_ H; (try dsimp only at H); obtain ⟨⟨t117, t118⟩, A15, H⟩ := bi_ H; (try dsimp only at H); obtain rfl := Option.some.inj H; go_enter Tryz.func3, Tryz.ntmps3
     try go_wp2_with (first | ((with_reducible refine gate_dst (N := 3) rfl ?_); refine be_ 3 #[.string a0_0, .string a0_1] 23 ?_; intro gb101 hg w16 hbox hb; have BK101 := Aside0.mk (hbox); have GW101 := ge_ HB hg; have GE101 := ge_ HB hg; replace HB := bs_ HB hb; clear hb hbox hg) | ((with_reducible refine gate_dst (N := 4) rfl ?_); refine be_ 4 #[.string a1_0, .string a1_1] 23 ?_; intro gb102 hg w17 hbox hb; have BK102 := Aside0.mk (hbox); have GW102 := ge_ HB hg; have GE102 := ge_ HB hg; have NB101_102 := nl_ BK101 hg; have NB102_101 := ng_ BK101 hg; replace BK101 := kb_ BK101 hb; replace HB := bs_ HB hb; clear hb hbox hg; have hnb18 := NB101_102.out; have hnc18 := NB102_101.out; have hcz19_0 := bc_ BK101 0 rfl; have hcz19_1 := bc_ BK101 1 rfl; have hfz19_0 := blk_frozen BK101.out 0; have hfz19_1 := blk_frozen BK101.out 1; have hcz20_0 := bc_ BK102 0 rfl; have hcz20_1 := bc_ BK102 1 rfl; have hfz20_0 := blk_frozen BK102.out 0; have hfz20_1 := blk_frozen BK102.out 1) | ((with_reducible refine gate_dst (N := 9) rfl ?_); refine Kd.R_lit k23 _ 23 ?hg (N := 9) ?hd (xs := ([(⟨a0_0, a0_1⟩ : S23), (⟨a1_0, a1_1⟩ : S23)] : List (S23))) (inner := [.string a0_0, .string a0_1, .string a1_0, .string a1_1]) (ok := fun _ => True) (okp := fun _ => True) ?hr ?hp (fun _ hk => hk) trivial (Below.refl _ _) (Nat.le_refl _) (by simp) ?_; (case hd => rfl); (case hg => rfl); (case hr => first | (go_simp; done) | (go_simp; rfl)); (case hp => exact (Reps.c2 (show Kd.M k23 _ _ _ (⟨a0_0, a0_1⟩ : S23) [.string a0_0, .string a0_1] from (k23_mkM _ _ _ (⟨a0_0, a0_1⟩ : S23) )) (Reps.c2 (show Kd.M k23 _ _ _ (⟨a1_0, a1_1⟩ : S23) [.string a1_0, .string a1_1] from (k23_mkM _ _ _ (⟨a1_0, a1_1⟩ : S23) )) (Reps.none _ _)))); intro v104 w21 ho22 hb hg_ hnew_; clear hg_ hnew_; (first | rw [← Ny103.out] at ho22 | (simp only [Int.reduceToNat] at ho22; rw [← Ny103.out] at ho22)); have HO105 := Aside0.mk (Kd.R_lower (Kd.R_newB (Kd.R_newB ho22 (g := gb101) (o := .cells #[.string a0_0, .string a0_1] 23 (0, 0)) (k_ BK101.out)) (g := gb102) (o := .cells #[.string a1_0, .string a1_1] 23 (0, 0)) (k_ BK102.out)) (below_size (b_ HB.out))); replace BK101 := kb_ BK101 hb; replace BK102 := kb_ BK102 hb; replace HB := bs_ HB hb; clear hb ho22; obtain ⟨Ao23, co23, eo23⟩ := Kd.R_slice HO105.out; subst eo23) | (refine gl_ 10 Tryz.func9 #[.slice Ao23 y103.length co23] ?_; (with_reducible refine (r3_Short.calls _ _ y103 true _ ?side1 ?side2 A4.out).mono ?_); (case side1 => exact c_ (Kd.R_reads' HO105.out).2.2); (case side2 => exact (Kd.R_reads' HO105.out).2.1); rintro e w24 ⟨rfl, hb⟩; refine ⟨_, rfl, ?_⟩; replace HO105 := Aside0.mk (Kd.R_below (w_ HO105.out) hb); replace BK101 := kb_ BK101 hb; replace BK102 := kb_ BK102 hb; replace HB := bs_ HB hb; (try clear hb); (try clear hb2); (try clear hk); (try clear hi)))
     replace HO105 := Aside0.mk (Kd.R_drew HO105.out); replace BK101 := Aside0.mk (blk_drew BK101.out); replace BK102 := Aside0.mk (blk_drew BK102.out); replace HB := Aside0.mk (below_drew1 HB.out); refine sa_ 29 (fun w' => w'.cell? ⟨gb101, 0, none⟩ = some (.string a0_0) ∧ w'.cell? ⟨gb101, 1, none⟩ = some (.string a0_1) ∧ w'.cell? ⟨gb102, 0, none⟩ = some (.string a1_0) ∧ w'.cell? ⟨gb102, 1, none⟩ = some (.string a1_1)) (fun hHeld => ?_); refine with_tabW dl5_GridTells.tab3 dl5_GridTells.bits3 (fun HT_ HW_ => ?_); generalize w24.drew = w25 at HO105 BK101 BK102 HB hHeld ⊢; refine on_ 0 (some 13) rfl rfl HT_ (fun K hK => ?_); refine gs_ Tryz.func10 #[] ?_; refine mo_ (dl5_fixed.calls  true _ (lb_ HLD HB) A6.out) ?_; intro w26 hb; replace HO105 := Aside0.mk (Kd.R_below (w_ HO105.out) hb); replace BK101 := kb_ BK101 hb; replace BK102 := kb_ BK102 hb; replace HB := bs_ HB hb; (try clear hb); refine hk_ hK (fun hHeld => ?_); clear hK K; refine nm_ ?_; refine pu_ 1 14 rfl rfl HT_ ?_; refine pu_ 3 16 rfl rfl HT_ ?_; refine pu_ 6 19 rfl rfl HT_ ?_; refine t4_ 2 15 rfl rfl HT_ HW_ hHeld ?_; refine t4_ 5 18 rfl rfl HT_ HW_ hHeld ?_; refine on_ 4 (some 17) rfl rfl HT_ (fun K hK => ?_); refine gs_ Tryz.func11 #[.agg #[.string a0_0, .string a0_1], .int .i64 a2] ?_; refine mo_ (grid_Whole.calls a0_0 a0_1 a2 t109 _ (lb_ HLD HB) A8.out) ?_; intro w27 hb; replace HO105 := Aside0.mk (Kd.R_below (w_ HO105.out) hb); replace BK101 := kb_ BK101 hb; replace BK102 := kb_ BK102 hb; replace HB := bs_ HB hb; (try clear hb); refine hk_ hK (fun hHeld => ?_); clear hK K; refine nm_ ?_; refine on_ 7 (some 20) rfl rfl HT_ (fun K hK => ?_); refine gs_ Tryz.func12 #[.agg #[.string a0_0, .string a0_1], .int .i64 a2] ?_; refine mo_ (r5_Whole.calls a0_0 a0_1 a2 t110 _ A9.out) ?_; intro w28 hb; replace HO105 := Aside0.mk (Kd.R_below (w_ HO105.out) hb); replace BK101 := kb_ BK101 hb; replace BK102 := kb_ BK102 hb; replace HB := bs_ HB hb; (try clear hb); refine hk_ hK (fun hHeld => ?_); clear hK K; refine nm_ ?_; refine pu_ 8 21 rfl rfl HT_ ?_; refine pu_ 9 22 rfl rfl HT_ ?_; refine pu_ 10 23 rfl rfl HT_ ?_; refine pu_ 13 26 rfl rfl HT_ ?_; refine pu_ 17 30 rfl rfl HT_ ?_; refine t4_ 11 24 rfl rfl HT_ HW_ hHeld ?_; refine t4_ 12 25 rfl rfl HT_ HW_ hHeld ?_; refine t4_ 15 28 rfl rfl HT_ HW_ hHeld ?_; refine t4_ 16 29 rfl rfl HT_ HW_ hHeld ?_; refine on_ 14 (some 27) rfl rfl HT_ (fun K hK => ?_); refine gs_ Tryz.func13 #[.agg #[.string a0_0, .string a0_1], .agg #[.string a1_0, .string a1_1], .int .i64 a2] ?_; refine mo_ (grid_Round.calls a0_0 a0_1 a1_0 a1_1 a2 t111 t112 _ (lb_ HLD HB) A11.out) ?_; intro w29 hb; replace HO105 := Aside0.mk (Kd.R_below (w_ HO105.out) hb); replace BK101 := kb_ BK101 hb; replace BK102 := kb_ BK102 hb; replace HB := bs_ HB hb; (try clear hb); refine hk_ hK (fun hHeld => ?_); clear hK K; refine nm_ ?_; refine on_ 18 (some 31) rfl rfl HT_ (fun K hK => ?_); refine gs_ Tryz.func14 #[.agg #[.string a0_0, .string a0_1], .agg #[.string a1_0, .string a1_1], .int .i64 a2] ?_; refine mo_ (r5_Round.calls a0_0 a0_1 a1_0 a1_1 a2 t113 t114 _ A12.out) ?_; intro w30 hb; replace HO105 := Aside0.mk (Kd.R_below (w_ HO105.out) hb); replace BK101 := kb_ BK101 hb; replace BK102 := kb_ BK102 hb; replace HB := bs_ HB hb; (try clear hb); refine hk_ hK (fun hHeld => ?_); clear hK K; refine nm_ ?_; refine pu_ 19 32 rfl rfl HT_ ?_; refine pu_ 20 33 rfl rfl HT_ ?_; refine pu_ 21 34 rfl rfl HT_ ?_; refine t4_ 22 35 rfl rfl HT_ HW_ hHeld ?_; refine t4_ 24 37 rfl rfl HT_ HW_ hHeld ?_; refine on_ 23 (some 36) rfl rfl HT_ (fun K hK => ?_); refine gs_ Tryz.func15 #[.agg #[.string a0_0, .string a0_1]] ?_; refine mo_ (grid_Cents.calls a0_0 a0_1 t115 t116 _ (lb_ HLD HB) A14.out) ?_; intro w31 hb; replace HO105 := Aside0.mk (Kd.R_below (w_ HO105.out) hb); replace BK101 := kb_ BK101 hb; replace BK102 := kb_ BK102 hb; replace HB := bs_ HB hb; (try clear hb); refine hk_ hK (fun hHeld => ?_); clear hK K; refine nm_ ?_; refine on_ 25 (some 38) rfl rfl HT_ (fun K hK => ?_); refine gs_ Tryz.func16 #[.agg #[.string a0_0, .string a0_1]] ?_; refine mo_ (r5_Cents.calls a0_0 a0_1 t117 t118 _ A15.out) ?_; intro w32 hb; replace HO105 := Aside0.mk (Kd.R_below (w_ HO105.out) hb); replace BK101 := kb_ BK101 hb; replace BK102 := kb_ BK102 hb; replace HB := bs_ HB hb; (try clear hb); refine hk_ hK (fun hHeld => ?_); clear hK K; refine nm_ ?_; refine pu_ 26 39 rfl rfl HT_ ?_; refine pu_ 27 40 rfl rfl HT_ ?_; refine pu_ 28 6 rfl rfl HT_ ?_; refine done_ (done_of HT_.out (by kernel_rfl)) ?_
     try go_wp2
     go_ret
     exact ⟨er_, b_ HB.out⟩
    ·rw [if_neg c13] at H; exact absurd (H.trans (congrArg some hr_.out)) (by decide)
   ·rw [if_neg c10] at H; exact absurd (H.trans (congrArg some hr_.out)) (by decide)
  ·replace c7 := Bool.eq_false_iff.mpr c7; subst c7
   have H1 : (some false) = some r := by rw [if_neg (show ¬ (false = true) by decide)] at H; exact H
   exact absurd (H1.trans (congrArg some hr_.out)) (by decide)
 ·replace c5 := Bool.eq_false_iff.mpr c5; subst c5; rw [if_neg nf_] at H; obtain ⟨t107, A72, H⟩ := bi_ H; obtain rfl := Option.some.inj H; go_enter Tryz.func3, Tryz.ntmps3
  go_wp2_with (first | ((with_reducible refine gate_dst (N := 3) rfl ?_); refine be_ 3 #[.string a0_0, .string a0_1] 23 ?_; intro gb101 hg w73 hbox hb; have BK101 := Aside0.mk (hbox); have GW101 := ge_ HB hg; have GE101 := ge_ HB hg; replace HB := bs_ HB hb; clear hb hbox hg) | ((with_reducible refine gate_dst (N := 4) rfl ?_); refine be_ 4 #[.string a1_0, .string a1_1] 23 ?_; intro gb102 hg w74 hbox hb; have BK102 := Aside0.mk (hbox); have GW102 := ge_ HB hg; have GE102 := ge_ HB hg; have NB101_102 := nl_ BK101 hg; have NB102_101 := ng_ BK101 hg; replace BK101 := kb_ BK101 hb; replace HB := bs_ HB hb; clear hb hbox hg; have hnb75 := NB101_102.out; have hnc75 := NB102_101.out; have hcz76_0 := bc_ BK101 0 rfl; have hcz76_1 := bc_ BK101 1 rfl; have hfz76_0 := blk_frozen BK101.out 0; have hfz76_1 := blk_frozen BK101.out 1; have hcz77_0 := bc_ BK102 0 rfl; have hcz77_1 := bc_ BK102 1 rfl; have hfz77_0 := blk_frozen BK102.out 0; have hfz77_1 := blk_frozen BK102.out 1) | ((with_reducible refine gate_dst (N := 9) rfl ?_); refine Kd.R_lit k23 _ 23 ?hg (N := 9) ?hd (xs := ([(⟨a0_0, a0_1⟩ : S23), (⟨a1_0, a1_1⟩ : S23)] : List (S23))) (inner := [.string a0_0, .string a0_1, .string a1_0, .string a1_1]) (ok := fun _ => True) (okp := fun _ => True) ?hr ?hp (fun _ hk => hk) trivial (Below.refl _ _) (Nat.le_refl _) (by simp) ?_; (case hd => rfl); (case hg => rfl); (case hr => first | (go_simp; done) | (go_simp; rfl)); (case hp => exact (Reps.c2 (show Kd.M k23 _ _ _ (⟨a0_0, a0_1⟩ : S23) [.string a0_0, .string a0_1] from (k23_mkM _ _ _ (⟨a0_0, a0_1⟩ : S23) )) (Reps.c2 (show Kd.M k23 _ _ _ (⟨a1_0, a1_1⟩ : S23) [.string a1_0, .string a1_1] from (k23_mkM _ _ _ (⟨a1_0, a1_1⟩ : S23) )) (Reps.none _ _)))); intro v104 w78 ho79 hb hg_ hnew_; clear hg_ hnew_; (first | rw [← Ny103.out] at ho79 | (simp only [Int.reduceToNat] at ho79; rw [← Ny103.out] at ho79)); have HO105 := Aside0.mk (Kd.R_lower (Kd.R_newB (Kd.R_newB ho79 (g := gb101) (o := .cells #[.string a0_0, .string a0_1] 23 (0, 0)) (k_ BK101.out)) (g := gb102) (o := .cells #[.string a1_0, .string a1_1] 23 (0, 0)) (k_ BK102.out)) (below_size (b_ HB.out))); replace BK101 := kb_ BK101 hb; replace BK102 := kb_ BK102 hb; replace HB := bs_ HB hb; clear hb ho79; obtain ⟨Ao80, co80, eo80⟩ := Kd.R_slice HO105.out; subst eo80) | (refine gl_ 10 Tryz.func9 #[.slice Ao80 y103.length co80] ?_; (with_reducible refine (r3_Short.calls _ _ y103 false _ ?side1 ?side2 A4.out).mono ?_); (case side1 => exact c_ (Kd.R_reads' HO105.out).2.2); (case side2 => exact (Kd.R_reads' HO105.out).2.1); rintro e w81 ⟨rfl, hb⟩; refine ⟨_, rfl, ?_⟩; replace HO105 := Aside0.mk (Kd.R_below (w_ HO105.out) hb); replace BK101 := kb_ BK101 hb; replace BK102 := kb_ BK102 hb; replace HB := bs_ HB hb; (try clear hb); (try clear hb2); (try clear hk); (try clear hi)) | (refine gl_ 12 Tryz.func10 #[] ?_; refine mo_ (dl5_fixed.calls  t107 _ (lb_ HLD HB) A72.out) ?_; intro w82 hb; replace HO105 := Aside0.mk (Kd.R_below (w_ HO105.out) hb); replace BK101 := kb_ BK101 hb; replace BK102 := kb_ BK102 hb; replace HB := bs_ HB hb; (try clear hb); (try clear hb2); (try clear hk); (try clear hi)))
  go_ret
  exact ⟨er_, b_ HB.out⟩
end Go.Proofs.YtmfcpapfikbomaaGreatDoor.LGridTells
end

section
namespace Go.Proofs.YtmfcpapfikbomaaGreatDoor.LGridTells
end Go.Proofs.YtmfcpapfikbomaaGreatDoor.LGridTells
end

section
namespace Go.Proofs.YtmfcpapfikbomaaGreatDoor
theorem shortsR2 {a b c d : ByteArray} : r3_Short.f [⟨a, b⟩, ⟨c, d⟩] = some (shortR ⟨a, b⟩ && shortR ⟨c, d⟩) := by
 unfold r3_Short.f
 rw [if_pos (by simp)]
 simp [List.all_cons]
theorem of_short {a b : ByteArray} (h : shortR ⟨a, b⟩ = true) : a.size ≤ 100 ∧ b.size ≤ 100 := by
 unfold shortR at h
 rw [Bool.and_eq_true, decide_eq_true_eq, decide_eq_true_eq] at h
 exact h
theorem tt2 (a b : ByteArray) : (a.toList == a.toList && (b.toList == b.toList)) = true := by simp
theorem pureGridTells (a0_0 a0_1 a1_0 a1_1 : ByteArray) (a2 : Int) (w2 : (Lit.int .i64 a2).wf = true) : ∃ k : Nat, LGridTells.dl5_GridTells.f a0_0 a0_1 a1_0 a1_1 a2 = some true := by
 refine ⟨0, ?_⟩
 unfold LGridTells.dl5_GridTells.f dl5_fixed.f
 rw [shortsR2, Option.bind_some]
 cases h0 : shortR ⟨a0_0, a0_1⟩ <;> cases h1 : shortR ⟨a1_0, a1_1⟩
 all_goals first | rfl | skip
 have g0 := of_short h0
 have g1 := of_short h1
 have sx : smG (a0_0, a0_1) = true := decide_eq_true (show a0_0.size + a0_1.size ≤ 900 by omega)
 have sg : smG (a1_0, a1_1) = true := decide_eq_true (show a1_0.size + a1_1.size ≤ 900 by omega)
 have tx : smH (a0_0, a0_1) = true := decide_eq_true (show a0_0.size + a0_1.size ≤ 450 by omega)
 have tg : smH (a1_0, a1_1) = true := decide_eq_true (show a1_0.size + a1_1.size ≤ 450 by omega)
 have s2 : smG2 (a0_0, a0_1) (a1_0, a1_1) = true := by unfold smG2; rw [sx, sg]; rfl
 have t2 : smH2 (a0_0, a0_1) (a1_0, a1_1) = true := by unfold smH2; rw [tx, tg]; rfl
 have hw : ∃ m, grid_Whole.f a0_0 a0_1 a2 = some m ∧ r5_Whole.f a0_0 a0_1 a2 = some m := ⟨_, if_pos sx, if_pos tx⟩
 have hr : ∃ m, grid_Round.f a0_0 a0_1 a1_0 a1_1 a2 = some m ∧ r5_Round.f a0_0 a0_1 a1_0 a1_1 a2 = some m := ⟨_, if_pos s2, if_pos t2⟩
 have hc : ∃ m, grid_Cents.f a0_0 a0_1 = some m ∧ r5_Cents.f a0_0 a0_1 = some m := ⟨_, if_pos sx, if_pos tx⟩
 obtain ⟨m, hw, hw'⟩ := hw
 obtain ⟨⟨u1, u2⟩, hr, hr'⟩ := hr
 obtain ⟨⟨v1, v2⟩, hc, hc'⟩ := hc
 rw [if_pos (by rfl), Option.bind_some, if_pos rfl, hw, Option.bind_some, hw', Option.bind_some, if_pos rfl, hr, Option.bind_some, hr', Option.bind_some, if_pos (tt2 _ _), hc, Option.bind_some, hc', Option.bind_some, tt2]
end Go.Proofs.YtmfcpapfikbomaaGreatDoor
end

section
namespace Go.Proofs.YtmfcpapfikbomaaGreatDoor.gridTells
open Go.ChangeShapes Go.WideShapes Go.ChangeAt Go.RowKit
set_option maxRecDepth 100000 in
theorem lifted (os : Os) (started : os.Started) (H : Type) (enc : TypeId × Value → H) :
  ReturnsInHanded {} Tryz.checked os 3 .any (fun w args => (Rows.gridTellsSpec.pre enc Tryz.prog Tryz.f3 Rows.gridTellsRow.domain false w args ∧ laidMetH Tryz.prog laidL w) ∧ sizedMet enc Tryz.prog Tryz.f3 (OpenSpec.ofChange Rows.gridTellsSpec) false w args)
   (Rows.gridTellsSpec.post enc Tryz.prog Tryz.f3 false true false false) := by
 refine returnsInHanded_of_change_and (C := Tryz.checked) (X := fun w _ => laidMetH Tryz.prog laidL w) (fun _ _ _ hh h => h.of_heap hh) own started (by kernel_rfl) Tryz.func3
  (ChangeSpec.witness_shaped (enc := enc) (C := Tryz.checked) (os := os) (X := fun w _ => laidMetH Tryz.prog laidL w) false (World.doorLaid Tryz.prog 4000 os) #[.agg #[.string ByteArray.empty, .string ByteArray.empty], .agg #[.string ByteArray.empty, .string ByteArray.empty], .int .i64 0] 8 rfl (World.shaped_of_RefB (by kernel_rfl) (by kernel_rfl)) (by kernel_rfl) (by kernel_rfl) (by kernel_rfl) (door_met os _)) ?_
 intro W base args ds gs before hval0 hW _ hsz0 hL _
 have hsz : (DataW.weightsEach Tryz.prog (Tryz.f3.params.toList ++ Rows.gridTellsSpec.plain.varTypes Tryz.prog) (ds ++ gs)).all (· ≤ reachBytes) = true := hsz0
 have hval : ∀ (j : Nat) t v, Tryz.f3.params[j]? = some t → args[j]? = some v → Value.okWide Tryz.prog W .any base t v := hval0
 have hW' := hW
 obtain ⟨p, q, hA0, hV, rfl, hfz, hnd⟩ := hW
 have hA : DataW.TrodAll enc Tryz.prog W 0 (fun _ => true) true Tryz.f3.params.toList args.toList ds p := hA0
 rw [Tryz.params3] at hA hval hsz
 obtain ⟨v0, vs0, d0, ds0, p0, q0, hargs, rfl, rfl, h0, r0⟩ := trodAll_cons hA
 obtain ⟨v1, vs1, d1, ds1, p1, q1, rfl, rfl, rfl, h1, r1⟩ := trodAll_cons r0
 obtain ⟨v2, vs2, d2, ds2, p2, q2, rfl, rfl, rfl, h2, r2⟩ := trodAll_cons r1
 obtain ⟨rfl, rfl, rfl⟩ := trodAll_nil r2
 obtain rfl : args = #[v0, v1, v2] := by cases args; simp_all
 obtain ⟨rfl, rfl⟩ := trodVars_none hV
 obtain ⟨a0_0, a0_1, rfl, rfl, rfl, y0_0, y0_1⟩ := open_s2 Tryz.underlying23 Tryz.underlying9 Tryz.underlying9 (by kernel_rfl) (by kernel_rfl : Tryz.prog.cellsOf 23 = 2) (hval 0 23 v0 rfl rfl) h0
 obtain ⟨a1_0, a1_1, rfl, rfl, rfl, y1_0, y1_1⟩ := open_s2 Tryz.underlying23 Tryz.underlying9 Tryz.underlying9 (by kernel_rfl) (by kernel_rfl : Tryz.prog.cellsOf 23 = 2) (hval 1 23 v1 rfl rfl) h1
 obtain ⟨a2, rfl, rfl, rfl, w2⟩ := open_int Tryz.underlying3 (hval 2 3 v2 rfl rfl) h2
 clear hA0 hval0 hsz0 hsz
 obtain ⟨k, hf⟩ := pureGridTells a0_0 a0_1 a1_0 a1_1 a2 w2
 refine (LGridTells.dl5_GridTells.calls a0_0 a0_1 a1_0 a1_1 a2 true W (laid_of hL) ⟨rfl⟩ hf).mono fun e W' ⟨he, bel⟩ => ?_
 subst he
 exact ⟨_, rfl, _, _, _, [], _, [], hW', trodAll_mk1 (shut_bool Tryz.underlying4 _), (trodAll_cons_mk (shut_s2 Tryz.underlying23 Tryz.underlying9 Tryz.underlying9 (by kernel_rfl) (by kernel_rfl : Tryz.prog.cellsOf 23 = 2) y0_0 y0_1) (trodAll_cons_mk (shut_s2 Tryz.underlying23 Tryz.underlying9 Tryz.underlying9 (by kernel_rfl) (by kernel_rfl : Tryz.prog.cellsOf 23 = 2) y1_0 y1_1) (trodAll_cons_mk (shut_int Tryz.underlying3 w2) trodAll_mk0))), rfl, bel.frame _, fun h => by cases h⟩
theorem over : Rows.GridTellsSaid :=
 OpenClaim.holds_of_wide 3 Tryz.f3 rfl rfl rfl rfl rfl rfl rfl ⟨rfl, rfl, rfl, rfl, rfl⟩ rfl rfl rfl rfl rfl (by kernel_rfl) Tryz.func3 (by kernel_rfl)
  (of_decide_eq_true (by kernel_rfl)) (by unfold Func.isWrapper; first | (rw [if_pos (by decide +kernel)]; kernel_rfl) | (rw [if_neg (by decide +kernel)]; exact ⟨rfl, rfl⟩))
  (fun os started H enc _ => lifted os started H enc)
theorem proved : Rows.GridTellsCardSaid :=
 Claim7.holds_tied_plain_at .later [] [.data, .data, .data, .sentinel, .sentinel] true (true, "b3870cba59922883960d8a6bf06328dd79f9947c939392f4afc6c5f8b9def57b") true
  over (fun _ h => by cases h) (by kernel_rfl) (fun _ h => by cases h) gridTells_row_tie rfl ⟨rfl, rfl⟩ (by kernel_rfl) rfl
  (fun f fn hf hfn => by
   obtain rfl : f = 3 := Option.some.inj ((show Tryz.prog.funcNamed "debenture/debenturelaw05.GridTells" = some 3 by kernel_rfl).symm.trans hf) |>.symm
   obtain rfl : fn = Tryz.f3 := (Option.some.inj (Tryz.func3.symm.trans hfn)).symm
   exact ⟨by kernel_rfl, fun j t ht => by
    rw [Tryz.params3] at ht
    have hm : t ∈ [23, 23, 3] := by simpa using Array.mem_of_getElem? ht
    have hall : ([23, 23, 3].all fun u => !Tryz.prog.wantsStandIn u) = true := by kernel_rfl
    exact (show Tryz.prog.wantsStandIn t = false by simpa using List.all_eq_true.1 hall t hm)⟩)
  (by kernel_rfl)
end Go.Proofs.YtmfcpapfikbomaaGreatDoor.gridTells
namespace Go.Proofs.YtmfcpapfikbomaaGreatDoor
theorem gridTells_holds : Rows.GridTellsCardSaid := gridTells.proved
#print axioms gridTells_holds
end Go.Proofs.YtmfcpapfikbomaaGreatDoor
end
