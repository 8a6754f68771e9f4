/-
The law DecimalWhole holds at every input that its row lets in: the row's walk and its plain law, tied to the program's text. Conditions: none beyond the given row's own.
Parts of the proof, in build order: LDecimalWhole0, LDecimalWhole1, LDecimalWhole2, LDecimalWhole3, LDecimalWhole, PuDecimalWhole, RowDecimalWhole.
-/
import Derived.Test.YtaldgaiaelbbaaaGreatDoorC4
import Derived.Test.YtaldgaiaelbbaaaGreatDoorProg
import Derived.Below
import Derived.Deep.Draws
import Derived.Deep.AppendLies
import Derived.Maps.AppendAt
import Derived.OwnWalk
import Derived.Laws.BytesArg
import Derived.Laws.MakeOwn
import Derived.Laws.OwnMore
import Derived.Deep.OwnRows
import Derived.Tactics
import Derived.Lib.ConvBytes
import Derived.Laws.Slices
import Derived.WalkKit
import Derived.KernelRfl
import Derived.RowKit3
import Derived.Deep.LoopGhost
import Derived.Deep.QuietTactic
import Derived.BigQuiet
import Derived.WideLaws
import Derived.Deep.DeepCutAuto
import Derived.Deep.CutBlock
import Derived.Deep.RegionHeld3
import Derived.Laws.Rows
import Derived.Lib.AppendStr
import Derived.ArgAppend
import Derived.Laws.IdiomCopy
import Derived.OrdersHeld
import Derived.Laws.BitsLemmas
import Derived.RowKit
import Derived.Test.YtaldgaiaelbbaaaGreatDoorC0
import Derived.Test.YtaldgaiaelbbaaaGreatDoorC5
import Derived.Test.YtaldgaiaelbbaaaGreatDoorC2
import Derived.Test.YtaldgaiaelbbaaaGreatDoorTie
import Derived.Test.YtaldgaiaelbbaaaGreatDoorCards
import Derived.SevenTiedAt
set_option linter.unusedVariables false
set_option linter.unusedSimpArgs false
open Go.RowKit Go.Proofs.YtaldgaiaelbbaaaGreatDoorW.PrintWords Go.Proofs.YtaldgaiaelbbaaaGreatDoorW.PrintLast Go.Proofs.YtaldgaiaelbbaaaGreatDoorW.PrintMore
attribute [local go_sem] max2_int min2_int max_two min_two max_three min_three max_four min_four   -- for this text's walks alone
section
namespace Go.Proofs.YtaldgaiaelbbaaaGreatDoor.LDecimalWhole
def errW : Option Int → Value
 | none => .nilIface
 | some c => .iface 0 (.int .i64 c)
theorem errW_none : errW none = .nilIface := rfl
theorem errW_some (c : Int) : errW (some c) = .iface 0 (.int .i64 c) := rfl
end Go.Proofs.YtaldgaiaelbbaaaGreatDoor.LDecimalWhole
end

section
namespace Go.Proofs.YtaldgaiaelbbaaaGreatDoor.LDecimalWhole
theorem eqA23 (d : Nat) (w : World) (x0 y0 : ByteArray) (x1 y1 : ByteArray) :
  (Op.equalIn (d + 2) 23 (.agg #[.string x0, .string x1]) (.agg #[.string y0, .string y1])).run Tryz.prog w = .ok (x0.toList == y0.toList && (x1.toList == y1.toList)) w := by
 refine eqA_of Tryz.underlying23 (by kernel_rfl) ?_; refine eqf_cons (by rfl) (by go_simp; rfl) (by go_simp; rfl) (by go_simp) ?_; exact eqf_last (by rfl) (by go_simp; rfl) (by go_simp; rfl) (by go_simp)
end Go.Proofs.YtaldgaiaelbbaaaGreatDoor.LDecimalWhole
end

section
namespace Go.Proofs.YtaldgaiaelbbaaaGreatDoor.LDecimalWhole
end Go.Proofs.YtaldgaiaelbbaaaGreatDoor.LDecimalWhole
end

section
namespace Go.Proofs.YtaldgaiaelbbaaaGreatDoor.LDecimalWhole
attribute [local go_sem high] eqA23
def dl4_DecimalWhole.j0 : Nat → Int → Bool → Option (Bool)
 | 0, _, _ => none
 | k + 1, x0, x19 => if x19 = true then ((dl4_fixed.f).bind fun t102 => (some t102)) else ((r3_Of.f x0).bind fun bt103 => ((decimal_Parse.f bt103.1).bind fun bt106 => ((r3_One.f x0 100).bind fun bt110 => ((decimal_Places.f bt110.1 bt110.2).bind fun bt112 => ((decimal_Places.f bt103.1 bt103.2).bind fun bt114 => ((decimal_Print.f bt103.1 bt103.2).bind fun t116 => (if t116.toList = bt103.1.toList then (if bt106.2.2 = 0 then (if (bt106.1.toList == bt103.1.toList && (bt106.2.1.toList == bt103.2.toList)) = true then (if bt112.2 = true then (if bt112.1 ≤ 2 then (if bt114.2 = true then (some (bt114.1 == 0)) else (some false)) else (some false)) else (some false)) else (some false)) else (some false)) else (some false))))))))
def dl4_DecimalWhole.f (k : Nat) (a0 : Int) : Option (Bool) := (dl4_fixed.f).bind fun t101 => (if t101 = true then (if a0 < (-1099511627776) then (dl4_DecimalWhole.j0 k a0 true) else (dl4_DecimalWhole.j0 k a0 (decide (a0 > 1099511627776)))) else (dl4_DecimalWhole.j0 k a0 true))
def dl4_DecimalWhole.T7 : Bool × List (List Nat × List Nat) := (true, [([], []), ([0], [0]), ([], []), ([2], [2]), ([1, 3], [1, 3]), ([4, 1], [4]), ([5], [5]), ([6, 5], [5, 6]), ([5, 7], [5, 7]), ([8, 5], [8]), ([9], [9]), ([9], [9]), ([10, 11, 9], [9, 10, 11]), ([9, 12], [9, 12]), ([13, 9], [13]), ([14], [14]), ([14, 15], [14, 15]), ([16, 14], [16]), ([17], [17]), ([18, 17], [17, 18]), ([17, 19], [17, 19]), ([20, 17], [20]), ([21], [21]), ([21, 22], [21, 22]), ([23, 21], [23]), ([24], [24]), ([25, 24], [24, 25]), ([24, 26], [24, 26]), ([27, 24, 0, 1, 2, 3, 4, 5, 6, 7, 8, 9, 10, 11, 12, 13, 14, 15, 16, 17, 18, 19, 20, 21, 22, 23, 24, 25, 26, 27], [27])])
def dl4_DecimalWhole.B7 : List Nat := [0, 1, 0, 4, 15, 31, 63, 127, 255, 511, 1023, 1023, 4095, 8191, 16383, 32767, 65535, 131071, 262143, 524287, 1048575, 2097151, 4194303, 8388607, 16777215, 33554431, 67108863, 134217727, 268435455]
theorem dl4_DecimalWhole.tab7 : rtab .any (opsOf Tryz.f7 7) = dl4_DecimalWhole.T7 := by kernel_rfl
theorem dl4_DecimalWhole.bits7 : waitsOk dl4_DecimalWhole.T7.2 dl4_DecimalWhole.B7 = true := by kernel_rfl
set_option maxHeartbeats 8000000 in
set_option maxRecDepth 100000 in
theorem dl4_DecimalWhole.calls (k : Nat) (a0 : Int) (r : Bool) (w : World) (hL_ : Laid w) (hr_ : Aside0 (r = true)) (h : dl4_DecimalWhole.f k a0 = some r) :
  Calls Tryz.prog 7 #[.int .i64 a0] w fun e w' => e = .returned (.bool r) ∧ Below w.heap.size w w' := by
 have hu23 := Tryz.underlying23; have HLD := Aside0.mk hL_; clear hL_; have HB := Aside0.mk (Below.refl w.heap.size w); have H := h; unfold dl4_DecimalWhole.f at H; clear h; have HC2 := Aside0.mk H; clear H; go_enter Tryz.func7, Tryz.ntmps7
 go_upto_region 1 with (fail)
 go_cut [19] (fun v19 wc => ∃ (kq : Nat) (x19_1 : Bool), v19 = .bool x19_1 ∧ Aside0 (dl4_DecimalWhole.j0 kq a0 x19_1 = some r) ∧ Aside0 (kq ≤ k) ∧ Aside0 (Below w.heap.size w wc))
 case first =>
  have H := HC2.out; clear HC2; obtain ⟨t101, A3, H⟩ := bi_ H; by_cases c4 : t101 = true
  ·subst c4; rw [if_pos rfl] at H; by_cases c5 : a0 < (-1099511627776)
   ·rw [if_pos c5] at H; have c5b0 : decide (a0 < (-1099511627776)) = true := decide_eq_true c5; clear c5; (first | rw [c5b0] | (simp only [i64_w, i32_w]; rw [c5b0]) | skip); have H' := Aside0.mk H; clear H
    go_wp2_with (first | (refine gl_ 10 Tryz.func9 #[] ?_; refine mo_ (dl4_fixed.calls  true _ (lb_ HLD HB) A3.out) ?_; intro w6 hb; replace HB := bs_ HB hb; (try clear hb); (try clear hb2); (try clear hk); (try clear hi)))
    go_meet
    case rel => exact ⟨_, (true), rl_, H', ⟨by first | omega | exact Nat.le_refl _⟩, ⟨b_ HB.out⟩⟩
   ·rw [if_neg c5] at H; have c5b0 : decide (a0 < (-1099511627776)) = false := decide_eq_false c5; clear c5; (first | rw [c5b0] | (simp only [i64_w, i32_w]; rw [c5b0]) | skip); have H' := Aside0.mk H; clear H
    go_wp2_with (first | (refine gl_ 10 Tryz.func9 #[] ?_; refine mo_ (dl4_fixed.calls  true _ (lb_ HLD HB) A3.out) ?_; intro w7 hb; replace HB := bs_ HB hb; (try clear hb); (try clear hb2); (try clear hk); (try clear hi)))
    go_meet
    case rel => exact ⟨_, (decide (a0 > 1099511627776)), rl_, H', ⟨by first | omega | exact Nat.le_refl _⟩, ⟨b_ HB.out⟩⟩
  ·replace c4 := Bool.eq_false_iff.mpr c4; subst c4; rw [if_neg nf_] at H; have H' := Aside0.mk H; clear H
   go_wp2_with (first | (refine gl_ 10 Tryz.func9 #[] ?_; refine mo_ (dl4_fixed.calls  false _ (lb_ HLD HB) A3.out) ?_; intro w8 hb; replace HB := bs_ HB hb; (try clear hb); (try clear hb2); (try clear hk); (try clear hi)))
   go_meet
   case rel => exact ⟨_, (true), rl_, H', ⟨by first | omega | exact Nat.le_refl _⟩, ⟨b_ HB.out⟩⟩
 case rest =>
  clear HC2; (try clear p2); (try clear c4); (try clear c5); (try clear c5b0); (try clear c7); obtain ⟨kq, x19_1, rfl, HA, HJ1, HB⟩ := hcut
  cases kq with
  | zero => exact absurd HA.out (by simp [dl4_DecimalWhole.j0])
  | succ kj1 =>
   have H := HA.out; clear HA; simp only [dl4_DecimalWhole.j0] at H; by_cases c9 : x19_1 = true
   ·subst c9; rw [if_pos rfl] at H; obtain ⟨t102, A10, H⟩ := bi_ H; obtain rfl := Option.some.inj H
    go_wp2_with (first | (refine gl_ 20 Tryz.func9 #[] ?_; refine mo_ (dl4_fixed.calls  t102 _ (lb_ HLD HB) A10.out) ?_; intro w11 hb; replace HB := bs_ HB hb; (try clear hb); (try clear hb2); (try clear hk); (try clear hi)))
    go_ret
    exact ⟨er_, b_ HB.out⟩
   ·replace c9 := Bool.eq_false_iff.mpr c9; subst c9; rw [if_neg nf_] at H; obtain ⟨⟨t103, t104⟩, A12, H⟩ := bi_ H; (try dsimp only at H); obtain ⟨⟨t106, t107, t108⟩, A13, H⟩ := bi_ H; (try dsimp only at H); obtain ⟨⟨t110, t111⟩, A14, H⟩ := bi_ H; (try dsimp only at H); obtain ⟨⟨t112, t113⟩, A15, H⟩ := bi_ H; (try dsimp only at H); obtain ⟨⟨t114, t115⟩, A16, H⟩ := bi_ H; (try dsimp only at H); obtain ⟨t116, A17, H⟩ := bi_ H; by_cases c18 : t116.toList = t103.toList
    ·rw [if_pos c18] at H; have c18b0 : (t116.toList == t103.toList) = true := beq_iff_eq.mpr c18; have c18b1 : (t116.toList != t103.toList) = false := bne_eq_false_iff_eq.mpr c18; clear c18; by_cases c19 : t108 = 0
     ·rw [if_pos c19] at H; have c19b0 : (t108 == 0) = true := beq_iff_eq.mpr c19; have c19b1 : (t108 != 0) = false := bne_eq_false_iff_eq.mpr c19; clear c19; by_cases c20 : (t106.toList == t103.toList && (t107.toList == t104.toList)) = true
      ·rw [if_pos c20] at H; have c20b0 : (t106.toList == t103.toList && (t107.toList == t104.toList)) = true := c20; (try (have c20b1 : decide (t106.toList = t103.toList && (t107.toList == t104.toList)) = true := by simpa using c20)); (try (have c20b2 : (t106.toList == t103.toList && (t107.toList == t104.toList)) = true := by simpa using c20)); clear c20; by_cases c21 : t113 = true
       ·subst c21; rw [if_pos rfl] at H; by_cases c22 : t112 ≤ 2
        ·rw [if_pos c22] at H; have c22b0 : decide (t112 ≤ 2) = true := decide_eq_true c22; clear c22; by_cases c23 : t115 = true
         ·subst c23; rw [if_pos rfl] at H; obtain rfl := Option.some.inj H
          try go_wp2_with (first | (refine gl_ 22 Tryz.func22 #[.int .i64 a0] ?_; refine mo_ (r3_Of.calls a0 t103 t104 _ A12.out) ?_; intro w24 hb; replace HB := bs_ HB hb; (try clear hb); (try clear hb2); (try clear hk); (try clear hi)) | ((with_reducible refine gate_dst (N := 3) rfl ?_); refine be_ 3 #[.string (⟨#[]⟩ : ByteArray), .string (⟨#[]⟩ : ByteArray)] 23 ?_; intro gb105 hg w25 hbox hb; have BK105 := Aside0.mk (hbox); have GW105 := ge_ HB hg; have GE105 := ge_ HB hg; replace HB := bs_ HB hb; clear hb hbox hg; have hcz26_0 := bc_ BK105 0 rfl; have hcz26_1 := bc_ BK105 1 rfl; have hfz26_0 := blk_frozen BK105.out 0; have hfz26_1 := blk_frozen BK105.out 1) | (refine gl_ 26 Tryz.func10 #[.string t103] ?_; refine mo_ (decimal_Parse.calls t103 t106 t107 t108 _ (lb_ HLD HB) A13.out) ?_; intro w27 hb; replace BK105 := Aside0.mk (blk_below (g := gb105) (o := .cells #[.string t103, .string t104] 23 (0, 0)) (rp_ BK105.out) hb); replace HB := bs_ HB hb; (try clear hb); (try clear hb2); (try clear hk); (try clear hi)) | ((with_reducible refine gate_dst (N := 4) rfl ?_); refine be_ 4 #[.string (⟨#[]⟩ : ByteArray), .string (⟨#[]⟩ : ByteArray)] 23 ?_; intro gb109 hg w28 hbox hb; have BK109 := Aside0.mk (hbox); have GW109 := ge_ HB hg; have GE109 := ge_ HB hg; have NB105_109 := nl_ BK105 hg; have NB109_105 := ng_ BK105 hg; replace BK105 := kb_ BK105 hb; replace HB := bs_ HB hb; clear hb hbox hg; have hnb29 := NB109_105.out; have hnc29 := NB105_109.out; have hcz30_0 := bc_ BK109 0 rfl; have hcz30_1 := bc_ BK109 1 rfl; have hfz30_0 := blk_frozen BK109.out 0; have hfz30_1 := blk_frozen BK109.out 1) | (refine gl_ 31 Tryz.func23 #[.int .i64 a0, .int .i64 100] ?_; refine mo_ (r3_One.calls a0 100 t110 t111 _ A14.out) ?_; intro w31 hb; replace BK105 := Aside0.mk (blk_below (g := gb105) (o := .cells #[.string t103, .string t104] 23 (0, 0)) (fr_ BK105.out) hb); replace BK109 := Aside0.mk (blk_below (g := gb109) (o := .cells #[.string t106, .string t107] 23 (0, 0)) (rp_ BK109.out) hb); replace HB := bs_ HB hb; (try clear hb); (try clear hb2); (try clear hk); (try clear hi)) | (refine gl_ 32 Tryz.func12 #[.agg #[.string t110, .string t111]] ?_; refine mo_ (decimal_Places.calls t110 t111 t112 true _ (lb_ HLD HB) A15.out) ?_; intro w32 hb; replace BK105 := kb_ BK105 hb; replace BK109 := kb_ BK109 hb; replace HB := bs_ HB hb; (try clear hb); (try clear hb2); (try clear hk); (try clear hi); have hcz33_0 := bc_ BK105 0 rfl; have hcz33_1 := bc_ BK105 1 rfl; have hfz33_0 := blk_frozen BK105.out 0; have hfz33_1 := blk_frozen BK105.out 1) | (refine gl_ 37 Tryz.func12 #[.agg #[.string t103, .string t104]] ?_; refine mo_ (decimal_Places.calls t103 t104 t114 true _ (lb_ HLD HB) A16.out) ?_; intro w34 hb; replace BK105 := kb_ BK105 hb; replace BK109 := kb_ BK109 hb; replace HB := bs_ HB hb; (try clear hb); (try clear hb2); (try clear hk); (try clear hi)))
          replace BK105 := Aside0.mk (blk_drew BK105.out); replace BK109 := Aside0.mk (blk_drew BK109.out); replace HB := Aside0.mk (below_drew1 HB.out); refine sa_ 29 (fun w' => w'.cell? ⟨gb105, 0, none⟩ = some (.string t103) ∧ w'.cell? ⟨gb105, 1, none⟩ = some (.string t104) ∧ w'.cell? ⟨gb109, 0, none⟩ = some (.string t106) ∧ w'.cell? ⟨gb109, 1, none⟩ = some (.string t107)) (fun hHeld => ?_); refine with_tabW dl4_DecimalWhole.tab7 dl4_DecimalWhole.bits7 (fun HT_ HW_ => ?_); generalize w34.drew = w35 at BK105 BK109 HB hHeld ⊢; refine pu_ 2 42 rfl rfl HT_ ?_; refine t4_ 0 40 rfl rfl HT_ HW_ hHeld ?_; refine t4_ 3 43 rfl rfl HT_ HW_ hHeld ?_; refine on_ 1 (some 41) rfl rfl HT_ (fun K hK => ?_); refine gs_ Tryz.func14 #[.agg #[.string t103, .string t104]] ?_; refine mo_ (decimal_Print.calls t103 t104 t116 _ (lb_ HLD HB) A17.out) ?_; intro w36 hb; replace BK105 := kb_ BK105 hb; replace BK109 := kb_ BK109 hb; replace HB := bs_ HB hb; (try clear hb); refine hk_ hK (fun hHeld => ?_); clear hK K; refine nm_ ?_; refine pu_ 4 44 rfl rfl HT_ ?_; refine pu_ 5 45 rfl rfl HT_ ?_; refine pu_ 6 46 rfl rfl HT_ ?_; refine pu_ 7 47 rfl rfl HT_ ?_; refine pu_ 8 48 rfl rfl HT_ ?_; refine pu_ 9 49 rfl rfl HT_ ?_; refine t4_ 10 50 rfl rfl HT_ HW_ hHeld ?_; refine t4_ 11 51 rfl rfl HT_ HW_ hHeld ?_; refine pu_ 12 52 rfl rfl HT_ ?_; refine pu_ 13 53 rfl rfl HT_ ?_; refine pu_ 14 54 rfl rfl HT_ ?_; refine pu_ 15 55 rfl rfl HT_ ?_; refine pu_ 16 56 rfl rfl HT_ ?_; refine pu_ 17 57 rfl rfl HT_ ?_; refine pu_ 18 58 rfl rfl HT_ ?_; refine pu_ 19 59 rfl rfl HT_ ?_; refine pu_ 20 60 rfl rfl HT_ ?_; refine pu_ 21 61 rfl rfl HT_ ?_; refine pu_ 22 62 rfl rfl HT_ ?_; refine pu_ 23 63 rfl rfl HT_ ?_; refine pu_ 24 64 rfl rfl HT_ ?_; refine pu_ 25 65 rfl rfl HT_ ?_; refine pu_ 26 66 rfl rfl HT_ ?_; refine pu_ 27 67 rfl rfl HT_ ?_; refine pu_ 28 2 rfl rfl HT_ ?_; refine done_ (done_of HT_.out (by kernel_rfl)) ?_
          try go_wp2
          go_ret
          exact ⟨er_, b_ HB.out⟩
         ·replace c23 := Bool.eq_false_iff.mpr c23; subst c23
          have H1 : (some false) = some r := by rw [if_neg (show ¬ (false = true) by decide)] at H; exact H
          exact absurd (H1.trans (congrArg some hr_.out)) (by decide)
        ·rw [if_neg c22] at H; exact absurd (H.trans (congrArg some hr_.out)) (by decide)
       ·replace c21 := Bool.eq_false_iff.mpr c21; subst c21
        have H1 : (some false) = some r := by rw [if_neg (show ¬ (false = true) by decide)] at H; exact H
        exact absurd (H1.trans (congrArg some hr_.out)) (by decide)
      ·rw [if_neg c20] at H; exact absurd (H.trans (congrArg some hr_.out)) (by decide)
     ·rw [if_neg c19] at H; exact absurd (H.trans (congrArg some hr_.out)) (by decide)
    ·rw [if_neg c18] at H; exact absurd (H.trans (congrArg some hr_.out)) (by decide)
end Go.Proofs.YtaldgaiaelbbaaaGreatDoor.LDecimalWhole
end

section
namespace Go.Proofs.YtaldgaiaelbbaaaGreatDoor.LDecimalWhole
end Go.Proofs.YtaldgaiaelbbaaaGreatDoor.LDecimalWhole
end

section
namespace Go.Proofs.YtaldgaiaelbbaaaGreatDoor
theorem pureDecimalWhole (a0 : Int) (w0 : (Lit.int .i64 a0).wf = true) : ∃ k : Nat, LDecimalWhole.dl4_DecimalWhole.f k a0 = some true := by
 refine ⟨0 + 1, ?_⟩
 unfold LDecimalWhole.dl4_DecimalWhole.f
 have hj : LDecimalWhole.dl4_DecimalWhole.j0 (0 + 1) a0 true = some true := by
  simp only [LDecimalWhole.dl4_DecimalWhole.j0]
  rfl
 rw [show dl4_fixed.f = some true from rfl, Option.bind_some, if_pos rfl]
 by_cases g0 : a0 < (-1099511627776)
 ·rw [if_pos g0]
  exact hj
 rw [if_neg g0]
 by_cases g1 : a0 > 1099511627776
 ·rw [decide_eq_true g1]
  exact hj
 rw [decide_eq_false g1]
 have z1 := szI_64 (n := a0) (by omega) (by omega)
 have z2 := szR_int a0
 have z3 := szR_divInt a0 (y := 100) (by decide)
 have z4 : szI 100 ≤ 21 := szI_64 (by decide) (by decide)
 obtain ⟨c1, c2⟩ := hundredths a0
 have e1 : (rT (a0 : Rat)).1 = intB a0 := rT_int' a0
 have ep : (printS (rT (a0 : Rat))).toList = (rT (a0 : Rat)).1.toList := by rw [ByteArray.toList_eq, ByteArray.toList_eq, print_rT_list, print_int, e1]
 have hp : decimal_Parse.f (rT (a0 : Rat)).1 = some ((rT (a0 : Rat)).1, (rT (a0 : Rat)).2, 0) := dParseQ (by rw [e1]; show szI a0 ≤ _; omega) (by rw [e1]; exact parse_int a0 (by omega))
 simp only [LDecimalWhole.dl4_DecimalWhole.j0]
 rw [if_neg (by decide), kOf (by omega) (by omega), Option.bind_some, hp, Option.bind_some, kOne (by omega) (by omega) (by decide) (by decide) (by decide), Option.bind_some, dPlaces (by omega), Option.bind_some, dPlaces (by omega), Option.bind_some, dPrint (by omega), Option.bind_some, if_pos ep, if_pos rfl, rT_beq, if_pos (decide_eq_true rfl), places_rT, places_rT, if_pos c1, Rat.den_intCast, if_pos finD_one, plD_one]
 dsimp only
 rw [if_pos rfl, if_pos (by omega), if_pos rfl]
 rfl
end Go.Proofs.YtaldgaiaelbbaaaGreatDoor
end

section
namespace Go.Proofs.YtaldgaiaelbbaaaGreatDoor.decimalWhole
open Go.ChangeShapes Go.WideShapes Go.ChangeAt Go.RowKit
set_option maxRecDepth 100000 in
theorem lifted (os : Os) (started : os.Started) (H : Type) (enc : TypeId × Value → H) :
  ReturnsInHanded {} Tryz.checked os 7 .any (fun w args => (Rows.decimalWholeSpec.pre enc Tryz.prog Tryz.f7 Rows.decimalWholeRow.domain false w args ∧ laidMetH Tryz.prog laidL w) ∧ sizedMet enc Tryz.prog Tryz.f7 (OpenSpec.ofChange Rows.decimalWholeSpec) false w args)
   (Rows.decimalWholeSpec.post enc Tryz.prog Tryz.f7 false true false false) := by
 refine wrap_shaped (C := Tryz.checked) (X := fun w _ => laidMetH Tryz.prog laidL w) (fun _ _ _ hh h => h.of_heap hh) own started (by kernel_rfl) Tryz.func7
  (ChangeSpec.witness_shaped (enc := enc) (C := Tryz.checked) (os := os) (X := fun w _ => laidMetH Tryz.prog laidL w) false (World.laidAll Tryz.prog os laidL) #[.int .i64 0] 8 (World.laidAll_os _ _ _) (World.shaped_of_ZipB (by kernel_rfl) (by kernel_rfl)) (by kernel_rfl) (by kernel_rfl) (by kernel_rfl) (door_met os _)) ?_
 intro W base args ds gs before hval0 hW _ hsz0 hL hsh
 have hsz : (DataW.weightsEach Tryz.prog (Tryz.f7.params.toList ++ Rows.decimalWholeSpec.plain.varTypes Tryz.prog) (ds ++ gs)).all (· ≤ reachBytes) = true := hsz0
 have hval : ∀ (j : Nat) t v, Tryz.f7.params[j]? = some t → args[j]? = some v → Value.okWide Tryz.prog W .any base t v := hval0
 have hW' := hW
 obtain ⟨p, q, hA0, hV, rfl, hfz, hnd⟩ := hW
 have hA : DataW.TrodAll enc Tryz.prog W 0 (fun _ => true) true Tryz.f7.params.toList args.toList ds p := hA0
 rw [Tryz.params7] at hA hval hsz
 obtain ⟨v0, vs0, d0, ds0, p0, q0, hargs, rfl, rfl, h0, r0⟩ := trodAll_cons hA
 obtain ⟨rfl, rfl, rfl⟩ := trodAll_nil r0
 obtain rfl : args = #[v0] := by cases args; simp_all
 obtain ⟨rfl, rfl⟩ := trodVars_none hV
 obtain ⟨a0, rfl, rfl, rfl, w0⟩ := open_int Tryz.underlying3 (hval 0 3 v0 rfl rfl) h0
 clear hA0 hval0 hsz0 hsz
 obtain ⟨k, hf⟩ := pureDecimalWhole a0 w0
 refine (LDecimalWhole.dl4_DecimalWhole.calls k a0 true W (laid_of hL hsh) ⟨rfl⟩ hf).mono fun e W' ⟨he, bel⟩ => ?_
 subst he
 exact ⟨_, rfl, _, _, _, [], _, [], hW', trodAll_mk1 (shut_bool Tryz.underlying4 _), (trodAll_cons_mk (shut_int Tryz.underlying3 w0) trodAll_mk0), rfl, bel.frame _, fun h => by cases h⟩
theorem over : Rows.DecimalWholeSaid :=
 OpenClaim.holds_of_wide 7 Tryz.f7 rfl rfl rfl rfl rfl rfl rfl ⟨rfl, rfl, rfl, rfl, rfl⟩ rfl rfl rfl rfl rfl (by kernel_rfl) Tryz.func7 (by kernel_rfl)
  (of_decide_eq_true (by kernel_rfl)) (by unfold Func.isWrapper; first | (rw [if_pos (by decide +kernel)]; kernel_rfl) | (rw [if_neg (by decide +kernel)]; exact ⟨rfl, rfl⟩))
  (fun os started H enc _ => lifted os started H enc)
theorem proved : Rows.DecimalWholeCardSaid :=
 Claim7.holds_tied_plain_at .later [] [.data, .data, .data, .data, .sentinel, .sentinel, .pinned] true (true, "7cb6501bafc06cc91aafe2374194aa0798d8fb540c1ff8bc3088fb97c665b41a") true
  over (fun _ h => by cases h) (by kernel_rfl) (fun _ h => by cases h) decimalWhole_row_tie rfl ⟨rfl, rfl⟩ (by kernel_rfl) rfl
  (fun f fn hf hfn => by
   obtain rfl : f = 7 := Option.some.inj ((show Tryz.prog.funcNamed "debenture/debenturelaw04.DecimalWhole" = some 7 by kernel_rfl).symm.trans hf) |>.symm
   obtain rfl : fn = Tryz.f7 := (Option.some.inj (Tryz.func7.symm.trans hfn)).symm
   exact ⟨by kernel_rfl, fun j t ht => by
    rw [Tryz.params7] at ht
    have hm : t ∈ [3] := by simpa using Array.mem_of_getElem? ht
    have hall : ([3].all fun u => !Tryz.prog.wantsStandIn u) = true := by kernel_rfl
    exact (show Tryz.prog.wantsStandIn t = false by simpa using List.all_eq_true.1 hall t hm)⟩)
  (by kernel_rfl)
end Go.Proofs.YtaldgaiaelbbaaaGreatDoor.decimalWhole
namespace Go.Proofs.YtaldgaiaelbbaaaGreatDoor
theorem decimalWhole_holds : Rows.DecimalWholeCardSaid := decimalWhole.proved
#print axioms decimalWhole_holds
end Go.Proofs.YtaldgaiaelbbaaaGreatDoor
end
