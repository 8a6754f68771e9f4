/-
The law GridCents holds at every input that its row lets in: the row's walk and its plain law, tied to the program's text. Conditions: none beyond the given row's own.
Parts of the proof, in build order: LGridCents0, LGridCents1, LGridCents2, LGridCents, PuGridCents, RowGridCents.
-/
import Derived.Test.YtmfcpapfikbomaaGreatDoorC4
import Derived.Test.YtmfcpapfikbomaaGreatDoorProg
import Derived.Below
import Derived.Deep.Draws
import Derived.Deep.AppendLies
import Derived.Maps.AppendAt
import Derived.OwnWalk
import Derived.Laws.BytesArg
import Derived.Laws.MakeOwn
import Derived.Laws.OwnMore
import Derived.Deep.OwnRows
import Derived.Tactics
import Derived.Lib.ConvBytes
import Derived.Laws.Slices
import Derived.WalkKit
import Derived.KernelRfl
import Derived.RowKit3
import Derived.Deep.LoopGhost
import Derived.Deep.QuietTactic
import Derived.BigQuiet
import Derived.WideLaws
import Derived.Deep.DeepCutAuto
import Derived.Deep.CutBlock
import Derived.Deep.RegionHeld3
import Derived.Laws.Rows
import Derived.Lib.AppendStr
import Derived.ArgAppend
import Derived.Laws.IdiomCopy
import Derived.OrdersHeld
import Derived.Laws.BitsLemmas
import Derived.RowKit
import Derived.Test.YtmfcpapfikbomaaGreatDoorC0
import Derived.Test.YtmfcpapfikbomaaGreatDoorC5
import Derived.Test.YtmfcpapfikbomaaGreatDoorC2
import Derived.Test.YtmfcpapfikbomaaGreatDoorTie
import Derived.Test.YtmfcpapfikbomaaGreatDoorCards
import Derived.SevenTiedAt
set_option linter.unusedVariables false
set_option linter.unusedSimpArgs false
open Go.RowKit Go.Proofs.YtmfcpapfikbomaaGreatDoorW.PrintWords Go.Proofs.YtmfcpapfikbomaaGreatDoorW.PrintLast Go.Proofs.YtmfcpapfikbomaaGreatDoorW.PrintMore
attribute [local go_sem] max2_int min2_int max_two min_two max_three min_three max_four min_four   -- for this text's walks alone
section
namespace Go.Proofs.YtmfcpapfikbomaaGreatDoor.LGridCents
def errW : Option Int → Value
 | none => .nilIface
 | some c => .iface 0 (.int .i64 c)
theorem errW_none : errW none = .nilIface := rfl
theorem errW_some (c : Int) : errW (some c) = .iface 0 (.int .i64 c) := rfl
end Go.Proofs.YtmfcpapfikbomaaGreatDoor.LGridCents
end

section
namespace Go.Proofs.YtmfcpapfikbomaaGreatDoor.LGridCents
theorem eqA23 (d : Nat) (w : World) (x0 y0 : ByteArray) (x1 y1 : ByteArray) :
  (Op.equalIn (d + 2) 23 (.agg #[.string x0, .string x1]) (.agg #[.string y0, .string y1])).run Tryz.prog w = .ok (x0.toList == y0.toList && (x1.toList == y1.toList)) w := by
 refine eqA_of Tryz.underlying23 (by kernel_rfl) ?_; refine eqf_cons (by rfl) (by go_simp; rfl) (by go_simp; rfl) (by go_simp) ?_; exact eqf_last (by rfl) (by go_simp; rfl) (by go_simp; rfl) (by go_simp)
end Go.Proofs.YtmfcpapfikbomaaGreatDoor.LGridCents
end

section
namespace Go.Proofs.YtmfcpapfikbomaaGreatDoor.LGridCents
attribute [local go_sem high] eqA23
mutual
def dl5_GridCents.j0 : Nat → Int → Bool → Option (Bool)
 | 0, _, _ => none
 | k + 1, x0, x14 => if x14 = true then ((dl5_fixed.f).bind fun t102 => (some t102)) else (if (Int.tmod x0 10) > 5 then (dl5_GridCents.j1 k x0 (wrap64 (Int.tdiv x0 10)) true) else (if (Int.tmod x0 10) = 5 then (dl5_GridCents.j1 k x0 (wrap64 (Int.tdiv x0 10)) ((Int.tmod (wrap64 (Int.tdiv x0 10)) 2) == 1)) else (dl5_GridCents.j1 k x0 (wrap64 (Int.tdiv x0 10)) false)))
def dl5_GridCents.j1 : Nat → Int → Int → Bool → Option (Bool)
 | 0, _, _, _ => none
 | k + 1, x0, x3, x30 => if x30 = true then (dl5_GridCents.j2 k x0 (wrap64 (x3 + 1))) else (dl5_GridCents.j2 k x0 x3)
def dl5_GridCents.j2 : Nat → Int → Int → Option (Bool)
 | 0, _, _ => none
 | k + 1, x0, x3 => (r3_One.f x0 1000).bind fun bt103 => ((grid_Cents.f bt103.1 bt103.2).bind fun bt105 => ((r3_One.f x3 100).bind fun bt107 => (if (bt105.1.toList == bt107.1.toList && (bt105.2.toList == bt107.2.toList)) = true then ((r3_One.f (wrap64 (-x0)) 1000).bind fun bt109 => ((grid_Cents.f bt109.1 bt109.2).bind fun bt111 => ((r3_One.f (wrap64 (-x3)) 100).bind fun bt113 => (some (bt111.1.toList == bt113.1.toList && (bt111.2.toList == bt113.2.toList)))))) else (some false))))
end
def dl5_GridCents.f (k : Nat) (a0 : Int) : Option (Bool) := (dl5_fixed.f).bind fun t101 => (if t101 = true then (if a0 < 0 then (dl5_GridCents.j0 k a0 true) else (dl5_GridCents.j0 k a0 (decide (a0 > 10000000)))) else (dl5_GridCents.j0 k a0 true))
set_option maxHeartbeats 8000000 in
set_option maxRecDepth 100000 in
theorem dl5_GridCents.calls (k : Nat) (a0 : Int) (r : Bool) (w : World) (hL_ : Laid w) (hr_ : Aside0 (r = true)) (h : dl5_GridCents.f k a0 = some r) :
  Calls Tryz.prog 8 #[.int .i64 a0] w fun e w' => e = .returned (.bool r) ∧ Below w.heap.size w w' := by
 have HLD := Aside0.mk hL_; clear hL_; have HB := Aside0.mk (Below.refl w.heap.size w); have H := h; unfold dl5_GridCents.f at H; clear h; have HC2 := Aside0.mk H; clear H; go_enter Tryz.func8, Tryz.ntmps8
 go_upto_region 1 with (fail)
 go_cut [14] (fun v14 wc => ∃ (kq : Nat) (x14_1 : Bool), v14 = .bool x14_1 ∧ Aside0 (dl5_GridCents.j0 kq a0 x14_1 = some r) ∧ Aside0 (kq ≤ k) ∧ Aside0 (Below w.heap.size w wc))
 case first =>
  have H := HC2.out; clear HC2; obtain ⟨t101, A3, H⟩ := bi_ H; by_cases c4 : t101 = true
  ·subst c4; rw [if_pos rfl] at H; by_cases c5 : a0 < 0
   ·rw [if_pos c5] at H; have c5b0 : decide (a0 < 0) = true := decide_eq_true c5; clear c5; (first | rw [c5b0] | (simp only [i64_w, i32_w]; rw [c5b0]) | skip); have H' := Aside0.mk H; clear H
    go_wp2_with (first | (refine gl_ 5 Tryz.func10 #[] ?_; refine mo_ (dl5_fixed.calls  true _ (lb_ HLD HB) A3.out) ?_; intro w6 hb; replace HB := bs_ HB hb; (try clear hb); (try clear hb2); (try clear hk); (try clear hi)))
    go_meet
    case rel => exact ⟨_, (true), rl_, H', ⟨by first | omega | exact Nat.le_refl _⟩, ⟨b_ HB.out⟩⟩
   ·rw [if_neg c5] at H; have c5b0 : decide (a0 < 0) = false := decide_eq_false c5; clear c5; (first | rw [c5b0] | (simp only [i64_w, i32_w]; rw [c5b0]) | skip); have H' := Aside0.mk H; clear H
    go_wp2_with (first | (refine gl_ 5 Tryz.func10 #[] ?_; refine mo_ (dl5_fixed.calls  true _ (lb_ HLD HB) A3.out) ?_; intro w7 hb; replace HB := bs_ HB hb; (try clear hb); (try clear hb2); (try clear hk); (try clear hi)))
    go_meet
    case rel => exact ⟨_, (decide (a0 > 10000000)), rl_, H', ⟨by first | omega | exact Nat.le_refl _⟩, ⟨b_ HB.out⟩⟩
  ·replace c4 := Bool.eq_false_iff.mpr c4; subst c4; rw [if_neg nf_] at H; have H' := Aside0.mk H; clear H
   go_wp2_with (first | (refine gl_ 5 Tryz.func10 #[] ?_; refine mo_ (dl5_fixed.calls  false _ (lb_ HLD HB) A3.out) ?_; intro w8 hb; replace HB := bs_ HB hb; (try clear hb); (try clear hb2); (try clear hk); (try clear hi)))
   go_meet
   case rel => exact ⟨_, (true), rl_, H', ⟨by first | omega | exact Nat.le_refl _⟩, ⟨b_ HB.out⟩⟩
 case rest =>
  clear HC2; (try clear c1); (try clear p2); (try clear c4); (try clear c5); (try clear c5b0); (try clear c8); obtain ⟨kq, x14_1, rfl, HA, HJ1, HB⟩ := hcut
  cases kq with
  | zero => exact absurd HA.out (by simp [dl5_GridCents.j0])
  | succ kj1 =>
   have H := HA.out; clear HA; simp only [dl5_GridCents.j0] at H; by_cases c9 : x14_1 = true
   ·subst c9; rw [if_pos rfl] at H; obtain ⟨t102, A10, H⟩ := bi_ H; obtain rfl := Option.some.inj H
    go_wp2_with (first | (refine gl_ 15 Tryz.func10 #[] ?_; refine mo_ (dl5_fixed.calls  t102 _ (lb_ HLD HB) A10.out) ?_; intro w11 hb; replace HB := bs_ HB hb; (try clear hb); (try clear hb2); (try clear hk); (try clear hi)))
    go_ret
    exact ⟨er_, b_ HB.out⟩
   ·replace c9 := Bool.eq_false_iff.mpr c9; subst c9; rw [if_neg nf_] at H; have HC12 := Aside0.mk H; clear H
    go_upto_region 5 with (fail)
    go_cut [30] (fun v30 wc => ∃ (kq : Nat) (x30_11 : Bool), v30 = .bool x30_11 ∧ Aside0 (dl5_GridCents.j1 kq a0 (wrap64 (Int.tdiv a0 10)) x30_11 = some r) ∧ Aside0 (kq ≤ kj1) ∧ Aside0 (Below w.heap.size w wc))
    case first =>
     have H := HC12.out; clear HC12; by_cases c13 : (Int.tmod a0 10) > 5
     ·rw [if_pos c13] at H; have c13b0 : decide (5 < (Int.tmod a0 10)) = true := decide_eq_true c13; clear c13; (first | rw [c13b0] | (simp only [i64_w, i32_w]; rw [c13b0]) | skip); have H' := Aside0.mk H; clear H; go_wp2
      go_meet
      case rel => exact ⟨_, (true), rl_, H', ⟨by have := HJ1.out; first | omega | exact Nat.le_refl _⟩, ⟨b_ HB.out⟩⟩
     ·rw [if_neg c13] at H; have c13b0 : decide (5 < (Int.tmod a0 10)) = false := decide_eq_false c13; clear c13; (first | rw [c13b0] | (simp only [i64_w, i32_w]; rw [c13b0]) | skip); by_cases c14 : (Int.tmod a0 10) = 5
      ·rw [if_pos c14] at H; have c14b0 : ((Int.tmod a0 10) == 5) = true := beq_iff_eq.mpr c14; have c14b1 : ((Int.tmod a0 10) != 5) = false := bne_eq_false_iff_eq.mpr c14; clear c14; have H' := Aside0.mk H; clear H; go_wp2
       go_meet
       case rel => exact ⟨_, (((Int.tmod (wrap64 (Int.tdiv a0 10)) 2) == 1)), rl_, H', ⟨by have := HJ1.out; first | omega | exact Nat.le_refl _⟩, ⟨b_ HB.out⟩⟩
      ·rw [if_neg c14] at H; have c14b0 : ((Int.tmod a0 10) == 5) = false := beq_eq_false_iff_ne.mpr c14; have c14b1 : ((Int.tmod a0 10) != 5) = true := bne_iff_ne.mpr c14; have H' := Aside0.mk H; clear H; go_wp2
       go_meet
       case rel => exact ⟨_, (false), rl_, H', ⟨by have := HJ1.out; first | omega | exact Nat.le_refl _⟩, ⟨b_ HB.out⟩⟩
    case rest =>
     clear HC12; (try clear c1); (try clear p2); (try clear c4); (try clear c5); (try clear c5b0); (try clear p6); (try clear c8); (try clear c9); (try clear c10); (try clear c13); (try clear c13b0); (try clear c14); (try clear c14b0); (try clear c14b1); (try clear p2); obtain ⟨kq, x30_11, rfl, HA, HJ11, HB⟩ := hcut
     cases kq with
     | zero => exact absurd HA.out (by simp [dl5_GridCents.j1])
     | succ kj11 =>
      have H := HA.out; clear HA; simp only [dl5_GridCents.j1] at H; have HC15 := Aside0.mk H; clear H
      go_upto_if 30 with (fail)
      go_cut [3] (fun v3 wc => ∃ (kq : Nat) (x3_14 : Int), v3 = .int .i64 x3_14 ∧ Aside0 (dl5_GridCents.j2 kq a0 x3_14 = some r) ∧ Aside0 (kq ≤ kj11) ∧ Aside0 (Below w.heap.size w wc))
      case first =>
       have H := HC15.out; clear HC15; by_cases c16 : x30_11 = true
       ·subst c16; rw [if_pos rfl] at H; have H' := Aside0.mk H; clear H; go_wp2
        go_meet
        case rel => exact ⟨_, (wrap64 ((wrap64 (Int.tdiv a0 10)) + 1)), rl_, H', ⟨by have := HJ1.out; have := HJ11.out; first | omega | exact Nat.le_refl _⟩, ⟨b_ HB.out⟩⟩
       ·replace c16 := Bool.eq_false_iff.mpr c16; subst c16; rw [if_neg nf_] at H; have H' := Aside0.mk H; clear H; go_wp2
        go_meet
        case rel => exact ⟨_, ((wrap64 (Int.tdiv a0 10))), rl_, H', ⟨by have := HJ1.out; have := HJ11.out; first | omega | exact Nat.le_refl _⟩, ⟨b_ HB.out⟩⟩
      case rest =>
       clear HC15; (try clear c1); (try clear p2); (try clear c4); (try clear c5); (try clear c5b0); (try clear p6); (try clear c8); (try clear c9); (try clear c10); (try clear c13); (try clear c13b0); (try clear c14); (try clear c14b0); (try clear c14b1); (try clear c16); (try clear p2); (try clear p6); obtain ⟨kq, x3_14, rfl, HA, HJ14, HB⟩ := hcut
       cases kq with
       | zero => exact absurd HA.out (by simp [dl5_GridCents.j2])
       | succ kj14 =>
        have H := HA.out; clear HA; simp only [dl5_GridCents.j2] at H; obtain ⟨⟨t103, t104⟩, A17, H⟩ := bi_ H; (try dsimp only at H); obtain ⟨⟨t105, t106⟩, A18, H⟩ := bi_ H; (try dsimp only at H); obtain ⟨⟨t107, t108⟩, A19, H⟩ := bi_ H; (try dsimp only at H); by_cases c20 : (t105.toList == t107.toList && (t106.toList == t108.toList)) = true
        ·rw [if_pos c20] at H; have c20b0 : (t105.toList == t107.toList && (t106.toList == t108.toList)) = true := c20; (try (have c20b1 : decide (t105.toList = t107.toList && (t106.toList == t108.toList)) = true := by simpa using c20)); (try (have c20b2 : (t105.toList == t107.toList && (t106.toList == t108.toList)) = true := by simpa using c20)); clear c20; obtain ⟨⟨t109, t110⟩, A21, H⟩ := bi_ H; (try dsimp only at H); obtain ⟨⟨t111, t112⟩, A22, H⟩ := bi_ H; (try dsimp only at H); obtain ⟨⟨t113, t114⟩, A23, H⟩ := bi_ H; (try dsimp only at H); obtain rfl := Option.some.inj H
         go_wp2_with (first | (refine gl_ 34 Tryz.func27 #[.int .i64 a0, .int .i64 1000] ?_; refine mo_ (r3_One.calls a0 1000 t103 t104 _ A17.out) ?_; intro w24 hb; replace HB := bs_ HB hb; (try clear hb); (try clear hb2); (try clear hk); (try clear hi)) | (refine gl_ 35 Tryz.func15 #[.agg #[.string t103, .string t104]] ?_; refine mo_ (grid_Cents.calls t103 t104 t105 t106 _ (lb_ HLD HB) A18.out) ?_; intro w25 hb; replace HB := bs_ HB hb; (try clear hb); (try clear hb2); (try clear hk); (try clear hi)) | (refine gl_ 37 Tryz.func27 #[.int .i64 x3_14, .int .i64 100] ?_; refine mo_ (r3_One.calls x3_14 100 t107 t108 _ A19.out) ?_; intro w26 hb; replace HB := bs_ HB hb; (try clear hb); (try clear hb2); (try clear hk); (try clear hi)) | (go_at_call 27; (with_reducible refine (r3_One.calls (wrap64 (-a0)) 1000 t109 t110 _ A21.out).mono ?_); rintro e w27 ⟨rfl, hb⟩; replace HB := bs_ HB hb; (try clear hb); (try clear hb2); (try clear hk); (try clear hi)) | (go_at_call 15; (with_reducible refine (grid_Cents.calls t109 t110 t111 t112 _ ?side1 A22.out).mono ?_); (case side1 => exact lb_ HLD HB); rintro e w28 ⟨rfl, hb⟩; replace HB := bs_ HB hb; (try clear hb); (try clear hb2); (try clear hk); (try clear hi)) | (go_at_call 27; (with_reducible refine (r3_One.calls (wrap64 (-x3_14)) 100 t113 t114 _ A23.out).mono ?_); rintro e w29 ⟨rfl, hb⟩; replace HB := bs_ HB hb; (try clear hb); (try clear hb2); (try clear hk); (try clear hi)))
         go_ret
         exact ⟨er_, b_ HB.out⟩
        ·rw [if_neg c20] at H; exact absurd (H.trans (congrArg some hr_.out)) (by decide)
end Go.Proofs.YtmfcpapfikbomaaGreatDoor.LGridCents
end

section
namespace Go.Proofs.YtmfcpapfikbomaaGreatDoor.LGridCents
end Go.Proofs.YtmfcpapfikbomaaGreatDoor.LGridCents
end

section
namespace Go.Proofs.YtmfcpapfikbomaaGreatDoor
theorem cents_q (n : Int) : Rat.divInt n 1000 / centQ = Rat.divInt n 10 := by
 unfold centQ
 rw [Rat.div_def, Rat.inv_divInt, Rat.divInt_mul_divInt]
 exact Rat.divInt_mul_right (n := n) (d := 10) (a := 100) (by decide)
theorem cents_back (c : Int) : ((c : Int) : Rat) * centQ = Rat.divInt c 100 := by
 unfold centQ
 rw [← divInt_one, Rat.divInt_mul_divInt, Int.mul_one, Int.one_mul]
theorem pureGridCents (a0 : Int) (w0 : (Lit.int .i64 a0).wf = true) : ∃ k, LGridCents.dl5_GridCents.f k a0 = some true := by
 refine ⟨4, ?_⟩
 unfold LGridCents.dl5_GridCents.f dl5_fixed.f
 have hj : LGridCents.dl5_GridCents.j0 4 a0 true = some true := by
  simp only [LGridCents.dl5_GridCents.j0]
  rfl
 rw [Option.bind_some, if_pos rfl]
 by_cases n1 : a0 < 0
 ·rw [if_pos n1]; exact hj
 rw [if_neg n1]
 by_cases n2 : a0 > 10000000
 ·rw [decide_eq_true n2]; exact hj
 rw [decide_eq_false n2]
 have t1 : a0.tdiv 10 = a0 / 10 := Int.tdiv_eq_ediv_of_nonneg (by omega)
 have t2 : a0.tmod 10 = a0 % 10 := Int.tmod_eq_emod_of_nonneg (by omega)
 have t3 : (a0 / 10).tmod 2 = a0 / 10 % 2 := Int.tmod_eq_emod_of_nonneg (by omega)
 have w2 := gW_div a0 (show (0 : Int) < 10 by decide) 2
 rw [if_neg (show ¬ (2 : Int) = 1 by decide), if_pos rfl] at w2
 simp only [Bool.or_eq_true, Bool.and_eq_true, decide_eq_true_eq] at w2
 have last : ∀ (c : Int) (k : Nat), gW (Rat.divInt a0 10) 2 = c → 0 ≤ c → c ≤ 10000000 → LGridCents.dl5_GridCents.j2 (k + 1) a0 c = some true := by
  intro c k h1 h2 h3
  simp only [LGridCents.dl5_GridCents.j2]
  have e1 : wrap64 (-a0) = -a0 := w64 (by omega) (by omega)
  have e2 : wrap64 (-c) = -c := w64 (by omega) (by omega)
  have a1 := szR_divInt a0 (show (1000 : Int) ≠ 0 by decide)
  have a2 := szR_divInt (-a0) (show (1000 : Int) ≠ 0 by decide)
  have b1 := szI_64 (n := a0) (by omega) (by omega)
  have b2 := szI_64 (n := -a0) (by omega) (by omega)
  have b3 := szI_64 (n := 1000) (by omega) (by omega)
  have g1 : gR (Rat.divInt a0 1000) centQ 2 = Rat.divInt c 100 := by
   unfold gR
   rw [cents_q, h1, cents_back]
  have g2 : gR (Rat.divInt (-a0) 1000) centQ 2 = Rat.divInt (-c) 100 := by
   rw [← Rat.neg_divInt, gR_neg _ (.inr rfl), g1, Rat.neg_divInt]
  rw [e1, e2, kOne (by omega) (by omega) (by omega) (by omega) (by decide), Option.bind_some, gCents (by omega), Option.bind_some, kOne (by omega) (by omega) (by omega) (by omega) (by decide), Option.bind_some, rT_beq, if_pos (decide_eq_true g1), kOne (by omega) (by omega) (by omega) (by omega) (by decide), Option.bind_some, gCents (by omega), Option.bind_some, kOne (by omega) (by omega) (by omega) (by omega) (by decide), Option.bind_some, rT_beq, decide_eq_true g2]
 have mid : ∀ (b : Bool) (k : Nat), gW (Rat.divInt a0 10) 2 = (if b = true then a0 / 10 + 1 else a0 / 10) → LGridCents.dl5_GridCents.j1 (k + 2) a0 (a0 / 10) b = some true := by
  intro b k h
  show LGridCents.dl5_GridCents.j1 (k + 1 + 1) _ _ _ = _
  simp only [LGridCents.dl5_GridCents.j1]
  cases b with
  | true =>
   rw [if_pos rfl] at h
   rw [if_pos rfl, w64 (by omega) (by omega)]
   exact last _ _ h (by omega) (by omega)
  | false =>
   rw [if_neg (by decide)] at h
   rw [if_neg (by decide)]
   exact last _ _ h (by omega) (by omega)
 show LGridCents.dl5_GridCents.j0 (3 + 1) a0 false = _
 simp only [LGridCents.dl5_GridCents.j0]
 rw [if_neg (by decide), t1, t2, w64 (x := a0 / 10) (by omega) (by omega), t3]
 by_cases h5 : a0 % 10 > 5
 ·rw [if_pos h5]
  refine mid true 1 ?_
  rw [w2, if_pos rfl, if_pos (.inl (by omega))]
 ·rw [if_neg h5]
  by_cases h6 : a0 % 10 = 5
  ·rw [if_pos h6]
   refine mid _ 1 ?_
   rw [w2]
   by_cases h7 : a0 / 10 % 2 = 1
   ·rw [if_pos (.inr ⟨by omega, h7⟩), if_pos (by rw [beq_iff_eq]; exact h7)]
   ·rw [if_neg (by omega), if_neg (by rw [beq_iff_eq]; exact h7)]
  ·rw [if_neg h6]
   refine mid false 1 ?_
   rw [w2, if_neg (by omega), if_neg (by decide)]
end Go.Proofs.YtmfcpapfikbomaaGreatDoor
end

section
namespace Go.Proofs.YtmfcpapfikbomaaGreatDoor.gridCents
open Go.ChangeShapes Go.WideShapes Go.ChangeAt Go.RowKit
set_option maxRecDepth 100000 in
theorem lifted (os : Os) (started : os.Started) (H : Type) (enc : TypeId × Value → H) :
  ReturnsInHanded {} Tryz.checked os 8 .any (fun w args => (Rows.gridCentsSpec.pre enc Tryz.prog Tryz.f8 Rows.gridCentsRow.domain false w args ∧ laidMetH Tryz.prog laidL w) ∧ sizedMet enc Tryz.prog Tryz.f8 (OpenSpec.ofChange Rows.gridCentsSpec) false w args)
   (Rows.gridCentsSpec.post enc Tryz.prog Tryz.f8 false true false false) := by
 refine returnsInHanded_of_change_and (C := Tryz.checked) (X := fun w _ => laidMetH Tryz.prog laidL w) (fun _ _ _ hh h => h.of_heap hh) own started (by kernel_rfl) Tryz.func8
  (ChangeSpec.witness_shaped (enc := enc) (C := Tryz.checked) (os := os) (X := fun w _ => laidMetH Tryz.prog laidL w) false (World.doorLaid Tryz.prog 4000 os) #[.int .i64 0] 8 rfl (World.shaped_of_RefB (by kernel_rfl) (by kernel_rfl)) (by kernel_rfl) (by kernel_rfl) (by kernel_rfl) (door_met os _)) ?_
 intro W base args ds gs before hval0 hW _ hsz0 hL _
 have hsz : (DataW.weightsEach Tryz.prog (Tryz.f8.params.toList ++ Rows.gridCentsSpec.plain.varTypes Tryz.prog) (ds ++ gs)).all (· ≤ reachBytes) = true := hsz0
 have hval : ∀ (j : Nat) t v, Tryz.f8.params[j]? = some t → args[j]? = some v → Value.okWide Tryz.prog W .any base t v := hval0
 have hW' := hW
 obtain ⟨p, q, hA0, hV, rfl, hfz, hnd⟩ := hW
 have hA : DataW.TrodAll enc Tryz.prog W 0 (fun _ => true) true Tryz.f8.params.toList args.toList ds p := hA0
 rw [Tryz.params8] at hA hval hsz
 obtain ⟨v0, vs0, d0, ds0, p0, q0, hargs, rfl, rfl, h0, r0⟩ := trodAll_cons hA
 obtain ⟨rfl, rfl, rfl⟩ := trodAll_nil r0
 obtain rfl : args = #[v0] := by cases args; simp_all
 obtain ⟨rfl, rfl⟩ := trodVars_none hV
 obtain ⟨a0, rfl, rfl, rfl, w0⟩ := open_int Tryz.underlying3 (hval 0 3 v0 rfl rfl) h0
 clear hA0 hval0 hsz0 hsz
 obtain ⟨k, hf⟩ := pureGridCents a0 w0
 refine (LGridCents.dl5_GridCents.calls k a0 true W (laid_of hL) ⟨rfl⟩ hf).mono fun e W' ⟨he, bel⟩ => ?_
 subst he
 exact ⟨_, rfl, _, _, _, [], _, [], hW', trodAll_mk1 (shut_bool Tryz.underlying4 _), (trodAll_cons_mk (shut_int Tryz.underlying3 w0) trodAll_mk0), rfl, bel.frame _, fun h => by cases h⟩
theorem over : Rows.GridCentsSaid :=
 OpenClaim.holds_of_wide 8 Tryz.f8 rfl rfl rfl rfl rfl rfl rfl ⟨rfl, rfl, rfl, rfl, rfl⟩ rfl rfl rfl rfl rfl (by kernel_rfl) Tryz.func8 (by kernel_rfl)
  (of_decide_eq_true (by kernel_rfl)) (by unfold Func.isWrapper; first | (rw [if_pos (by decide +kernel)]; kernel_rfl) | (rw [if_neg (by decide +kernel)]; exact ⟨rfl, rfl⟩))
  (fun os started H enc _ => lifted os started H enc)
theorem proved : Rows.GridCentsCardSaid :=
 Claim7.holds_tied_plain_at .later [] [.data, .data, .data, .sentinel, .sentinel] true (true, "b3870cba59922883960d8a6bf06328dd79f9947c939392f4afc6c5f8b9def57b") true
  over (fun _ h => by cases h) (by kernel_rfl) (fun _ h => by cases h) gridCents_row_tie rfl ⟨rfl, rfl⟩ (by kernel_rfl) rfl
  (fun f fn hf hfn => by
   obtain rfl : f = 8 := Option.some.inj ((show Tryz.prog.funcNamed "debenture/debenturelaw05.GridCents" = some 8 by kernel_rfl).symm.trans hf) |>.symm
   obtain rfl : fn = Tryz.f8 := (Option.some.inj (Tryz.func8.symm.trans hfn)).symm
   exact ⟨by kernel_rfl, fun j t ht => by
    rw [Tryz.params8] at ht
    have hm : t ∈ [3] := by simpa using Array.mem_of_getElem? ht
    have hall : ([3].all fun u => !Tryz.prog.wantsStandIn u) = true := by kernel_rfl
    exact (show Tryz.prog.wantsStandIn t = false by simpa using List.all_eq_true.1 hall t hm)⟩)
  (by kernel_rfl)
end Go.Proofs.YtmfcpapfikbomaaGreatDoor.gridCents
namespace Go.Proofs.YtmfcpapfikbomaaGreatDoor
theorem gridCents_holds : Rows.GridCentsCardSaid := gridCents.proved
#print axioms gridCents_holds
end Go.Proofs.YtmfcpapfikbomaaGreatDoor
end
