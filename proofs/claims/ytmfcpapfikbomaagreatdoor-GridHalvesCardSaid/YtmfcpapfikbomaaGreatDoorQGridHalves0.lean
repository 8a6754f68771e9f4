/-
The law GridHalves holds at every input that its row lets in: the row's walk and its plain law, tied to the program's text. Conditions: none beyond the given row's own.
Parts of the proof, in build order: LGridHalves0, LGridHalves1, LGridHalves, PuGridHalves, RowGridHalves.
-/
import Derived.Test.YtmfcpapfikbomaaGreatDoorC4
import Derived.Test.YtmfcpapfikbomaaGreatDoorProg
import Derived.Below
import Derived.Deep.Draws
import Derived.Deep.AppendLies
import Derived.Maps.AppendAt
import Derived.OwnWalk
import Derived.Laws.BytesArg
import Derived.Laws.MakeOwn
import Derived.Laws.OwnMore
import Derived.Deep.OwnRows
import Derived.Tactics
import Derived.Lib.ConvBytes
import Derived.Laws.Slices
import Derived.WalkKit
import Derived.KernelRfl
import Derived.RowKit3
import Derived.Deep.LoopGhost
import Derived.Deep.QuietTactic
import Derived.BigQuiet
import Derived.WideLaws
import Derived.Deep.DeepCutAuto
import Derived.Deep.CutBlock
import Derived.Deep.RegionHeld3
import Derived.Laws.Rows
import Derived.Lib.AppendStr
import Derived.ArgAppend
import Derived.Laws.IdiomCopy
import Derived.OrdersHeld
import Derived.Laws.BitsLemmas
import Derived.RowKit
import Derived.Test.YtmfcpapfikbomaaGreatDoorC0
import Derived.Test.YtmfcpapfikbomaaGreatDoorC5
import Derived.Test.YtmfcpapfikbomaaGreatDoorC2
import Derived.Test.YtmfcpapfikbomaaGreatDoorTie
import Derived.Test.YtmfcpapfikbomaaGreatDoorCards
import Derived.SevenTiedAt
set_option linter.unusedVariables false
set_option linter.unusedSimpArgs false
open Go.RowKit Go.Proofs.YtmfcpapfikbomaaGreatDoorW.PrintWords Go.Proofs.YtmfcpapfikbomaaGreatDoorW.PrintLast Go.Proofs.YtmfcpapfikbomaaGreatDoorW.PrintMore
attribute [local go_sem] max2_int min2_int max_two min_two max_three min_three max_four min_four   -- for this text's walks alone
section
namespace Go.Proofs.YtmfcpapfikbomaaGreatDoor.LGridHalves
attribute [local go_sem] field_rat0
def errW : Option Int → Value
 | none => .nilIface
 | some c => .iface 0 (.int .i64 c)
theorem errW_none : errW none = .nilIface := rfl
theorem errW_some (c : Int) : errW (some c) = .iface 0 (.int .i64 c) := rfl
end Go.Proofs.YtmfcpapfikbomaaGreatDoor.LGridHalves
end

section
namespace Go.Proofs.YtmfcpapfikbomaaGreatDoor.LGridHalves
attribute [local go_sem] field_rat0
mutual
def dl5_GridHalves.j0 : Nat → Int → Bool → Option (Bool)
 | 0, _, _ => none
 | k + 1, x0, x15 => if x15 = true then ((dl5_fixed.f).bind fun t102 => (some t102)) else ((r3_One.f x0 2).bind fun bt103 => (if (Int.tmod x0 2) = 0 then (dl5_GridHalves.j1 k x0 (wrap64 (Int.tdiv x0 2)) false bt103.1 bt103.2) else (dl5_GridHalves.j1 k x0 (wrap64 (Int.tdiv x0 2)) ((Int.tmod (wrap64 (Int.tdiv x0 2)) 2) != 0) bt103.1 bt103.2)))
def dl5_GridHalves.j1 : Nat → Int → Int → Bool → ByteArray → ByteArray → Option (Bool)
 | 0, _, _, _, _, _ => none
 | k + 1, x0, x4, x28, x106000, x106001 => if x28 = true then (dl5_GridHalves.j2 k x0 (wrap64 (x4 + (Int.tmod x0 2))) x106000 x106001) else (dl5_GridHalves.j2 k x0 x4 x106000 x106001)
def dl5_GridHalves.j2 : Nat → Int → Int → ByteArray → ByteArray → Option (Bool)
 | 0, _, _, _, _ => none
 | k + 1, x0, x4, x106000, x106001 => if x0 < 0 then (dl5_GridHalves.j3 k x0 x4 (wrap64 (Int.tdiv x0 2)) ((Int.tmod x0 2) != 0) x106000 x106001) else (dl5_GridHalves.j3 k x0 x4 (wrap64 (Int.tdiv x0 2)) false x106000 x106001)
def dl5_GridHalves.j3 : Nat → Int → Int → Int → Bool → ByteArray → ByteArray → Option (Bool)
 | 0, _, _, _, _, _, _ => none
 | k + 1, x0, x4, x5, x41, x106000, x106001 => if x41 = true then (dl5_GridHalves.j4 k x0 x4 (wrap64 (x5 - 1)) x106000 x106001) else (dl5_GridHalves.j4 k x0 x4 x5 x106000 x106001)
def dl5_GridHalves.j4 : Nat → Int → Int → Int → ByteArray → ByteArray → Option (Bool)
 | 0, _, _, _, _, _ => none
 | k + 1, x0, x4, x5, x106000, x106001 => (grid_Whole.f x106000 x106001 2).bind fun t106 => ((r3_Of.f x4).bind fun bt107 => (if t106.toList = bt107.1.toList then ((grid_Whole.f x106000 x106001 0).bind fun t109 => ((r3_Of.f x5).bind fun bt110 => (if t109.toList = bt110.1.toList then ((grid_Whole.f x106000 x106001 1).bind fun t112 => ((r3_Of.f (wrap64 (Int.tdiv x0 2))).bind fun bt113 => (some (t112.toList == bt113.1.toList)))) else (some false)))) else (some false)))
end
def dl5_GridHalves.f (k : Nat) (a0 : Int) : Option (Bool) := (dl5_fixed.f).bind fun t101 => (if t101 = true then (if a0 < (-1000000) then (dl5_GridHalves.j0 k a0 true) else (dl5_GridHalves.j0 k a0 (decide (a0 > 1000000)))) else (dl5_GridHalves.j0 k a0 true))
set_option maxHeartbeats 8000000 in
set_option maxRecDepth 100000 in
theorem dl5_GridHalves.calls (k : Nat) (a0 : Int) (r : Bool) (w : World) (hL_ : Laid w) (hr_ : Aside0 (r = true)) (h : dl5_GridHalves.f k a0 = some r) :
  Calls Tryz.prog 7 #[.int .i64 a0] w fun e w' => e = .returned (.bool r) ∧ Below w.heap.size w w' := by
 have hu23 := Tryz.underlying23; have HLD := Aside0.mk hL_; clear hL_; have HB := Aside0.mk (Below.refl w.heap.size w); have H := h; unfold dl5_GridHalves.f at H; clear h; have HC2 := Aside0.mk H; clear H; go_enter Tryz.func7, Tryz.ntmps7
 go_upto_region 1 with (fail)
 go_cut [15] (fun v15 wc => ∃ (kq : Nat) (x15_1 : Bool), v15 = .bool x15_1 ∧ Aside0 (dl5_GridHalves.j0 kq a0 x15_1 = some r) ∧ Aside0 (kq ≤ k) ∧ Aside0 (Below w.heap.size w wc))
 case first =>
  have H := HC2.out; clear HC2; obtain ⟨t101, A3, H⟩ := bi_ H; by_cases c4 : t101 = true
  ·subst c4; rw [if_pos rfl] at H; by_cases c5 : a0 < (-1000000)
   ·rw [if_pos c5] at H; have c5b0 : decide (a0 < (-1000000)) = true := decide_eq_true c5; clear c5; (first | rw [c5b0] | (simp only [i64_w, i32_w]; rw [c5b0]) | skip); have H' := Aside0.mk H; clear H
    go_wp2_with (first | (refine gl_ 6 Tryz.func10 #[] ?_; refine mo_ (dl5_fixed.calls  true _ (lb_ HLD HB) A3.out) ?_; intro w6 hb; replace HB := bs_ HB hb; (try clear hb); (try clear hb2); (try clear hk); (try clear hi)))
    go_meet
    case rel => exact ⟨_, (true), rl_, H', ⟨by first | omega | exact Nat.le_refl _⟩, ⟨b_ HB.out⟩⟩
   ·rw [if_neg c5] at H; have c5b0 : decide (a0 < (-1000000)) = false := decide_eq_false c5; clear c5; (first | rw [c5b0] | (simp only [i64_w, i32_w]; rw [c5b0]) | skip); have H' := Aside0.mk H; clear H
    go_wp2_with (first | (refine gl_ 6 Tryz.func10 #[] ?_; refine mo_ (dl5_fixed.calls  true _ (lb_ HLD HB) A3.out) ?_; intro w7 hb; replace HB := bs_ HB hb; (try clear hb); (try clear hb2); (try clear hk); (try clear hi)))
    go_meet
    case rel => exact ⟨_, (decide (a0 > 1000000)), rl_, H', ⟨by first | omega | exact Nat.le_refl _⟩, ⟨b_ HB.out⟩⟩
  ·replace c4 := Bool.eq_false_iff.mpr c4; subst c4; rw [if_neg nf_] at H; have H' := Aside0.mk H; clear H
   go_wp2_with (first | (refine gl_ 6 Tryz.func10 #[] ?_; refine mo_ (dl5_fixed.calls  false _ (lb_ HLD HB) A3.out) ?_; intro w8 hb; replace HB := bs_ HB hb; (try clear hb); (try clear hb2); (try clear hk); (try clear hi)))
   go_meet
   case rel => exact ⟨_, (true), rl_, H', ⟨by first | omega | exact Nat.le_refl _⟩, ⟨b_ HB.out⟩⟩
 case rest =>
  clear HC2; (try clear c1); (try clear p2); (try clear c4); (try clear c5); (try clear c5b0); (try clear c7); obtain ⟨kq, x15_1, rfl, HA, HJ1, HB⟩ := hcut
  cases kq with
  | zero => exact absurd HA.out (by simp [dl5_GridHalves.j0])
  | succ kj1 =>
   have H := HA.out; clear HA; simp only [dl5_GridHalves.j0] at H; by_cases c9 : x15_1 = true
   ·subst c9; rw [if_pos rfl] at H; obtain ⟨t102, A10, H⟩ := bi_ H; obtain rfl := Option.some.inj H
    go_wp2_with (first | (refine gl_ 16 Tryz.func10 #[] ?_; refine mo_ (dl5_fixed.calls  t102 _ (lb_ HLD HB) A10.out) ?_; intro w11 hb; replace HB := bs_ HB hb; (try clear hb); (try clear hb2); (try clear hk); (try clear hi)))
    go_ret
    exact ⟨er_, b_ HB.out⟩
   ·replace c9 := Bool.eq_false_iff.mpr c9; subst c9; rw [if_neg nf_] at H; obtain ⟨⟨t103, t104⟩, A12, H⟩ := bi_ H; (try dsimp only at H); have HC13 := Aside0.mk H; clear H
    go_upto_region 5 with (first | (refine gl_ 18 Tryz.func27 #[.int .i64 a0, .int .i64 2] ?_; refine mo_ (r3_One.calls a0 2 t103 t104 _ A12.out) ?_; intro w14 hb; replace HB := bs_ HB hb; (try clear hb); (try clear hb2); (try clear hk); (try clear hi)) | ((with_reducible refine gate_dst (N := 3) rfl ?_); refine be_ 3 #[.string (⟨#[]⟩ : ByteArray), .string (⟨#[]⟩ : ByteArray)] 23 ?_; intro gb105 hg w15 hbox hb; have BK105 := Aside0.mk (hbox); have GW105 := ge_ HB hg; have GE105 := ge_ HB hg; replace HB := bs_ HB hb; clear hb hbox hg; have hcz16_0 := bc_ BK105 0 rfl; have hcz16_1 := bc_ BK105 1 rfl; have hfz16_0 := blk_frozen BK105.out 0; have hfz16_1 := blk_frozen BK105.out 1))
    (try simp only [Act.put, List.setIfInBounds_toArray, List.set_cons_zero, List.set_cons_succ])
    go_cut [28] (fun v28 wc => ∃ (kq : Nat) (x28_12 : Bool), v28 = .bool x28_12 ∧ Aside0 (dl5_GridHalves.j1 kq a0 (wrap64 (Int.tdiv a0 2)) x28_12 t103 t104 = some r) ∧ Aside0 (kq ≤ kj1) ∧ Aside0 (wc.heap[gb105]? = some (.cells #[.string t103, .string t104] 23 (0, 0))) ∧ Aside0 (Below w.heap.size w wc))
    case first =>
     have H := HC13.out; clear HC13; by_cases c17 : (Int.tmod a0 2) = 0
     ·rw [if_pos c17] at H; have c17b0 : ((Int.tmod a0 2) == 0) = true := beq_iff_eq.mpr c17; have c17b1 : ((Int.tmod a0 2) != 0) = false := bne_eq_false_iff_eq.mpr c17; clear c17; (first | rw [c17b0] | (simp only [i64_w, i32_w]; rw [c17b0]) | skip); have H' := Aside0.mk H; clear H; go_wp2
      go_meet
      case rel => exact ⟨_, (false), rl_, H', ⟨by have := HJ1.out; first | omega | exact Nat.le_refl _⟩, ⟨rp_ BK105.out⟩, ⟨b_ HB.out⟩⟩
     ·rw [if_neg c17] at H; have c17b0 : ((Int.tmod a0 2) == 0) = false := beq_eq_false_iff_ne.mpr c17; have c17b1 : ((Int.tmod a0 2) != 0) = true := bne_iff_ne.mpr c17; (first | rw [c17b0] | (simp only [i64_w, i32_w]; rw [c17b0]) | skip); have H' := Aside0.mk H; clear H; go_wp2
      go_meet
      case rel => exact ⟨_, (((Int.tmod (wrap64 (Int.tdiv a0 2)) 2) != 0)), rl_, H', ⟨by have := HJ1.out; first | omega | exact Nat.le_refl _⟩, ⟨rp_ BK105.out⟩, ⟨b_ HB.out⟩⟩
    case rest =>
     clear HC13; (try clear c1); (try clear c2); (try clear p2); (try clear c4); (try clear c5); (try clear c5b0); (try clear p6); (try clear c7); (try clear c9); (try clear c10); (try clear c17); (try clear c17b0); (try clear c17b1); (try clear hcz16_0); (try clear hcz16_1); (try clear hfz16_0); (try clear hfz16_1); (try clear p2); obtain ⟨kq, x28_12, rfl, HA, HJ12, BK105, HB⟩ := hcut
     cases kq with
     | zero => exact absurd HA.out (by simp [dl5_GridHalves.j1])
     | succ kj12 =>
      have H := HA.out; clear HA; simp only [dl5_GridHalves.j1] at H; have HC18 := Aside0.mk H; clear H
      go_upto_if 28 with (fail)
      go_cut [4] (fun v4 wc => ∃ (kq : Nat) (x4_17 : Int), v4 = .int .i64 x4_17 ∧ Aside0 (dl5_GridHalves.j2 kq a0 x4_17 t103 t104 = some r) ∧ Aside0 (kq ≤ kj12) ∧ Aside0 (wc.heap[gb105]? = some (.cells #[.string t103, .string t104] 23 (0, 0))) ∧ Aside0 (Below w.heap.size w wc))
      case first =>
       have H := HC18.out; clear HC18; by_cases c19 : x28_12 = true
       ·subst c19; rw [if_pos rfl] at H; have H' := Aside0.mk H; clear H; go_wp2
        go_meet
        case rel => exact ⟨_, (wrap64 ((wrap64 (Int.tdiv a0 2)) + (Int.tmod a0 2))), rl_, H', ⟨by have := HJ1.out; have := HJ12.out; first | omega | exact Nat.le_refl _⟩, ⟨k_ BK105.out⟩, ⟨b_ HB.out⟩⟩
       ·replace c19 := Bool.eq_false_iff.mpr c19; subst c19; rw [if_neg nf_] at H; have H' := Aside0.mk H; clear H; go_wp2
        go_meet
        case rel => exact ⟨_, ((wrap64 (Int.tdiv a0 2))), rl_, H', ⟨by have := HJ1.out; have := HJ12.out; first | omega | exact Nat.le_refl _⟩, ⟨k_ BK105.out⟩, ⟨b_ HB.out⟩⟩
      case rest =>
       clear HC18; (try clear c1); (try clear c2); (try clear p2); (try clear c4); (try clear c5); (try clear c5b0); (try clear p6); (try clear c7); (try clear c9); (try clear c10); (try clear c17); (try clear c17b0); (try clear c17b1); (try clear c19); (try clear hcz16_0); (try clear hcz16_1); (try clear hfz16_0); (try clear hfz16_1); (try clear p2); (try clear p6); obtain ⟨kq, x4_17, rfl, HA, HJ17, BK105, HB⟩ := hcut
       cases kq with
       | zero => exact absurd HA.out (by simp [dl5_GridHalves.j2])
       | succ kj17 =>
        have H := HA.out; clear HA; simp only [dl5_GridHalves.j2] at H; have HC20 := Aside0.mk H; clear H
        go_upto_region 8 with (fail)
        go_cut [41] (fun v41 wc => ∃ (kq : Nat) (x41_19 : Bool), v41 = .bool x41_19 ∧ Aside0 (dl5_GridHalves.j3 kq a0 x4_17 (wrap64 (Int.tdiv a0 2)) x41_19 t103 t104 = some r) ∧ Aside0 (kq ≤ kj17) ∧ Aside0 (wc.heap[gb105]? = some (.cells #[.string t103, .string t104] 23 (0, 0))) ∧ Aside0 (Below w.heap.size w wc))
        case first =>
         have H := HC20.out; clear HC20; by_cases c21 : a0 < 0
         ·rw [if_pos c21] at H; have c21b0 : decide (a0 < 0) = true := decide_eq_true c21; clear c21; (first | rw [c21b0] | (simp only [i64_w, i32_w]; rw [c21b0]) | skip); have H' := Aside0.mk H; clear H; go_wp2
          go_meet
          case rel => exact ⟨_, (((Int.tmod a0 2) != 0)), rl_, H', ⟨by have := HJ1.out; have := HJ12.out; have := HJ17.out; first | omega | exact Nat.le_refl _⟩, ⟨k_ BK105.out⟩, ⟨b_ HB.out⟩⟩
         ·rw [if_neg c21] at H; have c21b0 : decide (a0 < 0) = false := decide_eq_false c21; clear c21; (first | rw [c21b0] | (simp only [i64_w, i32_w]; rw [c21b0]) | skip); have H' := Aside0.mk H; clear H; go_wp2
          go_meet
          case rel => exact ⟨_, (false), rl_, H', ⟨by have := HJ1.out; have := HJ12.out; have := HJ17.out; first | omega | exact Nat.le_refl _⟩, ⟨k_ BK105.out⟩, ⟨b_ HB.out⟩⟩
        case rest =>
         clear HC20; (try clear c1); (try clear c2); (try clear p2); (try clear c4); (try clear c5); (try clear c5b0); (try clear p6); (try clear c7); (try clear c9); (try clear c10); (try clear c17); (try clear c17b0); (try clear c17b1); (try clear c19); (try clear c21); (try clear c21b0); (try clear hcz16_0); (try clear hcz16_1); (try clear hfz16_0); (try clear hfz16_1); (try clear p2); (try clear p6); obtain ⟨kq, x41_19, rfl, HA, HJ19, BK105, HB⟩ := hcut
         cases kq with
         | zero => exact absurd HA.out (by simp [dl5_GridHalves.j3])
         | succ kj19 =>
          have H := HA.out; clear HA; simp only [dl5_GridHalves.j3] at H; have HC22 := Aside0.mk H; clear H
          go_upto_if 41 with (fail)
          go_cut [5] (fun v5 wc => ∃ (kq : Nat) (x5_21 : Int), v5 = .int .i64 x5_21 ∧ Aside0 (dl5_GridHalves.j4 kq a0 x4_17 x5_21 t103 t104 = some r) ∧ Aside0 (kq ≤ kj19) ∧ Aside0 (wc.heap[gb105]? = some (.cells #[.string t103, .string t104] 23 (0, 0))) ∧ Aside0 (Below w.heap.size w wc))
          case first =>
           have H := HC22.out; clear HC22; by_cases c23 : x41_19 = true
           ·subst c23; rw [if_pos rfl] at H; have H' := Aside0.mk H; clear H; go_wp2
            go_meet
            case rel => exact ⟨_, (wrap64 ((wrap64 (Int.tdiv a0 2)) - 1)), rl_, H', ⟨by have := HJ1.out; have := HJ12.out; have := HJ17.out; have := HJ19.out; first | omega | exact Nat.le_refl _⟩, ⟨k_ BK105.out⟩, ⟨b_ HB.out⟩⟩
           ·replace c23 := Bool.eq_false_iff.mpr c23; subst c23; rw [if_neg nf_] at H; have H' := Aside0.mk H; clear H; go_wp2
            go_meet
            case rel => exact ⟨_, ((wrap64 (Int.tdiv a0 2))), rl_, H', ⟨by have := HJ1.out; have := HJ12.out; have := HJ17.out; have := HJ19.out; first | omega | exact Nat.le_refl _⟩, ⟨k_ BK105.out⟩, ⟨b_ HB.out⟩⟩
          case rest =>
           clear HC22; (try clear c1); (try clear c2); (try clear p2); (try clear c4); (try clear c5); (try clear c5b0); (try clear p6); (try clear c7); (try clear c9); (try clear c10); (try clear c17); (try clear c17b0); (try clear c17b1); (try clear c19); (try clear c21); (try clear c21b0); (try clear c23); (try clear hcz16_0); (try clear hcz16_1); (try clear hfz16_0); (try clear hfz16_1); (try clear p2); (try clear p6); obtain ⟨kq, x5_21, rfl, HA, HJ21, BK105, HB⟩ := hcut
           cases kq with
           | zero => exact absurd HA.out (by simp [dl5_GridHalves.j4])
           | succ kj21 =>
            have H := HA.out; clear HA; simp only [dl5_GridHalves.j4] at H; obtain ⟨t106, A24, H⟩ := bi_ H; obtain ⟨⟨t107, t108⟩, A25, H⟩ := bi_ H; (try dsimp only at H); by_cases c26 : t106.toList = t107.toList
            ·rw [if_pos c26] at H; have c26b0 : (t106.toList == t107.toList) = true := beq_iff_eq.mpr c26; have c26b1 : (t106.toList != t107.toList) = false := bne_eq_false_iff_eq.mpr c26; clear c26; obtain ⟨t109, A27, H⟩ := bi_ H; obtain ⟨⟨t110, t111⟩, A28, H⟩ := bi_ H; (try dsimp only at H); by_cases c29 : t109.toList = t110.toList
             ·rw [if_pos c29] at H; have c29b0 : (t109.toList == t110.toList) = true := beq_iff_eq.mpr c29; have c29b1 : (t109.toList != t110.toList) = false := bne_eq_false_iff_eq.mpr c29; clear c29; obtain ⟨t112, A30, H⟩ := bi_ H; obtain ⟨⟨t113, t114⟩, A31, H⟩ := bi_ H; (try dsimp only at H); obtain rfl := Option.some.inj H; have hcz32_0 := bc_ BK105 0 rfl; have hcz32_1 := bc_ BK105 1 rfl; have hfz32_0 := blk_frozen BK105.out 0; have hfz32_1 := blk_frozen BK105.out 1
              go_wp2_with (first | (refine gl_ 45 Tryz.func11 #[.agg #[.string t103, .string t104], .int .i64 2] ?_; refine mo_ (grid_Whole.calls t103 t104 2 t106 _ (lb_ HLD HB) A24.out) ?_; intro w33 hb; replace BK105 := kb_ BK105 hb; replace HB := bs_ HB hb; (try clear hb); (try clear hb2); (try clear hk); (try clear hi)) | (refine gl_ 47 Tryz.func26 #[.int .i64 x4_17] ?_; refine mo_ (r3_Of.calls x4_17 t107 t108 _ A25.out) ?_; intro w34 hb; replace BK105 := kb_ BK105 hb; replace HB := bs_ HB hb; (try clear hb); (try clear hb2); (try clear hk); (try clear hi); have hcz35_0 := bc_ BK105 0 rfl; have hcz35_1 := bc_ BK105 1 rfl; have hfz35_0 := blk_frozen BK105.out 0; have hfz35_1 := blk_frozen BK105.out 1) | (go_at_call 11; (with_reducible refine (grid_Whole.calls t103 t104 0 t109 _ ?side1 A27.out).mono ?_); (case side1 => exact lb_ HLD HB); rintro e w36 ⟨rfl, hb⟩; replace BK105 := kb_ BK105 hb; replace HB := bs_ HB hb; (try clear hb); (try clear hb2); (try clear hk); (try clear hi)) | (go_at_call 26; (with_reducible refine (r3_Of.calls x5_21 t110 t111 _ A28.out).mono ?_); rintro e w37 ⟨rfl, hb⟩; replace BK105 := kb_ BK105 hb; replace HB := bs_ HB hb; (try clear hb); (try clear hb2); (try clear hk); (try clear hi); have hcz38_0 := bc_ BK105 0 rfl; have hcz38_1 := bc_ BK105 1 rfl; have hfz38_0 := blk_frozen BK105.out 0; have hfz38_1 := blk_frozen BK105.out 1) | (go_at_call 11; (with_reducible refine (grid_Whole.calls t103 t104 1 t112 _ ?side1 A30.out).mono ?_); (case side1 => exact lb_ HLD HB); rintro e w39 ⟨rfl, hb⟩; replace BK105 := kb_ BK105 hb; replace HB := bs_ HB hb; (try clear hb); (try clear hb2); (try clear hk); (try clear hi)) | (go_at_call 26; (with_reducible refine (r3_Of.calls (wrap64 (Int.tdiv a0 2)) t113 t114 _ A31.out).mono ?_); rintro e w40 ⟨rfl, hb⟩; replace BK105 := kb_ BK105 hb; replace HB := bs_ HB hb; (try clear hb); (try clear hb2); (try clear hk); (try clear hi)))
              go_ret
              exact ⟨er_, b_ HB.out⟩
             ·rw [if_neg c29] at H; exact absurd (H.trans (congrArg some hr_.out)) (by decide)
            ·rw [if_neg c26] at H; exact absurd (H.trans (congrArg some hr_.out)) (by decide)
end Go.Proofs.YtmfcpapfikbomaaGreatDoor.LGridHalves
end

section
namespace Go.Proofs.YtmfcpapfikbomaaGreatDoor.LGridHalves
end Go.Proofs.YtmfcpapfikbomaaGreatDoor.LGridHalves
end

section
namespace Go.Proofs.YtmfcpapfikbomaaGreatDoor
theorem tq2 (n : Int) : (0 ≤ n → n.tdiv 2 = n / 2 ∧ n.tmod 2 = n % 2) ∧ (n < 0 → n.tdiv 2 = -((-n) / 2) ∧ n.tmod 2 = -((-n) % 2)) := by
 constructor
 ·intro h
  exact ⟨Int.tdiv_eq_ediv_of_nonneg h, Int.tmod_eq_emod_of_nonneg h⟩
 ·intro h
  have e : n = -(-n) := by omega
  constructor
  ·rw [e, Int.neg_tdiv, Int.tdiv_eq_ediv_of_nonneg (by omega), Int.neg_neg]
  ·rw [e, Int.neg_tmod, Int.tmod_eq_emod_of_nonneg (by omega), Int.neg_neg]
theorem pureGridHalves (a0 : Int) (w0 : (Lit.int .i64 a0).wf = true) : ∃ k, LGridHalves.dl5_GridHalves.f k a0 = some true := by
 refine ⟨6, ?_⟩
 unfold LGridHalves.dl5_GridHalves.f dl5_fixed.f
 have hj : LGridHalves.dl5_GridHalves.j0 6 a0 true = some true := by
  simp only [LGridHalves.dl5_GridHalves.j0]
  rfl
 rw [Option.bind_some, if_pos rfl]
 by_cases n1 : a0 < (-1000000)
 ·rw [if_pos n1]; exact hj
 rw [if_neg n1]
 by_cases n2 : a0 > 1000000
 ·rw [decide_eq_true n2]; exact hj
 rw [decide_eq_false n2]
 have sx := szR_divInt a0 (show (2 : Int) ≠ 0 by decide)
 have s0 := szI_64 (n := a0) (by omega) (by omega)
 have s2 := szI_64 (n := 2) (by omega) (by omega)
 have w2 := gW_div a0 (show (0 : Int) < 2 by decide) 2
 have w1 := gW_div a0 (show (0 : Int) < 2 by decide) 1
 have w0' := gW_div a0 (show (0 : Int) < 2 by decide) 0
 rw [if_neg (show ¬ (2 : Int) = 1 by decide), if_pos rfl] at w2
 rw [if_pos rfl] at w1
 rw [if_neg (show ¬ (0 : Int) = 1 by decide), if_neg (show ¬ (0 : Int) = 2 by decide), if_neg (show ¬ false = true by decide)] at w0'
 simp only [Bool.or_eq_true, Bool.and_eq_true, decide_eq_true_eq] at w2 w1
 obtain ⟨ta, tb⟩ := tq2 a0
 obtain ⟨tc, td⟩ := tq2 (a0.tdiv 2)
 have htb : -1000000 ≤ a0.tdiv 2 ∧ a0.tdiv 2 ≤ 1000000 := by
  rcases (by omega : 0 ≤ a0 ∨ a0 < 0) with h | h
  ·have := ta h; omega
  ·have := tb h; omega
 have hrb : -1 ≤ a0.tmod 2 ∧ a0.tmod 2 ≤ 1 := by
  rcases (by omega : 0 ≤ a0 ∨ a0 < 0) with h | h
  ·have := ta h; omega
  ·have := tb h; omega
 generalize hx : Rat.divInt a0 2 = x at *
 have trunc : gW x 1 = a0.tdiv 2 := by
  rcases (by omega : 0 ≤ a0 ∨ a0 < 0) with h | h
  ·have := ta h; split at w1 <;> omega
  ·have := tb h; split at w1 <;> omega
 have last : ∀ (e d : Int) (k : Nat), gW x 2 = e → gW x 0 = d → -3000000 ≤ e → e ≤ 3000000 → -3000000 ≤ d → d ≤ 3000000 → LGridHalves.dl5_GridHalves.j4 (k + 1) a0 e d (rT x).1 (rT x).2 = some true := by
  intro e d k h1 h2 h3 h4 h5 h6
  simp only [LGridHalves.dl5_GridHalves.j4]
  have e1 : wrap64 (a0.tdiv 2) = a0.tdiv 2 := w64 (by omega) (by omega)
  rw [e1, gWhole (by omega) (by decide) (by decide), Option.bind_some, kOf (by omega) (by omega), Option.bind_some, rT_int', h1, if_pos rfl, gWhole (by omega) (by decide) (by decide), Option.bind_some, kOf (by omega) (by omega), Option.bind_some, rT_int', h2, if_pos rfl, gWhole (by omega) (by decide) (by decide), Option.bind_some, kOf (by omega) (by omega), Option.bind_some, rT_int', trunc, beq_self_eq_true]
 have mid : ∀ (e : Int) (k : Nat), gW x 2 = e → -3000000 ≤ e → e ≤ 3000000 → LGridHalves.dl5_GridHalves.j2 (k + 3) a0 e (rT x).1 (rT x).2 = some true := by
  intro e k h1 h2 h3
  have e1 : wrap64 (a0.tdiv 2) = a0.tdiv 2 := w64 (by omega) (by omega)
  show LGridHalves.dl5_GridHalves.j2 (k + 1 + 1 + 1) _ _ _ _ = _
  simp only [LGridHalves.dl5_GridHalves.j2, LGridHalves.dl5_GridHalves.j3]
  rw [e1]
  by_cases hn : a0 < 0
  ·have := tb hn
   rw [if_pos hn]
   by_cases hr : a0.tmod 2 = 0
   ·rw [if_neg (by rw [hr]; decide)]
    exact last _ _ _ h1 (by omega) h2 h3 (by omega) (by omega)
   ·rw [if_pos (by rw [bne_iff_ne]; exact hr), w64 (by omega) (by omega)]
    exact last _ _ _ h1 (by omega) h2 h3 (by omega) (by omega)
  ·have := ta (by omega)
   rw [if_neg hn, if_neg (by decide)]
   exact last _ _ _ h1 (by omega) h2 h3 (by omega) (by omega)
 show LGridHalves.dl5_GridHalves.j0 (5 + 1) a0 false = _
 simp only [LGridHalves.dl5_GridHalves.j0]
 have e1 : wrap64 (a0.tdiv 2) = a0.tdiv 2 := w64 (by omega) (by omega)
 rw [if_neg (by decide), kOne (by omega) (by omega) (by omega) (by omega) (by decide), Option.bind_some, hx, e1]
 by_cases hr : a0.tmod 2 = 0
 ·rw [if_pos hr]
  show LGridHalves.dl5_GridHalves.j1 (4 + 1) _ _ _ _ _ = _
  simp only [LGridHalves.dl5_GridHalves.j1]
  rw [if_neg (by decide)]
  refine mid _ 1 ?_ (by omega) (by omega)
  rcases (by omega : 0 ≤ a0 ∨ a0 < 0) with h | h
  ·have := ta h; split at w2 <;> omega
  ·have := tb h; split at w2 <;> omega
 ·rw [if_neg hr]
  show LGridHalves.dl5_GridHalves.j1 (4 + 1) _ _ _ _ _ = _
  simp only [LGridHalves.dl5_GridHalves.j1]
  by_cases hu : (a0.tdiv 2).tmod 2 = 0
  ·rw [if_neg (by rw [hu]; decide)]
   refine mid _ 1 ?_ (by omega) (by omega)
   rcases (by omega : 0 ≤ a0 ∨ a0 < 0) with h | h
   ·have := ta h; have := tc (by omega); split at w2 <;> omega
   ·have := tb h
    rcases (by omega : 0 ≤ a0.tdiv 2 ∨ a0.tdiv 2 < 0) with h' | h'
    ·have := tc h'; split at w2 <;> omega
    ·have := td h'; split at w2 <;> omega
  ·rw [if_pos (by rw [bne_iff_ne]; exact hu), w64 (by omega) (by omega)]
   refine mid _ 1 ?_ (by omega) (by omega)
   rcases (by omega : 0 ≤ a0 ∨ a0 < 0) with h | h
   ·have := ta h; have := tc (by omega); split at w2 <;> omega
   ·have := tb h
    rcases (by omega : 0 ≤ a0.tdiv 2 ∨ a0.tdiv 2 < 0) with h' | h'
    ·have := tc h'; split at w2 <;> omega
    ·have := td h'; split at w2 <;> omega
end Go.Proofs.YtmfcpapfikbomaaGreatDoor
end

section
namespace Go.Proofs.YtmfcpapfikbomaaGreatDoor.gridHalves
open Go.ChangeShapes Go.WideShapes Go.ChangeAt Go.RowKit
set_option maxRecDepth 100000 in
theorem lifted (os : Os) (started : os.Started) (H : Type) (enc : TypeId × Value → H) :
  ReturnsInHanded {} Tryz.checked os 7 .any (fun w args => (Rows.gridHalvesSpec.pre enc Tryz.prog Tryz.f7 Rows.gridHalvesRow.domain false w args ∧ laidMetH Tryz.prog laidL w) ∧ sizedMet enc Tryz.prog Tryz.f7 (OpenSpec.ofChange Rows.gridHalvesSpec) false w args)
   (Rows.gridHalvesSpec.post enc Tryz.prog Tryz.f7 false true false false) := by
 refine returnsInHanded_of_change_and (C := Tryz.checked) (X := fun w _ => laidMetH Tryz.prog laidL w) (fun _ _ _ hh h => h.of_heap hh) own started (by kernel_rfl) Tryz.func7
  (ChangeSpec.witness_shaped (enc := enc) (C := Tryz.checked) (os := os) (X := fun w _ => laidMetH Tryz.prog laidL w) false (World.doorLaid Tryz.prog 4000 os) #[.int .i64 0] 8 rfl (World.shaped_of_RefB (by kernel_rfl) (by kernel_rfl)) (by kernel_rfl) (by kernel_rfl) (by kernel_rfl) (door_met os _)) ?_
 intro W base args ds gs before hval0 hW _ hsz0 hL _
 have hsz : (DataW.weightsEach Tryz.prog (Tryz.f7.params.toList ++ Rows.gridHalvesSpec.plain.varTypes Tryz.prog) (ds ++ gs)).all (· ≤ reachBytes) = true := hsz0
 have hval : ∀ (j : Nat) t v, Tryz.f7.params[j]? = some t → args[j]? = some v → Value.okWide Tryz.prog W .any base t v := hval0
 have hW' := hW
 obtain ⟨p, q, hA0, hV, rfl, hfz, hnd⟩ := hW
 have hA : DataW.TrodAll enc Tryz.prog W 0 (fun _ => true) true Tryz.f7.params.toList args.toList ds p := hA0
 rw [Tryz.params7] at hA hval hsz
 obtain ⟨v0, vs0, d0, ds0, p0, q0, hargs, rfl, rfl, h0, r0⟩ := trodAll_cons hA
 obtain ⟨rfl, rfl, rfl⟩ := trodAll_nil r0
 obtain rfl : args = #[v0] := by cases args; simp_all
 obtain ⟨rfl, rfl⟩ := trodVars_none hV
 obtain ⟨a0, rfl, rfl, rfl, w0⟩ := open_int Tryz.underlying3 (hval 0 3 v0 rfl rfl) h0
 clear hA0 hval0 hsz0 hsz
 obtain ⟨k, hf⟩ := pureGridHalves a0 w0
 refine (LGridHalves.dl5_GridHalves.calls k a0 true W (laid_of hL) ⟨rfl⟩ hf).mono fun e W' ⟨he, bel⟩ => ?_
 subst he
 exact ⟨_, rfl, _, _, _, [], _, [], hW', trodAll_mk1 (shut_bool Tryz.underlying4 _), (trodAll_cons_mk (shut_int Tryz.underlying3 w0) trodAll_mk0), rfl, bel.frame _, fun h => by cases h⟩
theorem over : Rows.GridHalvesSaid :=
 OpenClaim.holds_of_wide 7 Tryz.f7 rfl rfl rfl rfl rfl rfl rfl ⟨rfl, rfl, rfl, rfl, rfl⟩ rfl rfl rfl rfl rfl (by kernel_rfl) Tryz.func7 (by kernel_rfl)
  (of_decide_eq_true (by kernel_rfl)) (by unfold Func.isWrapper; first | (rw [if_pos (by decide +kernel)]; kernel_rfl) | (rw [if_neg (by decide +kernel)]; exact ⟨rfl, rfl⟩))
  (fun os started H enc _ => lifted os started H enc)
theorem proved : Rows.GridHalvesCardSaid :=
 Claim7.holds_tied_plain_at .later [] [.data, .data, .data, .sentinel, .sentinel] true (true, "b3870cba59922883960d8a6bf06328dd79f9947c939392f4afc6c5f8b9def57b") true
  over (fun _ h => by cases h) (by kernel_rfl) (fun _ h => by cases h) gridHalves_row_tie rfl ⟨rfl, rfl⟩ (by kernel_rfl) rfl
  (fun f fn hf hfn => by
   obtain rfl : f = 7 := Option.some.inj ((show Tryz.prog.funcNamed "debenture/debenturelaw05.GridHalves" = some 7 by kernel_rfl).symm.trans hf) |>.symm
   obtain rfl : fn = Tryz.f7 := (Option.some.inj (Tryz.func7.symm.trans hfn)).symm
   exact ⟨by kernel_rfl, fun j t ht => by
    rw [Tryz.params7] at ht
    have hm : t ∈ [3] := by simpa using Array.mem_of_getElem? ht
    have hall : ([3].all fun u => !Tryz.prog.wantsStandIn u) = true := by kernel_rfl
    exact (show Tryz.prog.wantsStandIn t = false by simpa using List.all_eq_true.1 hall t hm)⟩)
  (by kernel_rfl)
end Go.Proofs.YtmfcpapfikbomaaGreatDoor.gridHalves
namespace Go.Proofs.YtmfcpapfikbomaaGreatDoor
theorem gridHalves_holds : Rows.GridHalvesCardSaid := gridHalves.proved
#print axioms gridHalves_holds
end Go.Proofs.YtmfcpapfikbomaaGreatDoor
end
