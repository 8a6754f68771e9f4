/-
The law DecimalParts holds at every input that its row lets in: the row's walk and its plain law, tied to the program's text. Conditions: none beyond the given row's own.
Parts of the proof, in build order: LDecimalParts0, LDecimalParts1, LDecimalParts2, LDecimalParts3, LDecimalParts, PuDecimalParts, RowDecimalParts.
-/
import Derived.Test.YtaldgaiaelbbaaaGreatDoorC4
import Derived.Test.YtaldgaiaelbbaaaGreatDoorProg
import Derived.Below
import Derived.Deep.Draws
import Derived.Deep.AppendLies
import Derived.Maps.AppendAt
import Derived.OwnWalk
import Derived.Laws.BytesArg
import Derived.Laws.MakeOwn
import Derived.Laws.OwnMore
import Derived.Deep.OwnRows
import Derived.Tactics
import Derived.Lib.ConvBytes
import Derived.Laws.Slices
import Derived.WalkKit
import Derived.KernelRfl
import Derived.RowKit3
import Derived.Deep.LoopGhost
import Derived.Deep.QuietTactic
import Derived.BigQuiet
import Derived.WideLaws
import Derived.Deep.DeepCutAuto
import Derived.Deep.CutBlock
import Derived.Deep.RegionHeld3
import Derived.Laws.Rows
import Derived.Lib.AppendStr
import Derived.ArgAppend
import Derived.Laws.IdiomCopy
import Derived.OrdersHeld
import Derived.Laws.BitsLemmas
import Derived.RowKit
import Derived.Test.YtaldgaiaelbbaaaGreatDoorC0
import Derived.Test.YtaldgaiaelbbaaaGreatDoorC5
import Derived.Test.YtaldgaiaelbbaaaGreatDoorC2
import Derived.Test.YtaldgaiaelbbaaaGreatDoorTie
import Derived.Test.YtaldgaiaelbbaaaGreatDoorCards
import Derived.SevenTiedAt
set_option linter.unusedVariables false
set_option linter.unusedSimpArgs false
open Go.RowKit Go.Proofs.YtaldgaiaelbbaaaGreatDoorW.PrintWords Go.Proofs.YtaldgaiaelbbaaaGreatDoorW.PrintLast Go.Proofs.YtaldgaiaelbbaaaGreatDoorW.PrintMore
attribute [local go_sem] max2_int min2_int max_two min_two max_three min_three max_four min_four   -- for this text's walks alone
section
namespace Go.Proofs.YtaldgaiaelbbaaaGreatDoor.LDecimalParts
def errW : Option Int → Value
 | none => .nilIface
 | some c => .iface 0 (.int .i64 c)
theorem errW_none : errW none = .nilIface := rfl
theorem errW_some (c : Int) : errW (some c) = .iface 0 (.int .i64 c) := rfl
end Go.Proofs.YtaldgaiaelbbaaaGreatDoor.LDecimalParts
end

section
namespace Go.Proofs.YtaldgaiaelbbaaaGreatDoor.LDecimalParts
theorem eqA23 (d : Nat) (w : World) (x0 y0 : ByteArray) (x1 y1 : ByteArray) :
  (Op.equalIn (d + 2) 23 (.agg #[.string x0, .string x1]) (.agg #[.string y0, .string y1])).run Tryz.prog w = .ok (x0.toList == y0.toList && (x1.toList == y1.toList)) w := by
 refine eqA_of Tryz.underlying23 (by kernel_rfl) ?_; refine eqf_cons (by rfl) (by go_simp; rfl) (by go_simp; rfl) (by go_simp) ?_; exact eqf_last (by rfl) (by go_simp; rfl) (by go_simp; rfl) (by go_simp)
end Go.Proofs.YtaldgaiaelbbaaaGreatDoor.LDecimalParts
end

section
namespace Go.Proofs.YtaldgaiaelbbaaaGreatDoor.LDecimalParts
end Go.Proofs.YtaldgaiaelbbaaaGreatDoor.LDecimalParts
end

section
namespace Go.Proofs.YtaldgaiaelbbaaaGreatDoor.LDecimalParts
attribute [local go_sem high] eqA23
mutual
def dl4_DecimalParts.j0 : Nat → ByteArray → ByteArray → Int → Bool → Option (Bool)
 | 0, _, _, _, _ => none
 | k + 1, x0, x1, x2, x50 => if x50 = true then ((dl4_fixed.f).bind fun t102 => (some t102)) else (dl4_DecimalParts.l0 k x0 x1 x2 0)
def dl4_DecimalParts.l0 : Nat → ByteArray → ByteArray → Int → Int → Option (Bool)
 | 0, _, _, _, _ => none
 | k + 1, x0, x1, x2, x7 => if x7 < (wrap64 ((x0.size : Int) + (x1.size : Int))) then (if x0.size + x1.size ≤ 9223372036854775807 then (if 0 ≤ x7 then (if x7 < ((x0 ++ x1).size : Int) then (if (bt (x0 ++ x1) x7) < 48 then (some true) else (if (bt (x0 ++ x1) x7) > 57 then (some true) else (dl4_DecimalParts.l0 k x0 x1 x2 (wrap64 (x7 + 1))))) else (none)) else (none)) else (none)) else ((decimal_Parse.f x0).bind fun bt103 => ((decimal_Parse.f x1).bind fun bt107 => (if x0.size + 1 ≤ 9223372036854775807 then (if (x0 ++ (⟨#[46]⟩ : ByteArray)).size + x1.size ≤ 9223372036854775807 then ((decimal_Parse.f ((x0 ++ (⟨#[46]⟩ : ByteArray)) ++ x1)).bind fun bt111 => ((r4_Zeros.f x2).bind fun t115 => (if ((x0 ++ (⟨#[46]⟩ : ByteArray)) ++ x1).size + t115.size ≤ 9223372036854775807 then ((decimal_Parse.f (((x0 ++ (⟨#[46]⟩ : ByteArray)) ++ x1) ++ t115)).bind fun bt116 => (if 1 + x0.size ≤ 9223372036854775807 then (if ((⟨#[45]⟩ : ByteArray) ++ x0).size + 1 ≤ 9223372036854775807 then (if (((⟨#[45]⟩ : ByteArray) ++ x0) ++ (⟨#[46]⟩ : ByteArray)).size + x1.size ≤ 9223372036854775807 then ((decimal_Parse.f ((((⟨#[45]⟩ : ByteArray) ++ x0) ++ (⟨#[46]⟩ : ByteArray)) ++ x1)).bind fun bt120 => ((r4_Zeros.f (x1.size : Int)).bind fun t124 => (if 1 + t124.size ≤ 9223372036854775807 then ((r3_Div.f bt107.1 bt107.2.1 ((⟨#[49]⟩ : ByteArray) ++ t124) (⟨#[49]⟩ : ByteArray)).bind fun bt125 => (if bt103.2.2 = 0 then (if bt107.2.2 = 0 then (if bt111.2.2 = 0 then (if bt116.2.2 = 0 then (if bt120.2.2 = 0 then ((r3_Add.f bt103.1 bt103.2.1 bt125.1 bt125.2.1).bind fun bt129 => (if (bt111.1.toList == bt129.1.toList && (bt111.2.1.toList == bt129.2.toList)) = true then (if (bt116.1.toList == bt111.1.toList && (bt116.2.1.toList == bt111.2.1.toList)) = true then ((r3_Neg.f bt111.1 bt111.2.1).bind fun bt131 => (some (bt120.1.toList == bt131.1.toList && (bt120.2.1.toList == bt131.2.toList)))) else (some false)) else (some false))) else (some false)) else (some false)) else (some false)) else (some false)) else (some false))) else (none)))) else (none)) else (none)) else (none))) else (none)))) else (none)) else (none))))
end
def dl4_DecimalParts.f (k : Nat) (a0 : ByteArray) (a1 : ByteArray) (a2 : Int) : Option (Bool) := (dl4_fixed.f).bind fun t101 => (if t101 = true then (if (a0.size : Int) > 50 then (dl4_DecimalParts.j0 k a0 a1 a2 true) else (if (a1.size : Int) > 50 then (dl4_DecimalParts.j0 k a0 a1 a2 true) else (if (a0.size : Int) = 0 then (dl4_DecimalParts.j0 k a0 a1 a2 true) else (if (a1.size : Int) = 0 then (dl4_DecimalParts.j0 k a0 a1 a2 true) else (if a2 < 0 then (dl4_DecimalParts.j0 k a0 a1 a2 true) else (dl4_DecimalParts.j0 k a0 a1 a2 (decide (a2 > 50)))))))) else (dl4_DecimalParts.j0 k a0 a1 a2 true))
def dl4_DecimalParts.T14 : Bool × List (List Nat × List Nat) := (true, [([], []), ([], []), ([1], [1]), ([2], [2]), ([3], [3]), ([4], [4]), ([0, 5, 3], [0, 5]), ([6], [6]), ([7], [7]), ([7], [7]), ([], []), ([10, 8, 6, 0, 1, 2, 3, 4, 5, 6, 7, 8, 10], [8, 10]), ([9, 11, 0, 1, 2, 3, 4, 5, 6, 7, 8, 9, 10, 11], [9])])
def dl4_DecimalParts.B14 : List Nat := [0, 0, 2, 6, 14, 30, 63, 127, 255, 255, 0, 1535, 4095]
theorem dl4_DecimalParts.tab14 : rtab .any (opsOf Tryz.f6 14) = dl4_DecimalParts.T14 := by kernel_rfl
theorem dl4_DecimalParts.bits14 : waitsOk dl4_DecimalParts.T14.2 dl4_DecimalParts.B14 = true := by kernel_rfl
def dl4_DecimalParts.T15 : Bool × List (List Nat × List Nat) := (true, [([], []), ([0], [0]), ([1], [1]), ([2], [2]), ([3, 2], [2, 3]), ([2, 4], [2, 4]), ([5, 2], [5]), ([6], [6]), ([7, 6], [6, 7]), ([6, 8], [6, 8]), ([9, 6], [9]), ([10], [10]), ([11, 10], [10, 11]), ([10, 12], [10, 12]), ([13, 10], [13]), ([14], [14]), ([15, 14], [14, 15]), ([14, 16], [14, 16]), ([17, 14], [17]), ([18], [18]), ([18], [18]), ([18], [18]), ([20, 21, 18, 18], [18, 20, 21]), ([19, 22, 18], [18, 19, 22]), ([18, 23], [18, 23]), ([24, 22], [24]), ([25], [25]), ([25], [25]), ([26, 27, 25], [25, 26, 27]), ([25, 28], [25, 28]), ([29, 25], [29]), ([30], [30]), ([30], [30]), ([32, 30, 30], [30, 32]), ([31, 33, 30], [30, 31, 33]), ([30, 34], [30, 34]), ([35, 33, 0, 1, 2, 3, 4, 5, 6, 7, 8, 9, 10, 11, 12, 13, 14, 15, 16, 17, 18, 19, 20, 21, 22, 23, 24, 25, 26, 27, 28, 29, 30, 31, 32, 33, 34, 35], [35])])
def dl4_DecimalParts.B15 : List Nat := [0, 1, 3, 7, 15, 31, 63, 127, 255, 511, 1023, 2047, 4095, 8191, 16383, 32767, 65535, 131071, 262143, 524287, 524287, 524287, 3670015, 8388607, 16777215, 33554431, 67108863, 67108863, 268435455, 536870911, 1073741823, 2147483647, 2147483647, 6442450943, 17179869183, 34359738367, 68719476735]
theorem dl4_DecimalParts.tab15 : rtab .any (opsOf Tryz.f6 15) = dl4_DecimalParts.T15 := by kernel_rfl
theorem dl4_DecimalParts.bits15 : waitsOk dl4_DecimalParts.T15.2 dl4_DecimalParts.B15 = true := by kernel_rfl
set_option maxHeartbeats 8000000 in
set_option maxRecDepth 100000 in
theorem dl4_DecimalParts.calls (k : Nat) (a0 : ByteArray) (a1 : ByteArray) (a2 : Int) (r : Bool) (w : World) (hL_ : Laid w) (hr_ : Aside0 (r = true)) (h : dl4_DecimalParts.f k a0 a1 a2 = some r) :
  Calls Tryz.prog 6 #[.string a0, .string a1, .int .i64 a2] w fun e w' => e = .returned (.bool r) ∧ Below w.heap.size w w' := by
 have hu23 := Tryz.underlying23; have HLD := Aside0.mk hL_; clear hL_; have HB := Aside0.mk (Below.refl w.heap.size w); have H := h; unfold dl4_DecimalParts.f at H; clear h; have HC4 := Aside0.mk H; clear H; go_enter Tryz.func6, Tryz.ntmps6
 go_upto_region 1 with (fail)
 go_cut [50] (fun v50 wc => ∃ (kq : Nat) (x50_3 : Bool), v50 = .bool x50_3 ∧ Aside0 (dl4_DecimalParts.j0 kq a0 a1 a2 x50_3 = some r) ∧ Aside0 (kq ≤ k) ∧ Aside0 (Below w.heap.size w wc))
 case first =>
  have H := HC4.out; clear HC4; obtain ⟨t101, A5, H⟩ := bi_ H; by_cases c6 : t101 = true
  ·subst c6; rw [if_pos rfl] at H; by_cases c7 : (a0.size : Int) > 50
   ·rw [if_pos c7] at H; have c7b0 : decide (50 < (a0.size : Int)) = true := decide_eq_true c7; have c7b1 : decide (50 < a0.size) = true := decide_eq_true (by omega); clear c7; (first | rw [c7b0] | (simp only [i64_w, i32_w]; rw [c7b0]) | skip); have H' := Aside0.mk H; clear H
    go_wp2_with (first | (refine gl_ 21 Tryz.func9 #[] ?_; refine mo_ (dl4_fixed.calls  true _ (lb_ HLD HB) A5.out) ?_; intro w8 hb; replace HB := bs_ HB hb; (try clear hb); (try clear hb2); (try clear hk); (try clear hi)))
    go_meet
    case rel => exact ⟨_, (true), rl_, H', ⟨by first | omega | exact Nat.le_refl _⟩, ⟨b_ HB.out⟩⟩
   ·rw [if_neg c7] at H; have c7b0 : decide (50 < (a0.size : Int)) = false := decide_eq_false c7; have c7b1 : decide (50 < a0.size) = false := decide_eq_false (by omega); clear c7; (first | rw [c7b0] | (simp only [i64_w, i32_w]; rw [c7b0]) | skip); by_cases c9 : (a1.size : Int) > 50
    ·rw [if_pos c9] at H; have c9b0 : decide (50 < (a1.size : Int)) = true := decide_eq_true c9; have c9b1 : decide (50 < a1.size) = true := decide_eq_true (by omega); clear c9; have H' := Aside0.mk H; clear H
     go_wp2_with (first | (refine gl_ 21 Tryz.func9 #[] ?_; refine mo_ (dl4_fixed.calls  true _ (lb_ HLD HB) A5.out) ?_; intro w10 hb; replace HB := bs_ HB hb; (try clear hb); (try clear hb2); (try clear hk); (try clear hi)))
     go_meet
     case rel => exact ⟨_, (true), rl_, H', ⟨by first | omega | exact Nat.le_refl _⟩, ⟨b_ HB.out⟩⟩
    ·rw [if_neg c9] at H; have c9b0 : decide (50 < (a1.size : Int)) = false := decide_eq_false c9; have c9b1 : decide (50 < a1.size) = false := decide_eq_false (by omega); clear c9; by_cases c11 : (a0.size : Int) = 0
     ·rw [if_pos c11] at H; have c11b0 : ((a0.size : Int) == 0) = true := beq_iff_eq.mpr c11; have c11b1 : ((a0.size : Int) != 0) = false := bne_eq_false_iff_eq.mpr c11; clear c11; have H' := Aside0.mk H; clear H
      go_wp2_with (first | (refine gl_ 21 Tryz.func9 #[] ?_; refine mo_ (dl4_fixed.calls  true _ (lb_ HLD HB) A5.out) ?_; intro w12 hb; replace HB := bs_ HB hb; (try clear hb); (try clear hb2); (try clear hk); (try clear hi)))
      go_meet
      case rel => exact ⟨_, (true), rl_, H', ⟨by first | omega | exact Nat.le_refl _⟩, ⟨b_ HB.out⟩⟩
     ·rw [if_neg c11] at H; have c11b0 : ((a0.size : Int) == 0) = false := beq_eq_false_iff_ne.mpr c11; have c11b1 : ((a0.size : Int) != 0) = true := bne_iff_ne.mpr c11; by_cases c13 : (a1.size : Int) = 0
      ·rw [if_pos c13] at H; have c13b0 : ((a1.size : Int) == 0) = true := beq_iff_eq.mpr c13; have c13b1 : ((a1.size : Int) != 0) = false := bne_eq_false_iff_eq.mpr c13; clear c13; have H' := Aside0.mk H; clear H
       go_wp2_with (first | (refine gl_ 21 Tryz.func9 #[] ?_; refine mo_ (dl4_fixed.calls  true _ (lb_ HLD HB) A5.out) ?_; intro w14 hb; replace HB := bs_ HB hb; (try clear hb); (try clear hb2); (try clear hk); (try clear hi)))
       go_meet
       case rel => exact ⟨_, (true), rl_, H', ⟨by first | omega | exact Nat.le_refl _⟩, ⟨b_ HB.out⟩⟩
      ·rw [if_neg c13] at H; have c13b0 : ((a1.size : Int) == 0) = false := beq_eq_false_iff_ne.mpr c13; have c13b1 : ((a1.size : Int) != 0) = true := bne_iff_ne.mpr c13; by_cases c15 : a2 < 0
       ·rw [if_pos c15] at H; have c15b0 : decide (a2 < 0) = true := decide_eq_true c15; clear c15; have H' := Aside0.mk H; clear H
        go_wp2_with (first | (refine gl_ 21 Tryz.func9 #[] ?_; refine mo_ (dl4_fixed.calls  true _ (lb_ HLD HB) A5.out) ?_; intro w16 hb; replace HB := bs_ HB hb; (try clear hb); (try clear hb2); (try clear hk); (try clear hi)))
        go_meet
        case rel => exact ⟨_, (true), rl_, H', ⟨by first | omega | exact Nat.le_refl _⟩, ⟨b_ HB.out⟩⟩
       ·rw [if_neg c15] at H; have c15b0 : decide (a2 < 0) = false := decide_eq_false c15; clear c15; have H' := Aside0.mk H; clear H
        go_wp2_with (first | (refine gl_ 21 Tryz.func9 #[] ?_; refine mo_ (dl4_fixed.calls  true _ (lb_ HLD HB) A5.out) ?_; intro w17 hb; replace HB := bs_ HB hb; (try clear hb); (try clear hb2); (try clear hk); (try clear hi)))
        go_meet
        case rel => exact ⟨_, (decide (a2 > 50)), rl_, H', ⟨by first | omega | exact Nat.le_refl _⟩, ⟨b_ HB.out⟩⟩
  ·replace c6 := Bool.eq_false_iff.mpr c6; subst c6; rw [if_neg nf_] at H; have H' := Aside0.mk H; clear H
   go_wp2_with (first | (refine gl_ 21 Tryz.func9 #[] ?_; refine mo_ (dl4_fixed.calls  false _ (lb_ HLD HB) A5.out) ?_; intro w18 hb; replace HB := bs_ HB hb; (try clear hb); (try clear hb2); (try clear hk); (try clear hi)))
   go_meet
   case rel => exact ⟨_, (true), rl_, H', ⟨by first | omega | exact Nat.le_refl _⟩, ⟨b_ HB.out⟩⟩
 case rest =>
  clear HC4; (try clear c1); (try clear p2); (try clear c6); (try clear c7); (try clear c7b0); (try clear c7b1); (try clear c9); (try clear c9b0); (try clear c9b1); (try clear c11); (try clear c11b0); (try clear c11b1); (try clear c13); (try clear c13b0); (try clear c13b1); (try clear c15); (try clear c15b0); obtain ⟨kq, x50_3, rfl, HA, HJ3, HB⟩ := hcut
  cases kq with
  | zero => exact absurd HA.out (by simp [dl4_DecimalParts.j0])
  | succ kj3 =>
   have H := HA.out; clear HA; simp only [dl4_DecimalParts.j0] at H; by_cases c19 : x50_3 = true
   ·subst c19; rw [if_pos rfl] at H; obtain ⟨t102, A20, H⟩ := bi_ H; obtain rfl := Option.some.inj H
    go_wp2_with (first | (refine gl_ 51 Tryz.func9 #[] ?_; refine mo_ (dl4_fixed.calls  t102 _ (lb_ HLD HB) A20.out) ?_; intro w21 hb; replace HB := bs_ HB hb; (try clear hb); (try clear hb2); (try clear hk); (try clear hi)))
    go_ret
    exact ⟨er_, b_ HB.out⟩
   ·replace c19 := Bool.eq_false_iff.mpr c19; subst c19; rw [if_neg nf_] at H; have H' := Aside0.mk H; clear H; go_wp2
    go_loopg [7] kj3 (fun kq v7 w' => ∃ (x7_2 : Int), v7 = .int .i64 x7_2 ∧ Aside0 (dl4_DecimalParts.l0 kq a0 a1 a2 x7_2 = some r) ∧ Aside0 (kq ≤ kj3) ∧ Aside0 (Below w.heap.size w w'))
    case atStart => exact ⟨(0), rl_, H', ⟨Nat.le_refl _⟩, ⟨b_ HB.out⟩⟩
    case round =>
     clear H'; (try clear c1); (try clear p2); (try clear c6); (try clear c7); (try clear c7b0); (try clear c7b1); (try clear c9); (try clear c9b0); (try clear c9b1); (try clear c11); (try clear c11b0); (try clear c11b1); (try clear c13); (try clear c13b0); (try clear c13b1); (try clear c15); (try clear c15b0); (try clear c19); (try clear p2); obtain ⟨x7_2, rfl, HA, HK2, HB⟩ := hrel
     cases gk with
     | zero => exact absurd HA.out (by simp [dl4_DecimalParts.l0])
     | succ k2 =>
      have H := HA.out; clear HA; simp only [dl4_DecimalParts.l0] at H; by_cases c22 : x7_2 < (wrap64 ((a0.size : Int) + (a1.size : Int)))
      ·rw [if_pos c22] at H; have c22b0 : decide (x7_2 < (wrap64 ((a0.size : Int) + (a1.size : Int)))) = true := decide_eq_true c22
       have c22b0w : decide (x7_2 < (IntKind.i64.wrap ((a0.size : Int) + (a1.size : Int)))) = true := by simp only [i64_w]; exact c22b0
       clear c22; by_cases c23 : a0.size + a1.size ≤ 9223372036854775807
       ·rw [if_pos c23] at H; have c23b0 := eq_true c23; have c23b1 : decide (a0.size + a1.size ≤ 9223372036854775807) = true := decide_eq_true c23
        try have c23b2 : (9223372036854775807 < a0.size + a1.size) = False := eq_false (Nat.not_lt.2 c23)
        by_cases c24 : 0 ≤ x7_2
        ·rw [if_pos c24] at H; have c24b0 : decide (0 ≤ x7_2) = true := decide_eq_true c24; clear c24; by_cases c25 : x7_2 < ((a0 ++ a1).size : Int)
         ·rw [if_pos c25] at H; have c25b0 : decide (x7_2 < ((a0 ++ a1).size : Int)) = true := decide_eq_true c25; (try have c25v : decide (x7_2 < (a0.size : Int) + (a1.size : Int)) = true := (by have h_ := c25b0; simp only [ByteArray.size_append, Int.natCast_add] at h_; exact h_)); clear c25; by_cases c27 : (bt (a0 ++ a1) x7_2) < 48
          ·rw [if_pos c27] at H; have c27b0 : decide ((bt (a0 ++ a1) x7_2) < 48) = true := decide_eq_true c27; clear c27; obtain rfl := Option.some.inj H; have p26 : 0 ≤ (x7_2 : Int) := of_decide_eq_true as_f; have q26 : x7_2 < ((a0 ++ a1).size : Int) := of_decide_eq_true as_f; (try (have q26v := q26; simp only [ByteArray.size_append, Int.natCast_add] at q26v; replace q26v := eq_true q26v)); have hx26 := bt_at (a0 ++ a1) x7_2; replace p26 := eq_true p26; replace q26 := eq_true q26; go_wp2
           go_ret
           exact ⟨er_, b_ HB.out⟩
          ·rw [if_neg c27] at H; have c27b0 : decide ((bt (a0 ++ a1) x7_2) < 48) = false := decide_eq_false c27; clear c27; by_cases c28 : (bt (a0 ++ a1) x7_2) > 57
           ·rw [if_pos c28] at H; have c28b0 : decide (57 < (bt (a0 ++ a1) x7_2)) = true := decide_eq_true c28; clear c28; obtain rfl := Option.some.inj H; have p26 : 0 ≤ (x7_2 : Int) := of_decide_eq_true as_f; have q26 : x7_2 < ((a0 ++ a1).size : Int) := of_decide_eq_true as_f; (try (have q26v := q26; simp only [ByteArray.size_append, Int.natCast_add] at q26v; replace q26v := eq_true q26v)); have hx26 := bt_at (a0 ++ a1) x7_2; replace p26 := eq_true p26; replace q26 := eq_true q26; go_wp2
            go_ret
            exact ⟨er_, b_ HB.out⟩
           ·rw [if_neg c28] at H; have c28b0 : decide (57 < (bt (a0 ++ a1) x7_2)) = false := decide_eq_false c28; clear c28; have H' := Aside0.mk H; clear H; have p26 : 0 ≤ (x7_2 : Int) := of_decide_eq_true as_f; have q26 : x7_2 < ((a0 ++ a1).size : Int) := of_decide_eq_true as_f; (try (have q26v := q26; simp only [ByteArray.size_append, Int.natCast_add] at q26v; replace q26v := eq_true q26v)); have hx26 := bt_at (a0 ++ a1) x7_2; replace p26 := eq_true p26; replace q26 := eq_true q26; go_wp2
            go_roundg k2
            case measure => have := HJ3.out; have := HK2.out; omega
            case rel => exact ⟨(wrap64 (x7_2 + 1)), rl_, H', ⟨by have := HJ3.out; have := HK2.out; omega⟩, ⟨b_ HB.out⟩⟩
         ·rw [if_neg c25] at H; exact absurd H (by simp)
        ·rw [if_neg c24] at H; exact absurd H (by simp)
       ·rw [if_neg c23] at H; exact absurd H (by simp)
      ·rw [if_neg c22] at H; have c22b0 : decide (x7_2 < (wrap64 ((a0.size : Int) + (a1.size : Int)))) = false := decide_eq_false c22
       have c22b0w : decide (x7_2 < (IntKind.i64.wrap ((a0.size : Int) + (a1.size : Int)))) = false := by simp only [i64_w]; exact c22b0
       clear c22; obtain ⟨⟨t103, t104, t105⟩, A29, H⟩ := bi_ H; (try dsimp only at H); obtain ⟨⟨t107, t108, t109⟩, A30, H⟩ := bi_ H; (try dsimp only at H); by_cases c31 : a0.size + 1 ≤ 9223372036854775807
       ·rw [if_pos c31] at H; have c31b0 := eq_true c31; have c31b1 : decide (a0.size + 1 ≤ 9223372036854775807) = true := decide_eq_true c31
        try have c31b2 : (9223372036854775807 < a0.size + 1) = False := eq_false (Nat.not_lt.2 c31)
        by_cases c32 : (a0 ++ (⟨#[46]⟩ : ByteArray)).size + a1.size ≤ 9223372036854775807
        ·rw [if_pos c32] at H; have c32b0 := eq_true c32; have c32b1 : decide ((a0 ++ (⟨#[46]⟩ : ByteArray)).size + a1.size ≤ 9223372036854775807) = true := decide_eq_true c32; (try have c32v : (9223372036854775807 < a0.size + 1 + a1.size) = False := eq_false (by have h_ := c32; simp only [ByteArray.size_append, ByteArray.size_mk', List.size_toArray, List.length_cons, List.length_nil] at h_; omega))
         try have c32b2 : (9223372036854775807 < (a0 ++ (⟨#[46]⟩ : ByteArray)).size + a1.size) = False := eq_false (Nat.not_lt.2 c32)
         obtain ⟨⟨t111, t112, t113⟩, A33, H⟩ := bi_ H; (try dsimp only at H); obtain ⟨t115, A34, H⟩ := bi_ H; by_cases c35 : ((a0 ++ (⟨#[46]⟩ : ByteArray)) ++ a1).size + t115.size ≤ 9223372036854775807
         ·rw [if_pos c35] at H; have c35b0 := eq_true c35; have c35b1 : decide (((a0 ++ (⟨#[46]⟩ : ByteArray)) ++ a1).size + t115.size ≤ 9223372036854775807) = true := decide_eq_true c35; (try have c35v : (9223372036854775807 < a0.size + 1 + a1.size + t115.size) = False := eq_false (by have h_ := c35; simp only [ByteArray.size_append, ByteArray.size_mk', List.size_toArray, List.length_cons, List.length_nil] at h_; omega))
          try have c35b2 : (9223372036854775807 < ((a0 ++ (⟨#[46]⟩ : ByteArray)) ++ a1).size + t115.size) = False := eq_false (Nat.not_lt.2 c35)
          obtain ⟨⟨t116, t117, t118⟩, A36, H⟩ := bi_ H; (try dsimp only at H); by_cases c37 : 1 + a0.size ≤ 9223372036854775807
          ·rw [if_pos c37] at H; have c37b0 := eq_true c37; have c37b1 : decide (1 + a0.size ≤ 9223372036854775807) = true := decide_eq_true c37
           try have c37b2 : (9223372036854775807 < 1 + a0.size) = False := eq_false (Nat.not_lt.2 c37)
           by_cases c38 : ((⟨#[45]⟩ : ByteArray) ++ a0).size + 1 ≤ 9223372036854775807
           ·rw [if_pos c38] at H; have c38b0 := eq_true c38; have c38b1 : decide (((⟨#[45]⟩ : ByteArray) ++ a0).size + 1 ≤ 9223372036854775807) = true := decide_eq_true c38; (try have c38v : (9223372036854775807 < 1 + a0.size + 1) = False := eq_false (by have h_ := c38; simp only [ByteArray.size_append, ByteArray.size_mk', List.size_toArray, List.length_cons, List.length_nil] at h_; omega))
            try have c38b2 : (9223372036854775807 < ((⟨#[45]⟩ : ByteArray) ++ a0).size + 1) = False := eq_false (Nat.not_lt.2 c38)
            by_cases c39 : (((⟨#[45]⟩ : ByteArray) ++ a0) ++ (⟨#[46]⟩ : ByteArray)).size + a1.size ≤ 9223372036854775807
            ·rw [if_pos c39] at H; have c39b0 := eq_true c39; have c39b1 : decide ((((⟨#[45]⟩ : ByteArray) ++ a0) ++ (⟨#[46]⟩ : ByteArray)).size + a1.size ≤ 9223372036854775807) = true := decide_eq_true c39; (try have c39v : (9223372036854775807 < 1 + a0.size + 1 + a1.size) = False := eq_false (by have h_ := c39; simp only [ByteArray.size_append, ByteArray.size_mk', List.size_toArray, List.length_cons, List.length_nil] at h_; omega))
             try have c39b2 : (9223372036854775807 < (((⟨#[45]⟩ : ByteArray) ++ a0) ++ (⟨#[46]⟩ : ByteArray)).size + a1.size) = False := eq_false (Nat.not_lt.2 c39)
             obtain ⟨⟨t120, t121, t122⟩, A40, H⟩ := bi_ H; (try dsimp only at H); obtain ⟨t124, A41, H⟩ := bi_ H; by_cases c42 : 1 + t124.size ≤ 9223372036854775807
             ·rw [if_pos c42] at H; have c42b0 := eq_true c42; have c42b1 : decide (1 + t124.size ≤ 9223372036854775807) = true := decide_eq_true c42
              try have c42b2 : (9223372036854775807 < 1 + t124.size) = False := eq_false (Nat.not_lt.2 c42)
              obtain ⟨⟨t125, t126, t127⟩, A43, H⟩ := bi_ H; (try dsimp only at H); by_cases c44 : t105 = 0
              ·rw [if_pos c44] at H; have c44b0 : (t105 == 0) = true := beq_iff_eq.mpr c44; have c44b1 : (t105 != 0) = false := bne_eq_false_iff_eq.mpr c44; clear c44; by_cases c45 : t109 = 0
               ·rw [if_pos c45] at H; have c45b0 : (t109 == 0) = true := beq_iff_eq.mpr c45; have c45b1 : (t109 != 0) = false := bne_eq_false_iff_eq.mpr c45; clear c45; by_cases c46 : t113 = 0
                ·rw [if_pos c46] at H; have c46b0 : (t113 == 0) = true := beq_iff_eq.mpr c46; have c46b1 : (t113 != 0) = false := bne_eq_false_iff_eq.mpr c46; clear c46; by_cases c47 : t118 = 0
                 ·rw [if_pos c47] at H; have c47b0 : (t118 == 0) = true := beq_iff_eq.mpr c47; have c47b1 : (t118 != 0) = false := bne_eq_false_iff_eq.mpr c47; clear c47; by_cases c48 : t122 = 0
                  ·rw [if_pos c48] at H; have c48b0 : (t122 == 0) = true := beq_iff_eq.mpr c48; have c48b1 : (t122 != 0) = false := bne_eq_false_iff_eq.mpr c48; clear c48; obtain ⟨⟨t129, t130⟩, A49, H⟩ := bi_ H; (try dsimp only at H); by_cases c50 : (t111.toList == t129.toList && (t112.toList == t130.toList)) = true
                   ·rw [if_pos c50] at H; have c50b0 : (t111.toList == t129.toList && (t112.toList == t130.toList)) = true := c50; (try (have c50b1 : decide (t111.toList = t129.toList && (t112.toList == t130.toList)) = true := by simpa using c50)); (try (have c50b2 : (t111.toList == t129.toList && (t112.toList == t130.toList)) = true := by simpa using c50)); clear c50; by_cases c51 : (t116.toList == t111.toList && (t117.toList == t112.toList)) = true
                    ·rw [if_pos c51] at H; have c51b0 : (t116.toList == t111.toList && (t117.toList == t112.toList)) = true := c51; (try (have c51b1 : decide (t116.toList = t111.toList && (t117.toList == t112.toList)) = true := by simpa using c51)); (try (have c51b2 : (t116.toList == t111.toList && (t117.toList == t112.toList)) = true := by simpa using c51)); clear c51; obtain ⟨⟨t131, t132⟩, A52, H⟩ := bi_ H; (try dsimp only at H); obtain rfl := Option.some.inj H
                     try go_wp2_with (first | (refine gl_ 74 Tryz.func10 #[.string a0] ?_; refine mo_ (decimal_Parse.calls a0 t103 t104 t105 _ (lb_ HLD HB) A29.out) ?_; intro w53 hb; replace HB := bs_ HB hb; (try clear hb); (try clear hb2); (try clear hk); (try clear hi)) | ((with_reducible refine gate_dst (N := 9) rfl ?_); (try (refine gate_guard (by rfl) ?_; dsimp only)); refine be_ 9 #[.string (⟨#[]⟩ : ByteArray), .string (⟨#[]⟩ : ByteArray)] 23 ?_; intro gb106 hg w54 hbox hb; have BK106 := Aside0.mk (hbox); have GW106 := ge_ HB hg; have GE106 := ge_ HB hg; replace HB := bs_ HB hb; clear hb hbox hg; have hcz55_0 := bc_ BK106 0 rfl; have hcz55_1 := bc_ BK106 1 rfl; have hfz55_0 := blk_frozen BK106.out 0; have hfz55_1 := blk_frozen BK106.out 1) | (refine gl_ 79 Tryz.func10 #[.string a1] ?_; refine mo_ (decimal_Parse.calls a1 t107 t108 t109 _ (lb_ HLD HB) A30.out) ?_; intro w56 hb; replace BK106 := Aside0.mk (blk_below (g := gb106) (o := .cells #[.string t103, .string t104] 23 (0, 0)) (rp_ BK106.out) hb); replace HB := bs_ HB hb; (try clear hb); (try clear hb2); (try clear hk); (try clear hi)) | ((with_reducible refine gate_dst (N := 11) rfl ?_); (try (refine gate_guard (by rfl) ?_; dsimp only)); refine be_ 11 #[.string (⟨#[]⟩ : ByteArray), .string (⟨#[]⟩ : ByteArray)] 23 ?_; intro gb110 hg w57 hbox hb; have BK110 := Aside0.mk (hbox); have GW110 := ge_ HB hg; have GE110 := ge_ HB hg; have NB106_110 := nl_ BK106 hg; have NB110_106 := ng_ BK106 hg; replace BK106 := kb_ BK106 hb; replace HB := bs_ HB hb; clear hb hbox hg; have hnb58 := NB110_106.out; have hnc58 := NB106_110.out; have hcz59_0 := bc_ BK110 0 rfl; have hcz59_1 := bc_ BK110 1 rfl; have hfz59_0 := blk_frozen BK110.out 0; have hfz59_1 := blk_frozen BK110.out 1) | (refine gl_ 87 Tryz.func10 #[.string ((a0 ++ (⟨#[46]⟩ : ByteArray)) ++ a1)] ?_; refine mo_ (decimal_Parse.calls ((a0 ++ (⟨#[46]⟩ : ByteArray)) ++ a1) t111 t112 t113 _ (lb_ HLD HB) A33.out) ?_; intro w60 hb; replace BK106 := Aside0.mk (blk_below (g := gb106) (o := .cells #[.string t103, .string t104] 23 (0, 0)) (fr_ BK106.out) hb); replace BK110 := Aside0.mk (blk_below (g := gb110) (o := .cells #[.string t107, .string t108] 23 (0, 0)) (rp_ BK110.out) hb); replace HB := bs_ HB hb; (try clear hb); (try clear hb2); (try clear hk); (try clear hi)) | ((with_reducible refine gate_dst (N := 13) rfl ?_); (try (refine gate_guard (by rfl) ?_; dsimp only)); refine be_ 13 #[.string (⟨#[]⟩ : ByteArray), .string (⟨#[]⟩ : ByteArray)] 23 ?_; intro gb114 hg w61 hbox hb; have BK114 := Aside0.mk (hbox); have GW114 := ge_ HB hg; have GE114 := ge_ HB hg; have NB106_114 := nl_ BK106 hg; have NB114_106 := ng_ BK106 hg; have NB110_114 := nl_ BK110 hg; have NB114_110 := ng_ BK110 hg; replace BK106 := kb_ BK106 hb; replace BK110 := kb_ BK110 hb; replace HB := bs_ HB hb; clear hb hbox hg; have hnb62 := NB114_106.out; have hnc62 := NB106_114.out; have hnb63 := NB114_110.out; have hnc63 := NB110_114.out; have hcz64_0 := bc_ BK114 0 rfl; have hcz64_1 := bc_ BK114 1 rfl; have hfz64_0 := blk_frozen BK114.out 0; have hfz64_1 := blk_frozen BK114.out 1) | (refine gl_ 96 Tryz.func18 #[.int .i64 a2] ?_; refine mo_ (r4_Zeros.calls a2 t115 _ A34.out) ?_; intro w65 hb; replace BK106 := Aside0.mk (blk_below (g := gb106) (o := .cells #[.string t103, .string t104] 23 (0, 0)) (fr_ BK106.out) hb); replace BK110 := Aside0.mk (blk_below (g := gb110) (o := .cells #[.string t107, .string t108] 23 (0, 0)) (fr_ BK110.out) hb); replace BK114 := Aside0.mk (blk_below (g := gb114) (o := .cells #[.string t111, .string t112] 23 (0, 0)) (rp_ BK114.out) hb); replace HB := bs_ HB hb; (try clear hb); (try clear hb2); (try clear hk); (try clear hi)) | (refine gl_ 98 Tryz.func10 #[.string (((a0 ++ (⟨#[46]⟩ : ByteArray)) ++ a1) ++ t115)] ?_; refine mo_ (decimal_Parse.calls (((a0 ++ (⟨#[46]⟩ : ByteArray)) ++ a1) ++ t115) t116 t117 t118 _ (lb_ HLD HB) A36.out) ?_; intro w66 hb; replace BK106 := kb_ BK106 hb; replace BK110 := kb_ BK110 hb; replace BK114 := kb_ BK114 hb; replace HB := bs_ HB hb; (try clear hb); (try clear hb2); (try clear hk); (try clear hi)) | ((with_reducible refine gate_dst (N := 15) rfl ?_); (try (refine gate_guard (by rfl) ?_; dsimp only)); refine be_ 15 #[.string (⟨#[]⟩ : ByteArray), .string (⟨#[]⟩ : ByteArray)] 23 ?_; intro gb119 hg w67 hbox hb; have BK119 := Aside0.mk (hbox); have GW119 := ge_ HB hg; have GE119 := ge_ HB hg; have NB106_119 := nl_ BK106 hg; have NB119_106 := ng_ BK106 hg; have NB110_119 := nl_ BK110 hg; have NB119_110 := ng_ BK110 hg; have NB114_119 := nl_ BK114 hg; have NB119_114 := ng_ BK114 hg; replace BK106 := kb_ BK106 hb; replace BK110 := kb_ BK110 hb; replace BK114 := kb_ BK114 hb; replace HB := bs_ HB hb; clear hb hbox hg; have hnb68 := NB119_106.out; have hnc68 := NB106_119.out; have hnb69 := NB119_110.out; have hnc69 := NB110_119.out; have hnb70 := NB119_114.out; have hnc70 := NB114_119.out; have hcz71_0 := bc_ BK119 0 rfl; have hcz71_1 := bc_ BK119 1 rfl; have hfz71_0 := blk_frozen BK119.out 0; have hfz71_1 := blk_frozen BK119.out 1) | (refine gl_ 107 Tryz.func10 #[.string ((((⟨#[45]⟩ : ByteArray) ++ a0) ++ (⟨#[46]⟩ : ByteArray)) ++ a1)] ?_; refine mo_ (decimal_Parse.calls ((((⟨#[45]⟩ : ByteArray) ++ a0) ++ (⟨#[46]⟩ : ByteArray)) ++ a1) t120 t121 t122 _ (lb_ HLD HB) A40.out) ?_; intro w72 hb; replace BK106 := Aside0.mk (blk_below (g := gb106) (o := .cells #[.string t103, .string t104] 23 (0, 0)) (fr_ BK106.out) hb); replace BK110 := Aside0.mk (blk_below (g := gb110) (o := .cells #[.string t107, .string t108] 23 (0, 0)) (fr_ BK110.out) hb); replace BK114 := Aside0.mk (blk_below (g := gb114) (o := .cells #[.string t111, .string t112] 23 (0, 0)) (fr_ BK114.out) hb); replace BK119 := Aside0.mk (blk_below (g := gb119) (o := .cells #[.string t116, .string t117] 23 (0, 0)) (rp_ BK119.out) hb); replace HB := bs_ HB hb; (try clear hb); (try clear hb2); (try clear hk); (try clear hi)) | ((with_reducible refine gate_dst (N := 17) rfl ?_); (try (refine gate_guard (by rfl) ?_; dsimp only)); refine be_ 17 #[.string (⟨#[]⟩ : ByteArray), .string (⟨#[]⟩ : ByteArray)] 23 ?_; intro gb123 hg w73 hbox hb; have BK123 := Aside0.mk (hbox); have GW123 := ge_ HB hg; have GE123 := ge_ HB hg; have NB106_123 := nl_ BK106 hg; have NB123_106 := ng_ BK106 hg; have NB110_123 := nl_ BK110 hg; have NB123_110 := ng_ BK110 hg; have NB114_123 := nl_ BK114 hg; have NB123_114 := ng_ BK114 hg; have NB119_123 := nl_ BK119 hg; have NB123_119 := ng_ BK119 hg; replace BK106 := kb_ BK106 hb; replace BK110 := kb_ BK110 hb; replace BK114 := kb_ BK114 hb; replace BK119 := kb_ BK119 hb; replace HB := bs_ HB hb; clear hb hbox hg; have hnb74 := NB123_106.out; have hnc74 := NB106_123.out; have hnb75 := NB123_110.out; have hnc75 := NB110_123.out; have hnb76 := NB123_114.out; have hnc76 := NB114_123.out; have hnb77 := NB123_119.out; have hnc77 := NB119_123.out; have hcz78_0 := bc_ BK123 0 rfl; have hcz78_1 := bc_ BK123 1 rfl; have hfz78_0 := blk_frozen BK123.out 0; have hfz78_1 := blk_frozen BK123.out 1))
                     have n0_ : Aside0 (((w73.setCell ⟨gb123, 0, none⟩ (.string t120)).setCell ⟨gb123, 1, none⟩ (.string t121)).heap[gb106]? = some (.cells #[.string t103, .string t104] 23 (0, 0))) := ⟨fr_ BK106.out⟩; have n1_ : Aside0 (((w73.setCell ⟨gb123, 0, none⟩ (.string t120)).setCell ⟨gb123, 1, none⟩ (.string t121)).heap[gb110]? = some (.cells #[.string t107, .string t108] 23 (0, 0))) := ⟨fr_ BK110.out⟩; have n2_ : Aside0 (((w73.setCell ⟨gb123, 0, none⟩ (.string t120)).setCell ⟨gb123, 1, none⟩ (.string t121)).heap[gb114]? = some (.cells #[.string t111, .string t112] 23 (0, 0))) := ⟨fr_ BK114.out⟩; have n3_ : Aside0 (((w73.setCell ⟨gb123, 0, none⟩ (.string t120)).setCell ⟨gb123, 1, none⟩ (.string t121)).heap[gb119]? = some (.cells #[.string t116, .string t117] 23 (0, 0))) := ⟨fr_ BK119.out⟩; have n4_ : Aside0 (((w73.setCell ⟨gb123, 0, none⟩ (.string t120)).setCell ⟨gb123, 1, none⟩ (.string t121)).heap[gb123]? = some (.cells #[.string t120, .string t121] 23 (0, 0))) := ⟨rp_ BK123.out⟩; have n5_ : Aside0 (Below w.heap.size w ((w73.setCell ⟨gb123, 0, none⟩ (.string t120)).setCell ⟨gb123, 1, none⟩ (.string t121))) := ⟨b_ HB.out⟩; (try clear BK106); (try clear BK110); (try clear BK114); (try clear BK119); (try clear BK123); (try clear HB); generalize ((w73.setCell ⟨gb123, 0, none⟩ (.string t120)).setCell ⟨gb123, 1, none⟩ (.string t121)) = w79 at n0_ n1_ n2_ n3_ n4_ n5_ ⊢; have BK106 := n0_; have BK110 := n1_; have BK114 := n2_; have BK119 := n3_; have BK123 := n4_; have HB := n5_; clear n0_ n1_ n2_ n3_ n4_ n5_; replace BK106 := Aside0.mk (blk_drew BK106.out); replace BK110 := Aside0.mk (blk_drew BK110.out); replace BK114 := Aside0.mk (blk_drew BK114.out); replace BK119 := Aside0.mk (blk_drew BK119.out); replace BK123 := Aside0.mk (blk_drew BK123.out); replace HB := Aside0.mk (below_drew1 HB.out); refine sa_ 13 (fun w' => w'.cell? ⟨gb110, 0, none⟩ = some (.string t107) ∧ w'.cell? ⟨gb110, 1, none⟩ = some (.string t108)) (fun hHeld => ?_); refine with_tabW dl4_DecimalParts.tab14 dl4_DecimalParts.bits14 (fun HT_ HW_ => ?_); generalize w79.drew = w80 at BK106 BK110 BK114 BK119 BK123 HB hHeld ⊢; refine pu_ 1 112 rfl rfl HT_ ?_; refine pu_ 2 113 rfl rfl HT_ ?_; refine t2_ 0 111 rfl rfl HT_ HW_ hHeld ?_; refine join_ (σ := Nat) 2 #[true, true, true, true, true, true, true, true, true, true, true, false, false] (fun s_ => [(114, .string t124), (117, .tuple #[.agg #[.string t125, .string t126], .bool t127]), (19, .pointer (some ⟨s_, 0, none⟩)), (115, .string ((⟨#[49]⟩ : ByteArray) ++ t124)), (116, .agg #[.string ((⟨#[49]⟩ : ByteArray) ++ t124), .string (⟨#[49]⟩ : ByteArray)]), (110, .tuple #[.agg #[.string t125, .string t126], .bool t127]), (118, .agg #[.string t125, .string t126]), (119, .bool t127)]) (fun s_ w' => (w'.cell? ⟨gb110, 0, none⟩ = some (.string t107) ∧ w'.cell? ⟨gb110, 1, none⟩ = some (.string t108)) ∧ (w'.heap[gb106]? = some (.cells #[.string t103, .string t104] 23 (0, 0))) ∧ (w'.heap[gb110]? = some (.cells #[.string t107, .string t108] 23 (0, 0))) ∧ (w'.heap[gb114]? = some (.cells #[.string t111, .string t112] 23 (0, 0))) ∧ (w'.heap[gb119]? = some (.cells #[.string t116, .string t117] 23 (0, 0))) ∧ (w'.heap[gb123]? = some (.cells #[.string t120, .string t121] 23 (0, 0))) ∧ (w'.heap[s_]? = some (.cells #[.string (⟨#[]⟩ : ByteArray), .string (⟨#[]⟩ : ByteArray)] 23 (0, 0))) ∧ (w.heap.size ≤ s_) ∧ (w.heap.size ≤ s_) ∧ (gb106 ≠ s_) ∧ (s_ ≠ gb106) ∧ (gb110 ≠ s_) ∧ (s_ ≠ gb110) ∧ (gb114 ≠ s_) ∧ (s_ ≠ gb114) ∧ (gb119 ≠ s_) ∧ (s_ ≠ gb119) ∧ (gb123 ≠ s_) ∧ (s_ ≠ gb123) ∧ (Below w.heap.size w w')) ?_ ?_; rotate_left
                     ·intro hCont; refine two_ (i := 3) (j := 10) (Ni := some 114) (Nj := some 19) #[true, true, true, true, false, false, false, false, false, false, false, false, false] #[true, true, true, false, false, false, false, false, false, false, true, false, false] rfl rfl rfl rfl (two_of HT_.out (by kernel_rfl)) (by decide) (by decide) (fun K hK => ?_) (fun K hK => ?_)
                      ·skip; refine gs_ Tryz.func18 #[.int .i64 (a1.size : Int)] ?_; refine mo_ (r4_Zeros.calls (a1.size : Int) t124 _ A41.out) ?_; intro w81 hb; replace BK106 := kb_ BK106 hb; replace BK110 := kb_ BK110 hb; replace BK114 := kb_ BK114 hb; replace BK119 := kb_ BK119 hb; replace BK123 := kb_ BK123 hb; replace HB := bs_ HB hb; (try clear hb); refine hk_ hK (fun hHeld => ?_); clear hK K; refine nm_ ?_; refine pu_ 4 115 rfl rfl HT_ ?_; refine pu_ 5 116 rfl rfl HT_ ?_; refine two_ (i := 6) (j := 10) (Ni := some 117) (Nj := some 19) #[true, true, true, true, true, true, true, false, false, false, false, false, false] #[true, true, true, true, true, true, false, false, false, false, true, false, false] rfl rfl rfl rfl (two_of HT_.out (by kernel_rfl)) (by decide) (by decide) (fun K hK => ?_) (fun K hK => ?_)
                       ·skip; refine gs_ Tryz.func19 #[.agg #[.string t107, .string t108], .agg #[.string ((⟨#[49]⟩ : ByteArray) ++ t124), .string (⟨#[49]⟩ : ByteArray)]] ?_; refine mo_ (r3_Div.calls t107 t108 ((⟨#[49]⟩ : ByteArray) ++ t124) (⟨#[49]⟩ : ByteArray) t125 t126 t127 _ A43.out) ?_; intro w82 hb; replace BK106 := kb_ BK106 hb; replace BK110 := kb_ BK110 hb; replace BK114 := kb_ BK114 hb; replace BK119 := kb_ BK119 hb; replace BK123 := kb_ BK123 hb; replace HB := bs_ HB hb; (try clear hb); refine hk_ hK (fun hHeld => ?_); clear hK K; refine nm_ ?_; refine pu_ 7 110 rfl rfl HT_ ?_; refine pu_ 8 118 rfl rfl HT_ ?_; refine pu_ 9 119 rfl rfl HT_ ?_; refine on_ 10 (some 19) rfl rfl HT_ (fun K hK => ?_); refine box_step ?hg (N := 19) ?hd (cs := #[.string (⟨#[]⟩ : ByteArray), .string (⟨#[]⟩ : ByteArray)]) (t := 23) ?hr ?_; (case hd => rfl); (case hg => rfl); (case hr => first | (go_simp; done) | (go_simp; rfl)); intro gb128 hg w83 hbox hb; have BK128 := Aside0.mk (hbox); have GW128 := ge_ HB hg; have GE128 := ge_ HB hg; have NB106_128 := nl_ BK106 hg; have NB128_106 := ng_ BK106 hg; have NB110_128 := nl_ BK110 hg; have NB128_110 := ng_ BK110 hg; have NB114_128 := nl_ BK114 hg; have NB128_114 := ng_ BK114 hg; have NB119_128 := nl_ BK119 hg; have NB128_119 := ng_ BK119 hg; have NB123_128 := nl_ BK123 hg; have NB128_123 := ng_ BK123 hg; replace BK106 := kb_ BK106 hb; replace BK110 := kb_ BK110 hb; replace BK114 := kb_ BK114 hb; replace BK119 := kb_ BK119 hb; replace BK123 := kb_ BK123 hb; replace HB := bs_ HB hb; clear hb hbox hg; refine hk_ hK (fun hHeld => ?_); clear hK K; refine nm_ ?_; exact norm_ pa_ (hCont (gb128) _ ⟨hHeld, (k_ BK106.out), (k_ BK110.out), (k_ BK114.out), (k_ BK119.out), (k_ BK123.out), (k_ BK128.out), GW128.out, GE128.out, NB106_128.out, NB128_106.out, NB110_128.out, NB128_110.out, NB114_128.out, NB128_114.out, NB119_128.out, NB128_119.out, NB123_128.out, NB128_123.out, (b_ HB.out)⟩)
                       ·skip; refine box_step ?hg (N := 19) ?hd (cs := #[.string (⟨#[]⟩ : ByteArray), .string (⟨#[]⟩ : ByteArray)]) (t := 23) ?hr ?_; (case hd => rfl); (case hg => rfl); (case hr => first | (go_simp; done) | (go_simp; rfl)); intro gb128 hg w82 hbox hb; have BK128 := Aside0.mk (hbox); have GW128 := ge_ HB hg; have GE128 := ge_ HB hg; have NB106_128 := nl_ BK106 hg; have NB128_106 := ng_ BK106 hg; have NB110_128 := nl_ BK110 hg; have NB128_110 := ng_ BK110 hg; have NB114_128 := nl_ BK114 hg; have NB128_114 := ng_ BK114 hg; have NB119_128 := nl_ BK119 hg; have NB128_119 := ng_ BK119 hg; have NB123_128 := nl_ BK123 hg; have NB128_123 := ng_ BK123 hg; replace BK106 := kb_ BK106 hb; replace BK110 := kb_ BK110 hb; replace BK114 := kb_ BK114 hb; replace BK119 := kb_ BK119 hb; replace BK123 := kb_ BK123 hb; replace HB := bs_ HB hb; clear hb hbox hg; refine hk_ hK (fun hHeld => ?_); clear hK K; refine nm_ ?_; refine on_ 6 (some 117) rfl rfl HT_ (fun K hK => ?_); refine gs_ Tryz.func19 #[.agg #[.string t107, .string t108], .agg #[.string ((⟨#[49]⟩ : ByteArray) ++ t124), .string (⟨#[49]⟩ : ByteArray)]] ?_; refine mo_ (r3_Div.calls t107 t108 ((⟨#[49]⟩ : ByteArray) ++ t124) (⟨#[49]⟩ : ByteArray) t125 t126 t127 _ A43.out) ?_; intro w83 hb; replace BK106 := kb_ BK106 hb; replace BK110 := kb_ BK110 hb; replace BK114 := kb_ BK114 hb; replace BK119 := kb_ BK119 hb; replace BK123 := kb_ BK123 hb; replace BK128 := kb_ BK128 hb; replace HB := bs_ HB hb; (try clear hb); refine hk_ hK (fun hHeld => ?_); clear hK K; refine nm_ ?_; refine pu_ 7 110 rfl rfl HT_ ?_; refine pu_ 8 118 rfl rfl HT_ ?_; refine pu_ 9 119 rfl rfl HT_ ?_; exact norm_ pa_ (hCont (gb128) _ ⟨hHeld, (k_ BK106.out), (k_ BK110.out), (k_ BK114.out), (k_ BK119.out), (k_ BK123.out), (k_ BK128.out), GW128.out, GE128.out, NB106_128.out, NB128_106.out, NB110_128.out, NB128_110.out, NB114_128.out, NB128_114.out, NB119_128.out, NB128_119.out, NB123_128.out, NB128_123.out, (b_ HB.out)⟩)
                      ·skip; refine box_step ?hg (N := 19) ?hd (cs := #[.string (⟨#[]⟩ : ByteArray), .string (⟨#[]⟩ : ByteArray)]) (t := 23) ?hr ?_; (case hd => rfl); (case hg => rfl); (case hr => first | (go_simp; done) | (go_simp; rfl)); intro gb128 hg w81 hbox hb; have BK128 := Aside0.mk (hbox); have GW128 := ge_ HB hg; have GE128 := ge_ HB hg; have NB106_128 := nl_ BK106 hg; have NB128_106 := ng_ BK106 hg; have NB110_128 := nl_ BK110 hg; have NB128_110 := ng_ BK110 hg; have NB114_128 := nl_ BK114 hg; have NB128_114 := ng_ BK114 hg; have NB119_128 := nl_ BK119 hg; have NB128_119 := ng_ BK119 hg; have NB123_128 := nl_ BK123 hg; have NB128_123 := ng_ BK123 hg; replace BK106 := kb_ BK106 hb; replace BK110 := kb_ BK110 hb; replace BK114 := kb_ BK114 hb; replace BK119 := kb_ BK119 hb; replace BK123 := kb_ BK123 hb; replace HB := bs_ HB hb; clear hb hbox hg; refine hk_ hK (fun hHeld => ?_); clear hK K; refine nm_ ?_; refine on_ 3 (some 114) rfl rfl HT_ (fun K hK => ?_); refine gs_ Tryz.func18 #[.int .i64 (a1.size : Int)] ?_; refine mo_ (r4_Zeros.calls (a1.size : Int) t124 _ A41.out) ?_; intro w82 hb; replace BK106 := kb_ BK106 hb; replace BK110 := kb_ BK110 hb; replace BK114 := kb_ BK114 hb; replace BK119 := kb_ BK119 hb; replace BK123 := kb_ BK123 hb; replace BK128 := kb_ BK128 hb; replace HB := bs_ HB hb; (try clear hb); refine hk_ hK (fun hHeld => ?_); clear hK K; refine nm_ ?_; refine pu_ 4 115 rfl rfl HT_ ?_; refine pu_ 5 116 rfl rfl HT_ ?_; refine on_ 6 (some 117) rfl rfl HT_ (fun K hK => ?_); refine gs_ Tryz.func19 #[.agg #[.string t107, .string t108], .agg #[.string ((⟨#[49]⟩ : ByteArray) ++ t124), .string (⟨#[49]⟩ : ByteArray)]] ?_; refine mo_ (r3_Div.calls t107 t108 ((⟨#[49]⟩ : ByteArray) ++ t124) (⟨#[49]⟩ : ByteArray) t125 t126 t127 _ A43.out) ?_; intro w83 hb; replace BK106 := kb_ BK106 hb; replace BK110 := kb_ BK110 hb; replace BK114 := kb_ BK114 hb; replace BK119 := kb_ BK119 hb; replace BK123 := kb_ BK123 hb; replace BK128 := kb_ BK128 hb; replace HB := bs_ HB hb; (try clear hb); refine hk_ hK (fun hHeld => ?_); clear hK K; refine nm_ ?_; refine pu_ 7 110 rfl rfl HT_ ?_; refine pu_ 8 118 rfl rfl HT_ ?_; refine pu_ 9 119 rfl rfl HT_ ?_; exact norm_ pa_ (hCont (gb128) _ ⟨hHeld, (k_ BK106.out), (k_ BK110.out), (k_ BK114.out), (k_ BK119.out), (k_ BK123.out), (k_ BK128.out), GW128.out, GE128.out, NB106_128.out, NB128_106.out, NB110_128.out, NB128_110.out, NB114_128.out, NB128_114.out, NB119_128.out, NB128_119.out, NB123_128.out, NB128_123.out, (b_ HB.out)⟩)
                     rintro gb128 w84 ⟨hS_, h0_, h1_, h2_, h3_, h4_, h5_, h6_, h7_, h8_, h9_, h10_, h11_, h12_, h13_, h14_, h15_, h16_, h17_, h18_⟩; have n0_ : Aside0 (w84.heap[gb106]? = some (.cells #[.string t103, .string t104] 23 (0, 0))) := ⟨h0_⟩; have n1_ : Aside0 (w84.heap[gb110]? = some (.cells #[.string t107, .string t108] 23 (0, 0))) := ⟨h1_⟩; have n2_ : Aside0 (w84.heap[gb114]? = some (.cells #[.string t111, .string t112] 23 (0, 0))) := ⟨h2_⟩; have n3_ : Aside0 (w84.heap[gb119]? = some (.cells #[.string t116, .string t117] 23 (0, 0))) := ⟨h3_⟩; have n4_ : Aside0 (w84.heap[gb123]? = some (.cells #[.string t120, .string t121] 23 (0, 0))) := ⟨h4_⟩; have n5_ : Aside0 (w84.heap[gb128]? = some (.cells #[.string (⟨#[]⟩ : ByteArray), .string (⟨#[]⟩ : ByteArray)] 23 (0, 0))) := ⟨h5_⟩; have n6_ : Aside0 (w.heap.size ≤ gb128) := ⟨h6_⟩; have n7_ : Aside0 (w.heap.size ≤ gb128) := ⟨h7_⟩; have n8_ : Aside0 (gb106 ≠ gb128) := ⟨h8_⟩; have n9_ : Aside0 (gb128 ≠ gb106) := ⟨h9_⟩; have n10_ : Aside0 (gb110 ≠ gb128) := ⟨h10_⟩; have n11_ : Aside0 (gb128 ≠ gb110) := ⟨h11_⟩; have n12_ : Aside0 (gb114 ≠ gb128) := ⟨h12_⟩; have n13_ : Aside0 (gb128 ≠ gb114) := ⟨h13_⟩; have n14_ : Aside0 (gb119 ≠ gb128) := ⟨h14_⟩; have n15_ : Aside0 (gb128 ≠ gb119) := ⟨h15_⟩; have n16_ : Aside0 (gb123 ≠ gb128) := ⟨h16_⟩; have n17_ : Aside0 (gb128 ≠ gb123) := ⟨h17_⟩; have n18_ : Aside0 (Below w.heap.size w w84) := ⟨h18_⟩; clear BK106; clear BK110; clear BK114; clear BK119; clear BK123; clear HB; clear h0_ h1_ h2_ h3_ h4_ h5_ h6_ h7_ h8_ h9_ h10_ h11_ h12_ h13_ h14_ h15_ h16_ h17_ h18_; have BK106 := n0_; have BK110 := n1_; have BK114 := n2_; have BK119 := n3_; have BK123 := n4_; have BK128 := n5_; have GW128 := n6_; have GE128 := n7_; have NB106_128 := n8_; have NB128_106 := n9_; have NB110_128 := n10_; have NB128_110 := n11_; have NB114_128 := n12_; have NB128_114 := n13_; have NB119_128 := n14_; have NB128_119 := n15_; have NB123_128 := n16_; have NB128_123 := n17_; have HB := n18_; clear n0_ n1_ n2_ n3_ n4_ n5_ n6_ n7_ n8_ n9_ n10_ n11_ n12_ n13_ n14_ n15_ n16_ n17_ n18_; have hHeld : w84.cell? ⟨gb110, 0, none⟩ = some (.string t107) ∧ w84.cell? ⟨gb110, 1, none⟩ = some (.string t108) := hS_; refine norm_ (a' := ?_) ?_ ?_; rotate_left
                     ·simp only [putAll, Act.put, List.setIfInBounds_toArray, List.set_cons_zero, List.set_cons_succ]
                      rfl
                     refine on_ 11 none rfl rfl HT_ (fun K hK => ?_); have hs85 := bc_ BK128 0 rfl; have hfs85 := blk_frozen BK128.out 0; have hns85_0 := NB106_128.out; have hns85_1 := NB110_128.out; have hns85_2 := NB114_128.out; have hns85_3 := NB119_128.out; have hns85_4 := NB123_128.out; have hms85_0 := NB128_106.out; have hms85_1 := NB128_110.out; have hms85_2 := NB128_114.out; have hms85_3 := NB128_119.out; have hms85_4 := NB128_123.out; have hs86 := bc_ BK128 1 rfl; have hfs86 := blk_frozen BK128.out 1; have hns86_0 := NB106_128.out; have hns86_1 := NB110_128.out; have hns86_2 := NB114_128.out; have hns86_3 := NB119_128.out; have hns86_4 := NB123_128.out; have hms86_0 := NB128_106.out; have hms86_1 := NB128_110.out; have hms86_2 := NB128_114.out; have hms86_3 := NB128_119.out; have hms86_4 := NB128_123.out; refine skip_ (w1 := ?_) (by rfl) rfl ?_ ?_; rotate_left
                     ·go_simp
                      rfl
                     refine hf_ hK hHeld (fun hHeld => ?_); clear hK K; refine pu_ 12 20 rfl rfl HT_ ?_; refine done_ (done_of HT_.out (by kernel_rfl)) ?_
                     try go_wp2
                     have n0_ : Aside0 (((w84.setCell ⟨gb128, 0, none⟩ (.string t125)).setCell ⟨gb128, 1, none⟩ (.string t126)).heap[gb106]? = some (.cells #[.string t103, .string t104] 23 (0, 0))) := ⟨fr_ BK106.out⟩; have n1_ : Aside0 (((w84.setCell ⟨gb128, 0, none⟩ (.string t125)).setCell ⟨gb128, 1, none⟩ (.string t126)).heap[gb110]? = some (.cells #[.string t107, .string t108] 23 (0, 0))) := ⟨fr_ BK110.out⟩; have n2_ : Aside0 (((w84.setCell ⟨gb128, 0, none⟩ (.string t125)).setCell ⟨gb128, 1, none⟩ (.string t126)).heap[gb114]? = some (.cells #[.string t111, .string t112] 23 (0, 0))) := ⟨fr_ BK114.out⟩; have n3_ : Aside0 (((w84.setCell ⟨gb128, 0, none⟩ (.string t125)).setCell ⟨gb128, 1, none⟩ (.string t126)).heap[gb119]? = some (.cells #[.string t116, .string t117] 23 (0, 0))) := ⟨fr_ BK119.out⟩; have n4_ : Aside0 (((w84.setCell ⟨gb128, 0, none⟩ (.string t125)).setCell ⟨gb128, 1, none⟩ (.string t126)).heap[gb123]? = some (.cells #[.string t120, .string t121] 23 (0, 0))) := ⟨fr_ BK123.out⟩; have n5_ : Aside0 (((w84.setCell ⟨gb128, 0, none⟩ (.string t125)).setCell ⟨gb128, 1, none⟩ (.string t126)).heap[gb128]? = some (.cells #[.string t125, .string t126] 23 (0, 0))) := ⟨rp_ BK128.out⟩; have n6_ : Aside0 (Below w.heap.size w ((w84.setCell ⟨gb128, 0, none⟩ (.string t125)).setCell ⟨gb128, 1, none⟩ (.string t126))) := ⟨b_ HB.out⟩; (try clear BK106); (try clear BK110); (try clear BK114); (try clear BK119); (try clear BK123); (try clear BK128); (try clear HB); generalize ((w84.setCell ⟨gb128, 0, none⟩ (.string t125)).setCell ⟨gb128, 1, none⟩ (.string t126)) = w87 at n0_ n1_ n2_ n3_ n4_ n5_ n6_ ⊢; have BK106 := n0_; have BK110 := n1_; have BK114 := n2_; have BK119 := n3_; have BK123 := n4_; have BK128 := n5_; have HB := n6_; clear n0_ n1_ n2_ n3_ n4_ n5_ n6_; replace BK106 := Aside0.mk (blk_drew BK106.out); replace BK110 := Aside0.mk (blk_drew BK110.out); replace BK114 := Aside0.mk (blk_drew BK114.out); replace BK119 := Aside0.mk (blk_drew BK119.out); replace BK123 := Aside0.mk (blk_drew BK123.out); replace BK128 := Aside0.mk (blk_drew BK128.out); replace HB := Aside0.mk (below_drew1 HB.out); refine sa_ 37 (fun w' => w'.cell? ⟨gb114, 0, none⟩ = some (.string t111) ∧ w'.cell? ⟨gb114, 1, none⟩ = some (.string t112) ∧ w'.cell? ⟨gb106, 0, none⟩ = some (.string t103) ∧ w'.cell? ⟨gb106, 1, none⟩ = some (.string t104) ∧ w'.cell? ⟨gb128, 0, none⟩ = some (.string t125) ∧ w'.cell? ⟨gb128, 1, none⟩ = some (.string t126) ∧ w'.cell? ⟨gb119, 0, none⟩ = some (.string t116) ∧ w'.cell? ⟨gb119, 1, none⟩ = some (.string t117) ∧ w'.cell? ⟨gb123, 0, none⟩ = some (.string t120) ∧ w'.cell? ⟨gb123, 1, none⟩ = some (.string t121)) (fun hHeld => ?_); refine with_tabW dl4_DecimalParts.tab15 dl4_DecimalParts.bits15 (fun HT_ HW_ => ?_); generalize w87.drew = w88 at BK106 BK110 BK114 BK119 BK123 BK128 HB hHeld ⊢; refine pu_ 0 120 rfl rfl HT_ ?_; refine pu_ 1 121 rfl rfl HT_ ?_; refine pu_ 2 122 rfl rfl HT_ ?_; refine pu_ 3 123 rfl rfl HT_ ?_; refine pu_ 4 124 rfl rfl HT_ ?_; refine pu_ 5 125 rfl rfl HT_ ?_; refine pu_ 6 126 rfl rfl HT_ ?_; refine pu_ 7 127 rfl rfl HT_ ?_; refine pu_ 8 128 rfl rfl HT_ ?_; refine pu_ 9 129 rfl rfl HT_ ?_; refine pu_ 10 130 rfl rfl HT_ ?_; refine pu_ 11 131 rfl rfl HT_ ?_; refine pu_ 12 132 rfl rfl HT_ ?_; refine pu_ 13 133 rfl rfl HT_ ?_; refine pu_ 14 134 rfl rfl HT_ ?_; refine pu_ 15 135 rfl rfl HT_ ?_; refine pu_ 16 136 rfl rfl HT_ ?_; refine pu_ 17 137 rfl rfl HT_ ?_; refine pu_ 18 138 rfl rfl HT_ ?_; refine t10_ 19 139 rfl rfl HT_ HW_ hHeld ?_; refine t10_ 20 140 rfl rfl HT_ HW_ hHeld ?_; refine t10_ 21 141 rfl rfl HT_ HW_ hHeld ?_; refine on_ 22 (some 142) rfl rfl HT_ (fun K hK => ?_); refine gs_ Tryz.func20 #[.agg #[.string t103, .string t104], .agg #[.string t125, .string t126]] ?_; refine mo_ (r3_Add.calls t103 t104 t125 t126 t129 t130 _ A49.out) ?_; intro w89 hb; replace BK106 := kb_ BK106 hb; replace BK110 := kb_ BK110 hb; replace BK114 := kb_ BK114 hb; replace BK119 := kb_ BK119 hb; replace BK123 := kb_ BK123 hb; replace BK128 := kb_ BK128 hb; replace HB := bs_ HB hb; (try clear hb); refine hk_ hK (fun hHeld => ?_); clear hK K; refine nm_ ?_; refine pu_ 23 143 rfl rfl HT_ ?_; refine pu_ 24 144 rfl rfl HT_ ?_; refine pu_ 25 145 rfl rfl HT_ ?_; refine t10_ 26 146 rfl rfl HT_ HW_ hHeld ?_; refine t10_ 27 147 rfl rfl HT_ HW_ hHeld ?_; refine pu_ 28 148 rfl rfl HT_ ?_; refine pu_ 29 149 rfl rfl HT_ ?_; refine pu_ 30 150 rfl rfl HT_ ?_; refine t10_ 31 151 rfl rfl HT_ HW_ hHeld ?_; refine t10_ 32 152 rfl rfl HT_ HW_ hHeld ?_; refine on_ 33 (some 153) rfl rfl HT_ (fun K hK => ?_); refine gs_ Tryz.func21 #[.agg #[.string t111, .string t112]] ?_; refine mo_ (r3_Neg.calls t111 t112 t131 t132 _ A52.out) ?_; intro w90 hb; replace BK106 := kb_ BK106 hb; replace BK110 := kb_ BK110 hb; replace BK114 := kb_ BK114 hb; replace BK119 := kb_ BK119 hb; replace BK123 := kb_ BK123 hb; replace BK128 := kb_ BK128 hb; replace HB := bs_ HB hb; (try clear hb); refine hk_ hK (fun hHeld => ?_); clear hK K; refine nm_ ?_; refine pu_ 34 154 rfl rfl HT_ ?_; refine pu_ 35 155 rfl rfl HT_ ?_; refine pu_ 36 6 rfl rfl HT_ ?_; refine done_ (done_of HT_.out (by kernel_rfl)) ?_
                     try go_wp2
                     go_ret
                     exact ⟨er_, b_ HB.out⟩
                    ·rw [if_neg c51] at H; exact absurd (H.trans (congrArg some hr_.out)) (by decide)
                   ·rw [if_neg c50] at H; exact absurd (H.trans (congrArg some hr_.out)) (by decide)
                  ·rw [if_neg c48] at H; exact absurd (H.trans (congrArg some hr_.out)) (by decide)
                 ·rw [if_neg c47] at H; exact absurd (H.trans (congrArg some hr_.out)) (by decide)
                ·rw [if_neg c46] at H; exact absurd (H.trans (congrArg some hr_.out)) (by decide)
               ·rw [if_neg c45] at H; exact absurd (H.trans (congrArg some hr_.out)) (by decide)
              ·rw [if_neg c44] at H; exact absurd (H.trans (congrArg some hr_.out)) (by decide)
             ·rw [if_neg c42] at H; exact absurd H (by simp)
            ·rw [if_neg c39] at H; exact absurd H (by simp)
           ·rw [if_neg c38] at H; exact absurd H (by simp)
          ·rw [if_neg c37] at H; exact absurd H (by simp)
         ·rw [if_neg c35] at H; exact absurd H (by simp)
        ·rw [if_neg c32] at H; exact absurd H (by simp)
       ·rw [if_neg c31] at H; exact absurd H (by simp)
end Go.Proofs.YtaldgaiaelbbaaaGreatDoor.LDecimalParts
end

section
namespace Go.Proofs.YtaldgaiaelbbaaaGreatDoor.LDecimalParts
end Go.Proofs.YtaldgaiaelbbaaaGreatDoor.LDecimalParts
end

section
namespace Go.Proofs.YtaldgaiaelbbaaaGreatDoor
theorem parts_end {x0 x1 : ByteArray} (hA : digL x0.data.toList = true) (hB : digL x1.data.toList = true) (l0 : x0.size ≤ 50) (l1 : x1.size ≤ 50) (n : Nat) (hn : n ≤ 50) (k : Nat) (i : Int) (hi : ¬ i < wrap64 ((x0.size : Int) + (x1.size : Int))) :
  LDecimalParts.dl4_DecimalParts.l0 (k + 1) x0 x1 (n : Int) i = some true := by
 simp only [LDecimalParts.dl4_DecimalParts.l0]
 have s0 := size_len x0
 have s1 := size_len x1
 have z46 : (⟨#[46]⟩ : ByteArray).size = 1 := rfl
 have z45 : (⟨#[45]⟩ : ByteArray).size = 1 := rfl
 have d46 : (⟨#[46]⟩ : ByteArray).data.toList = [46] := rfl
 have d45 : (⟨#[45]⟩ : ByteArray).data.toList = [45] := rfl
 have na := num_sz (head_dig' hA).1
 have nb := num_sz (head_dig' hB).1
 have p0 := dParseQ (s := x0) (by omega) (parse_digs hA (by omega))
 have p1 := dParseQ (s := x1) (by omega) (parse_digs hB (by omega))
 have t2 : ((x0 ++ (⟨#[46]⟩ : ByteArray)) ++ x1).data.toList = x0.data.toList ++ 46 :: x1.data.toList := by
  rw [Joins.data_append, Joins.data_append, d46, List.append_assoc]
  rfl
 have t3 : (((x0 ++ (⟨#[46]⟩ : ByteArray)) ++ x1) ++ zerosB (n : Int)).data.toList = x0.data.toList ++ 46 :: (x1.data.toList ++ List.replicate n 48) := by
  rw [Joins.data_append, t2, zerosB_list, Int.toNat_natCast, List.append_assoc]
  rfl
 have t4 : ((((⟨#[45]⟩ : ByteArray) ++ x0) ++ (⟨#[46]⟩ : ByteArray)) ++ x1).data.toList = 45 :: (x0.data.toList ++ 46 :: x1.data.toList) := by
  rw [Joins.data_append, Joins.data_append, Joins.data_append, d45, d46]
  simp only [List.append_assoc, List.cons_append, List.nil_append]
 have hq := parse_point hA hB (by omega)
 have hq2 := parse_point hA (dig_more hB n) (by rw [List.length_append, List.length_replicate]; omega)
 rw [point_zeros] at hq2
 have hq3 := parse_minus hA hB (by omega)
 have hs := point_sum x0.data.toList x1.data.toList
 generalize hz : Rat.divInt (num (x0.data.toList ++ x1.data.toList) : Int) ((10 ^ x1.data.toList.length : Nat) : Int) = z at *
 have p2 := dParseQ (s := (x0 ++ (⟨#[46]⟩ : ByteArray)) ++ x1) (by rw [ByteArray.size_append, ByteArray.size_append]; omega) (by rw [t2]; exact hq)
 have p3 := dParseQ (s := ((x0 ++ (⟨#[46]⟩ : ByteArray)) ++ x1) ++ zerosB (n : Int)) (by rw [ByteArray.size_append, ByteArray.size_append, ByteArray.size_append, zerosB_size]; omega) (by rw [t3]; exact hq2)
 have p4 := dParseQ (s := (((⟨#[45]⟩ : ByteArray) ++ x0) ++ (⟨#[46]⟩ : ByteArray)) ++ x1) (by rw [ByteArray.size_append, ByteArray.size_append, ByteArray.size_append]; omega) (by rw [t4]; exact hq3)
 have zq : szR z ≤ 300 := by
  have e := parse_sz (s := x0.data.toList ++ 46 :: x1.data.toList) (q := z) (by
   have h := hq
   unfold parseL at h
   split at h
   ·exact absurd h (by simp)
   ·exact h)
  rw [List.length_append, List.length_cons] at e
  omega
 have sA := szR_n (num x0.data.toList)
 have sB := szR_n (num x1.data.toList)
 have sT := szR_ten x1.data.toList.length
 have hne : (((10 ^ x1.data.toList.length : Nat) : Int) : Rat) ≠ 0 := by
  intro e
  have e0 : ((0 : Int) : Rat) = 0 := rfl
  rw [← e0, Rat.intCast_inj] at e
  exact tenI_ne _ e
 have sD := szR_div ((num x1.data.toList : Int) : Rat) hne
 have kd := kDiv (p := ((num x1.data.toList : Int) : Rat)) (q := (((10 ^ x1.data.toList.length : Nat) : Int) : Rat)) (by omega) (by omega) hne
 rw [rT_nat (10 ^ _)] at kd
 rw [if_neg hi, p0, Option.bind_some, p1, Option.bind_some, if_pos (by omega), if_pos (by rw [ByteArray.size_append]; omega), p2, Option.bind_some, eZeros (by omega), Option.bind_some, if_pos (by rw [ByteArray.size_append, ByteArray.size_append, zerosB_size]; omega), p3, Option.bind_some, if_pos (by omega), if_pos (by rw [ByteArray.size_append]; omega), if_pos (by rw [ByteArray.size_append, ByteArray.size_append]; omega), p4, Option.bind_some, eZeros (by omega), Option.bind_some, if_pos (by rw [zerosB_size]; omega), tenBB, s1, kd, Option.bind_some]
 dsimp only
 rw [if_pos rfl, if_pos rfl, if_pos rfl, if_pos rfl, if_pos rfl, kAdd (by omega) (by omega), Option.bind_some, ← hs, rT_beq, if_pos (decide_eq_true rfl), if_pos (decide_eq_true rfl), kNeg (by omega), Option.bind_some, rT_beq, decide_eq_true rfl]
theorem parts_loop {x0 x1 : ByteArray} (h0 : 1 ≤ x0.size) (h1 : 1 ≤ x1.size) (l0 : x0.size ≤ 50) (l1 : x1.size ≤ 50) (n : Nat) (hn : n ≤ 50) : ∀ (d i : Nat), i + d = x0.size + x1.size → ((x0.data.toList ++ x1.data.toList).take i).all isDig = true → ∀ k, d + 1 ≤ k →
  LDecimalParts.dl4_DecimalParts.l0 k x0 x1 (n : Int) (i : Int) = some true
 | 0, i, hi, ha, k, hk => by
  obtain ⟨k, rfl⟩ : ∃ m, k = m + 1 := ⟨k - 1, by omega⟩
  rw [List.take_of_length_le (by rw [List.length_append, ← size_len, ← size_len]; omega), List.all_append, Bool.and_eq_true] at ha
  have n0 : x0.data.toList ≠ [] := by
   intro e
   rw [size_len, e, List.length_nil] at h0
   omega
  have n1 : x1.data.toList ≠ [] := by
   intro e
   rw [size_len, e, List.length_nil] at h1
   omega
  have hA : digL x0.data.toList = true := by unfold digL; rw [ha.1, decide_eq_true n0]; rfl
  have hB : digL x1.data.toList = true := by unfold digL; rw [ha.2, decide_eq_true n1]; rfl
  exact parts_end hA hB l0 l1 n hn k _ (by rw [w64 (by omega) (by omega)]; omega)
 | d + 1, i, hi, ha, k, hk => by
  obtain ⟨k, rfl⟩ : ∃ m, k = m + 1 := ⟨k - 1, by omega⟩
  simp only [LDecimalParts.dl4_DecimalParts.l0]
  have hsz : (x0 ++ x1).size = x0.size + x1.size := ByteArray.size_append
  rw [if_pos (by rw [w64 (by omega) (by omega)]; omega), if_pos (by omega), if_pos (by omega), if_pos (by rw [hsz]; omega)]
  obtain ⟨c, hc, hb⟩ := bt_get (x0 ++ x1) i (by omega)
  rw [Joins.data_append] at hc
  rw [hb]
  by_cases c1 : (c.toNat : Int) < 48
  ·rw [if_pos c1]
  ·rw [if_neg c1]
   by_cases c2 : (c.toNat : Int) > 57
   ·rw [if_pos c2]
   ·have hd : isDig c = true := by simp [isDig]; omega
    have ha' : ((x0.data.toList ++ x1.data.toList).take (i + 1)).all isDig = true := by
     rw [List.take_add_one, hc, List.all_append, ha]
     simp [hd]
    rw [if_neg c2, w64 (by omega) (by omega), show ((i : Int) + 1) = ((i + 1 : Nat) : Int) by omega]
    exact parts_loop h0 h1 l0 l1 n hn d (i + 1) (by omega) ha' k (by omega)
theorem pureDecimalParts (a0 a1 : ByteArray) (a2 : Int) (w0 : a0.size ≤ 140737488351232) (w1 : a1.size ≤ 140737488351232) (w2 : (Lit.int .i64 a2).wf = true) : ∃ k : Nat, LDecimalParts.dl4_DecimalParts.f k a0 a1 a2 = some true := by
 refine ⟨101 + 1, ?_⟩
 unfold LDecimalParts.dl4_DecimalParts.f
 have hj : LDecimalParts.dl4_DecimalParts.j0 (101 + 1) a0 a1 a2 true = some true := by
  simp only [LDecimalParts.dl4_DecimalParts.j0]
  rfl
 rw [show dl4_fixed.f = some true from rfl, Option.bind_some, if_pos rfl]
 by_cases g0 : (a0.size : Int) > 50
 ·rw [if_pos g0]
  exact hj
 rw [if_neg g0]
 by_cases g1 : (a1.size : Int) > 50
 ·rw [if_pos g1]
  exact hj
 rw [if_neg g1]
 by_cases g2 : (a0.size : Int) = 0
 ·rw [if_pos g2]
  exact hj
 rw [if_neg g2]
 by_cases g3 : (a1.size : Int) = 0
 ·rw [if_pos g3]
  exact hj
 rw [if_neg g3]
 by_cases g4 : a2 < 0
 ·rw [if_pos g4]
  exact hj
 rw [if_neg g4]
 by_cases g5 : a2 > 50
 ·rw [decide_eq_true g5]
  exact hj
 rw [decide_eq_false g5]
 obtain ⟨n, rfl⟩ := Int.eq_ofNat_of_zero_le (show 0 ≤ a2 by omega)
 simp only [LDecimalParts.dl4_DecimalParts.j0]
 rw [if_neg (by decide)]
 exact parts_loop (by omega) (by omega) (by omega) (by omega) n (by omega) (a0.size + a1.size) 0 (by omega) rfl 101 (by omega)
end Go.Proofs.YtaldgaiaelbbaaaGreatDoor
end

section
namespace Go.Proofs.YtaldgaiaelbbaaaGreatDoor.decimalParts
open Go.ChangeShapes Go.WideShapes Go.ChangeAt Go.RowKit
open Go.ChangeMaps (open_string shut_string)
set_option maxRecDepth 100000 in
theorem lifted (os : Os) (started : os.Started) (H : Type) (enc : TypeId × Value → H) :
  ReturnsInHanded {} Tryz.checked os 6 .any (fun w args => (Rows.decimalPartsSpec.pre enc Tryz.prog Tryz.f6 Rows.decimalPartsRow.domain false w args ∧ laidMetH Tryz.prog laidL w) ∧ sizedMet enc Tryz.prog Tryz.f6 (OpenSpec.ofChange Rows.decimalPartsSpec) false w args)
   (Rows.decimalPartsSpec.post enc Tryz.prog Tryz.f6 false true false false) := by
 refine wrap_shaped (C := Tryz.checked) (X := fun w _ => laidMetH Tryz.prog laidL w) (fun _ _ _ hh h => h.of_heap hh) own started (by kernel_rfl) Tryz.func6
  (ChangeSpec.witness_shaped (enc := enc) (C := Tryz.checked) (os := os) (X := fun w _ => laidMetH Tryz.prog laidL w) false (World.laidAll Tryz.prog os laidL) #[.string ByteArray.empty, .string ByteArray.empty, .int .i64 0] 8 (World.laidAll_os _ _ _) (World.shaped_of_ZipB (by kernel_rfl) (by kernel_rfl)) (by kernel_rfl) (by kernel_rfl) (by kernel_rfl) (door_met os _)) ?_
 intro W base args ds gs before hval0 hW _ hsz0 hL hsh
 have hsz : (DataW.weightsEach Tryz.prog (Tryz.f6.params.toList ++ Rows.decimalPartsSpec.plain.varTypes Tryz.prog) (ds ++ gs)).all (· ≤ reachBytes) = true := hsz0
 have hval : ∀ (j : Nat) t v, Tryz.f6.params[j]? = some t → args[j]? = some v → Value.okWide Tryz.prog W .any base t v := hval0
 have hW' := hW
 obtain ⟨p, q, hA0, hV, rfl, hfz, hnd⟩ := hW
 have hA : DataW.TrodAll enc Tryz.prog W 0 (fun _ => true) true Tryz.f6.params.toList args.toList ds p := hA0
 rw [Tryz.params6] at hA hval hsz
 obtain ⟨v0, vs0, d0, ds0, p0, q0, hargs, rfl, rfl, h0, r0⟩ := trodAll_cons hA
 obtain ⟨v1, vs1, d1, ds1, p1, q1, rfl, rfl, rfl, h1, r1⟩ := trodAll_cons r0
 obtain ⟨v2, vs2, d2, ds2, p2, q2, rfl, rfl, rfl, h2, r2⟩ := trodAll_cons r1
 obtain ⟨rfl, rfl, rfl⟩ := trodAll_nil r2
 obtain rfl : args = #[v0, v1, v2] := by cases args; simp_all
 obtain ⟨rfl, rfl⟩ := trodVars_none hV
 obtain ⟨a0, rfl, rfl, rfl, y0⟩ := open_string Tryz.underlying9 (hval 0 9 v0 rfl rfl) h0
 have w0 : a0.size ≤ 140737488351232 := by
  have z := sized_string hsz (j := 0) (t := 9) rfl rfl
  rw [Array.length_toList] at z
  exact z
 obtain ⟨a1, rfl, rfl, rfl, y1⟩ := open_string Tryz.underlying9 (hval 1 9 v1 rfl rfl) h1
 have w1 : a1.size ≤ 140737488351232 := by
  have z := sized_string hsz (j := 1) (t := 9) rfl rfl
  rw [Array.length_toList] at z
  exact z
 obtain ⟨a2, rfl, rfl, rfl, w2⟩ := open_int Tryz.underlying3 (hval 2 3 v2 rfl rfl) h2
 clear hA0 hval0 hsz0 hsz
 obtain ⟨k, hf⟩ := pureDecimalParts a0 a1 a2 w0 w1 w2
 refine (LDecimalParts.dl4_DecimalParts.calls k a0 a1 a2 true W (laid_of hL hsh) ⟨rfl⟩ hf).mono fun e W' ⟨he, bel⟩ => ?_
 subst he
 exact ⟨_, rfl, _, _, _, [], _, [], hW', trodAll_mk1 (shut_bool Tryz.underlying4 _), (trodAll_cons_mk (shut_string Tryz.underlying9 y0) (trodAll_cons_mk (shut_string Tryz.underlying9 y1) (trodAll_cons_mk (shut_int Tryz.underlying3 w2) trodAll_mk0))), rfl, bel.frame _, fun h => by cases h⟩
theorem over : Rows.DecimalPartsSaid :=
 OpenClaim.holds_of_wide 6 Tryz.f6 rfl rfl rfl rfl rfl rfl rfl ⟨rfl, rfl, rfl, rfl, rfl⟩ rfl rfl rfl rfl rfl (by kernel_rfl) Tryz.func6 (by kernel_rfl)
  (of_decide_eq_true (by kernel_rfl)) (by unfold Func.isWrapper; first | (rw [if_pos (by decide +kernel)]; kernel_rfl) | (rw [if_neg (by decide +kernel)]; exact ⟨rfl, rfl⟩))
  (fun os started H enc _ => lifted os started H enc)
theorem proved : Rows.DecimalPartsCardSaid :=
 Claim7.holds_tied_plain_at .later [] [.data, .data, .data, .data, .sentinel, .sentinel, .pinned] true (true, "7cb6501bafc06cc91aafe2374194aa0798d8fb540c1ff8bc3088fb97c665b41a") true
  over (fun _ h => by cases h) (by kernel_rfl) (fun _ h => by cases h) decimalParts_row_tie rfl ⟨rfl, rfl⟩ (by kernel_rfl) rfl
  (fun f fn hf hfn => by
   obtain rfl : f = 6 := Option.some.inj ((show Tryz.prog.funcNamed "debenture/debenturelaw04.DecimalParts" = some 6 by kernel_rfl).symm.trans hf) |>.symm
   obtain rfl : fn = Tryz.f6 := (Option.some.inj (Tryz.func6.symm.trans hfn)).symm
   exact ⟨by kernel_rfl, fun j t ht => by
    rw [Tryz.params6] at ht
    have hm : t ∈ [9, 9, 3] := by simpa using Array.mem_of_getElem? ht
    have hall : ([9, 9, 3].all fun u => !Tryz.prog.wantsStandIn u) = true := by kernel_rfl
    exact (show Tryz.prog.wantsStandIn t = false by simpa using List.all_eq_true.1 hall t hm)⟩)
  (by kernel_rfl)
end Go.Proofs.YtaldgaiaelbbaaaGreatDoor.decimalParts
namespace Go.Proofs.YtaldgaiaelbbaaaGreatDoor
theorem decimalParts_holds : Rows.DecimalPartsCardSaid := decimalParts.proved
#print axioms decimalParts_holds
end Go.Proofs.YtaldgaiaelbbaaaGreatDoor
end
