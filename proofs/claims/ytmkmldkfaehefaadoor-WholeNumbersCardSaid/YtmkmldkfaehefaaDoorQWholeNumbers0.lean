/-
The law WholeNumbers holds at every input: its row, and its card, tied to the program's text. Conditions: none beyond the given row's own.
Parts of the proof, in build order: LWholeNumbers0, LWholeNumbers1, LWholeNumbers, PuWholeNumbers, RowWholeNumbers.
-/
import Derived.Test.YtmkmldkfaehefaaDoorProg
import Derived.Below
import Derived.Deep.Draws
import Derived.Deep.AppendLies
import Derived.Maps.AppendAt
import Derived.OwnWalk
import Derived.Laws.BytesArg
import Derived.Laws.MakeOwn
import Derived.Laws.OwnMore
import Derived.Deep.OwnRows
import Derived.Tactics
import Derived.Lib.ConvBytes
import Derived.Laws.Slices
import Derived.WalkKit
import Derived.KernelRfl
import Derived.RowKit3
import Derived.Deep.LoopGhost
import Derived.Deep.QuietTactic
import Derived.BigQuiet
import Derived.WideLaws
import Derived.Deep.DeepCutAuto
import Derived.Deep.CutBlock
import Derived.Deep.RegionHeld3
import Derived.Laws.Rows
import Derived.Lib.AppendStr
import Derived.ArgAppend
import Derived.Laws.IdiomCopy
import Derived.OrdersHeld
import Derived.Laws.BitsLemmas
import Derived.RowKit
import Derived.Test.YtmkmldkfaehefaaDoorC0
import Derived.Test.YtmkmldkfaehefaaDoorC6
import Derived.Test.YtmkmldkfaehefaaDoorC4
import Derived.Test.YtmkmldkfaehefaaDoorTie
import Derived.Test.YtmkmldkfaehefaaDoorCards
import Derived.SevenTiedAt
-- Written by wip/pp.py of this place (over the kit's print) out of the translation.
section
namespace Go.Proofs.YtmkmldkfaehefaaDoor.LWholeNumbers
open Go.RowKit Go.Proofs.YtmkmldkfaehefaaDoorW.PrintWords Go.Proofs.YtmkmldkfaehefaaDoorW.PrintLast Go.Proofs.YtmkmldkfaehefaaDoorW.PrintMore
attribute [local go_sem] max2_int min2_int max_two min_two max_three min_three max_four min_four   -- for this text's walks alone
set_option linter.unusedVariables false
set_option linter.unusedSimpArgs false

def errW : Option Int → Value
 | none => .nilIface
 | some c => .iface 0 (.int .i64 c)
theorem errW_none : errW none = .nilIface := rfl
theorem errW_some (c : Int) : errW (some c) = .iface 0 (.int .i64 c) := rfl

-- the values' own types

end Go.Proofs.YtmkmldkfaehefaaDoor.LWholeNumbers

end

-- Written by wip/pp.py of this place (over the kit's print) out of the translation.
section
namespace Go.Proofs.YtmkmldkfaehefaaDoor.LWholeNumbers
open Go.RowKit Go.Proofs.YtmkmldkfaehefaaDoorW.PrintWords Go.Proofs.YtmkmldkfaehefaaDoorW.PrintLast Go.Proofs.YtmkmldkfaehefaaDoorW.PrintMore
attribute [local go_sem] max2_int min2_int max_two min_two max_three min_three max_four min_four   -- for this text's walks alone
set_option linter.unusedVariables false
set_option linter.unusedSimpArgs false

-- walked by hand: function 8 (debenturelaw02_fixed)

-- walked by hand: function 11 (whole_Add)

-- walked by hand: function 12 (whole_Mul)

-- walked by hand: function 13 (whole_Sub)

-- walked by hand: function 14 (whole_Neg)

-- walked by hand: function 17 (whole_Cmp)

-- walked by hand: function 18 (whole_Abs)

-- walked by hand: function 19 (whole_Of)

mutual
def debenturelaw02_WholeNumbers.j0 : Nat → Int → Int → Bool → Option (Bool)
 | 0, _, _, _ => none
 | k + 1, x0, x1, x25 => if x25 = true then ((debenturelaw02_fixed.f).bind fun t102 => (some t102)) else ((whole_Of.f x0).bind fun t103 => ((whole_Of.f x1).bind fun t104 => (if x0 < x1 then (debenturelaw02_WholeNumbers.j1 k x0 x1 t103 t104 (-1)) else (debenturelaw02_WholeNumbers.j1 k x0 x1 t103 t104 0))))
def debenturelaw02_WholeNumbers.j1 : Nat → Int → Int → ByteArray → ByteArray → Int → Option (Bool)
 | 0, _, _, _, _, _ => none
 | k + 1, x0, x1, x5, x6, x7 => if x0 > x1 then (debenturelaw02_WholeNumbers.j2 k x0 x1 x5 x6 1) else (debenturelaw02_WholeNumbers.j2 k x0 x1 x5 x6 x7)
def debenturelaw02_WholeNumbers.j2 : Nat → Int → Int → ByteArray → ByteArray → Int → Option (Bool)
 | 0, _, _, _, _, _ => none
 | k + 1, x0, x1, x5, x6, x7 => (whole_Add.f x5 x6).bind fun t105 => ((whole_Of.f (wrap64 (x0 + x1))).bind fun t106 => (if t105.toList = t106.toList then ((whole_Sub.f x5 x6).bind fun t107 => ((whole_Of.f (wrap64 (x0 - x1))).bind fun t108 => (if t107.toList = t108.toList then ((whole_Mul.f x5 x6).bind fun t109 => ((whole_Of.f (wrap64 (x0 * x1))).bind fun t110 => (if t109.toList = t110.toList then ((whole_Cmp.f x5 x6).bind fun t111 => (if t111 = x7 then ((whole_Neg.f x5).bind fun t112 => ((whole_Of.f (wrap64 (-x0))).bind fun t113 => (if t112.toList = t113.toList then ((whole_Abs.f x5).bind fun t114 => ((whole_Of.f (mx x0 (wrap64 (-x0)))).bind fun t115 => (some (t114.toList == t115.toList)))) else (some false)))) else (some false))) else (some false)))) else (some false)))) else (some false)))
end
def debenturelaw02_WholeNumbers.f (k : Nat) (a0 : Int) (a1 : Int) : Option (Bool) := (debenturelaw02_fixed.f).bind fun t101 => (if t101 = true then (if a0 < (-1073741824) then (debenturelaw02_WholeNumbers.j0 k a0 a1 true) else (if a1 < (-1073741824) then (debenturelaw02_WholeNumbers.j0 k a0 a1 true) else (if a0 > 1073741824 then (debenturelaw02_WholeNumbers.j0 k a0 a1 true) else (debenturelaw02_WholeNumbers.j0 k a0 a1 (decide (a1 > 1073741824)))))) else (debenturelaw02_WholeNumbers.j0 k a0 a1 true))
set_option maxHeartbeats 8000000 in
set_option maxRecDepth 100000 in
theorem debenturelaw02_WholeNumbers.calls (k : Nat) (a0 : Int) (a1 : Int) (r : Bool) (w : World) (hL_ : Laid w) (hr_ : Aside0 (r = true)) (h : debenturelaw02_WholeNumbers.f k a0 a1 = some r) :
  Calls Tryd.prog 6 #[.int .i64 a0, .int .i64 a1] w fun e w' => e = .returned (.bool r) ∧ Below w.heap.size w w' := by
 have HLD := Aside0.mk hL_
 clear hL_
 have HB := Aside0.mk (Below.refl w.heap.size w)
 have H : ((debenturelaw02_fixed.f).bind fun t101 => (if t101 = true then (if a0 < (-1073741824) then (debenturelaw02_WholeNumbers.j0 k a0 a1 true) else (if a1 < (-1073741824) then (debenturelaw02_WholeNumbers.j0 k a0 a1 true) else (if a0 > 1073741824 then (debenturelaw02_WholeNumbers.j0 k a0 a1 true) else (debenturelaw02_WholeNumbers.j0 k a0 a1 (decide (a1 > 1073741824)))))) else (debenturelaw02_WholeNumbers.j0 k a0 a1 true))) = some r := h
 clear h
 have HC3 := Aside0.mk H
 clear H
 go_enter Tryd.func6, Tryd.ntmps6
 go_upto_region 1 with (fail)
 go_cut [25] (fun v25 wc => ∃ (kq : Nat) (x25_2 : Bool), v25 = .bool x25_2 ∧ Aside0 (debenturelaw02_WholeNumbers.j0 kq a0 a1 x25_2 = some r) ∧ Aside0 (kq ≤ k) ∧ Aside0 (Below w.heap.size w wc))
 case first =>
  have H := HC3.out
  clear HC3
  replace H := Option.bind_eq_some_iff.mp H
  obtain ⟨t101, A40, H⟩ := H
  replace H : (if t101 = true then (if a0 < (-1073741824) then (debenturelaw02_WholeNumbers.j0 k a0 a1 true) else (if a1 < (-1073741824) then (debenturelaw02_WholeNumbers.j0 k a0 a1 true) else (if a0 > 1073741824 then (debenturelaw02_WholeNumbers.j0 k a0 a1 true) else (debenturelaw02_WholeNumbers.j0 k a0 a1 (decide (a1 > 1073741824)))))) else (debenturelaw02_WholeNumbers.j0 k a0 a1 true)) = some r := H
  have A4 := Aside0.mk A40
  clear A40
  by_cases c5 : t101 = true
  ·subst c5
   have H1 : (if a0 < (-1073741824) then (debenturelaw02_WholeNumbers.j0 k a0 a1 true) else (if a1 < (-1073741824) then (debenturelaw02_WholeNumbers.j0 k a0 a1 true) else (if a0 > 1073741824 then (debenturelaw02_WholeNumbers.j0 k a0 a1 true) else (debenturelaw02_WholeNumbers.j0 k a0 a1 (decide (a1 > 1073741824)))))) = some r := by rw [if_pos rfl] at H; exact H
   clear H
   have H := H1
   clear H1
   by_cases c6 : a0 < (-1073741824)
   ·rw [if_pos c6] at H
    have c6b0 : decide (a0 < (-1073741824)) = true := decide_eq_true c6
    clear c6
    (first | rw [c6b0] | (simp only [i64_w, i32_w]; rw [c6b0]) | skip)
    have H' := Aside0.mk H
    clear H
    go_wp2_with (first | ((with_reducible refine gate_callee (f := 8) rfl ?_); refine goesL_ (some 8) rfl rfl Tryd.func8 (by kernel_rfl) rfl #[] rfl (by (try simp only [List.map_toArray, List.map_cons, List.map_nil]); first | done | rfl | (simp only [List.length_drop, List.length_take]; rfl)) ?_; (with_reducible refine (debenturelaw02_fixed.calls  true _ ?side1 A4.out).mono ?_); (case side1 => exact Laid.below HLD.out (by repeat (first | (with_reducible first | exact HB.out | apply below_alloc | apply pw_below_drewN | apply below_drew1) | exact HB.out))); rintro e w7 ⟨rfl, hb⟩; refine ⟨_, rfl, ?_⟩; have n0_ := Aside0.mk (below_step (by repeat (first | (with_reducible first | exact HB.out | apply below_alloc | apply pw_below_drewN | apply below_drew1) | exact HB.out)) hb); clear HB; have HB := n0_; clear n0_; (try clear hb); (try clear hb2); (try clear hk); (try clear hi)))
    go_meet
    case rel => exact ⟨_, (true), (by first | rfl | (simp; done) | (simp [*]; done)), H', ⟨by first | omega | exact Nat.le_refl _⟩, ⟨by repeat (first | (with_reducible first | exact HB.out | apply below_alloc | apply pw_below_drewN | apply below_drew1) | exact HB.out)⟩⟩
   ·rw [if_neg c6] at H
    have c6b0 : decide (a0 < (-1073741824)) = false := decide_eq_false c6
    clear c6
    (first | rw [c6b0] | (simp only [i64_w, i32_w]; rw [c6b0]) | skip)
    by_cases c8 : a1 < (-1073741824)
    ·rw [if_pos c8] at H
     have c8b0 : decide (a1 < (-1073741824)) = true := decide_eq_true c8
     clear c8
     have H' := Aside0.mk H
     clear H
     go_wp2_with (first | ((with_reducible refine gate_callee (f := 8) rfl ?_); refine goesL_ (some 8) rfl rfl Tryd.func8 (by kernel_rfl) rfl #[] rfl (by (try simp only [List.map_toArray, List.map_cons, List.map_nil]); first | done | rfl | (simp only [List.length_drop, List.length_take]; rfl)) ?_; (with_reducible refine (debenturelaw02_fixed.calls  true _ ?side1 A4.out).mono ?_); (case side1 => exact Laid.below HLD.out (by repeat (first | (with_reducible first | exact HB.out | apply below_alloc | apply pw_below_drewN | apply below_drew1) | exact HB.out))); rintro e w9 ⟨rfl, hb⟩; refine ⟨_, rfl, ?_⟩; have n0_ := Aside0.mk (below_step (by repeat (first | (with_reducible first | exact HB.out | apply below_alloc | apply pw_below_drewN | apply below_drew1) | exact HB.out)) hb); clear HB; have HB := n0_; clear n0_; (try clear hb); (try clear hb2); (try clear hk); (try clear hi)))
     go_meet
     case rel => exact ⟨_, (true), (by first | rfl | (simp; done) | (simp [*]; done)), H', ⟨by first | omega | exact Nat.le_refl _⟩, ⟨by repeat (first | (with_reducible first | exact HB.out | apply below_alloc | apply pw_below_drewN | apply below_drew1) | exact HB.out)⟩⟩
    ·rw [if_neg c8] at H
     have c8b0 : decide (a1 < (-1073741824)) = false := decide_eq_false c8
     clear c8
     by_cases c10 : a0 > 1073741824
     ·rw [if_pos c10] at H
      have c10b0 : decide (1073741824 < a0) = true := decide_eq_true c10
      clear c10
      have H' := Aside0.mk H
      clear H
      go_wp2_with (first | ((with_reducible refine gate_callee (f := 8) rfl ?_); refine goesL_ (some 8) rfl rfl Tryd.func8 (by kernel_rfl) rfl #[] rfl (by (try simp only [List.map_toArray, List.map_cons, List.map_nil]); first | done | rfl | (simp only [List.length_drop, List.length_take]; rfl)) ?_; (with_reducible refine (debenturelaw02_fixed.calls  true _ ?side1 A4.out).mono ?_); (case side1 => exact Laid.below HLD.out (by repeat (first | (with_reducible first | exact HB.out | apply below_alloc | apply pw_below_drewN | apply below_drew1) | exact HB.out))); rintro e w11 ⟨rfl, hb⟩; refine ⟨_, rfl, ?_⟩; have n0_ := Aside0.mk (below_step (by repeat (first | (with_reducible first | exact HB.out | apply below_alloc | apply pw_below_drewN | apply below_drew1) | exact HB.out)) hb); clear HB; have HB := n0_; clear n0_; (try clear hb); (try clear hb2); (try clear hk); (try clear hi)))
      go_meet
      case rel => exact ⟨_, (true), (by first | rfl | (simp; done) | (simp [*]; done)), H', ⟨by first | omega | exact Nat.le_refl _⟩, ⟨by repeat (first | (with_reducible first | exact HB.out | apply below_alloc | apply pw_below_drewN | apply below_drew1) | exact HB.out)⟩⟩
     ·rw [if_neg c10] at H
      have c10b0 : decide (1073741824 < a0) = false := decide_eq_false c10
      clear c10
      have H' := Aside0.mk H
      clear H
      go_wp2_with (first | ((with_reducible refine gate_callee (f := 8) rfl ?_); refine goesL_ (some 8) rfl rfl Tryd.func8 (by kernel_rfl) rfl #[] rfl (by (try simp only [List.map_toArray, List.map_cons, List.map_nil]); first | done | rfl | (simp only [List.length_drop, List.length_take]; rfl)) ?_; (with_reducible refine (debenturelaw02_fixed.calls  true _ ?side1 A4.out).mono ?_); (case side1 => exact Laid.below HLD.out (by repeat (first | (with_reducible first | exact HB.out | apply below_alloc | apply pw_below_drewN | apply below_drew1) | exact HB.out))); rintro e w12 ⟨rfl, hb⟩; refine ⟨_, rfl, ?_⟩; have n0_ := Aside0.mk (below_step (by repeat (first | (with_reducible first | exact HB.out | apply below_alloc | apply pw_below_drewN | apply below_drew1) | exact HB.out)) hb); clear HB; have HB := n0_; clear n0_; (try clear hb); (try clear hb2); (try clear hk); (try clear hi)))
      go_meet
      case rel => exact ⟨_, (decide (a1 > 1073741824)), (by first | rfl | (simp; done) | (simp [*]; done)), H', ⟨by first | omega | exact Nat.le_refl _⟩, ⟨by repeat (first | (with_reducible first | exact HB.out | apply below_alloc | apply pw_below_drewN | apply below_drew1) | exact HB.out)⟩⟩
  ·replace c5 := Bool.eq_false_iff.mpr c5
   subst c5
   have H1 : (debenturelaw02_WholeNumbers.j0 k a0 a1 true) = some r := by rw [if_neg (show ¬ (false = true) by decide)] at H; exact H
   clear H
   have H := H1
   clear H1
   have H' := Aside0.mk H
   clear H
   go_wp2_with (first | ((with_reducible refine gate_callee (f := 8) rfl ?_); refine goesL_ (some 8) rfl rfl Tryd.func8 (by kernel_rfl) rfl #[] rfl (by (try simp only [List.map_toArray, List.map_cons, List.map_nil]); first | done | rfl | (simp only [List.length_drop, List.length_take]; rfl)) ?_; (with_reducible refine (debenturelaw02_fixed.calls  false _ ?side1 A4.out).mono ?_); (case side1 => exact Laid.below HLD.out (by repeat (first | (with_reducible first | exact HB.out | apply below_alloc | apply pw_below_drewN | apply below_drew1) | exact HB.out))); rintro e w13 ⟨rfl, hb⟩; refine ⟨_, rfl, ?_⟩; have n0_ := Aside0.mk (below_step (by repeat (first | (with_reducible first | exact HB.out | apply below_alloc | apply pw_below_drewN | apply below_drew1) | exact HB.out)) hb); clear HB; have HB := n0_; clear n0_; (try clear hb); (try clear hb2); (try clear hk); (try clear hi)))
   go_meet
   case rel => exact ⟨_, (true), (by first | rfl | (simp; done) | (simp [*]; done)), H', ⟨by first | omega | exact Nat.le_refl _⟩, ⟨by repeat (first | (with_reducible first | exact HB.out | apply below_alloc | apply pw_below_drewN | apply below_drew1) | exact HB.out)⟩⟩
 case rest =>
  clear HC3
  try clear c1
  try clear p2
  try clear c5
  try clear c6
  try clear c6b0
  try clear c8
  try clear c8b0
  try clear c10
  try clear c10b0
  obtain ⟨kq, x25_2, rfl, HA, HJ2, HB⟩ := hcut
  cases kq with
  | zero => exact absurd HA.out (by simp [debenturelaw02_WholeNumbers.j0])
  | succ kj2 =>
   have H := HA.out
   clear HA
   simp only [debenturelaw02_WholeNumbers.j0] at H
   by_cases c14 : x25_2 = true
   ·subst c14
    have H1 : ((debenturelaw02_fixed.f).bind fun t102 => (some t102)) = some r := by rw [if_pos rfl] at H; exact H
    clear H
    have H := H1
    clear H1
    replace H := Option.bind_eq_some_iff.mp H
    obtain ⟨t102, A150, H⟩ := H
    replace H : (some t102) = some r := H
    have A15 := Aside0.mk A150
    clear A150
    obtain rfl := Option.some.inj H
    go_wp2_with (first | ((with_reducible refine gate_callee (f := 8) rfl ?_); refine goesL_ (some 26) rfl rfl Tryd.func8 (by kernel_rfl) rfl #[] rfl (by (try simp only [List.map_toArray, List.map_cons, List.map_nil]); first | done | rfl | (simp only [List.length_drop, List.length_take]; rfl)) ?_; (with_reducible refine (debenturelaw02_fixed.calls  t102 _ ?side1 A15.out).mono ?_); (case side1 => exact Laid.below HLD.out (by repeat (first | (with_reducible first | exact HB.out | apply below_alloc | apply pw_below_drewN | apply below_drew1) | exact HB.out))); rintro e w16 ⟨rfl, hb⟩; refine ⟨_, rfl, ?_⟩; have n0_ := Aside0.mk (below_step (by repeat (first | (with_reducible first | exact HB.out | apply below_alloc | apply pw_below_drewN | apply below_drew1) | exact HB.out)) hb); clear HB; have HB := n0_; clear n0_; (try clear hb); (try clear hb2); (try clear hk); (try clear hi)))
    go_ret
    exact ⟨by first | rfl | (simp [errW_none, errW_some] <;> rfl) | (simp [*, errW_none, errW_some] <;> rfl), by repeat (first | (with_reducible first | exact HB.out | apply below_alloc | apply pw_below_drewN | apply below_drew1) | exact HB.out)⟩
   ·replace c14 := Bool.eq_false_iff.mpr c14
    subst c14
    have H1 : ((whole_Of.f a0).bind fun t103 => ((whole_Of.f a1).bind fun t104 => (if a0 < a1 then (debenturelaw02_WholeNumbers.j1 kj2 a0 a1 t103 t104 (-1)) else (debenturelaw02_WholeNumbers.j1 kj2 a0 a1 t103 t104 0)))) = some r := by rw [if_neg (show ¬ (false = true) by decide)] at H; exact H
    clear H
    have H := H1
    clear H1
    replace H := Option.bind_eq_some_iff.mp H
    obtain ⟨t103, A170, H⟩ := H
    replace H : ((whole_Of.f a1).bind fun t104 => (if a0 < a1 then (debenturelaw02_WholeNumbers.j1 kj2 a0 a1 t103 t104 (-1)) else (debenturelaw02_WholeNumbers.j1 kj2 a0 a1 t103 t104 0))) = some r := H
    have A17 := Aside0.mk A170
    clear A170
    replace H := Option.bind_eq_some_iff.mp H
    obtain ⟨t104, A180, H⟩ := H
    replace H : (if a0 < a1 then (debenturelaw02_WholeNumbers.j1 kj2 a0 a1 t103 t104 (-1)) else (debenturelaw02_WholeNumbers.j1 kj2 a0 a1 t103 t104 0)) = some r := H
    have A18 := Aside0.mk A180
    clear A180
    have HC19 := Aside0.mk H
    clear H
    go_upto_if 33 with (first | ((with_reducible refine gate_callee (f := 19) rfl ?_); refine goesL_ (some 28) rfl rfl Tryd.func19 (by kernel_rfl) rfl #[.int .i64 a0] rfl (by (try simp only [List.map_toArray, List.map_cons, List.map_nil]); first | done | rfl | (simp only [List.length_drop, List.length_take]; rfl)) ?_; (with_reducible refine (whole_Of.calls a0 t103 _ ?side1 A17.out).mono ?_); (case side1 => exact Laid.below HLD.out (by repeat (first | (with_reducible first | exact HB.out | apply below_alloc | apply pw_below_drewN | apply below_drew1) | exact HB.out))); rintro e w20 ⟨rfl, hb⟩; refine ⟨_, rfl, ?_⟩; have n0_ := Aside0.mk (below_step (by repeat (first | (with_reducible first | exact HB.out | apply below_alloc | apply pw_below_drewN | apply below_drew1) | exact HB.out)) hb); clear HB; have HB := n0_; clear n0_; (try clear hb); (try clear hb2); (try clear hk); (try clear hi)) | ((with_reducible refine gate_callee (f := 19) rfl ?_); refine goesL_ (some 30) rfl rfl Tryd.func19 (by kernel_rfl) rfl #[.int .i64 a1] rfl (by (try simp only [List.map_toArray, List.map_cons, List.map_nil]); first | done | rfl | (simp only [List.length_drop, List.length_take]; rfl)) ?_; (with_reducible refine (whole_Of.calls a1 t104 _ ?side1 A18.out).mono ?_); (case side1 => exact Laid.below HLD.out (by repeat (first | (with_reducible first | exact HB.out | apply below_alloc | apply pw_below_drewN | apply below_drew1) | exact HB.out))); rintro e w21 ⟨rfl, hb⟩; refine ⟨_, rfl, ?_⟩; have n0_ := Aside0.mk (below_step (by repeat (first | (with_reducible first | exact HB.out | apply below_alloc | apply pw_below_drewN | apply below_drew1) | exact HB.out)) hb); clear HB; have HB := n0_; clear n0_; (try clear hb); (try clear hb2); (try clear hk); (try clear hi)))
    (try simp only [Act.put, List.setIfInBounds_toArray, List.set_cons_zero, List.set_cons_succ])
    go_cut [7] (fun v7 wc => ∃ (kq : Nat) (x7_18 : Int), v7 = .int .i64 x7_18 ∧ Aside0 (debenturelaw02_WholeNumbers.j1 kq a0 a1 t103 t104 x7_18 = some r) ∧ Aside0 (kq ≤ kj2) ∧ Aside0 (Below w.heap.size w wc))
    case first =>
     have H := HC19.out
     clear HC19
     by_cases c22 : a0 < a1
     ·rw [if_pos c22] at H
      have c22b0 : decide (a0 < a1) = true := decide_eq_true c22
      clear c22
      (first | rw [c22b0] | (simp only [i64_w, i32_w]; rw [c22b0]) | skip)
      have H' := Aside0.mk H
      clear H
      go_wp2
      go_meet
      case rel => exact ⟨_, ((-1)), (by first | rfl | (simp; done) | (simp [*]; done)), H', ⟨by have := HJ2.out; first | omega | exact Nat.le_refl _⟩, ⟨by repeat (first | (with_reducible first | exact HB.out | apply below_alloc | apply pw_below_drewN | apply below_drew1) | exact HB.out)⟩⟩
     ·rw [if_neg c22] at H
      have c22b0 : decide (a0 < a1) = false := decide_eq_false c22
      clear c22
      (first | rw [c22b0] | (simp only [i64_w, i32_w]; rw [c22b0]) | skip)
      have H' := Aside0.mk H
      clear H
      go_wp2
      go_meet
      case rel => exact ⟨_, (0), (by first | rfl | (simp; done) | (simp [*]; done)), H', ⟨by have := HJ2.out; first | omega | exact Nat.le_refl _⟩, ⟨by repeat (first | (with_reducible first | exact HB.out | apply below_alloc | apply pw_below_drewN | apply below_drew1) | exact HB.out)⟩⟩
    case rest =>
     clear HC19
     try clear c1
     try clear c2
     try clear p2
     try clear c5
     try clear c6
     try clear c6b0
     try clear c8
     try clear c8b0
     try clear c10
     try clear c10b0
     try clear c14
     try clear c19
     try clear c22
     try clear c22b0
     try clear p2
     obtain ⟨kq, x7_18, rfl, HA, HJ18, HB⟩ := hcut
     cases kq with
     | zero => exact absurd HA.out (by simp [debenturelaw02_WholeNumbers.j1])
     | succ kj18 =>
      have H := HA.out
      clear HA
      simp only [debenturelaw02_WholeNumbers.j1] at H
      have HC23 := Aside0.mk H
      clear H
      go_upto_if 36 with (fail)
      go_cut [7] (fun v7 wc => ∃ (kq : Nat) (x7_22 : Int), v7 = .int .i64 x7_22 ∧ Aside0 (debenturelaw02_WholeNumbers.j2 kq a0 a1 t103 t104 x7_22 = some r) ∧ Aside0 (kq ≤ kj18) ∧ Aside0 (Below w.heap.size w wc))
      case first =>
       have H := HC23.out
       clear HC23
       by_cases c24 : a0 > a1
       ·rw [if_pos c24] at H
        have c24b0 : decide (a1 < a0) = true := decide_eq_true c24
        clear c24
        (first | rw [c24b0] | (simp only [i64_w, i32_w]; rw [c24b0]) | skip)
        have H' := Aside0.mk H
        clear H
        go_wp2
        go_meet
        case rel => exact ⟨_, (1), (by first | rfl | (simp; done) | (simp [*]; done)), H', ⟨by have := HJ2.out; have := HJ18.out; first | omega | exact Nat.le_refl _⟩, ⟨by repeat (first | (with_reducible first | exact HB.out | apply below_alloc | apply pw_below_drewN | apply below_drew1) | exact HB.out)⟩⟩
       ·rw [if_neg c24] at H
        have c24b0 : decide (a1 < a0) = false := decide_eq_false c24
        clear c24
        (first | rw [c24b0] | (simp only [i64_w, i32_w]; rw [c24b0]) | skip)
        have H' := Aside0.mk H
        clear H
        go_wp2
        go_meet
        case rel => exact ⟨_, (x7_18), (by first | rfl | (simp; done) | (simp [*]; done)), H', ⟨by have := HJ2.out; have := HJ18.out; first | omega | exact Nat.le_refl _⟩, ⟨by repeat (first | (with_reducible first | exact HB.out | apply below_alloc | apply pw_below_drewN | apply below_drew1) | exact HB.out)⟩⟩
      case rest =>
       clear HC23
       try clear c1
       try clear c2
       try clear p2
       try clear c5
       try clear c6
       try clear c6b0
       try clear c8
       try clear c8b0
       try clear c10
       try clear c10b0
       try clear c14
       try clear c19
       try clear c22
       try clear c22b0
       try clear c24
       try clear c24b0
       try clear p2
       obtain ⟨kq, x7_22, rfl, HA, HJ22, HB⟩ := hcut
       cases kq with
       | zero => exact absurd HA.out (by simp [debenturelaw02_WholeNumbers.j2])
       | succ kj22 =>
        have H := HA.out
        clear HA
        simp only [debenturelaw02_WholeNumbers.j2] at H
        replace H := Option.bind_eq_some_iff.mp H
        obtain ⟨t105, A250, H⟩ := H
        replace H : ((whole_Of.f (wrap64 (a0 + a1))).bind fun t106 => (if t105.toList = t106.toList then ((whole_Sub.f t103 t104).bind fun t107 => ((whole_Of.f (wrap64 (a0 - a1))).bind fun t108 => (if t107.toList = t108.toList then ((whole_Mul.f t103 t104).bind fun t109 => ((whole_Of.f (wrap64 (a0 * a1))).bind fun t110 => (if t109.toList = t110.toList then ((whole_Cmp.f t103 t104).bind fun t111 => (if t111 = x7_22 then ((whole_Neg.f t103).bind fun t112 => ((whole_Of.f (wrap64 (-a0))).bind fun t113 => (if t112.toList = t113.toList then ((whole_Abs.f t103).bind fun t114 => ((whole_Of.f (mx a0 (wrap64 (-a0)))).bind fun t115 => (some (t114.toList == t115.toList)))) else (some false)))) else (some false))) else (some false)))) else (some false)))) else (some false))) = some r := H
        have A25 := Aside0.mk A250
        clear A250
        replace H := Option.bind_eq_some_iff.mp H
        obtain ⟨t106, A260, H⟩ := H
        replace H : (if t105.toList = t106.toList then ((whole_Sub.f t103 t104).bind fun t107 => ((whole_Of.f (wrap64 (a0 - a1))).bind fun t108 => (if t107.toList = t108.toList then ((whole_Mul.f t103 t104).bind fun t109 => ((whole_Of.f (wrap64 (a0 * a1))).bind fun t110 => (if t109.toList = t110.toList then ((whole_Cmp.f t103 t104).bind fun t111 => (if t111 = x7_22 then ((whole_Neg.f t103).bind fun t112 => ((whole_Of.f (wrap64 (-a0))).bind fun t113 => (if t112.toList = t113.toList then ((whole_Abs.f t103).bind fun t114 => ((whole_Of.f (mx a0 (wrap64 (-a0)))).bind fun t115 => (some (t114.toList == t115.toList)))) else (some false)))) else (some false))) else (some false)))) else (some false)))) else (some false)) = some r := H
        have A26 := Aside0.mk A260
        clear A260
        by_cases c27 : t105.toList = t106.toList
        ·rw [if_pos c27] at H
         have c27b0 : (t105.toList == t106.toList) = true := beq_iff_eq.mpr c27
         have c27b1 : (t105.toList != t106.toList) = false := bne_eq_false_iff_eq.mpr c27
         clear c27
         replace H := Option.bind_eq_some_iff.mp H
         obtain ⟨t107, A280, H⟩ := H
         replace H : ((whole_Of.f (wrap64 (a0 - a1))).bind fun t108 => (if t107.toList = t108.toList then ((whole_Mul.f t103 t104).bind fun t109 => ((whole_Of.f (wrap64 (a0 * a1))).bind fun t110 => (if t109.toList = t110.toList then ((whole_Cmp.f t103 t104).bind fun t111 => (if t111 = x7_22 then ((whole_Neg.f t103).bind fun t112 => ((whole_Of.f (wrap64 (-a0))).bind fun t113 => (if t112.toList = t113.toList then ((whole_Abs.f t103).bind fun t114 => ((whole_Of.f (mx a0 (wrap64 (-a0)))).bind fun t115 => (some (t114.toList == t115.toList)))) else (some false)))) else (some false))) else (some false)))) else (some false))) = some r := H
         have A28 := Aside0.mk A280
         clear A280
         replace H := Option.bind_eq_some_iff.mp H
         obtain ⟨t108, A290, H⟩ := H
         replace H : (if t107.toList = t108.toList then ((whole_Mul.f t103 t104).bind fun t109 => ((whole_Of.f (wrap64 (a0 * a1))).bind fun t110 => (if t109.toList = t110.toList then ((whole_Cmp.f t103 t104).bind fun t111 => (if t111 = x7_22 then ((whole_Neg.f t103).bind fun t112 => ((whole_Of.f (wrap64 (-a0))).bind fun t113 => (if t112.toList = t113.toList then ((whole_Abs.f t103).bind fun t114 => ((whole_Of.f (mx a0 (wrap64 (-a0)))).bind fun t115 => (some (t114.toList == t115.toList)))) else (some false)))) else (some false))) else (some false)))) else (some false)) = some r := H
         have A29 := Aside0.mk A290
         clear A290
         by_cases c30 : t107.toList = t108.toList
         ·rw [if_pos c30] at H
          have c30b0 : (t107.toList == t108.toList) = true := beq_iff_eq.mpr c30
          have c30b1 : (t107.toList != t108.toList) = false := bne_eq_false_iff_eq.mpr c30
          clear c30
          replace H := Option.bind_eq_some_iff.mp H
          obtain ⟨t109, A310, H⟩ := H
          replace H : ((whole_Of.f (wrap64 (a0 * a1))).bind fun t110 => (if t109.toList = t110.toList then ((whole_Cmp.f t103 t104).bind fun t111 => (if t111 = x7_22 then ((whole_Neg.f t103).bind fun t112 => ((whole_Of.f (wrap64 (-a0))).bind fun t113 => (if t112.toList = t113.toList then ((whole_Abs.f t103).bind fun t114 => ((whole_Of.f (mx a0 (wrap64 (-a0)))).bind fun t115 => (some (t114.toList == t115.toList)))) else (some false)))) else (some false))) else (some false))) = some r := H
          have A31 := Aside0.mk A310
          clear A310
          replace H := Option.bind_eq_some_iff.mp H
          obtain ⟨t110, A320, H⟩ := H
          replace H : (if t109.toList = t110.toList then ((whole_Cmp.f t103 t104).bind fun t111 => (if t111 = x7_22 then ((whole_Neg.f t103).bind fun t112 => ((whole_Of.f (wrap64 (-a0))).bind fun t113 => (if t112.toList = t113.toList then ((whole_Abs.f t103).bind fun t114 => ((whole_Of.f (mx a0 (wrap64 (-a0)))).bind fun t115 => (some (t114.toList == t115.toList)))) else (some false)))) else (some false))) else (some false)) = some r := H
          have A32 := Aside0.mk A320
          clear A320
          by_cases c33 : t109.toList = t110.toList
          ·rw [if_pos c33] at H
           have c33b0 : (t109.toList == t110.toList) = true := beq_iff_eq.mpr c33
           have c33b1 : (t109.toList != t110.toList) = false := bne_eq_false_iff_eq.mpr c33
           clear c33
           replace H := Option.bind_eq_some_iff.mp H
           obtain ⟨t111, A340, H⟩ := H
           replace H : (if t111 = x7_22 then ((whole_Neg.f t103).bind fun t112 => ((whole_Of.f (wrap64 (-a0))).bind fun t113 => (if t112.toList = t113.toList then ((whole_Abs.f t103).bind fun t114 => ((whole_Of.f (mx a0 (wrap64 (-a0)))).bind fun t115 => (some (t114.toList == t115.toList)))) else (some false)))) else (some false)) = some r := H
           have A34 := Aside0.mk A340
           clear A340
           by_cases c35 : t111 = x7_22
           ·rw [if_pos c35] at H
            have c35b0 : (t111 == x7_22) = true := beq_iff_eq.mpr c35
            have c35b1 : (t111 != x7_22) = false := bne_eq_false_iff_eq.mpr c35
            clear c35
            replace H := Option.bind_eq_some_iff.mp H
            obtain ⟨t112, A360, H⟩ := H
            replace H : ((whole_Of.f (wrap64 (-a0))).bind fun t113 => (if t112.toList = t113.toList then ((whole_Abs.f t103).bind fun t114 => ((whole_Of.f (mx a0 (wrap64 (-a0)))).bind fun t115 => (some (t114.toList == t115.toList)))) else (some false))) = some r := H
            have A36 := Aside0.mk A360
            clear A360
            replace H := Option.bind_eq_some_iff.mp H
            obtain ⟨t113, A370, H⟩ := H
            replace H : (if t112.toList = t113.toList then ((whole_Abs.f t103).bind fun t114 => ((whole_Of.f (mx a0 (wrap64 (-a0)))).bind fun t115 => (some (t114.toList == t115.toList)))) else (some false)) = some r := H
            have A37 := Aside0.mk A370
            clear A370
            by_cases c38 : t112.toList = t113.toList
            ·rw [if_pos c38] at H
             have c38b0 : (t112.toList == t113.toList) = true := beq_iff_eq.mpr c38
             have c38b1 : (t112.toList != t113.toList) = false := bne_eq_false_iff_eq.mpr c38
             clear c38
             replace H := Option.bind_eq_some_iff.mp H
             obtain ⟨t114, A390, H⟩ := H
             replace H : ((whole_Of.f (mx a0 (wrap64 (-a0)))).bind fun t115 => (some (t114.toList == t115.toList))) = some r := H
             have A39 := Aside0.mk A390
             clear A390
             obtain ⟨ji40, hji40⟩ : ∃ j_ : Int, (mx a0 (wrap64 (-a0))) = j_ := ⟨_, rfl⟩
             replace H : ((whole_Of.f (ji40)).bind fun t115 => (some (t114.toList == t115.toList))) = some r := by first | (rw [hji40] at H; exact H) | (simp only [hji40] at H ⊢; exact H)
             (try rw [hji40] at A25)
             (try rw [hji40] at A26)
             (try rw [hji40] at A28)
             (try rw [hji40] at A29)
             (try rw [hji40] at A31)
             (try rw [hji40] at A32)
             (try rw [hji40] at A34)
             (try rw [hji40] at A36)
             (try rw [hji40] at A37)
             (try rw [hji40] at A39)
             have hji40_ : (if a0 < (wrap64 (-a0)) then (wrap64 (-a0)) else a0) = ji40 := hji40
             replace H := Option.bind_eq_some_iff.mp H
             obtain ⟨t115, A410, H⟩ := H
             replace H : (some (t114.toList == t115.toList)) = some r := H
             have A41 := Aside0.mk A410
             clear A410
             obtain rfl := Option.some.inj H
             go_wp2_with (first | ((with_reducible refine gate_callee (f := 11) rfl ?_); refine goesL_ (some 39) rfl rfl Tryd.func11 (by kernel_rfl) rfl #[.string t103, .string t104] rfl (by (try simp only [List.map_toArray, List.map_cons, List.map_nil]); first | done | rfl | (simp only [List.length_drop, List.length_take]; rfl)) ?_; (with_reducible refine (whole_Add.calls t103 t104 t105 _ ?side1 A25.out).mono ?_); (case side1 => exact Laid.below HLD.out (by repeat (first | (with_reducible first | exact HB.out | apply below_alloc | apply pw_below_drewN | apply below_drew1) | exact HB.out))); rintro e w42 ⟨rfl, hb⟩; refine ⟨_, rfl, ?_⟩; have n0_ := Aside0.mk (below_step (by repeat (first | (with_reducible first | exact HB.out | apply below_alloc | apply pw_below_drewN | apply below_drew1) | exact HB.out)) hb); clear HB; have HB := n0_; clear n0_; (try clear hb); (try clear hb2); (try clear hk); (try clear hi)) | ((with_reducible refine gate_callee (f := 19) rfl ?_); refine goesL_ (some 43) rfl rfl Tryd.func19 (by kernel_rfl) rfl #[.int .i64 (wrap64 (a0 + a1))] rfl (by (try simp only [List.map_toArray, List.map_cons, List.map_nil]); first | done | rfl | (simp only [List.length_drop, List.length_take]; rfl)) ?_; (with_reducible refine (whole_Of.calls (wrap64 (a0 + a1)) t106 _ ?side1 A26.out).mono ?_); (case side1 => exact Laid.below HLD.out (by repeat (first | (with_reducible first | exact HB.out | apply below_alloc | apply pw_below_drewN | apply below_drew1) | exact HB.out))); rintro e w43 ⟨rfl, hb⟩; refine ⟨_, rfl, ?_⟩; have n0_ := Aside0.mk (below_step (by repeat (first | (with_reducible first | exact HB.out | apply below_alloc | apply pw_below_drewN | apply below_drew1) | exact HB.out)) hb); clear HB; have HB := n0_; clear n0_; (try clear hb); (try clear hb2); (try clear hk); (try clear hi)) | (go_at_call 13; (with_reducible refine (whole_Sub.calls t103 t104 t107 _ ?side1 A28.out).mono ?_); (case side1 => exact Laid.below HLD.out (by repeat (first | (with_reducible first | exact HB.out | apply below_alloc | apply pw_below_drewN | apply below_drew1) | exact HB.out))); rintro e w44 ⟨rfl, hb⟩; have n0_ := Aside0.mk (below_step (by repeat (first | (with_reducible first | exact HB.out | apply below_alloc | apply pw_below_drewN | apply below_drew1) | exact HB.out)) hb); clear HB; have HB := n0_; clear n0_; (try clear hb); (try clear hb2); (try clear hk); (try clear hi)) | (go_at_call 19; (with_reducible refine (whole_Of.calls (wrap64 (a0 - a1)) t108 _ ?side1 A29.out).mono ?_); (case side1 => exact Laid.below HLD.out (by repeat (first | (with_reducible first | exact HB.out | apply below_alloc | apply pw_below_drewN | apply below_drew1) | exact HB.out))); rintro e w45 ⟨rfl, hb⟩; have n0_ := Aside0.mk (below_step (by repeat (first | (with_reducible first | exact HB.out | apply below_alloc | apply pw_below_drewN | apply below_drew1) | exact HB.out)) hb); clear HB; have HB := n0_; clear n0_; (try clear hb); (try clear hb2); (try clear hk); (try clear hi)) | (go_at_call 12; (with_reducible refine (whole_Mul.calls t103 t104 t109 _ ?side1 A31.out).mono ?_); (case side1 => exact Laid.below HLD.out (by repeat (first | (with_reducible first | exact HB.out | apply below_alloc | apply pw_below_drewN | apply below_drew1) | exact HB.out))); rintro e w46 ⟨rfl, hb⟩; have n0_ := Aside0.mk (below_step (by repeat (first | (with_reducible first | exact HB.out | apply below_alloc | apply pw_below_drewN | apply below_drew1) | exact HB.out)) hb); clear HB; have HB := n0_; clear n0_; (try clear hb); (try clear hb2); (try clear hk); (try clear hi)) | (go_at_call 19; (with_reducible refine (whole_Of.calls (wrap64 (a0 * a1)) t110 _ ?side1 A32.out).mono ?_); (case side1 => exact Laid.below HLD.out (by repeat (first | (with_reducible first | exact HB.out | apply below_alloc | apply pw_below_drewN | apply below_drew1) | exact HB.out))); rintro e w47 ⟨rfl, hb⟩; have n0_ := Aside0.mk (below_step (by repeat (first | (with_reducible first | exact HB.out | apply below_alloc | apply pw_below_drewN | apply below_drew1) | exact HB.out)) hb); clear HB; have HB := n0_; clear n0_; (try clear hb); (try clear hb2); (try clear hk); (try clear hi)) | (go_at_call 17; (with_reducible refine (whole_Cmp.calls t103 t104 t111 _ A34.out).mono ?_); rintro e w48 ⟨rfl, hb⟩; have n0_ := Aside0.mk (below_step (by repeat (first | (with_reducible first | exact HB.out | apply below_alloc | apply pw_below_drewN | apply below_drew1) | exact HB.out)) hb); clear HB; have HB := n0_; clear n0_; (try clear hb); (try clear hb2); (try clear hk); (try clear hi)) | (go_at_call 14; (with_reducible refine (whole_Neg.calls t103 t112 _ A36.out).mono ?_); rintro e w49 ⟨rfl, hb⟩; have n0_ := Aside0.mk (below_step (by repeat (first | (with_reducible first | exact HB.out | apply below_alloc | apply pw_below_drewN | apply below_drew1) | exact HB.out)) hb); clear HB; have HB := n0_; clear n0_; (try clear hb); (try clear hb2); (try clear hk); (try clear hi)) | (go_at_call 19; (with_reducible refine (whole_Of.calls (wrap64 (-a0)) t113 _ ?side1 A37.out).mono ?_); (case side1 => exact Laid.below HLD.out (by repeat (first | (with_reducible first | exact HB.out | apply below_alloc | apply pw_below_drewN | apply below_drew1) | exact HB.out))); rintro e w50 ⟨rfl, hb⟩; have n0_ := Aside0.mk (below_step (by repeat (first | (with_reducible first | exact HB.out | apply below_alloc | apply pw_below_drewN | apply below_drew1) | exact HB.out)) hb); clear HB; have HB := n0_; clear n0_; (try clear hb); (try clear hb2); (try clear hk); (try clear hi)) | (go_at_call 18; (with_reducible refine (whole_Abs.calls t103 t114 _ A39.out).mono ?_); rintro e w51 ⟨rfl, hb⟩; have n0_ := Aside0.mk (below_step (by repeat (first | (with_reducible first | exact HB.out | apply below_alloc | apply pw_below_drewN | apply below_drew1) | exact HB.out)) hb); clear HB; have HB := n0_; clear n0_; (try clear hb); (try clear hb2); (try clear hk); (try clear hi)) | (go_at_call 19; (with_reducible refine (whole_Of.calls ji40 t115 _ ?side1 A41.out).mono ?_); (case side1 => exact Laid.below HLD.out (by repeat (first | (with_reducible first | exact HB.out | apply below_alloc | apply pw_below_drewN | apply below_drew1) | exact HB.out))); rintro e w52 ⟨rfl, hb⟩; have n0_ := Aside0.mk (below_step (by repeat (first | (with_reducible first | exact HB.out | apply below_alloc | apply pw_below_drewN | apply below_drew1) | exact HB.out)) hb); clear HB; have HB := n0_; clear n0_; (try clear hb); (try clear hb2); (try clear hk); (try clear hi)))
             go_ret
             exact ⟨by first | rfl | (simp [errW_none, errW_some] <;> rfl) | (simp only [← hji40]; first | rfl | (simp [errW_none, errW_some] <;> rfl)) | (simp [*, errW_none, errW_some] <;> rfl), by repeat (first | (with_reducible first | exact HB.out | apply below_alloc | apply pw_below_drewN | apply below_drew1) | exact HB.out)⟩
            ·rw [if_neg c38] at H
             have c38b0 : (t112.toList == t113.toList) = false := beq_eq_false_iff_ne.mpr c38
             have c38b1 : (t112.toList != t113.toList) = true := bne_iff_ne.mpr c38
             exact absurd (H.trans (congrArg some hr_.out)) (by decide)
           ·rw [if_neg c35] at H
            have c35b0 : (t111 == x7_22) = false := beq_eq_false_iff_ne.mpr c35
            have c35b1 : (t111 != x7_22) = true := bne_iff_ne.mpr c35
            exact absurd (H.trans (congrArg some hr_.out)) (by decide)
          ·rw [if_neg c33] at H
           have c33b0 : (t109.toList == t110.toList) = false := beq_eq_false_iff_ne.mpr c33
           have c33b1 : (t109.toList != t110.toList) = true := bne_iff_ne.mpr c33
           exact absurd (H.trans (congrArg some hr_.out)) (by decide)
         ·rw [if_neg c30] at H
          have c30b0 : (t107.toList == t108.toList) = false := beq_eq_false_iff_ne.mpr c30
          have c30b1 : (t107.toList != t108.toList) = true := bne_iff_ne.mpr c30
          exact absurd (H.trans (congrArg some hr_.out)) (by decide)
        ·rw [if_neg c27] at H
         have c27b0 : (t105.toList == t106.toList) = false := beq_eq_false_iff_ne.mpr c27
         have c27b1 : (t105.toList != t106.toList) = true := bne_iff_ne.mpr c27
         exact absurd (H.trans (congrArg some hr_.out)) (by decide)
end Go.Proofs.YtmkmldkfaehefaaDoor.LWholeNumbers

end

-- Written by wip/pp.py of this place (over the kit's print) out of the translation.
section
namespace Go.Proofs.YtmkmldkfaehefaaDoor.LWholeNumbers
open Go.RowKit Go.Proofs.YtmkmldkfaehefaaDoorW.PrintWords Go.Proofs.YtmkmldkfaehefaaDoorW.PrintLast Go.Proofs.YtmkmldkfaehefaaDoorW.PrintMore
attribute [local go_sem] max2_int min2_int max_two min_two max_three min_three max_four min_four   -- for this text's walks alone
set_option linter.unusedVariables false
set_option linter.unusedSimpArgs false

end Go.Proofs.YtmkmldkfaehefaaDoor.LWholeNumbers

end

section
set_option linter.unusedVariables false
namespace Go.Proofs.YtmkmldkfaehefaaDoor
open Go.RowKit Go.Proofs.YtmkmldkfaehefaaDoorW.PrintWords Go.Proofs.YtmkmldkfaehefaaDoorW.PrintLast Go.Proofs.YtmkmldkfaehefaaDoorW.PrintMore

theorem szI_small {z : Int} (h0 : -9223372036854775808 ≤ z) (h1 : z ≤ 9223372036854775807) : szI z ≤ 49990 := by
  have h2 := szI_le z
  have h3 : sz z.natAbs ≤ 19 := sz_le (by omega) (by omega)
  omega
theorem pureWholeNumbers (a0 a1 : Int) (w0 : (Lit.int .i64 a0).wf = true) (w1 : (Lit.int .i64 a1).wf = true) : ∃ k, LWholeNumbers.debenturelaw02_WholeNumbers.f k a0 a1 = some true := by
  refine ⟨4, ?_⟩
  unfold LWholeNumbers.debenturelaw02_WholeNumbers.f debenturelaw02_fixed.f
  have hj : LWholeNumbers.debenturelaw02_WholeNumbers.j0 4 a0 a1 true = some true := by
    simp only [LWholeNumbers.debenturelaw02_WholeNumbers.j0]
    rfl
  rw [Option.bind_some, if_pos rfl]
  by_cases h1 : a0 < -1073741824
  · rw [if_pos h1]; exact hj
  by_cases h2 : a1 < -1073741824
  · rw [if_neg h1, if_pos h2]; exact hj
  by_cases h3 : a0 > 1073741824
  · rw [if_neg h1, if_neg h2, if_pos h3]; exact hj
  by_cases h4 : a1 > 1073741824
  · rw [if_neg h1, if_neg h2, if_neg h3, decide_eq_true h4]; exact hj
  rw [if_neg h1, if_neg h2, if_neg h3, decide_eq_false h4]
  clear hj w0 w1
  have z0 := szI_small (z := a0) (by omega) (by omega)
  have z1 := szI_small (z := a1) (by omega) (by omega)
  have hmul : (a0 * a1).natAbs ≤ 1073741824 * 1073741824 := by
    rw [Int.natAbs_mul]
    exact Nat.mul_le_mul (by omega) (by omega)
  have hmul' : (a0 * a1).natAbs ≤ 1152921504606846976 := hmul
  clear hmul
  have last : ∀ k (c : Int), c = Lib.compareInt a0 a1 → LWholeNumbers.debenturelaw02_WholeNumbers.j2 (k + 1) a0 a1 (intB a0) (intB a1) c = some true := by
    intro k c hc
    have hmx : mx a0 (-a0) = (a0.natAbs : Int) := by
      unfold mx
      split <;> omega
    simp only [LWholeNumbers.debenturelaw02_WholeNumbers.j2]
    rw [w64 (x := a0 + a1) (by omega) (by omega), w64 (x := a0 - a1) (by omega) (by omega), w64 (x := a0 * a1) (by omega) (by omega), w64 (x := -a0) (by omega) (by omega), hmx]
    rw [gAdd z0 z1, Option.bind_some, gOf (by omega) (by omega), Option.bind_some, if_pos rfl, gSub z0 z1, Option.bind_some, gOf (by omega) (by omega), Option.bind_some, if_pos rfl, gMul z0 z1, Option.bind_some, gOf (by omega) (by omega), Option.bind_some, if_pos rfl, gCmp z0 z1, Option.bind_some, if_pos hc.symm, gNeg z0, Option.bind_some, gOf (by omega) (by omega), Option.bind_some, if_pos rfl, gAbs z0, Option.bind_some, gOf (by omega) (by omega), Option.bind_some, intB_beq, decide_eq_true rfl]
  simp only [LWholeNumbers.debenturelaw02_WholeNumbers.j0]
  rw [if_neg (by decide), gOf (by omega) (by omega), Option.bind_some, gOf (by omega) (by omega), Option.bind_some]
  by_cases hlt : a0 < a1
  · rw [if_pos hlt]
    simp only [LWholeNumbers.debenturelaw02_WholeNumbers.j1]
    rw [if_neg (by omega)]
    exact last _ _ (cmp_lt' hlt).symm
  · rw [if_neg hlt]
    simp only [LWholeNumbers.debenturelaw02_WholeNumbers.j1]
    by_cases hgt : a0 > a1
    · rw [if_pos hgt]
      exact last _ _ (cmp_gt' hgt).symm
    · rw [if_neg hgt]
      exact last _ _ (cmp_eq' (by omega)).symm
end Go.Proofs.YtmkmldkfaehefaaDoor

end

section
namespace Go.Proofs.YtmkmldkfaehefaaDoor.wholeNumbers
open Go.ChangeShapes Go.WideShapes Go.ChangeAt Go.RowKit
open Go.ChangeMaps (open_string shut_string)
set_option linter.unusedVariables false
set_option maxRecDepth 100000 in
theorem lifted (os : Os) (started : os.Started) (H : Type) (enc : TypeId × Value → H) :
    ReturnsInHanded {} Tryd.checked os 6 .any (fun w args => (Rows.wholeNumbersSpec.pre enc Tryd.prog Tryd.f6 Rows.wholeNumbersRow.domain false w args ∧ laidMetH Tryd.prog laidL w) ∧ sizedMet enc Tryd.prog Tryd.f6 (OpenSpec.ofChange Rows.wholeNumbersSpec) false w args)
      (Rows.wholeNumbersSpec.post enc Tryd.prog Tryd.f6 false true false false) := by
  refine returnsInHanded_of_change_and (C := Tryd.checked) (X := fun w _ => laidMetH Tryd.prog laidL w) (fun _ _ _ hh h => h.of_heap hh) own started (by kernel_rfl) Tryd.func6
    (ChangeSpec.witness_shaped (enc := enc) (C := Tryd.checked) (os := os) (X := fun w _ => laidMetH Tryd.prog laidL w) false (World.doorLaid Tryd.prog 4000 os) #[.int .i64 0, .int .i64 0] 8 rfl (World.shaped_of_RefB (by kernel_rfl) (by kernel_rfl)) (by kernel_rfl) (by kernel_rfl) (by kernel_rfl) (door_met os _)) ?_
  intro W base args ds gs before hval0 hW _ hsz0 hL _
  have hsz : (DataW.weightsEach Tryd.prog (Tryd.f6.params.toList ++ Rows.wholeNumbersSpec.plain.varTypes Tryd.prog) (ds ++ gs)).all (· ≤ reachBytes) = true := hsz0
  have hval : ∀ (j : Nat) t v, Tryd.f6.params[j]? = some t → args[j]? = some v → Value.okWide Tryd.prog W .any base t v := hval0
  have hW' := hW
  obtain ⟨p, q, hA0, hV, rfl, hfz, hnd⟩ := hW
  have hA : DataW.TrodAll enc Tryd.prog W 0 (fun _ => true) true Tryd.f6.params.toList args.toList ds p := hA0
  rw [Tryd.params6] at hA hval hsz
  obtain ⟨v0, vs0, d0, ds0, p0, q0, hargs, rfl, rfl, h0, r0⟩ := trodAll_cons hA
  obtain ⟨v1, vs1, d1, ds1, p1, q1, rfl, rfl, rfl, h1, r1⟩ := trodAll_cons r0
  obtain ⟨rfl, rfl, rfl⟩ := trodAll_nil r1
  obtain rfl : args = #[v0, v1] := by cases args; simp_all
  obtain ⟨rfl, rfl⟩ := trodVars_none hV
  obtain ⟨a0, rfl, rfl, rfl, w0⟩ := open_int Tryd.underlying3 (hval 0 3 v0 rfl rfl) h0
  obtain ⟨a1, rfl, rfl, rfl, w1⟩ := open_int Tryd.underlying3 (hval 1 3 v1 rfl rfl) h1
  clear hA0 hval0 hsz0 hsz
  obtain ⟨k, hf⟩ := pureWholeNumbers a0 a1 w0 w1
  refine (LWholeNumbers.debenturelaw02_WholeNumbers.calls k a0 a1 true W (laid_of hL) ⟨rfl⟩ hf).mono fun e W' ⟨he, bel⟩ => ?_
  subst he
  exact ⟨_, rfl, _, _, _, [], _, [], hW', trodAll_mk1 (shut_bool Tryd.underlying4 _), (trodAll_cons_mk (shut_int Tryd.underlying3 w0) (trodAll_cons_mk (shut_int Tryd.underlying3 w1) trodAll_mk0)), rfl, bel.frame _, fun h => by cases h⟩
theorem over : Rows.WholeNumbersSaid :=
  OpenClaim.holds_of_wide 6 Tryd.f6 rfl rfl rfl rfl rfl rfl rfl ⟨rfl, rfl, rfl, rfl, rfl⟩ rfl rfl rfl rfl rfl (by kernel_rfl) Tryd.func6 (by kernel_rfl)
    (of_decide_eq_true (by kernel_rfl)) (by unfold Func.isWrapper; first | (rw [if_pos (by decide +kernel)]; kernel_rfl) | (rw [if_neg (by decide +kernel)]; exact ⟨rfl, rfl⟩))
    (fun os started H enc _ => lifted os started H enc)
theorem proved : Rows.WholeNumbersCardSaid :=
  Claim7.holds_tied_plain_at .later [] [.data, .data, .data, .sentinel, .sentinel] true (true, "2da19d4324e1b7fc1d51d8615ed06ada97961d6e30aa7afce54110a3552b5e62") true
    over (fun _ h => by cases h) (by kernel_rfl) (fun _ h => by cases h) wholeNumbers_row_tie rfl ⟨rfl, rfl⟩ (by kernel_rfl) rfl
    (fun f fn hf hfn => by
      obtain rfl : f = 6 := Option.some.inj ((show Tryd.prog.funcNamed "debenture/debenturelaw02.WholeNumbers" = some 6 by kernel_rfl).symm.trans hf) |>.symm
      obtain rfl : fn = Tryd.f6 := (Option.some.inj (Tryd.func6.symm.trans hfn)).symm
      exact ⟨by kernel_rfl, fun j t ht => by
        rw [Tryd.params6] at ht
        have hm : t ∈ [3, 3] := by simpa using Array.mem_of_getElem? ht
        have hall : ([3, 3].all fun u => !Tryd.prog.wantsStandIn u) = true := by kernel_rfl
        exact (show Tryd.prog.wantsStandIn t = false by simpa using List.all_eq_true.1 hall t hm)⟩)
    (by kernel_rfl)
end Go.Proofs.YtmkmldkfaehefaaDoor.wholeNumbers
namespace Go.Proofs.YtmkmldkfaehefaaDoor
/-- The card, under a short name, for the claim. -/
theorem wholeNumbers_holds : Rows.WholeNumbersCardSaid := wholeNumbers.proved
#print axioms wholeNumbers_holds
end Go.Proofs.YtmkmldkfaehefaaDoor

end
