/-
The law WholeHalves holds at every input: its row, and its card, tied to the program's text. Conditions: none beyond the given row's own.
Parts of the proof, in build order: LWholeHalves0, LWholeHalves1, LWholeHalves, PuWholeHalves, RowWholeHalves.
-/
import Derived.Test.YtmkmldkfaehefaaDoorProg
import Derived.Below
import Derived.Deep.Draws
import Derived.Deep.AppendLies
import Derived.Maps.AppendAt
import Derived.OwnWalk
import Derived.Laws.BytesArg
import Derived.Laws.MakeOwn
import Derived.Laws.OwnMore
import Derived.Deep.OwnRows
import Derived.Tactics
import Derived.Lib.ConvBytes
import Derived.Laws.Slices
import Derived.WalkKit
import Derived.KernelRfl
import Derived.RowKit3
import Derived.Deep.LoopGhost
import Derived.Deep.QuietTactic
import Derived.BigQuiet
import Derived.WideLaws
import Derived.Deep.DeepCutAuto
import Derived.Deep.CutBlock
import Derived.Deep.RegionHeld3
import Derived.Laws.Rows
import Derived.Lib.AppendStr
import Derived.ArgAppend
import Derived.Laws.IdiomCopy
import Derived.OrdersHeld
import Derived.Laws.BitsLemmas
import Derived.RowKit
import Derived.Test.YtmkmldkfaehefaaDoorC0
import Derived.Test.YtmkmldkfaehefaaDoorC6
import Derived.Test.YtmkmldkfaehefaaDoorC4
import Derived.Test.YtmkmldkfaehefaaDoorTie
import Derived.Test.YtmkmldkfaehefaaDoorCards
import Derived.SevenTiedAt
-- Written by wip/pp.py of this place (over the kit's print) out of the translation.
section
namespace Go.Proofs.YtmkmldkfaehefaaDoor.LWholeHalves
open Go.RowKit Go.Proofs.YtmkmldkfaehefaaDoorW.PrintWords Go.Proofs.YtmkmldkfaehefaaDoorW.PrintLast Go.Proofs.YtmkmldkfaehefaaDoorW.PrintMore
attribute [local go_sem] max2_int min2_int max_two min_two max_three min_three max_four min_four   -- for this text's walks alone
set_option linter.unusedVariables false
set_option linter.unusedSimpArgs false

def errW : Option Int → Value
 | none => .nilIface
 | some c => .iface 0 (.int .i64 c)
theorem errW_none : errW none = .nilIface := rfl
theorem errW_some (c : Int) : errW (some c) = .iface 0 (.int .i64 c) := rfl

-- the values' own types

end Go.Proofs.YtmkmldkfaehefaaDoor.LWholeHalves

end

-- Written by wip/pp.py of this place (over the kit's print) out of the translation.
section
namespace Go.Proofs.YtmkmldkfaehefaaDoor.LWholeHalves
open Go.RowKit Go.Proofs.YtmkmldkfaehefaaDoorW.PrintWords Go.Proofs.YtmkmldkfaehefaaDoorW.PrintLast Go.Proofs.YtmkmldkfaehefaaDoorW.PrintMore
attribute [local go_sem] max2_int min2_int max_two min_two max_three min_three max_four min_four   -- for this text's walks alone
set_option linter.unusedVariables false
set_option linter.unusedSimpArgs false

-- walked by hand: function 8 (debenturelaw02_fixed)

-- walked by hand: function 9 (debentureref01_Short)

-- walked by hand: function 10 (debentureref02_May)

-- walked by hand: function 11 (whole_Add)

-- walked by hand: function 14 (whole_Neg)

-- walked by hand: function 16 (whole_Div)

def debenturelaw02_WholeHalves.j0 : Nat → ByteArray → ByteArray → Bool → Option (Bool)
 | 0, _, _, _ => none
 | k + 1, x0, x1, x36 => if x36 = true then ((debenturelaw02_fixed.f).bind fun t108 => (some t108)) else ((whole_Div.f x0 (⟨#[50]⟩ : ByteArray)).bind fun bt109 => ((whole_Div.f x0 x1).bind fun bt112 => ((whole_Neg.f x1).bind fun t115 => ((whole_Div.f x0 t115).bind fun bt116 => (if bt109.2.2 = true then (if bt112.2.2 = true then (if bt116.2.2 = true then (if bt109.2.1.toList = ([48] : List UInt8) then ((whole_Add.f bt109.1 bt109.1).bind fun t119 => ((whole_Add.f t119 bt109.2.1).bind fun t120 => (if t120.toList = x0.toList then ((whole_Neg.f bt112.1).bind fun t121 => (if bt116.1.toList = t121.toList then (some (bt116.2.1.toList == bt112.2.1.toList)) else (some false))) else (some false)))) else (if bt109.2.1.toList = ([49] : List UInt8) then ((whole_Add.f bt109.1 bt109.1).bind fun t122 => ((whole_Add.f t122 bt109.2.1).bind fun t123 => (if t123.toList = x0.toList then ((whole_Neg.f bt112.1).bind fun t124 => (if bt116.1.toList = t124.toList then (some (bt116.2.1.toList == bt112.2.1.toList)) else (some false))) else (some false)))) else (some false))) else (some false)) else (some false)) else (some false))))))
def debenturelaw02_WholeHalves.f (k : Nat) (a0 : ByteArray) (a1 : ByteArray) : Option (Bool) := (debenturelaw02_fixed.f).bind fun t101 => (if t101 = true then ((debentureref01_Short.f (([a0, a1] : List ByteArray))).bind fun t105 => (if t105 = true then ((debentureref02_May.f a0).bind fun t106 => (if t106 = true then ((debentureref02_May.f a1).bind fun t107 => (if t107 = true then (debenturelaw02_WholeHalves.j0 k a0 a1 (a1.toList == ([48] : List UInt8))) else (debenturelaw02_WholeHalves.j0 k a0 a1 true))) else (debenturelaw02_WholeHalves.j0 k a0 a1 true))) else (debenturelaw02_WholeHalves.j0 k a0 a1 true))) else (debenturelaw02_WholeHalves.j0 k a0 a1 true))
set_option maxHeartbeats 8000000 in
set_option maxRecDepth 100000 in
theorem debenturelaw02_WholeHalves.calls (k : Nat) (a0 : ByteArray) (a1 : ByteArray) (r : Bool) (w : World) (hL_ : Laid w) (hr_ : Aside0 (r = true)) (h : debenturelaw02_WholeHalves.f k a0 a1 = some r) :
  Calls Tryd.prog 7 #[.string a0, .string a1] w fun e w' => e = .returned (.bool r) ∧ Below w.heap.size w w' := by
 have HLD := Aside0.mk hL_
 clear hL_
 have HB := Aside0.mk (Below.refl w.heap.size w)
 have H : ((debenturelaw02_fixed.f).bind fun t101 => (if t101 = true then ((debentureref01_Short.f (([a0, a1] : List ByteArray))).bind fun t105 => (if t105 = true then ((debentureref02_May.f a0).bind fun t106 => (if t106 = true then ((debentureref02_May.f a1).bind fun t107 => (if t107 = true then (debenturelaw02_WholeHalves.j0 k a0 a1 (a1.toList == ([48] : List UInt8))) else (debenturelaw02_WholeHalves.j0 k a0 a1 true))) else (debenturelaw02_WholeHalves.j0 k a0 a1 true))) else (debenturelaw02_WholeHalves.j0 k a0 a1 true))) else (debenturelaw02_WholeHalves.j0 k a0 a1 true))) = some r := h
 clear h
 have HC3 := Aside0.mk H
 clear H
 go_enter Tryd.func7, Tryd.ntmps7
 go_upto_region 1 with (fail)
 go_cut [36] (fun v36 wc => ∃ (kq : Nat) (x36_2 : Bool), v36 = .bool x36_2 ∧ Aside0 (debenturelaw02_WholeHalves.j0 kq a0 a1 x36_2 = some r) ∧ Aside0 (kq ≤ k) ∧ Aside0 (Below w.heap.size w wc))
 case first =>
  have H := HC3.out
  clear HC3
  replace H := Option.bind_eq_some_iff.mp H
  obtain ⟨t101, A40, H⟩ := H
  replace H : (if t101 = true then ((debentureref01_Short.f (([a0, a1] : List ByteArray))).bind fun t105 => (if t105 = true then ((debentureref02_May.f a0).bind fun t106 => (if t106 = true then ((debentureref02_May.f a1).bind fun t107 => (if t107 = true then (debenturelaw02_WholeHalves.j0 k a0 a1 (a1.toList == ([48] : List UInt8))) else (debenturelaw02_WholeHalves.j0 k a0 a1 true))) else (debenturelaw02_WholeHalves.j0 k a0 a1 true))) else (debenturelaw02_WholeHalves.j0 k a0 a1 true))) else (debenturelaw02_WholeHalves.j0 k a0 a1 true)) = some r := H
  have A4 := Aside0.mk A40
  clear A40
  by_cases c5 : t101 = true
  ·subst c5
   have H1 : ((debentureref01_Short.f (([a0, a1] : List ByteArray))).bind fun t105 => (if t105 = true then ((debentureref02_May.f a0).bind fun t106 => (if t106 = true then ((debentureref02_May.f a1).bind fun t107 => (if t107 = true then (debenturelaw02_WholeHalves.j0 k a0 a1 (a1.toList == ([48] : List UInt8))) else (debenturelaw02_WholeHalves.j0 k a0 a1 true))) else (debenturelaw02_WholeHalves.j0 k a0 a1 true))) else (debenturelaw02_WholeHalves.j0 k a0 a1 true))) = some r := by rw [if_pos rfl] at H; exact H
   clear H
   have H := H1
   clear H1
   obtain ⟨y102, hy102⟩ : ∃ y_ : List ByteArray, y_ = (([a0, a1] : List ByteArray)) := ⟨_, rfl⟩
   replace H : ((debentureref01_Short.f y102).bind fun t105 => (if t105 = true then ((debentureref02_May.f a0).bind fun t106 => (if t106 = true then ((debentureref02_May.f a1).bind fun t107 => (if t107 = true then (debenturelaw02_WholeHalves.j0 k a0 a1 (a1.toList == ([48] : List UInt8))) else (debenturelaw02_WholeHalves.j0 k a0 a1 true))) else (debenturelaw02_WholeHalves.j0 k a0 a1 true))) else (debenturelaw02_WholeHalves.j0 k a0 a1 true))) = some r := by first | (rw [hy102]; with_reducible exact H) | (have H2_ := (Option.bind_some _ _).symm.trans H; rw [hy102]; with_reducible exact H2_) | (have H2_ := (Option.bind_some _ _).symm.trans H; with_reducible exact H2_) | with_reducible exact H | (rw [hy102]; exact H) | exact H
   have Ny102 := Aside0.mk hy102
   clear hy102
   replace H := Option.bind_eq_some_iff.mp H
   obtain ⟨t105, A60, H⟩ := H
   replace H : (if t105 = true then ((debentureref02_May.f a0).bind fun t106 => (if t106 = true then ((debentureref02_May.f a1).bind fun t107 => (if t107 = true then (debenturelaw02_WholeHalves.j0 k a0 a1 (a1.toList == ([48] : List UInt8))) else (debenturelaw02_WholeHalves.j0 k a0 a1 true))) else (debenturelaw02_WholeHalves.j0 k a0 a1 true))) else (debenturelaw02_WholeHalves.j0 k a0 a1 true)) = some r := H
   have A6 := Aside0.mk A60
   clear A60
   by_cases c7 : t105 = true
   ·subst c7
    have H1 : ((debentureref02_May.f a0).bind fun t106 => (if t106 = true then ((debentureref02_May.f a1).bind fun t107 => (if t107 = true then (debenturelaw02_WholeHalves.j0 k a0 a1 (a1.toList == ([48] : List UInt8))) else (debenturelaw02_WholeHalves.j0 k a0 a1 true))) else (debenturelaw02_WholeHalves.j0 k a0 a1 true))) = some r := by rw [if_pos rfl] at H; exact H
    clear H
    have H := H1
    clear H1
    replace H := Option.bind_eq_some_iff.mp H
    obtain ⟨t106, A80, H⟩ := H
    replace H : (if t106 = true then ((debentureref02_May.f a1).bind fun t107 => (if t107 = true then (debenturelaw02_WholeHalves.j0 k a0 a1 (a1.toList == ([48] : List UInt8))) else (debenturelaw02_WholeHalves.j0 k a0 a1 true))) else (debenturelaw02_WholeHalves.j0 k a0 a1 true)) = some r := H
    have A8 := Aside0.mk A80
    clear A80
    by_cases c9 : t106 = true
    ·subst c9
     have H1 : ((debentureref02_May.f a1).bind fun t107 => (if t107 = true then (debenturelaw02_WholeHalves.j0 k a0 a1 (a1.toList == ([48] : List UInt8))) else (debenturelaw02_WholeHalves.j0 k a0 a1 true))) = some r := by rw [if_pos rfl] at H; exact H
     clear H
     have H := H1
     clear H1
     replace H := Option.bind_eq_some_iff.mp H
     obtain ⟨t107, A100, H⟩ := H
     replace H : (if t107 = true then (debenturelaw02_WholeHalves.j0 k a0 a1 (a1.toList == ([48] : List UInt8))) else (debenturelaw02_WholeHalves.j0 k a0 a1 true)) = some r := H
     have A10 := Aside0.mk A100
     clear A100
     by_cases c11 : t107 = true
     ·subst c11
      have H1 : (debenturelaw02_WholeHalves.j0 k a0 a1 (a1.toList == ([48] : List UInt8))) = some r := by rw [if_pos rfl] at H; exact H
      clear H
      have H := H1
      clear H1
      have H' := Aside0.mk H
      clear H
      go_wp2_with (first | ((with_reducible refine gate_callee (f := 8) rfl ?_); refine goesL_ (some 14) rfl rfl Tryd.func8 (by kernel_rfl) rfl #[] rfl (by (try simp only [List.map_toArray, List.map_cons, List.map_nil]); first | done | rfl | (simp only [List.length_drop, List.length_take]; rfl)) ?_; (with_reducible refine (debenturelaw02_fixed.calls  true _ ?side1 A4.out).mono ?_); (case side1 => exact Laid.below HLD.out (by repeat (first | (with_reducible first | exact HB.out | apply below_alloc | apply pw_below_drewN | apply below_drew1) | exact HB.out))); rintro e w12 ⟨rfl, hb⟩; refine ⟨_, rfl, ?_⟩; have n0_ := Aside0.mk (below_step (by repeat (first | (with_reducible first | exact HB.out | apply below_alloc | apply pw_below_drewN | apply below_drew1) | exact HB.out)) hb); clear HB; have HB := n0_; clear n0_; (try clear hb); (try clear hb2); (try clear hk); (try clear hi)) | ((with_reducible refine gate_dst (N := 19) rfl ?_); (try (refine gate_guard (by rfl) ?_; dsimp only)); refine Kd.R_lit Kd.string _ 9 ?hg (N := 19) ?hd (xs := ([a0, a1] : List ByteArray)) (inner := [.string a0, .string a1]) (ok := fun _ => True) (okp := fun _ => True) ?hr ?hp (fun _ hk => hk) trivial (Below.refl _ _) (Nat.le_refl _) (by simp) ?_; (case hd => rfl); (case hg => rfl); (case hr => first | (go_simp; done) | (go_simp; rfl)); (case hp => exact (Reps.one (show Kd.M Kd.string _ _ _ a0 [.string a0] from rfl) (Reps.one (show Kd.M Kd.string _ _ _ a1 [.string a1] from rfl) (Reps.none _ _)))); intro v103 w13 ho14 hb hg_ hnew_; clear hg_ hnew_; (first | rw [← Ny102.out] at ho14 | (simp only [Int.reduceToNat] at ho14; rw [← Ny102.out] at ho14)); have n0_ := Aside0.mk (Kd.R_lower ho14 (below_size (by repeat (first | (with_reducible first | exact HB.out | apply below_alloc | apply pw_below_drewN | apply below_drew1) | exact HB.out)))); have n1_ := Aside0.mk (below_step (by repeat (first | (with_reducible first | exact HB.out | apply below_alloc | apply pw_below_drewN | apply below_drew1) | exact HB.out)) hb); clear HB; have HO104 := n0_; have HB := n1_; clear n0_ n1_; clear hb ho14; obtain ⟨Ao15, co15, eo15⟩ := Kd.R_slice HO104.out; subst eo15) | (go_at_call 9; (with_reducible refine (debentureref01_Short.calls _ _ y102 true _ ?side1 ?side2 A6.out).mono ?_); (case side1 => repeat (first | exact (Kd.R_reads' HO104.out).2.2 | (with_reducible refine Kd.C_alloc ?_ _) | (with_reducible refine Kd.C_drewN ?_ _) | (with_reducible refine Kd.C_drew ?_))); (case side2 => exact (Kd.R_reads' HO104.out).2.1); rintro e w16 ⟨rfl, hb⟩; have n0_ := Aside0.mk (Kd.R_below (by (with_reducible repeat (first | apply Kd.R_alloc | apply Kd.R_drewN | apply Kd.R_drew)); exact HO104.out) hb); have n1_ := Aside0.mk (below_step (by repeat (first | (with_reducible first | exact HB.out | apply below_alloc | apply pw_below_drewN | apply below_drew1) | exact HB.out)) hb); clear HO104; clear HB; have HO104 := n0_; have HB := n1_; clear n0_ n1_; (try clear hb); (try clear hb2); (try clear hk); (try clear hi)) | (go_at_call 10; (with_reducible refine (debentureref02_May.calls a0 true _ A8.out).mono ?_); rintro e w17 ⟨rfl, hb⟩; have n0_ := Aside0.mk (Kd.R_below (by (with_reducible repeat (first | apply Kd.R_alloc | apply Kd.R_drewN | apply Kd.R_drew)); exact HO104.out) hb); have n1_ := Aside0.mk (below_step (by repeat (first | (with_reducible first | exact HB.out | apply below_alloc | apply pw_below_drewN | apply below_drew1) | exact HB.out)) hb); clear HO104; clear HB; have HO104 := n0_; have HB := n1_; clear n0_ n1_; (try clear hb); (try clear hb2); (try clear hk); (try clear hi)) | (go_at_call 10; (with_reducible refine (debentureref02_May.calls a1 true _ A10.out).mono ?_); rintro e w18 ⟨rfl, hb⟩; have n0_ := Aside0.mk (Kd.R_below (by (with_reducible repeat (first | apply Kd.R_alloc | apply Kd.R_drewN | apply Kd.R_drew)); exact HO104.out) hb); have n1_ := Aside0.mk (below_step (by repeat (first | (with_reducible first | exact HB.out | apply below_alloc | apply pw_below_drewN | apply below_drew1) | exact HB.out)) hb); clear HO104; clear HB; have HO104 := n0_; have HB := n1_; clear n0_ n1_; (try clear hb); (try clear hb2); (try clear hk); (try clear hi)))
      go_meet
      case rel => exact ⟨_, ((a1.toList == ([48] : List UInt8))), (by first | rfl | (simp; done) | (simp [*]; done)), H', ⟨by first | omega | exact Nat.le_refl _⟩, ⟨by repeat (first | (with_reducible first | exact HB.out | apply below_alloc | apply pw_below_drewN | apply below_drew1) | exact HB.out)⟩⟩
     ·replace c11 := Bool.eq_false_iff.mpr c11
      subst c11
      have H1 : (debenturelaw02_WholeHalves.j0 k a0 a1 true) = some r := by rw [if_neg (show ¬ (false = true) by decide)] at H; exact H
      clear H
      have H := H1
      clear H1
      have H' := Aside0.mk H
      clear H
      go_wp2_with (first | ((with_reducible refine gate_callee (f := 8) rfl ?_); refine goesL_ (some 14) rfl rfl Tryd.func8 (by kernel_rfl) rfl #[] rfl (by (try simp only [List.map_toArray, List.map_cons, List.map_nil]); first | done | rfl | (simp only [List.length_drop, List.length_take]; rfl)) ?_; (with_reducible refine (debenturelaw02_fixed.calls  true _ ?side1 A4.out).mono ?_); (case side1 => exact Laid.below HLD.out (by repeat (first | (with_reducible first | exact HB.out | apply below_alloc | apply pw_below_drewN | apply below_drew1) | exact HB.out))); rintro e w19 ⟨rfl, hb⟩; refine ⟨_, rfl, ?_⟩; have n0_ := Aside0.mk (below_step (by repeat (first | (with_reducible first | exact HB.out | apply below_alloc | apply pw_below_drewN | apply below_drew1) | exact HB.out)) hb); clear HB; have HB := n0_; clear n0_; (try clear hb); (try clear hb2); (try clear hk); (try clear hi)) | ((with_reducible refine gate_dst (N := 19) rfl ?_); (try (refine gate_guard (by rfl) ?_; dsimp only)); refine Kd.R_lit Kd.string _ 9 ?hg (N := 19) ?hd (xs := ([a0, a1] : List ByteArray)) (inner := [.string a0, .string a1]) (ok := fun _ => True) (okp := fun _ => True) ?hr ?hp (fun _ hk => hk) trivial (Below.refl _ _) (Nat.le_refl _) (by simp) ?_; (case hd => rfl); (case hg => rfl); (case hr => first | (go_simp; done) | (go_simp; rfl)); (case hp => exact (Reps.one (show Kd.M Kd.string _ _ _ a0 [.string a0] from rfl) (Reps.one (show Kd.M Kd.string _ _ _ a1 [.string a1] from rfl) (Reps.none _ _)))); intro v103 w20 ho21 hb hg_ hnew_; clear hg_ hnew_; (first | rw [← Ny102.out] at ho21 | (simp only [Int.reduceToNat] at ho21; rw [← Ny102.out] at ho21)); have n0_ := Aside0.mk (Kd.R_lower ho21 (below_size (by repeat (first | (with_reducible first | exact HB.out | apply below_alloc | apply pw_below_drewN | apply below_drew1) | exact HB.out)))); have n1_ := Aside0.mk (below_step (by repeat (first | (with_reducible first | exact HB.out | apply below_alloc | apply pw_below_drewN | apply below_drew1) | exact HB.out)) hb); clear HB; have HO104 := n0_; have HB := n1_; clear n0_ n1_; clear hb ho21; obtain ⟨Ao22, co22, eo22⟩ := Kd.R_slice HO104.out; subst eo22) | (go_at_call 9; (with_reducible refine (debentureref01_Short.calls _ _ y102 true _ ?side1 ?side2 A6.out).mono ?_); (case side1 => repeat (first | exact (Kd.R_reads' HO104.out).2.2 | (with_reducible refine Kd.C_alloc ?_ _) | (with_reducible refine Kd.C_drewN ?_ _) | (with_reducible refine Kd.C_drew ?_))); (case side2 => exact (Kd.R_reads' HO104.out).2.1); rintro e w23 ⟨rfl, hb⟩; have n0_ := Aside0.mk (Kd.R_below (by (with_reducible repeat (first | apply Kd.R_alloc | apply Kd.R_drewN | apply Kd.R_drew)); exact HO104.out) hb); have n1_ := Aside0.mk (below_step (by repeat (first | (with_reducible first | exact HB.out | apply below_alloc | apply pw_below_drewN | apply below_drew1) | exact HB.out)) hb); clear HO104; clear HB; have HO104 := n0_; have HB := n1_; clear n0_ n1_; (try clear hb); (try clear hb2); (try clear hk); (try clear hi)) | (go_at_call 10; (with_reducible refine (debentureref02_May.calls a0 true _ A8.out).mono ?_); rintro e w24 ⟨rfl, hb⟩; have n0_ := Aside0.mk (Kd.R_below (by (with_reducible repeat (first | apply Kd.R_alloc | apply Kd.R_drewN | apply Kd.R_drew)); exact HO104.out) hb); have n1_ := Aside0.mk (below_step (by repeat (first | (with_reducible first | exact HB.out | apply below_alloc | apply pw_below_drewN | apply below_drew1) | exact HB.out)) hb); clear HO104; clear HB; have HO104 := n0_; have HB := n1_; clear n0_ n1_; (try clear hb); (try clear hb2); (try clear hk); (try clear hi)) | (go_at_call 10; (with_reducible refine (debentureref02_May.calls a1 false _ A10.out).mono ?_); rintro e w25 ⟨rfl, hb⟩; have n0_ := Aside0.mk (Kd.R_below (by (with_reducible repeat (first | apply Kd.R_alloc | apply Kd.R_drewN | apply Kd.R_drew)); exact HO104.out) hb); have n1_ := Aside0.mk (below_step (by repeat (first | (with_reducible first | exact HB.out | apply below_alloc | apply pw_below_drewN | apply below_drew1) | exact HB.out)) hb); clear HO104; clear HB; have HO104 := n0_; have HB := n1_; clear n0_ n1_; (try clear hb); (try clear hb2); (try clear hk); (try clear hi)))
      go_meet
      case rel => exact ⟨_, (true), (by first | rfl | (simp; done) | (simp [*]; done)), H', ⟨by first | omega | exact Nat.le_refl _⟩, ⟨by repeat (first | (with_reducible first | exact HB.out | apply below_alloc | apply pw_below_drewN | apply below_drew1) | exact HB.out)⟩⟩
    ·replace c9 := Bool.eq_false_iff.mpr c9
     subst c9
     have H1 : (debenturelaw02_WholeHalves.j0 k a0 a1 true) = some r := by rw [if_neg (show ¬ (false = true) by decide)] at H; exact H
     clear H
     have H := H1
     clear H1
     have H' := Aside0.mk H
     clear H
     go_wp2_with (first | ((with_reducible refine gate_callee (f := 8) rfl ?_); refine goesL_ (some 14) rfl rfl Tryd.func8 (by kernel_rfl) rfl #[] rfl (by (try simp only [List.map_toArray, List.map_cons, List.map_nil]); first | done | rfl | (simp only [List.length_drop, List.length_take]; rfl)) ?_; (with_reducible refine (debenturelaw02_fixed.calls  true _ ?side1 A4.out).mono ?_); (case side1 => exact Laid.below HLD.out (by repeat (first | (with_reducible first | exact HB.out | apply below_alloc | apply pw_below_drewN | apply below_drew1) | exact HB.out))); rintro e w26 ⟨rfl, hb⟩; refine ⟨_, rfl, ?_⟩; have n0_ := Aside0.mk (below_step (by repeat (first | (with_reducible first | exact HB.out | apply below_alloc | apply pw_below_drewN | apply below_drew1) | exact HB.out)) hb); clear HB; have HB := n0_; clear n0_; (try clear hb); (try clear hb2); (try clear hk); (try clear hi)) | ((with_reducible refine gate_dst (N := 19) rfl ?_); (try (refine gate_guard (by rfl) ?_; dsimp only)); refine Kd.R_lit Kd.string _ 9 ?hg (N := 19) ?hd (xs := ([a0, a1] : List ByteArray)) (inner := [.string a0, .string a1]) (ok := fun _ => True) (okp := fun _ => True) ?hr ?hp (fun _ hk => hk) trivial (Below.refl _ _) (Nat.le_refl _) (by simp) ?_; (case hd => rfl); (case hg => rfl); (case hr => first | (go_simp; done) | (go_simp; rfl)); (case hp => exact (Reps.one (show Kd.M Kd.string _ _ _ a0 [.string a0] from rfl) (Reps.one (show Kd.M Kd.string _ _ _ a1 [.string a1] from rfl) (Reps.none _ _)))); intro v103 w27 ho28 hb hg_ hnew_; clear hg_ hnew_; (first | rw [← Ny102.out] at ho28 | (simp only [Int.reduceToNat] at ho28; rw [← Ny102.out] at ho28)); have n0_ := Aside0.mk (Kd.R_lower ho28 (below_size (by repeat (first | (with_reducible first | exact HB.out | apply below_alloc | apply pw_below_drewN | apply below_drew1) | exact HB.out)))); have n1_ := Aside0.mk (below_step (by repeat (first | (with_reducible first | exact HB.out | apply below_alloc | apply pw_below_drewN | apply below_drew1) | exact HB.out)) hb); clear HB; have HO104 := n0_; have HB := n1_; clear n0_ n1_; clear hb ho28; obtain ⟨Ao29, co29, eo29⟩ := Kd.R_slice HO104.out; subst eo29) | (go_at_call 9; (with_reducible refine (debentureref01_Short.calls _ _ y102 true _ ?side1 ?side2 A6.out).mono ?_); (case side1 => repeat (first | exact (Kd.R_reads' HO104.out).2.2 | (with_reducible refine Kd.C_alloc ?_ _) | (with_reducible refine Kd.C_drewN ?_ _) | (with_reducible refine Kd.C_drew ?_))); (case side2 => exact (Kd.R_reads' HO104.out).2.1); rintro e w30 ⟨rfl, hb⟩; have n0_ := Aside0.mk (Kd.R_below (by (with_reducible repeat (first | apply Kd.R_alloc | apply Kd.R_drewN | apply Kd.R_drew)); exact HO104.out) hb); have n1_ := Aside0.mk (below_step (by repeat (first | (with_reducible first | exact HB.out | apply below_alloc | apply pw_below_drewN | apply below_drew1) | exact HB.out)) hb); clear HO104; clear HB; have HO104 := n0_; have HB := n1_; clear n0_ n1_; (try clear hb); (try clear hb2); (try clear hk); (try clear hi)) | (go_at_call 10; (with_reducible refine (debentureref02_May.calls a0 false _ A8.out).mono ?_); rintro e w31 ⟨rfl, hb⟩; have n0_ := Aside0.mk (Kd.R_below (by (with_reducible repeat (first | apply Kd.R_alloc | apply Kd.R_drewN | apply Kd.R_drew)); exact HO104.out) hb); have n1_ := Aside0.mk (below_step (by repeat (first | (with_reducible first | exact HB.out | apply below_alloc | apply pw_below_drewN | apply below_drew1) | exact HB.out)) hb); clear HO104; clear HB; have HO104 := n0_; have HB := n1_; clear n0_ n1_; (try clear hb); (try clear hb2); (try clear hk); (try clear hi)))
     go_meet
     case rel => exact ⟨_, (true), (by first | rfl | (simp; done) | (simp [*]; done)), H', ⟨by first | omega | exact Nat.le_refl _⟩, ⟨by repeat (first | (with_reducible first | exact HB.out | apply below_alloc | apply pw_below_drewN | apply below_drew1) | exact HB.out)⟩⟩
   ·replace c7 := Bool.eq_false_iff.mpr c7
    subst c7
    have H1 : (debenturelaw02_WholeHalves.j0 k a0 a1 true) = some r := by rw [if_neg (show ¬ (false = true) by decide)] at H; exact H
    clear H
    have H := H1
    clear H1
    have H' := Aside0.mk H
    clear H
    go_wp2_with (first | ((with_reducible refine gate_callee (f := 8) rfl ?_); refine goesL_ (some 14) rfl rfl Tryd.func8 (by kernel_rfl) rfl #[] rfl (by (try simp only [List.map_toArray, List.map_cons, List.map_nil]); first | done | rfl | (simp only [List.length_drop, List.length_take]; rfl)) ?_; (with_reducible refine (debenturelaw02_fixed.calls  true _ ?side1 A4.out).mono ?_); (case side1 => exact Laid.below HLD.out (by repeat (first | (with_reducible first | exact HB.out | apply below_alloc | apply pw_below_drewN | apply below_drew1) | exact HB.out))); rintro e w32 ⟨rfl, hb⟩; refine ⟨_, rfl, ?_⟩; have n0_ := Aside0.mk (below_step (by repeat (first | (with_reducible first | exact HB.out | apply below_alloc | apply pw_below_drewN | apply below_drew1) | exact HB.out)) hb); clear HB; have HB := n0_; clear n0_; (try clear hb); (try clear hb2); (try clear hk); (try clear hi)) | ((with_reducible refine gate_dst (N := 19) rfl ?_); (try (refine gate_guard (by rfl) ?_; dsimp only)); refine Kd.R_lit Kd.string _ 9 ?hg (N := 19) ?hd (xs := ([a0, a1] : List ByteArray)) (inner := [.string a0, .string a1]) (ok := fun _ => True) (okp := fun _ => True) ?hr ?hp (fun _ hk => hk) trivial (Below.refl _ _) (Nat.le_refl _) (by simp) ?_; (case hd => rfl); (case hg => rfl); (case hr => first | (go_simp; done) | (go_simp; rfl)); (case hp => exact (Reps.one (show Kd.M Kd.string _ _ _ a0 [.string a0] from rfl) (Reps.one (show Kd.M Kd.string _ _ _ a1 [.string a1] from rfl) (Reps.none _ _)))); intro v103 w33 ho34 hb hg_ hnew_; clear hg_ hnew_; (first | rw [← Ny102.out] at ho34 | (simp only [Int.reduceToNat] at ho34; rw [← Ny102.out] at ho34)); have n0_ := Aside0.mk (Kd.R_lower ho34 (below_size (by repeat (first | (with_reducible first | exact HB.out | apply below_alloc | apply pw_below_drewN | apply below_drew1) | exact HB.out)))); have n1_ := Aside0.mk (below_step (by repeat (first | (with_reducible first | exact HB.out | apply below_alloc | apply pw_below_drewN | apply below_drew1) | exact HB.out)) hb); clear HB; have HO104 := n0_; have HB := n1_; clear n0_ n1_; clear hb ho34; obtain ⟨Ao35, co35, eo35⟩ := Kd.R_slice HO104.out; subst eo35) | (go_at_call 9; (with_reducible refine (debentureref01_Short.calls _ _ y102 false _ ?side1 ?side2 A6.out).mono ?_); (case side1 => repeat (first | exact (Kd.R_reads' HO104.out).2.2 | (with_reducible refine Kd.C_alloc ?_ _) | (with_reducible refine Kd.C_drewN ?_ _) | (with_reducible refine Kd.C_drew ?_))); (case side2 => exact (Kd.R_reads' HO104.out).2.1); rintro e w36 ⟨rfl, hb⟩; have n0_ := Aside0.mk (Kd.R_below (by (with_reducible repeat (first | apply Kd.R_alloc | apply Kd.R_drewN | apply Kd.R_drew)); exact HO104.out) hb); have n1_ := Aside0.mk (below_step (by repeat (first | (with_reducible first | exact HB.out | apply below_alloc | apply pw_below_drewN | apply below_drew1) | exact HB.out)) hb); clear HO104; clear HB; have HO104 := n0_; have HB := n1_; clear n0_ n1_; (try clear hb); (try clear hb2); (try clear hk); (try clear hi)))
    go_meet
    case rel => exact ⟨_, (true), (by first | rfl | (simp; done) | (simp [*]; done)), H', ⟨by first | omega | exact Nat.le_refl _⟩, ⟨by repeat (first | (with_reducible first | exact HB.out | apply below_alloc | apply pw_below_drewN | apply below_drew1) | exact HB.out)⟩⟩
  ·replace c5 := Bool.eq_false_iff.mpr c5
   subst c5
   have H1 : (debenturelaw02_WholeHalves.j0 k a0 a1 true) = some r := by rw [if_neg (show ¬ (false = true) by decide)] at H; exact H
   clear H
   have H := H1
   clear H1
   have H' := Aside0.mk H
   clear H
   go_wp2_with (first | ((with_reducible refine gate_callee (f := 8) rfl ?_); refine goesL_ (some 14) rfl rfl Tryd.func8 (by kernel_rfl) rfl #[] rfl (by (try simp only [List.map_toArray, List.map_cons, List.map_nil]); first | done | rfl | (simp only [List.length_drop, List.length_take]; rfl)) ?_; (with_reducible refine (debenturelaw02_fixed.calls  false _ ?side1 A4.out).mono ?_); (case side1 => exact Laid.below HLD.out (by repeat (first | (with_reducible first | exact HB.out | apply below_alloc | apply pw_below_drewN | apply below_drew1) | exact HB.out))); rintro e w37 ⟨rfl, hb⟩; refine ⟨_, rfl, ?_⟩; have n0_ := Aside0.mk (below_step (by repeat (first | (with_reducible first | exact HB.out | apply below_alloc | apply pw_below_drewN | apply below_drew1) | exact HB.out)) hb); clear HB; have HB := n0_; clear n0_; (try clear hb); (try clear hb2); (try clear hk); (try clear hi)))
   go_meet
   case rel => exact ⟨_, (true), (by first | rfl | (simp; done) | (simp [*]; done)), H', ⟨by first | omega | exact Nat.le_refl _⟩, ⟨by repeat (first | (with_reducible first | exact HB.out | apply below_alloc | apply pw_below_drewN | apply below_drew1) | exact HB.out)⟩⟩
 case rest =>
  clear HC3
  try clear c1
  try clear p2
  try clear c5
  try clear c7
  try clear c8
  try clear c9
  try clear c11
  obtain ⟨kq, x36_2, rfl, HA, HJ2, HB⟩ := hcut
  cases kq with
  | zero => exact absurd HA.out (by simp [debenturelaw02_WholeHalves.j0])
  | succ kj2 =>
   have H := HA.out
   clear HA
   simp only [debenturelaw02_WholeHalves.j0] at H
   by_cases c38 : x36_2 = true
   ·subst c38
    have H1 : ((debenturelaw02_fixed.f).bind fun t108 => (some t108)) = some r := by rw [if_pos rfl] at H; exact H
    clear H
    have H := H1
    clear H1
    replace H := Option.bind_eq_some_iff.mp H
    obtain ⟨t108, A390, H⟩ := H
    replace H : (some t108) = some r := H
    have A39 := Aside0.mk A390
    clear A390
    obtain rfl := Option.some.inj H
    go_wp2_with (first | ((with_reducible refine gate_callee (f := 8) rfl ?_); refine goesL_ (some 37) rfl rfl Tryd.func8 (by kernel_rfl) rfl #[] rfl (by (try simp only [List.map_toArray, List.map_cons, List.map_nil]); first | done | rfl | (simp only [List.length_drop, List.length_take]; rfl)) ?_; (with_reducible refine (debenturelaw02_fixed.calls  t108 _ ?side1 A39.out).mono ?_); (case side1 => exact Laid.below HLD.out (by repeat (first | (with_reducible first | exact HB.out | apply below_alloc | apply pw_below_drewN | apply below_drew1) | exact HB.out))); rintro e w40 ⟨rfl, hb⟩; refine ⟨_, rfl, ?_⟩; have n0_ := Aside0.mk (below_step (by repeat (first | (with_reducible first | exact HB.out | apply below_alloc | apply pw_below_drewN | apply below_drew1) | exact HB.out)) hb); clear HB; have HB := n0_; clear n0_; (try clear hb); (try clear hb2); (try clear hk); (try clear hi)))
    go_ret
    exact ⟨by first | rfl | (simp [errW_none, errW_some] <;> rfl) | (simp [*, errW_none, errW_some] <;> rfl), by repeat (first | (with_reducible first | exact HB.out | apply below_alloc | apply pw_below_drewN | apply below_drew1) | exact HB.out)⟩
   ·replace c38 := Bool.eq_false_iff.mpr c38
    subst c38
    have H1 : ((whole_Div.f a0 (⟨#[50]⟩ : ByteArray)).bind fun bt109 => ((whole_Div.f a0 a1).bind fun bt112 => ((whole_Neg.f a1).bind fun t115 => ((whole_Div.f a0 t115).bind fun bt116 => (if bt109.2.2 = true then (if bt112.2.2 = true then (if bt116.2.2 = true then (if bt109.2.1.toList = ([48] : List UInt8) then ((whole_Add.f bt109.1 bt109.1).bind fun t119 => ((whole_Add.f t119 bt109.2.1).bind fun t120 => (if t120.toList = a0.toList then ((whole_Neg.f bt112.1).bind fun t121 => (if bt116.1.toList = t121.toList then (some (bt116.2.1.toList == bt112.2.1.toList)) else (some false))) else (some false)))) else (if bt109.2.1.toList = ([49] : List UInt8) then ((whole_Add.f bt109.1 bt109.1).bind fun t122 => ((whole_Add.f t122 bt109.2.1).bind fun t123 => (if t123.toList = a0.toList then ((whole_Neg.f bt112.1).bind fun t124 => (if bt116.1.toList = t124.toList then (some (bt116.2.1.toList == bt112.2.1.toList)) else (some false))) else (some false)))) else (some false))) else (some false)) else (some false)) else (some false)))))) = some r := by rw [if_neg (show ¬ (false = true) by decide)] at H; exact H
    clear H
    have H := H1
    clear H1
    replace H := Option.bind_eq_some_iff.mp H
    obtain ⟨⟨t109, t110, t111⟩, A410, H⟩ := H
    replace H : ((whole_Div.f a0 a1).bind fun bt112 => ((whole_Neg.f a1).bind fun t115 => ((whole_Div.f a0 t115).bind fun bt116 => (if t111 = true then (if bt112.2.2 = true then (if bt116.2.2 = true then (if t110.toList = ([48] : List UInt8) then ((whole_Add.f t109 t109).bind fun t119 => ((whole_Add.f t119 t110).bind fun t120 => (if t120.toList = a0.toList then ((whole_Neg.f bt112.1).bind fun t121 => (if bt116.1.toList = t121.toList then (some (bt116.2.1.toList == bt112.2.1.toList)) else (some false))) else (some false)))) else (if t110.toList = ([49] : List UInt8) then ((whole_Add.f t109 t109).bind fun t122 => ((whole_Add.f t122 t110).bind fun t123 => (if t123.toList = a0.toList then ((whole_Neg.f bt112.1).bind fun t124 => (if bt116.1.toList = t124.toList then (some (bt116.2.1.toList == bt112.2.1.toList)) else (some false))) else (some false)))) else (some false))) else (some false)) else (some false)) else (some false))))) = some r := H
    have A41 := Aside0.mk A410
    clear A410
    replace H := Option.bind_eq_some_iff.mp H
    obtain ⟨⟨t112, t113, t114⟩, A420, H⟩ := H
    replace H : ((whole_Neg.f a1).bind fun t115 => ((whole_Div.f a0 t115).bind fun bt116 => (if t111 = true then (if t114 = true then (if bt116.2.2 = true then (if t110.toList = ([48] : List UInt8) then ((whole_Add.f t109 t109).bind fun t119 => ((whole_Add.f t119 t110).bind fun t120 => (if t120.toList = a0.toList then ((whole_Neg.f t112).bind fun t121 => (if bt116.1.toList = t121.toList then (some (bt116.2.1.toList == t113.toList)) else (some false))) else (some false)))) else (if t110.toList = ([49] : List UInt8) then ((whole_Add.f t109 t109).bind fun t122 => ((whole_Add.f t122 t110).bind fun t123 => (if t123.toList = a0.toList then ((whole_Neg.f t112).bind fun t124 => (if bt116.1.toList = t124.toList then (some (bt116.2.1.toList == t113.toList)) else (some false))) else (some false)))) else (some false))) else (some false)) else (some false)) else (some false)))) = some r := H
    have A42 := Aside0.mk A420
    clear A420
    replace H := Option.bind_eq_some_iff.mp H
    obtain ⟨t115, A430, H⟩ := H
    replace H : ((whole_Div.f a0 t115).bind fun bt116 => (if t111 = true then (if t114 = true then (if bt116.2.2 = true then (if t110.toList = ([48] : List UInt8) then ((whole_Add.f t109 t109).bind fun t119 => ((whole_Add.f t119 t110).bind fun t120 => (if t120.toList = a0.toList then ((whole_Neg.f t112).bind fun t121 => (if bt116.1.toList = t121.toList then (some (bt116.2.1.toList == t113.toList)) else (some false))) else (some false)))) else (if t110.toList = ([49] : List UInt8) then ((whole_Add.f t109 t109).bind fun t122 => ((whole_Add.f t122 t110).bind fun t123 => (if t123.toList = a0.toList then ((whole_Neg.f t112).bind fun t124 => (if bt116.1.toList = t124.toList then (some (bt116.2.1.toList == t113.toList)) else (some false))) else (some false)))) else (some false))) else (some false)) else (some false)) else (some false))) = some r := H
    have A43 := Aside0.mk A430
    clear A430
    replace H := Option.bind_eq_some_iff.mp H
    obtain ⟨⟨t116, t117, t118⟩, A440, H⟩ := H
    replace H : (if t111 = true then (if t114 = true then (if t118 = true then (if t110.toList = ([48] : List UInt8) then ((whole_Add.f t109 t109).bind fun t119 => ((whole_Add.f t119 t110).bind fun t120 => (if t120.toList = a0.toList then ((whole_Neg.f t112).bind fun t121 => (if t116.toList = t121.toList then (some (t117.toList == t113.toList)) else (some false))) else (some false)))) else (if t110.toList = ([49] : List UInt8) then ((whole_Add.f t109 t109).bind fun t122 => ((whole_Add.f t122 t110).bind fun t123 => (if t123.toList = a0.toList then ((whole_Neg.f t112).bind fun t124 => (if t116.toList = t124.toList then (some (t117.toList == t113.toList)) else (some false))) else (some false)))) else (some false))) else (some false)) else (some false)) else (some false)) = some r := H
    have A44 := Aside0.mk A440
    clear A440
    by_cases c45 : t111 = true
    ·subst c45
     have H1 : (if t114 = true then (if t118 = true then (if t110.toList = ([48] : List UInt8) then ((whole_Add.f t109 t109).bind fun t119 => ((whole_Add.f t119 t110).bind fun t120 => (if t120.toList = a0.toList then ((whole_Neg.f t112).bind fun t121 => (if t116.toList = t121.toList then (some (t117.toList == t113.toList)) else (some false))) else (some false)))) else (if t110.toList = ([49] : List UInt8) then ((whole_Add.f t109 t109).bind fun t122 => ((whole_Add.f t122 t110).bind fun t123 => (if t123.toList = a0.toList then ((whole_Neg.f t112).bind fun t124 => (if t116.toList = t124.toList then (some (t117.toList == t113.toList)) else (some false))) else (some false)))) else (some false))) else (some false)) else (some false)) = some r := by rw [if_pos rfl] at H; exact H
     clear H
     have H := H1
     clear H1
     by_cases c46 : t114 = true
     ·subst c46
      have H1 : (if t118 = true then (if t110.toList = ([48] : List UInt8) then ((whole_Add.f t109 t109).bind fun t119 => ((whole_Add.f t119 t110).bind fun t120 => (if t120.toList = a0.toList then ((whole_Neg.f t112).bind fun t121 => (if t116.toList = t121.toList then (some (t117.toList == t113.toList)) else (some false))) else (some false)))) else (if t110.toList = ([49] : List UInt8) then ((whole_Add.f t109 t109).bind fun t122 => ((whole_Add.f t122 t110).bind fun t123 => (if t123.toList = a0.toList then ((whole_Neg.f t112).bind fun t124 => (if t116.toList = t124.toList then (some (t117.toList == t113.toList)) else (some false))) else (some false)))) else (some false))) else (some false)) = some r := by rw [if_pos rfl] at H; exact H
      clear H
      have H := H1
      clear H1
      by_cases c47 : t118 = true
      ·subst c47
       have H1 : (if t110.toList = ([48] : List UInt8) then ((whole_Add.f t109 t109).bind fun t119 => ((whole_Add.f t119 t110).bind fun t120 => (if t120.toList = a0.toList then ((whole_Neg.f t112).bind fun t121 => (if t116.toList = t121.toList then (some (t117.toList == t113.toList)) else (some false))) else (some false)))) else (if t110.toList = ([49] : List UInt8) then ((whole_Add.f t109 t109).bind fun t122 => ((whole_Add.f t122 t110).bind fun t123 => (if t123.toList = a0.toList then ((whole_Neg.f t112).bind fun t124 => (if t116.toList = t124.toList then (some (t117.toList == t113.toList)) else (some false))) else (some false)))) else (some false))) = some r := by rw [if_pos rfl] at H; exact H
       clear H
       have H := H1
       clear H1
       by_cases c48 : t110.toList = ([48] : List UInt8)
       ·rw [if_pos c48] at H
        have c48b0 : (t110.toList == ([48] : List UInt8)) = true := beq_iff_eq.mpr c48
        have c48b1 : (t110.toList != ([48] : List UInt8)) = false := bne_eq_false_iff_eq.mpr c48
        clear c48
        replace H := Option.bind_eq_some_iff.mp H
        obtain ⟨t119, A490, H⟩ := H
        replace H : ((whole_Add.f t119 t110).bind fun t120 => (if t120.toList = a0.toList then ((whole_Neg.f t112).bind fun t121 => (if t116.toList = t121.toList then (some (t117.toList == t113.toList)) else (some false))) else (some false))) = some r := H
        have A49 := Aside0.mk A490
        clear A490
        replace H := Option.bind_eq_some_iff.mp H
        obtain ⟨t120, A500, H⟩ := H
        replace H : (if t120.toList = a0.toList then ((whole_Neg.f t112).bind fun t121 => (if t116.toList = t121.toList then (some (t117.toList == t113.toList)) else (some false))) else (some false)) = some r := H
        have A50 := Aside0.mk A500
        clear A500
        by_cases c51 : t120.toList = a0.toList
        ·rw [if_pos c51] at H
         have c51b0 : (t120.toList == a0.toList) = true := beq_iff_eq.mpr c51
         have c51b1 : (t120.toList != a0.toList) = false := bne_eq_false_iff_eq.mpr c51
         clear c51
         replace H := Option.bind_eq_some_iff.mp H
         obtain ⟨t121, A520, H⟩ := H
         replace H : (if t116.toList = t121.toList then (some (t117.toList == t113.toList)) else (some false)) = some r := H
         have A52 := Aside0.mk A520
         clear A520
         by_cases c53 : t116.toList = t121.toList
         ·rw [if_pos c53] at H
          have c53b0 : (t116.toList == t121.toList) = true := beq_iff_eq.mpr c53
          have c53b1 : (t116.toList != t121.toList) = false := bne_eq_false_iff_eq.mpr c53
          clear c53
          obtain rfl := Option.some.inj H
          go_wp2_with (first | ((with_reducible refine gate_callee (f := 16) rfl ?_); refine goesL_ (some 40) rfl rfl Tryd.func16 (by kernel_rfl) rfl #[.string a0, .string (⟨#[50]⟩ : ByteArray)] rfl (by (try simp only [List.map_toArray, List.map_cons, List.map_nil]); first | done | rfl | (simp only [List.length_drop, List.length_take]; rfl)) ?_; (with_reducible refine (whole_Div.calls a0 (⟨#[50]⟩ : ByteArray) t109 t110 true _ ?side1 A41.out).mono ?_); (case side1 => exact Laid.below HLD.out (by repeat (first | (with_reducible first | exact HB.out | apply below_alloc | apply pw_below_drewN | apply below_drew1) | exact HB.out))); rintro e w54 ⟨rfl, hb⟩; refine ⟨_, rfl, ?_⟩; have n0_ := Aside0.mk (below_step (by repeat (first | (with_reducible first | exact HB.out | apply below_alloc | apply pw_below_drewN | apply below_drew1) | exact HB.out)) hb); clear HB; have HB := n0_; clear n0_; (try clear hb); (try clear hb2); (try clear hk); (try clear hi)) | ((with_reducible refine gate_callee (f := 16) rfl ?_); refine goesL_ (some 47) rfl rfl Tryd.func16 (by kernel_rfl) rfl #[.string a0, .string a1] rfl (by (try simp only [List.map_toArray, List.map_cons, List.map_nil]); first | done | rfl | (simp only [List.length_drop, List.length_take]; rfl)) ?_; (with_reducible refine (whole_Div.calls a0 a1 t112 t113 true _ ?side1 A42.out).mono ?_); (case side1 => exact Laid.below HLD.out (by repeat (first | (with_reducible first | exact HB.out | apply below_alloc | apply pw_below_drewN | apply below_drew1) | exact HB.out))); rintro e w55 ⟨rfl, hb⟩; refine ⟨_, rfl, ?_⟩; have n0_ := Aside0.mk (below_step (by repeat (first | (with_reducible first | exact HB.out | apply below_alloc | apply pw_below_drewN | apply below_drew1) | exact HB.out)) hb); clear HB; have HB := n0_; clear n0_; (try clear hb); (try clear hb2); (try clear hk); (try clear hi)) | ((with_reducible refine gate_callee (f := 14) rfl ?_); refine goesL_ (some 54) rfl rfl Tryd.func14 (by kernel_rfl) rfl #[.string a1] rfl (by (try simp only [List.map_toArray, List.map_cons, List.map_nil]); first | done | rfl | (simp only [List.length_drop, List.length_take]; rfl)) ?_; (with_reducible refine (whole_Neg.calls a1 t115 _ A43.out).mono ?_); rintro e w56 ⟨rfl, hb⟩; refine ⟨_, rfl, ?_⟩; have n0_ := Aside0.mk (below_step (by repeat (first | (with_reducible first | exact HB.out | apply below_alloc | apply pw_below_drewN | apply below_drew1) | exact HB.out)) hb); clear HB; have HB := n0_; clear n0_; (try clear hb); (try clear hb2); (try clear hk); (try clear hi)) | ((with_reducible refine gate_callee (f := 16) rfl ?_); refine goesL_ (some 55) rfl rfl Tryd.func16 (by kernel_rfl) rfl #[.string a0, .string t115] rfl (by (try simp only [List.map_toArray, List.map_cons, List.map_nil]); first | done | rfl | (simp only [List.length_drop, List.length_take]; rfl)) ?_; (with_reducible refine (whole_Div.calls a0 t115 t116 t117 true _ ?side1 A44.out).mono ?_); (case side1 => exact Laid.below HLD.out (by repeat (first | (with_reducible first | exact HB.out | apply below_alloc | apply pw_below_drewN | apply below_drew1) | exact HB.out))); rintro e w57 ⟨rfl, hb⟩; refine ⟨_, rfl, ?_⟩; have n0_ := Aside0.mk (below_step (by repeat (first | (with_reducible first | exact HB.out | apply below_alloc | apply pw_below_drewN | apply below_drew1) | exact HB.out)) hb); clear HB; have HB := n0_; clear n0_; (try clear hb); (try clear hb2); (try clear hk); (try clear hi)) | (go_at_call 11; (with_reducible refine (whole_Add.calls t109 t109 t119 _ ?side1 A49.out).mono ?_); (case side1 => exact Laid.below HLD.out (by repeat (first | (with_reducible first | exact HB.out | apply below_alloc | apply pw_below_drewN | apply below_drew1) | exact HB.out))); rintro e w58 ⟨rfl, hb⟩; have n0_ := Aside0.mk (below_step (by repeat (first | (with_reducible first | exact HB.out | apply below_alloc | apply pw_below_drewN | apply below_drew1) | exact HB.out)) hb); clear HB; have HB := n0_; clear n0_; (try clear hb); (try clear hb2); (try clear hk); (try clear hi)) | (go_at_call 11; (with_reducible refine (whole_Add.calls t119 t110 t120 _ ?side1 A50.out).mono ?_); (case side1 => exact Laid.below HLD.out (by repeat (first | (with_reducible first | exact HB.out | apply below_alloc | apply pw_below_drewN | apply below_drew1) | exact HB.out))); rintro e w59 ⟨rfl, hb⟩; have n0_ := Aside0.mk (below_step (by repeat (first | (with_reducible first | exact HB.out | apply below_alloc | apply pw_below_drewN | apply below_drew1) | exact HB.out)) hb); clear HB; have HB := n0_; clear n0_; (try clear hb); (try clear hb2); (try clear hk); (try clear hi)) | (go_at_call 14; (with_reducible refine (whole_Neg.calls t112 t121 _ A52.out).mono ?_); rintro e w60 ⟨rfl, hb⟩; have n0_ := Aside0.mk (below_step (by repeat (first | (with_reducible first | exact HB.out | apply below_alloc | apply pw_below_drewN | apply below_drew1) | exact HB.out)) hb); clear HB; have HB := n0_; clear n0_; (try clear hb); (try clear hb2); (try clear hk); (try clear hi)))
          go_ret
          exact ⟨by first | rfl | (simp [errW_none, errW_some] <;> rfl) | (simp [*, errW_none, errW_some] <;> rfl), by repeat (first | (with_reducible first | exact HB.out | apply below_alloc | apply pw_below_drewN | apply below_drew1) | exact HB.out)⟩
         ·rw [if_neg c53] at H
          have c53b0 : (t116.toList == t121.toList) = false := beq_eq_false_iff_ne.mpr c53
          have c53b1 : (t116.toList != t121.toList) = true := bne_iff_ne.mpr c53
          exact absurd (H.trans (congrArg some hr_.out)) (by decide)
        ·rw [if_neg c51] at H
         have c51b0 : (t120.toList == a0.toList) = false := beq_eq_false_iff_ne.mpr c51
         have c51b1 : (t120.toList != a0.toList) = true := bne_iff_ne.mpr c51
         exact absurd (H.trans (congrArg some hr_.out)) (by decide)
       ·rw [if_neg c48] at H
        have c48b0 : (t110.toList == ([48] : List UInt8)) = false := beq_eq_false_iff_ne.mpr c48
        have c48b1 : (t110.toList != ([48] : List UInt8)) = true := bne_iff_ne.mpr c48
        by_cases c74 : t110.toList = ([49] : List UInt8)
        ·rw [if_pos c74] at H
         have c74b0 : (t110.toList == ([49] : List UInt8)) = true := beq_iff_eq.mpr c74
         have c74b1 : (t110.toList != ([49] : List UInt8)) = false := bne_eq_false_iff_eq.mpr c74
         clear c74
         replace H := Option.bind_eq_some_iff.mp H
         obtain ⟨t122, A750, H⟩ := H
         replace H : ((whole_Add.f t122 t110).bind fun t123 => (if t123.toList = a0.toList then ((whole_Neg.f t112).bind fun t124 => (if t116.toList = t124.toList then (some (t117.toList == t113.toList)) else (some false))) else (some false))) = some r := H
         have A75 := Aside0.mk A750
         clear A750
         replace H := Option.bind_eq_some_iff.mp H
         obtain ⟨t123, A760, H⟩ := H
         replace H : (if t123.toList = a0.toList then ((whole_Neg.f t112).bind fun t124 => (if t116.toList = t124.toList then (some (t117.toList == t113.toList)) else (some false))) else (some false)) = some r := H
         have A76 := Aside0.mk A760
         clear A760
         by_cases c77 : t123.toList = a0.toList
         ·rw [if_pos c77] at H
          have c77b0 : (t123.toList == a0.toList) = true := beq_iff_eq.mpr c77
          have c77b1 : (t123.toList != a0.toList) = false := bne_eq_false_iff_eq.mpr c77
          clear c77
          replace H := Option.bind_eq_some_iff.mp H
          obtain ⟨t124, A780, H⟩ := H
          replace H : (if t116.toList = t124.toList then (some (t117.toList == t113.toList)) else (some false)) = some r := H
          have A78 := Aside0.mk A780
          clear A780
          by_cases c79 : t116.toList = t124.toList
          ·rw [if_pos c79] at H
           have c79b0 : (t116.toList == t124.toList) = true := beq_iff_eq.mpr c79
           have c79b1 : (t116.toList != t124.toList) = false := bne_eq_false_iff_eq.mpr c79
           clear c79
           obtain rfl := Option.some.inj H
           go_wp2_with (first | ((with_reducible refine gate_callee (f := 16) rfl ?_); refine goesL_ (some 40) rfl rfl Tryd.func16 (by kernel_rfl) rfl #[.string a0, .string (⟨#[50]⟩ : ByteArray)] rfl (by (try simp only [List.map_toArray, List.map_cons, List.map_nil]); first | done | rfl | (simp only [List.length_drop, List.length_take]; rfl)) ?_; (with_reducible refine (whole_Div.calls a0 (⟨#[50]⟩ : ByteArray) t109 t110 true _ ?side1 A41.out).mono ?_); (case side1 => exact Laid.below HLD.out (by repeat (first | (with_reducible first | exact HB.out | apply below_alloc | apply pw_below_drewN | apply below_drew1) | exact HB.out))); rintro e w80 ⟨rfl, hb⟩; refine ⟨_, rfl, ?_⟩; have n0_ := Aside0.mk (below_step (by repeat (first | (with_reducible first | exact HB.out | apply below_alloc | apply pw_below_drewN | apply below_drew1) | exact HB.out)) hb); clear HB; have HB := n0_; clear n0_; (try clear hb); (try clear hb2); (try clear hk); (try clear hi)) | ((with_reducible refine gate_callee (f := 16) rfl ?_); refine goesL_ (some 47) rfl rfl Tryd.func16 (by kernel_rfl) rfl #[.string a0, .string a1] rfl (by (try simp only [List.map_toArray, List.map_cons, List.map_nil]); first | done | rfl | (simp only [List.length_drop, List.length_take]; rfl)) ?_; (with_reducible refine (whole_Div.calls a0 a1 t112 t113 true _ ?side1 A42.out).mono ?_); (case side1 => exact Laid.below HLD.out (by repeat (first | (with_reducible first | exact HB.out | apply below_alloc | apply pw_below_drewN | apply below_drew1) | exact HB.out))); rintro e w81 ⟨rfl, hb⟩; refine ⟨_, rfl, ?_⟩; have n0_ := Aside0.mk (below_step (by repeat (first | (with_reducible first | exact HB.out | apply below_alloc | apply pw_below_drewN | apply below_drew1) | exact HB.out)) hb); clear HB; have HB := n0_; clear n0_; (try clear hb); (try clear hb2); (try clear hk); (try clear hi)) | ((with_reducible refine gate_callee (f := 14) rfl ?_); refine goesL_ (some 54) rfl rfl Tryd.func14 (by kernel_rfl) rfl #[.string a1] rfl (by (try simp only [List.map_toArray, List.map_cons, List.map_nil]); first | done | rfl | (simp only [List.length_drop, List.length_take]; rfl)) ?_; (with_reducible refine (whole_Neg.calls a1 t115 _ A43.out).mono ?_); rintro e w82 ⟨rfl, hb⟩; refine ⟨_, rfl, ?_⟩; have n0_ := Aside0.mk (below_step (by repeat (first | (with_reducible first | exact HB.out | apply below_alloc | apply pw_below_drewN | apply below_drew1) | exact HB.out)) hb); clear HB; have HB := n0_; clear n0_; (try clear hb); (try clear hb2); (try clear hk); (try clear hi)) | ((with_reducible refine gate_callee (f := 16) rfl ?_); refine goesL_ (some 55) rfl rfl Tryd.func16 (by kernel_rfl) rfl #[.string a0, .string t115] rfl (by (try simp only [List.map_toArray, List.map_cons, List.map_nil]); first | done | rfl | (simp only [List.length_drop, List.length_take]; rfl)) ?_; (with_reducible refine (whole_Div.calls a0 t115 t116 t117 true _ ?side1 A44.out).mono ?_); (case side1 => exact Laid.below HLD.out (by repeat (first | (with_reducible first | exact HB.out | apply below_alloc | apply pw_below_drewN | apply below_drew1) | exact HB.out))); rintro e w83 ⟨rfl, hb⟩; refine ⟨_, rfl, ?_⟩; have n0_ := Aside0.mk (below_step (by repeat (first | (with_reducible first | exact HB.out | apply below_alloc | apply pw_below_drewN | apply below_drew1) | exact HB.out)) hb); clear HB; have HB := n0_; clear n0_; (try clear hb); (try clear hb2); (try clear hk); (try clear hi)) | (go_at_call 11; (with_reducible refine (whole_Add.calls t109 t109 t122 _ ?side1 A75.out).mono ?_); (case side1 => exact Laid.below HLD.out (by repeat (first | (with_reducible first | exact HB.out | apply below_alloc | apply pw_below_drewN | apply below_drew1) | exact HB.out))); rintro e w84 ⟨rfl, hb⟩; have n0_ := Aside0.mk (below_step (by repeat (first | (with_reducible first | exact HB.out | apply below_alloc | apply pw_below_drewN | apply below_drew1) | exact HB.out)) hb); clear HB; have HB := n0_; clear n0_; (try clear hb); (try clear hb2); (try clear hk); (try clear hi)) | (go_at_call 11; (with_reducible refine (whole_Add.calls t122 t110 t123 _ ?side1 A76.out).mono ?_); (case side1 => exact Laid.below HLD.out (by repeat (first | (with_reducible first | exact HB.out | apply below_alloc | apply pw_below_drewN | apply below_drew1) | exact HB.out))); rintro e w85 ⟨rfl, hb⟩; have n0_ := Aside0.mk (below_step (by repeat (first | (with_reducible first | exact HB.out | apply below_alloc | apply pw_below_drewN | apply below_drew1) | exact HB.out)) hb); clear HB; have HB := n0_; clear n0_; (try clear hb); (try clear hb2); (try clear hk); (try clear hi)) | (go_at_call 14; (with_reducible refine (whole_Neg.calls t112 t124 _ A78.out).mono ?_); rintro e w86 ⟨rfl, hb⟩; have n0_ := Aside0.mk (below_step (by repeat (first | (with_reducible first | exact HB.out | apply below_alloc | apply pw_below_drewN | apply below_drew1) | exact HB.out)) hb); clear HB; have HB := n0_; clear n0_; (try clear hb); (try clear hb2); (try clear hk); (try clear hi)))
           go_ret
           exact ⟨by first | rfl | (simp [errW_none, errW_some] <;> rfl) | (simp [*, errW_none, errW_some] <;> rfl), by repeat (first | (with_reducible first | exact HB.out | apply below_alloc | apply pw_below_drewN | apply below_drew1) | exact HB.out)⟩
          ·rw [if_neg c79] at H
           have c79b0 : (t116.toList == t124.toList) = false := beq_eq_false_iff_ne.mpr c79
           have c79b1 : (t116.toList != t124.toList) = true := bne_iff_ne.mpr c79
           exact absurd (H.trans (congrArg some hr_.out)) (by decide)
         ·rw [if_neg c77] at H
          have c77b0 : (t123.toList == a0.toList) = false := beq_eq_false_iff_ne.mpr c77
          have c77b1 : (t123.toList != a0.toList) = true := bne_iff_ne.mpr c77
          exact absurd (H.trans (congrArg some hr_.out)) (by decide)
        ·rw [if_neg c74] at H
         have c74b0 : (t110.toList == ([49] : List UInt8)) = false := beq_eq_false_iff_ne.mpr c74
         have c74b1 : (t110.toList != ([49] : List UInt8)) = true := bne_iff_ne.mpr c74
         exact absurd (H.trans (congrArg some hr_.out)) (by decide)
      ·replace c47 := Bool.eq_false_iff.mpr c47
       subst c47
       have H1 : (some false) = some r := by rw [if_neg (show ¬ (false = true) by decide)] at H; exact H
       clear H
       have H := H1
       clear H1
       exact absurd (H.trans (congrArg some hr_.out)) (by decide)
     ·replace c46 := Bool.eq_false_iff.mpr c46
      subst c46
      have H1 : (some false) = some r := by rw [if_neg (show ¬ (false = true) by decide)] at H; exact H
      clear H
      have H := H1
      clear H1
      exact absurd (H.trans (congrArg some hr_.out)) (by decide)
    ·replace c45 := Bool.eq_false_iff.mpr c45
     subst c45
     have H1 : (some false) = some r := by rw [if_neg (show ¬ (false = true) by decide)] at H; exact H
     clear H
     have H := H1
     clear H1
     exact absurd (H.trans (congrArg some hr_.out)) (by decide)
end Go.Proofs.YtmkmldkfaehefaaDoor.LWholeHalves

end

-- Written by wip/pp.py of this place (over the kit's print) out of the translation.
section
namespace Go.Proofs.YtmkmldkfaehefaaDoor.LWholeHalves
open Go.RowKit Go.Proofs.YtmkmldkfaehefaaDoorW.PrintWords Go.Proofs.YtmkmldkfaehefaaDoorW.PrintLast Go.Proofs.YtmkmldkfaehefaaDoorW.PrintMore
attribute [local go_sem] max2_int min2_int max_two min_two max_three min_three max_four min_four   -- for this text's walks alone
set_option linter.unusedVariables false
set_option linter.unusedSimpArgs false

end Go.Proofs.YtmkmldkfaehefaaDoor.LWholeHalves

end

section
set_option linter.unusedVariables false
namespace Go.Proofs.YtmkmldkfaehefaaDoor
open Go.RowKit Go.Proofs.YtmkmldkfaehefaaDoorW.PrintWords Go.Proofs.YtmkmldkfaehefaaDoorW.PrintLast Go.Proofs.YtmkmldkfaehefaaDoorW.PrintMore

theorem pureWholeHalves (a0 a1 : ByteArray) (w0 : a0.size ≤ 140737488351232) (w1 : a1.size ≤ 140737488351232) : ∃ k, LWholeHalves.debenturelaw02_WholeHalves.f k a0 a1 = some true := by
  refine ⟨3, ?_⟩
  unfold LWholeHalves.debenturelaw02_WholeHalves.f debenturelaw02_fixed.f
  have hj : LWholeHalves.debenturelaw02_WholeHalves.j0 3 a0 a1 true = some true := by
    simp only [LWholeHalves.debenturelaw02_WholeHalves.j0]
    rfl
  rw [Option.bind_some, if_pos rfl, shorts2, Option.bind_some]
  cases h0 : shortT a0 <;> cases h1 : shortT a1
  all_goals first | exact hj | skip
  have z0 := shortT_le h0
  have z1 := shortT_le h1
  rw [if_pos (by rfl), rMay2 (by omega), Option.bind_some]
  by_cases m0 : mayW a0 = true
  · rw [if_pos m0, rMay2 (by omega), Option.bind_some]
    by_cases m1 : mayW a1 = true
    · rw [if_pos m1]
      obtain ⟨x, rfl, e0⟩ := of_mayW' m0
      obtain ⟨y, rfl, e1⟩ := of_mayW' m1
      rw [intB_beq_zero]
      by_cases hy : y = 0
      · rw [decide_eq_true hy]
        exact hj
      · rw [decide_eq_false hy]
        simp only [LWholeHalves.debenturelaw02_WholeHalves.j0]
        rw [if_neg (by decide)]
        have two : (⟨#[50]⟩ : ByteArray) = intB 2 := by
          have e : intB 2 = natB 2 := intB_nat 2
          rw [e]
          apply bext
          rw [natB_list, dig_small (by omega)]
          rfl
        have st : szI 2 ≤ 2 := by
          have h1 := szI_le 2
          have h2 : sz (2 : Int).natAbs ≤ 1 := sz_le (by decide) (by omega)
          omega
        have s1 := szI_div x y
        have s2 := szI_mod x hy
        have s3 := szI_neg y
        have s4 := szI_div x 2
        have s5 := szI_mod x (show (2 : Int) ≠ 0 by decide)
        have s6 := szI_add (x / 2) (x / 2)
        have s7 := szI_neg (x / y)
        have hy' : -y ≠ 0 := by omega
        have e3 : x / 2 + x / 2 + x % 2 = x := by omega
        have fin : (if (intB (x % -y)).toList = (intB (x % -y)).toList then (some true : Option Bool) else some false) = some true := if_pos rfl
        have one : (intB 1).toList = [49] := by
          have e : intB 1 = natB 1 := intB_nat 1
          rw [e]
          exact natB_toList_one.2 rfl
        rw [two, gDiv (by omega) (by omega) (by decide), Option.bind_some, gDiv (by omega) (by omega) hy, Option.bind_some, gNeg (by omega), Option.bind_some, gDiv (by omega) (by omega) hy', Option.bind_some, if_pos (by rfl), if_pos (by rfl), if_pos (by rfl), Int.ediv_neg, Int.emod_neg]
        rcases (by omega : x % 2 = 0 ∨ x % 2 = 1) with h2 | h2
        · rw [h2] at e3 ⊢
          have z0 : szI 0 ≤ 2 := by
            have h1 := szI_le 0
            have h2 : sz (0 : Int).natAbs ≤ 1 := sz_le (by decide) (by omega)
            omega
          rw [if_pos (intB_toList_zero.2 rfl), gAdd (by omega) (by omega), Option.bind_some, gAdd (by omega) (by omega), Option.bind_some, e3, if_pos rfl, gNeg (by omega), Option.bind_some, if_pos rfl, intB_beq, decide_eq_true rfl]
        · rw [h2] at e3 ⊢
          have z1' : szI 1 ≤ 2 := by
            have h1 := szI_le 1
            have h2 : sz (1 : Int).natAbs ≤ 1 := sz_le (by decide) (by omega)
            omega
          rw [if_neg (fun e => absurd (intB_toList_zero.1 e) (by decide)), if_pos one, gAdd (by omega) (by omega), Option.bind_some, gAdd (by omega) (by omega), Option.bind_some, e3, if_pos rfl, gNeg (by omega), Option.bind_some, if_pos rfl, intB_beq, decide_eq_true rfl]
    · rw [if_neg m1]
      exact hj
  · rw [if_neg m0]
    exact hj
end Go.Proofs.YtmkmldkfaehefaaDoor

end

section
namespace Go.Proofs.YtmkmldkfaehefaaDoor.wholeHalves
open Go.ChangeShapes Go.WideShapes Go.ChangeAt Go.RowKit
open Go.ChangeMaps (open_string shut_string)
set_option linter.unusedVariables false
set_option maxRecDepth 100000 in
theorem lifted (os : Os) (started : os.Started) (H : Type) (enc : TypeId × Value → H) :
    ReturnsInHanded {} Tryd.checked os 7 .any (fun w args => (Rows.wholeHalvesSpec.pre enc Tryd.prog Tryd.f7 Rows.wholeHalvesRow.domain false w args ∧ laidMetH Tryd.prog laidL w) ∧ sizedMet enc Tryd.prog Tryd.f7 (OpenSpec.ofChange Rows.wholeHalvesSpec) false w args)
      (Rows.wholeHalvesSpec.post enc Tryd.prog Tryd.f7 false true false false) := by
  refine returnsInHanded_of_change_and (C := Tryd.checked) (X := fun w _ => laidMetH Tryd.prog laidL w) (fun _ _ _ hh h => h.of_heap hh) own started (by kernel_rfl) Tryd.func7
    (ChangeSpec.witness_shaped (enc := enc) (C := Tryd.checked) (os := os) (X := fun w _ => laidMetH Tryd.prog laidL w) false (World.doorLaid Tryd.prog 4000 os) #[.string ByteArray.empty, .string ByteArray.empty] 8 rfl (World.shaped_of_RefB (by kernel_rfl) (by kernel_rfl)) (by kernel_rfl) (by kernel_rfl) (by kernel_rfl) (door_met os _)) ?_
  intro W base args ds gs before hval0 hW _ hsz0 hL _
  have hsz : (DataW.weightsEach Tryd.prog (Tryd.f7.params.toList ++ Rows.wholeHalvesSpec.plain.varTypes Tryd.prog) (ds ++ gs)).all (· ≤ reachBytes) = true := hsz0
  have hval : ∀ (j : Nat) t v, Tryd.f7.params[j]? = some t → args[j]? = some v → Value.okWide Tryd.prog W .any base t v := hval0
  have hW' := hW
  obtain ⟨p, q, hA0, hV, rfl, hfz, hnd⟩ := hW
  have hA : DataW.TrodAll enc Tryd.prog W 0 (fun _ => true) true Tryd.f7.params.toList args.toList ds p := hA0
  rw [Tryd.params7] at hA hval hsz
  obtain ⟨v0, vs0, d0, ds0, p0, q0, hargs, rfl, rfl, h0, r0⟩ := trodAll_cons hA
  obtain ⟨v1, vs1, d1, ds1, p1, q1, rfl, rfl, rfl, h1, r1⟩ := trodAll_cons r0
  obtain ⟨rfl, rfl, rfl⟩ := trodAll_nil r1
  obtain rfl : args = #[v0, v1] := by cases args; simp_all
  obtain ⟨rfl, rfl⟩ := trodVars_none hV
  obtain ⟨a0, rfl, rfl, rfl, y0⟩ := open_string Tryd.underlying9 (hval 0 9 v0 rfl rfl) h0
  have w0 : a0.size ≤ 140737488351232 := by
    have z := sized_string hsz (j := 0) (t := 9) rfl rfl
    rw [Array.length_toList] at z
    exact z
  obtain ⟨a1, rfl, rfl, rfl, y1⟩ := open_string Tryd.underlying9 (hval 1 9 v1 rfl rfl) h1
  have w1 : a1.size ≤ 140737488351232 := by
    have z := sized_string hsz (j := 1) (t := 9) rfl rfl
    rw [Array.length_toList] at z
    exact z
  clear hA0 hval0 hsz0 hsz
  obtain ⟨k, hf⟩ := pureWholeHalves a0 a1 w0 w1
  refine (LWholeHalves.debenturelaw02_WholeHalves.calls k a0 a1 true W (laid_of hL) ⟨rfl⟩ hf).mono fun e W' ⟨he, bel⟩ => ?_
  subst he
  exact ⟨_, rfl, _, _, _, [], _, [], hW', trodAll_mk1 (shut_bool Tryd.underlying4 _), (trodAll_cons_mk (shut_string Tryd.underlying9 y0) (trodAll_cons_mk (shut_string Tryd.underlying9 y1) trodAll_mk0)), rfl, bel.frame _, fun h => by cases h⟩
theorem over : Rows.WholeHalvesSaid :=
  OpenClaim.holds_of_wide 7 Tryd.f7 rfl rfl rfl rfl rfl rfl rfl ⟨rfl, rfl, rfl, rfl, rfl⟩ rfl rfl rfl rfl rfl (by kernel_rfl) Tryd.func7 (by kernel_rfl)
    (of_decide_eq_true (by kernel_rfl)) (by unfold Func.isWrapper; first | (rw [if_pos (by decide +kernel)]; kernel_rfl) | (rw [if_neg (by decide +kernel)]; exact ⟨rfl, rfl⟩))
    (fun os started H enc _ => lifted os started H enc)
theorem proved : Rows.WholeHalvesCardSaid :=
  Claim7.holds_tied_plain_at .later [] [.data, .data, .data, .sentinel, .sentinel] true (true, "2da19d4324e1b7fc1d51d8615ed06ada97961d6e30aa7afce54110a3552b5e62") true
    over (fun _ h => by cases h) (by kernel_rfl) (fun _ h => by cases h) wholeHalves_row_tie rfl ⟨rfl, rfl⟩ (by kernel_rfl) rfl
    (fun f fn hf hfn => by
      obtain rfl : f = 7 := Option.some.inj ((show Tryd.prog.funcNamed "debenture/debenturelaw02.WholeHalves" = some 7 by kernel_rfl).symm.trans hf) |>.symm
      obtain rfl : fn = Tryd.f7 := (Option.some.inj (Tryd.func7.symm.trans hfn)).symm
      exact ⟨by kernel_rfl, fun j t ht => by
        rw [Tryd.params7] at ht
        have hm : t ∈ [9, 9] := by simpa using Array.mem_of_getElem? ht
        have hall : ([9, 9].all fun u => !Tryd.prog.wantsStandIn u) = true := by kernel_rfl
        exact (show Tryd.prog.wantsStandIn t = false by simpa using List.all_eq_true.1 hall t hm)⟩)
    (by kernel_rfl)
end Go.Proofs.YtmkmldkfaehefaaDoor.wholeHalves
namespace Go.Proofs.YtmkmldkfaehefaaDoor
/-- The card, under a short name, for the claim. -/
theorem wholeHalves_holds : Rows.WholeHalvesCardSaid := wholeHalves.proved
#print axioms wholeHalves_holds
end Go.Proofs.YtmkmldkfaehefaaDoor

end
