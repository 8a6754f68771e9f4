/-
The law WholeDivides holds at every input: its row, and its card, tied to the program's text. Conditions: none beyond the given row's own.
Parts of the proof, in build order: LWholeDivides0, LWholeDivides1, LWholeDivides, PuWholeDivides, RowWholeDivides.
-/
import Derived.Test.YtmkmldkfaehefaaDoorProg
import Derived.Below
import Derived.Deep.Draws
import Derived.Deep.AppendLies
import Derived.Maps.AppendAt
import Derived.OwnWalk
import Derived.Laws.BytesArg
import Derived.Laws.MakeOwn
import Derived.Laws.OwnMore
import Derived.Deep.OwnRows
import Derived.Tactics
import Derived.Lib.ConvBytes
import Derived.Laws.Slices
import Derived.WalkKit
import Derived.KernelRfl
import Derived.RowKit3
import Derived.Deep.LoopGhost
import Derived.Deep.QuietTactic
import Derived.BigQuiet
import Derived.WideLaws
import Derived.Deep.DeepCutAuto
import Derived.Deep.CutBlock
import Derived.Deep.RegionHeld3
import Derived.Laws.Rows
import Derived.Lib.AppendStr
import Derived.ArgAppend
import Derived.Laws.IdiomCopy
import Derived.OrdersHeld
import Derived.Laws.BitsLemmas
import Derived.RowKit
import Derived.Test.YtmkmldkfaehefaaDoorC0
import Derived.Test.YtmkmldkfaehefaaDoorC6
import Derived.Test.YtmkmldkfaehefaaDoorC4
import Derived.Test.YtmkmldkfaehefaaDoorTie
import Derived.Test.YtmkmldkfaehefaaDoorCards
import Derived.SevenTiedAt
-- Written by wip/pp.py of this place (over the kit's print) out of the translation.
section
namespace Go.Proofs.YtmkmldkfaehefaaDoor.LWholeDivides
open Go.RowKit Go.Proofs.YtmkmldkfaehefaaDoorW.PrintWords Go.Proofs.YtmkmldkfaehefaaDoorW.PrintLast Go.Proofs.YtmkmldkfaehefaaDoorW.PrintMore
attribute [local go_sem] max2_int min2_int max_two min_two max_three min_three max_four min_four   -- for this text's walks alone
set_option linter.unusedVariables false
set_option linter.unusedSimpArgs false

def errW : Option Int → Value
 | none => .nilIface
 | some c => .iface 0 (.int .i64 c)
theorem errW_none : errW none = .nilIface := rfl
theorem errW_some (c : Int) : errW (some c) = .iface 0 (.int .i64 c) := rfl

-- the values' own types

end Go.Proofs.YtmkmldkfaehefaaDoor.LWholeDivides

end

-- Written by wip/pp.py of this place (over the kit's print) out of the translation.
section
namespace Go.Proofs.YtmkmldkfaehefaaDoor.LWholeDivides
open Go.RowKit Go.Proofs.YtmkmldkfaehefaaDoorW.PrintWords Go.Proofs.YtmkmldkfaehefaaDoorW.PrintLast Go.Proofs.YtmkmldkfaehefaaDoorW.PrintMore
attribute [local go_sem] max2_int min2_int max_two min_two max_three min_three max_four min_four   -- for this text's walks alone
set_option linter.unusedVariables false
set_option linter.unusedSimpArgs false

-- walked by hand: function 8 (debenturelaw02_fixed)

-- walked by hand: function 9 (debentureref01_Short)

-- walked by hand: function 10 (debentureref02_May)

-- walked by hand: function 11 (whole_Add)

-- walked by hand: function 12 (whole_Mul)

-- walked by hand: function 15 (whole_Sign)

-- walked by hand: function 16 (whole_Div)

-- walked by hand: function 17 (whole_Cmp)

-- walked by hand: function 18 (whole_Abs)

def debenturelaw02_WholeDivides.j0 : Nat → ByteArray → ByteArray → Bool → Option (Bool)
 | 0, _, _, _ => none
 | k + 1, x0, x1, x30 => if x30 = true then ((debenturelaw02_fixed.f).bind fun t108 => (some t108)) else ((whole_Div.f x0 x1).bind fun bt109 => (if bt109.2.2 = true then ((whole_Mul.f bt109.1 x1).bind fun t112 => ((whole_Add.f t112 bt109.2.1).bind fun t113 => (if t113.toList = x0.toList then ((whole_Sign.f bt109.2.1).bind fun t114 => (if t114 ≥ 0 then ((whole_Abs.f x1).bind fun t115 => ((whole_Cmp.f bt109.2.1 t115).bind fun t116 => (some (t116 == (-1))))) else (some false))) else (some false)))) else (some false)))
def debenturelaw02_WholeDivides.f (k : Nat) (a0 : ByteArray) (a1 : ByteArray) : Option (Bool) := (debenturelaw02_fixed.f).bind fun t101 => (if t101 = true then ((debentureref01_Short.f (([a0, a1] : List ByteArray))).bind fun t105 => (if t105 = true then ((debentureref02_May.f a0).bind fun t106 => (if t106 = true then ((debentureref02_May.f a1).bind fun t107 => (if t107 = true then (debenturelaw02_WholeDivides.j0 k a0 a1 (a1.toList == ([48] : List UInt8))) else (debenturelaw02_WholeDivides.j0 k a0 a1 true))) else (debenturelaw02_WholeDivides.j0 k a0 a1 true))) else (debenturelaw02_WholeDivides.j0 k a0 a1 true))) else (debenturelaw02_WholeDivides.j0 k a0 a1 true))
set_option maxHeartbeats 8000000 in
set_option maxRecDepth 100000 in
theorem debenturelaw02_WholeDivides.calls (k : Nat) (a0 : ByteArray) (a1 : ByteArray) (r : Bool) (w : World) (hL_ : Laid w) (hr_ : Aside0 (r = true)) (h : debenturelaw02_WholeDivides.f k a0 a1 = some r) :
  Calls Tryd.prog 4 #[.string a0, .string a1] w fun e w' => e = .returned (.bool r) ∧ Below w.heap.size w w' := by
 have HLD := Aside0.mk hL_
 clear hL_
 have HB := Aside0.mk (Below.refl w.heap.size w)
 have H : ((debenturelaw02_fixed.f).bind fun t101 => (if t101 = true then ((debentureref01_Short.f (([a0, a1] : List ByteArray))).bind fun t105 => (if t105 = true then ((debentureref02_May.f a0).bind fun t106 => (if t106 = true then ((debentureref02_May.f a1).bind fun t107 => (if t107 = true then (debenturelaw02_WholeDivides.j0 k a0 a1 (a1.toList == ([48] : List UInt8))) else (debenturelaw02_WholeDivides.j0 k a0 a1 true))) else (debenturelaw02_WholeDivides.j0 k a0 a1 true))) else (debenturelaw02_WholeDivides.j0 k a0 a1 true))) else (debenturelaw02_WholeDivides.j0 k a0 a1 true))) = some r := h
 clear h
 have HC3 := Aside0.mk H
 clear H
 go_enter Tryd.func4, Tryd.ntmps4
 go_upto_region 1 with (fail)
 go_cut [30] (fun v30 wc => ∃ (kq : Nat) (x30_2 : Bool), v30 = .bool x30_2 ∧ Aside0 (debenturelaw02_WholeDivides.j0 kq a0 a1 x30_2 = some r) ∧ Aside0 (kq ≤ k) ∧ Aside0 (Below w.heap.size w wc))
 case first =>
  have H := HC3.out
  clear HC3
  replace H := Option.bind_eq_some_iff.mp H
  obtain ⟨t101, A40, H⟩ := H
  replace H : (if t101 = true then ((debentureref01_Short.f (([a0, a1] : List ByteArray))).bind fun t105 => (if t105 = true then ((debentureref02_May.f a0).bind fun t106 => (if t106 = true then ((debentureref02_May.f a1).bind fun t107 => (if t107 = true then (debenturelaw02_WholeDivides.j0 k a0 a1 (a1.toList == ([48] : List UInt8))) else (debenturelaw02_WholeDivides.j0 k a0 a1 true))) else (debenturelaw02_WholeDivides.j0 k a0 a1 true))) else (debenturelaw02_WholeDivides.j0 k a0 a1 true))) else (debenturelaw02_WholeDivides.j0 k a0 a1 true)) = some r := H
  have A4 := Aside0.mk A40
  clear A40
  by_cases c5 : t101 = true
  ·subst c5
   have H1 : ((debentureref01_Short.f (([a0, a1] : List ByteArray))).bind fun t105 => (if t105 = true then ((debentureref02_May.f a0).bind fun t106 => (if t106 = true then ((debentureref02_May.f a1).bind fun t107 => (if t107 = true then (debenturelaw02_WholeDivides.j0 k a0 a1 (a1.toList == ([48] : List UInt8))) else (debenturelaw02_WholeDivides.j0 k a0 a1 true))) else (debenturelaw02_WholeDivides.j0 k a0 a1 true))) else (debenturelaw02_WholeDivides.j0 k a0 a1 true))) = some r := by rw [if_pos rfl] at H; exact H
   clear H
   have H := H1
   clear H1
   obtain ⟨y102, hy102⟩ : ∃ y_ : List ByteArray, y_ = (([a0, a1] : List ByteArray)) := ⟨_, rfl⟩
   replace H : ((debentureref01_Short.f y102).bind fun t105 => (if t105 = true then ((debentureref02_May.f a0).bind fun t106 => (if t106 = true then ((debentureref02_May.f a1).bind fun t107 => (if t107 = true then (debenturelaw02_WholeDivides.j0 k a0 a1 (a1.toList == ([48] : List UInt8))) else (debenturelaw02_WholeDivides.j0 k a0 a1 true))) else (debenturelaw02_WholeDivides.j0 k a0 a1 true))) else (debenturelaw02_WholeDivides.j0 k a0 a1 true))) = some r := by first | (rw [hy102]; with_reducible exact H) | (have H2_ := (Option.bind_some _ _).symm.trans H; rw [hy102]; with_reducible exact H2_) | (have H2_ := (Option.bind_some _ _).symm.trans H; with_reducible exact H2_) | with_reducible exact H | (rw [hy102]; exact H) | exact H
   have Ny102 := Aside0.mk hy102
   clear hy102
   replace H := Option.bind_eq_some_iff.mp H
   obtain ⟨t105, A60, H⟩ := H
   replace H : (if t105 = true then ((debentureref02_May.f a0).bind fun t106 => (if t106 = true then ((debentureref02_May.f a1).bind fun t107 => (if t107 = true then (debenturelaw02_WholeDivides.j0 k a0 a1 (a1.toList == ([48] : List UInt8))) else (debenturelaw02_WholeDivides.j0 k a0 a1 true))) else (debenturelaw02_WholeDivides.j0 k a0 a1 true))) else (debenturelaw02_WholeDivides.j0 k a0 a1 true)) = some r := H
   have A6 := Aside0.mk A60
   clear A60
   by_cases c7 : t105 = true
   ·subst c7
    have H1 : ((debentureref02_May.f a0).bind fun t106 => (if t106 = true then ((debentureref02_May.f a1).bind fun t107 => (if t107 = true then (debenturelaw02_WholeDivides.j0 k a0 a1 (a1.toList == ([48] : List UInt8))) else (debenturelaw02_WholeDivides.j0 k a0 a1 true))) else (debenturelaw02_WholeDivides.j0 k a0 a1 true))) = some r := by rw [if_pos rfl] at H; exact H
    clear H
    have H := H1
    clear H1
    replace H := Option.bind_eq_some_iff.mp H
    obtain ⟨t106, A80, H⟩ := H
    replace H : (if t106 = true then ((debentureref02_May.f a1).bind fun t107 => (if t107 = true then (debenturelaw02_WholeDivides.j0 k a0 a1 (a1.toList == ([48] : List UInt8))) else (debenturelaw02_WholeDivides.j0 k a0 a1 true))) else (debenturelaw02_WholeDivides.j0 k a0 a1 true)) = some r := H
    have A8 := Aside0.mk A80
    clear A80
    by_cases c9 : t106 = true
    ·subst c9
     have H1 : ((debentureref02_May.f a1).bind fun t107 => (if t107 = true then (debenturelaw02_WholeDivides.j0 k a0 a1 (a1.toList == ([48] : List UInt8))) else (debenturelaw02_WholeDivides.j0 k a0 a1 true))) = some r := by rw [if_pos rfl] at H; exact H
     clear H
     have H := H1
     clear H1
     replace H := Option.bind_eq_some_iff.mp H
     obtain ⟨t107, A100, H⟩ := H
     replace H : (if t107 = true then (debenturelaw02_WholeDivides.j0 k a0 a1 (a1.toList == ([48] : List UInt8))) else (debenturelaw02_WholeDivides.j0 k a0 a1 true)) = some r := H
     have A10 := Aside0.mk A100
     clear A100
     by_cases c11 : t107 = true
     ·subst c11
      have H1 : (debenturelaw02_WholeDivides.j0 k a0 a1 (a1.toList == ([48] : List UInt8))) = some r := by rw [if_pos rfl] at H; exact H
      clear H
      have H := H1
      clear H1
      have H' := Aside0.mk H
      clear H
      go_wp2_with (first | ((with_reducible refine gate_callee (f := 8) rfl ?_); refine goesL_ (some 8) rfl rfl Tryd.func8 (by kernel_rfl) rfl #[] rfl (by (try simp only [List.map_toArray, List.map_cons, List.map_nil]); first | done | rfl | (simp only [List.length_drop, List.length_take]; rfl)) ?_; (with_reducible refine (debenturelaw02_fixed.calls  true _ ?side1 A4.out).mono ?_); (case side1 => exact Laid.below HLD.out (by repeat (first | (with_reducible first | exact HB.out | apply below_alloc | apply pw_below_drewN | apply below_drew1) | exact HB.out))); rintro e w12 ⟨rfl, hb⟩; refine ⟨_, rfl, ?_⟩; have n0_ := Aside0.mk (below_step (by repeat (first | (with_reducible first | exact HB.out | apply below_alloc | apply pw_below_drewN | apply below_drew1) | exact HB.out)) hb); clear HB; have HB := n0_; clear n0_; (try clear hb); (try clear hb2); (try clear hk); (try clear hi)) | ((with_reducible refine gate_dst (N := 13) rfl ?_); (try (refine gate_guard (by rfl) ?_; dsimp only)); refine Kd.R_lit Kd.string _ 9 ?hg (N := 13) ?hd (xs := ([a0, a1] : List ByteArray)) (inner := [.string a0, .string a1]) (ok := fun _ => True) (okp := fun _ => True) ?hr ?hp (fun _ hk => hk) trivial (Below.refl _ _) (Nat.le_refl _) (by simp) ?_; (case hd => rfl); (case hg => rfl); (case hr => first | (go_simp; done) | (go_simp; rfl)); (case hp => exact (Reps.one (show Kd.M Kd.string _ _ _ a0 [.string a0] from rfl) (Reps.one (show Kd.M Kd.string _ _ _ a1 [.string a1] from rfl) (Reps.none _ _)))); intro v103 w13 ho14 hb hg_ hnew_; clear hg_ hnew_; (first | rw [← Ny102.out] at ho14 | (simp only [Int.reduceToNat] at ho14; rw [← Ny102.out] at ho14)); have n0_ := Aside0.mk (Kd.R_lower ho14 (below_size (by repeat (first | (with_reducible first | exact HB.out | apply below_alloc | apply pw_below_drewN | apply below_drew1) | exact HB.out)))); have n1_ := Aside0.mk (below_step (by repeat (first | (with_reducible first | exact HB.out | apply below_alloc | apply pw_below_drewN | apply below_drew1) | exact HB.out)) hb); clear HB; have HO104 := n0_; have HB := n1_; clear n0_ n1_; clear hb ho14; obtain ⟨Ao15, co15, eo15⟩ := Kd.R_slice HO104.out; subst eo15) | (go_at_call 9; (with_reducible refine (debentureref01_Short.calls _ _ y102 true _ ?side1 ?side2 A6.out).mono ?_); (case side1 => repeat (first | exact (Kd.R_reads' HO104.out).2.2 | (with_reducible refine Kd.C_alloc ?_ _) | (with_reducible refine Kd.C_drewN ?_ _) | (with_reducible refine Kd.C_drew ?_))); (case side2 => exact (Kd.R_reads' HO104.out).2.1); rintro e w16 ⟨rfl, hb⟩; have n0_ := Aside0.mk (Kd.R_below (by (with_reducible repeat (first | apply Kd.R_alloc | apply Kd.R_drewN | apply Kd.R_drew)); exact HO104.out) hb); have n1_ := Aside0.mk (below_step (by repeat (first | (with_reducible first | exact HB.out | apply below_alloc | apply pw_below_drewN | apply below_drew1) | exact HB.out)) hb); clear HO104; clear HB; have HO104 := n0_; have HB := n1_; clear n0_ n1_; (try clear hb); (try clear hb2); (try clear hk); (try clear hi)) | (go_at_call 10; (with_reducible refine (debentureref02_May.calls a0 true _ A8.out).mono ?_); rintro e w17 ⟨rfl, hb⟩; have n0_ := Aside0.mk (Kd.R_below (by (with_reducible repeat (first | apply Kd.R_alloc | apply Kd.R_drewN | apply Kd.R_drew)); exact HO104.out) hb); have n1_ := Aside0.mk (below_step (by repeat (first | (with_reducible first | exact HB.out | apply below_alloc | apply pw_below_drewN | apply below_drew1) | exact HB.out)) hb); clear HO104; clear HB; have HO104 := n0_; have HB := n1_; clear n0_ n1_; (try clear hb); (try clear hb2); (try clear hk); (try clear hi)) | (go_at_call 10; (with_reducible refine (debentureref02_May.calls a1 true _ A10.out).mono ?_); rintro e w18 ⟨rfl, hb⟩; have n0_ := Aside0.mk (Kd.R_below (by (with_reducible repeat (first | apply Kd.R_alloc | apply Kd.R_drewN | apply Kd.R_drew)); exact HO104.out) hb); have n1_ := Aside0.mk (below_step (by repeat (first | (with_reducible first | exact HB.out | apply below_alloc | apply pw_below_drewN | apply below_drew1) | exact HB.out)) hb); clear HO104; clear HB; have HO104 := n0_; have HB := n1_; clear n0_ n1_; (try clear hb); (try clear hb2); (try clear hk); (try clear hi)))
      go_meet
      case rel => exact ⟨_, ((a1.toList == ([48] : List UInt8))), (by first | rfl | (simp; done) | (simp [*]; done)), H', ⟨by first | omega | exact Nat.le_refl _⟩, ⟨by repeat (first | (with_reducible first | exact HB.out | apply below_alloc | apply pw_below_drewN | apply below_drew1) | exact HB.out)⟩⟩
     ·replace c11 := Bool.eq_false_iff.mpr c11
      subst c11
      have H1 : (debenturelaw02_WholeDivides.j0 k a0 a1 true) = some r := by rw [if_neg (show ¬ (false = true) by decide)] at H; exact H
      clear H
      have H := H1
      clear H1
      have H' := Aside0.mk H
      clear H
      go_wp2_with (first | ((with_reducible refine gate_callee (f := 8) rfl ?_); refine goesL_ (some 8) rfl rfl Tryd.func8 (by kernel_rfl) rfl #[] rfl (by (try simp only [List.map_toArray, List.map_cons, List.map_nil]); first | done | rfl | (simp only [List.length_drop, List.length_take]; rfl)) ?_; (with_reducible refine (debenturelaw02_fixed.calls  true _ ?side1 A4.out).mono ?_); (case side1 => exact Laid.below HLD.out (by repeat (first | (with_reducible first | exact HB.out | apply below_alloc | apply pw_below_drewN | apply below_drew1) | exact HB.out))); rintro e w19 ⟨rfl, hb⟩; refine ⟨_, rfl, ?_⟩; have n0_ := Aside0.mk (below_step (by repeat (first | (with_reducible first | exact HB.out | apply below_alloc | apply pw_below_drewN | apply below_drew1) | exact HB.out)) hb); clear HB; have HB := n0_; clear n0_; (try clear hb); (try clear hb2); (try clear hk); (try clear hi)) | ((with_reducible refine gate_dst (N := 13) rfl ?_); (try (refine gate_guard (by rfl) ?_; dsimp only)); refine Kd.R_lit Kd.string _ 9 ?hg (N := 13) ?hd (xs := ([a0, a1] : List ByteArray)) (inner := [.string a0, .string a1]) (ok := fun _ => True) (okp := fun _ => True) ?hr ?hp (fun _ hk => hk) trivial (Below.refl _ _) (Nat.le_refl _) (by simp) ?_; (case hd => rfl); (case hg => rfl); (case hr => first | (go_simp; done) | (go_simp; rfl)); (case hp => exact (Reps.one (show Kd.M Kd.string _ _ _ a0 [.string a0] from rfl) (Reps.one (show Kd.M Kd.string _ _ _ a1 [.string a1] from rfl) (Reps.none _ _)))); intro v103 w20 ho21 hb hg_ hnew_; clear hg_ hnew_; (first | rw [← Ny102.out] at ho21 | (simp only [Int.reduceToNat] at ho21; rw [← Ny102.out] at ho21)); have n0_ := Aside0.mk (Kd.R_lower ho21 (below_size (by repeat (first | (with_reducible first | exact HB.out | apply below_alloc | apply pw_below_drewN | apply below_drew1) | exact HB.out)))); have n1_ := Aside0.mk (below_step (by repeat (first | (with_reducible first | exact HB.out | apply below_alloc | apply pw_below_drewN | apply below_drew1) | exact HB.out)) hb); clear HB; have HO104 := n0_; have HB := n1_; clear n0_ n1_; clear hb ho21; obtain ⟨Ao22, co22, eo22⟩ := Kd.R_slice HO104.out; subst eo22) | (go_at_call 9; (with_reducible refine (debentureref01_Short.calls _ _ y102 true _ ?side1 ?side2 A6.out).mono ?_); (case side1 => repeat (first | exact (Kd.R_reads' HO104.out).2.2 | (with_reducible refine Kd.C_alloc ?_ _) | (with_reducible refine Kd.C_drewN ?_ _) | (with_reducible refine Kd.C_drew ?_))); (case side2 => exact (Kd.R_reads' HO104.out).2.1); rintro e w23 ⟨rfl, hb⟩; have n0_ := Aside0.mk (Kd.R_below (by (with_reducible repeat (first | apply Kd.R_alloc | apply Kd.R_drewN | apply Kd.R_drew)); exact HO104.out) hb); have n1_ := Aside0.mk (below_step (by repeat (first | (with_reducible first | exact HB.out | apply below_alloc | apply pw_below_drewN | apply below_drew1) | exact HB.out)) hb); clear HO104; clear HB; have HO104 := n0_; have HB := n1_; clear n0_ n1_; (try clear hb); (try clear hb2); (try clear hk); (try clear hi)) | (go_at_call 10; (with_reducible refine (debentureref02_May.calls a0 true _ A8.out).mono ?_); rintro e w24 ⟨rfl, hb⟩; have n0_ := Aside0.mk (Kd.R_below (by (with_reducible repeat (first | apply Kd.R_alloc | apply Kd.R_drewN | apply Kd.R_drew)); exact HO104.out) hb); have n1_ := Aside0.mk (below_step (by repeat (first | (with_reducible first | exact HB.out | apply below_alloc | apply pw_below_drewN | apply below_drew1) | exact HB.out)) hb); clear HO104; clear HB; have HO104 := n0_; have HB := n1_; clear n0_ n1_; (try clear hb); (try clear hb2); (try clear hk); (try clear hi)) | (go_at_call 10; (with_reducible refine (debentureref02_May.calls a1 false _ A10.out).mono ?_); rintro e w25 ⟨rfl, hb⟩; have n0_ := Aside0.mk (Kd.R_below (by (with_reducible repeat (first | apply Kd.R_alloc | apply Kd.R_drewN | apply Kd.R_drew)); exact HO104.out) hb); have n1_ := Aside0.mk (below_step (by repeat (first | (with_reducible first | exact HB.out | apply below_alloc | apply pw_below_drewN | apply below_drew1) | exact HB.out)) hb); clear HO104; clear HB; have HO104 := n0_; have HB := n1_; clear n0_ n1_; (try clear hb); (try clear hb2); (try clear hk); (try clear hi)))
      go_meet
      case rel => exact ⟨_, (true), (by first | rfl | (simp; done) | (simp [*]; done)), H', ⟨by first | omega | exact Nat.le_refl _⟩, ⟨by repeat (first | (with_reducible first | exact HB.out | apply below_alloc | apply pw_below_drewN | apply below_drew1) | exact HB.out)⟩⟩
    ·replace c9 := Bool.eq_false_iff.mpr c9
     subst c9
     have H1 : (debenturelaw02_WholeDivides.j0 k a0 a1 true) = some r := by rw [if_neg (show ¬ (false = true) by decide)] at H; exact H
     clear H
     have H := H1
     clear H1
     have H' := Aside0.mk H
     clear H
     go_wp2_with (first | ((with_reducible refine gate_callee (f := 8) rfl ?_); refine goesL_ (some 8) rfl rfl Tryd.func8 (by kernel_rfl) rfl #[] rfl (by (try simp only [List.map_toArray, List.map_cons, List.map_nil]); first | done | rfl | (simp only [List.length_drop, List.length_take]; rfl)) ?_; (with_reducible refine (debenturelaw02_fixed.calls  true _ ?side1 A4.out).mono ?_); (case side1 => exact Laid.below HLD.out (by repeat (first | (with_reducible first | exact HB.out | apply below_alloc | apply pw_below_drewN | apply below_drew1) | exact HB.out))); rintro e w26 ⟨rfl, hb⟩; refine ⟨_, rfl, ?_⟩; have n0_ := Aside0.mk (below_step (by repeat (first | (with_reducible first | exact HB.out | apply below_alloc | apply pw_below_drewN | apply below_drew1) | exact HB.out)) hb); clear HB; have HB := n0_; clear n0_; (try clear hb); (try clear hb2); (try clear hk); (try clear hi)) | ((with_reducible refine gate_dst (N := 13) rfl ?_); (try (refine gate_guard (by rfl) ?_; dsimp only)); refine Kd.R_lit Kd.string _ 9 ?hg (N := 13) ?hd (xs := ([a0, a1] : List ByteArray)) (inner := [.string a0, .string a1]) (ok := fun _ => True) (okp := fun _ => True) ?hr ?hp (fun _ hk => hk) trivial (Below.refl _ _) (Nat.le_refl _) (by simp) ?_; (case hd => rfl); (case hg => rfl); (case hr => first | (go_simp; done) | (go_simp; rfl)); (case hp => exact (Reps.one (show Kd.M Kd.string _ _ _ a0 [.string a0] from rfl) (Reps.one (show Kd.M Kd.string _ _ _ a1 [.string a1] from rfl) (Reps.none _ _)))); intro v103 w27 ho28 hb hg_ hnew_; clear hg_ hnew_; (first | rw [← Ny102.out] at ho28 | (simp only [Int.reduceToNat] at ho28; rw [← Ny102.out] at ho28)); have n0_ := Aside0.mk (Kd.R_lower ho28 (below_size (by repeat (first | (with_reducible first | exact HB.out | apply below_alloc | apply pw_below_drewN | apply below_drew1) | exact HB.out)))); have n1_ := Aside0.mk (below_step (by repeat (first | (with_reducible first | exact HB.out | apply below_alloc | apply pw_below_drewN | apply below_drew1) | exact HB.out)) hb); clear HB; have HO104 := n0_; have HB := n1_; clear n0_ n1_; clear hb ho28; obtain ⟨Ao29, co29, eo29⟩ := Kd.R_slice HO104.out; subst eo29) | (go_at_call 9; (with_reducible refine (debentureref01_Short.calls _ _ y102 true _ ?side1 ?side2 A6.out).mono ?_); (case side1 => repeat (first | exact (Kd.R_reads' HO104.out).2.2 | (with_reducible refine Kd.C_alloc ?_ _) | (with_reducible refine Kd.C_drewN ?_ _) | (with_reducible refine Kd.C_drew ?_))); (case side2 => exact (Kd.R_reads' HO104.out).2.1); rintro e w30 ⟨rfl, hb⟩; have n0_ := Aside0.mk (Kd.R_below (by (with_reducible repeat (first | apply Kd.R_alloc | apply Kd.R_drewN | apply Kd.R_drew)); exact HO104.out) hb); have n1_ := Aside0.mk (below_step (by repeat (first | (with_reducible first | exact HB.out | apply below_alloc | apply pw_below_drewN | apply below_drew1) | exact HB.out)) hb); clear HO104; clear HB; have HO104 := n0_; have HB := n1_; clear n0_ n1_; (try clear hb); (try clear hb2); (try clear hk); (try clear hi)) | (go_at_call 10; (with_reducible refine (debentureref02_May.calls a0 false _ A8.out).mono ?_); rintro e w31 ⟨rfl, hb⟩; have n0_ := Aside0.mk (Kd.R_below (by (with_reducible repeat (first | apply Kd.R_alloc | apply Kd.R_drewN | apply Kd.R_drew)); exact HO104.out) hb); have n1_ := Aside0.mk (below_step (by repeat (first | (with_reducible first | exact HB.out | apply below_alloc | apply pw_below_drewN | apply below_drew1) | exact HB.out)) hb); clear HO104; clear HB; have HO104 := n0_; have HB := n1_; clear n0_ n1_; (try clear hb); (try clear hb2); (try clear hk); (try clear hi)))
     go_meet
     case rel => exact ⟨_, (true), (by first | rfl | (simp; done) | (simp [*]; done)), H', ⟨by first | omega | exact Nat.le_refl _⟩, ⟨by repeat (first | (with_reducible first | exact HB.out | apply below_alloc | apply pw_below_drewN | apply below_drew1) | exact HB.out)⟩⟩
   ·replace c7 := Bool.eq_false_iff.mpr c7
    subst c7
    have H1 : (debenturelaw02_WholeDivides.j0 k a0 a1 true) = some r := by rw [if_neg (show ¬ (false = true) by decide)] at H; exact H
    clear H
    have H := H1
    clear H1
    have H' := Aside0.mk H
    clear H
    go_wp2_with (first | ((with_reducible refine gate_callee (f := 8) rfl ?_); refine goesL_ (some 8) rfl rfl Tryd.func8 (by kernel_rfl) rfl #[] rfl (by (try simp only [List.map_toArray, List.map_cons, List.map_nil]); first | done | rfl | (simp only [List.length_drop, List.length_take]; rfl)) ?_; (with_reducible refine (debenturelaw02_fixed.calls  true _ ?side1 A4.out).mono ?_); (case side1 => exact Laid.below HLD.out (by repeat (first | (with_reducible first | exact HB.out | apply below_alloc | apply pw_below_drewN | apply below_drew1) | exact HB.out))); rintro e w32 ⟨rfl, hb⟩; refine ⟨_, rfl, ?_⟩; have n0_ := Aside0.mk (below_step (by repeat (first | (with_reducible first | exact HB.out | apply below_alloc | apply pw_below_drewN | apply below_drew1) | exact HB.out)) hb); clear HB; have HB := n0_; clear n0_; (try clear hb); (try clear hb2); (try clear hk); (try clear hi)) | ((with_reducible refine gate_dst (N := 13) rfl ?_); (try (refine gate_guard (by rfl) ?_; dsimp only)); refine Kd.R_lit Kd.string _ 9 ?hg (N := 13) ?hd (xs := ([a0, a1] : List ByteArray)) (inner := [.string a0, .string a1]) (ok := fun _ => True) (okp := fun _ => True) ?hr ?hp (fun _ hk => hk) trivial (Below.refl _ _) (Nat.le_refl _) (by simp) ?_; (case hd => rfl); (case hg => rfl); (case hr => first | (go_simp; done) | (go_simp; rfl)); (case hp => exact (Reps.one (show Kd.M Kd.string _ _ _ a0 [.string a0] from rfl) (Reps.one (show Kd.M Kd.string _ _ _ a1 [.string a1] from rfl) (Reps.none _ _)))); intro v103 w33 ho34 hb hg_ hnew_; clear hg_ hnew_; (first | rw [← Ny102.out] at ho34 | (simp only [Int.reduceToNat] at ho34; rw [← Ny102.out] at ho34)); have n0_ := Aside0.mk (Kd.R_lower ho34 (below_size (by repeat (first | (with_reducible first | exact HB.out | apply below_alloc | apply pw_below_drewN | apply below_drew1) | exact HB.out)))); have n1_ := Aside0.mk (below_step (by repeat (first | (with_reducible first | exact HB.out | apply below_alloc | apply pw_below_drewN | apply below_drew1) | exact HB.out)) hb); clear HB; have HO104 := n0_; have HB := n1_; clear n0_ n1_; clear hb ho34; obtain ⟨Ao35, co35, eo35⟩ := Kd.R_slice HO104.out; subst eo35) | (go_at_call 9; (with_reducible refine (debentureref01_Short.calls _ _ y102 false _ ?side1 ?side2 A6.out).mono ?_); (case side1 => repeat (first | exact (Kd.R_reads' HO104.out).2.2 | (with_reducible refine Kd.C_alloc ?_ _) | (with_reducible refine Kd.C_drewN ?_ _) | (with_reducible refine Kd.C_drew ?_))); (case side2 => exact (Kd.R_reads' HO104.out).2.1); rintro e w36 ⟨rfl, hb⟩; have n0_ := Aside0.mk (Kd.R_below (by (with_reducible repeat (first | apply Kd.R_alloc | apply Kd.R_drewN | apply Kd.R_drew)); exact HO104.out) hb); have n1_ := Aside0.mk (below_step (by repeat (first | (with_reducible first | exact HB.out | apply below_alloc | apply pw_below_drewN | apply below_drew1) | exact HB.out)) hb); clear HO104; clear HB; have HO104 := n0_; have HB := n1_; clear n0_ n1_; (try clear hb); (try clear hb2); (try clear hk); (try clear hi)))
    go_meet
    case rel => exact ⟨_, (true), (by first | rfl | (simp; done) | (simp [*]; done)), H', ⟨by first | omega | exact Nat.le_refl _⟩, ⟨by repeat (first | (with_reducible first | exact HB.out | apply below_alloc | apply pw_below_drewN | apply below_drew1) | exact HB.out)⟩⟩
  ·replace c5 := Bool.eq_false_iff.mpr c5
   subst c5
   have H1 : (debenturelaw02_WholeDivides.j0 k a0 a1 true) = some r := by rw [if_neg (show ¬ (false = true) by decide)] at H; exact H
   clear H
   have H := H1
   clear H1
   have H' := Aside0.mk H
   clear H
   go_wp2_with (first | ((with_reducible refine gate_callee (f := 8) rfl ?_); refine goesL_ (some 8) rfl rfl Tryd.func8 (by kernel_rfl) rfl #[] rfl (by (try simp only [List.map_toArray, List.map_cons, List.map_nil]); first | done | rfl | (simp only [List.length_drop, List.length_take]; rfl)) ?_; (with_reducible refine (debenturelaw02_fixed.calls  false _ ?side1 A4.out).mono ?_); (case side1 => exact Laid.below HLD.out (by repeat (first | (with_reducible first | exact HB.out | apply below_alloc | apply pw_below_drewN | apply below_drew1) | exact HB.out))); rintro e w37 ⟨rfl, hb⟩; refine ⟨_, rfl, ?_⟩; have n0_ := Aside0.mk (below_step (by repeat (first | (with_reducible first | exact HB.out | apply below_alloc | apply pw_below_drewN | apply below_drew1) | exact HB.out)) hb); clear HB; have HB := n0_; clear n0_; (try clear hb); (try clear hb2); (try clear hk); (try clear hi)))
   go_meet
   case rel => exact ⟨_, (true), (by first | rfl | (simp; done) | (simp [*]; done)), H', ⟨by first | omega | exact Nat.le_refl _⟩, ⟨by repeat (first | (with_reducible first | exact HB.out | apply below_alloc | apply pw_below_drewN | apply below_drew1) | exact HB.out)⟩⟩
 case rest =>
  clear HC3
  try clear c1
  try clear p2
  try clear c4
  try clear c5
  try clear c7
  try clear c8
  try clear c9
  try clear c11
  obtain ⟨kq, x30_2, rfl, HA, HJ2, HB⟩ := hcut
  cases kq with
  | zero => exact absurd HA.out (by simp [debenturelaw02_WholeDivides.j0])
  | succ kj2 =>
   have H := HA.out
   clear HA
   simp only [debenturelaw02_WholeDivides.j0] at H
   by_cases c38 : x30_2 = true
   ·subst c38
    have H1 : ((debenturelaw02_fixed.f).bind fun t108 => (some t108)) = some r := by rw [if_pos rfl] at H; exact H
    clear H
    have H := H1
    clear H1
    replace H := Option.bind_eq_some_iff.mp H
    obtain ⟨t108, A390, H⟩ := H
    replace H : (some t108) = some r := H
    have A39 := Aside0.mk A390
    clear A390
    obtain rfl := Option.some.inj H
    go_wp2_with (first | ((with_reducible refine gate_callee (f := 8) rfl ?_); refine goesL_ (some 31) rfl rfl Tryd.func8 (by kernel_rfl) rfl #[] rfl (by (try simp only [List.map_toArray, List.map_cons, List.map_nil]); first | done | rfl | (simp only [List.length_drop, List.length_take]; rfl)) ?_; (with_reducible refine (debenturelaw02_fixed.calls  t108 _ ?side1 A39.out).mono ?_); (case side1 => exact Laid.below HLD.out (by repeat (first | (with_reducible first | exact HB.out | apply below_alloc | apply pw_below_drewN | apply below_drew1) | exact HB.out))); rintro e w40 ⟨rfl, hb⟩; refine ⟨_, rfl, ?_⟩; have n0_ := Aside0.mk (below_step (by repeat (first | (with_reducible first | exact HB.out | apply below_alloc | apply pw_below_drewN | apply below_drew1) | exact HB.out)) hb); clear HB; have HB := n0_; clear n0_; (try clear hb); (try clear hb2); (try clear hk); (try clear hi)))
    go_ret
    exact ⟨by first | rfl | (simp [errW_none, errW_some] <;> rfl) | (simp [*, errW_none, errW_some] <;> rfl), by repeat (first | (with_reducible first | exact HB.out | apply below_alloc | apply pw_below_drewN | apply below_drew1) | exact HB.out)⟩
   ·replace c38 := Bool.eq_false_iff.mpr c38
    subst c38
    have H1 : ((whole_Div.f a0 a1).bind fun bt109 => (if bt109.2.2 = true then ((whole_Mul.f bt109.1 a1).bind fun t112 => ((whole_Add.f t112 bt109.2.1).bind fun t113 => (if t113.toList = a0.toList then ((whole_Sign.f bt109.2.1).bind fun t114 => (if t114 ≥ 0 then ((whole_Abs.f a1).bind fun t115 => ((whole_Cmp.f bt109.2.1 t115).bind fun t116 => (some (t116 == (-1))))) else (some false))) else (some false)))) else (some false))) = some r := by rw [if_neg (show ¬ (false = true) by decide)] at H; exact H
    clear H
    have H := H1
    clear H1
    replace H := Option.bind_eq_some_iff.mp H
    obtain ⟨⟨t109, t110, t111⟩, A410, H⟩ := H
    replace H : (if t111 = true then ((whole_Mul.f t109 a1).bind fun t112 => ((whole_Add.f t112 t110).bind fun t113 => (if t113.toList = a0.toList then ((whole_Sign.f t110).bind fun t114 => (if t114 ≥ 0 then ((whole_Abs.f a1).bind fun t115 => ((whole_Cmp.f t110 t115).bind fun t116 => (some (t116 == (-1))))) else (some false))) else (some false)))) else (some false)) = some r := H
    have A41 := Aside0.mk A410
    clear A410
    by_cases c42 : t111 = true
    ·subst c42
     have H1 : ((whole_Mul.f t109 a1).bind fun t112 => ((whole_Add.f t112 t110).bind fun t113 => (if t113.toList = a0.toList then ((whole_Sign.f t110).bind fun t114 => (if t114 ≥ 0 then ((whole_Abs.f a1).bind fun t115 => ((whole_Cmp.f t110 t115).bind fun t116 => (some (t116 == (-1))))) else (some false))) else (some false)))) = some r := by rw [if_pos rfl] at H; exact H
     clear H
     have H := H1
     clear H1
     replace H := Option.bind_eq_some_iff.mp H
     obtain ⟨t112, A430, H⟩ := H
     replace H : ((whole_Add.f t112 t110).bind fun t113 => (if t113.toList = a0.toList then ((whole_Sign.f t110).bind fun t114 => (if t114 ≥ 0 then ((whole_Abs.f a1).bind fun t115 => ((whole_Cmp.f t110 t115).bind fun t116 => (some (t116 == (-1))))) else (some false))) else (some false))) = some r := H
     have A43 := Aside0.mk A430
     clear A430
     replace H := Option.bind_eq_some_iff.mp H
     obtain ⟨t113, A440, H⟩ := H
     replace H : (if t113.toList = a0.toList then ((whole_Sign.f t110).bind fun t114 => (if t114 ≥ 0 then ((whole_Abs.f a1).bind fun t115 => ((whole_Cmp.f t110 t115).bind fun t116 => (some (t116 == (-1))))) else (some false))) else (some false)) = some r := H
     have A44 := Aside0.mk A440
     clear A440
     by_cases c45 : t113.toList = a0.toList
     ·rw [if_pos c45] at H
      have c45b0 : (t113.toList == a0.toList) = true := beq_iff_eq.mpr c45
      have c45b1 : (t113.toList != a0.toList) = false := bne_eq_false_iff_eq.mpr c45
      clear c45
      replace H := Option.bind_eq_some_iff.mp H
      obtain ⟨t114, A460, H⟩ := H
      replace H : (if t114 ≥ 0 then ((whole_Abs.f a1).bind fun t115 => ((whole_Cmp.f t110 t115).bind fun t116 => (some (t116 == (-1))))) else (some false)) = some r := H
      have A46 := Aside0.mk A460
      clear A460
      by_cases c47 : t114 ≥ 0
      ·rw [if_pos c47] at H
       have c47b0 : decide (0 ≤ t114) = true := decide_eq_true c47
       clear c47
       replace H := Option.bind_eq_some_iff.mp H
       obtain ⟨t115, A480, H⟩ := H
       replace H : ((whole_Cmp.f t110 t115).bind fun t116 => (some (t116 == (-1)))) = some r := H
       have A48 := Aside0.mk A480
       clear A480
       replace H := Option.bind_eq_some_iff.mp H
       obtain ⟨t116, A490, H⟩ := H
       replace H : (some (t116 == (-1))) = some r := H
       have A49 := Aside0.mk A490
       clear A490
       obtain rfl := Option.some.inj H
       go_wp2_with (first | ((with_reducible refine gate_callee (f := 16) rfl ?_); refine goesL_ (some 35) rfl rfl Tryd.func16 (by kernel_rfl) rfl #[.string a0, .string a1] rfl (by (try simp only [List.map_toArray, List.map_cons, List.map_nil]); first | done | rfl | (simp only [List.length_drop, List.length_take]; rfl)) ?_; (with_reducible refine (whole_Div.calls a0 a1 t109 t110 true _ ?side1 A41.out).mono ?_); (case side1 => exact Laid.below HLD.out (by repeat (first | (with_reducible first | exact HB.out | apply below_alloc | apply pw_below_drewN | apply below_drew1) | exact HB.out))); rintro e w50 ⟨rfl, hb⟩; refine ⟨_, rfl, ?_⟩; have n0_ := Aside0.mk (below_step (by repeat (first | (with_reducible first | exact HB.out | apply below_alloc | apply pw_below_drewN | apply below_drew1) | exact HB.out)) hb); clear HB; have HB := n0_; clear n0_; (try clear hb); (try clear hb2); (try clear hk); (try clear hi)) | (go_at_call 12; (with_reducible refine (whole_Mul.calls t109 a1 t112 _ ?side1 A43.out).mono ?_); (case side1 => exact Laid.below HLD.out (by repeat (first | (with_reducible first | exact HB.out | apply below_alloc | apply pw_below_drewN | apply below_drew1) | exact HB.out))); rintro e w51 ⟨rfl, hb⟩; have n0_ := Aside0.mk (below_step (by repeat (first | (with_reducible first | exact HB.out | apply below_alloc | apply pw_below_drewN | apply below_drew1) | exact HB.out)) hb); clear HB; have HB := n0_; clear n0_; (try clear hb); (try clear hb2); (try clear hk); (try clear hi)) | (go_at_call 11; (with_reducible refine (whole_Add.calls t112 t110 t113 _ ?side1 A44.out).mono ?_); (case side1 => exact Laid.below HLD.out (by repeat (first | (with_reducible first | exact HB.out | apply below_alloc | apply pw_below_drewN | apply below_drew1) | exact HB.out))); rintro e w52 ⟨rfl, hb⟩; have n0_ := Aside0.mk (below_step (by repeat (first | (with_reducible first | exact HB.out | apply below_alloc | apply pw_below_drewN | apply below_drew1) | exact HB.out)) hb); clear HB; have HB := n0_; clear n0_; (try clear hb); (try clear hb2); (try clear hk); (try clear hi)) | (go_at_call 15; (with_reducible refine (whole_Sign.calls t110 t114 _ A46.out).mono ?_); rintro e w53 ⟨rfl, hb⟩; have n0_ := Aside0.mk (below_step (by repeat (first | (with_reducible first | exact HB.out | apply below_alloc | apply pw_below_drewN | apply below_drew1) | exact HB.out)) hb); clear HB; have HB := n0_; clear n0_; (try clear hb); (try clear hb2); (try clear hk); (try clear hi)) | (go_at_call 18; (with_reducible refine (whole_Abs.calls a1 t115 _ A48.out).mono ?_); rintro e w54 ⟨rfl, hb⟩; have n0_ := Aside0.mk (below_step (by repeat (first | (with_reducible first | exact HB.out | apply below_alloc | apply pw_below_drewN | apply below_drew1) | exact HB.out)) hb); clear HB; have HB := n0_; clear n0_; (try clear hb); (try clear hb2); (try clear hk); (try clear hi)) | (go_at_call 17; (with_reducible refine (whole_Cmp.calls t110 t115 t116 _ A49.out).mono ?_); rintro e w55 ⟨rfl, hb⟩; have n0_ := Aside0.mk (below_step (by repeat (first | (with_reducible first | exact HB.out | apply below_alloc | apply pw_below_drewN | apply below_drew1) | exact HB.out)) hb); clear HB; have HB := n0_; clear n0_; (try clear hb); (try clear hb2); (try clear hk); (try clear hi)))
       go_ret
       exact ⟨by first | rfl | (simp [errW_none, errW_some] <;> rfl) | (simp [*, errW_none, errW_some] <;> rfl), by repeat (first | (with_reducible first | exact HB.out | apply below_alloc | apply pw_below_drewN | apply below_drew1) | exact HB.out)⟩
      ·rw [if_neg c47] at H
       have c47b0 : decide (0 ≤ t114) = false := decide_eq_false c47
       clear c47
       exact absurd (H.trans (congrArg some hr_.out)) (by decide)
     ·rw [if_neg c45] at H
      have c45b0 : (t113.toList == a0.toList) = false := beq_eq_false_iff_ne.mpr c45
      have c45b1 : (t113.toList != a0.toList) = true := bne_iff_ne.mpr c45
      exact absurd (H.trans (congrArg some hr_.out)) (by decide)
    ·replace c42 := Bool.eq_false_iff.mpr c42
     subst c42
     have H1 : (some false) = some r := by rw [if_neg (show ¬ (false = true) by decide)] at H; exact H
     clear H
     have H := H1
     clear H1
     exact absurd (H.trans (congrArg some hr_.out)) (by decide)
end Go.Proofs.YtmkmldkfaehefaaDoor.LWholeDivides

end

-- Written by wip/pp.py of this place (over the kit's print) out of the translation.
section
namespace Go.Proofs.YtmkmldkfaehefaaDoor.LWholeDivides
open Go.RowKit Go.Proofs.YtmkmldkfaehefaaDoorW.PrintWords Go.Proofs.YtmkmldkfaehefaaDoorW.PrintLast Go.Proofs.YtmkmldkfaehefaaDoorW.PrintMore
attribute [local go_sem] max2_int min2_int max_two min_two max_three min_three max_four min_four   -- for this text's walks alone
set_option linter.unusedVariables false
set_option linter.unusedSimpArgs false

end Go.Proofs.YtmkmldkfaehefaaDoor.LWholeDivides

end

section
set_option linter.unusedVariables false
namespace Go.Proofs.YtmkmldkfaehefaaDoor
open Go.RowKit Go.Proofs.YtmkmldkfaehefaaDoorW.PrintWords Go.Proofs.YtmkmldkfaehefaaDoorW.PrintLast Go.Proofs.YtmkmldkfaehefaaDoorW.PrintMore

theorem pureWholeDivides (a0 a1 : ByteArray) (w0 : a0.size ≤ 140737488351232) (w1 : a1.size ≤ 140737488351232) : ∃ k, LWholeDivides.debenturelaw02_WholeDivides.f k a0 a1 = some true := by
  refine ⟨3, ?_⟩
  unfold LWholeDivides.debenturelaw02_WholeDivides.f debenturelaw02_fixed.f
  have hj : LWholeDivides.debenturelaw02_WholeDivides.j0 3 a0 a1 true = some true := by
    simp only [LWholeDivides.debenturelaw02_WholeDivides.j0]
    rfl
  rw [Option.bind_some, if_pos rfl, shorts2, Option.bind_some]
  cases h0 : shortT a0 <;> cases h1 : shortT a1
  all_goals first | exact hj | skip
  have z0 := shortT_le h0
  have z1 := shortT_le h1
  rw [if_pos (by rfl), rMay2 (by omega), Option.bind_some]
  by_cases m0 : mayW a0 = true
  · rw [if_pos m0, rMay2 (by omega), Option.bind_some]
    by_cases m1 : mayW a1 = true
    · rw [if_pos m1]
      obtain ⟨x, rfl, e0⟩ := of_mayW' m0
      obtain ⟨y, rfl, e1⟩ := of_mayW' m1
      rw [intB_beq_zero]
      by_cases hy : y = 0
      · rw [decide_eq_true hy]
        exact hj
      · rw [decide_eq_false hy]
        simp only [LWholeDivides.debenturelaw02_WholeDivides.j0]
        rw [if_neg (by decide)]
        have s1 := szI_div x y
        have s2 := szI_mod x hy
        have s3 := szI_mul (x / y) y
        have s4 := szI_le (y.natAbs : Int)
        have s5 := le_szI y
        rw [Int.natAbs_natCast] at s4
        have h0 := Int.emod_nonneg x hy
        have h1 := emod_abs x hy
        have e3 : x / y * y + x % y = x := by rw [Int.mul_comm]; exact Int.mul_ediv_add_emod x y
        have e4 : Lib.compareInt (x % y) 0 ≥ 0 := by unfold Lib.compareInt; (repeat' split) <;> omega
        rw [gDiv (by omega) (by omega) hy, Option.bind_some, if_pos (by rfl), gMul (by omega) (by omega), Option.bind_some, gAdd (by omega) (by omega), Option.bind_some, e3, if_pos rfl, gSign (by omega), Option.bind_some, if_pos e4, gAbs (by omega), Option.bind_some, gCmp (by omega) (by omega), Option.bind_some, cmp_lt' (by omega)]
        rfl
    · rw [if_neg m1]
      exact hj
  · rw [if_neg m0]
    exact hj
end Go.Proofs.YtmkmldkfaehefaaDoor

end

section
namespace Go.Proofs.YtmkmldkfaehefaaDoor.wholeDivides
open Go.ChangeShapes Go.WideShapes Go.ChangeAt Go.RowKit
open Go.ChangeMaps (open_string shut_string)
set_option linter.unusedVariables false
set_option maxRecDepth 100000 in
theorem lifted (os : Os) (started : os.Started) (H : Type) (enc : TypeId × Value → H) :
    ReturnsInHanded {} Tryd.checked os 4 .any (fun w args => (Rows.wholeDividesSpec.pre enc Tryd.prog Tryd.f4 Rows.wholeDividesRow.domain false w args ∧ laidMetH Tryd.prog laidL w) ∧ sizedMet enc Tryd.prog Tryd.f4 (OpenSpec.ofChange Rows.wholeDividesSpec) false w args)
      (Rows.wholeDividesSpec.post enc Tryd.prog Tryd.f4 false true false false) := by
  refine returnsInHanded_of_change_and (C := Tryd.checked) (X := fun w _ => laidMetH Tryd.prog laidL w) (fun _ _ _ hh h => h.of_heap hh) own started (by kernel_rfl) Tryd.func4
    (ChangeSpec.witness_shaped (enc := enc) (C := Tryd.checked) (os := os) (X := fun w _ => laidMetH Tryd.prog laidL w) false (World.doorLaid Tryd.prog 4000 os) #[.string ByteArray.empty, .string ByteArray.empty] 8 rfl (World.shaped_of_RefB (by kernel_rfl) (by kernel_rfl)) (by kernel_rfl) (by kernel_rfl) (by kernel_rfl) (door_met os _)) ?_
  intro W base args ds gs before hval0 hW _ hsz0 hL _
  have hsz : (DataW.weightsEach Tryd.prog (Tryd.f4.params.toList ++ Rows.wholeDividesSpec.plain.varTypes Tryd.prog) (ds ++ gs)).all (· ≤ reachBytes) = true := hsz0
  have hval : ∀ (j : Nat) t v, Tryd.f4.params[j]? = some t → args[j]? = some v → Value.okWide Tryd.prog W .any base t v := hval0
  have hW' := hW
  obtain ⟨p, q, hA0, hV, rfl, hfz, hnd⟩ := hW
  have hA : DataW.TrodAll enc Tryd.prog W 0 (fun _ => true) true Tryd.f4.params.toList args.toList ds p := hA0
  rw [Tryd.params4] at hA hval hsz
  obtain ⟨v0, vs0, d0, ds0, p0, q0, hargs, rfl, rfl, h0, r0⟩ := trodAll_cons hA
  obtain ⟨v1, vs1, d1, ds1, p1, q1, rfl, rfl, rfl, h1, r1⟩ := trodAll_cons r0
  obtain ⟨rfl, rfl, rfl⟩ := trodAll_nil r1
  obtain rfl : args = #[v0, v1] := by cases args; simp_all
  obtain ⟨rfl, rfl⟩ := trodVars_none hV
  obtain ⟨a0, rfl, rfl, rfl, y0⟩ := open_string Tryd.underlying9 (hval 0 9 v0 rfl rfl) h0
  have w0 : a0.size ≤ 140737488351232 := by
    have z := sized_string hsz (j := 0) (t := 9) rfl rfl
    rw [Array.length_toList] at z
    exact z
  obtain ⟨a1, rfl, rfl, rfl, y1⟩ := open_string Tryd.underlying9 (hval 1 9 v1 rfl rfl) h1
  have w1 : a1.size ≤ 140737488351232 := by
    have z := sized_string hsz (j := 1) (t := 9) rfl rfl
    rw [Array.length_toList] at z
    exact z
  clear hA0 hval0 hsz0 hsz
  obtain ⟨k, hf⟩ := pureWholeDivides a0 a1 w0 w1
  refine (LWholeDivides.debenturelaw02_WholeDivides.calls k a0 a1 true W (laid_of hL) ⟨rfl⟩ hf).mono fun e W' ⟨he, bel⟩ => ?_
  subst he
  exact ⟨_, rfl, _, _, _, [], _, [], hW', trodAll_mk1 (shut_bool Tryd.underlying4 _), (trodAll_cons_mk (shut_string Tryd.underlying9 y0) (trodAll_cons_mk (shut_string Tryd.underlying9 y1) trodAll_mk0)), rfl, bel.frame _, fun h => by cases h⟩
theorem over : Rows.WholeDividesSaid :=
  OpenClaim.holds_of_wide 4 Tryd.f4 rfl rfl rfl rfl rfl rfl rfl ⟨rfl, rfl, rfl, rfl, rfl⟩ rfl rfl rfl rfl rfl (by kernel_rfl) Tryd.func4 (by kernel_rfl)
    (of_decide_eq_true (by kernel_rfl)) (by unfold Func.isWrapper; first | (rw [if_pos (by decide +kernel)]; kernel_rfl) | (rw [if_neg (by decide +kernel)]; exact ⟨rfl, rfl⟩))
    (fun os started H enc _ => lifted os started H enc)
theorem proved : Rows.WholeDividesCardSaid :=
  Claim7.holds_tied_plain_at .later [] [.data, .data, .data, .sentinel, .sentinel] true (true, "2da19d4324e1b7fc1d51d8615ed06ada97961d6e30aa7afce54110a3552b5e62") true
    over (fun _ h => by cases h) (by kernel_rfl) (fun _ h => by cases h) wholeDivides_row_tie rfl ⟨rfl, rfl⟩ (by kernel_rfl) rfl
    (fun f fn hf hfn => by
      obtain rfl : f = 4 := Option.some.inj ((show Tryd.prog.funcNamed "debenture/debenturelaw02.WholeDivides" = some 4 by kernel_rfl).symm.trans hf) |>.symm
      obtain rfl : fn = Tryd.f4 := (Option.some.inj (Tryd.func4.symm.trans hfn)).symm
      exact ⟨by kernel_rfl, fun j t ht => by
        rw [Tryd.params4] at ht
        have hm : t ∈ [9, 9] := by simpa using Array.mem_of_getElem? ht
        have hall : ([9, 9].all fun u => !Tryd.prog.wantsStandIn u) = true := by kernel_rfl
        exact (show Tryd.prog.wantsStandIn t = false by simpa using List.all_eq_true.1 hall t hm)⟩)
    (by kernel_rfl)
end Go.Proofs.YtmkmldkfaehefaaDoor.wholeDivides
namespace Go.Proofs.YtmkmldkfaehefaaDoor
/-- The card, under a short name, for the claim. -/
theorem wholeDivides_holds : Rows.WholeDividesCardSaid := wholeDivides.proved
#print axioms wholeDivides_holds
end Go.Proofs.YtmkmldkfaehefaaDoor

end
