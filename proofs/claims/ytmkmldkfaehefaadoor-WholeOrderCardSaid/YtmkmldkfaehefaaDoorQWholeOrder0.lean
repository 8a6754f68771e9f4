/-
The law WholeOrder holds at every input: its row, and its card, tied to the program's text. Conditions: none beyond the given row's own.
Parts of the proof, in build order: LWholeOrder0, LWholeOrder1, LWholeOrder, PuWholeOrder, RowWholeOrder.
-/
import Derived.Test.YtmkmldkfaehefaaDoorProg
import Derived.Below
import Derived.Deep.Draws
import Derived.Deep.AppendLies
import Derived.Maps.AppendAt
import Derived.OwnWalk
import Derived.Laws.BytesArg
import Derived.Laws.MakeOwn
import Derived.Laws.OwnMore
import Derived.Deep.OwnRows
import Derived.Tactics
import Derived.Lib.ConvBytes
import Derived.Laws.Slices
import Derived.WalkKit
import Derived.KernelRfl
import Derived.RowKit3
import Derived.Deep.LoopGhost
import Derived.Deep.QuietTactic
import Derived.BigQuiet
import Derived.WideLaws
import Derived.Deep.DeepCutAuto
import Derived.Deep.CutBlock
import Derived.Deep.RegionHeld3
import Derived.Laws.Rows
import Derived.Lib.AppendStr
import Derived.ArgAppend
import Derived.Laws.IdiomCopy
import Derived.OrdersHeld
import Derived.Laws.BitsLemmas
import Derived.RowKit
import Derived.Test.YtmkmldkfaehefaaDoorC0
import Derived.Test.YtmkmldkfaehefaaDoorC6
import Derived.Test.YtmkmldkfaehefaaDoorC4
import Derived.Test.YtmkmldkfaehefaaDoorTie
import Derived.Test.YtmkmldkfaehefaaDoorCards
import Derived.SevenTiedAt
-- Written by wip/pp.py of this place (over the kit's print) out of the translation.
section
namespace Go.Proofs.YtmkmldkfaehefaaDoor.LWholeOrder
open Go.RowKit Go.Proofs.YtmkmldkfaehefaaDoorW.PrintWords Go.Proofs.YtmkmldkfaehefaaDoorW.PrintLast Go.Proofs.YtmkmldkfaehefaaDoorW.PrintMore
attribute [local go_sem] max2_int min2_int max_two min_two max_three min_three max_four min_four   -- for this text's walks alone
set_option linter.unusedVariables false
set_option linter.unusedSimpArgs false

def errW : Option Int → Value
 | none => .nilIface
 | some c => .iface 0 (.int .i64 c)
theorem errW_none : errW none = .nilIface := rfl
theorem errW_some (c : Int) : errW (some c) = .iface 0 (.int .i64 c) := rfl

-- the values' own types

end Go.Proofs.YtmkmldkfaehefaaDoor.LWholeOrder

end

-- Written by wip/pp.py of this place (over the kit's print) out of the translation.
section
namespace Go.Proofs.YtmkmldkfaehefaaDoor.LWholeOrder
open Go.RowKit Go.Proofs.YtmkmldkfaehefaaDoorW.PrintWords Go.Proofs.YtmkmldkfaehefaaDoorW.PrintLast Go.Proofs.YtmkmldkfaehefaaDoorW.PrintMore
attribute [local go_sem] max2_int min2_int max_two min_two max_three min_three max_four min_four   -- for this text's walks alone
set_option linter.unusedVariables false
set_option linter.unusedSimpArgs false

-- walked by hand: function 8 (debenturelaw02_fixed)

-- walked by hand: function 9 (debentureref01_Short)

-- walked by hand: function 10 (debentureref02_May)

-- walked by hand: function 11 (whole_Add)

-- walked by hand: function 13 (whole_Sub)

-- walked by hand: function 14 (whole_Neg)

-- walked by hand: function 15 (whole_Sign)

-- walked by hand: function 17 (whole_Cmp)

def debenturelaw02_WholeOrder.j0 : Nat → ByteArray → ByteArray → ByteArray → Bool → Option (Bool)
 | 0, _, _, _, _ => none
 | k + 1, x0, x1, x2, x32 => if x32 = true then ((debenturelaw02_fixed.f).bind fun t109 => (some t109)) else ((whole_Cmp.f x0 x1).bind fun t110 => ((whole_Sub.f x0 x1).bind fun t111 => ((whole_Sign.f t111).bind fun t112 => (if t110 = t112 then ((whole_Cmp.f x1 x0).bind fun t113 => (if t110 = (wrap64 (-t113)) then ((whole_Add.f x0 x2).bind fun t114 => ((whole_Add.f x1 x2).bind fun t115 => ((whole_Cmp.f t114 t115).bind fun t116 => (if t110 = t116 then ((whole_Neg.f x1).bind fun t117 => ((whole_Neg.f x0).bind fun t118 => ((whole_Cmp.f t117 t118).bind fun t119 => (if t110 = t119 then (some ((t110 == 0) == (x0.toList == x1.toList))) else (some false))))) else (some false))))) else (some false))) else (some false)))))
def debenturelaw02_WholeOrder.f (k : Nat) (a0 : ByteArray) (a1 : ByteArray) (a2 : ByteArray) : Option (Bool) := (debenturelaw02_fixed.f).bind fun t101 => (if t101 = true then ((debentureref01_Short.f (([a0, a1, a2] : List ByteArray))).bind fun t105 => (if t105 = true then ((debentureref02_May.f a0).bind fun t106 => (if t106 = true then ((debentureref02_May.f a1).bind fun t107 => (if t107 = true then ((debentureref02_May.f a2).bind fun t108 => (debenturelaw02_WholeOrder.j0 k a0 a1 a2 (!t108))) else (debenturelaw02_WholeOrder.j0 k a0 a1 a2 true))) else (debenturelaw02_WholeOrder.j0 k a0 a1 a2 true))) else (debenturelaw02_WholeOrder.j0 k a0 a1 a2 true))) else (debenturelaw02_WholeOrder.j0 k a0 a1 a2 true))
set_option maxHeartbeats 8000000 in
set_option maxRecDepth 100000 in
theorem debenturelaw02_WholeOrder.calls (k : Nat) (a0 : ByteArray) (a1 : ByteArray) (a2 : ByteArray) (r : Bool) (w : World) (hL_ : Laid w) (hr_ : Aside0 (r = true)) (h : debenturelaw02_WholeOrder.f k a0 a1 a2 = some r) :
  Calls Tryd.prog 5 #[.string a0, .string a1, .string a2] w fun e w' => e = .returned (.bool r) ∧ Below w.heap.size w w' := by
 have HLD := Aside0.mk hL_
 clear hL_
 have HB := Aside0.mk (Below.refl w.heap.size w)
 have H : ((debenturelaw02_fixed.f).bind fun t101 => (if t101 = true then ((debentureref01_Short.f (([a0, a1, a2] : List ByteArray))).bind fun t105 => (if t105 = true then ((debentureref02_May.f a0).bind fun t106 => (if t106 = true then ((debentureref02_May.f a1).bind fun t107 => (if t107 = true then ((debentureref02_May.f a2).bind fun t108 => (debenturelaw02_WholeOrder.j0 k a0 a1 a2 (!t108))) else (debenturelaw02_WholeOrder.j0 k a0 a1 a2 true))) else (debenturelaw02_WholeOrder.j0 k a0 a1 a2 true))) else (debenturelaw02_WholeOrder.j0 k a0 a1 a2 true))) else (debenturelaw02_WholeOrder.j0 k a0 a1 a2 true))) = some r := h
 clear h
 have HC4 := Aside0.mk H
 clear H
 go_enter Tryd.func5, Tryd.ntmps5
 go_upto_region 1 with (fail)
 go_cut [32] (fun v32 wc => ∃ (kq : Nat) (x32_3 : Bool), v32 = .bool x32_3 ∧ Aside0 (debenturelaw02_WholeOrder.j0 kq a0 a1 a2 x32_3 = some r) ∧ Aside0 (kq ≤ k) ∧ Aside0 (Below w.heap.size w wc))
 case first =>
  have H := HC4.out
  clear HC4
  replace H := Option.bind_eq_some_iff.mp H
  obtain ⟨t101, A50, H⟩ := H
  replace H : (if t101 = true then ((debentureref01_Short.f (([a0, a1, a2] : List ByteArray))).bind fun t105 => (if t105 = true then ((debentureref02_May.f a0).bind fun t106 => (if t106 = true then ((debentureref02_May.f a1).bind fun t107 => (if t107 = true then ((debentureref02_May.f a2).bind fun t108 => (debenturelaw02_WholeOrder.j0 k a0 a1 a2 (!t108))) else (debenturelaw02_WholeOrder.j0 k a0 a1 a2 true))) else (debenturelaw02_WholeOrder.j0 k a0 a1 a2 true))) else (debenturelaw02_WholeOrder.j0 k a0 a1 a2 true))) else (debenturelaw02_WholeOrder.j0 k a0 a1 a2 true)) = some r := H
  have A5 := Aside0.mk A50
  clear A50
  by_cases c6 : t101 = true
  ·subst c6
   have H1 : ((debentureref01_Short.f (([a0, a1, a2] : List ByteArray))).bind fun t105 => (if t105 = true then ((debentureref02_May.f a0).bind fun t106 => (if t106 = true then ((debentureref02_May.f a1).bind fun t107 => (if t107 = true then ((debentureref02_May.f a2).bind fun t108 => (debenturelaw02_WholeOrder.j0 k a0 a1 a2 (!t108))) else (debenturelaw02_WholeOrder.j0 k a0 a1 a2 true))) else (debenturelaw02_WholeOrder.j0 k a0 a1 a2 true))) else (debenturelaw02_WholeOrder.j0 k a0 a1 a2 true))) = some r := by rw [if_pos rfl] at H; exact H
   clear H
   have H := H1
   clear H1
   obtain ⟨y102, hy102⟩ : ∃ y_ : List ByteArray, y_ = (([a0, a1, a2] : List ByteArray)) := ⟨_, rfl⟩
   replace H : ((debentureref01_Short.f y102).bind fun t105 => (if t105 = true then ((debentureref02_May.f a0).bind fun t106 => (if t106 = true then ((debentureref02_May.f a1).bind fun t107 => (if t107 = true then ((debentureref02_May.f a2).bind fun t108 => (debenturelaw02_WholeOrder.j0 k a0 a1 a2 (!t108))) else (debenturelaw02_WholeOrder.j0 k a0 a1 a2 true))) else (debenturelaw02_WholeOrder.j0 k a0 a1 a2 true))) else (debenturelaw02_WholeOrder.j0 k a0 a1 a2 true))) = some r := by first | (rw [hy102]; with_reducible exact H) | (have H2_ := (Option.bind_some _ _).symm.trans H; rw [hy102]; with_reducible exact H2_) | (have H2_ := (Option.bind_some _ _).symm.trans H; with_reducible exact H2_) | with_reducible exact H | (rw [hy102]; exact H) | exact H
   have Ny102 := Aside0.mk hy102
   clear hy102
   replace H := Option.bind_eq_some_iff.mp H
   obtain ⟨t105, A70, H⟩ := H
   replace H : (if t105 = true then ((debentureref02_May.f a0).bind fun t106 => (if t106 = true then ((debentureref02_May.f a1).bind fun t107 => (if t107 = true then ((debentureref02_May.f a2).bind fun t108 => (debenturelaw02_WholeOrder.j0 k a0 a1 a2 (!t108))) else (debenturelaw02_WholeOrder.j0 k a0 a1 a2 true))) else (debenturelaw02_WholeOrder.j0 k a0 a1 a2 true))) else (debenturelaw02_WholeOrder.j0 k a0 a1 a2 true)) = some r := H
   have A7 := Aside0.mk A70
   clear A70
   by_cases c8 : t105 = true
   ·subst c8
    have H1 : ((debentureref02_May.f a0).bind fun t106 => (if t106 = true then ((debentureref02_May.f a1).bind fun t107 => (if t107 = true then ((debentureref02_May.f a2).bind fun t108 => (debenturelaw02_WholeOrder.j0 k a0 a1 a2 (!t108))) else (debenturelaw02_WholeOrder.j0 k a0 a1 a2 true))) else (debenturelaw02_WholeOrder.j0 k a0 a1 a2 true))) = some r := by rw [if_pos rfl] at H; exact H
    clear H
    have H := H1
    clear H1
    replace H := Option.bind_eq_some_iff.mp H
    obtain ⟨t106, A90, H⟩ := H
    replace H : (if t106 = true then ((debentureref02_May.f a1).bind fun t107 => (if t107 = true then ((debentureref02_May.f a2).bind fun t108 => (debenturelaw02_WholeOrder.j0 k a0 a1 a2 (!t108))) else (debenturelaw02_WholeOrder.j0 k a0 a1 a2 true))) else (debenturelaw02_WholeOrder.j0 k a0 a1 a2 true)) = some r := H
    have A9 := Aside0.mk A90
    clear A90
    by_cases c10 : t106 = true
    ·subst c10
     have H1 : ((debentureref02_May.f a1).bind fun t107 => (if t107 = true then ((debentureref02_May.f a2).bind fun t108 => (debenturelaw02_WholeOrder.j0 k a0 a1 a2 (!t108))) else (debenturelaw02_WholeOrder.j0 k a0 a1 a2 true))) = some r := by rw [if_pos rfl] at H; exact H
     clear H
     have H := H1
     clear H1
     replace H := Option.bind_eq_some_iff.mp H
     obtain ⟨t107, A110, H⟩ := H
     replace H : (if t107 = true then ((debentureref02_May.f a2).bind fun t108 => (debenturelaw02_WholeOrder.j0 k a0 a1 a2 (!t108))) else (debenturelaw02_WholeOrder.j0 k a0 a1 a2 true)) = some r := H
     have A11 := Aside0.mk A110
     clear A110
     by_cases c12 : t107 = true
     ·subst c12
      have H1 : ((debentureref02_May.f a2).bind fun t108 => (debenturelaw02_WholeOrder.j0 k a0 a1 a2 (!t108))) = some r := by rw [if_pos rfl] at H; exact H
      clear H
      have H := H1
      clear H1
      replace H := Option.bind_eq_some_iff.mp H
      obtain ⟨t108, A130, H⟩ := H
      replace H : (debenturelaw02_WholeOrder.j0 k a0 a1 a2 (!t108)) = some r := H
      have A13 := Aside0.mk A130
      clear A130
      have H' := Aside0.mk H
      clear H
      go_wp2_with (first | ((with_reducible refine gate_callee (f := 8) rfl ?_); refine goesL_ (some 8) rfl rfl Tryd.func8 (by kernel_rfl) rfl #[] rfl (by (try simp only [List.map_toArray, List.map_cons, List.map_nil]); first | done | rfl | (simp only [List.length_drop, List.length_take]; rfl)) ?_; (with_reducible refine (debenturelaw02_fixed.calls  true _ ?side1 A5.out).mono ?_); (case side1 => exact Laid.below HLD.out (by repeat (first | (with_reducible first | exact HB.out | apply below_alloc | apply pw_below_drewN | apply below_drew1) | exact HB.out))); rintro e w14 ⟨rfl, hb⟩; refine ⟨_, rfl, ?_⟩; have n0_ := Aside0.mk (below_step (by repeat (first | (with_reducible first | exact HB.out | apply below_alloc | apply pw_below_drewN | apply below_drew1) | exact HB.out)) hb); clear HB; have HB := n0_; clear n0_; (try clear hb); (try clear hb2); (try clear hk); (try clear hi)) | ((with_reducible refine gate_dst (N := 14) rfl ?_); (try (refine gate_guard (by rfl) ?_; dsimp only)); refine Kd.R_lit Kd.string _ 9 ?hg (N := 14) ?hd (xs := ([a0, a1, a2] : List ByteArray)) (inner := [.string a0, .string a1, .string a2]) (ok := fun _ => True) (okp := fun _ => True) ?hr ?hp (fun _ hk => hk) trivial (Below.refl _ _) (Nat.le_refl _) (by simp) ?_; (case hd => rfl); (case hg => rfl); (case hr => first | (go_simp; done) | (go_simp; rfl)); (case hp => exact (Reps.one (show Kd.M Kd.string _ _ _ a0 [.string a0] from rfl) (Reps.one (show Kd.M Kd.string _ _ _ a1 [.string a1] from rfl) (Reps.one (show Kd.M Kd.string _ _ _ a2 [.string a2] from rfl) (Reps.none _ _))))); intro v103 w15 ho16 hb hg_ hnew_; clear hg_ hnew_; (first | rw [← Ny102.out] at ho16 | (simp only [Int.reduceToNat] at ho16; rw [← Ny102.out] at ho16)); have n0_ := Aside0.mk (Kd.R_lower ho16 (below_size (by repeat (first | (with_reducible first | exact HB.out | apply below_alloc | apply pw_below_drewN | apply below_drew1) | exact HB.out)))); have n1_ := Aside0.mk (below_step (by repeat (first | (with_reducible first | exact HB.out | apply below_alloc | apply pw_below_drewN | apply below_drew1) | exact HB.out)) hb); clear HB; have HO104 := n0_; have HB := n1_; clear n0_ n1_; clear hb ho16; obtain ⟨Ao17, co17, eo17⟩ := Kd.R_slice HO104.out; subst eo17) | (go_at_call 9; (with_reducible refine (debentureref01_Short.calls _ _ y102 true _ ?side1 ?side2 A7.out).mono ?_); (case side1 => repeat (first | exact (Kd.R_reads' HO104.out).2.2 | (with_reducible refine Kd.C_alloc ?_ _) | (with_reducible refine Kd.C_drewN ?_ _) | (with_reducible refine Kd.C_drew ?_))); (case side2 => exact (Kd.R_reads' HO104.out).2.1); rintro e w18 ⟨rfl, hb⟩; have n0_ := Aside0.mk (Kd.R_below (by (with_reducible repeat (first | apply Kd.R_alloc | apply Kd.R_drewN | apply Kd.R_drew)); exact HO104.out) hb); have n1_ := Aside0.mk (below_step (by repeat (first | (with_reducible first | exact HB.out | apply below_alloc | apply pw_below_drewN | apply below_drew1) | exact HB.out)) hb); clear HO104; clear HB; have HO104 := n0_; have HB := n1_; clear n0_ n1_; (try clear hb); (try clear hb2); (try clear hk); (try clear hi)) | (go_at_call 10; (with_reducible refine (debentureref02_May.calls a0 true _ A9.out).mono ?_); rintro e w19 ⟨rfl, hb⟩; have n0_ := Aside0.mk (Kd.R_below (by (with_reducible repeat (first | apply Kd.R_alloc | apply Kd.R_drewN | apply Kd.R_drew)); exact HO104.out) hb); have n1_ := Aside0.mk (below_step (by repeat (first | (with_reducible first | exact HB.out | apply below_alloc | apply pw_below_drewN | apply below_drew1) | exact HB.out)) hb); clear HO104; clear HB; have HO104 := n0_; have HB := n1_; clear n0_ n1_; (try clear hb); (try clear hb2); (try clear hk); (try clear hi)) | (go_at_call 10; (with_reducible refine (debentureref02_May.calls a1 true _ A11.out).mono ?_); rintro e w20 ⟨rfl, hb⟩; have n0_ := Aside0.mk (Kd.R_below (by (with_reducible repeat (first | apply Kd.R_alloc | apply Kd.R_drewN | apply Kd.R_drew)); exact HO104.out) hb); have n1_ := Aside0.mk (below_step (by repeat (first | (with_reducible first | exact HB.out | apply below_alloc | apply pw_below_drewN | apply below_drew1) | exact HB.out)) hb); clear HO104; clear HB; have HO104 := n0_; have HB := n1_; clear n0_ n1_; (try clear hb); (try clear hb2); (try clear hk); (try clear hi)) | (go_at_call 10; (with_reducible refine (debentureref02_May.calls a2 t108 _ A13.out).mono ?_); rintro e w21 ⟨rfl, hb⟩; have n0_ := Aside0.mk (Kd.R_below (by (with_reducible repeat (first | apply Kd.R_alloc | apply Kd.R_drewN | apply Kd.R_drew)); exact HO104.out) hb); have n1_ := Aside0.mk (below_step (by repeat (first | (with_reducible first | exact HB.out | apply below_alloc | apply pw_below_drewN | apply below_drew1) | exact HB.out)) hb); clear HO104; clear HB; have HO104 := n0_; have HB := n1_; clear n0_ n1_; (try clear hb); (try clear hb2); (try clear hk); (try clear hi)))
      go_meet
      case rel => exact ⟨_, (!t108), (by first | rfl | (simp; done) | (simp [*]; done)), H', ⟨by first | omega | exact Nat.le_refl _⟩, ⟨by repeat (first | (with_reducible first | exact HB.out | apply below_alloc | apply pw_below_drewN | apply below_drew1) | exact HB.out)⟩⟩
     ·replace c12 := Bool.eq_false_iff.mpr c12
      subst c12
      have H1 : (debenturelaw02_WholeOrder.j0 k a0 a1 a2 true) = some r := by rw [if_neg (show ¬ (false = true) by decide)] at H; exact H
      clear H
      have H := H1
      clear H1
      have H' := Aside0.mk H
      clear H
      go_wp2_with (first | ((with_reducible refine gate_callee (f := 8) rfl ?_); refine goesL_ (some 8) rfl rfl Tryd.func8 (by kernel_rfl) rfl #[] rfl (by (try simp only [List.map_toArray, List.map_cons, List.map_nil]); first | done | rfl | (simp only [List.length_drop, List.length_take]; rfl)) ?_; (with_reducible refine (debenturelaw02_fixed.calls  true _ ?side1 A5.out).mono ?_); (case side1 => exact Laid.below HLD.out (by repeat (first | (with_reducible first | exact HB.out | apply below_alloc | apply pw_below_drewN | apply below_drew1) | exact HB.out))); rintro e w22 ⟨rfl, hb⟩; refine ⟨_, rfl, ?_⟩; have n0_ := Aside0.mk (below_step (by repeat (first | (with_reducible first | exact HB.out | apply below_alloc | apply pw_below_drewN | apply below_drew1) | exact HB.out)) hb); clear HB; have HB := n0_; clear n0_; (try clear hb); (try clear hb2); (try clear hk); (try clear hi)) | ((with_reducible refine gate_dst (N := 14) rfl ?_); (try (refine gate_guard (by rfl) ?_; dsimp only)); refine Kd.R_lit Kd.string _ 9 ?hg (N := 14) ?hd (xs := ([a0, a1, a2] : List ByteArray)) (inner := [.string a0, .string a1, .string a2]) (ok := fun _ => True) (okp := fun _ => True) ?hr ?hp (fun _ hk => hk) trivial (Below.refl _ _) (Nat.le_refl _) (by simp) ?_; (case hd => rfl); (case hg => rfl); (case hr => first | (go_simp; done) | (go_simp; rfl)); (case hp => exact (Reps.one (show Kd.M Kd.string _ _ _ a0 [.string a0] from rfl) (Reps.one (show Kd.M Kd.string _ _ _ a1 [.string a1] from rfl) (Reps.one (show Kd.M Kd.string _ _ _ a2 [.string a2] from rfl) (Reps.none _ _))))); intro v103 w23 ho24 hb hg_ hnew_; clear hg_ hnew_; (first | rw [← Ny102.out] at ho24 | (simp only [Int.reduceToNat] at ho24; rw [← Ny102.out] at ho24)); have n0_ := Aside0.mk (Kd.R_lower ho24 (below_size (by repeat (first | (with_reducible first | exact HB.out | apply below_alloc | apply pw_below_drewN | apply below_drew1) | exact HB.out)))); have n1_ := Aside0.mk (below_step (by repeat (first | (with_reducible first | exact HB.out | apply below_alloc | apply pw_below_drewN | apply below_drew1) | exact HB.out)) hb); clear HB; have HO104 := n0_; have HB := n1_; clear n0_ n1_; clear hb ho24; obtain ⟨Ao25, co25, eo25⟩ := Kd.R_slice HO104.out; subst eo25) | (go_at_call 9; (with_reducible refine (debentureref01_Short.calls _ _ y102 true _ ?side1 ?side2 A7.out).mono ?_); (case side1 => repeat (first | exact (Kd.R_reads' HO104.out).2.2 | (with_reducible refine Kd.C_alloc ?_ _) | (with_reducible refine Kd.C_drewN ?_ _) | (with_reducible refine Kd.C_drew ?_))); (case side2 => exact (Kd.R_reads' HO104.out).2.1); rintro e w26 ⟨rfl, hb⟩; have n0_ := Aside0.mk (Kd.R_below (by (with_reducible repeat (first | apply Kd.R_alloc | apply Kd.R_drewN | apply Kd.R_drew)); exact HO104.out) hb); have n1_ := Aside0.mk (below_step (by repeat (first | (with_reducible first | exact HB.out | apply below_alloc | apply pw_below_drewN | apply below_drew1) | exact HB.out)) hb); clear HO104; clear HB; have HO104 := n0_; have HB := n1_; clear n0_ n1_; (try clear hb); (try clear hb2); (try clear hk); (try clear hi)) | (go_at_call 10; (with_reducible refine (debentureref02_May.calls a0 true _ A9.out).mono ?_); rintro e w27 ⟨rfl, hb⟩; have n0_ := Aside0.mk (Kd.R_below (by (with_reducible repeat (first | apply Kd.R_alloc | apply Kd.R_drewN | apply Kd.R_drew)); exact HO104.out) hb); have n1_ := Aside0.mk (below_step (by repeat (first | (with_reducible first | exact HB.out | apply below_alloc | apply pw_below_drewN | apply below_drew1) | exact HB.out)) hb); clear HO104; clear HB; have HO104 := n0_; have HB := n1_; clear n0_ n1_; (try clear hb); (try clear hb2); (try clear hk); (try clear hi)) | (go_at_call 10; (with_reducible refine (debentureref02_May.calls a1 false _ A11.out).mono ?_); rintro e w28 ⟨rfl, hb⟩; have n0_ := Aside0.mk (Kd.R_below (by (with_reducible repeat (first | apply Kd.R_alloc | apply Kd.R_drewN | apply Kd.R_drew)); exact HO104.out) hb); have n1_ := Aside0.mk (below_step (by repeat (first | (with_reducible first | exact HB.out | apply below_alloc | apply pw_below_drewN | apply below_drew1) | exact HB.out)) hb); clear HO104; clear HB; have HO104 := n0_; have HB := n1_; clear n0_ n1_; (try clear hb); (try clear hb2); (try clear hk); (try clear hi)))
      go_meet
      case rel => exact ⟨_, (true), (by first | rfl | (simp; done) | (simp [*]; done)), H', ⟨by first | omega | exact Nat.le_refl _⟩, ⟨by repeat (first | (with_reducible first | exact HB.out | apply below_alloc | apply pw_below_drewN | apply below_drew1) | exact HB.out)⟩⟩
    ·replace c10 := Bool.eq_false_iff.mpr c10
     subst c10
     have H1 : (debenturelaw02_WholeOrder.j0 k a0 a1 a2 true) = some r := by rw [if_neg (show ¬ (false = true) by decide)] at H; exact H
     clear H
     have H := H1
     clear H1
     have H' := Aside0.mk H
     clear H
     go_wp2_with (first | ((with_reducible refine gate_callee (f := 8) rfl ?_); refine goesL_ (some 8) rfl rfl Tryd.func8 (by kernel_rfl) rfl #[] rfl (by (try simp only [List.map_toArray, List.map_cons, List.map_nil]); first | done | rfl | (simp only [List.length_drop, List.length_take]; rfl)) ?_; (with_reducible refine (debenturelaw02_fixed.calls  true _ ?side1 A5.out).mono ?_); (case side1 => exact Laid.below HLD.out (by repeat (first | (with_reducible first | exact HB.out | apply below_alloc | apply pw_below_drewN | apply below_drew1) | exact HB.out))); rintro e w29 ⟨rfl, hb⟩; refine ⟨_, rfl, ?_⟩; have n0_ := Aside0.mk (below_step (by repeat (first | (with_reducible first | exact HB.out | apply below_alloc | apply pw_below_drewN | apply below_drew1) | exact HB.out)) hb); clear HB; have HB := n0_; clear n0_; (try clear hb); (try clear hb2); (try clear hk); (try clear hi)) | ((with_reducible refine gate_dst (N := 14) rfl ?_); (try (refine gate_guard (by rfl) ?_; dsimp only)); refine Kd.R_lit Kd.string _ 9 ?hg (N := 14) ?hd (xs := ([a0, a1, a2] : List ByteArray)) (inner := [.string a0, .string a1, .string a2]) (ok := fun _ => True) (okp := fun _ => True) ?hr ?hp (fun _ hk => hk) trivial (Below.refl _ _) (Nat.le_refl _) (by simp) ?_; (case hd => rfl); (case hg => rfl); (case hr => first | (go_simp; done) | (go_simp; rfl)); (case hp => exact (Reps.one (show Kd.M Kd.string _ _ _ a0 [.string a0] from rfl) (Reps.one (show Kd.M Kd.string _ _ _ a1 [.string a1] from rfl) (Reps.one (show Kd.M Kd.string _ _ _ a2 [.string a2] from rfl) (Reps.none _ _))))); intro v103 w30 ho31 hb hg_ hnew_; clear hg_ hnew_; (first | rw [← Ny102.out] at ho31 | (simp only [Int.reduceToNat] at ho31; rw [← Ny102.out] at ho31)); have n0_ := Aside0.mk (Kd.R_lower ho31 (below_size (by repeat (first | (with_reducible first | exact HB.out | apply below_alloc | apply pw_below_drewN | apply below_drew1) | exact HB.out)))); have n1_ := Aside0.mk (below_step (by repeat (first | (with_reducible first | exact HB.out | apply below_alloc | apply pw_below_drewN | apply below_drew1) | exact HB.out)) hb); clear HB; have HO104 := n0_; have HB := n1_; clear n0_ n1_; clear hb ho31; obtain ⟨Ao32, co32, eo32⟩ := Kd.R_slice HO104.out; subst eo32) | (go_at_call 9; (with_reducible refine (debentureref01_Short.calls _ _ y102 true _ ?side1 ?side2 A7.out).mono ?_); (case side1 => repeat (first | exact (Kd.R_reads' HO104.out).2.2 | (with_reducible refine Kd.C_alloc ?_ _) | (with_reducible refine Kd.C_drewN ?_ _) | (with_reducible refine Kd.C_drew ?_))); (case side2 => exact (Kd.R_reads' HO104.out).2.1); rintro e w33 ⟨rfl, hb⟩; have n0_ := Aside0.mk (Kd.R_below (by (with_reducible repeat (first | apply Kd.R_alloc | apply Kd.R_drewN | apply Kd.R_drew)); exact HO104.out) hb); have n1_ := Aside0.mk (below_step (by repeat (first | (with_reducible first | exact HB.out | apply below_alloc | apply pw_below_drewN | apply below_drew1) | exact HB.out)) hb); clear HO104; clear HB; have HO104 := n0_; have HB := n1_; clear n0_ n1_; (try clear hb); (try clear hb2); (try clear hk); (try clear hi)) | (go_at_call 10; (with_reducible refine (debentureref02_May.calls a0 false _ A9.out).mono ?_); rintro e w34 ⟨rfl, hb⟩; have n0_ := Aside0.mk (Kd.R_below (by (with_reducible repeat (first | apply Kd.R_alloc | apply Kd.R_drewN | apply Kd.R_drew)); exact HO104.out) hb); have n1_ := Aside0.mk (below_step (by repeat (first | (with_reducible first | exact HB.out | apply below_alloc | apply pw_below_drewN | apply below_drew1) | exact HB.out)) hb); clear HO104; clear HB; have HO104 := n0_; have HB := n1_; clear n0_ n1_; (try clear hb); (try clear hb2); (try clear hk); (try clear hi)))
     go_meet
     case rel => exact ⟨_, (true), (by first | rfl | (simp; done) | (simp [*]; done)), H', ⟨by first | omega | exact Nat.le_refl _⟩, ⟨by repeat (first | (with_reducible first | exact HB.out | apply below_alloc | apply pw_below_drewN | apply below_drew1) | exact HB.out)⟩⟩
   ·replace c8 := Bool.eq_false_iff.mpr c8
    subst c8
    have H1 : (debenturelaw02_WholeOrder.j0 k a0 a1 a2 true) = some r := by rw [if_neg (show ¬ (false = true) by decide)] at H; exact H
    clear H
    have H := H1
    clear H1
    have H' := Aside0.mk H
    clear H
    go_wp2_with (first | ((with_reducible refine gate_callee (f := 8) rfl ?_); refine goesL_ (some 8) rfl rfl Tryd.func8 (by kernel_rfl) rfl #[] rfl (by (try simp only [List.map_toArray, List.map_cons, List.map_nil]); first | done | rfl | (simp only [List.length_drop, List.length_take]; rfl)) ?_; (with_reducible refine (debenturelaw02_fixed.calls  true _ ?side1 A5.out).mono ?_); (case side1 => exact Laid.below HLD.out (by repeat (first | (with_reducible first | exact HB.out | apply below_alloc | apply pw_below_drewN | apply below_drew1) | exact HB.out))); rintro e w35 ⟨rfl, hb⟩; refine ⟨_, rfl, ?_⟩; have n0_ := Aside0.mk (below_step (by repeat (first | (with_reducible first | exact HB.out | apply below_alloc | apply pw_below_drewN | apply below_drew1) | exact HB.out)) hb); clear HB; have HB := n0_; clear n0_; (try clear hb); (try clear hb2); (try clear hk); (try clear hi)) | ((with_reducible refine gate_dst (N := 14) rfl ?_); (try (refine gate_guard (by rfl) ?_; dsimp only)); refine Kd.R_lit Kd.string _ 9 ?hg (N := 14) ?hd (xs := ([a0, a1, a2] : List ByteArray)) (inner := [.string a0, .string a1, .string a2]) (ok := fun _ => True) (okp := fun _ => True) ?hr ?hp (fun _ hk => hk) trivial (Below.refl _ _) (Nat.le_refl _) (by simp) ?_; (case hd => rfl); (case hg => rfl); (case hr => first | (go_simp; done) | (go_simp; rfl)); (case hp => exact (Reps.one (show Kd.M Kd.string _ _ _ a0 [.string a0] from rfl) (Reps.one (show Kd.M Kd.string _ _ _ a1 [.string a1] from rfl) (Reps.one (show Kd.M Kd.string _ _ _ a2 [.string a2] from rfl) (Reps.none _ _))))); intro v103 w36 ho37 hb hg_ hnew_; clear hg_ hnew_; (first | rw [← Ny102.out] at ho37 | (simp only [Int.reduceToNat] at ho37; rw [← Ny102.out] at ho37)); have n0_ := Aside0.mk (Kd.R_lower ho37 (below_size (by repeat (first | (with_reducible first | exact HB.out | apply below_alloc | apply pw_below_drewN | apply below_drew1) | exact HB.out)))); have n1_ := Aside0.mk (below_step (by repeat (first | (with_reducible first | exact HB.out | apply below_alloc | apply pw_below_drewN | apply below_drew1) | exact HB.out)) hb); clear HB; have HO104 := n0_; have HB := n1_; clear n0_ n1_; clear hb ho37; obtain ⟨Ao38, co38, eo38⟩ := Kd.R_slice HO104.out; subst eo38) | (go_at_call 9; (with_reducible refine (debentureref01_Short.calls _ _ y102 false _ ?side1 ?side2 A7.out).mono ?_); (case side1 => repeat (first | exact (Kd.R_reads' HO104.out).2.2 | (with_reducible refine Kd.C_alloc ?_ _) | (with_reducible refine Kd.C_drewN ?_ _) | (with_reducible refine Kd.C_drew ?_))); (case side2 => exact (Kd.R_reads' HO104.out).2.1); rintro e w39 ⟨rfl, hb⟩; have n0_ := Aside0.mk (Kd.R_below (by (with_reducible repeat (first | apply Kd.R_alloc | apply Kd.R_drewN | apply Kd.R_drew)); exact HO104.out) hb); have n1_ := Aside0.mk (below_step (by repeat (first | (with_reducible first | exact HB.out | apply below_alloc | apply pw_below_drewN | apply below_drew1) | exact HB.out)) hb); clear HO104; clear HB; have HO104 := n0_; have HB := n1_; clear n0_ n1_; (try clear hb); (try clear hb2); (try clear hk); (try clear hi)))
    go_meet
    case rel => exact ⟨_, (true), (by first | rfl | (simp; done) | (simp [*]; done)), H', ⟨by first | omega | exact Nat.le_refl _⟩, ⟨by repeat (first | (with_reducible first | exact HB.out | apply below_alloc | apply pw_below_drewN | apply below_drew1) | exact HB.out)⟩⟩
  ·replace c6 := Bool.eq_false_iff.mpr c6
   subst c6
   have H1 : (debenturelaw02_WholeOrder.j0 k a0 a1 a2 true) = some r := by rw [if_neg (show ¬ (false = true) by decide)] at H; exact H
   clear H
   have H := H1
   clear H1
   have H' := Aside0.mk H
   clear H
   go_wp2_with (first | ((with_reducible refine gate_callee (f := 8) rfl ?_); refine goesL_ (some 8) rfl rfl Tryd.func8 (by kernel_rfl) rfl #[] rfl (by (try simp only [List.map_toArray, List.map_cons, List.map_nil]); first | done | rfl | (simp only [List.length_drop, List.length_take]; rfl)) ?_; (with_reducible refine (debenturelaw02_fixed.calls  false _ ?side1 A5.out).mono ?_); (case side1 => exact Laid.below HLD.out (by repeat (first | (with_reducible first | exact HB.out | apply below_alloc | apply pw_below_drewN | apply below_drew1) | exact HB.out))); rintro e w40 ⟨rfl, hb⟩; refine ⟨_, rfl, ?_⟩; have n0_ := Aside0.mk (below_step (by repeat (first | (with_reducible first | exact HB.out | apply below_alloc | apply pw_below_drewN | apply below_drew1) | exact HB.out)) hb); clear HB; have HB := n0_; clear n0_; (try clear hb); (try clear hb2); (try clear hk); (try clear hi)))
   go_meet
   case rel => exact ⟨_, (true), (by first | rfl | (simp; done) | (simp [*]; done)), H', ⟨by first | omega | exact Nat.le_refl _⟩, ⟨by repeat (first | (with_reducible first | exact HB.out | apply below_alloc | apply pw_below_drewN | apply below_drew1) | exact HB.out)⟩⟩
 case rest =>
  clear HC4
  try clear c1
  try clear p2
  try clear c5
  try clear c6
  try clear c8
  try clear c10
  try clear c12
  obtain ⟨kq, x32_3, rfl, HA, HJ3, HB⟩ := hcut
  cases kq with
  | zero => exact absurd HA.out (by simp [debenturelaw02_WholeOrder.j0])
  | succ kj3 =>
   have H := HA.out
   clear HA
   simp only [debenturelaw02_WholeOrder.j0] at H
   by_cases c41 : x32_3 = true
   ·subst c41
    have H1 : ((debenturelaw02_fixed.f).bind fun t109 => (some t109)) = some r := by rw [if_pos rfl] at H; exact H
    clear H
    have H := H1
    clear H1
    replace H := Option.bind_eq_some_iff.mp H
    obtain ⟨t109, A420, H⟩ := H
    replace H : (some t109) = some r := H
    have A42 := Aside0.mk A420
    clear A420
    obtain rfl := Option.some.inj H
    go_wp2_with (first | ((with_reducible refine gate_callee (f := 8) rfl ?_); refine goesL_ (some 33) rfl rfl Tryd.func8 (by kernel_rfl) rfl #[] rfl (by (try simp only [List.map_toArray, List.map_cons, List.map_nil]); first | done | rfl | (simp only [List.length_drop, List.length_take]; rfl)) ?_; (with_reducible refine (debenturelaw02_fixed.calls  t109 _ ?side1 A42.out).mono ?_); (case side1 => exact Laid.below HLD.out (by repeat (first | (with_reducible first | exact HB.out | apply below_alloc | apply pw_below_drewN | apply below_drew1) | exact HB.out))); rintro e w43 ⟨rfl, hb⟩; refine ⟨_, rfl, ?_⟩; have n0_ := Aside0.mk (below_step (by repeat (first | (with_reducible first | exact HB.out | apply below_alloc | apply pw_below_drewN | apply below_drew1) | exact HB.out)) hb); clear HB; have HB := n0_; clear n0_; (try clear hb); (try clear hb2); (try clear hk); (try clear hi)))
    go_ret
    exact ⟨by first | rfl | (simp [errW_none, errW_some] <;> rfl) | (simp [*, errW_none, errW_some] <;> rfl), by repeat (first | (with_reducible first | exact HB.out | apply below_alloc | apply pw_below_drewN | apply below_drew1) | exact HB.out)⟩
   ·replace c41 := Bool.eq_false_iff.mpr c41
    subst c41
    have H1 : ((whole_Cmp.f a0 a1).bind fun t110 => ((whole_Sub.f a0 a1).bind fun t111 => ((whole_Sign.f t111).bind fun t112 => (if t110 = t112 then ((whole_Cmp.f a1 a0).bind fun t113 => (if t110 = (wrap64 (-t113)) then ((whole_Add.f a0 a2).bind fun t114 => ((whole_Add.f a1 a2).bind fun t115 => ((whole_Cmp.f t114 t115).bind fun t116 => (if t110 = t116 then ((whole_Neg.f a1).bind fun t117 => ((whole_Neg.f a0).bind fun t118 => ((whole_Cmp.f t117 t118).bind fun t119 => (if t110 = t119 then (some ((t110 == 0) == (a0.toList == a1.toList))) else (some false))))) else (some false))))) else (some false))) else (some false))))) = some r := by rw [if_neg (show ¬ (false = true) by decide)] at H; exact H
    clear H
    have H := H1
    clear H1
    replace H := Option.bind_eq_some_iff.mp H
    obtain ⟨t110, A440, H⟩ := H
    replace H : ((whole_Sub.f a0 a1).bind fun t111 => ((whole_Sign.f t111).bind fun t112 => (if t110 = t112 then ((whole_Cmp.f a1 a0).bind fun t113 => (if t110 = (wrap64 (-t113)) then ((whole_Add.f a0 a2).bind fun t114 => ((whole_Add.f a1 a2).bind fun t115 => ((whole_Cmp.f t114 t115).bind fun t116 => (if t110 = t116 then ((whole_Neg.f a1).bind fun t117 => ((whole_Neg.f a0).bind fun t118 => ((whole_Cmp.f t117 t118).bind fun t119 => (if t110 = t119 then (some ((t110 == 0) == (a0.toList == a1.toList))) else (some false))))) else (some false))))) else (some false))) else (some false)))) = some r := H
    have A44 := Aside0.mk A440
    clear A440
    replace H := Option.bind_eq_some_iff.mp H
    obtain ⟨t111, A450, H⟩ := H
    replace H : ((whole_Sign.f t111).bind fun t112 => (if t110 = t112 then ((whole_Cmp.f a1 a0).bind fun t113 => (if t110 = (wrap64 (-t113)) then ((whole_Add.f a0 a2).bind fun t114 => ((whole_Add.f a1 a2).bind fun t115 => ((whole_Cmp.f t114 t115).bind fun t116 => (if t110 = t116 then ((whole_Neg.f a1).bind fun t117 => ((whole_Neg.f a0).bind fun t118 => ((whole_Cmp.f t117 t118).bind fun t119 => (if t110 = t119 then (some ((t110 == 0) == (a0.toList == a1.toList))) else (some false))))) else (some false))))) else (some false))) else (some false))) = some r := H
    have A45 := Aside0.mk A450
    clear A450
    replace H := Option.bind_eq_some_iff.mp H
    obtain ⟨t112, A460, H⟩ := H
    replace H : (if t110 = t112 then ((whole_Cmp.f a1 a0).bind fun t113 => (if t110 = (wrap64 (-t113)) then ((whole_Add.f a0 a2).bind fun t114 => ((whole_Add.f a1 a2).bind fun t115 => ((whole_Cmp.f t114 t115).bind fun t116 => (if t110 = t116 then ((whole_Neg.f a1).bind fun t117 => ((whole_Neg.f a0).bind fun t118 => ((whole_Cmp.f t117 t118).bind fun t119 => (if t110 = t119 then (some ((t110 == 0) == (a0.toList == a1.toList))) else (some false))))) else (some false))))) else (some false))) else (some false)) = some r := H
    have A46 := Aside0.mk A460
    clear A460
    by_cases c47 : t110 = t112
    ·rw [if_pos c47] at H
     have c47b0 : (t110 == t112) = true := beq_iff_eq.mpr c47
     have c47b1 : (t110 != t112) = false := bne_eq_false_iff_eq.mpr c47
     clear c47
     replace H := Option.bind_eq_some_iff.mp H
     obtain ⟨t113, A480, H⟩ := H
     replace H : (if t110 = (wrap64 (-t113)) then ((whole_Add.f a0 a2).bind fun t114 => ((whole_Add.f a1 a2).bind fun t115 => ((whole_Cmp.f t114 t115).bind fun t116 => (if t110 = t116 then ((whole_Neg.f a1).bind fun t117 => ((whole_Neg.f a0).bind fun t118 => ((whole_Cmp.f t117 t118).bind fun t119 => (if t110 = t119 then (some ((t110 == 0) == (a0.toList == a1.toList))) else (some false))))) else (some false))))) else (some false)) = some r := H
     have A48 := Aside0.mk A480
     clear A480
     by_cases c49 : t110 = (wrap64 (-t113))
     ·rw [if_pos c49] at H
      have c49b0 : (t110 == (wrap64 (-t113))) = true := beq_iff_eq.mpr c49
      have c49b1 : (t110 != (wrap64 (-t113))) = false := bne_eq_false_iff_eq.mpr c49
      clear c49
      replace H := Option.bind_eq_some_iff.mp H
      obtain ⟨t114, A500, H⟩ := H
      replace H : ((whole_Add.f a1 a2).bind fun t115 => ((whole_Cmp.f t114 t115).bind fun t116 => (if t110 = t116 then ((whole_Neg.f a1).bind fun t117 => ((whole_Neg.f a0).bind fun t118 => ((whole_Cmp.f t117 t118).bind fun t119 => (if t110 = t119 then (some ((t110 == 0) == (a0.toList == a1.toList))) else (some false))))) else (some false)))) = some r := H
      have A50 := Aside0.mk A500
      clear A500
      replace H := Option.bind_eq_some_iff.mp H
      obtain ⟨t115, A510, H⟩ := H
      replace H : ((whole_Cmp.f t114 t115).bind fun t116 => (if t110 = t116 then ((whole_Neg.f a1).bind fun t117 => ((whole_Neg.f a0).bind fun t118 => ((whole_Cmp.f t117 t118).bind fun t119 => (if t110 = t119 then (some ((t110 == 0) == (a0.toList == a1.toList))) else (some false))))) else (some false))) = some r := H
      have A51 := Aside0.mk A510
      clear A510
      replace H := Option.bind_eq_some_iff.mp H
      obtain ⟨t116, A520, H⟩ := H
      replace H : (if t110 = t116 then ((whole_Neg.f a1).bind fun t117 => ((whole_Neg.f a0).bind fun t118 => ((whole_Cmp.f t117 t118).bind fun t119 => (if t110 = t119 then (some ((t110 == 0) == (a0.toList == a1.toList))) else (some false))))) else (some false)) = some r := H
      have A52 := Aside0.mk A520
      clear A520
      by_cases c53 : t110 = t116
      ·rw [if_pos c53] at H
       have c53b0 : (t110 == t116) = true := beq_iff_eq.mpr c53
       have c53b1 : (t110 != t116) = false := bne_eq_false_iff_eq.mpr c53
       clear c53
       replace H := Option.bind_eq_some_iff.mp H
       obtain ⟨t117, A540, H⟩ := H
       replace H : ((whole_Neg.f a0).bind fun t118 => ((whole_Cmp.f t117 t118).bind fun t119 => (if t110 = t119 then (some ((t110 == 0) == (a0.toList == a1.toList))) else (some false)))) = some r := H
       have A54 := Aside0.mk A540
       clear A540
       replace H := Option.bind_eq_some_iff.mp H
       obtain ⟨t118, A550, H⟩ := H
       replace H : ((whole_Cmp.f t117 t118).bind fun t119 => (if t110 = t119 then (some ((t110 == 0) == (a0.toList == a1.toList))) else (some false))) = some r := H
       have A55 := Aside0.mk A550
       clear A550
       replace H := Option.bind_eq_some_iff.mp H
       obtain ⟨t119, A560, H⟩ := H
       replace H : (if t110 = t119 then (some ((t110 == 0) == (a0.toList == a1.toList))) else (some false)) = some r := H
       have A56 := Aside0.mk A560
       clear A560
       by_cases c57 : t110 = t119
       ·rw [if_pos c57] at H
        have c57b0 : (t110 == t119) = true := beq_iff_eq.mpr c57
        have c57b1 : (t110 != t119) = false := bne_eq_false_iff_eq.mpr c57
        clear c57
        obtain rfl := Option.some.inj H
        go_wp2_with (first | ((with_reducible refine gate_callee (f := 17) rfl ?_); refine goesL_ (some 36) rfl rfl Tryd.func17 (by kernel_rfl) rfl #[.string a0, .string a1] rfl (by (try simp only [List.map_toArray, List.map_cons, List.map_nil]); first | done | rfl | (simp only [List.length_drop, List.length_take]; rfl)) ?_; (with_reducible refine (whole_Cmp.calls a0 a1 t110 _ A44.out).mono ?_); rintro e w58 ⟨rfl, hb⟩; refine ⟨_, rfl, ?_⟩; have n0_ := Aside0.mk (below_step (by repeat (first | (with_reducible first | exact HB.out | apply below_alloc | apply pw_below_drewN | apply below_drew1) | exact HB.out)) hb); clear HB; have HB := n0_; clear n0_; (try clear hb); (try clear hb2); (try clear hk); (try clear hi)) | ((with_reducible refine gate_callee (f := 13) rfl ?_); refine goesL_ (some 40) rfl rfl Tryd.func13 (by kernel_rfl) rfl #[.string a0, .string a1] rfl (by (try simp only [List.map_toArray, List.map_cons, List.map_nil]); first | done | rfl | (simp only [List.length_drop, List.length_take]; rfl)) ?_; (with_reducible refine (whole_Sub.calls a0 a1 t111 _ ?side1 A45.out).mono ?_); (case side1 => exact Laid.below HLD.out (by repeat (first | (with_reducible first | exact HB.out | apply below_alloc | apply pw_below_drewN | apply below_drew1) | exact HB.out))); rintro e w59 ⟨rfl, hb⟩; refine ⟨_, rfl, ?_⟩; have n0_ := Aside0.mk (below_step (by repeat (first | (with_reducible first | exact HB.out | apply below_alloc | apply pw_below_drewN | apply below_drew1) | exact HB.out)) hb); clear HB; have HB := n0_; clear n0_; (try clear hb); (try clear hb2); (try clear hk); (try clear hi)) | ((with_reducible refine gate_callee (f := 15) rfl ?_); refine goesL_ (some 41) rfl rfl Tryd.func15 (by kernel_rfl) rfl #[.string t111] rfl (by (try simp only [List.map_toArray, List.map_cons, List.map_nil]); first | done | rfl | (simp only [List.length_drop, List.length_take]; rfl)) ?_; (with_reducible refine (whole_Sign.calls t111 t112 _ A46.out).mono ?_); rintro e w60 ⟨rfl, hb⟩; refine ⟨_, rfl, ?_⟩; have n0_ := Aside0.mk (below_step (by repeat (first | (with_reducible first | exact HB.out | apply below_alloc | apply pw_below_drewN | apply below_drew1) | exact HB.out)) hb); clear HB; have HB := n0_; clear n0_; (try clear hb); (try clear hb2); (try clear hk); (try clear hi)) | (go_at_call 17; (with_reducible refine (whole_Cmp.calls a1 a0 t113 _ A48.out).mono ?_); rintro e w61 ⟨rfl, hb⟩; have n0_ := Aside0.mk (below_step (by repeat (first | (with_reducible first | exact HB.out | apply below_alloc | apply pw_below_drewN | apply below_drew1) | exact HB.out)) hb); clear HB; have HB := n0_; clear n0_; (try clear hb); (try clear hb2); (try clear hk); (try clear hi)) | (go_at_call 11; (with_reducible refine (whole_Add.calls a0 a2 t114 _ ?side1 A50.out).mono ?_); (case side1 => exact Laid.below HLD.out (by repeat (first | (with_reducible first | exact HB.out | apply below_alloc | apply pw_below_drewN | apply below_drew1) | exact HB.out))); rintro e w62 ⟨rfl, hb⟩; have n0_ := Aside0.mk (below_step (by repeat (first | (with_reducible first | exact HB.out | apply below_alloc | apply pw_below_drewN | apply below_drew1) | exact HB.out)) hb); clear HB; have HB := n0_; clear n0_; (try clear hb); (try clear hb2); (try clear hk); (try clear hi)) | (go_at_call 11; (with_reducible refine (whole_Add.calls a1 a2 t115 _ ?side1 A51.out).mono ?_); (case side1 => exact Laid.below HLD.out (by repeat (first | (with_reducible first | exact HB.out | apply below_alloc | apply pw_below_drewN | apply below_drew1) | exact HB.out))); rintro e w63 ⟨rfl, hb⟩; have n0_ := Aside0.mk (below_step (by repeat (first | (with_reducible first | exact HB.out | apply below_alloc | apply pw_below_drewN | apply below_drew1) | exact HB.out)) hb); clear HB; have HB := n0_; clear n0_; (try clear hb); (try clear hb2); (try clear hk); (try clear hi)) | (go_at_call 17; (with_reducible refine (whole_Cmp.calls t114 t115 t116 _ A52.out).mono ?_); rintro e w64 ⟨rfl, hb⟩; have n0_ := Aside0.mk (below_step (by repeat (first | (with_reducible first | exact HB.out | apply below_alloc | apply pw_below_drewN | apply below_drew1) | exact HB.out)) hb); clear HB; have HB := n0_; clear n0_; (try clear hb); (try clear hb2); (try clear hk); (try clear hi)) | (go_at_call 14; (with_reducible refine (whole_Neg.calls a1 t117 _ A54.out).mono ?_); rintro e w65 ⟨rfl, hb⟩; have n0_ := Aside0.mk (below_step (by repeat (first | (with_reducible first | exact HB.out | apply below_alloc | apply pw_below_drewN | apply below_drew1) | exact HB.out)) hb); clear HB; have HB := n0_; clear n0_; (try clear hb); (try clear hb2); (try clear hk); (try clear hi)) | (go_at_call 14; (with_reducible refine (whole_Neg.calls a0 t118 _ A55.out).mono ?_); rintro e w66 ⟨rfl, hb⟩; have n0_ := Aside0.mk (below_step (by repeat (first | (with_reducible first | exact HB.out | apply below_alloc | apply pw_below_drewN | apply below_drew1) | exact HB.out)) hb); clear HB; have HB := n0_; clear n0_; (try clear hb); (try clear hb2); (try clear hk); (try clear hi)) | (go_at_call 17; (with_reducible refine (whole_Cmp.calls t117 t118 t119 _ A56.out).mono ?_); rintro e w67 ⟨rfl, hb⟩; have n0_ := Aside0.mk (below_step (by repeat (first | (with_reducible first | exact HB.out | apply below_alloc | apply pw_below_drewN | apply below_drew1) | exact HB.out)) hb); clear HB; have HB := n0_; clear n0_; (try clear hb); (try clear hb2); (try clear hk); (try clear hi)))
        go_ret
        exact ⟨by first | rfl | (simp [errW_none, errW_some] <;> rfl) | (simp [*, errW_none, errW_some] <;> rfl), by repeat (first | (with_reducible first | exact HB.out | apply below_alloc | apply pw_below_drewN | apply below_drew1) | exact HB.out)⟩
       ·rw [if_neg c57] at H
        have c57b0 : (t110 == t119) = false := beq_eq_false_iff_ne.mpr c57
        have c57b1 : (t110 != t119) = true := bne_iff_ne.mpr c57
        exact absurd (H.trans (congrArg some hr_.out)) (by decide)
      ·rw [if_neg c53] at H
       have c53b0 : (t110 == t116) = false := beq_eq_false_iff_ne.mpr c53
       have c53b1 : (t110 != t116) = true := bne_iff_ne.mpr c53
       exact absurd (H.trans (congrArg some hr_.out)) (by decide)
     ·rw [if_neg c49] at H
      have c49b0 : (t110 == (wrap64 (-t113))) = false := beq_eq_false_iff_ne.mpr c49
      have c49b1 : (t110 != (wrap64 (-t113))) = true := bne_iff_ne.mpr c49
      exact absurd (H.trans (congrArg some hr_.out)) (by decide)
    ·rw [if_neg c47] at H
     have c47b0 : (t110 == t112) = false := beq_eq_false_iff_ne.mpr c47
     have c47b1 : (t110 != t112) = true := bne_iff_ne.mpr c47
     exact absurd (H.trans (congrArg some hr_.out)) (by decide)
end Go.Proofs.YtmkmldkfaehefaaDoor.LWholeOrder

end

-- Written by wip/pp.py of this place (over the kit's print) out of the translation.
section
namespace Go.Proofs.YtmkmldkfaehefaaDoor.LWholeOrder
open Go.RowKit Go.Proofs.YtmkmldkfaehefaaDoorW.PrintWords Go.Proofs.YtmkmldkfaehefaaDoorW.PrintLast Go.Proofs.YtmkmldkfaehefaaDoorW.PrintMore
attribute [local go_sem] max2_int min2_int max_two min_two max_three min_three max_four min_four   -- for this text's walks alone
set_option linter.unusedVariables false
set_option linter.unusedSimpArgs false

end Go.Proofs.YtmkmldkfaehefaaDoor.LWholeOrder

end

section
set_option linter.unusedVariables false
namespace Go.Proofs.YtmkmldkfaehefaaDoor
open Go.RowKit Go.Proofs.YtmkmldkfaehefaaDoorW.PrintWords Go.Proofs.YtmkmldkfaehefaaDoorW.PrintLast Go.Proofs.YtmkmldkfaehefaaDoorW.PrintMore

theorem pureWholeOrder (a0 a1 a2 : ByteArray) (w0 : a0.size ≤ 140737488351232) (w1 : a1.size ≤ 140737488351232) (w2 : a2.size ≤ 140737488351232) : ∃ k, LWholeOrder.debenturelaw02_WholeOrder.f k a0 a1 a2 = some true := by
  refine ⟨3, ?_⟩
  unfold LWholeOrder.debenturelaw02_WholeOrder.f debenturelaw02_fixed.f
  have hj : LWholeOrder.debenturelaw02_WholeOrder.j0 3 a0 a1 a2 true = some true := by
    simp only [LWholeOrder.debenturelaw02_WholeOrder.j0]
    rfl
  rw [Option.bind_some, if_pos rfl, shorts3, Option.bind_some]
  cases h0 : shortT a0 <;> cases h1 : shortT a1 <;> cases h2 : shortT a2
  all_goals first | exact hj | skip
  have z0 := shortT_le h0
  have z1 := shortT_le h1
  have z2 := shortT_le h2
  rw [if_pos (by rfl), rMay2 (by omega), Option.bind_some]
  by_cases m0 : mayW a0 = true
  · rw [if_pos m0, rMay2 (by omega), Option.bind_some]
    by_cases m1 : mayW a1 = true
    · rw [if_pos m1, rMay2 (by omega), Option.bind_some]
      by_cases m2 : mayW a2 = true
      · obtain ⟨x, rfl, e0⟩ := of_mayW' m0
        obtain ⟨y, rfl, e1⟩ := of_mayW' m1
        obtain ⟨z, rfl, e2⟩ := of_mayW' m2
        rw [m2]
        simp only [LWholeOrder.debenturelaw02_WholeOrder.j0]
        rw [if_neg (by decide)]
        have s1 := szI_sub x y
        have s2 := szI_add x z
        have s3 := szI_add y z
        have s4 := szI_neg x
        have s5 := szI_neg y
        have c1 : Lib.compareInt (x - y) 0 = Lib.compareInt x y := by unfold Lib.compareInt; (repeat' split) <;> first | rfl | omega
        have c2 : wrap64 (-Lib.compareInt y x) = Lib.compareInt x y := by
          have : -1 ≤ Lib.compareInt y x ∧ Lib.compareInt y x ≤ 1 := by unfold Lib.compareInt; (repeat' split) <;> omega
          rw [w64 (by omega) (by omega)]
          unfold Lib.compareInt
          (repeat' split) <;> first | rfl | omega
        have c3 : Lib.compareInt (x + z) (y + z) = Lib.compareInt x y := by unfold Lib.compareInt; (repeat' split) <;> first | rfl | omega
        have c4 : Lib.compareInt (-y) (-x) = Lib.compareInt x y := by unfold Lib.compareInt; (repeat' split) <;> first | rfl | omega
        have c5 : (Lib.compareInt x y == 0) = decide (x = y) := by
          rw [Bool.eq_iff_iff, beq_iff_eq, decide_eq_true_eq]
          unfold Lib.compareInt
          (repeat' split) <;> omega
        rw [gCmp (by omega) (by omega), Option.bind_some, gSub (by omega) (by omega), Option.bind_some, gSign (by omega), Option.bind_some, c1, if_pos rfl, gCmp (by omega) (by omega), Option.bind_some, c2, if_pos rfl, gAdd (by omega) (by omega), Option.bind_some, gAdd (by omega) (by omega), Option.bind_some, gCmp (by omega) (by omega), Option.bind_some, c3, if_pos rfl, gNeg (by omega), Option.bind_some, gNeg (by omega), Option.bind_some, gCmp (by omega) (by omega), Option.bind_some, c4, if_pos rfl, intB_beq, c5]
        simp
      · rw [(Bool.not_eq_true _).mp m2]
        exact hj
    · rw [if_neg m1]
      exact hj
  · rw [if_neg m0]
    exact hj
end Go.Proofs.YtmkmldkfaehefaaDoor

end

section
namespace Go.Proofs.YtmkmldkfaehefaaDoor.wholeOrder
open Go.ChangeShapes Go.WideShapes Go.ChangeAt Go.RowKit
open Go.ChangeMaps (open_string shut_string)
set_option linter.unusedVariables false
set_option maxRecDepth 100000 in
theorem lifted (os : Os) (started : os.Started) (H : Type) (enc : TypeId × Value → H) :
    ReturnsInHanded {} Tryd.checked os 5 .any (fun w args => (Rows.wholeOrderSpec.pre enc Tryd.prog Tryd.f5 Rows.wholeOrderRow.domain false w args ∧ laidMetH Tryd.prog laidL w) ∧ sizedMet enc Tryd.prog Tryd.f5 (OpenSpec.ofChange Rows.wholeOrderSpec) false w args)
      (Rows.wholeOrderSpec.post enc Tryd.prog Tryd.f5 false true false false) := by
  refine returnsInHanded_of_change_and (C := Tryd.checked) (X := fun w _ => laidMetH Tryd.prog laidL w) (fun _ _ _ hh h => h.of_heap hh) own started (by kernel_rfl) Tryd.func5
    (ChangeSpec.witness_shaped (enc := enc) (C := Tryd.checked) (os := os) (X := fun w _ => laidMetH Tryd.prog laidL w) false (World.doorLaid Tryd.prog 4000 os) #[.string ByteArray.empty, .string ByteArray.empty, .string ByteArray.empty] 8 rfl (World.shaped_of_RefB (by kernel_rfl) (by kernel_rfl)) (by kernel_rfl) (by kernel_rfl) (by kernel_rfl) (door_met os _)) ?_
  intro W base args ds gs before hval0 hW _ hsz0 hL _
  have hsz : (DataW.weightsEach Tryd.prog (Tryd.f5.params.toList ++ Rows.wholeOrderSpec.plain.varTypes Tryd.prog) (ds ++ gs)).all (· ≤ reachBytes) = true := hsz0
  have hval : ∀ (j : Nat) t v, Tryd.f5.params[j]? = some t → args[j]? = some v → Value.okWide Tryd.prog W .any base t v := hval0
  have hW' := hW
  obtain ⟨p, q, hA0, hV, rfl, hfz, hnd⟩ := hW
  have hA : DataW.TrodAll enc Tryd.prog W 0 (fun _ => true) true Tryd.f5.params.toList args.toList ds p := hA0
  rw [Tryd.params5] at hA hval hsz
  obtain ⟨v0, vs0, d0, ds0, p0, q0, hargs, rfl, rfl, h0, r0⟩ := trodAll_cons hA
  obtain ⟨v1, vs1, d1, ds1, p1, q1, rfl, rfl, rfl, h1, r1⟩ := trodAll_cons r0
  obtain ⟨v2, vs2, d2, ds2, p2, q2, rfl, rfl, rfl, h2, r2⟩ := trodAll_cons r1
  obtain ⟨rfl, rfl, rfl⟩ := trodAll_nil r2
  obtain rfl : args = #[v0, v1, v2] := by cases args; simp_all
  obtain ⟨rfl, rfl⟩ := trodVars_none hV
  obtain ⟨a0, rfl, rfl, rfl, y0⟩ := open_string Tryd.underlying9 (hval 0 9 v0 rfl rfl) h0
  have w0 : a0.size ≤ 140737488351232 := by
    have z := sized_string hsz (j := 0) (t := 9) rfl rfl
    rw [Array.length_toList] at z
    exact z
  obtain ⟨a1, rfl, rfl, rfl, y1⟩ := open_string Tryd.underlying9 (hval 1 9 v1 rfl rfl) h1
  have w1 : a1.size ≤ 140737488351232 := by
    have z := sized_string hsz (j := 1) (t := 9) rfl rfl
    rw [Array.length_toList] at z
    exact z
  obtain ⟨a2, rfl, rfl, rfl, y2⟩ := open_string Tryd.underlying9 (hval 2 9 v2 rfl rfl) h2
  have w2 : a2.size ≤ 140737488351232 := by
    have z := sized_string hsz (j := 2) (t := 9) rfl rfl
    rw [Array.length_toList] at z
    exact z
  clear hA0 hval0 hsz0 hsz
  obtain ⟨k, hf⟩ := pureWholeOrder a0 a1 a2 w0 w1 w2
  refine (LWholeOrder.debenturelaw02_WholeOrder.calls k a0 a1 a2 true W (laid_of hL) ⟨rfl⟩ hf).mono fun e W' ⟨he, bel⟩ => ?_
  subst he
  exact ⟨_, rfl, _, _, _, [], _, [], hW', trodAll_mk1 (shut_bool Tryd.underlying4 _), (trodAll_cons_mk (shut_string Tryd.underlying9 y0) (trodAll_cons_mk (shut_string Tryd.underlying9 y1) (trodAll_cons_mk (shut_string Tryd.underlying9 y2) trodAll_mk0))), rfl, bel.frame _, fun h => by cases h⟩
theorem over : Rows.WholeOrderSaid :=
  OpenClaim.holds_of_wide 5 Tryd.f5 rfl rfl rfl rfl rfl rfl rfl ⟨rfl, rfl, rfl, rfl, rfl⟩ rfl rfl rfl rfl rfl (by kernel_rfl) Tryd.func5 (by kernel_rfl)
    (of_decide_eq_true (by kernel_rfl)) (by unfold Func.isWrapper; first | (rw [if_pos (by decide +kernel)]; kernel_rfl) | (rw [if_neg (by decide +kernel)]; exact ⟨rfl, rfl⟩))
    (fun os started H enc _ => lifted os started H enc)
theorem proved : Rows.WholeOrderCardSaid :=
  Claim7.holds_tied_plain_at .later [] [.data, .data, .data, .sentinel, .sentinel] true (true, "2da19d4324e1b7fc1d51d8615ed06ada97961d6e30aa7afce54110a3552b5e62") true
    over (fun _ h => by cases h) (by kernel_rfl) (fun _ h => by cases h) wholeOrder_row_tie rfl ⟨rfl, rfl⟩ (by kernel_rfl) rfl
    (fun f fn hf hfn => by
      obtain rfl : f = 5 := Option.some.inj ((show Tryd.prog.funcNamed "debenture/debenturelaw02.WholeOrder" = some 5 by kernel_rfl).symm.trans hf) |>.symm
      obtain rfl : fn = Tryd.f5 := (Option.some.inj (Tryd.func5.symm.trans hfn)).symm
      exact ⟨by kernel_rfl, fun j t ht => by
        rw [Tryd.params5] at ht
        have hm : t ∈ [9, 9, 9] := by simpa using Array.mem_of_getElem? ht
        have hall : ([9, 9, 9].all fun u => !Tryd.prog.wantsStandIn u) = true := by kernel_rfl
        exact (show Tryd.prog.wantsStandIn t = false by simpa using List.all_eq_true.1 hall t hm)⟩)
    (by kernel_rfl)
end Go.Proofs.YtmkmldkfaehefaaDoor.wholeOrder
namespace Go.Proofs.YtmkmldkfaehefaaDoor
/-- The card, under a short name, for the claim. -/
theorem wholeOrder_holds : Rows.WholeOrderCardSaid := wholeOrder.proved
#print axioms wholeOrder_holds
end Go.Proofs.YtmkmldkfaehefaaDoor

end
