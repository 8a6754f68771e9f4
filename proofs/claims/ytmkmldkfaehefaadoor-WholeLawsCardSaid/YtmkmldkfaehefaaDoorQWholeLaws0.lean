/-
The law WholeLaws holds at every input: its row, and its card, tied to the program's text. Conditions: none beyond the given row's own.
Parts of the proof, in build order: LWholeLaws0, LWholeLaws1, LWholeLaws, PuWholeLaws, RowWholeLaws.
-/
import Derived.Test.YtmkmldkfaehefaaDoorProg
import Derived.Below
import Derived.Deep.Draws
import Derived.Deep.AppendLies
import Derived.Maps.AppendAt
import Derived.OwnWalk
import Derived.Laws.BytesArg
import Derived.Laws.MakeOwn
import Derived.Laws.OwnMore
import Derived.Deep.OwnRows
import Derived.Tactics
import Derived.Lib.ConvBytes
import Derived.Laws.Slices
import Derived.WalkKit
import Derived.KernelRfl
import Derived.RowKit3
import Derived.Deep.LoopGhost
import Derived.Deep.QuietTactic
import Derived.BigQuiet
import Derived.WideLaws
import Derived.Deep.DeepCutAuto
import Derived.Deep.CutBlock
import Derived.Deep.RegionHeld3
import Derived.Laws.Rows
import Derived.Lib.AppendStr
import Derived.ArgAppend
import Derived.Laws.IdiomCopy
import Derived.OrdersHeld
import Derived.Laws.BitsLemmas
import Derived.RowKit
import Derived.Test.YtmkmldkfaehefaaDoorC0
import Derived.Test.YtmkmldkfaehefaaDoorC6
import Derived.Test.YtmkmldkfaehefaaDoorC4
import Derived.Test.YtmkmldkfaehefaaDoorTie
import Derived.Test.YtmkmldkfaehefaaDoorCards
import Derived.SevenTiedAt
-- Written by wip/pp.py of this place (over the kit's print) out of the translation.
section
namespace Go.Proofs.YtmkmldkfaehefaaDoor.LWholeLaws
open Go.RowKit Go.Proofs.YtmkmldkfaehefaaDoorW.PrintWords Go.Proofs.YtmkmldkfaehefaaDoorW.PrintLast Go.Proofs.YtmkmldkfaehefaaDoorW.PrintMore
attribute [local go_sem] max2_int min2_int max_two min_two max_three min_three max_four min_four   -- for this text's walks alone
set_option linter.unusedVariables false
set_option linter.unusedSimpArgs false

def errW : Option Int → Value
 | none => .nilIface
 | some c => .iface 0 (.int .i64 c)
theorem errW_none : errW none = .nilIface := rfl
theorem errW_some (c : Int) : errW (some c) = .iface 0 (.int .i64 c) := rfl

-- the values' own types

end Go.Proofs.YtmkmldkfaehefaaDoor.LWholeLaws

end

-- Written by wip/pp.py of this place (over the kit's print) out of the translation.
section
namespace Go.Proofs.YtmkmldkfaehefaaDoor.LWholeLaws
open Go.RowKit Go.Proofs.YtmkmldkfaehefaaDoorW.PrintWords Go.Proofs.YtmkmldkfaehefaaDoorW.PrintLast Go.Proofs.YtmkmldkfaehefaaDoorW.PrintMore
attribute [local go_sem] max2_int min2_int max_two min_two max_three min_three max_four min_four   -- for this text's walks alone
set_option linter.unusedVariables false
set_option linter.unusedSimpArgs false

-- walked by hand: function 8 (debenturelaw02_fixed)

-- walked by hand: function 9 (debentureref01_Short)

-- walked by hand: function 10 (debentureref02_May)

-- walked by hand: function 11 (whole_Add)

-- walked by hand: function 12 (whole_Mul)

-- walked by hand: function 13 (whole_Sub)

-- walked by hand: function 14 (whole_Neg)

-- walked by hand: function 15 (whole_Sign)

mutual
def debenturelaw02_WholeLaws.j0 : Nat → ByteArray → ByteArray → ByteArray → Bool → Option (Bool)
 | 0, _, _, _, _ => none
 | k + 1, x0, x1, x2, x33 => if x33 = true then ((debenturelaw02_fixed.f).bind fun t109 => (some t109)) else ((whole_Add.f x0 x1).bind fun t110 => ((whole_Add.f t110 x2).bind fun t111 => ((whole_Mul.f x0 x1).bind fun t112 => ((whole_Mul.f t112 x2).bind fun t113 => (if t111.toList = ([] : List UInt8) then (debenturelaw02_WholeLaws.j1 k x0 x1 true) else (if t113.toList = ([] : List UInt8) then (debenturelaw02_WholeLaws.j1 k x0 x1 true) else ((whole_Add.f x1 x0).bind fun t114 => ((whole_Add.f x2 t114).bind fun t115 => (if t111.toList = t115.toList then ((whole_Mul.f x1 x0).bind fun t116 => ((whole_Mul.f x2 t116).bind fun t117 => (if t113.toList = t117.toList then ((whole_Add.f x1 x2).bind fun t118 => ((whole_Mul.f x0 t118).bind fun t119 => ((whole_Mul.f x0 x1).bind fun t120 => ((whole_Mul.f x0 x2).bind fun t121 => ((whole_Add.f t120 t121).bind fun t122 => (debenturelaw02_WholeLaws.j1 k x0 x1 (t119.toList != t122.toList))))))) else (debenturelaw02_WholeLaws.j1 k x0 x1 true)))) else (debenturelaw02_WholeLaws.j1 k x0 x1 true))))))))))
def debenturelaw02_WholeLaws.j1 : Nat → ByteArray → ByteArray → Bool → Option (Bool)
 | 0, _, _, _ => none
 | k + 1, x0, x1, x83 => if x83 = true then (some false) else ((whole_Sub.f x0 x0).bind fun t123 => (if t123.toList = ([48] : List UInt8) then ((whole_Sub.f x0 x1).bind fun t124 => ((whole_Sub.f x1 x0).bind fun t125 => ((whole_Neg.f t125).bind fun t126 => (if t124.toList = t126.toList then ((whole_Neg.f x0).bind fun t127 => ((whole_Neg.f t127).bind fun t128 => (if t128.toList = x0.toList then ((whole_Mul.f x0 x1).bind fun t129 => ((whole_Sign.f t129).bind fun t130 => ((whole_Sign.f x0).bind fun t131 => ((whole_Sign.f x1).bind fun t132 => (some (t130 == (wrap64 (t131 * t132)))))))) else (some false)))) else (some false))))) else (some false)))
end
def debenturelaw02_WholeLaws.f (k : Nat) (a0 : ByteArray) (a1 : ByteArray) (a2 : ByteArray) : Option (Bool) := (debenturelaw02_fixed.f).bind fun t101 => (if t101 = true then ((debentureref01_Short.f (([a0, a1, a2] : List ByteArray))).bind fun t105 => (if t105 = true then ((debentureref02_May.f a0).bind fun t106 => (if t106 = true then ((debentureref02_May.f a1).bind fun t107 => (if t107 = true then ((debentureref02_May.f a2).bind fun t108 => (debenturelaw02_WholeLaws.j0 k a0 a1 a2 (!t108))) else (debenturelaw02_WholeLaws.j0 k a0 a1 a2 true))) else (debenturelaw02_WholeLaws.j0 k a0 a1 a2 true))) else (debenturelaw02_WholeLaws.j0 k a0 a1 a2 true))) else (debenturelaw02_WholeLaws.j0 k a0 a1 a2 true))
set_option maxHeartbeats 8000000 in
set_option maxRecDepth 100000 in
theorem debenturelaw02_WholeLaws.calls (k : Nat) (a0 : ByteArray) (a1 : ByteArray) (a2 : ByteArray) (r : Bool) (w : World) (hL_ : Laid w) (hr_ : Aside0 (r = true)) (h : debenturelaw02_WholeLaws.f k a0 a1 a2 = some r) :
  Calls Tryd.prog 3 #[.string a0, .string a1, .string a2] w fun e w' => e = .returned (.bool r) ∧ Below w.heap.size w w' := by
 have HLD := Aside0.mk hL_
 clear hL_
 have HB := Aside0.mk (Below.refl w.heap.size w)
 have H : ((debenturelaw02_fixed.f).bind fun t101 => (if t101 = true then ((debentureref01_Short.f (([a0, a1, a2] : List ByteArray))).bind fun t105 => (if t105 = true then ((debentureref02_May.f a0).bind fun t106 => (if t106 = true then ((debentureref02_May.f a1).bind fun t107 => (if t107 = true then ((debentureref02_May.f a2).bind fun t108 => (debenturelaw02_WholeLaws.j0 k a0 a1 a2 (!t108))) else (debenturelaw02_WholeLaws.j0 k a0 a1 a2 true))) else (debenturelaw02_WholeLaws.j0 k a0 a1 a2 true))) else (debenturelaw02_WholeLaws.j0 k a0 a1 a2 true))) else (debenturelaw02_WholeLaws.j0 k a0 a1 a2 true))) = some r := h
 clear h
 have HC4 := Aside0.mk H
 clear H
 go_enter Tryd.func3, Tryd.ntmps3
 go_upto_region 1 with (fail)
 go_cut [33] (fun v33 wc => ∃ (kq : Nat) (x33_3 : Bool), v33 = .bool x33_3 ∧ Aside0 (debenturelaw02_WholeLaws.j0 kq a0 a1 a2 x33_3 = some r) ∧ Aside0 (kq ≤ k) ∧ Aside0 (Below w.heap.size w wc))
 case first =>
  have H := HC4.out
  clear HC4
  replace H := Option.bind_eq_some_iff.mp H
  obtain ⟨t101, A50, H⟩ := H
  replace H : (if t101 = true then ((debentureref01_Short.f (([a0, a1, a2] : List ByteArray))).bind fun t105 => (if t105 = true then ((debentureref02_May.f a0).bind fun t106 => (if t106 = true then ((debentureref02_May.f a1).bind fun t107 => (if t107 = true then ((debentureref02_May.f a2).bind fun t108 => (debenturelaw02_WholeLaws.j0 k a0 a1 a2 (!t108))) else (debenturelaw02_WholeLaws.j0 k a0 a1 a2 true))) else (debenturelaw02_WholeLaws.j0 k a0 a1 a2 true))) else (debenturelaw02_WholeLaws.j0 k a0 a1 a2 true))) else (debenturelaw02_WholeLaws.j0 k a0 a1 a2 true)) = some r := H
  have A5 := Aside0.mk A50
  clear A50
  by_cases c6 : t101 = true
  ·subst c6
   have H1 : ((debentureref01_Short.f (([a0, a1, a2] : List ByteArray))).bind fun t105 => (if t105 = true then ((debentureref02_May.f a0).bind fun t106 => (if t106 = true then ((debentureref02_May.f a1).bind fun t107 => (if t107 = true then ((debentureref02_May.f a2).bind fun t108 => (debenturelaw02_WholeLaws.j0 k a0 a1 a2 (!t108))) else (debenturelaw02_WholeLaws.j0 k a0 a1 a2 true))) else (debenturelaw02_WholeLaws.j0 k a0 a1 a2 true))) else (debenturelaw02_WholeLaws.j0 k a0 a1 a2 true))) = some r := by rw [if_pos rfl] at H; exact H
   clear H
   have H := H1
   clear H1
   obtain ⟨y102, hy102⟩ : ∃ y_ : List ByteArray, y_ = (([a0, a1, a2] : List ByteArray)) := ⟨_, rfl⟩
   replace H : ((debentureref01_Short.f y102).bind fun t105 => (if t105 = true then ((debentureref02_May.f a0).bind fun t106 => (if t106 = true then ((debentureref02_May.f a1).bind fun t107 => (if t107 = true then ((debentureref02_May.f a2).bind fun t108 => (debenturelaw02_WholeLaws.j0 k a0 a1 a2 (!t108))) else (debenturelaw02_WholeLaws.j0 k a0 a1 a2 true))) else (debenturelaw02_WholeLaws.j0 k a0 a1 a2 true))) else (debenturelaw02_WholeLaws.j0 k a0 a1 a2 true))) = some r := by first | (rw [hy102]; with_reducible exact H) | (have H2_ := (Option.bind_some _ _).symm.trans H; rw [hy102]; with_reducible exact H2_) | (have H2_ := (Option.bind_some _ _).symm.trans H; with_reducible exact H2_) | with_reducible exact H | (rw [hy102]; exact H) | exact H
   have Ny102 := Aside0.mk hy102
   clear hy102
   replace H := Option.bind_eq_some_iff.mp H
   obtain ⟨t105, A70, H⟩ := H
   replace H : (if t105 = true then ((debentureref02_May.f a0).bind fun t106 => (if t106 = true then ((debentureref02_May.f a1).bind fun t107 => (if t107 = true then ((debentureref02_May.f a2).bind fun t108 => (debenturelaw02_WholeLaws.j0 k a0 a1 a2 (!t108))) else (debenturelaw02_WholeLaws.j0 k a0 a1 a2 true))) else (debenturelaw02_WholeLaws.j0 k a0 a1 a2 true))) else (debenturelaw02_WholeLaws.j0 k a0 a1 a2 true)) = some r := H
   have A7 := Aside0.mk A70
   clear A70
   by_cases c8 : t105 = true
   ·subst c8
    have H1 : ((debentureref02_May.f a0).bind fun t106 => (if t106 = true then ((debentureref02_May.f a1).bind fun t107 => (if t107 = true then ((debentureref02_May.f a2).bind fun t108 => (debenturelaw02_WholeLaws.j0 k a0 a1 a2 (!t108))) else (debenturelaw02_WholeLaws.j0 k a0 a1 a2 true))) else (debenturelaw02_WholeLaws.j0 k a0 a1 a2 true))) = some r := by rw [if_pos rfl] at H; exact H
    clear H
    have H := H1
    clear H1
    replace H := Option.bind_eq_some_iff.mp H
    obtain ⟨t106, A90, H⟩ := H
    replace H : (if t106 = true then ((debentureref02_May.f a1).bind fun t107 => (if t107 = true then ((debentureref02_May.f a2).bind fun t108 => (debenturelaw02_WholeLaws.j0 k a0 a1 a2 (!t108))) else (debenturelaw02_WholeLaws.j0 k a0 a1 a2 true))) else (debenturelaw02_WholeLaws.j0 k a0 a1 a2 true)) = some r := H
    have A9 := Aside0.mk A90
    clear A90
    by_cases c10 : t106 = true
    ·subst c10
     have H1 : ((debentureref02_May.f a1).bind fun t107 => (if t107 = true then ((debentureref02_May.f a2).bind fun t108 => (debenturelaw02_WholeLaws.j0 k a0 a1 a2 (!t108))) else (debenturelaw02_WholeLaws.j0 k a0 a1 a2 true))) = some r := by rw [if_pos rfl] at H; exact H
     clear H
     have H := H1
     clear H1
     replace H := Option.bind_eq_some_iff.mp H
     obtain ⟨t107, A110, H⟩ := H
     replace H : (if t107 = true then ((debentureref02_May.f a2).bind fun t108 => (debenturelaw02_WholeLaws.j0 k a0 a1 a2 (!t108))) else (debenturelaw02_WholeLaws.j0 k a0 a1 a2 true)) = some r := H
     have A11 := Aside0.mk A110
     clear A110
     by_cases c12 : t107 = true
     ·subst c12
      have H1 : ((debentureref02_May.f a2).bind fun t108 => (debenturelaw02_WholeLaws.j0 k a0 a1 a2 (!t108))) = some r := by rw [if_pos rfl] at H; exact H
      clear H
      have H := H1
      clear H1
      replace H := Option.bind_eq_some_iff.mp H
      obtain ⟨t108, A130, H⟩ := H
      replace H : (debenturelaw02_WholeLaws.j0 k a0 a1 a2 (!t108)) = some r := H
      have A13 := Aside0.mk A130
      clear A130
      have H' := Aside0.mk H
      clear H
      go_wp2_with (first | ((with_reducible refine gate_callee (f := 8) rfl ?_); refine goesL_ (some 9) rfl rfl Tryd.func8 (by kernel_rfl) rfl #[] rfl (by (try simp only [List.map_toArray, List.map_cons, List.map_nil]); first | done | rfl | (simp only [List.length_drop, List.length_take]; rfl)) ?_; (with_reducible refine (debenturelaw02_fixed.calls  true _ ?side1 A5.out).mono ?_); (case side1 => exact Laid.below HLD.out (by repeat (first | (with_reducible first | exact HB.out | apply below_alloc | apply pw_below_drewN | apply below_drew1) | exact HB.out))); rintro e w14 ⟨rfl, hb⟩; refine ⟨_, rfl, ?_⟩; have n0_ := Aside0.mk (below_step (by repeat (first | (with_reducible first | exact HB.out | apply below_alloc | apply pw_below_drewN | apply below_drew1) | exact HB.out)) hb); clear HB; have HB := n0_; clear n0_; (try clear hb); (try clear hb2); (try clear hk); (try clear hi)) | ((with_reducible refine gate_dst (N := 15) rfl ?_); (try (refine gate_guard (by rfl) ?_; dsimp only)); refine Kd.R_lit Kd.string _ 9 ?hg (N := 15) ?hd (xs := ([a0, a1, a2] : List ByteArray)) (inner := [.string a0, .string a1, .string a2]) (ok := fun _ => True) (okp := fun _ => True) ?hr ?hp (fun _ hk => hk) trivial (Below.refl _ _) (Nat.le_refl _) (by simp) ?_; (case hd => rfl); (case hg => rfl); (case hr => first | (go_simp; done) | (go_simp; rfl)); (case hp => exact (Reps.one (show Kd.M Kd.string _ _ _ a0 [.string a0] from rfl) (Reps.one (show Kd.M Kd.string _ _ _ a1 [.string a1] from rfl) (Reps.one (show Kd.M Kd.string _ _ _ a2 [.string a2] from rfl) (Reps.none _ _))))); intro v103 w15 ho16 hb hg_ hnew_; clear hg_ hnew_; (first | rw [← Ny102.out] at ho16 | (simp only [Int.reduceToNat] at ho16; rw [← Ny102.out] at ho16)); have n0_ := Aside0.mk (Kd.R_lower ho16 (below_size (by repeat (first | (with_reducible first | exact HB.out | apply below_alloc | apply pw_below_drewN | apply below_drew1) | exact HB.out)))); have n1_ := Aside0.mk (below_step (by repeat (first | (with_reducible first | exact HB.out | apply below_alloc | apply pw_below_drewN | apply below_drew1) | exact HB.out)) hb); clear HB; have HO104 := n0_; have HB := n1_; clear n0_ n1_; clear hb ho16; obtain ⟨Ao17, co17, eo17⟩ := Kd.R_slice HO104.out; subst eo17) | (go_at_call 9; (with_reducible refine (debentureref01_Short.calls _ _ y102 true _ ?side1 ?side2 A7.out).mono ?_); (case side1 => repeat (first | exact (Kd.R_reads' HO104.out).2.2 | (with_reducible refine Kd.C_alloc ?_ _) | (with_reducible refine Kd.C_drewN ?_ _) | (with_reducible refine Kd.C_drew ?_))); (case side2 => exact (Kd.R_reads' HO104.out).2.1); rintro e w18 ⟨rfl, hb⟩; have n0_ := Aside0.mk (Kd.R_below (by (with_reducible repeat (first | apply Kd.R_alloc | apply Kd.R_drewN | apply Kd.R_drew)); exact HO104.out) hb); have n1_ := Aside0.mk (below_step (by repeat (first | (with_reducible first | exact HB.out | apply below_alloc | apply pw_below_drewN | apply below_drew1) | exact HB.out)) hb); clear HO104; clear HB; have HO104 := n0_; have HB := n1_; clear n0_ n1_; (try clear hb); (try clear hb2); (try clear hk); (try clear hi)) | (go_at_call 10; (with_reducible refine (debentureref02_May.calls a0 true _ A9.out).mono ?_); rintro e w19 ⟨rfl, hb⟩; have n0_ := Aside0.mk (Kd.R_below (by (with_reducible repeat (first | apply Kd.R_alloc | apply Kd.R_drewN | apply Kd.R_drew)); exact HO104.out) hb); have n1_ := Aside0.mk (below_step (by repeat (first | (with_reducible first | exact HB.out | apply below_alloc | apply pw_below_drewN | apply below_drew1) | exact HB.out)) hb); clear HO104; clear HB; have HO104 := n0_; have HB := n1_; clear n0_ n1_; (try clear hb); (try clear hb2); (try clear hk); (try clear hi)) | (go_at_call 10; (with_reducible refine (debentureref02_May.calls a1 true _ A11.out).mono ?_); rintro e w20 ⟨rfl, hb⟩; have n0_ := Aside0.mk (Kd.R_below (by (with_reducible repeat (first | apply Kd.R_alloc | apply Kd.R_drewN | apply Kd.R_drew)); exact HO104.out) hb); have n1_ := Aside0.mk (below_step (by repeat (first | (with_reducible first | exact HB.out | apply below_alloc | apply pw_below_drewN | apply below_drew1) | exact HB.out)) hb); clear HO104; clear HB; have HO104 := n0_; have HB := n1_; clear n0_ n1_; (try clear hb); (try clear hb2); (try clear hk); (try clear hi)) | (go_at_call 10; (with_reducible refine (debentureref02_May.calls a2 t108 _ A13.out).mono ?_); rintro e w21 ⟨rfl, hb⟩; have n0_ := Aside0.mk (Kd.R_below (by (with_reducible repeat (first | apply Kd.R_alloc | apply Kd.R_drewN | apply Kd.R_drew)); exact HO104.out) hb); have n1_ := Aside0.mk (below_step (by repeat (first | (with_reducible first | exact HB.out | apply below_alloc | apply pw_below_drewN | apply below_drew1) | exact HB.out)) hb); clear HO104; clear HB; have HO104 := n0_; have HB := n1_; clear n0_ n1_; (try clear hb); (try clear hb2); (try clear hk); (try clear hi)))
      go_meet
      case rel => exact ⟨_, (!t108), (by first | rfl | (simp; done) | (simp [*]; done)), H', ⟨by first | omega | exact Nat.le_refl _⟩, ⟨by repeat (first | (with_reducible first | exact HB.out | apply below_alloc | apply pw_below_drewN | apply below_drew1) | exact HB.out)⟩⟩
     ·replace c12 := Bool.eq_false_iff.mpr c12
      subst c12
      have H1 : (debenturelaw02_WholeLaws.j0 k a0 a1 a2 true) = some r := by rw [if_neg (show ¬ (false = true) by decide)] at H; exact H
      clear H
      have H := H1
      clear H1
      have H' := Aside0.mk H
      clear H
      go_wp2_with (first | ((with_reducible refine gate_callee (f := 8) rfl ?_); refine goesL_ (some 9) rfl rfl Tryd.func8 (by kernel_rfl) rfl #[] rfl (by (try simp only [List.map_toArray, List.map_cons, List.map_nil]); first | done | rfl | (simp only [List.length_drop, List.length_take]; rfl)) ?_; (with_reducible refine (debenturelaw02_fixed.calls  true _ ?side1 A5.out).mono ?_); (case side1 => exact Laid.below HLD.out (by repeat (first | (with_reducible first | exact HB.out | apply below_alloc | apply pw_below_drewN | apply below_drew1) | exact HB.out))); rintro e w22 ⟨rfl, hb⟩; refine ⟨_, rfl, ?_⟩; have n0_ := Aside0.mk (below_step (by repeat (first | (with_reducible first | exact HB.out | apply below_alloc | apply pw_below_drewN | apply below_drew1) | exact HB.out)) hb); clear HB; have HB := n0_; clear n0_; (try clear hb); (try clear hb2); (try clear hk); (try clear hi)) | ((with_reducible refine gate_dst (N := 15) rfl ?_); (try (refine gate_guard (by rfl) ?_; dsimp only)); refine Kd.R_lit Kd.string _ 9 ?hg (N := 15) ?hd (xs := ([a0, a1, a2] : List ByteArray)) (inner := [.string a0, .string a1, .string a2]) (ok := fun _ => True) (okp := fun _ => True) ?hr ?hp (fun _ hk => hk) trivial (Below.refl _ _) (Nat.le_refl _) (by simp) ?_; (case hd => rfl); (case hg => rfl); (case hr => first | (go_simp; done) | (go_simp; rfl)); (case hp => exact (Reps.one (show Kd.M Kd.string _ _ _ a0 [.string a0] from rfl) (Reps.one (show Kd.M Kd.string _ _ _ a1 [.string a1] from rfl) (Reps.one (show Kd.M Kd.string _ _ _ a2 [.string a2] from rfl) (Reps.none _ _))))); intro v103 w23 ho24 hb hg_ hnew_; clear hg_ hnew_; (first | rw [← Ny102.out] at ho24 | (simp only [Int.reduceToNat] at ho24; rw [← Ny102.out] at ho24)); have n0_ := Aside0.mk (Kd.R_lower ho24 (below_size (by repeat (first | (with_reducible first | exact HB.out | apply below_alloc | apply pw_below_drewN | apply below_drew1) | exact HB.out)))); have n1_ := Aside0.mk (below_step (by repeat (first | (with_reducible first | exact HB.out | apply below_alloc | apply pw_below_drewN | apply below_drew1) | exact HB.out)) hb); clear HB; have HO104 := n0_; have HB := n1_; clear n0_ n1_; clear hb ho24; obtain ⟨Ao25, co25, eo25⟩ := Kd.R_slice HO104.out; subst eo25) | (go_at_call 9; (with_reducible refine (debentureref01_Short.calls _ _ y102 true _ ?side1 ?side2 A7.out).mono ?_); (case side1 => repeat (first | exact (Kd.R_reads' HO104.out).2.2 | (with_reducible refine Kd.C_alloc ?_ _) | (with_reducible refine Kd.C_drewN ?_ _) | (with_reducible refine Kd.C_drew ?_))); (case side2 => exact (Kd.R_reads' HO104.out).2.1); rintro e w26 ⟨rfl, hb⟩; have n0_ := Aside0.mk (Kd.R_below (by (with_reducible repeat (first | apply Kd.R_alloc | apply Kd.R_drewN | apply Kd.R_drew)); exact HO104.out) hb); have n1_ := Aside0.mk (below_step (by repeat (first | (with_reducible first | exact HB.out | apply below_alloc | apply pw_below_drewN | apply below_drew1) | exact HB.out)) hb); clear HO104; clear HB; have HO104 := n0_; have HB := n1_; clear n0_ n1_; (try clear hb); (try clear hb2); (try clear hk); (try clear hi)) | (go_at_call 10; (with_reducible refine (debentureref02_May.calls a0 true _ A9.out).mono ?_); rintro e w27 ⟨rfl, hb⟩; have n0_ := Aside0.mk (Kd.R_below (by (with_reducible repeat (first | apply Kd.R_alloc | apply Kd.R_drewN | apply Kd.R_drew)); exact HO104.out) hb); have n1_ := Aside0.mk (below_step (by repeat (first | (with_reducible first | exact HB.out | apply below_alloc | apply pw_below_drewN | apply below_drew1) | exact HB.out)) hb); clear HO104; clear HB; have HO104 := n0_; have HB := n1_; clear n0_ n1_; (try clear hb); (try clear hb2); (try clear hk); (try clear hi)) | (go_at_call 10; (with_reducible refine (debentureref02_May.calls a1 false _ A11.out).mono ?_); rintro e w28 ⟨rfl, hb⟩; have n0_ := Aside0.mk (Kd.R_below (by (with_reducible repeat (first | apply Kd.R_alloc | apply Kd.R_drewN | apply Kd.R_drew)); exact HO104.out) hb); have n1_ := Aside0.mk (below_step (by repeat (first | (with_reducible first | exact HB.out | apply below_alloc | apply pw_below_drewN | apply below_drew1) | exact HB.out)) hb); clear HO104; clear HB; have HO104 := n0_; have HB := n1_; clear n0_ n1_; (try clear hb); (try clear hb2); (try clear hk); (try clear hi)))
      go_meet
      case rel => exact ⟨_, (true), (by first | rfl | (simp; done) | (simp [*]; done)), H', ⟨by first | omega | exact Nat.le_refl _⟩, ⟨by repeat (first | (with_reducible first | exact HB.out | apply below_alloc | apply pw_below_drewN | apply below_drew1) | exact HB.out)⟩⟩
    ·replace c10 := Bool.eq_false_iff.mpr c10
     subst c10
     have H1 : (debenturelaw02_WholeLaws.j0 k a0 a1 a2 true) = some r := by rw [if_neg (show ¬ (false = true) by decide)] at H; exact H
     clear H
     have H := H1
     clear H1
     have H' := Aside0.mk H
     clear H
     go_wp2_with (first | ((with_reducible refine gate_callee (f := 8) rfl ?_); refine goesL_ (some 9) rfl rfl Tryd.func8 (by kernel_rfl) rfl #[] rfl (by (try simp only [List.map_toArray, List.map_cons, List.map_nil]); first | done | rfl | (simp only [List.length_drop, List.length_take]; rfl)) ?_; (with_reducible refine (debenturelaw02_fixed.calls  true _ ?side1 A5.out).mono ?_); (case side1 => exact Laid.below HLD.out (by repeat (first | (with_reducible first | exact HB.out | apply below_alloc | apply pw_below_drewN | apply below_drew1) | exact HB.out))); rintro e w29 ⟨rfl, hb⟩; refine ⟨_, rfl, ?_⟩; have n0_ := Aside0.mk (below_step (by repeat (first | (with_reducible first | exact HB.out | apply below_alloc | apply pw_below_drewN | apply below_drew1) | exact HB.out)) hb); clear HB; have HB := n0_; clear n0_; (try clear hb); (try clear hb2); (try clear hk); (try clear hi)) | ((with_reducible refine gate_dst (N := 15) rfl ?_); (try (refine gate_guard (by rfl) ?_; dsimp only)); refine Kd.R_lit Kd.string _ 9 ?hg (N := 15) ?hd (xs := ([a0, a1, a2] : List ByteArray)) (inner := [.string a0, .string a1, .string a2]) (ok := fun _ => True) (okp := fun _ => True) ?hr ?hp (fun _ hk => hk) trivial (Below.refl _ _) (Nat.le_refl _) (by simp) ?_; (case hd => rfl); (case hg => rfl); (case hr => first | (go_simp; done) | (go_simp; rfl)); (case hp => exact (Reps.one (show Kd.M Kd.string _ _ _ a0 [.string a0] from rfl) (Reps.one (show Kd.M Kd.string _ _ _ a1 [.string a1] from rfl) (Reps.one (show Kd.M Kd.string _ _ _ a2 [.string a2] from rfl) (Reps.none _ _))))); intro v103 w30 ho31 hb hg_ hnew_; clear hg_ hnew_; (first | rw [← Ny102.out] at ho31 | (simp only [Int.reduceToNat] at ho31; rw [← Ny102.out] at ho31)); have n0_ := Aside0.mk (Kd.R_lower ho31 (below_size (by repeat (first | (with_reducible first | exact HB.out | apply below_alloc | apply pw_below_drewN | apply below_drew1) | exact HB.out)))); have n1_ := Aside0.mk (below_step (by repeat (first | (with_reducible first | exact HB.out | apply below_alloc | apply pw_below_drewN | apply below_drew1) | exact HB.out)) hb); clear HB; have HO104 := n0_; have HB := n1_; clear n0_ n1_; clear hb ho31; obtain ⟨Ao32, co32, eo32⟩ := Kd.R_slice HO104.out; subst eo32) | (go_at_call 9; (with_reducible refine (debentureref01_Short.calls _ _ y102 true _ ?side1 ?side2 A7.out).mono ?_); (case side1 => repeat (first | exact (Kd.R_reads' HO104.out).2.2 | (with_reducible refine Kd.C_alloc ?_ _) | (with_reducible refine Kd.C_drewN ?_ _) | (with_reducible refine Kd.C_drew ?_))); (case side2 => exact (Kd.R_reads' HO104.out).2.1); rintro e w33 ⟨rfl, hb⟩; have n0_ := Aside0.mk (Kd.R_below (by (with_reducible repeat (first | apply Kd.R_alloc | apply Kd.R_drewN | apply Kd.R_drew)); exact HO104.out) hb); have n1_ := Aside0.mk (below_step (by repeat (first | (with_reducible first | exact HB.out | apply below_alloc | apply pw_below_drewN | apply below_drew1) | exact HB.out)) hb); clear HO104; clear HB; have HO104 := n0_; have HB := n1_; clear n0_ n1_; (try clear hb); (try clear hb2); (try clear hk); (try clear hi)) | (go_at_call 10; (with_reducible refine (debentureref02_May.calls a0 false _ A9.out).mono ?_); rintro e w34 ⟨rfl, hb⟩; have n0_ := Aside0.mk (Kd.R_below (by (with_reducible repeat (first | apply Kd.R_alloc | apply Kd.R_drewN | apply Kd.R_drew)); exact HO104.out) hb); have n1_ := Aside0.mk (below_step (by repeat (first | (with_reducible first | exact HB.out | apply below_alloc | apply pw_below_drewN | apply below_drew1) | exact HB.out)) hb); clear HO104; clear HB; have HO104 := n0_; have HB := n1_; clear n0_ n1_; (try clear hb); (try clear hb2); (try clear hk); (try clear hi)))
     go_meet
     case rel => exact ⟨_, (true), (by first | rfl | (simp; done) | (simp [*]; done)), H', ⟨by first | omega | exact Nat.le_refl _⟩, ⟨by repeat (first | (with_reducible first | exact HB.out | apply below_alloc | apply pw_below_drewN | apply below_drew1) | exact HB.out)⟩⟩
   ·replace c8 := Bool.eq_false_iff.mpr c8
    subst c8
    have H1 : (debenturelaw02_WholeLaws.j0 k a0 a1 a2 true) = some r := by rw [if_neg (show ¬ (false = true) by decide)] at H; exact H
    clear H
    have H := H1
    clear H1
    have H' := Aside0.mk H
    clear H
    go_wp2_with (first | ((with_reducible refine gate_callee (f := 8) rfl ?_); refine goesL_ (some 9) rfl rfl Tryd.func8 (by kernel_rfl) rfl #[] rfl (by (try simp only [List.map_toArray, List.map_cons, List.map_nil]); first | done | rfl | (simp only [List.length_drop, List.length_take]; rfl)) ?_; (with_reducible refine (debenturelaw02_fixed.calls  true _ ?side1 A5.out).mono ?_); (case side1 => exact Laid.below HLD.out (by repeat (first | (with_reducible first | exact HB.out | apply below_alloc | apply pw_below_drewN | apply below_drew1) | exact HB.out))); rintro e w35 ⟨rfl, hb⟩; refine ⟨_, rfl, ?_⟩; have n0_ := Aside0.mk (below_step (by repeat (first | (with_reducible first | exact HB.out | apply below_alloc | apply pw_below_drewN | apply below_drew1) | exact HB.out)) hb); clear HB; have HB := n0_; clear n0_; (try clear hb); (try clear hb2); (try clear hk); (try clear hi)) | ((with_reducible refine gate_dst (N := 15) rfl ?_); (try (refine gate_guard (by rfl) ?_; dsimp only)); refine Kd.R_lit Kd.string _ 9 ?hg (N := 15) ?hd (xs := ([a0, a1, a2] : List ByteArray)) (inner := [.string a0, .string a1, .string a2]) (ok := fun _ => True) (okp := fun _ => True) ?hr ?hp (fun _ hk => hk) trivial (Below.refl _ _) (Nat.le_refl _) (by simp) ?_; (case hd => rfl); (case hg => rfl); (case hr => first | (go_simp; done) | (go_simp; rfl)); (case hp => exact (Reps.one (show Kd.M Kd.string _ _ _ a0 [.string a0] from rfl) (Reps.one (show Kd.M Kd.string _ _ _ a1 [.string a1] from rfl) (Reps.one (show Kd.M Kd.string _ _ _ a2 [.string a2] from rfl) (Reps.none _ _))))); intro v103 w36 ho37 hb hg_ hnew_; clear hg_ hnew_; (first | rw [← Ny102.out] at ho37 | (simp only [Int.reduceToNat] at ho37; rw [← Ny102.out] at ho37)); have n0_ := Aside0.mk (Kd.R_lower ho37 (below_size (by repeat (first | (with_reducible first | exact HB.out | apply below_alloc | apply pw_below_drewN | apply below_drew1) | exact HB.out)))); have n1_ := Aside0.mk (below_step (by repeat (first | (with_reducible first | exact HB.out | apply below_alloc | apply pw_below_drewN | apply below_drew1) | exact HB.out)) hb); clear HB; have HO104 := n0_; have HB := n1_; clear n0_ n1_; clear hb ho37; obtain ⟨Ao38, co38, eo38⟩ := Kd.R_slice HO104.out; subst eo38) | (go_at_call 9; (with_reducible refine (debentureref01_Short.calls _ _ y102 false _ ?side1 ?side2 A7.out).mono ?_); (case side1 => repeat (first | exact (Kd.R_reads' HO104.out).2.2 | (with_reducible refine Kd.C_alloc ?_ _) | (with_reducible refine Kd.C_drewN ?_ _) | (with_reducible refine Kd.C_drew ?_))); (case side2 => exact (Kd.R_reads' HO104.out).2.1); rintro e w39 ⟨rfl, hb⟩; have n0_ := Aside0.mk (Kd.R_below (by (with_reducible repeat (first | apply Kd.R_alloc | apply Kd.R_drewN | apply Kd.R_drew)); exact HO104.out) hb); have n1_ := Aside0.mk (below_step (by repeat (first | (with_reducible first | exact HB.out | apply below_alloc | apply pw_below_drewN | apply below_drew1) | exact HB.out)) hb); clear HO104; clear HB; have HO104 := n0_; have HB := n1_; clear n0_ n1_; (try clear hb); (try clear hb2); (try clear hk); (try clear hi)))
    go_meet
    case rel => exact ⟨_, (true), (by first | rfl | (simp; done) | (simp [*]; done)), H', ⟨by first | omega | exact Nat.le_refl _⟩, ⟨by repeat (first | (with_reducible first | exact HB.out | apply below_alloc | apply pw_below_drewN | apply below_drew1) | exact HB.out)⟩⟩
  ·replace c6 := Bool.eq_false_iff.mpr c6
   subst c6
   have H1 : (debenturelaw02_WholeLaws.j0 k a0 a1 a2 true) = some r := by rw [if_neg (show ¬ (false = true) by decide)] at H; exact H
   clear H
   have H := H1
   clear H1
   have H' := Aside0.mk H
   clear H
   go_wp2_with (first | ((with_reducible refine gate_callee (f := 8) rfl ?_); refine goesL_ (some 9) rfl rfl Tryd.func8 (by kernel_rfl) rfl #[] rfl (by (try simp only [List.map_toArray, List.map_cons, List.map_nil]); first | done | rfl | (simp only [List.length_drop, List.length_take]; rfl)) ?_; (with_reducible refine (debenturelaw02_fixed.calls  false _ ?side1 A5.out).mono ?_); (case side1 => exact Laid.below HLD.out (by repeat (first | (with_reducible first | exact HB.out | apply below_alloc | apply pw_below_drewN | apply below_drew1) | exact HB.out))); rintro e w40 ⟨rfl, hb⟩; refine ⟨_, rfl, ?_⟩; have n0_ := Aside0.mk (below_step (by repeat (first | (with_reducible first | exact HB.out | apply below_alloc | apply pw_below_drewN | apply below_drew1) | exact HB.out)) hb); clear HB; have HB := n0_; clear n0_; (try clear hb); (try clear hb2); (try clear hk); (try clear hi)))
   go_meet
   case rel => exact ⟨_, (true), (by first | rfl | (simp; done) | (simp [*]; done)), H', ⟨by first | omega | exact Nat.le_refl _⟩, ⟨by repeat (first | (with_reducible first | exact HB.out | apply below_alloc | apply pw_below_drewN | apply below_drew1) | exact HB.out)⟩⟩
 case rest =>
  clear HC4
  try clear c1
  try clear p2
  try clear c3
  try clear c6
  try clear c8
  try clear c10
  try clear c12
  obtain ⟨kq, x33_3, rfl, HA, HJ3, HB⟩ := hcut
  cases kq with
  | zero => exact absurd HA.out (by simp [debenturelaw02_WholeLaws.j0])
  | succ kj3 =>
   have H := HA.out
   clear HA
   simp only [debenturelaw02_WholeLaws.j0] at H
   by_cases c41 : x33_3 = true
   ·subst c41
    have H1 : ((debenturelaw02_fixed.f).bind fun t109 => (some t109)) = some r := by rw [if_pos rfl] at H; exact H
    clear H
    have H := H1
    clear H1
    replace H := Option.bind_eq_some_iff.mp H
    obtain ⟨t109, A420, H⟩ := H
    replace H : (some t109) = some r := H
    have A42 := Aside0.mk A420
    clear A420
    obtain rfl := Option.some.inj H
    go_wp2_with (first | ((with_reducible refine gate_callee (f := 8) rfl ?_); refine goesL_ (some 34) rfl rfl Tryd.func8 (by kernel_rfl) rfl #[] rfl (by (try simp only [List.map_toArray, List.map_cons, List.map_nil]); first | done | rfl | (simp only [List.length_drop, List.length_take]; rfl)) ?_; (with_reducible refine (debenturelaw02_fixed.calls  t109 _ ?side1 A42.out).mono ?_); (case side1 => exact Laid.below HLD.out (by repeat (first | (with_reducible first | exact HB.out | apply below_alloc | apply pw_below_drewN | apply below_drew1) | exact HB.out))); rintro e w43 ⟨rfl, hb⟩; refine ⟨_, rfl, ?_⟩; have n0_ := Aside0.mk (below_step (by repeat (first | (with_reducible first | exact HB.out | apply below_alloc | apply pw_below_drewN | apply below_drew1) | exact HB.out)) hb); clear HB; have HB := n0_; clear n0_; (try clear hb); (try clear hb2); (try clear hk); (try clear hi)))
    go_ret
    exact ⟨by first | rfl | (simp [errW_none, errW_some] <;> rfl) | (simp [*, errW_none, errW_some] <;> rfl), by repeat (first | (with_reducible first | exact HB.out | apply below_alloc | apply pw_below_drewN | apply below_drew1) | exact HB.out)⟩
   ·replace c41 := Bool.eq_false_iff.mpr c41
    subst c41
    have H1 : ((whole_Add.f a0 a1).bind fun t110 => ((whole_Add.f t110 a2).bind fun t111 => ((whole_Mul.f a0 a1).bind fun t112 => ((whole_Mul.f t112 a2).bind fun t113 => (if t111.toList = ([] : List UInt8) then (debenturelaw02_WholeLaws.j1 kj3 a0 a1 true) else (if t113.toList = ([] : List UInt8) then (debenturelaw02_WholeLaws.j1 kj3 a0 a1 true) else ((whole_Add.f a1 a0).bind fun t114 => ((whole_Add.f a2 t114).bind fun t115 => (if t111.toList = t115.toList then ((whole_Mul.f a1 a0).bind fun t116 => ((whole_Mul.f a2 t116).bind fun t117 => (if t113.toList = t117.toList then ((whole_Add.f a1 a2).bind fun t118 => ((whole_Mul.f a0 t118).bind fun t119 => ((whole_Mul.f a0 a1).bind fun t120 => ((whole_Mul.f a0 a2).bind fun t121 => ((whole_Add.f t120 t121).bind fun t122 => (debenturelaw02_WholeLaws.j1 kj3 a0 a1 (t119.toList != t122.toList))))))) else (debenturelaw02_WholeLaws.j1 kj3 a0 a1 true)))) else (debenturelaw02_WholeLaws.j1 kj3 a0 a1 true)))))))))) = some r := by rw [if_neg (show ¬ (false = true) by decide)] at H; exact H
    clear H
    have H := H1
    clear H1
    replace H := Option.bind_eq_some_iff.mp H
    obtain ⟨t110, A440, H⟩ := H
    replace H : ((whole_Add.f t110 a2).bind fun t111 => ((whole_Mul.f a0 a1).bind fun t112 => ((whole_Mul.f t112 a2).bind fun t113 => (if t111.toList = ([] : List UInt8) then (debenturelaw02_WholeLaws.j1 kj3 a0 a1 true) else (if t113.toList = ([] : List UInt8) then (debenturelaw02_WholeLaws.j1 kj3 a0 a1 true) else ((whole_Add.f a1 a0).bind fun t114 => ((whole_Add.f a2 t114).bind fun t115 => (if t111.toList = t115.toList then ((whole_Mul.f a1 a0).bind fun t116 => ((whole_Mul.f a2 t116).bind fun t117 => (if t113.toList = t117.toList then ((whole_Add.f a1 a2).bind fun t118 => ((whole_Mul.f a0 t118).bind fun t119 => ((whole_Mul.f a0 a1).bind fun t120 => ((whole_Mul.f a0 a2).bind fun t121 => ((whole_Add.f t120 t121).bind fun t122 => (debenturelaw02_WholeLaws.j1 kj3 a0 a1 (t119.toList != t122.toList))))))) else (debenturelaw02_WholeLaws.j1 kj3 a0 a1 true)))) else (debenturelaw02_WholeLaws.j1 kj3 a0 a1 true))))))))) = some r := H
    have A44 := Aside0.mk A440
    clear A440
    replace H := Option.bind_eq_some_iff.mp H
    obtain ⟨t111, A450, H⟩ := H
    replace H : ((whole_Mul.f a0 a1).bind fun t112 => ((whole_Mul.f t112 a2).bind fun t113 => (if t111.toList = ([] : List UInt8) then (debenturelaw02_WholeLaws.j1 kj3 a0 a1 true) else (if t113.toList = ([] : List UInt8) then (debenturelaw02_WholeLaws.j1 kj3 a0 a1 true) else ((whole_Add.f a1 a0).bind fun t114 => ((whole_Add.f a2 t114).bind fun t115 => (if t111.toList = t115.toList then ((whole_Mul.f a1 a0).bind fun t116 => ((whole_Mul.f a2 t116).bind fun t117 => (if t113.toList = t117.toList then ((whole_Add.f a1 a2).bind fun t118 => ((whole_Mul.f a0 t118).bind fun t119 => ((whole_Mul.f a0 a1).bind fun t120 => ((whole_Mul.f a0 a2).bind fun t121 => ((whole_Add.f t120 t121).bind fun t122 => (debenturelaw02_WholeLaws.j1 kj3 a0 a1 (t119.toList != t122.toList))))))) else (debenturelaw02_WholeLaws.j1 kj3 a0 a1 true)))) else (debenturelaw02_WholeLaws.j1 kj3 a0 a1 true)))))))) = some r := H
    have A45 := Aside0.mk A450
    clear A450
    replace H := Option.bind_eq_some_iff.mp H
    obtain ⟨t112, A460, H⟩ := H
    replace H : ((whole_Mul.f t112 a2).bind fun t113 => (if t111.toList = ([] : List UInt8) then (debenturelaw02_WholeLaws.j1 kj3 a0 a1 true) else (if t113.toList = ([] : List UInt8) then (debenturelaw02_WholeLaws.j1 kj3 a0 a1 true) else ((whole_Add.f a1 a0).bind fun t114 => ((whole_Add.f a2 t114).bind fun t115 => (if t111.toList = t115.toList then ((whole_Mul.f a1 a0).bind fun t116 => ((whole_Mul.f a2 t116).bind fun t117 => (if t113.toList = t117.toList then ((whole_Add.f a1 a2).bind fun t118 => ((whole_Mul.f a0 t118).bind fun t119 => ((whole_Mul.f a0 a1).bind fun t120 => ((whole_Mul.f a0 a2).bind fun t121 => ((whole_Add.f t120 t121).bind fun t122 => (debenturelaw02_WholeLaws.j1 kj3 a0 a1 (t119.toList != t122.toList))))))) else (debenturelaw02_WholeLaws.j1 kj3 a0 a1 true)))) else (debenturelaw02_WholeLaws.j1 kj3 a0 a1 true))))))) = some r := H
    have A46 := Aside0.mk A460
    clear A460
    replace H := Option.bind_eq_some_iff.mp H
    obtain ⟨t113, A470, H⟩ := H
    replace H : (if t111.toList = ([] : List UInt8) then (debenturelaw02_WholeLaws.j1 kj3 a0 a1 true) else (if t113.toList = ([] : List UInt8) then (debenturelaw02_WholeLaws.j1 kj3 a0 a1 true) else ((whole_Add.f a1 a0).bind fun t114 => ((whole_Add.f a2 t114).bind fun t115 => (if t111.toList = t115.toList then ((whole_Mul.f a1 a0).bind fun t116 => ((whole_Mul.f a2 t116).bind fun t117 => (if t113.toList = t117.toList then ((whole_Add.f a1 a2).bind fun t118 => ((whole_Mul.f a0 t118).bind fun t119 => ((whole_Mul.f a0 a1).bind fun t120 => ((whole_Mul.f a0 a2).bind fun t121 => ((whole_Add.f t120 t121).bind fun t122 => (debenturelaw02_WholeLaws.j1 kj3 a0 a1 (t119.toList != t122.toList))))))) else (debenturelaw02_WholeLaws.j1 kj3 a0 a1 true)))) else (debenturelaw02_WholeLaws.j1 kj3 a0 a1 true)))))) = some r := H
    have A47 := Aside0.mk A470
    clear A470
    have HC48 := Aside0.mk H
    clear H
    go_upto_region 5 with (first | ((with_reducible refine gate_callee (f := 11) rfl ?_); refine goesL_ (some 37) rfl rfl Tryd.func11 (by kernel_rfl) rfl #[.string a0, .string a1] rfl (by (try simp only [List.map_toArray, List.map_cons, List.map_nil]); first | done | rfl | (simp only [List.length_drop, List.length_take]; rfl)) ?_; (with_reducible refine (whole_Add.calls a0 a1 t110 _ ?side1 A44.out).mono ?_); (case side1 => exact Laid.below HLD.out (by repeat (first | (with_reducible first | exact HB.out | apply below_alloc | apply pw_below_drewN | apply below_drew1) | exact HB.out))); rintro e w49 ⟨rfl, hb⟩; refine ⟨_, rfl, ?_⟩; have n0_ := Aside0.mk (below_step (by repeat (first | (with_reducible first | exact HB.out | apply below_alloc | apply pw_below_drewN | apply below_drew1) | exact HB.out)) hb); clear HB; have HB := n0_; clear n0_; (try clear hb); (try clear hb2); (try clear hk); (try clear hi)) | ((with_reducible refine gate_callee (f := 11) rfl ?_); refine goesL_ (some 39) rfl rfl Tryd.func11 (by kernel_rfl) rfl #[.string t110, .string a2] rfl (by (try simp only [List.map_toArray, List.map_cons, List.map_nil]); first | done | rfl | (simp only [List.length_drop, List.length_take]; rfl)) ?_; (with_reducible refine (whole_Add.calls t110 a2 t111 _ ?side1 A45.out).mono ?_); (case side1 => exact Laid.below HLD.out (by repeat (first | (with_reducible first | exact HB.out | apply below_alloc | apply pw_below_drewN | apply below_drew1) | exact HB.out))); rintro e w50 ⟨rfl, hb⟩; refine ⟨_, rfl, ?_⟩; have n0_ := Aside0.mk (below_step (by repeat (first | (with_reducible first | exact HB.out | apply below_alloc | apply pw_below_drewN | apply below_drew1) | exact HB.out)) hb); clear HB; have HB := n0_; clear n0_; (try clear hb); (try clear hb2); (try clear hk); (try clear hi)) | ((with_reducible refine gate_callee (f := 12) rfl ?_); refine goesL_ (some 42) rfl rfl Tryd.func12 (by kernel_rfl) rfl #[.string a0, .string a1] rfl (by (try simp only [List.map_toArray, List.map_cons, List.map_nil]); first | done | rfl | (simp only [List.length_drop, List.length_take]; rfl)) ?_; (with_reducible refine (whole_Mul.calls a0 a1 t112 _ ?side1 A46.out).mono ?_); (case side1 => exact Laid.below HLD.out (by repeat (first | (with_reducible first | exact HB.out | apply below_alloc | apply pw_below_drewN | apply below_drew1) | exact HB.out))); rintro e w51 ⟨rfl, hb⟩; refine ⟨_, rfl, ?_⟩; have n0_ := Aside0.mk (below_step (by repeat (first | (with_reducible first | exact HB.out | apply below_alloc | apply pw_below_drewN | apply below_drew1) | exact HB.out)) hb); clear HB; have HB := n0_; clear n0_; (try clear hb); (try clear hb2); (try clear hk); (try clear hi)) | ((with_reducible refine gate_callee (f := 12) rfl ?_); refine goesL_ (some 44) rfl rfl Tryd.func12 (by kernel_rfl) rfl #[.string t112, .string a2] rfl (by (try simp only [List.map_toArray, List.map_cons, List.map_nil]); first | done | rfl | (simp only [List.length_drop, List.length_take]; rfl)) ?_; (with_reducible refine (whole_Mul.calls t112 a2 t113 _ ?side1 A47.out).mono ?_); (case side1 => exact Laid.below HLD.out (by repeat (first | (with_reducible first | exact HB.out | apply below_alloc | apply pw_below_drewN | apply below_drew1) | exact HB.out))); rintro e w52 ⟨rfl, hb⟩; refine ⟨_, rfl, ?_⟩; have n0_ := Aside0.mk (below_step (by repeat (first | (with_reducible first | exact HB.out | apply below_alloc | apply pw_below_drewN | apply below_drew1) | exact HB.out)) hb); clear HB; have HB := n0_; clear n0_; (try clear hb); (try clear hb2); (try clear hk); (try clear hi)))
    (try simp only [Act.put, List.setIfInBounds_toArray, List.set_cons_zero, List.set_cons_succ])
    go_cut [83] (fun v83 wc => ∃ (kq : Nat) (x83_47 : Bool), v83 = .bool x83_47 ∧ Aside0 (debenturelaw02_WholeLaws.j1 kq a0 a1 x83_47 = some r) ∧ Aside0 (kq ≤ kj3) ∧ Aside0 (Below w.heap.size w wc))
    case first =>
     have H := HC48.out
     clear HC48
     by_cases c53 : t111.toList = ([] : List UInt8)
     ·rw [if_pos c53] at H
      have c53b0 : (t111.toList == ([] : List UInt8)) = true := beq_iff_eq.mpr c53
      have c53b1 : (t111.toList != ([] : List UInt8)) = false := bne_eq_false_iff_eq.mpr c53
      clear c53
      (first | rw [c53b0] | (simp only [i64_w, i32_w]; rw [c53b0]) | skip)
      have H' := Aside0.mk H
      clear H
      go_wp2
      go_meet
      case rel => exact ⟨_, (true), (by first | rfl | (simp; done) | (simp [*]; done)), H', ⟨by have := HJ3.out; first | omega | exact Nat.le_refl _⟩, ⟨by repeat (first | (with_reducible first | exact HB.out | apply below_alloc | apply pw_below_drewN | apply below_drew1) | exact HB.out)⟩⟩
     ·rw [if_neg c53] at H
      have c53b0 : (t111.toList == ([] : List UInt8)) = false := beq_eq_false_iff_ne.mpr c53
      have c53b1 : (t111.toList != ([] : List UInt8)) = true := bne_iff_ne.mpr c53
      (first | rw [c53b0] | (simp only [i64_w, i32_w]; rw [c53b0]) | skip)
      by_cases c54 : t113.toList = ([] : List UInt8)
      ·rw [if_pos c54] at H
       have c54b0 : (t113.toList == ([] : List UInt8)) = true := beq_iff_eq.mpr c54
       have c54b1 : (t113.toList != ([] : List UInt8)) = false := bne_eq_false_iff_eq.mpr c54
       clear c54
       have H' := Aside0.mk H
       clear H
       go_wp2
       go_meet
       case rel => exact ⟨_, (true), (by first | rfl | (simp; done) | (simp [*]; done)), H', ⟨by have := HJ3.out; first | omega | exact Nat.le_refl _⟩, ⟨by repeat (first | (with_reducible first | exact HB.out | apply below_alloc | apply pw_below_drewN | apply below_drew1) | exact HB.out)⟩⟩
      ·rw [if_neg c54] at H
       have c54b0 : (t113.toList == ([] : List UInt8)) = false := beq_eq_false_iff_ne.mpr c54
       have c54b1 : (t113.toList != ([] : List UInt8)) = true := bne_iff_ne.mpr c54
       replace H := Option.bind_eq_some_iff.mp H
       obtain ⟨t114, A550, H⟩ := H
       replace H : ((whole_Add.f a2 t114).bind fun t115 => (if t111.toList = t115.toList then ((whole_Mul.f a1 a0).bind fun t116 => ((whole_Mul.f a2 t116).bind fun t117 => (if t113.toList = t117.toList then ((whole_Add.f a1 a2).bind fun t118 => ((whole_Mul.f a0 t118).bind fun t119 => ((whole_Mul.f a0 a1).bind fun t120 => ((whole_Mul.f a0 a2).bind fun t121 => ((whole_Add.f t120 t121).bind fun t122 => (debenturelaw02_WholeLaws.j1 kj3 a0 a1 (t119.toList != t122.toList))))))) else (debenturelaw02_WholeLaws.j1 kj3 a0 a1 true)))) else (debenturelaw02_WholeLaws.j1 kj3 a0 a1 true))) = some r := H
       have A55 := Aside0.mk A550
       clear A550
       replace H := Option.bind_eq_some_iff.mp H
       obtain ⟨t115, A560, H⟩ := H
       replace H : (if t111.toList = t115.toList then ((whole_Mul.f a1 a0).bind fun t116 => ((whole_Mul.f a2 t116).bind fun t117 => (if t113.toList = t117.toList then ((whole_Add.f a1 a2).bind fun t118 => ((whole_Mul.f a0 t118).bind fun t119 => ((whole_Mul.f a0 a1).bind fun t120 => ((whole_Mul.f a0 a2).bind fun t121 => ((whole_Add.f t120 t121).bind fun t122 => (debenturelaw02_WholeLaws.j1 kj3 a0 a1 (t119.toList != t122.toList))))))) else (debenturelaw02_WholeLaws.j1 kj3 a0 a1 true)))) else (debenturelaw02_WholeLaws.j1 kj3 a0 a1 true)) = some r := H
       have A56 := Aside0.mk A560
       clear A560
       by_cases c57 : t111.toList = t115.toList
       ·rw [if_pos c57] at H
        have c57b0 : (t111.toList == t115.toList) = true := beq_iff_eq.mpr c57
        have c57b1 : (t111.toList != t115.toList) = false := bne_eq_false_iff_eq.mpr c57
        clear c57
        replace H := Option.bind_eq_some_iff.mp H
        obtain ⟨t116, A580, H⟩ := H
        replace H : ((whole_Mul.f a2 t116).bind fun t117 => (if t113.toList = t117.toList then ((whole_Add.f a1 a2).bind fun t118 => ((whole_Mul.f a0 t118).bind fun t119 => ((whole_Mul.f a0 a1).bind fun t120 => ((whole_Mul.f a0 a2).bind fun t121 => ((whole_Add.f t120 t121).bind fun t122 => (debenturelaw02_WholeLaws.j1 kj3 a0 a1 (t119.toList != t122.toList))))))) else (debenturelaw02_WholeLaws.j1 kj3 a0 a1 true))) = some r := H
        have A58 := Aside0.mk A580
        clear A580
        replace H := Option.bind_eq_some_iff.mp H
        obtain ⟨t117, A590, H⟩ := H
        replace H : (if t113.toList = t117.toList then ((whole_Add.f a1 a2).bind fun t118 => ((whole_Mul.f a0 t118).bind fun t119 => ((whole_Mul.f a0 a1).bind fun t120 => ((whole_Mul.f a0 a2).bind fun t121 => ((whole_Add.f t120 t121).bind fun t122 => (debenturelaw02_WholeLaws.j1 kj3 a0 a1 (t119.toList != t122.toList))))))) else (debenturelaw02_WholeLaws.j1 kj3 a0 a1 true)) = some r := H
        have A59 := Aside0.mk A590
        clear A590
        by_cases c60 : t113.toList = t117.toList
        ·rw [if_pos c60] at H
         have c60b0 : (t113.toList == t117.toList) = true := beq_iff_eq.mpr c60
         have c60b1 : (t113.toList != t117.toList) = false := bne_eq_false_iff_eq.mpr c60
         clear c60
         replace H := Option.bind_eq_some_iff.mp H
         obtain ⟨t118, A610, H⟩ := H
         replace H : ((whole_Mul.f a0 t118).bind fun t119 => ((whole_Mul.f a0 a1).bind fun t120 => ((whole_Mul.f a0 a2).bind fun t121 => ((whole_Add.f t120 t121).bind fun t122 => (debenturelaw02_WholeLaws.j1 kj3 a0 a1 (t119.toList != t122.toList)))))) = some r := H
         have A61 := Aside0.mk A610
         clear A610
         replace H := Option.bind_eq_some_iff.mp H
         obtain ⟨t119, A620, H⟩ := H
         replace H : ((whole_Mul.f a0 a1).bind fun t120 => ((whole_Mul.f a0 a2).bind fun t121 => ((whole_Add.f t120 t121).bind fun t122 => (debenturelaw02_WholeLaws.j1 kj3 a0 a1 (t119.toList != t122.toList))))) = some r := H
         have A62 := Aside0.mk A620
         clear A620
         replace H := Option.bind_eq_some_iff.mp H
         obtain ⟨t120, A630, H⟩ := H
         replace H : ((whole_Mul.f a0 a2).bind fun t121 => ((whole_Add.f t120 t121).bind fun t122 => (debenturelaw02_WholeLaws.j1 kj3 a0 a1 (t119.toList != t122.toList)))) = some r := H
         have A63 := Aside0.mk A630
         clear A630
         replace H := Option.bind_eq_some_iff.mp H
         obtain ⟨t121, A640, H⟩ := H
         replace H : ((whole_Add.f t120 t121).bind fun t122 => (debenturelaw02_WholeLaws.j1 kj3 a0 a1 (t119.toList != t122.toList))) = some r := H
         have A64 := Aside0.mk A640
         clear A640
         replace H := Option.bind_eq_some_iff.mp H
         obtain ⟨t122, A650, H⟩ := H
         replace H : (debenturelaw02_WholeLaws.j1 kj3 a0 a1 (t119.toList != t122.toList)) = some r := H
         have A65 := Aside0.mk A650
         clear A650
         have H' := Aside0.mk H
         clear H
         go_wp2_with (first | (go_at_call 11; (with_reducible refine (whole_Add.calls a1 a0 t114 _ ?side1 A55.out).mono ?_); (case side1 => exact Laid.below HLD.out (by repeat (first | (with_reducible first | exact HB.out | apply below_alloc | apply pw_below_drewN | apply below_drew1) | exact HB.out))); rintro e w66 ⟨rfl, hb⟩; have n0_ := Aside0.mk (below_step (by repeat (first | (with_reducible first | exact HB.out | apply below_alloc | apply pw_below_drewN | apply below_drew1) | exact HB.out)) hb); clear HB; have HB := n0_; clear n0_; (try clear hb); (try clear hb2); (try clear hk); (try clear hi)) | (go_at_call 11; (with_reducible refine (whole_Add.calls a2 t114 t115 _ ?side1 A56.out).mono ?_); (case side1 => exact Laid.below HLD.out (by repeat (first | (with_reducible first | exact HB.out | apply below_alloc | apply pw_below_drewN | apply below_drew1) | exact HB.out))); rintro e w67 ⟨rfl, hb⟩; have n0_ := Aside0.mk (below_step (by repeat (first | (with_reducible first | exact HB.out | apply below_alloc | apply pw_below_drewN | apply below_drew1) | exact HB.out)) hb); clear HB; have HB := n0_; clear n0_; (try clear hb); (try clear hb2); (try clear hk); (try clear hi)) | (go_at_call 12; (with_reducible refine (whole_Mul.calls a1 a0 t116 _ ?side1 A58.out).mono ?_); (case side1 => exact Laid.below HLD.out (by repeat (first | (with_reducible first | exact HB.out | apply below_alloc | apply pw_below_drewN | apply below_drew1) | exact HB.out))); rintro e w68 ⟨rfl, hb⟩; have n0_ := Aside0.mk (below_step (by repeat (first | (with_reducible first | exact HB.out | apply below_alloc | apply pw_below_drewN | apply below_drew1) | exact HB.out)) hb); clear HB; have HB := n0_; clear n0_; (try clear hb); (try clear hb2); (try clear hk); (try clear hi)) | (go_at_call 12; (with_reducible refine (whole_Mul.calls a2 t116 t117 _ ?side1 A59.out).mono ?_); (case side1 => exact Laid.below HLD.out (by repeat (first | (with_reducible first | exact HB.out | apply below_alloc | apply pw_below_drewN | apply below_drew1) | exact HB.out))); rintro e w69 ⟨rfl, hb⟩; have n0_ := Aside0.mk (below_step (by repeat (first | (with_reducible first | exact HB.out | apply below_alloc | apply pw_below_drewN | apply below_drew1) | exact HB.out)) hb); clear HB; have HB := n0_; clear n0_; (try clear hb); (try clear hb2); (try clear hk); (try clear hi)) | (go_at_call 11; (with_reducible refine (whole_Add.calls a1 a2 t118 _ ?side1 A61.out).mono ?_); (case side1 => exact Laid.below HLD.out (by repeat (first | (with_reducible first | exact HB.out | apply below_alloc | apply pw_below_drewN | apply below_drew1) | exact HB.out))); rintro e w70 ⟨rfl, hb⟩; have n0_ := Aside0.mk (below_step (by repeat (first | (with_reducible first | exact HB.out | apply below_alloc | apply pw_below_drewN | apply below_drew1) | exact HB.out)) hb); clear HB; have HB := n0_; clear n0_; (try clear hb); (try clear hb2); (try clear hk); (try clear hi)) | (go_at_call 12; (with_reducible refine (whole_Mul.calls a0 t118 t119 _ ?side1 A62.out).mono ?_); (case side1 => exact Laid.below HLD.out (by repeat (first | (with_reducible first | exact HB.out | apply below_alloc | apply pw_below_drewN | apply below_drew1) | exact HB.out))); rintro e w71 ⟨rfl, hb⟩; have n0_ := Aside0.mk (below_step (by repeat (first | (with_reducible first | exact HB.out | apply below_alloc | apply pw_below_drewN | apply below_drew1) | exact HB.out)) hb); clear HB; have HB := n0_; clear n0_; (try clear hb); (try clear hb2); (try clear hk); (try clear hi)) | (go_at_call 12; (with_reducible refine (whole_Mul.calls a0 a1 t120 _ ?side1 A63.out).mono ?_); (case side1 => exact Laid.below HLD.out (by repeat (first | (with_reducible first | exact HB.out | apply below_alloc | apply pw_below_drewN | apply below_drew1) | exact HB.out))); rintro e w72 ⟨rfl, hb⟩; have n0_ := Aside0.mk (below_step (by repeat (first | (with_reducible first | exact HB.out | apply below_alloc | apply pw_below_drewN | apply below_drew1) | exact HB.out)) hb); clear HB; have HB := n0_; clear n0_; (try clear hb); (try clear hb2); (try clear hk); (try clear hi)) | (go_at_call 12; (with_reducible refine (whole_Mul.calls a0 a2 t121 _ ?side1 A64.out).mono ?_); (case side1 => exact Laid.below HLD.out (by repeat (first | (with_reducible first | exact HB.out | apply below_alloc | apply pw_below_drewN | apply below_drew1) | exact HB.out))); rintro e w73 ⟨rfl, hb⟩; have n0_ := Aside0.mk (below_step (by repeat (first | (with_reducible first | exact HB.out | apply below_alloc | apply pw_below_drewN | apply below_drew1) | exact HB.out)) hb); clear HB; have HB := n0_; clear n0_; (try clear hb); (try clear hb2); (try clear hk); (try clear hi)) | (go_at_call 11; (with_reducible refine (whole_Add.calls t120 t121 t122 _ ?side1 A65.out).mono ?_); (case side1 => exact Laid.below HLD.out (by repeat (first | (with_reducible first | exact HB.out | apply below_alloc | apply pw_below_drewN | apply below_drew1) | exact HB.out))); rintro e w74 ⟨rfl, hb⟩; have n0_ := Aside0.mk (below_step (by repeat (first | (with_reducible first | exact HB.out | apply below_alloc | apply pw_below_drewN | apply below_drew1) | exact HB.out)) hb); clear HB; have HB := n0_; clear n0_; (try clear hb); (try clear hb2); (try clear hk); (try clear hi)))
         go_meet
         case rel => exact ⟨_, ((t119.toList != t122.toList)), (by first | rfl | (simp; done) | (simp [*]; done)), H', ⟨by have := HJ3.out; first | omega | exact Nat.le_refl _⟩, ⟨by repeat (first | (with_reducible first | exact HB.out | apply below_alloc | apply pw_below_drewN | apply below_drew1) | exact HB.out)⟩⟩
        ·rw [if_neg c60] at H
         have c60b0 : (t113.toList == t117.toList) = false := beq_eq_false_iff_ne.mpr c60
         have c60b1 : (t113.toList != t117.toList) = true := bne_iff_ne.mpr c60
         have H' := Aside0.mk H
         clear H
         go_wp2_with (first | (go_at_call 11; (with_reducible refine (whole_Add.calls a1 a0 t114 _ ?side1 A55.out).mono ?_); (case side1 => exact Laid.below HLD.out (by repeat (first | (with_reducible first | exact HB.out | apply below_alloc | apply pw_below_drewN | apply below_drew1) | exact HB.out))); rintro e w75 ⟨rfl, hb⟩; have n0_ := Aside0.mk (below_step (by repeat (first | (with_reducible first | exact HB.out | apply below_alloc | apply pw_below_drewN | apply below_drew1) | exact HB.out)) hb); clear HB; have HB := n0_; clear n0_; (try clear hb); (try clear hb2); (try clear hk); (try clear hi)) | (go_at_call 11; (with_reducible refine (whole_Add.calls a2 t114 t115 _ ?side1 A56.out).mono ?_); (case side1 => exact Laid.below HLD.out (by repeat (first | (with_reducible first | exact HB.out | apply below_alloc | apply pw_below_drewN | apply below_drew1) | exact HB.out))); rintro e w76 ⟨rfl, hb⟩; have n0_ := Aside0.mk (below_step (by repeat (first | (with_reducible first | exact HB.out | apply below_alloc | apply pw_below_drewN | apply below_drew1) | exact HB.out)) hb); clear HB; have HB := n0_; clear n0_; (try clear hb); (try clear hb2); (try clear hk); (try clear hi)) | (go_at_call 12; (with_reducible refine (whole_Mul.calls a1 a0 t116 _ ?side1 A58.out).mono ?_); (case side1 => exact Laid.below HLD.out (by repeat (first | (with_reducible first | exact HB.out | apply below_alloc | apply pw_below_drewN | apply below_drew1) | exact HB.out))); rintro e w77 ⟨rfl, hb⟩; have n0_ := Aside0.mk (below_step (by repeat (first | (with_reducible first | exact HB.out | apply below_alloc | apply pw_below_drewN | apply below_drew1) | exact HB.out)) hb); clear HB; have HB := n0_; clear n0_; (try clear hb); (try clear hb2); (try clear hk); (try clear hi)) | (go_at_call 12; (with_reducible refine (whole_Mul.calls a2 t116 t117 _ ?side1 A59.out).mono ?_); (case side1 => exact Laid.below HLD.out (by repeat (first | (with_reducible first | exact HB.out | apply below_alloc | apply pw_below_drewN | apply below_drew1) | exact HB.out))); rintro e w78 ⟨rfl, hb⟩; have n0_ := Aside0.mk (below_step (by repeat (first | (with_reducible first | exact HB.out | apply below_alloc | apply pw_below_drewN | apply below_drew1) | exact HB.out)) hb); clear HB; have HB := n0_; clear n0_; (try clear hb); (try clear hb2); (try clear hk); (try clear hi)))
         go_meet
         case rel => exact ⟨_, (true), (by first | rfl | (simp; done) | (simp [*]; done)), H', ⟨by have := HJ3.out; first | omega | exact Nat.le_refl _⟩, ⟨by repeat (first | (with_reducible first | exact HB.out | apply below_alloc | apply pw_below_drewN | apply below_drew1) | exact HB.out)⟩⟩
       ·rw [if_neg c57] at H
        have c57b0 : (t111.toList == t115.toList) = false := beq_eq_false_iff_ne.mpr c57
        have c57b1 : (t111.toList != t115.toList) = true := bne_iff_ne.mpr c57
        have H' := Aside0.mk H
        clear H
        go_wp2_with (first | (go_at_call 11; (with_reducible refine (whole_Add.calls a1 a0 t114 _ ?side1 A55.out).mono ?_); (case side1 => exact Laid.below HLD.out (by repeat (first | (with_reducible first | exact HB.out | apply below_alloc | apply pw_below_drewN | apply below_drew1) | exact HB.out))); rintro e w79 ⟨rfl, hb⟩; have n0_ := Aside0.mk (below_step (by repeat (first | (with_reducible first | exact HB.out | apply below_alloc | apply pw_below_drewN | apply below_drew1) | exact HB.out)) hb); clear HB; have HB := n0_; clear n0_; (try clear hb); (try clear hb2); (try clear hk); (try clear hi)) | (go_at_call 11; (with_reducible refine (whole_Add.calls a2 t114 t115 _ ?side1 A56.out).mono ?_); (case side1 => exact Laid.below HLD.out (by repeat (first | (with_reducible first | exact HB.out | apply below_alloc | apply pw_below_drewN | apply below_drew1) | exact HB.out))); rintro e w80 ⟨rfl, hb⟩; have n0_ := Aside0.mk (below_step (by repeat (first | (with_reducible first | exact HB.out | apply below_alloc | apply pw_below_drewN | apply below_drew1) | exact HB.out)) hb); clear HB; have HB := n0_; clear n0_; (try clear hb); (try clear hb2); (try clear hk); (try clear hi)))
        go_meet
        case rel => exact ⟨_, (true), (by first | rfl | (simp; done) | (simp [*]; done)), H', ⟨by have := HJ3.out; first | omega | exact Nat.le_refl _⟩, ⟨by repeat (first | (with_reducible first | exact HB.out | apply below_alloc | apply pw_below_drewN | apply below_drew1) | exact HB.out)⟩⟩
    case rest =>
     clear HC48
     try clear c1
     try clear p2
     try clear c3
     try clear c4
     try clear c5
     try clear c6
     try clear c8
     try clear c10
     try clear c11
     try clear c12
     try clear c41
     try clear c53
     try clear c53b0
     try clear c53b1
     try clear c54
     try clear c54b0
     try clear c54b1
     try clear c57
     try clear c57b0
     try clear c57b1
     try clear c60
     try clear c60b0
     try clear c60b1
     try clear p2
     obtain ⟨kq, x83_47, rfl, HA, HJ47, HB⟩ := hcut
     cases kq with
     | zero => exact absurd HA.out (by simp [debenturelaw02_WholeLaws.j1])
     | succ kj47 =>
      have H := HA.out
      clear HA
      simp only [debenturelaw02_WholeLaws.j1] at H
      by_cases c81 : x83_47 = true
      ·subst c81
       have H1 : (some false) = some r := by rw [if_pos rfl] at H; exact H
       clear H
       have H := H1
       clear H1
       exact absurd (H.trans (congrArg some hr_.out)) (by decide)
      ·replace c81 := Bool.eq_false_iff.mpr c81
       subst c81
       have H1 : ((whole_Sub.f a0 a0).bind fun t123 => (if t123.toList = ([48] : List UInt8) then ((whole_Sub.f a0 a1).bind fun t124 => ((whole_Sub.f a1 a0).bind fun t125 => ((whole_Neg.f t125).bind fun t126 => (if t124.toList = t126.toList then ((whole_Neg.f a0).bind fun t127 => ((whole_Neg.f t127).bind fun t128 => (if t128.toList = a0.toList then ((whole_Mul.f a0 a1).bind fun t129 => ((whole_Sign.f t129).bind fun t130 => ((whole_Sign.f a0).bind fun t131 => ((whole_Sign.f a1).bind fun t132 => (some (t130 == (wrap64 (t131 * t132)))))))) else (some false)))) else (some false))))) else (some false))) = some r := by rw [if_neg (show ¬ (false = true) by decide)] at H; exact H
       clear H
       have H := H1
       clear H1
       replace H := Option.bind_eq_some_iff.mp H
       obtain ⟨t123, A820, H⟩ := H
       replace H : (if t123.toList = ([48] : List UInt8) then ((whole_Sub.f a0 a1).bind fun t124 => ((whole_Sub.f a1 a0).bind fun t125 => ((whole_Neg.f t125).bind fun t126 => (if t124.toList = t126.toList then ((whole_Neg.f a0).bind fun t127 => ((whole_Neg.f t127).bind fun t128 => (if t128.toList = a0.toList then ((whole_Mul.f a0 a1).bind fun t129 => ((whole_Sign.f t129).bind fun t130 => ((whole_Sign.f a0).bind fun t131 => ((whole_Sign.f a1).bind fun t132 => (some (t130 == (wrap64 (t131 * t132)))))))) else (some false)))) else (some false))))) else (some false)) = some r := H
       have A82 := Aside0.mk A820
       clear A820
       by_cases c83 : t123.toList = ([48] : List UInt8)
       ·rw [if_pos c83] at H
        have c83b0 : (t123.toList == ([48] : List UInt8)) = true := beq_iff_eq.mpr c83
        have c83b1 : (t123.toList != ([48] : List UInt8)) = false := bne_eq_false_iff_eq.mpr c83
        clear c83
        replace H := Option.bind_eq_some_iff.mp H
        obtain ⟨t124, A840, H⟩ := H
        replace H : ((whole_Sub.f a1 a0).bind fun t125 => ((whole_Neg.f t125).bind fun t126 => (if t124.toList = t126.toList then ((whole_Neg.f a0).bind fun t127 => ((whole_Neg.f t127).bind fun t128 => (if t128.toList = a0.toList then ((whole_Mul.f a0 a1).bind fun t129 => ((whole_Sign.f t129).bind fun t130 => ((whole_Sign.f a0).bind fun t131 => ((whole_Sign.f a1).bind fun t132 => (some (t130 == (wrap64 (t131 * t132)))))))) else (some false)))) else (some false)))) = some r := H
        have A84 := Aside0.mk A840
        clear A840
        replace H := Option.bind_eq_some_iff.mp H
        obtain ⟨t125, A850, H⟩ := H
        replace H : ((whole_Neg.f t125).bind fun t126 => (if t124.toList = t126.toList then ((whole_Neg.f a0).bind fun t127 => ((whole_Neg.f t127).bind fun t128 => (if t128.toList = a0.toList then ((whole_Mul.f a0 a1).bind fun t129 => ((whole_Sign.f t129).bind fun t130 => ((whole_Sign.f a0).bind fun t131 => ((whole_Sign.f a1).bind fun t132 => (some (t130 == (wrap64 (t131 * t132)))))))) else (some false)))) else (some false))) = some r := H
        have A85 := Aside0.mk A850
        clear A850
        replace H := Option.bind_eq_some_iff.mp H
        obtain ⟨t126, A860, H⟩ := H
        replace H : (if t124.toList = t126.toList then ((whole_Neg.f a0).bind fun t127 => ((whole_Neg.f t127).bind fun t128 => (if t128.toList = a0.toList then ((whole_Mul.f a0 a1).bind fun t129 => ((whole_Sign.f t129).bind fun t130 => ((whole_Sign.f a0).bind fun t131 => ((whole_Sign.f a1).bind fun t132 => (some (t130 == (wrap64 (t131 * t132)))))))) else (some false)))) else (some false)) = some r := H
        have A86 := Aside0.mk A860
        clear A860
        by_cases c87 : t124.toList = t126.toList
        ·rw [if_pos c87] at H
         have c87b0 : (t124.toList == t126.toList) = true := beq_iff_eq.mpr c87
         have c87b1 : (t124.toList != t126.toList) = false := bne_eq_false_iff_eq.mpr c87
         clear c87
         replace H := Option.bind_eq_some_iff.mp H
         obtain ⟨t127, A880, H⟩ := H
         replace H : ((whole_Neg.f t127).bind fun t128 => (if t128.toList = a0.toList then ((whole_Mul.f a0 a1).bind fun t129 => ((whole_Sign.f t129).bind fun t130 => ((whole_Sign.f a0).bind fun t131 => ((whole_Sign.f a1).bind fun t132 => (some (t130 == (wrap64 (t131 * t132)))))))) else (some false))) = some r := H
         have A88 := Aside0.mk A880
         clear A880
         replace H := Option.bind_eq_some_iff.mp H
         obtain ⟨t128, A890, H⟩ := H
         replace H : (if t128.toList = a0.toList then ((whole_Mul.f a0 a1).bind fun t129 => ((whole_Sign.f t129).bind fun t130 => ((whole_Sign.f a0).bind fun t131 => ((whole_Sign.f a1).bind fun t132 => (some (t130 == (wrap64 (t131 * t132)))))))) else (some false)) = some r := H
         have A89 := Aside0.mk A890
         clear A890
         by_cases c90 : t128.toList = a0.toList
         ·rw [if_pos c90] at H
          have c90b0 : (t128.toList == a0.toList) = true := beq_iff_eq.mpr c90
          have c90b1 : (t128.toList != a0.toList) = false := bne_eq_false_iff_eq.mpr c90
          clear c90
          replace H := Option.bind_eq_some_iff.mp H
          obtain ⟨t129, A910, H⟩ := H
          replace H : ((whole_Sign.f t129).bind fun t130 => ((whole_Sign.f a0).bind fun t131 => ((whole_Sign.f a1).bind fun t132 => (some (t130 == (wrap64 (t131 * t132))))))) = some r := H
          have A91 := Aside0.mk A910
          clear A910
          replace H := Option.bind_eq_some_iff.mp H
          obtain ⟨t130, A920, H⟩ := H
          replace H : ((whole_Sign.f a0).bind fun t131 => ((whole_Sign.f a1).bind fun t132 => (some (t130 == (wrap64 (t131 * t132)))))) = some r := H
          have A92 := Aside0.mk A920
          clear A920
          replace H := Option.bind_eq_some_iff.mp H
          obtain ⟨t131, A930, H⟩ := H
          replace H : ((whole_Sign.f a1).bind fun t132 => (some (t130 == (wrap64 (t131 * t132))))) = some r := H
          have A93 := Aside0.mk A930
          clear A930
          replace H := Option.bind_eq_some_iff.mp H
          obtain ⟨t132, A940, H⟩ := H
          replace H : (some (t130 == (wrap64 (t131 * t132)))) = some r := H
          have A94 := Aside0.mk A940
          clear A940
          obtain rfl := Option.some.inj H
          go_wp2_with (first | ((with_reducible refine gate_callee (f := 13) rfl ?_); refine goesL_ (some 86) rfl rfl Tryd.func13 (by kernel_rfl) rfl #[.string a0, .string a0] rfl (by (try simp only [List.map_toArray, List.map_cons, List.map_nil]); first | done | rfl | (simp only [List.length_drop, List.length_take]; rfl)) ?_; (with_reducible refine (whole_Sub.calls a0 a0 t123 _ ?side1 A82.out).mono ?_); (case side1 => exact Laid.below HLD.out (by repeat (first | (with_reducible first | exact HB.out | apply below_alloc | apply pw_below_drewN | apply below_drew1) | exact HB.out))); rintro e w95 ⟨rfl, hb⟩; refine ⟨_, rfl, ?_⟩; have n0_ := Aside0.mk (below_step (by repeat (first | (with_reducible first | exact HB.out | apply below_alloc | apply pw_below_drewN | apply below_drew1) | exact HB.out)) hb); clear HB; have HB := n0_; clear n0_; (try clear hb); (try clear hb2); (try clear hk); (try clear hi)) | (go_at_call 13; (with_reducible refine (whole_Sub.calls a0 a1 t124 _ ?side1 A84.out).mono ?_); (case side1 => exact Laid.below HLD.out (by repeat (first | (with_reducible first | exact HB.out | apply below_alloc | apply pw_below_drewN | apply below_drew1) | exact HB.out))); rintro e w96 ⟨rfl, hb⟩; have n0_ := Aside0.mk (below_step (by repeat (first | (with_reducible first | exact HB.out | apply below_alloc | apply pw_below_drewN | apply below_drew1) | exact HB.out)) hb); clear HB; have HB := n0_; clear n0_; (try clear hb); (try clear hb2); (try clear hk); (try clear hi)) | (go_at_call 13; (with_reducible refine (whole_Sub.calls a1 a0 t125 _ ?side1 A85.out).mono ?_); (case side1 => exact Laid.below HLD.out (by repeat (first | (with_reducible first | exact HB.out | apply below_alloc | apply pw_below_drewN | apply below_drew1) | exact HB.out))); rintro e w97 ⟨rfl, hb⟩; have n0_ := Aside0.mk (below_step (by repeat (first | (with_reducible first | exact HB.out | apply below_alloc | apply pw_below_drewN | apply below_drew1) | exact HB.out)) hb); clear HB; have HB := n0_; clear n0_; (try clear hb); (try clear hb2); (try clear hk); (try clear hi)) | (go_at_call 14; (with_reducible refine (whole_Neg.calls t125 t126 _ A86.out).mono ?_); rintro e w98 ⟨rfl, hb⟩; have n0_ := Aside0.mk (below_step (by repeat (first | (with_reducible first | exact HB.out | apply below_alloc | apply pw_below_drewN | apply below_drew1) | exact HB.out)) hb); clear HB; have HB := n0_; clear n0_; (try clear hb); (try clear hb2); (try clear hk); (try clear hi)) | (go_at_call 14; (with_reducible refine (whole_Neg.calls a0 t127 _ A88.out).mono ?_); rintro e w99 ⟨rfl, hb⟩; have n0_ := Aside0.mk (below_step (by repeat (first | (with_reducible first | exact HB.out | apply below_alloc | apply pw_below_drewN | apply below_drew1) | exact HB.out)) hb); clear HB; have HB := n0_; clear n0_; (try clear hb); (try clear hb2); (try clear hk); (try clear hi)) | (go_at_call 14; (with_reducible refine (whole_Neg.calls t127 t128 _ A89.out).mono ?_); rintro e w100 ⟨rfl, hb⟩; have n0_ := Aside0.mk (below_step (by repeat (first | (with_reducible first | exact HB.out | apply below_alloc | apply pw_below_drewN | apply below_drew1) | exact HB.out)) hb); clear HB; have HB := n0_; clear n0_; (try clear hb); (try clear hb2); (try clear hk); (try clear hi)) | (go_at_call 12; (with_reducible refine (whole_Mul.calls a0 a1 t129 _ ?side1 A91.out).mono ?_); (case side1 => exact Laid.below HLD.out (by repeat (first | (with_reducible first | exact HB.out | apply below_alloc | apply pw_below_drewN | apply below_drew1) | exact HB.out))); rintro e w101 ⟨rfl, hb⟩; have n0_ := Aside0.mk (below_step (by repeat (first | (with_reducible first | exact HB.out | apply below_alloc | apply pw_below_drewN | apply below_drew1) | exact HB.out)) hb); clear HB; have HB := n0_; clear n0_; (try clear hb); (try clear hb2); (try clear hk); (try clear hi)) | (go_at_call 15; (with_reducible refine (whole_Sign.calls t129 t130 _ A92.out).mono ?_); rintro e w102 ⟨rfl, hb⟩; have n0_ := Aside0.mk (below_step (by repeat (first | (with_reducible first | exact HB.out | apply below_alloc | apply pw_below_drewN | apply below_drew1) | exact HB.out)) hb); clear HB; have HB := n0_; clear n0_; (try clear hb); (try clear hb2); (try clear hk); (try clear hi)) | (go_at_call 15; (with_reducible refine (whole_Sign.calls a0 t131 _ A93.out).mono ?_); rintro e w103 ⟨rfl, hb⟩; have n0_ := Aside0.mk (below_step (by repeat (first | (with_reducible first | exact HB.out | apply below_alloc | apply pw_below_drewN | apply below_drew1) | exact HB.out)) hb); clear HB; have HB := n0_; clear n0_; (try clear hb); (try clear hb2); (try clear hk); (try clear hi)) | (go_at_call 15; (with_reducible refine (whole_Sign.calls a1 t132 _ A94.out).mono ?_); rintro e w104 ⟨rfl, hb⟩; have n0_ := Aside0.mk (below_step (by repeat (first | (with_reducible first | exact HB.out | apply below_alloc | apply pw_below_drewN | apply below_drew1) | exact HB.out)) hb); clear HB; have HB := n0_; clear n0_; (try clear hb); (try clear hb2); (try clear hk); (try clear hi)))
          go_ret
          exact ⟨by first | rfl | (simp [errW_none, errW_some] <;> rfl) | (simp [*, errW_none, errW_some] <;> rfl), by repeat (first | (with_reducible first | exact HB.out | apply below_alloc | apply pw_below_drewN | apply below_drew1) | exact HB.out)⟩
         ·rw [if_neg c90] at H
          have c90b0 : (t128.toList == a0.toList) = false := beq_eq_false_iff_ne.mpr c90
          have c90b1 : (t128.toList != a0.toList) = true := bne_iff_ne.mpr c90
          exact absurd (H.trans (congrArg some hr_.out)) (by decide)
        ·rw [if_neg c87] at H
         have c87b0 : (t124.toList == t126.toList) = false := beq_eq_false_iff_ne.mpr c87
         have c87b1 : (t124.toList != t126.toList) = true := bne_iff_ne.mpr c87
         exact absurd (H.trans (congrArg some hr_.out)) (by decide)
       ·rw [if_neg c83] at H
        have c83b0 : (t123.toList == ([48] : List UInt8)) = false := beq_eq_false_iff_ne.mpr c83
        have c83b1 : (t123.toList != ([48] : List UInt8)) = true := bne_iff_ne.mpr c83
        exact absurd (H.trans (congrArg some hr_.out)) (by decide)
end Go.Proofs.YtmkmldkfaehefaaDoor.LWholeLaws

end

-- Written by wip/pp.py of this place (over the kit's print) out of the translation.
section
namespace Go.Proofs.YtmkmldkfaehefaaDoor.LWholeLaws
open Go.RowKit Go.Proofs.YtmkmldkfaehefaaDoorW.PrintWords Go.Proofs.YtmkmldkfaehefaaDoorW.PrintLast Go.Proofs.YtmkmldkfaehefaaDoorW.PrintMore
attribute [local go_sem] max2_int min2_int max_two min_two max_three min_three max_four min_four   -- for this text's walks alone
set_option linter.unusedVariables false
set_option linter.unusedSimpArgs false

end Go.Proofs.YtmkmldkfaehefaaDoor.LWholeLaws

end

section
set_option linter.unusedVariables false
namespace Go.Proofs.YtmkmldkfaehefaaDoor
open Go.RowKit Go.Proofs.YtmkmldkfaehefaaDoorW.PrintWords Go.Proofs.YtmkmldkfaehefaaDoorW.PrintLast Go.Proofs.YtmkmldkfaehefaaDoorW.PrintMore

theorem pureWholeLaws (a0 a1 a2 : ByteArray) (w0 : a0.size ≤ 140737488351232) (w1 : a1.size ≤ 140737488351232) (w2 : a2.size ≤ 140737488351232) : ∃ k, LWholeLaws.debenturelaw02_WholeLaws.f k a0 a1 a2 = some true := by
  refine ⟨3, ?_⟩
  unfold LWholeLaws.debenturelaw02_WholeLaws.f debenturelaw02_fixed.f
  have hj : LWholeLaws.debenturelaw02_WholeLaws.j0 3 a0 a1 a2 true = some true := by
    simp only [LWholeLaws.debenturelaw02_WholeLaws.j0]
    rfl
  rw [Option.bind_some, if_pos rfl, shorts3, Option.bind_some]
  cases h0 : shortT a0 <;> cases h1 : shortT a1 <;> cases h2 : shortT a2
  all_goals first | exact hj | skip
  have z0 := shortT_le h0
  have z1 := shortT_le h1
  have z2 := shortT_le h2
  rw [if_pos (by rfl), rMay2 (by omega), Option.bind_some]
  by_cases m0 : mayW a0 = true
  · rw [if_pos m0, rMay2 (by omega), Option.bind_some]
    by_cases m1 : mayW a1 = true
    · rw [if_pos m1, rMay2 (by omega), Option.bind_some]
      by_cases m2 : mayW a2 = true
      · obtain ⟨x, rfl, e0⟩ := of_mayW' m0
        obtain ⟨y, rfl, e1⟩ := of_mayW' m1
        obtain ⟨z, rfl, e2⟩ := of_mayW' m2
        rw [m2]
        simp only [LWholeLaws.debenturelaw02_WholeLaws.j0]
        rw [if_neg (by decide)]
        have s1 := szI_add x y
        have s2 := szI_mul x y
        have s3 := szI_add y x
        have s4 := szI_mul y x
        have s5 := szI_add y z
        have s6 := szI_mul x z
        have s7 := szI_sub x y
        have s8 := szI_sub y x
        have s9 := szI_neg x
        have e1 : z + (y + x) = x + y + z := by omega
        have e2 : z * (y * x) = x * y * z := by rw [Int.mul_comm y x, Int.mul_comm]
        have e3 : x * (y + z) = x * y + x * z := Int.mul_add x y z
        have e4 : -(y - x) = x - y := by omega
        have e5 : Lib.compareInt (x * y) 0 = wrap64 (Lib.compareInt x 0 * Lib.compareInt y 0) := by
          have hs : ∀ t : Int, (t < 0 ∧ Lib.compareInt t 0 = -1) ∨ (t = 0 ∧ Lib.compareInt t 0 = 0) ∨ (0 < t ∧ Lib.compareInt t 0 = 1) := by
            intro t
            rcases (by omega : t < 0 ∨ t = 0 ∨ 0 < t) with h | h | h
            · exact .inl ⟨h, cmp_lt' h⟩
            · exact .inr (.inl ⟨h, cmp_eq' h⟩)
            · exact .inr (.inr ⟨h, cmp_gt' h⟩)
          rcases hs x with ⟨hx, cx⟩ | ⟨hx, cx⟩ | ⟨hx, cx⟩ <;> rcases hs y with ⟨hy, cy⟩ | ⟨hy, cy⟩ | ⟨hy, cy⟩ <;> rw [cx, cy, w64 (by omega) (by omega)]
          · rw [cmp_gt' (Int.mul_pos_of_neg_of_neg hx hy)]; rfl
          · subst hy; rw [Int.mul_zero]; rfl
          · rw [cmp_lt' (Int.mul_neg_of_neg_of_pos hx hy)]; rfl
          · subst hx; rw [Int.zero_mul]; rfl
          · subst hx; rw [Int.zero_mul]; rfl
          · subst hx; rw [Int.zero_mul]; rfl
          · rw [cmp_lt' (Int.mul_neg_of_pos_of_neg hx hy)]; rfl
          · subst hy; rw [Int.mul_zero]; rfl
          · rw [cmp_gt' (Int.mul_pos hx hy)]; rfl
        have last : LWholeLaws.debenturelaw02_WholeLaws.j1 2 (intB x) (intB y) false = some true := by
          simp only [LWholeLaws.debenturelaw02_WholeLaws.j1]
          rw [if_neg (by decide), gSub (by omega) (by omega), Option.bind_some, Int.sub_self, if_pos (intB_toList_zero.2 rfl), gSub (by omega) (by omega), Option.bind_some, gSub (by omega) (by omega), Option.bind_some, gNeg (by omega), Option.bind_some, e4, if_pos rfl, gNeg (by omega), Option.bind_some, gNeg (by omega), Option.bind_some, Int.neg_neg, if_pos rfl, gMul (by omega) (by omega), Option.bind_some, gSign (by omega), Option.bind_some, gSign (by omega), Option.bind_some, gSign (by omega), Option.bind_some, e5]
          simp
        have hz : ((intB (x * (y + z))).toList != (intB (x * y + x * z)).toList) = false := by rw [e3]; simp
        rw [gAdd (by omega) (by omega), Option.bind_some, gAdd (by omega) (by omega), Option.bind_some, gMul (by omega) (by omega), Option.bind_some, gMul (by omega) (by omega), Option.bind_some, if_neg (intB_ne_nil _), if_neg (intB_ne_nil _), gAdd (by omega) (by omega), Option.bind_some, gAdd (by omega) (by omega), Option.bind_some, e1, if_pos rfl, gMul (by omega) (by omega), Option.bind_some, gMul (by omega) (by omega), Option.bind_some, e2, if_pos rfl, gAdd (by omega) (by omega), Option.bind_some, gMul (by omega) (by omega), Option.bind_some, Option.bind_some, gMul (by omega) (by omega), Option.bind_some, gAdd (by omega) (by omega), Option.bind_some, hz]
        exact last
      · rw [(Bool.not_eq_true _).mp m2]
        exact hj
    · rw [if_neg m1]
      exact hj
  · rw [if_neg m0]
    exact hj
end Go.Proofs.YtmkmldkfaehefaaDoor

end

section
namespace Go.Proofs.YtmkmldkfaehefaaDoor.wholeLaws
open Go.ChangeShapes Go.WideShapes Go.ChangeAt Go.RowKit
open Go.ChangeMaps (open_string shut_string)
set_option linter.unusedVariables false
set_option maxRecDepth 100000 in
theorem lifted (os : Os) (started : os.Started) (H : Type) (enc : TypeId × Value → H) :
    ReturnsInHanded {} Tryd.checked os 3 .any (fun w args => (Rows.wholeLawsSpec.pre enc Tryd.prog Tryd.f3 Rows.wholeLawsRow.domain false w args ∧ laidMetH Tryd.prog laidL w) ∧ sizedMet enc Tryd.prog Tryd.f3 (OpenSpec.ofChange Rows.wholeLawsSpec) false w args)
      (Rows.wholeLawsSpec.post enc Tryd.prog Tryd.f3 false true false false) := by
  refine returnsInHanded_of_change_and (C := Tryd.checked) (X := fun w _ => laidMetH Tryd.prog laidL w) (fun _ _ _ hh h => h.of_heap hh) own started (by kernel_rfl) Tryd.func3
    (ChangeSpec.witness_shaped (enc := enc) (C := Tryd.checked) (os := os) (X := fun w _ => laidMetH Tryd.prog laidL w) false (World.doorLaid Tryd.prog 4000 os) #[.string ByteArray.empty, .string ByteArray.empty, .string ByteArray.empty] 8 rfl (World.shaped_of_RefB (by kernel_rfl) (by kernel_rfl)) (by kernel_rfl) (by kernel_rfl) (by kernel_rfl) (door_met os _)) ?_
  intro W base args ds gs before hval0 hW _ hsz0 hL _
  have hsz : (DataW.weightsEach Tryd.prog (Tryd.f3.params.toList ++ Rows.wholeLawsSpec.plain.varTypes Tryd.prog) (ds ++ gs)).all (· ≤ reachBytes) = true := hsz0
  have hval : ∀ (j : Nat) t v, Tryd.f3.params[j]? = some t → args[j]? = some v → Value.okWide Tryd.prog W .any base t v := hval0
  have hW' := hW
  obtain ⟨p, q, hA0, hV, rfl, hfz, hnd⟩ := hW
  have hA : DataW.TrodAll enc Tryd.prog W 0 (fun _ => true) true Tryd.f3.params.toList args.toList ds p := hA0
  rw [Tryd.params3] at hA hval hsz
  obtain ⟨v0, vs0, d0, ds0, p0, q0, hargs, rfl, rfl, h0, r0⟩ := trodAll_cons hA
  obtain ⟨v1, vs1, d1, ds1, p1, q1, rfl, rfl, rfl, h1, r1⟩ := trodAll_cons r0
  obtain ⟨v2, vs2, d2, ds2, p2, q2, rfl, rfl, rfl, h2, r2⟩ := trodAll_cons r1
  obtain ⟨rfl, rfl, rfl⟩ := trodAll_nil r2
  obtain rfl : args = #[v0, v1, v2] := by cases args; simp_all
  obtain ⟨rfl, rfl⟩ := trodVars_none hV
  obtain ⟨a0, rfl, rfl, rfl, y0⟩ := open_string Tryd.underlying9 (hval 0 9 v0 rfl rfl) h0
  have w0 : a0.size ≤ 140737488351232 := by
    have z := sized_string hsz (j := 0) (t := 9) rfl rfl
    rw [Array.length_toList] at z
    exact z
  obtain ⟨a1, rfl, rfl, rfl, y1⟩ := open_string Tryd.underlying9 (hval 1 9 v1 rfl rfl) h1
  have w1 : a1.size ≤ 140737488351232 := by
    have z := sized_string hsz (j := 1) (t := 9) rfl rfl
    rw [Array.length_toList] at z
    exact z
  obtain ⟨a2, rfl, rfl, rfl, y2⟩ := open_string Tryd.underlying9 (hval 2 9 v2 rfl rfl) h2
  have w2 : a2.size ≤ 140737488351232 := by
    have z := sized_string hsz (j := 2) (t := 9) rfl rfl
    rw [Array.length_toList] at z
    exact z
  clear hA0 hval0 hsz0 hsz
  obtain ⟨k, hf⟩ := pureWholeLaws a0 a1 a2 w0 w1 w2
  refine (LWholeLaws.debenturelaw02_WholeLaws.calls k a0 a1 a2 true W (laid_of hL) ⟨rfl⟩ hf).mono fun e W' ⟨he, bel⟩ => ?_
  subst he
  exact ⟨_, rfl, _, _, _, [], _, [], hW', trodAll_mk1 (shut_bool Tryd.underlying4 _), (trodAll_cons_mk (shut_string Tryd.underlying9 y0) (trodAll_cons_mk (shut_string Tryd.underlying9 y1) (trodAll_cons_mk (shut_string Tryd.underlying9 y2) trodAll_mk0))), rfl, bel.frame _, fun h => by cases h⟩
theorem over : Rows.WholeLawsSaid :=
  OpenClaim.holds_of_wide 3 Tryd.f3 rfl rfl rfl rfl rfl rfl rfl ⟨rfl, rfl, rfl, rfl, rfl⟩ rfl rfl rfl rfl rfl (by kernel_rfl) Tryd.func3 (by kernel_rfl)
    (of_decide_eq_true (by kernel_rfl)) (by unfold Func.isWrapper; first | (rw [if_pos (by decide +kernel)]; kernel_rfl) | (rw [if_neg (by decide +kernel)]; exact ⟨rfl, rfl⟩))
    (fun os started H enc _ => lifted os started H enc)
theorem proved : Rows.WholeLawsCardSaid :=
  Claim7.holds_tied_plain_at .later [] [.data, .data, .data, .sentinel, .sentinel] true (true, "2da19d4324e1b7fc1d51d8615ed06ada97961d6e30aa7afce54110a3552b5e62") true
    over (fun _ h => by cases h) (by kernel_rfl) (fun _ h => by cases h) wholeLaws_row_tie rfl ⟨rfl, rfl⟩ (by kernel_rfl) rfl
    (fun f fn hf hfn => by
      obtain rfl : f = 3 := Option.some.inj ((show Tryd.prog.funcNamed "debenture/debenturelaw02.WholeLaws" = some 3 by kernel_rfl).symm.trans hf) |>.symm
      obtain rfl : fn = Tryd.f3 := (Option.some.inj (Tryd.func3.symm.trans hfn)).symm
      exact ⟨by kernel_rfl, fun j t ht => by
        rw [Tryd.params3] at ht
        have hm : t ∈ [9, 9, 9] := by simpa using Array.mem_of_getElem? ht
        have hall : ([9, 9, 9].all fun u => !Tryd.prog.wantsStandIn u) = true := by kernel_rfl
        exact (show Tryd.prog.wantsStandIn t = false by simpa using List.all_eq_true.1 hall t hm)⟩)
    (by kernel_rfl)
end Go.Proofs.YtmkmldkfaehefaaDoor.wholeLaws
namespace Go.Proofs.YtmkmldkfaehefaaDoor
/-- The card, under a short name, for the claim. -/
theorem wholeLaws_holds : Rows.WholeLawsCardSaid := wholeLaws.proved
#print axioms wholeLaws_holds
end Go.Proofs.YtmkmldkfaehefaaDoor

end
