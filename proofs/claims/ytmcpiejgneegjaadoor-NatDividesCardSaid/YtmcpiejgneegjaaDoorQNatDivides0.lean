/-
The law NatDivides holds at every input: its row, and its card, tied to the program's text. Conditions: none beyond the given row's own.
Parts of the proof, in build order: PuBase, LNatDivides0, LNatDivides1, PuNatDivides, RowNatDivides.
-/
import Derived.Test.YtmcpiejgneegjaaDoorC5
import Derived.Test.YtmcpiejgneegjaaDoorProg
import Derived.Below
import Derived.Deep.Draws
import Derived.Deep.AppendLies
import Derived.Maps.AppendAt
import Derived.OwnWalk
import Derived.Laws.BytesArg
import Derived.Laws.MakeOwn
import Derived.Laws.OwnMore
import Derived.Deep.OwnRows
import Derived.Tactics
import Derived.Lib.ConvBytes
import Derived.Laws.Slices
import Derived.WalkKit
import Derived.KernelRfl
import Derived.RowKit3
import Derived.Deep.LoopGhost
import Derived.Deep.QuietTactic
import Derived.BigQuiet
import Derived.WideLaws
import Derived.Deep.DeepCutAuto
import Derived.Deep.CutBlock
import Derived.Deep.RegionHeld3
import Derived.Laws.Rows
import Derived.Lib.AppendStr
import Derived.ArgAppend
import Derived.Laws.IdiomCopy
import Derived.OrdersHeld
import Derived.Laws.BitsLemmas
import Derived.RowKit
import Derived.Test.YtmcpiejgneegjaaDoorC0
import Derived.Test.YtmcpiejgneegjaaDoorTie
import Derived.Test.YtmcpiejgneegjaaDoorCards
import Derived.SevenTiedAt
/-
What the laws of naturals share.
-/
section
set_option linter.unusedVariables false
namespace Go.Proofs.YtmcpiejgneegjaaDoor
open Go.RowKit Go.Proofs.YtmcpiejgneegjaaDoorW.PrintWords Go.Proofs.YtmcpiejgneegjaaDoorW.PrintLast Go.Proofs.YtmcpiejgneegjaaDoorW.PrintMore

theorem shorts3 {a b c : ByteArray} : debentureref01_Short.f [a, b, c] = some (shortT a && (shortT b && shortT c)) := by
  rw [rShort (by simp)]
  simp [List.all_cons]
theorem shorts2 {a b : ByteArray} : debentureref01_Short.f [a, b] = some (shortT a && shortT b) := by
  rw [rShort (by simp)]
  simp [List.all_cons]
theorem cmpI_cases (m n : Nat) : (m < n ∧ Lib.compareInt (m : Int) (n : Int) = -1 ∧ Lib.compareInt (n : Int) (m : Int) = 1) ∨ (m = n ∧ Lib.compareInt (m : Int) (n : Int) = 0 ∧ Lib.compareInt (n : Int) (m : Int) = 0) ∨ (n < m ∧ Lib.compareInt (m : Int) (n : Int) = 1 ∧ Lib.compareInt (n : Int) (m : Int) = -1) := by
  rcases Nat.lt_trichotomy m n with h | h | h
  · exact .inl ⟨h, cmpI_lt h, cmpI_gt h⟩
  · exact .inr (.inl ⟨h, cmpI_eq h, cmpI_eq h.symm⟩)
  · exact .inr (.inr ⟨h, cmpI_gt h, cmpI_lt h⟩)

theorem wf_i64 {n : Int} (h : (Lit.int .i64 n).wf = true) : -9223372036854775808 ≤ n ∧ n ≤ 9223372036854775807 := by
  have e1 : IntKind.i64.min = -9223372036854775808 := rfl
  have e2 : IntKind.i64.max = 9223372036854775807 := rfl
  simp [Lit.wf, e1, e2] at h
  exact h
theorem bne_same {α : Type} [BEq α] [LawfulBEq α] (a : α) : ¬ (a != a) = true := by simp

end Go.Proofs.YtmcpiejgneegjaaDoor

end

-- Written by wip/pp.py of this place (over the kit's print) out of the translation.
section
namespace Go.Proofs.YtmcpiejgneegjaaDoor.LNatDivides
open Go.RowKit Go.Proofs.YtmcpiejgneegjaaDoorW.PrintWords Go.Proofs.YtmcpiejgneegjaaDoorW.PrintLast Go.Proofs.YtmcpiejgneegjaaDoorW.PrintMore
attribute [local go_sem] max2_int min2_int max_two min_two max_three min_three max_four min_four   -- for this text's walks alone
set_option linter.unusedVariables false
set_option linter.unusedSimpArgs false



def errW : Option Int → Value
  | none => .nilIface
  | some c => .iface 0 (.int .i64 c)
theorem errW_none : errW none = .nilIface := rfl
theorem errW_some (c : Int) : errW (some c) = .iface 0 (.int .i64 c) := rfl

theorem info9 : (Tryd.prog.info? 9).map (fun i => (i.zero, i.size, i.bytes)) = some (some (.string ⟨#[]⟩), 1, 16) := by kernel_rfl
-- the values' own types

end Go.Proofs.YtmcpiejgneegjaaDoor.LNatDivides

end

-- Written by wip/pp.py of this place (over the kit's print) out of the translation.
section
namespace Go.Proofs.YtmcpiejgneegjaaDoor.LNatDivides
open Go.RowKit Go.Proofs.YtmcpiejgneegjaaDoorW.PrintWords Go.Proofs.YtmcpiejgneegjaaDoorW.PrintLast Go.Proofs.YtmcpiejgneegjaaDoorW.PrintMore
attribute [local go_sem] max2_int min2_int max_two min_two max_three min_three max_four min_four   -- for this text's walks alone
set_option linter.unusedVariables false
set_option linter.unusedSimpArgs false

-- walked by hand: function 10 (debentureref01_Short)

-- walked by hand: function 11 (debenturelaw01_fixed)

-- walked by hand: function 12 (nat_Sub)

-- walked by hand: function 14 (nat_Div)

-- walked by hand: function 19 (debentureref01_May)

-- walked by hand: function 22 (nat_Cmp)

-- walked by hand: function 24 (nat_Add)

-- walked by hand: function 26 (nat_Mul)

/-! ### debenturelaw01_NatDivides: function 5 -/
mutual
def debenturelaw01_NatDivides.j0 : Nat → ByteArray → ByteArray → Bool → Option (Bool)
  | 0, _, _, _ => none
  | k + 1, x0, x1, x31 => if x31 = true then ((debenturelaw01_fixed.f).bind fun t108 => (some t108)) else ((nat_Add.f x0 x1).bind fun t109 => ((nat_Sub.f t109 x1).bind fun bt110 => (if bt110.2 = true then (if bt110.1.toList = x0.toList then (debenturelaw01_NatDivides.j1 k x0 x1 bt110.1 bt110.2 (x1.toList == ([48] : List UInt8))) else (debenturelaw01_NatDivides.j1 k x0 x1 bt110.1 bt110.2 true)) else (debenturelaw01_NatDivides.j1 k x0 x1 bt110.1 bt110.2 true))))
def debenturelaw01_NatDivides.j1 : Nat → ByteArray → ByteArray → ByteArray → Bool → Bool → Option (Bool)
  | 0, _, _, _, _, _ => none
  | k + 1, x0, x1, x5, x6, x51 => if x51 = true then (if x6 = true then (some (x5.toList == x0.toList)) else (some false)) else ((nat_Div.f x0 x1).bind fun bt112 => ((nat_Mul.f x0 x1).bind fun t115 => ((nat_Div.f t115 x1).bind fun bt116 => (if bt112.2.2 = true then ((nat_Mul.f bt112.1 x1).bind fun t119 => ((nat_Add.f t119 bt112.2.1).bind fun t120 => (if t120.toList = x0.toList then ((nat_Cmp.f bt112.2.1 x1).bind fun t121 => (if t121 = (-1) then (if bt116.2.2 = true then (if bt116.1.toList = x0.toList then (some (bt116.2.1.toList == ([48] : List UInt8))) else (some false)) else (some false)) else (some false))) else (some false)))) else (some false)))))
end
def debenturelaw01_NatDivides.f (k : Nat) (a0 : ByteArray) (a1 : ByteArray) : Option (Bool) := (debenturelaw01_fixed.f).bind fun t101 => (if t101 = true then ((debentureref01_Short.f (([a0, a1] : List ByteArray))).bind fun t105 => (if t105 = true then ((debentureref01_May.f a0).bind fun t106 => (if t106 = true then ((debentureref01_May.f a1).bind fun t107 => (debenturelaw01_NatDivides.j0 k a0 a1 (!t107))) else (debenturelaw01_NatDivides.j0 k a0 a1 true))) else (debenturelaw01_NatDivides.j0 k a0 a1 true))) else (debenturelaw01_NatDivides.j0 k a0 a1 true))
theorem debenturelaw01_NatDivides.mono_l : ∀ k, (∀ y0 y1 y2, LeO (debenturelaw01_NatDivides.j0 k y0 y1 y2) (debenturelaw01_NatDivides.j0 (k + 1) y0 y1 y2)) ∧ (∀ y0 y1 y2 y3 y4, LeO (debenturelaw01_NatDivides.j1 k y0 y1 y2 y3 y4) (debenturelaw01_NatDivides.j1 (k + 1) y0 y1 y2 y3 y4))
  | 0 => ⟨fun _ _ _ r h => by simp [debenturelaw01_NatDivides.j0] at h, fun _ _ _ _ _ r h => by simp [debenturelaw01_NatDivides.j1] at h⟩
  | k + 1 => by
    obtain ⟨ih0, ih1⟩ := debenturelaw01_NatDivides.mono_l k
    refine ⟨?_, ?_⟩
    · intro y0 y1 y2
      unfold debenturelaw01_NatDivides.j0
      repeat' first
      | (with_reducible exact ih0 _ _ _)
      | (with_reducible exact ih1 _ _ _ _ _)
      | (with_reducible exact LeO.refl _)
      | (with_reducible exact LeO.none _)
      | (with_reducible refine LeO.ite ?_ ?_)
      | (with_reducible refine LeO.bind ?_ (fun _ => ?_))
      | exact ih0 _ _ _
      | exact ih1 _ _ _ _ _
      | exact LeO.none _
      | refine LeO.ite ?_ ?_
      | refine LeO.bind ?_ (fun _ => ?_)
    · intro y0 y1 y2 y3 y4
      unfold debenturelaw01_NatDivides.j1
      repeat' first
      | (with_reducible exact ih0 _ _ _)
      | (with_reducible exact ih1 _ _ _ _ _)
      | (with_reducible exact LeO.refl _)
      | (with_reducible exact LeO.none _)
      | (with_reducible refine LeO.ite ?_ ?_)
      | (with_reducible refine LeO.bind ?_ (fun _ => ?_))
      | exact ih0 _ _ _
      | exact ih1 _ _ _ _ _
      | exact LeO.none _
      | refine LeO.ite ?_ ?_
      | refine LeO.bind ?_ (fun _ => ?_)
theorem debenturelaw01_NatDivides.mono : ∀ a0 a1 k, LeO (debenturelaw01_NatDivides.f k a0 a1) (debenturelaw01_NatDivides.f (k + 1) a0 a1) := by
  intro a0 a1 k
  obtain ⟨ih0, ih1⟩ := debenturelaw01_NatDivides.mono_l k
  unfold debenturelaw01_NatDivides.f
  repeat' first
      | (with_reducible exact ih0 _ _ _)
      | (with_reducible exact ih1 _ _ _ _ _)
      | (with_reducible exact LeO.refl _)
      | (with_reducible exact LeO.none _)
      | (with_reducible refine LeO.ite ?_ ?_)
      | (with_reducible refine LeO.bind ?_ (fun _ => ?_))
      | exact ih0 _ _ _
      | exact ih1 _ _ _ _ _
      | exact LeO.none _
      | refine LeO.ite ?_ ?_
      | refine LeO.bind ?_ (fun _ => ?_)
set_option maxHeartbeats 8000000 in
set_option maxRecDepth 100000 in
theorem debenturelaw01_NatDivides.calls (k : Nat) (a0 : ByteArray) (a1 : ByteArray) (r : Bool) (w : World) (hL_ : Laid w) (hr_ : Aside0 (r = true)) (h : debenturelaw01_NatDivides.f k a0 a1 = some r) :
    Calls Tryd.prog 5 #[.string a0, .string a1] w fun e w' => e = .returned (.bool r) ∧ Below w.heap.size w w' := by
  have HLD := Aside0.mk hL_
  clear hL_
  have HB := Aside0.mk (Below.refl w.heap.size w)
  have H : ((debenturelaw01_fixed.f).bind fun t101 => (if t101 = true then ((debentureref01_Short.f (([a0, a1] : List ByteArray))).bind fun t105 => (if t105 = true then ((debentureref01_May.f a0).bind fun t106 => (if t106 = true then ((debentureref01_May.f a1).bind fun t107 => (debenturelaw01_NatDivides.j0 k a0 a1 (!t107))) else (debenturelaw01_NatDivides.j0 k a0 a1 true))) else (debenturelaw01_NatDivides.j0 k a0 a1 true))) else (debenturelaw01_NatDivides.j0 k a0 a1 true))) = some r := h
  clear h
  have HC3 := Aside0.mk H
  clear H
  go_enter Tryd.func5, Tryd.ntmps5
  go_upto_region 1 with (fail)
  go_cut [31] (fun v31 wc => ∃ (kq : Nat) (x31_2 : Bool), v31 = .bool x31_2 ∧ Aside0 (debenturelaw01_NatDivides.j0 kq a0 a1 x31_2 = some r) ∧ Aside0 (kq ≤ k) ∧ Aside0 (Below w.heap.size w wc))
  case first =>
    have H := HC3.out
    clear HC3
    replace H := Option.bind_eq_some_iff.mp H
    obtain ⟨t101, A40, H⟩ := H
    replace H : (if t101 = true then ((debentureref01_Short.f (([a0, a1] : List ByteArray))).bind fun t105 => (if t105 = true then ((debentureref01_May.f a0).bind fun t106 => (if t106 = true then ((debentureref01_May.f a1).bind fun t107 => (debenturelaw01_NatDivides.j0 k a0 a1 (!t107))) else (debenturelaw01_NatDivides.j0 k a0 a1 true))) else (debenturelaw01_NatDivides.j0 k a0 a1 true))) else (debenturelaw01_NatDivides.j0 k a0 a1 true)) = some r := H
    have A4 := Aside0.mk A40
    clear A40
    by_cases c5 : t101 = true
    · subst c5
      have H1 : ((debentureref01_Short.f (([a0, a1] : List ByteArray))).bind fun t105 => (if t105 = true then ((debentureref01_May.f a0).bind fun t106 => (if t106 = true then ((debentureref01_May.f a1).bind fun t107 => (debenturelaw01_NatDivides.j0 k a0 a1 (!t107))) else (debenturelaw01_NatDivides.j0 k a0 a1 true))) else (debenturelaw01_NatDivides.j0 k a0 a1 true))) = some r := by rw [if_pos rfl] at H; exact H
      clear H
      have H := H1
      clear H1
      obtain ⟨y102, hy102⟩ : ∃ y_ : List ByteArray, y_ = (([a0, a1] : List ByteArray)) := ⟨_, rfl⟩
      replace H : ((debentureref01_Short.f y102).bind fun t105 => (if t105 = true then ((debentureref01_May.f a0).bind fun t106 => (if t106 = true then ((debentureref01_May.f a1).bind fun t107 => (debenturelaw01_NatDivides.j0 k a0 a1 (!t107))) else (debenturelaw01_NatDivides.j0 k a0 a1 true))) else (debenturelaw01_NatDivides.j0 k a0 a1 true))) = some r := by first | (rw [hy102]; with_reducible exact H) | (have H2_ := (Option.bind_some _ _).symm.trans H; rw [hy102]; with_reducible exact H2_) | (have H2_ := (Option.bind_some _ _).symm.trans H; with_reducible exact H2_) | with_reducible exact H | (rw [hy102]; exact H) | exact H
      have Ny102 := Aside0.mk hy102
      clear hy102
      replace H := Option.bind_eq_some_iff.mp H
      obtain ⟨t105, A60, H⟩ := H
      replace H : (if t105 = true then ((debentureref01_May.f a0).bind fun t106 => (if t106 = true then ((debentureref01_May.f a1).bind fun t107 => (debenturelaw01_NatDivides.j0 k a0 a1 (!t107))) else (debenturelaw01_NatDivides.j0 k a0 a1 true))) else (debenturelaw01_NatDivides.j0 k a0 a1 true)) = some r := H
      have A6 := Aside0.mk A60
      clear A60
      by_cases c7 : t105 = true
      · subst c7
        have H1 : ((debentureref01_May.f a0).bind fun t106 => (if t106 = true then ((debentureref01_May.f a1).bind fun t107 => (debenturelaw01_NatDivides.j0 k a0 a1 (!t107))) else (debenturelaw01_NatDivides.j0 k a0 a1 true))) = some r := by rw [if_pos rfl] at H; exact H
        clear H
        have H := H1
        clear H1
        replace H := Option.bind_eq_some_iff.mp H
        obtain ⟨t106, A80, H⟩ := H
        replace H : (if t106 = true then ((debentureref01_May.f a1).bind fun t107 => (debenturelaw01_NatDivides.j0 k a0 a1 (!t107))) else (debenturelaw01_NatDivides.j0 k a0 a1 true)) = some r := H
        have A8 := Aside0.mk A80
        clear A80
        by_cases c9 : t106 = true
        · subst c9
          have H1 : ((debentureref01_May.f a1).bind fun t107 => (debenturelaw01_NatDivides.j0 k a0 a1 (!t107))) = some r := by rw [if_pos rfl] at H; exact H
          clear H
          have H := H1
          clear H1
          replace H := Option.bind_eq_some_iff.mp H
          obtain ⟨t107, A100, H⟩ := H
          replace H : (debenturelaw01_NatDivides.j0 k a0 a1 (!t107)) = some r := H
          have A10 := Aside0.mk A100
          clear A100
          have H' := Aside0.mk H
          clear H
          go_wp2_with (first | ((with_reducible refine gate_callee (f := 11) rfl ?_); refine goesL_ (some 13) rfl rfl Tryd.func11 (by kernel_rfl) rfl #[] rfl (by (try simp only [List.map_toArray, List.map_cons, List.map_nil]); first | done | rfl | (simp only [List.length_drop, List.length_take]; rfl)) ?_; (with_reducible refine (debenturelaw01_fixed.calls  true _ ?side1 A4.out).mono ?_); (case side1 => exact Laid.below HLD.out (by repeat (first | (with_reducible first | exact HB.out | apply below_alloc | apply pw_below_drewN | apply below_drew1) | exact HB.out))); rintro e w11 ⟨rfl, hb⟩; refine ⟨_, rfl, ?_⟩; have n0_ := Aside0.mk (below_step (by repeat (first | (with_reducible first | exact HB.out | apply below_alloc | apply pw_below_drewN | apply below_drew1) | exact HB.out)) hb); clear HB; have HB := n0_; clear n0_; (try clear hb); (try clear hb2); (try clear hk); (try clear hi)) | ((with_reducible refine gate_dst (N := 18) rfl ?_); (try (refine gate_guard (by rfl) ?_; dsimp only)); refine Kd.R_lit Kd.string _ 9 ?hg (N := 18) ?hd (xs := ([a0, a1] : List ByteArray)) (inner := [.string a0, .string a1]) (ok := fun _ => True) (okp := fun _ => True) ?hr ?hp (fun _ hk => hk) trivial (Below.refl _ _) (Nat.le_refl _) (by simp) ?_; (case hd => rfl); (case hg => rfl); (case hr => first | (go_simp; done) | (go_simp; rfl)); (case hp => exact (Reps.one (show Kd.M Kd.string _ _ _ a0 [.string a0] from rfl) (Reps.one (show Kd.M Kd.string _ _ _ a1 [.string a1] from rfl) (Reps.none _ _)))); intro v103 w12 ho13 hb hg_ hnew_; clear hg_ hnew_; (first | rw [← Ny102.out] at ho13 | (simp only [Int.reduceToNat] at ho13; rw [← Ny102.out] at ho13)); have n0_ := Aside0.mk (Kd.R_lower ho13 (below_size (by repeat (first | (with_reducible first | exact HB.out | apply below_alloc | apply pw_below_drewN | apply below_drew1) | exact HB.out)))); have n1_ := Aside0.mk (below_step (by repeat (first | (with_reducible first | exact HB.out | apply below_alloc | apply pw_below_drewN | apply below_drew1) | exact HB.out)) hb); clear HB; have HO104 := n0_; have HB := n1_; clear n0_ n1_; clear hb ho13; obtain ⟨Ao14, co14, eo14⟩ := Kd.R_slice HO104.out; subst eo14) | (go_at_call 10; (with_reducible refine (debentureref01_Short.calls _ _ y102 true _ ?side1 ?side2 A6.out).mono ?_); (case side1 => repeat (first | exact (Kd.R_reads' HO104.out).2.2 | (with_reducible refine Kd.C_alloc ?_ _) | (with_reducible refine Kd.C_drewN ?_ _) | (with_reducible refine Kd.C_drew ?_))); (case side2 => exact (Kd.R_reads' HO104.out).2.1); rintro e w15 ⟨rfl, hb⟩; have n0_ := Aside0.mk (Kd.R_below (by (with_reducible repeat (first | apply Kd.R_alloc | apply Kd.R_drewN | apply Kd.R_drew)); exact HO104.out) hb); have n1_ := Aside0.mk (below_step (by repeat (first | (with_reducible first | exact HB.out | apply below_alloc | apply pw_below_drewN | apply below_drew1) | exact HB.out)) hb); clear HO104; clear HB; have HO104 := n0_; have HB := n1_; clear n0_ n1_; (try clear hb); (try clear hb2); (try clear hk); (try clear hi)) | (go_at_call 19; (with_reducible refine (debentureref01_May.calls a0 true _ A8.out).mono ?_); rintro e w16 ⟨rfl, hb⟩; have n0_ := Aside0.mk (Kd.R_below (by (with_reducible repeat (first | apply Kd.R_alloc | apply Kd.R_drewN | apply Kd.R_drew)); exact HO104.out) hb); have n1_ := Aside0.mk (below_step (by repeat (first | (with_reducible first | exact HB.out | apply below_alloc | apply pw_below_drewN | apply below_drew1) | exact HB.out)) hb); clear HO104; clear HB; have HO104 := n0_; have HB := n1_; clear n0_ n1_; (try clear hb); (try clear hb2); (try clear hk); (try clear hi)) | (go_at_call 19; (with_reducible refine (debentureref01_May.calls a1 t107 _ A10.out).mono ?_); rintro e w17 ⟨rfl, hb⟩; have n0_ := Aside0.mk (Kd.R_below (by (with_reducible repeat (first | apply Kd.R_alloc | apply Kd.R_drewN | apply Kd.R_drew)); exact HO104.out) hb); have n1_ := Aside0.mk (below_step (by repeat (first | (with_reducible first | exact HB.out | apply below_alloc | apply pw_below_drewN | apply below_drew1) | exact HB.out)) hb); clear HO104; clear HB; have HO104 := n0_; have HB := n1_; clear n0_ n1_; (try clear hb); (try clear hb2); (try clear hk); (try clear hi)))
          go_meet
          case rel => exact ⟨_, (!t107), (by first | rfl | (simp; done) | (simp [*]; done)), H', ⟨by first | omega | exact Nat.le_refl _⟩, ⟨by repeat (first | (with_reducible first | exact HB.out | apply below_alloc | apply pw_below_drewN | apply below_drew1) | exact HB.out)⟩⟩
        · replace c9 := Bool.eq_false_iff.mpr c9
          subst c9
          have H1 : (debenturelaw01_NatDivides.j0 k a0 a1 true) = some r := by rw [if_neg (show ¬ (false = true) by decide)] at H; exact H
          clear H
          have H := H1
          clear H1
          have H' := Aside0.mk H
          clear H
          go_wp2_with (first | ((with_reducible refine gate_callee (f := 11) rfl ?_); refine goesL_ (some 13) rfl rfl Tryd.func11 (by kernel_rfl) rfl #[] rfl (by (try simp only [List.map_toArray, List.map_cons, List.map_nil]); first | done | rfl | (simp only [List.length_drop, List.length_take]; rfl)) ?_; (with_reducible refine (debenturelaw01_fixed.calls  true _ ?side1 A4.out).mono ?_); (case side1 => exact Laid.below HLD.out (by repeat (first | (with_reducible first | exact HB.out | apply below_alloc | apply pw_below_drewN | apply below_drew1) | exact HB.out))); rintro e w18 ⟨rfl, hb⟩; refine ⟨_, rfl, ?_⟩; have n0_ := Aside0.mk (below_step (by repeat (first | (with_reducible first | exact HB.out | apply below_alloc | apply pw_below_drewN | apply below_drew1) | exact HB.out)) hb); clear HB; have HB := n0_; clear n0_; (try clear hb); (try clear hb2); (try clear hk); (try clear hi)) | ((with_reducible refine gate_dst (N := 18) rfl ?_); (try (refine gate_guard (by rfl) ?_; dsimp only)); refine Kd.R_lit Kd.string _ 9 ?hg (N := 18) ?hd (xs := ([a0, a1] : List ByteArray)) (inner := [.string a0, .string a1]) (ok := fun _ => True) (okp := fun _ => True) ?hr ?hp (fun _ hk => hk) trivial (Below.refl _ _) (Nat.le_refl _) (by simp) ?_; (case hd => rfl); (case hg => rfl); (case hr => first | (go_simp; done) | (go_simp; rfl)); (case hp => exact (Reps.one (show Kd.M Kd.string _ _ _ a0 [.string a0] from rfl) (Reps.one (show Kd.M Kd.string _ _ _ a1 [.string a1] from rfl) (Reps.none _ _)))); intro v103 w19 ho20 hb hg_ hnew_; clear hg_ hnew_; (first | rw [← Ny102.out] at ho20 | (simp only [Int.reduceToNat] at ho20; rw [← Ny102.out] at ho20)); have n0_ := Aside0.mk (Kd.R_lower ho20 (below_size (by repeat (first | (with_reducible first | exact HB.out | apply below_alloc | apply pw_below_drewN | apply below_drew1) | exact HB.out)))); have n1_ := Aside0.mk (below_step (by repeat (first | (with_reducible first | exact HB.out | apply below_alloc | apply pw_below_drewN | apply below_drew1) | exact HB.out)) hb); clear HB; have HO104 := n0_; have HB := n1_; clear n0_ n1_; clear hb ho20; obtain ⟨Ao21, co21, eo21⟩ := Kd.R_slice HO104.out; subst eo21) | (go_at_call 10; (with_reducible refine (debentureref01_Short.calls _ _ y102 true _ ?side1 ?side2 A6.out).mono ?_); (case side1 => repeat (first | exact (Kd.R_reads' HO104.out).2.2 | (with_reducible refine Kd.C_alloc ?_ _) | (with_reducible refine Kd.C_drewN ?_ _) | (with_reducible refine Kd.C_drew ?_))); (case side2 => exact (Kd.R_reads' HO104.out).2.1); rintro e w22 ⟨rfl, hb⟩; have n0_ := Aside0.mk (Kd.R_below (by (with_reducible repeat (first | apply Kd.R_alloc | apply Kd.R_drewN | apply Kd.R_drew)); exact HO104.out) hb); have n1_ := Aside0.mk (below_step (by repeat (first | (with_reducible first | exact HB.out | apply below_alloc | apply pw_below_drewN | apply below_drew1) | exact HB.out)) hb); clear HO104; clear HB; have HO104 := n0_; have HB := n1_; clear n0_ n1_; (try clear hb); (try clear hb2); (try clear hk); (try clear hi)) | (go_at_call 19; (with_reducible refine (debentureref01_May.calls a0 false _ A8.out).mono ?_); rintro e w23 ⟨rfl, hb⟩; have n0_ := Aside0.mk (Kd.R_below (by (with_reducible repeat (first | apply Kd.R_alloc | apply Kd.R_drewN | apply Kd.R_drew)); exact HO104.out) hb); have n1_ := Aside0.mk (below_step (by repeat (first | (with_reducible first | exact HB.out | apply below_alloc | apply pw_below_drewN | apply below_drew1) | exact HB.out)) hb); clear HO104; clear HB; have HO104 := n0_; have HB := n1_; clear n0_ n1_; (try clear hb); (try clear hb2); (try clear hk); (try clear hi)))
          go_meet
          case rel => exact ⟨_, (true), (by first | rfl | (simp; done) | (simp [*]; done)), H', ⟨by first | omega | exact Nat.le_refl _⟩, ⟨by repeat (first | (with_reducible first | exact HB.out | apply below_alloc | apply pw_below_drewN | apply below_drew1) | exact HB.out)⟩⟩
      · replace c7 := Bool.eq_false_iff.mpr c7
        subst c7
        have H1 : (debenturelaw01_NatDivides.j0 k a0 a1 true) = some r := by rw [if_neg (show ¬ (false = true) by decide)] at H; exact H
        clear H
        have H := H1
        clear H1
        have H' := Aside0.mk H
        clear H
        go_wp2_with (first | ((with_reducible refine gate_callee (f := 11) rfl ?_); refine goesL_ (some 13) rfl rfl Tryd.func11 (by kernel_rfl) rfl #[] rfl (by (try simp only [List.map_toArray, List.map_cons, List.map_nil]); first | done | rfl | (simp only [List.length_drop, List.length_take]; rfl)) ?_; (with_reducible refine (debenturelaw01_fixed.calls  true _ ?side1 A4.out).mono ?_); (case side1 => exact Laid.below HLD.out (by repeat (first | (with_reducible first | exact HB.out | apply below_alloc | apply pw_below_drewN | apply below_drew1) | exact HB.out))); rintro e w24 ⟨rfl, hb⟩; refine ⟨_, rfl, ?_⟩; have n0_ := Aside0.mk (below_step (by repeat (first | (with_reducible first | exact HB.out | apply below_alloc | apply pw_below_drewN | apply below_drew1) | exact HB.out)) hb); clear HB; have HB := n0_; clear n0_; (try clear hb); (try clear hb2); (try clear hk); (try clear hi)) | ((with_reducible refine gate_dst (N := 18) rfl ?_); (try (refine gate_guard (by rfl) ?_; dsimp only)); refine Kd.R_lit Kd.string _ 9 ?hg (N := 18) ?hd (xs := ([a0, a1] : List ByteArray)) (inner := [.string a0, .string a1]) (ok := fun _ => True) (okp := fun _ => True) ?hr ?hp (fun _ hk => hk) trivial (Below.refl _ _) (Nat.le_refl _) (by simp) ?_; (case hd => rfl); (case hg => rfl); (case hr => first | (go_simp; done) | (go_simp; rfl)); (case hp => exact (Reps.one (show Kd.M Kd.string _ _ _ a0 [.string a0] from rfl) (Reps.one (show Kd.M Kd.string _ _ _ a1 [.string a1] from rfl) (Reps.none _ _)))); intro v103 w25 ho26 hb hg_ hnew_; clear hg_ hnew_; (first | rw [← Ny102.out] at ho26 | (simp only [Int.reduceToNat] at ho26; rw [← Ny102.out] at ho26)); have n0_ := Aside0.mk (Kd.R_lower ho26 (below_size (by repeat (first | (with_reducible first | exact HB.out | apply below_alloc | apply pw_below_drewN | apply below_drew1) | exact HB.out)))); have n1_ := Aside0.mk (below_step (by repeat (first | (with_reducible first | exact HB.out | apply below_alloc | apply pw_below_drewN | apply below_drew1) | exact HB.out)) hb); clear HB; have HO104 := n0_; have HB := n1_; clear n0_ n1_; clear hb ho26; obtain ⟨Ao27, co27, eo27⟩ := Kd.R_slice HO104.out; subst eo27) | (go_at_call 10; (with_reducible refine (debentureref01_Short.calls _ _ y102 false _ ?side1 ?side2 A6.out).mono ?_); (case side1 => repeat (first | exact (Kd.R_reads' HO104.out).2.2 | (with_reducible refine Kd.C_alloc ?_ _) | (with_reducible refine Kd.C_drewN ?_ _) | (with_reducible refine Kd.C_drew ?_))); (case side2 => exact (Kd.R_reads' HO104.out).2.1); rintro e w28 ⟨rfl, hb⟩; have n0_ := Aside0.mk (Kd.R_below (by (with_reducible repeat (first | apply Kd.R_alloc | apply Kd.R_drewN | apply Kd.R_drew)); exact HO104.out) hb); have n1_ := Aside0.mk (below_step (by repeat (first | (with_reducible first | exact HB.out | apply below_alloc | apply pw_below_drewN | apply below_drew1) | exact HB.out)) hb); clear HO104; clear HB; have HO104 := n0_; have HB := n1_; clear n0_ n1_; (try clear hb); (try clear hb2); (try clear hk); (try clear hi)))
        go_meet
        case rel => exact ⟨_, (true), (by first | rfl | (simp; done) | (simp [*]; done)), H', ⟨by first | omega | exact Nat.le_refl _⟩, ⟨by repeat (first | (with_reducible first | exact HB.out | apply below_alloc | apply pw_below_drewN | apply below_drew1) | exact HB.out)⟩⟩
    · replace c5 := Bool.eq_false_iff.mpr c5
      subst c5
      have H1 : (debenturelaw01_NatDivides.j0 k a0 a1 true) = some r := by rw [if_neg (show ¬ (false = true) by decide)] at H; exact H
      clear H
      have H := H1
      clear H1
      have H' := Aside0.mk H
      clear H
      go_wp2_with (first | ((with_reducible refine gate_callee (f := 11) rfl ?_); refine goesL_ (some 13) rfl rfl Tryd.func11 (by kernel_rfl) rfl #[] rfl (by (try simp only [List.map_toArray, List.map_cons, List.map_nil]); first | done | rfl | (simp only [List.length_drop, List.length_take]; rfl)) ?_; (with_reducible refine (debenturelaw01_fixed.calls  false _ ?side1 A4.out).mono ?_); (case side1 => exact Laid.below HLD.out (by repeat (first | (with_reducible first | exact HB.out | apply below_alloc | apply pw_below_drewN | apply below_drew1) | exact HB.out))); rintro e w29 ⟨rfl, hb⟩; refine ⟨_, rfl, ?_⟩; have n0_ := Aside0.mk (below_step (by repeat (first | (with_reducible first | exact HB.out | apply below_alloc | apply pw_below_drewN | apply below_drew1) | exact HB.out)) hb); clear HB; have HB := n0_; clear n0_; (try clear hb); (try clear hb2); (try clear hk); (try clear hi)))
      go_meet
      case rel => exact ⟨_, (true), (by first | rfl | (simp; done) | (simp [*]; done)), H', ⟨by first | omega | exact Nat.le_refl _⟩, ⟨by repeat (first | (with_reducible first | exact HB.out | apply below_alloc | apply pw_below_drewN | apply below_drew1) | exact HB.out)⟩⟩
  case rest =>
    clear HC3
    try clear c1
    try clear p2
    try clear c5
    try clear c7
    try clear c9
    try clear c11
    obtain ⟨kq, x31_2, rfl, HA, HJ2, HB⟩ := hcut
    cases kq with
    | zero => exact absurd HA.out (by simp [debenturelaw01_NatDivides.j0])
    | succ kj2 =>
      have H := HA.out
      clear HA
      simp only [debenturelaw01_NatDivides.j0] at H
      by_cases c30 : x31_2 = true
      · subst c30
        have H1 : ((debenturelaw01_fixed.f).bind fun t108 => (some t108)) = some r := by rw [if_pos rfl] at H; exact H
        clear H
        have H := H1
        clear H1
        replace H := Option.bind_eq_some_iff.mp H
        obtain ⟨t108, A310, H⟩ := H
        replace H : (some t108) = some r := H
        have A31 := Aside0.mk A310
        clear A310
        obtain rfl := Option.some.inj H
        go_wp2_with (first | ((with_reducible refine gate_callee (f := 11) rfl ?_); refine goesL_ (some 32) rfl rfl Tryd.func11 (by kernel_rfl) rfl #[] rfl (by (try simp only [List.map_toArray, List.map_cons, List.map_nil]); first | done | rfl | (simp only [List.length_drop, List.length_take]; rfl)) ?_; (with_reducible refine (debenturelaw01_fixed.calls  t108 _ ?side1 A31.out).mono ?_); (case side1 => exact Laid.below HLD.out (by repeat (first | (with_reducible first | exact HB.out | apply below_alloc | apply pw_below_drewN | apply below_drew1) | exact HB.out))); rintro e w32 ⟨rfl, hb⟩; refine ⟨_, rfl, ?_⟩; have n0_ := Aside0.mk (below_step (by repeat (first | (with_reducible first | exact HB.out | apply below_alloc | apply pw_below_drewN | apply below_drew1) | exact HB.out)) hb); clear HB; have HB := n0_; clear n0_; (try clear hb); (try clear hb2); (try clear hk); (try clear hi)))
        go_ret
        exact ⟨by first | rfl | (simp [errW_none, errW_some] <;> rfl) | (simp [*, errW_none, errW_some] <;> rfl), by repeat (first | (with_reducible first | exact HB.out | apply below_alloc | apply pw_below_drewN | apply below_drew1) | exact HB.out)⟩
      · replace c30 := Bool.eq_false_iff.mpr c30
        subst c30
        have H1 : ((nat_Add.f a0 a1).bind fun t109 => ((nat_Sub.f t109 a1).bind fun bt110 => (if bt110.2 = true then (if bt110.1.toList = a0.toList then (debenturelaw01_NatDivides.j1 kj2 a0 a1 bt110.1 bt110.2 (a1.toList == ([48] : List UInt8))) else (debenturelaw01_NatDivides.j1 kj2 a0 a1 bt110.1 bt110.2 true)) else (debenturelaw01_NatDivides.j1 kj2 a0 a1 bt110.1 bt110.2 true)))) = some r := by rw [if_neg (show ¬ (false = true) by decide)] at H; exact H
        clear H
        have H := H1
        clear H1
        replace H := Option.bind_eq_some_iff.mp H
        obtain ⟨t109, A330, H⟩ := H
        replace H : ((nat_Sub.f t109 a1).bind fun bt110 => (if bt110.2 = true then (if bt110.1.toList = a0.toList then (debenturelaw01_NatDivides.j1 kj2 a0 a1 bt110.1 bt110.2 (a1.toList == ([48] : List UInt8))) else (debenturelaw01_NatDivides.j1 kj2 a0 a1 bt110.1 bt110.2 true)) else (debenturelaw01_NatDivides.j1 kj2 a0 a1 bt110.1 bt110.2 true))) = some r := H
        have A33 := Aside0.mk A330
        clear A330
        replace H := Option.bind_eq_some_iff.mp H
        obtain ⟨⟨t110, t111⟩, A340, H⟩ := H
        replace H : (if t111 = true then (if t110.toList = a0.toList then (debenturelaw01_NatDivides.j1 kj2 a0 a1 t110 t111 (a1.toList == ([48] : List UInt8))) else (debenturelaw01_NatDivides.j1 kj2 a0 a1 t110 t111 true)) else (debenturelaw01_NatDivides.j1 kj2 a0 a1 t110 t111 true)) = some r := H
        have A34 := Aside0.mk A340
        clear A340
        have HC35 := Aside0.mk H
        clear H
        go_upto_region 4 with (first | ((with_reducible refine gate_callee (f := 24) rfl ?_); refine goesL_ (some 36) rfl rfl Tryd.func24 (by kernel_rfl) rfl #[.string a0, .string a1] rfl (by (try simp only [List.map_toArray, List.map_cons, List.map_nil]); first | done | rfl | (simp only [List.length_drop, List.length_take]; rfl)) ?_; (with_reducible refine (nat_Add.calls a0 a1 t109 _ ?side1 A33.out).mono ?_); (case side1 => exact Laid.below HLD.out (by repeat (first | (with_reducible first | exact HB.out | apply below_alloc | apply pw_below_drewN | apply below_drew1) | exact HB.out))); rintro e w36 ⟨rfl, hb⟩; refine ⟨_, rfl, ?_⟩; have n0_ := Aside0.mk (below_step (by repeat (first | (with_reducible first | exact HB.out | apply below_alloc | apply pw_below_drewN | apply below_drew1) | exact HB.out)) hb); clear HB; have HB := n0_; clear n0_; (try clear hb); (try clear hb2); (try clear hk); (try clear hi)) | ((with_reducible refine gate_callee (f := 12) rfl ?_); refine goesL_ (some 38) rfl rfl Tryd.func12 (by kernel_rfl) rfl #[.string t109, .string a1] rfl (by (try simp only [List.map_toArray, List.map_cons, List.map_nil]); first | done | rfl | (simp only [List.length_drop, List.length_take]; rfl)) ?_; (with_reducible refine (nat_Sub.calls t109 a1 t110 t111 _ ?side1 A34.out).mono ?_); (case side1 => exact Laid.below HLD.out (by repeat (first | (with_reducible first | exact HB.out | apply below_alloc | apply pw_below_drewN | apply below_drew1) | exact HB.out))); rintro e w37 ⟨rfl, hb⟩; refine ⟨_, rfl, ?_⟩; have n0_ := Aside0.mk (below_step (by repeat (first | (with_reducible first | exact HB.out | apply below_alloc | apply pw_below_drewN | apply below_drew1) | exact HB.out)) hb); clear HB; have HB := n0_; clear n0_; (try clear hb); (try clear hb2); (try clear hk); (try clear hi)))
        (try simp only [Act.put, List.setIfInBounds_toArray, List.set_cons_zero, List.set_cons_succ])
        go_cut [51] (fun v51 wc => ∃ (kq : Nat) (x51_34 : Bool), v51 = .bool x51_34 ∧ Aside0 (debenturelaw01_NatDivides.j1 kq a0 a1 t110 t111 x51_34 = some r) ∧ Aside0 (kq ≤ kj2) ∧ Aside0 (Below w.heap.size w wc))
        case first =>
          have H := HC35.out
          clear HC35
          by_cases c38 : t111 = true
          · subst c38
            have H1 : (if t110.toList = a0.toList then (debenturelaw01_NatDivides.j1 kj2 a0 a1 t110 true (a1.toList == ([48] : List UInt8))) else (debenturelaw01_NatDivides.j1 kj2 a0 a1 t110 true true)) = some r := by rw [if_pos rfl] at H; exact H
            clear H
            have H := H1
            clear H1
            by_cases c39 : t110.toList = a0.toList
            · rw [if_pos c39] at H
              have c39b0 : (t110.toList == a0.toList) = true := beq_iff_eq.mpr c39
              have c39b1 : (t110.toList != a0.toList) = false := bne_eq_false_iff_eq.mpr c39
              clear c39
              (first | rw [c39b0] | (simp only [i64_w, i32_w]; rw [c39b0]) | skip)
              have H' := Aside0.mk H
              clear H
              go_wp2
              go_meet
              case rel => exact ⟨_, ((a1.toList == ([48] : List UInt8))), (by first | rfl | (simp; done) | (simp [*]; done)), H', ⟨by have := HJ2.out; first | omega | exact Nat.le_refl _⟩, ⟨by repeat (first | (with_reducible first | exact HB.out | apply below_alloc | apply pw_below_drewN | apply below_drew1) | exact HB.out)⟩⟩
            · rw [if_neg c39] at H
              have c39b0 : (t110.toList == a0.toList) = false := beq_eq_false_iff_ne.mpr c39
              have c39b1 : (t110.toList != a0.toList) = true := bne_iff_ne.mpr c39
              (first | rw [c39b0] | (simp only [i64_w, i32_w]; rw [c39b0]) | skip)
              have H' := Aside0.mk H
              clear H
              go_wp2
              go_meet
              case rel => exact ⟨_, (true), (by first | rfl | (simp; done) | (simp [*]; done)), H', ⟨by have := HJ2.out; first | omega | exact Nat.le_refl _⟩, ⟨by repeat (first | (with_reducible first | exact HB.out | apply below_alloc | apply pw_below_drewN | apply below_drew1) | exact HB.out)⟩⟩
          · replace c38 := Bool.eq_false_iff.mpr c38
            subst c38
            have H1 : (debenturelaw01_NatDivides.j1 kj2 a0 a1 t110 false true) = some r := by rw [if_neg (show ¬ (false = true) by decide)] at H; exact H
            clear H
            have H := H1
            clear H1
            have H' := Aside0.mk H
            clear H
            go_wp2
            go_meet
            case rel => exact ⟨_, (true), (by first | rfl | (simp; done) | (simp [*]; done)), H', ⟨by have := HJ2.out; first | omega | exact Nat.le_refl _⟩, ⟨by repeat (first | (with_reducible first | exact HB.out | apply below_alloc | apply pw_below_drewN | apply below_drew1) | exact HB.out)⟩⟩
        case rest =>
          clear HC35
          try clear c1
          try clear c2
          try clear p2
          try clear c3
          try clear c5
          try clear c7
          try clear c9
          try clear c11
          try clear c12
          try clear c24
          try clear c30
          try clear c38
          try clear c39
          try clear c39b0
          try clear c39b1
          try clear p2
          obtain ⟨kq, x51_34, rfl, HA, HJ34, HB⟩ := hcut
          cases kq with
          | zero => exact absurd HA.out (by simp [debenturelaw01_NatDivides.j1])
          | succ kj34 =>
            have H := HA.out
            clear HA
            simp only [debenturelaw01_NatDivides.j1] at H
            by_cases c40 : x51_34 = true
            · subst c40
              have H1 : (if t111 = true then (some (t110.toList == a0.toList)) else (some false)) = some r := by rw [if_pos rfl] at H; exact H
              clear H
              have H := H1
              clear H1
              by_cases c41 : t111 = true
              · subst c41
                have H1 : (some (t110.toList == a0.toList)) = some r := by rw [if_pos rfl] at H; exact H
                clear H
                have H := H1
                clear H1
                obtain rfl := Option.some.inj H
                go_wp2
                go_ret
                exact ⟨by first | rfl | (simp [errW_none, errW_some] <;> rfl) | (simp [*, errW_none, errW_some] <;> rfl), by repeat (first | (with_reducible first | exact HB.out | apply below_alloc | apply pw_below_drewN | apply below_drew1) | exact HB.out)⟩
              · replace c41 := Bool.eq_false_iff.mpr c41
                subst c41
                have H1 : (some false) = some r := by rw [if_neg (show ¬ (false = true) by decide)] at H; exact H
                clear H
                have H := H1
                clear H1
                exact absurd (H.trans (congrArg some hr_.out)) (by decide)
            · replace c40 := Bool.eq_false_iff.mpr c40
              subst c40
              have H1 : ((nat_Div.f a0 a1).bind fun bt112 => ((nat_Mul.f a0 a1).bind fun t115 => ((nat_Div.f t115 a1).bind fun bt116 => (if bt112.2.2 = true then ((nat_Mul.f bt112.1 a1).bind fun t119 => ((nat_Add.f t119 bt112.2.1).bind fun t120 => (if t120.toList = a0.toList then ((nat_Cmp.f bt112.2.1 a1).bind fun t121 => (if t121 = (-1) then (if bt116.2.2 = true then (if bt116.1.toList = a0.toList then (some (bt116.2.1.toList == ([48] : List UInt8))) else (some false)) else (some false)) else (some false))) else (some false)))) else (some false))))) = some r := by rw [if_neg (show ¬ (false = true) by decide)] at H; exact H
              clear H
              have H := H1
              clear H1
              replace H := Option.bind_eq_some_iff.mp H
              obtain ⟨⟨t112, t113, t114⟩, A420, H⟩ := H
              replace H : ((nat_Mul.f a0 a1).bind fun t115 => ((nat_Div.f t115 a1).bind fun bt116 => (if t114 = true then ((nat_Mul.f t112 a1).bind fun t119 => ((nat_Add.f t119 t113).bind fun t120 => (if t120.toList = a0.toList then ((nat_Cmp.f t113 a1).bind fun t121 => (if t121 = (-1) then (if bt116.2.2 = true then (if bt116.1.toList = a0.toList then (some (bt116.2.1.toList == ([48] : List UInt8))) else (some false)) else (some false)) else (some false))) else (some false)))) else (some false)))) = some r := H
              have A42 := Aside0.mk A420
              clear A420
              replace H := Option.bind_eq_some_iff.mp H
              obtain ⟨t115, A430, H⟩ := H
              replace H : ((nat_Div.f t115 a1).bind fun bt116 => (if t114 = true then ((nat_Mul.f t112 a1).bind fun t119 => ((nat_Add.f t119 t113).bind fun t120 => (if t120.toList = a0.toList then ((nat_Cmp.f t113 a1).bind fun t121 => (if t121 = (-1) then (if bt116.2.2 = true then (if bt116.1.toList = a0.toList then (some (bt116.2.1.toList == ([48] : List UInt8))) else (some false)) else (some false)) else (some false))) else (some false)))) else (some false))) = some r := H
              have A43 := Aside0.mk A430
              clear A430
              replace H := Option.bind_eq_some_iff.mp H
              obtain ⟨⟨t116, t117, t118⟩, A440, H⟩ := H
              replace H : (if t114 = true then ((nat_Mul.f t112 a1).bind fun t119 => ((nat_Add.f t119 t113).bind fun t120 => (if t120.toList = a0.toList then ((nat_Cmp.f t113 a1).bind fun t121 => (if t121 = (-1) then (if t118 = true then (if t116.toList = a0.toList then (some (t117.toList == ([48] : List UInt8))) else (some false)) else (some false)) else (some false))) else (some false)))) else (some false)) = some r := H
              have A44 := Aside0.mk A440
              clear A440
              by_cases c45 : t114 = true
              · subst c45
                have H1 : ((nat_Mul.f t112 a1).bind fun t119 => ((nat_Add.f t119 t113).bind fun t120 => (if t120.toList = a0.toList then ((nat_Cmp.f t113 a1).bind fun t121 => (if t121 = (-1) then (if t118 = true then (if t116.toList = a0.toList then (some (t117.toList == ([48] : List UInt8))) else (some false)) else (some false)) else (some false))) else (some false)))) = some r := by rw [if_pos rfl] at H; exact H
                clear H
                have H := H1
                clear H1
                replace H := Option.bind_eq_some_iff.mp H
                obtain ⟨t119, A460, H⟩ := H
                replace H : ((nat_Add.f t119 t113).bind fun t120 => (if t120.toList = a0.toList then ((nat_Cmp.f t113 a1).bind fun t121 => (if t121 = (-1) then (if t118 = true then (if t116.toList = a0.toList then (some (t117.toList == ([48] : List UInt8))) else (some false)) else (some false)) else (some false))) else (some false))) = some r := H
                have A46 := Aside0.mk A460
                clear A460
                replace H := Option.bind_eq_some_iff.mp H
                obtain ⟨t120, A470, H⟩ := H
                replace H : (if t120.toList = a0.toList then ((nat_Cmp.f t113 a1).bind fun t121 => (if t121 = (-1) then (if t118 = true then (if t116.toList = a0.toList then (some (t117.toList == ([48] : List UInt8))) else (some false)) else (some false)) else (some false))) else (some false)) = some r := H
                have A47 := Aside0.mk A470
                clear A470
                by_cases c48 : t120.toList = a0.toList
                · rw [if_pos c48] at H
                  have c48b0 : (t120.toList == a0.toList) = true := beq_iff_eq.mpr c48
                  have c48b1 : (t120.toList != a0.toList) = false := bne_eq_false_iff_eq.mpr c48
                  clear c48
                  replace H := Option.bind_eq_some_iff.mp H
                  obtain ⟨t121, A490, H⟩ := H
                  replace H : (if t121 = (-1) then (if t118 = true then (if t116.toList = a0.toList then (some (t117.toList == ([48] : List UInt8))) else (some false)) else (some false)) else (some false)) = some r := H
                  have A49 := Aside0.mk A490
                  clear A490
                  by_cases c50 : t121 = (-1)
                  · rw [if_pos c50] at H
                    have c50b0 : (t121 == (-1)) = true := beq_iff_eq.mpr c50
                    have c50b1 : (t121 != (-1)) = false := bne_eq_false_iff_eq.mpr c50
                    clear c50
                    by_cases c51 : t118 = true
                    · subst c51
                      have H1 : (if t116.toList = a0.toList then (some (t117.toList == ([48] : List UInt8))) else (some false)) = some r := by rw [if_pos rfl] at H; exact H
                      clear H
                      have H := H1
                      clear H1
                      by_cases c52 : t116.toList = a0.toList
                      · rw [if_pos c52] at H
                        have c52b0 : (t116.toList == a0.toList) = true := beq_iff_eq.mpr c52
                        have c52b1 : (t116.toList != a0.toList) = false := bne_eq_false_iff_eq.mpr c52
                        clear c52
                        obtain rfl := Option.some.inj H
                        go_wp2_with (first | ((with_reducible refine gate_callee (f := 14) rfl ?_); refine goesL_ (some 61) rfl rfl Tryd.func14 (by kernel_rfl) rfl #[.string a0, .string a1] rfl (by (try simp only [List.map_toArray, List.map_cons, List.map_nil]); first | done | rfl | (simp only [List.length_drop, List.length_take]; rfl)) ?_; (with_reducible refine (nat_Div.calls a0 a1 t112 t113 true _ ?side1 A42.out).mono ?_); (case side1 => exact Laid.below HLD.out (by repeat (first | (with_reducible first | exact HB.out | apply below_alloc | apply pw_below_drewN | apply below_drew1) | exact HB.out))); rintro e w53 ⟨rfl, hb⟩; refine ⟨_, rfl, ?_⟩; have n0_ := Aside0.mk (below_step (by repeat (first | (with_reducible first | exact HB.out | apply below_alloc | apply pw_below_drewN | apply below_drew1) | exact HB.out)) hb); clear HB; have HB := n0_; clear n0_; (try clear hb); (try clear hb2); (try clear hk); (try clear hi)) | ((with_reducible refine gate_callee (f := 26) rfl ?_); refine goesL_ (some 68) rfl rfl Tryd.func26 (by kernel_rfl) rfl #[.string a0, .string a1] rfl (by (try simp only [List.map_toArray, List.map_cons, List.map_nil]); first | done | rfl | (simp only [List.length_drop, List.length_take]; rfl)) ?_; (with_reducible refine (nat_Mul.calls a0 a1 t115 _ ?side1 A43.out).mono ?_); (case side1 => exact Laid.below HLD.out (by repeat (first | (with_reducible first | exact HB.out | apply below_alloc | apply pw_below_drewN | apply below_drew1) | exact HB.out))); rintro e w54 ⟨rfl, hb⟩; refine ⟨_, rfl, ?_⟩; have n0_ := Aside0.mk (below_step (by repeat (first | (with_reducible first | exact HB.out | apply below_alloc | apply pw_below_drewN | apply below_drew1) | exact HB.out)) hb); clear HB; have HB := n0_; clear n0_; (try clear hb); (try clear hb2); (try clear hk); (try clear hi)) | ((with_reducible refine gate_callee (f := 14) rfl ?_); refine goesL_ (some 70) rfl rfl Tryd.func14 (by kernel_rfl) rfl #[.string t115, .string a1] rfl (by (try simp only [List.map_toArray, List.map_cons, List.map_nil]); first | done | rfl | (simp only [List.length_drop, List.length_take]; rfl)) ?_; (with_reducible refine (nat_Div.calls t115 a1 t116 t117 true _ ?side1 A44.out).mono ?_); (case side1 => exact Laid.below HLD.out (by repeat (first | (with_reducible first | exact HB.out | apply below_alloc | apply pw_below_drewN | apply below_drew1) | exact HB.out))); rintro e w55 ⟨rfl, hb⟩; refine ⟨_, rfl, ?_⟩; have n0_ := Aside0.mk (below_step (by repeat (first | (with_reducible first | exact HB.out | apply below_alloc | apply pw_below_drewN | apply below_drew1) | exact HB.out)) hb); clear HB; have HB := n0_; clear n0_; (try clear hb); (try clear hb2); (try clear hk); (try clear hi)) | (go_at_call 26; (with_reducible refine (nat_Mul.calls t112 a1 t119 _ ?side1 A46.out).mono ?_); (case side1 => exact Laid.below HLD.out (by repeat (first | (with_reducible first | exact HB.out | apply below_alloc | apply pw_below_drewN | apply below_drew1) | exact HB.out))); rintro e w56 ⟨rfl, hb⟩; have n0_ := Aside0.mk (below_step (by repeat (first | (with_reducible first | exact HB.out | apply below_alloc | apply pw_below_drewN | apply below_drew1) | exact HB.out)) hb); clear HB; have HB := n0_; clear n0_; (try clear hb); (try clear hb2); (try clear hk); (try clear hi)) | (go_at_call 24; (with_reducible refine (nat_Add.calls t119 t113 t120 _ ?side1 A47.out).mono ?_); (case side1 => exact Laid.below HLD.out (by repeat (first | (with_reducible first | exact HB.out | apply below_alloc | apply pw_below_drewN | apply below_drew1) | exact HB.out))); rintro e w57 ⟨rfl, hb⟩; have n0_ := Aside0.mk (below_step (by repeat (first | (with_reducible first | exact HB.out | apply below_alloc | apply pw_below_drewN | apply below_drew1) | exact HB.out)) hb); clear HB; have HB := n0_; clear n0_; (try clear hb); (try clear hb2); (try clear hk); (try clear hi)) | (go_at_call 22; (with_reducible refine (nat_Cmp.calls t113 a1 t121 _ A49.out).mono ?_); rintro e w58 ⟨rfl, hb⟩; have n0_ := Aside0.mk (below_step (by repeat (first | (with_reducible first | exact HB.out | apply below_alloc | apply pw_below_drewN | apply below_drew1) | exact HB.out)) hb); clear HB; have HB := n0_; clear n0_; (try clear hb); (try clear hb2); (try clear hk); (try clear hi)))
                        go_ret
                        exact ⟨by first | rfl | (simp [errW_none, errW_some] <;> rfl) | (simp [*, errW_none, errW_some] <;> rfl), by repeat (first | (with_reducible first | exact HB.out | apply below_alloc | apply pw_below_drewN | apply below_drew1) | exact HB.out)⟩
                      · rw [if_neg c52] at H
                        have c52b0 : (t116.toList == a0.toList) = false := beq_eq_false_iff_ne.mpr c52
                        have c52b1 : (t116.toList != a0.toList) = true := bne_iff_ne.mpr c52
                        exact absurd (H.trans (congrArg some hr_.out)) (by decide)
                    · replace c51 := Bool.eq_false_iff.mpr c51
                      subst c51
                      have H1 : (some false) = some r := by rw [if_neg (show ¬ (false = true) by decide)] at H; exact H
                      clear H
                      have H := H1
                      clear H1
                      exact absurd (H.trans (congrArg some hr_.out)) (by decide)
                  · rw [if_neg c50] at H
                    have c50b0 : (t121 == (-1)) = false := beq_eq_false_iff_ne.mpr c50
                    have c50b1 : (t121 != (-1)) = true := bne_iff_ne.mpr c50
                    exact absurd (H.trans (congrArg some hr_.out)) (by decide)
                · rw [if_neg c48] at H
                  have c48b0 : (t120.toList == a0.toList) = false := beq_eq_false_iff_ne.mpr c48
                  have c48b1 : (t120.toList != a0.toList) = true := bne_iff_ne.mpr c48
                  exact absurd (H.trans (congrArg some hr_.out)) (by decide)
              · replace c45 := Bool.eq_false_iff.mpr c45
                subst c45
                have H1 : (some false) = some r := by rw [if_neg (show ¬ (false = true) by decide)] at H; exact H
                clear H
                have H := H1
                clear H1
                exact absurd (H.trans (congrArg some hr_.out)) (by decide)
end Go.Proofs.YtmcpiejgneegjaaDoor.LNatDivides

end

/-
The law NatDivides, told by numbers.
-/
section
set_option linter.unusedVariables false
namespace Go.Proofs.YtmcpiejgneegjaaDoor
open Go.RowKit Go.Proofs.YtmcpiejgneegjaaDoorW.PrintWords Go.Proofs.YtmcpiejgneegjaaDoorW.PrintLast Go.Proofs.YtmcpiejgneegjaaDoorW.PrintMore

theorem pureNatDivides (a0 a1 : ByteArray) (w0 : a0.size ≤ 140737488351232) (w1 : a1.size ≤ 140737488351232) : ∃ k, LNatDivides.debenturelaw01_NatDivides.f k a0 a1 = some true := by
  refine ⟨3, ?_⟩
  unfold LNatDivides.debenturelaw01_NatDivides.f debenturelaw01_fixed.f
  have hj : LNatDivides.debenturelaw01_NatDivides.j0 3 a0 a1 true = some true := by
    simp only [LNatDivides.debenturelaw01_NatDivides.j0]
    rfl
  rw [Option.bind_some, if_pos rfl, shorts2, Option.bind_some]
  cases h0 : shortT a0 <;> cases h1 : shortT a1
  all_goals first | exact hj | skip
  have z0 := shortT_le h0
  have z1 := shortT_le h1
  rw [if_pos (by rfl), rMay (by omega), Option.bind_some]
  by_cases m0 : mayB a0 = true
  · rw [if_pos m0, rMay (by omega), Option.bind_some]
    by_cases m1 : mayB a1 = true
    · obtain ⟨m, rfl, e0⟩ := of_may m0
      obtain ⟨n, rfl, e1⟩ := of_may m1
      rw [m1]
      simp only [LNatDivides.debenturelaw01_NatDivides.j0]
      have s1 := sz_add m n
      rw [if_neg (by decide), fAdd (by omega) (by omega), Option.bind_some, fSub (by omega) (by omega), Option.bind_some, if_pos (show n ≤ m + n by omega), if_pos (show ((natB (m + n - n), true) : ByteArray × Bool).2 = true from rfl), Nat.add_sub_cancel, if_pos (show ((natB m, true) : ByteArray × Bool).1.toList = (natB m).toList from rfl), natB_beq_zero]
      simp only [LNatDivides.debenturelaw01_NatDivides.j1]
      by_cases hn : n = 0
      · rw [if_pos (decide_eq_true hn), if_pos trivial, natB_beq, decide_eq_true rfl]
      · have hq := sz_mono (Nat.div_le_self m n)
        have hr := sz_mono (Nat.mod_le m n)
        have s2 := sz_mul m n
        have s3 := sz_mul (m / n) n
        have hlt := Nat.mod_lt m (show 0 < n by omega)
        have hdm := Nat.div_add_mod m n
        have hdm' : m / n * n + m % n = m := by rw [Nat.mul_comm]; exact hdm
        rw [if_neg (by rw [decide_eq_true_eq]; exact hn), fDiv (by omega) (by omega) hn, Option.bind_some, fMul (by omega) (by omega), Option.bind_some, fDiv (by omega) (by omega) hn, Option.bind_some, if_pos (by rfl), fMul (by omega) (by omega), Option.bind_some, fAdd (by omega) (by omega), Option.bind_some, hdm', if_pos rfl, fCmp (by omega) (by omega), Option.bind_some, if_pos (cmpI_lt hlt), if_pos (by rfl),
          if_pos (natB_toList_inj.2 (Nat.mul_div_cancel m (by omega))), natB_beq_zero, Nat.mul_mod_left]
        rfl
    · rw [(Bool.not_eq_true _).mp m1]
      exact hj
  · rw [if_neg m0]
    exact hj

end Go.Proofs.YtmcpiejgneegjaaDoor

end

/-
The law NatDivides holds at every input: its row, and its card, tied to the program's text.
Conditions: none beyond the given row's own.
-/
section
namespace Go.Proofs.YtmcpiejgneegjaaDoor.natDivides
open Go.ChangeShapes Go.WideShapes Go.ChangeAt Go.RowKit
open Go.ChangeMaps (open_string shut_string)
set_option linter.unusedVariables false
set_option maxRecDepth 100000 in
theorem lifted (os : Os) (started : os.Started) (H : Type) (enc : TypeId × Value → H) :
    ReturnsInHanded {} Tryd.checked os 5 .any (fun w args => (Rows.natDividesSpec.pre enc Tryd.prog Tryd.f5 Rows.natDividesRow.domain false w args ∧ laidMetH Tryd.prog laidL w) ∧ sizedMet enc Tryd.prog Tryd.f5 (OpenSpec.ofChange Rows.natDividesSpec) false w args)
      (Rows.natDividesSpec.post enc Tryd.prog Tryd.f5 false true false false) := by
  refine returnsInHanded_of_change_and (C := Tryd.checked) (X := fun w _ => laidMetH Tryd.prog laidL w) (fun _ _ _ hh h => h.of_heap hh) own started (by kernel_rfl) Tryd.func5
    (ChangeSpec.witness_shaped (enc := enc) (C := Tryd.checked) (os := os) (X := fun w _ => laidMetH Tryd.prog laidL w) false (World.doorLaid Tryd.prog 4000 os) #[.string ByteArray.empty, .string ByteArray.empty] 8 rfl (World.shaped_of_RefB (by kernel_rfl) (by kernel_rfl)) (by kernel_rfl) (by kernel_rfl) (by kernel_rfl) (door_met os _)) ?_
  intro W base args ds gs before hval0 hW _ hsz0 hL _
  have hsz : (DataW.weightsEach Tryd.prog (Tryd.f5.params.toList ++ Rows.natDividesSpec.plain.varTypes Tryd.prog) (ds ++ gs)).all (· ≤ reachBytes) = true := hsz0
  have hval : ∀ (j : Nat) t v, Tryd.f5.params[j]? = some t → args[j]? = some v → Value.okWide Tryd.prog W .any base t v := hval0
  have hW' := hW
  obtain ⟨p, q, hA0, hV, rfl, hfz, hnd⟩ := hW
  have hA : DataW.TrodAll enc Tryd.prog W 0 (fun _ => true) true Tryd.f5.params.toList args.toList ds p := hA0
  rw [Tryd.params5] at hA hval hsz
  obtain ⟨v0, vs0, d0, ds0, p0, q0, hargs, rfl, rfl, h0, r0⟩ := trodAll_cons hA
  obtain ⟨v1, vs1, d1, ds1, p1, q1, rfl, rfl, rfl, h1, r1⟩ := trodAll_cons r0
  obtain ⟨rfl, rfl, rfl⟩ := trodAll_nil r1
  obtain rfl : args = #[v0, v1] := by cases args; simp_all
  obtain ⟨rfl, rfl⟩ := trodVars_none hV
  obtain ⟨a0, rfl, rfl, rfl, y0⟩ := open_string Tryd.underlying9 (hval 0 9 v0 rfl rfl) h0
  have w0 : a0.size ≤ 140737488351232 := by
    have z := sized_string hsz (j := 0) (t := 9) rfl rfl
    rw [Array.length_toList] at z
    exact z
  obtain ⟨a1, rfl, rfl, rfl, y1⟩ := open_string Tryd.underlying9 (hval 1 9 v1 rfl rfl) h1
  have w1 : a1.size ≤ 140737488351232 := by
    have z := sized_string hsz (j := 1) (t := 9) rfl rfl
    rw [Array.length_toList] at z
    exact z
  clear hA0 hval0 hsz0 hsz
  obtain ⟨k, hf⟩ := pureNatDivides a0 a1 w0 w1
  refine (LNatDivides.debenturelaw01_NatDivides.calls k a0 a1 true W (laid_of hL) ⟨rfl⟩ hf).mono fun e W' ⟨he, bel⟩ => ?_
  subst he
  exact ⟨_, rfl, _, _, _, [], _, [], hW', trodAll_mk1 (shut_bool Tryd.underlying4 _), (trodAll_cons_mk (shut_string Tryd.underlying9 y0) (trodAll_cons_mk (shut_string Tryd.underlying9 y1) trodAll_mk0)), rfl, bel.frame _, fun h => by cases h⟩
theorem over : Rows.NatDividesSaid :=
  OpenClaim.holds_of_wide 5 Tryd.f5 rfl rfl rfl rfl rfl rfl rfl ⟨rfl, rfl, rfl, rfl, rfl⟩ rfl rfl rfl rfl rfl (by kernel_rfl) Tryd.func5 (by kernel_rfl)
    (of_decide_eq_true (by kernel_rfl)) (by unfold Func.isWrapper; first | (rw [if_pos (by decide +kernel)]; kernel_rfl) | (rw [if_neg (by decide +kernel)]; exact ⟨rfl, rfl⟩))
    (fun os started H enc _ => lifted os started H enc)
theorem proved : Rows.NatDividesCardSaid :=
  Claim7.holds_tied_plain_at .later [] [.data, .data, .data, .sentinel, .sentinel] true (true, "d5ab43be80e0f9512f94eeafcac67ad3748b237780a8a3f2ad52dc7fafa3345f") true
    over (fun _ h => by cases h) (by kernel_rfl) (fun _ h => by cases h) natDivides_row_tie rfl ⟨rfl, rfl⟩ (by kernel_rfl) rfl
    (fun f fn hf hfn => by
      obtain rfl : f = 5 := Option.some.inj ((show Tryd.prog.funcNamed "debenture/debenturelaw01.NatDivides" = some 5 by kernel_rfl).symm.trans hf) |>.symm
      obtain rfl : fn = Tryd.f5 := (Option.some.inj (Tryd.func5.symm.trans hfn)).symm
      exact ⟨by kernel_rfl, fun j t ht => by
        rw [Tryd.params5] at ht
        have hm : t ∈ [9, 9] := by simpa using Array.mem_of_getElem? ht
        have hall : ([9, 9].all fun u => !Tryd.prog.wantsStandIn u) = true := by kernel_rfl
        exact (show Tryd.prog.wantsStandIn t = false by simpa using List.all_eq_true.1 hall t hm)⟩)
    (by kernel_rfl)
end Go.Proofs.YtmcpiejgneegjaaDoor.natDivides
namespace Go.Proofs.YtmcpiejgneegjaaDoor
/-- The card, under a short name, for the claim. -/
theorem natDivides_holds : Rows.NatDividesCardSaid := natDivides.proved
#print axioms natDivides_holds
end Go.Proofs.YtmcpiejgneegjaaDoor

end
