/-
The law NatGcd holds at every input: its row, and its card, tied to the program's text. Conditions: none beyond the given row's own.
Parts of the proof, in build order: PuBase, LNatGcd0, LNatGcd1, PuNatGcd, RowNatGcd.
-/
import Derived.Test.YtmcpiejgneegjaaDoorC5
import Derived.Test.YtmcpiejgneegjaaDoorProg
import Derived.Below
import Derived.Deep.Draws
import Derived.Deep.AppendLies
import Derived.Maps.AppendAt
import Derived.OwnWalk
import Derived.Laws.BytesArg
import Derived.Laws.MakeOwn
import Derived.Laws.OwnMore
import Derived.Deep.OwnRows
import Derived.Tactics
import Derived.Lib.ConvBytes
import Derived.Laws.Slices
import Derived.WalkKit
import Derived.KernelRfl
import Derived.RowKit3
import Derived.Deep.LoopGhost
import Derived.Deep.QuietTactic
import Derived.BigQuiet
import Derived.WideLaws
import Derived.Deep.DeepCutAuto
import Derived.Deep.CutBlock
import Derived.Deep.RegionHeld3
import Derived.Laws.Rows
import Derived.Lib.AppendStr
import Derived.ArgAppend
import Derived.Laws.IdiomCopy
import Derived.OrdersHeld
import Derived.Laws.BitsLemmas
import Derived.RowKit
import Derived.Test.YtmcpiejgneegjaaDoorC0
import Derived.Test.YtmcpiejgneegjaaDoorTie
import Derived.Test.YtmcpiejgneegjaaDoorCards
import Derived.SevenTiedAt
/-
What the laws of naturals share.
-/
section
set_option linter.unusedVariables false
namespace Go.Proofs.YtmcpiejgneegjaaDoor
open Go.RowKit Go.Proofs.YtmcpiejgneegjaaDoorW.PrintWords Go.Proofs.YtmcpiejgneegjaaDoorW.PrintLast Go.Proofs.YtmcpiejgneegjaaDoorW.PrintMore

theorem shorts3 {a b c : ByteArray} : debentureref01_Short.f [a, b, c] = some (shortT a && (shortT b && shortT c)) := by
  rw [rShort (by simp)]
  simp [List.all_cons]
theorem shorts2 {a b : ByteArray} : debentureref01_Short.f [a, b] = some (shortT a && shortT b) := by
  rw [rShort (by simp)]
  simp [List.all_cons]
theorem cmpI_cases (m n : Nat) : (m < n ∧ Lib.compareInt (m : Int) (n : Int) = -1 ∧ Lib.compareInt (n : Int) (m : Int) = 1) ∨ (m = n ∧ Lib.compareInt (m : Int) (n : Int) = 0 ∧ Lib.compareInt (n : Int) (m : Int) = 0) ∨ (n < m ∧ Lib.compareInt (m : Int) (n : Int) = 1 ∧ Lib.compareInt (n : Int) (m : Int) = -1) := by
  rcases Nat.lt_trichotomy m n with h | h | h
  · exact .inl ⟨h, cmpI_lt h, cmpI_gt h⟩
  · exact .inr (.inl ⟨h, cmpI_eq h, cmpI_eq h.symm⟩)
  · exact .inr (.inr ⟨h, cmpI_gt h, cmpI_lt h⟩)

theorem wf_i64 {n : Int} (h : (Lit.int .i64 n).wf = true) : -9223372036854775808 ≤ n ∧ n ≤ 9223372036854775807 := by
  have e1 : IntKind.i64.min = -9223372036854775808 := rfl
  have e2 : IntKind.i64.max = 9223372036854775807 := rfl
  simp [Lit.wf, e1, e2] at h
  exact h
theorem bne_same {α : Type} [BEq α] [LawfulBEq α] (a : α) : ¬ (a != a) = true := by simp

end Go.Proofs.YtmcpiejgneegjaaDoor

end

-- Written by wip/pp.py of this place (over the kit's print) out of the translation.
section
namespace Go.Proofs.YtmcpiejgneegjaaDoor.LNatGcd
open Go.RowKit Go.Proofs.YtmcpiejgneegjaaDoorW.PrintWords Go.Proofs.YtmcpiejgneegjaaDoorW.PrintLast Go.Proofs.YtmcpiejgneegjaaDoorW.PrintMore
attribute [local go_sem] max2_int min2_int max_two min_two max_three min_three max_four min_four   -- for this text's walks alone
set_option linter.unusedVariables false
set_option linter.unusedSimpArgs false



def errW : Option Int → Value
  | none => .nilIface
  | some c => .iface 0 (.int .i64 c)
theorem errW_none : errW none = .nilIface := rfl
theorem errW_some (c : Int) : errW (some c) = .iface 0 (.int .i64 c) := rfl

-- the values' own types

end Go.Proofs.YtmcpiejgneegjaaDoor.LNatGcd

end

-- Written by wip/pp.py of this place (over the kit's print) out of the translation.
section
namespace Go.Proofs.YtmcpiejgneegjaaDoor.LNatGcd
open Go.RowKit Go.Proofs.YtmcpiejgneegjaaDoorW.PrintWords Go.Proofs.YtmcpiejgneegjaaDoorW.PrintLast Go.Proofs.YtmcpiejgneegjaaDoorW.PrintMore
attribute [local go_sem] max2_int min2_int max_two min_two max_three min_three max_four min_four   -- for this text's walks alone
set_option linter.unusedVariables false
set_option linter.unusedSimpArgs false

-- walked by hand: function 11 (debenturelaw01_fixed)

-- walked by hand: function 14 (nat_Div)

-- walked by hand: function 19 (debentureref01_May)

-- walked by hand: function 26 (nat_Mul)

-- walked by hand: function 28 (nat_Gcd)

/-! ### debenturelaw01_NatGcd: function 6 -/
mutual
def debenturelaw01_NatGcd.j0 : Nat → ByteArray → ByteArray → ByteArray → Bool → Option (Bool)
  | 0, _, _, _, _ => none
  | k + 1, x0, x1, x2, x45 => if x45 = true then ((debenturelaw01_fixed.f).bind fun t105 => (some t105)) else ((nat_Gcd.f x0 x1).bind fun t106 => (if x0.toList = ([48] : List UInt8) then (debenturelaw01_NatGcd.j1 k x0 x1 x2 t106 (x1.toList == ([48] : List UInt8))) else (debenturelaw01_NatGcd.j1 k x0 x1 x2 t106 false)))
def debenturelaw01_NatGcd.j1 : Nat → ByteArray → ByteArray → ByteArray → ByteArray → Bool → Option (Bool)
  | 0, _, _, _, _, _ => none
  | k + 1, x0, x1, x2, x7, x55 => if x55 = true then (some (x7.toList == ([48] : List UInt8))) else ((nat_Div.f x0 x7).bind fun bt107 => ((nat_Div.f x1 x7).bind fun bt110 => (if bt107.2.2 = true then (if bt110.2.2 = true then (if bt107.2.1.toList = ([48] : List UInt8) then (if bt110.2.1.toList = ([48] : List UInt8) then ((nat_Gcd.f bt107.1 bt110.1).bind fun t113 => (if t113.toList = ([49] : List UInt8) then ((nat_Gcd.f x1 x0).bind fun t114 => (if t114.toList = x7.toList then ((nat_Mul.f x0 x2).bind fun t115 => ((nat_Mul.f x1 x2).bind fun t116 => ((nat_Gcd.f t115 t116).bind fun t117 => ((nat_Mul.f x7 x2).bind fun t118 => (some (t117.toList == t118.toList)))))) else (some false))) else (some false))) else (some false)) else (some false)) else (some false)) else (some false))))
end
def debenturelaw01_NatGcd.f (k : Nat) (a0 : ByteArray) (a1 : ByteArray) (a2 : ByteArray) : Option (Bool) := (debenturelaw01_fixed.f).bind fun t101 => (if t101 = true then (if (a0.size : Int) > 100 then (debenturelaw01_NatGcd.j0 k a0 a1 a2 true) else (if (a1.size : Int) > 100 then (debenturelaw01_NatGcd.j0 k a0 a1 a2 true) else (if (a2.size : Int) > 100 then (debenturelaw01_NatGcd.j0 k a0 a1 a2 true) else ((debentureref01_May.f a0).bind fun t102 => (if t102 = true then ((debentureref01_May.f a1).bind fun t103 => (if t103 = true then ((debentureref01_May.f a2).bind fun t104 => (debenturelaw01_NatGcd.j0 k a0 a1 a2 (!t104))) else (debenturelaw01_NatGcd.j0 k a0 a1 a2 true))) else (debenturelaw01_NatGcd.j0 k a0 a1 a2 true)))))) else (debenturelaw01_NatGcd.j0 k a0 a1 a2 true))
theorem debenturelaw01_NatGcd.mono_l : ∀ k, (∀ y0 y1 y2 y3, LeO (debenturelaw01_NatGcd.j0 k y0 y1 y2 y3) (debenturelaw01_NatGcd.j0 (k + 1) y0 y1 y2 y3)) ∧ (∀ y0 y1 y2 y3 y4, LeO (debenturelaw01_NatGcd.j1 k y0 y1 y2 y3 y4) (debenturelaw01_NatGcd.j1 (k + 1) y0 y1 y2 y3 y4))
  | 0 => ⟨fun _ _ _ _ r h => by simp [debenturelaw01_NatGcd.j0] at h, fun _ _ _ _ _ r h => by simp [debenturelaw01_NatGcd.j1] at h⟩
  | k + 1 => by
    obtain ⟨ih0, ih1⟩ := debenturelaw01_NatGcd.mono_l k
    refine ⟨?_, ?_⟩
    · intro y0 y1 y2 y3
      unfold debenturelaw01_NatGcd.j0
      repeat' first
      | (with_reducible exact ih0 _ _ _ _)
      | (with_reducible exact ih1 _ _ _ _ _)
      | (with_reducible exact LeO.refl _)
      | (with_reducible exact LeO.none _)
      | (with_reducible refine LeO.ite ?_ ?_)
      | (with_reducible refine LeO.bind ?_ (fun _ => ?_))
      | exact ih0 _ _ _ _
      | exact ih1 _ _ _ _ _
      | exact LeO.none _
      | refine LeO.ite ?_ ?_
      | refine LeO.bind ?_ (fun _ => ?_)
    · intro y0 y1 y2 y3 y4
      unfold debenturelaw01_NatGcd.j1
      repeat' first
      | (with_reducible exact ih0 _ _ _ _)
      | (with_reducible exact ih1 _ _ _ _ _)
      | (with_reducible exact LeO.refl _)
      | (with_reducible exact LeO.none _)
      | (with_reducible refine LeO.ite ?_ ?_)
      | (with_reducible refine LeO.bind ?_ (fun _ => ?_))
      | exact ih0 _ _ _ _
      | exact ih1 _ _ _ _ _
      | exact LeO.none _
      | refine LeO.ite ?_ ?_
      | refine LeO.bind ?_ (fun _ => ?_)
theorem debenturelaw01_NatGcd.mono : ∀ a0 a1 a2 k, LeO (debenturelaw01_NatGcd.f k a0 a1 a2) (debenturelaw01_NatGcd.f (k + 1) a0 a1 a2) := by
  intro a0 a1 a2 k
  obtain ⟨ih0, ih1⟩ := debenturelaw01_NatGcd.mono_l k
  unfold debenturelaw01_NatGcd.f
  repeat' first
      | (with_reducible exact ih0 _ _ _ _)
      | (with_reducible exact ih1 _ _ _ _ _)
      | (with_reducible exact LeO.refl _)
      | (with_reducible exact LeO.none _)
      | (with_reducible refine LeO.ite ?_ ?_)
      | (with_reducible refine LeO.bind ?_ (fun _ => ?_))
      | exact ih0 _ _ _ _
      | exact ih1 _ _ _ _ _
      | exact LeO.none _
      | refine LeO.ite ?_ ?_
      | refine LeO.bind ?_ (fun _ => ?_)
set_option maxHeartbeats 8000000 in
set_option maxRecDepth 100000 in
theorem debenturelaw01_NatGcd.calls (k : Nat) (a0 : ByteArray) (a1 : ByteArray) (a2 : ByteArray) (r : Bool) (w : World) (hL_ : Laid w) (hr_ : Aside0 (r = true)) (h : debenturelaw01_NatGcd.f k a0 a1 a2 = some r) :
    Calls Tryd.prog 6 #[.string a0, .string a1, .string a2] w fun e w' => e = .returned (.bool r) ∧ Below w.heap.size w w' := by
  have HLD := Aside0.mk hL_
  clear hL_
  have HB := Aside0.mk (Below.refl w.heap.size w)
  have H : ((debenturelaw01_fixed.f).bind fun t101 => (if t101 = true then (if (a0.size : Int) > 100 then (debenturelaw01_NatGcd.j0 k a0 a1 a2 true) else (if (a1.size : Int) > 100 then (debenturelaw01_NatGcd.j0 k a0 a1 a2 true) else (if (a2.size : Int) > 100 then (debenturelaw01_NatGcd.j0 k a0 a1 a2 true) else ((debentureref01_May.f a0).bind fun t102 => (if t102 = true then ((debentureref01_May.f a1).bind fun t103 => (if t103 = true then ((debentureref01_May.f a2).bind fun t104 => (debenturelaw01_NatGcd.j0 k a0 a1 a2 (!t104))) else (debenturelaw01_NatGcd.j0 k a0 a1 a2 true))) else (debenturelaw01_NatGcd.j0 k a0 a1 a2 true)))))) else (debenturelaw01_NatGcd.j0 k a0 a1 a2 true))) = some r := h
  clear h
  have HC4 := Aside0.mk H
  clear H
  go_enter Tryd.func6, Tryd.ntmps6
  go_upto_region 1 with (fail)
  go_cut [45] (fun v45 wc => ∃ (kq : Nat) (x45_3 : Bool), v45 = .bool x45_3 ∧ Aside0 (debenturelaw01_NatGcd.j0 kq a0 a1 a2 x45_3 = some r) ∧ Aside0 (kq ≤ k) ∧ Aside0 (Below w.heap.size w wc))
  case first =>
    have H := HC4.out
    clear HC4
    replace H := Option.bind_eq_some_iff.mp H
    obtain ⟨t101, A50, H⟩ := H
    replace H : (if t101 = true then (if (a0.size : Int) > 100 then (debenturelaw01_NatGcd.j0 k a0 a1 a2 true) else (if (a1.size : Int) > 100 then (debenturelaw01_NatGcd.j0 k a0 a1 a2 true) else (if (a2.size : Int) > 100 then (debenturelaw01_NatGcd.j0 k a0 a1 a2 true) else ((debentureref01_May.f a0).bind fun t102 => (if t102 = true then ((debentureref01_May.f a1).bind fun t103 => (if t103 = true then ((debentureref01_May.f a2).bind fun t104 => (debenturelaw01_NatGcd.j0 k a0 a1 a2 (!t104))) else (debenturelaw01_NatGcd.j0 k a0 a1 a2 true))) else (debenturelaw01_NatGcd.j0 k a0 a1 a2 true)))))) else (debenturelaw01_NatGcd.j0 k a0 a1 a2 true)) = some r := H
    have A5 := Aside0.mk A50
    clear A50
    by_cases c6 : t101 = true
    · subst c6
      have H1 : (if (a0.size : Int) > 100 then (debenturelaw01_NatGcd.j0 k a0 a1 a2 true) else (if (a1.size : Int) > 100 then (debenturelaw01_NatGcd.j0 k a0 a1 a2 true) else (if (a2.size : Int) > 100 then (debenturelaw01_NatGcd.j0 k a0 a1 a2 true) else ((debentureref01_May.f a0).bind fun t102 => (if t102 = true then ((debentureref01_May.f a1).bind fun t103 => (if t103 = true then ((debentureref01_May.f a2).bind fun t104 => (debenturelaw01_NatGcd.j0 k a0 a1 a2 (!t104))) else (debenturelaw01_NatGcd.j0 k a0 a1 a2 true))) else (debenturelaw01_NatGcd.j0 k a0 a1 a2 true)))))) = some r := by rw [if_pos rfl] at H; exact H
      clear H
      have H := H1
      clear H1
      by_cases c7 : (a0.size : Int) > 100
      · rw [if_pos c7] at H
        have c7b0 : decide (100 < (a0.size : Int)) = true := decide_eq_true c7
        have c7b1 : decide (100 < a0.size) = true := decide_eq_true (by omega)
        clear c7
        (first | rw [c7b0] | (simp only [i64_w, i32_w]; rw [c7b0]) | skip)
        have H' := Aside0.mk H
        clear H
        go_wp2_with (first | ((with_reducible refine gate_callee (f := 11) rfl ?_); refine goesL_ (some 14) rfl rfl Tryd.func11 (by kernel_rfl) rfl #[] rfl (by (try simp only [List.map_toArray, List.map_cons, List.map_nil]); first | done | rfl | (simp only [List.length_drop, List.length_take]; rfl)) ?_; (with_reducible refine (debenturelaw01_fixed.calls  true _ ?side1 A5.out).mono ?_); (case side1 => exact Laid.below HLD.out (by repeat (first | (with_reducible first | exact HB.out | apply below_alloc | apply pw_below_drewN | apply below_drew1) | exact HB.out))); rintro e w8 ⟨rfl, hb⟩; refine ⟨_, rfl, ?_⟩; have n0_ := Aside0.mk (below_step (by repeat (first | (with_reducible first | exact HB.out | apply below_alloc | apply pw_below_drewN | apply below_drew1) | exact HB.out)) hb); clear HB; have HB := n0_; clear n0_; (try clear hb); (try clear hb2); (try clear hk); (try clear hi)))
        go_meet
        case rel => exact ⟨_, (true), (by first | rfl | (simp; done) | (simp [*]; done)), H', ⟨by first | omega | exact Nat.le_refl _⟩, ⟨by repeat (first | (with_reducible first | exact HB.out | apply below_alloc | apply pw_below_drewN | apply below_drew1) | exact HB.out)⟩⟩
      · rw [if_neg c7] at H
        have c7b0 : decide (100 < (a0.size : Int)) = false := decide_eq_false c7
        have c7b1 : decide (100 < a0.size) = false := decide_eq_false (by omega)
        clear c7
        (first | rw [c7b0] | (simp only [i64_w, i32_w]; rw [c7b0]) | skip)
        by_cases c9 : (a1.size : Int) > 100
        · rw [if_pos c9] at H
          have c9b0 : decide (100 < (a1.size : Int)) = true := decide_eq_true c9
          have c9b1 : decide (100 < a1.size) = true := decide_eq_true (by omega)
          clear c9
          have H' := Aside0.mk H
          clear H
          go_wp2_with (first | ((with_reducible refine gate_callee (f := 11) rfl ?_); refine goesL_ (some 14) rfl rfl Tryd.func11 (by kernel_rfl) rfl #[] rfl (by (try simp only [List.map_toArray, List.map_cons, List.map_nil]); first | done | rfl | (simp only [List.length_drop, List.length_take]; rfl)) ?_; (with_reducible refine (debenturelaw01_fixed.calls  true _ ?side1 A5.out).mono ?_); (case side1 => exact Laid.below HLD.out (by repeat (first | (with_reducible first | exact HB.out | apply below_alloc | apply pw_below_drewN | apply below_drew1) | exact HB.out))); rintro e w10 ⟨rfl, hb⟩; refine ⟨_, rfl, ?_⟩; have n0_ := Aside0.mk (below_step (by repeat (first | (with_reducible first | exact HB.out | apply below_alloc | apply pw_below_drewN | apply below_drew1) | exact HB.out)) hb); clear HB; have HB := n0_; clear n0_; (try clear hb); (try clear hb2); (try clear hk); (try clear hi)))
          go_meet
          case rel => exact ⟨_, (true), (by first | rfl | (simp; done) | (simp [*]; done)), H', ⟨by first | omega | exact Nat.le_refl _⟩, ⟨by repeat (first | (with_reducible first | exact HB.out | apply below_alloc | apply pw_below_drewN | apply below_drew1) | exact HB.out)⟩⟩
        · rw [if_neg c9] at H
          have c9b0 : decide (100 < (a1.size : Int)) = false := decide_eq_false c9
          have c9b1 : decide (100 < a1.size) = false := decide_eq_false (by omega)
          clear c9
          by_cases c11 : (a2.size : Int) > 100
          · rw [if_pos c11] at H
            have c11b0 : decide (100 < (a2.size : Int)) = true := decide_eq_true c11
            have c11b1 : decide (100 < a2.size) = true := decide_eq_true (by omega)
            clear c11
            have H' := Aside0.mk H
            clear H
            go_wp2_with (first | ((with_reducible refine gate_callee (f := 11) rfl ?_); refine goesL_ (some 14) rfl rfl Tryd.func11 (by kernel_rfl) rfl #[] rfl (by (try simp only [List.map_toArray, List.map_cons, List.map_nil]); first | done | rfl | (simp only [List.length_drop, List.length_take]; rfl)) ?_; (with_reducible refine (debenturelaw01_fixed.calls  true _ ?side1 A5.out).mono ?_); (case side1 => exact Laid.below HLD.out (by repeat (first | (with_reducible first | exact HB.out | apply below_alloc | apply pw_below_drewN | apply below_drew1) | exact HB.out))); rintro e w12 ⟨rfl, hb⟩; refine ⟨_, rfl, ?_⟩; have n0_ := Aside0.mk (below_step (by repeat (first | (with_reducible first | exact HB.out | apply below_alloc | apply pw_below_drewN | apply below_drew1) | exact HB.out)) hb); clear HB; have HB := n0_; clear n0_; (try clear hb); (try clear hb2); (try clear hk); (try clear hi)))
            go_meet
            case rel => exact ⟨_, (true), (by first | rfl | (simp; done) | (simp [*]; done)), H', ⟨by first | omega | exact Nat.le_refl _⟩, ⟨by repeat (first | (with_reducible first | exact HB.out | apply below_alloc | apply pw_below_drewN | apply below_drew1) | exact HB.out)⟩⟩
          · rw [if_neg c11] at H
            have c11b0 : decide (100 < (a2.size : Int)) = false := decide_eq_false c11
            have c11b1 : decide (100 < a2.size) = false := decide_eq_false (by omega)
            clear c11
            replace H := Option.bind_eq_some_iff.mp H
            obtain ⟨t102, A130, H⟩ := H
            replace H : (if t102 = true then ((debentureref01_May.f a1).bind fun t103 => (if t103 = true then ((debentureref01_May.f a2).bind fun t104 => (debenturelaw01_NatGcd.j0 k a0 a1 a2 (!t104))) else (debenturelaw01_NatGcd.j0 k a0 a1 a2 true))) else (debenturelaw01_NatGcd.j0 k a0 a1 a2 true)) = some r := H
            have A13 := Aside0.mk A130
            clear A130
            by_cases c14 : t102 = true
            · subst c14
              have H1 : ((debentureref01_May.f a1).bind fun t103 => (if t103 = true then ((debentureref01_May.f a2).bind fun t104 => (debenturelaw01_NatGcd.j0 k a0 a1 a2 (!t104))) else (debenturelaw01_NatGcd.j0 k a0 a1 a2 true))) = some r := by rw [if_pos rfl] at H; exact H
              clear H
              have H := H1
              clear H1
              replace H := Option.bind_eq_some_iff.mp H
              obtain ⟨t103, A150, H⟩ := H
              replace H : (if t103 = true then ((debentureref01_May.f a2).bind fun t104 => (debenturelaw01_NatGcd.j0 k a0 a1 a2 (!t104))) else (debenturelaw01_NatGcd.j0 k a0 a1 a2 true)) = some r := H
              have A15 := Aside0.mk A150
              clear A150
              by_cases c16 : t103 = true
              · subst c16
                have H1 : ((debentureref01_May.f a2).bind fun t104 => (debenturelaw01_NatGcd.j0 k a0 a1 a2 (!t104))) = some r := by rw [if_pos rfl] at H; exact H
                clear H
                have H := H1
                clear H1
                replace H := Option.bind_eq_some_iff.mp H
                obtain ⟨t104, A170, H⟩ := H
                replace H : (debenturelaw01_NatGcd.j0 k a0 a1 a2 (!t104)) = some r := H
                have A17 := Aside0.mk A170
                clear A170
                have H' := Aside0.mk H
                clear H
                go_wp2_with (first | ((with_reducible refine gate_callee (f := 11) rfl ?_); refine goesL_ (some 14) rfl rfl Tryd.func11 (by kernel_rfl) rfl #[] rfl (by (try simp only [List.map_toArray, List.map_cons, List.map_nil]); first | done | rfl | (simp only [List.length_drop, List.length_take]; rfl)) ?_; (with_reducible refine (debenturelaw01_fixed.calls  true _ ?side1 A5.out).mono ?_); (case side1 => exact Laid.below HLD.out (by repeat (first | (with_reducible first | exact HB.out | apply below_alloc | apply pw_below_drewN | apply below_drew1) | exact HB.out))); rintro e w18 ⟨rfl, hb⟩; refine ⟨_, rfl, ?_⟩; have n0_ := Aside0.mk (below_step (by repeat (first | (with_reducible first | exact HB.out | apply below_alloc | apply pw_below_drewN | apply below_drew1) | exact HB.out)) hb); clear HB; have HB := n0_; clear n0_; (try clear hb); (try clear hb2); (try clear hk); (try clear hi)) | (go_at_call 19; (with_reducible refine (debentureref01_May.calls a0 true _ A13.out).mono ?_); rintro e w19 ⟨rfl, hb⟩; have n0_ := Aside0.mk (below_step (by repeat (first | (with_reducible first | exact HB.out | apply below_alloc | apply pw_below_drewN | apply below_drew1) | exact HB.out)) hb); clear HB; have HB := n0_; clear n0_; (try clear hb); (try clear hb2); (try clear hk); (try clear hi)) | (go_at_call 19; (with_reducible refine (debentureref01_May.calls a1 true _ A15.out).mono ?_); rintro e w20 ⟨rfl, hb⟩; have n0_ := Aside0.mk (below_step (by repeat (first | (with_reducible first | exact HB.out | apply below_alloc | apply pw_below_drewN | apply below_drew1) | exact HB.out)) hb); clear HB; have HB := n0_; clear n0_; (try clear hb); (try clear hb2); (try clear hk); (try clear hi)) | (go_at_call 19; (with_reducible refine (debentureref01_May.calls a2 t104 _ A17.out).mono ?_); rintro e w21 ⟨rfl, hb⟩; have n0_ := Aside0.mk (below_step (by repeat (first | (with_reducible first | exact HB.out | apply below_alloc | apply pw_below_drewN | apply below_drew1) | exact HB.out)) hb); clear HB; have HB := n0_; clear n0_; (try clear hb); (try clear hb2); (try clear hk); (try clear hi)))
                go_meet
                case rel => exact ⟨_, (!t104), (by first | rfl | (simp; done) | (simp [*]; done)), H', ⟨by first | omega | exact Nat.le_refl _⟩, ⟨by repeat (first | (with_reducible first | exact HB.out | apply below_alloc | apply pw_below_drewN | apply below_drew1) | exact HB.out)⟩⟩
              · replace c16 := Bool.eq_false_iff.mpr c16
                subst c16
                have H1 : (debenturelaw01_NatGcd.j0 k a0 a1 a2 true) = some r := by rw [if_neg (show ¬ (false = true) by decide)] at H; exact H
                clear H
                have H := H1
                clear H1
                have H' := Aside0.mk H
                clear H
                go_wp2_with (first | ((with_reducible refine gate_callee (f := 11) rfl ?_); refine goesL_ (some 14) rfl rfl Tryd.func11 (by kernel_rfl) rfl #[] rfl (by (try simp only [List.map_toArray, List.map_cons, List.map_nil]); first | done | rfl | (simp only [List.length_drop, List.length_take]; rfl)) ?_; (with_reducible refine (debenturelaw01_fixed.calls  true _ ?side1 A5.out).mono ?_); (case side1 => exact Laid.below HLD.out (by repeat (first | (with_reducible first | exact HB.out | apply below_alloc | apply pw_below_drewN | apply below_drew1) | exact HB.out))); rintro e w22 ⟨rfl, hb⟩; refine ⟨_, rfl, ?_⟩; have n0_ := Aside0.mk (below_step (by repeat (first | (with_reducible first | exact HB.out | apply below_alloc | apply pw_below_drewN | apply below_drew1) | exact HB.out)) hb); clear HB; have HB := n0_; clear n0_; (try clear hb); (try clear hb2); (try clear hk); (try clear hi)) | (go_at_call 19; (with_reducible refine (debentureref01_May.calls a0 true _ A13.out).mono ?_); rintro e w23 ⟨rfl, hb⟩; have n0_ := Aside0.mk (below_step (by repeat (first | (with_reducible first | exact HB.out | apply below_alloc | apply pw_below_drewN | apply below_drew1) | exact HB.out)) hb); clear HB; have HB := n0_; clear n0_; (try clear hb); (try clear hb2); (try clear hk); (try clear hi)) | (go_at_call 19; (with_reducible refine (debentureref01_May.calls a1 false _ A15.out).mono ?_); rintro e w24 ⟨rfl, hb⟩; have n0_ := Aside0.mk (below_step (by repeat (first | (with_reducible first | exact HB.out | apply below_alloc | apply pw_below_drewN | apply below_drew1) | exact HB.out)) hb); clear HB; have HB := n0_; clear n0_; (try clear hb); (try clear hb2); (try clear hk); (try clear hi)))
                go_meet
                case rel => exact ⟨_, (true), (by first | rfl | (simp; done) | (simp [*]; done)), H', ⟨by first | omega | exact Nat.le_refl _⟩, ⟨by repeat (first | (with_reducible first | exact HB.out | apply below_alloc | apply pw_below_drewN | apply below_drew1) | exact HB.out)⟩⟩
            · replace c14 := Bool.eq_false_iff.mpr c14
              subst c14
              have H1 : (debenturelaw01_NatGcd.j0 k a0 a1 a2 true) = some r := by rw [if_neg (show ¬ (false = true) by decide)] at H; exact H
              clear H
              have H := H1
              clear H1
              have H' := Aside0.mk H
              clear H
              go_wp2_with (first | ((with_reducible refine gate_callee (f := 11) rfl ?_); refine goesL_ (some 14) rfl rfl Tryd.func11 (by kernel_rfl) rfl #[] rfl (by (try simp only [List.map_toArray, List.map_cons, List.map_nil]); first | done | rfl | (simp only [List.length_drop, List.length_take]; rfl)) ?_; (with_reducible refine (debenturelaw01_fixed.calls  true _ ?side1 A5.out).mono ?_); (case side1 => exact Laid.below HLD.out (by repeat (first | (with_reducible first | exact HB.out | apply below_alloc | apply pw_below_drewN | apply below_drew1) | exact HB.out))); rintro e w25 ⟨rfl, hb⟩; refine ⟨_, rfl, ?_⟩; have n0_ := Aside0.mk (below_step (by repeat (first | (with_reducible first | exact HB.out | apply below_alloc | apply pw_below_drewN | apply below_drew1) | exact HB.out)) hb); clear HB; have HB := n0_; clear n0_; (try clear hb); (try clear hb2); (try clear hk); (try clear hi)) | (go_at_call 19; (with_reducible refine (debentureref01_May.calls a0 false _ A13.out).mono ?_); rintro e w26 ⟨rfl, hb⟩; have n0_ := Aside0.mk (below_step (by repeat (first | (with_reducible first | exact HB.out | apply below_alloc | apply pw_below_drewN | apply below_drew1) | exact HB.out)) hb); clear HB; have HB := n0_; clear n0_; (try clear hb); (try clear hb2); (try clear hk); (try clear hi)))
              go_meet
              case rel => exact ⟨_, (true), (by first | rfl | (simp; done) | (simp [*]; done)), H', ⟨by first | omega | exact Nat.le_refl _⟩, ⟨by repeat (first | (with_reducible first | exact HB.out | apply below_alloc | apply pw_below_drewN | apply below_drew1) | exact HB.out)⟩⟩
    · replace c6 := Bool.eq_false_iff.mpr c6
      subst c6
      have H1 : (debenturelaw01_NatGcd.j0 k a0 a1 a2 true) = some r := by rw [if_neg (show ¬ (false = true) by decide)] at H; exact H
      clear H
      have H := H1
      clear H1
      have H' := Aside0.mk H
      clear H
      go_wp2_with (first | ((with_reducible refine gate_callee (f := 11) rfl ?_); refine goesL_ (some 14) rfl rfl Tryd.func11 (by kernel_rfl) rfl #[] rfl (by (try simp only [List.map_toArray, List.map_cons, List.map_nil]); first | done | rfl | (simp only [List.length_drop, List.length_take]; rfl)) ?_; (with_reducible refine (debenturelaw01_fixed.calls  false _ ?side1 A5.out).mono ?_); (case side1 => exact Laid.below HLD.out (by repeat (first | (with_reducible first | exact HB.out | apply below_alloc | apply pw_below_drewN | apply below_drew1) | exact HB.out))); rintro e w27 ⟨rfl, hb⟩; refine ⟨_, rfl, ?_⟩; have n0_ := Aside0.mk (below_step (by repeat (first | (with_reducible first | exact HB.out | apply below_alloc | apply pw_below_drewN | apply below_drew1) | exact HB.out)) hb); clear HB; have HB := n0_; clear n0_; (try clear hb); (try clear hb2); (try clear hk); (try clear hi)))
      go_meet
      case rel => exact ⟨_, (true), (by first | rfl | (simp; done) | (simp [*]; done)), H', ⟨by first | omega | exact Nat.le_refl _⟩, ⟨by repeat (first | (with_reducible first | exact HB.out | apply below_alloc | apply pw_below_drewN | apply below_drew1) | exact HB.out)⟩⟩
  case rest =>
    clear HC4
    try clear c1
    try clear p2
    try clear c6
    try clear c7
    try clear c7b0
    try clear c7b1
    try clear c9
    try clear c9b0
    try clear c9b1
    try clear c11
    try clear c11b0
    try clear c11b1
    try clear c14
    try clear c16
    obtain ⟨kq, x45_3, rfl, HA, HJ3, HB⟩ := hcut
    cases kq with
    | zero => exact absurd HA.out (by simp [debenturelaw01_NatGcd.j0])
    | succ kj3 =>
      have H := HA.out
      clear HA
      simp only [debenturelaw01_NatGcd.j0] at H
      by_cases c28 : x45_3 = true
      · subst c28
        have H1 : ((debenturelaw01_fixed.f).bind fun t105 => (some t105)) = some r := by rw [if_pos rfl] at H; exact H
        clear H
        have H := H1
        clear H1
        replace H := Option.bind_eq_some_iff.mp H
        obtain ⟨t105, A290, H⟩ := H
        replace H : (some t105) = some r := H
        have A29 := Aside0.mk A290
        clear A290
        obtain rfl := Option.some.inj H
        go_wp2_with (first | ((with_reducible refine gate_callee (f := 11) rfl ?_); refine goesL_ (some 46) rfl rfl Tryd.func11 (by kernel_rfl) rfl #[] rfl (by (try simp only [List.map_toArray, List.map_cons, List.map_nil]); first | done | rfl | (simp only [List.length_drop, List.length_take]; rfl)) ?_; (with_reducible refine (debenturelaw01_fixed.calls  t105 _ ?side1 A29.out).mono ?_); (case side1 => exact Laid.below HLD.out (by repeat (first | (with_reducible first | exact HB.out | apply below_alloc | apply pw_below_drewN | apply below_drew1) | exact HB.out))); rintro e w30 ⟨rfl, hb⟩; refine ⟨_, rfl, ?_⟩; have n0_ := Aside0.mk (below_step (by repeat (first | (with_reducible first | exact HB.out | apply below_alloc | apply pw_below_drewN | apply below_drew1) | exact HB.out)) hb); clear HB; have HB := n0_; clear n0_; (try clear hb); (try clear hb2); (try clear hk); (try clear hi)))
        go_ret
        exact ⟨by first | rfl | (simp [errW_none, errW_some] <;> rfl) | (simp [*, errW_none, errW_some] <;> rfl), by repeat (first | (with_reducible first | exact HB.out | apply below_alloc | apply pw_below_drewN | apply below_drew1) | exact HB.out)⟩
      · replace c28 := Bool.eq_false_iff.mpr c28
        subst c28
        have H1 : ((nat_Gcd.f a0 a1).bind fun t106 => (if a0.toList = ([48] : List UInt8) then (debenturelaw01_NatGcd.j1 kj3 a0 a1 a2 t106 (a1.toList == ([48] : List UInt8))) else (debenturelaw01_NatGcd.j1 kj3 a0 a1 a2 t106 false))) = some r := by rw [if_neg (show ¬ (false = true) by decide)] at H; exact H
        clear H
        have H := H1
        clear H1
        replace H := Option.bind_eq_some_iff.mp H
        obtain ⟨t106, A310, H⟩ := H
        replace H : (if a0.toList = ([48] : List UInt8) then (debenturelaw01_NatGcd.j1 kj3 a0 a1 a2 t106 (a1.toList == ([48] : List UInt8))) else (debenturelaw01_NatGcd.j1 kj3 a0 a1 a2 t106 false)) = some r := H
        have A31 := Aside0.mk A310
        clear A310
        have HC32 := Aside0.mk H
        clear H
        go_upto_region 4 with (first | ((with_reducible refine gate_callee (f := 28) rfl ?_); refine goesL_ (some 49) rfl rfl Tryd.func28 (by kernel_rfl) rfl #[.string a0, .string a1] rfl (by (try simp only [List.map_toArray, List.map_cons, List.map_nil]); first | done | rfl | (simp only [List.length_drop, List.length_take]; rfl)) ?_; (with_reducible refine (nat_Gcd.calls a0 a1 t106 _ ?side1 A31.out).mono ?_); (case side1 => exact Laid.below HLD.out (by repeat (first | (with_reducible first | exact HB.out | apply below_alloc | apply pw_below_drewN | apply below_drew1) | exact HB.out))); rintro e w33 ⟨rfl, hb⟩; refine ⟨_, rfl, ?_⟩; have n0_ := Aside0.mk (below_step (by repeat (first | (with_reducible first | exact HB.out | apply below_alloc | apply pw_below_drewN | apply below_drew1) | exact HB.out)) hb); clear HB; have HB := n0_; clear n0_; (try clear hb); (try clear hb2); (try clear hk); (try clear hi)))
        (try simp only [Act.put, List.setIfInBounds_toArray, List.set_cons_zero, List.set_cons_succ])
        go_cut [55] (fun v55 wc => ∃ (kq : Nat) (x55_31 : Bool), v55 = .bool x55_31 ∧ Aside0 (debenturelaw01_NatGcd.j1 kq a0 a1 a2 t106 x55_31 = some r) ∧ Aside0 (kq ≤ kj3) ∧ Aside0 (Below w.heap.size w wc))
        case first =>
          have H := HC32.out
          clear HC32
          by_cases c34 : a0.toList = ([48] : List UInt8)
          · rw [if_pos c34] at H
            have c34b0 : (a0.toList == ([48] : List UInt8)) = true := beq_iff_eq.mpr c34
            have c34b1 : (a0.toList != ([48] : List UInt8)) = false := bne_eq_false_iff_eq.mpr c34
            clear c34
            (first | rw [c34b0] | (simp only [i64_w, i32_w]; rw [c34b0]) | skip)
            have H' := Aside0.mk H
            clear H
            go_wp2
            go_meet
            case rel => exact ⟨_, ((a1.toList == ([48] : List UInt8))), (by first | rfl | (simp; done) | (simp [*]; done)), H', ⟨by have := HJ3.out; first | omega | exact Nat.le_refl _⟩, ⟨by repeat (first | (with_reducible first | exact HB.out | apply below_alloc | apply pw_below_drewN | apply below_drew1) | exact HB.out)⟩⟩
          · rw [if_neg c34] at H
            have c34b0 : (a0.toList == ([48] : List UInt8)) = false := beq_eq_false_iff_ne.mpr c34
            have c34b1 : (a0.toList != ([48] : List UInt8)) = true := bne_iff_ne.mpr c34
            (first | rw [c34b0] | (simp only [i64_w, i32_w]; rw [c34b0]) | skip)
            have H' := Aside0.mk H
            clear H
            go_wp2
            go_meet
            case rel => exact ⟨_, (false), (by first | rfl | (simp; done) | (simp [*]; done)), H', ⟨by have := HJ3.out; first | omega | exact Nat.le_refl _⟩, ⟨by repeat (first | (with_reducible first | exact HB.out | apply below_alloc | apply pw_below_drewN | apply below_drew1) | exact HB.out)⟩⟩
        case rest =>
          clear HC32
          try clear c1
          try clear c2
          try clear p2
          try clear c3
          try clear c6
          try clear c7
          try clear c7b0
          try clear c7b1
          try clear c9
          try clear c9b0
          try clear c9b1
          try clear c11
          try clear c11b0
          try clear c11b1
          try clear c14
          try clear c16
          try clear c28
          try clear c34
          try clear c34b0
          try clear c34b1
          try clear p2
          obtain ⟨kq, x55_31, rfl, HA, HJ31, HB⟩ := hcut
          cases kq with
          | zero => exact absurd HA.out (by simp [debenturelaw01_NatGcd.j1])
          | succ kj31 =>
            have H := HA.out
            clear HA
            simp only [debenturelaw01_NatGcd.j1] at H
            by_cases c35 : x55_31 = true
            · subst c35
              have H1 : (some (t106.toList == ([48] : List UInt8))) = some r := by rw [if_pos rfl] at H; exact H
              clear H
              have H := H1
              clear H1
              obtain rfl := Option.some.inj H
              go_wp2
              go_ret
              exact ⟨by first | rfl | (simp [errW_none, errW_some] <;> rfl) | (simp [*, errW_none, errW_some] <;> rfl), by repeat (first | (with_reducible first | exact HB.out | apply below_alloc | apply pw_below_drewN | apply below_drew1) | exact HB.out)⟩
            · replace c35 := Bool.eq_false_iff.mpr c35
              subst c35
              have H1 : ((nat_Div.f a0 t106).bind fun bt107 => ((nat_Div.f a1 t106).bind fun bt110 => (if bt107.2.2 = true then (if bt110.2.2 = true then (if bt107.2.1.toList = ([48] : List UInt8) then (if bt110.2.1.toList = ([48] : List UInt8) then ((nat_Gcd.f bt107.1 bt110.1).bind fun t113 => (if t113.toList = ([49] : List UInt8) then ((nat_Gcd.f a1 a0).bind fun t114 => (if t114.toList = t106.toList then ((nat_Mul.f a0 a2).bind fun t115 => ((nat_Mul.f a1 a2).bind fun t116 => ((nat_Gcd.f t115 t116).bind fun t117 => ((nat_Mul.f t106 a2).bind fun t118 => (some (t117.toList == t118.toList)))))) else (some false))) else (some false))) else (some false)) else (some false)) else (some false)) else (some false)))) = some r := by rw [if_neg (show ¬ (false = true) by decide)] at H; exact H
              clear H
              have H := H1
              clear H1
              replace H := Option.bind_eq_some_iff.mp H
              obtain ⟨⟨t107, t108, t109⟩, A360, H⟩ := H
              replace H : ((nat_Div.f a1 t106).bind fun bt110 => (if t109 = true then (if bt110.2.2 = true then (if t108.toList = ([48] : List UInt8) then (if bt110.2.1.toList = ([48] : List UInt8) then ((nat_Gcd.f t107 bt110.1).bind fun t113 => (if t113.toList = ([49] : List UInt8) then ((nat_Gcd.f a1 a0).bind fun t114 => (if t114.toList = t106.toList then ((nat_Mul.f a0 a2).bind fun t115 => ((nat_Mul.f a1 a2).bind fun t116 => ((nat_Gcd.f t115 t116).bind fun t117 => ((nat_Mul.f t106 a2).bind fun t118 => (some (t117.toList == t118.toList)))))) else (some false))) else (some false))) else (some false)) else (some false)) else (some false)) else (some false))) = some r := H
              have A36 := Aside0.mk A360
              clear A360
              replace H := Option.bind_eq_some_iff.mp H
              obtain ⟨⟨t110, t111, t112⟩, A370, H⟩ := H
              replace H : (if t109 = true then (if t112 = true then (if t108.toList = ([48] : List UInt8) then (if t111.toList = ([48] : List UInt8) then ((nat_Gcd.f t107 t110).bind fun t113 => (if t113.toList = ([49] : List UInt8) then ((nat_Gcd.f a1 a0).bind fun t114 => (if t114.toList = t106.toList then ((nat_Mul.f a0 a2).bind fun t115 => ((nat_Mul.f a1 a2).bind fun t116 => ((nat_Gcd.f t115 t116).bind fun t117 => ((nat_Mul.f t106 a2).bind fun t118 => (some (t117.toList == t118.toList)))))) else (some false))) else (some false))) else (some false)) else (some false)) else (some false)) else (some false)) = some r := H
              have A37 := Aside0.mk A370
              clear A370
              by_cases c38 : t109 = true
              · subst c38
                have H1 : (if t112 = true then (if t108.toList = ([48] : List UInt8) then (if t111.toList = ([48] : List UInt8) then ((nat_Gcd.f t107 t110).bind fun t113 => (if t113.toList = ([49] : List UInt8) then ((nat_Gcd.f a1 a0).bind fun t114 => (if t114.toList = t106.toList then ((nat_Mul.f a0 a2).bind fun t115 => ((nat_Mul.f a1 a2).bind fun t116 => ((nat_Gcd.f t115 t116).bind fun t117 => ((nat_Mul.f t106 a2).bind fun t118 => (some (t117.toList == t118.toList)))))) else (some false))) else (some false))) else (some false)) else (some false)) else (some false)) = some r := by rw [if_pos rfl] at H; exact H
                clear H
                have H := H1
                clear H1
                by_cases c39 : t112 = true
                · subst c39
                  have H1 : (if t108.toList = ([48] : List UInt8) then (if t111.toList = ([48] : List UInt8) then ((nat_Gcd.f t107 t110).bind fun t113 => (if t113.toList = ([49] : List UInt8) then ((nat_Gcd.f a1 a0).bind fun t114 => (if t114.toList = t106.toList then ((nat_Mul.f a0 a2).bind fun t115 => ((nat_Mul.f a1 a2).bind fun t116 => ((nat_Gcd.f t115 t116).bind fun t117 => ((nat_Mul.f t106 a2).bind fun t118 => (some (t117.toList == t118.toList)))))) else (some false))) else (some false))) else (some false)) else (some false)) = some r := by rw [if_pos rfl] at H; exact H
                  clear H
                  have H := H1
                  clear H1
                  by_cases c40 : t108.toList = ([48] : List UInt8)
                  · rw [if_pos c40] at H
                    have c40b0 : (t108.toList == ([48] : List UInt8)) = true := beq_iff_eq.mpr c40
                    have c40b1 : (t108.toList != ([48] : List UInt8)) = false := bne_eq_false_iff_eq.mpr c40
                    clear c40
                    by_cases c41 : t111.toList = ([48] : List UInt8)
                    · rw [if_pos c41] at H
                      have c41b0 : (t111.toList == ([48] : List UInt8)) = true := beq_iff_eq.mpr c41
                      have c41b1 : (t111.toList != ([48] : List UInt8)) = false := bne_eq_false_iff_eq.mpr c41
                      clear c41
                      replace H := Option.bind_eq_some_iff.mp H
                      obtain ⟨t113, A420, H⟩ := H
                      replace H : (if t113.toList = ([49] : List UInt8) then ((nat_Gcd.f a1 a0).bind fun t114 => (if t114.toList = t106.toList then ((nat_Mul.f a0 a2).bind fun t115 => ((nat_Mul.f a1 a2).bind fun t116 => ((nat_Gcd.f t115 t116).bind fun t117 => ((nat_Mul.f t106 a2).bind fun t118 => (some (t117.toList == t118.toList)))))) else (some false))) else (some false)) = some r := H
                      have A42 := Aside0.mk A420
                      clear A420
                      by_cases c43 : t113.toList = ([49] : List UInt8)
                      · rw [if_pos c43] at H
                        have c43b0 : (t113.toList == ([49] : List UInt8)) = true := beq_iff_eq.mpr c43
                        have c43b1 : (t113.toList != ([49] : List UInt8)) = false := bne_eq_false_iff_eq.mpr c43
                        clear c43
                        replace H := Option.bind_eq_some_iff.mp H
                        obtain ⟨t114, A440, H⟩ := H
                        replace H : (if t114.toList = t106.toList then ((nat_Mul.f a0 a2).bind fun t115 => ((nat_Mul.f a1 a2).bind fun t116 => ((nat_Gcd.f t115 t116).bind fun t117 => ((nat_Mul.f t106 a2).bind fun t118 => (some (t117.toList == t118.toList)))))) else (some false)) = some r := H
                        have A44 := Aside0.mk A440
                        clear A440
                        by_cases c45 : t114.toList = t106.toList
                        · rw [if_pos c45] at H
                          have c45b0 : (t114.toList == t106.toList) = true := beq_iff_eq.mpr c45
                          have c45b1 : (t114.toList != t106.toList) = false := bne_eq_false_iff_eq.mpr c45
                          clear c45
                          replace H := Option.bind_eq_some_iff.mp H
                          obtain ⟨t115, A460, H⟩ := H
                          replace H : ((nat_Mul.f a1 a2).bind fun t116 => ((nat_Gcd.f t115 t116).bind fun t117 => ((nat_Mul.f t106 a2).bind fun t118 => (some (t117.toList == t118.toList))))) = some r := H
                          have A46 := Aside0.mk A460
                          clear A460
                          replace H := Option.bind_eq_some_iff.mp H
                          obtain ⟨t116, A470, H⟩ := H
                          replace H : ((nat_Gcd.f t115 t116).bind fun t117 => ((nat_Mul.f t106 a2).bind fun t118 => (some (t117.toList == t118.toList)))) = some r := H
                          have A47 := Aside0.mk A470
                          clear A470
                          replace H := Option.bind_eq_some_iff.mp H
                          obtain ⟨t117, A480, H⟩ := H
                          replace H : ((nat_Mul.f t106 a2).bind fun t118 => (some (t117.toList == t118.toList))) = some r := H
                          have A48 := Aside0.mk A480
                          clear A480
                          replace H := Option.bind_eq_some_iff.mp H
                          obtain ⟨t118, A490, H⟩ := H
                          replace H : (some (t117.toList == t118.toList)) = some r := H
                          have A49 := Aside0.mk A490
                          clear A490
                          obtain rfl := Option.some.inj H
                          go_wp2_with (first | ((with_reducible refine gate_callee (f := 14) rfl ?_); refine goesL_ (some 61) rfl rfl Tryd.func14 (by kernel_rfl) rfl #[.string a0, .string t106] rfl (by (try simp only [List.map_toArray, List.map_cons, List.map_nil]); first | done | rfl | (simp only [List.length_drop, List.length_take]; rfl)) ?_; (with_reducible refine (nat_Div.calls a0 t106 t107 t108 true _ ?side1 A36.out).mono ?_); (case side1 => exact Laid.below HLD.out (by repeat (first | (with_reducible first | exact HB.out | apply below_alloc | apply pw_below_drewN | apply below_drew1) | exact HB.out))); rintro e w50 ⟨rfl, hb⟩; refine ⟨_, rfl, ?_⟩; have n0_ := Aside0.mk (below_step (by repeat (first | (with_reducible first | exact HB.out | apply below_alloc | apply pw_below_drewN | apply below_drew1) | exact HB.out)) hb); clear HB; have HB := n0_; clear n0_; (try clear hb); (try clear hb2); (try clear hk); (try clear hi)) | ((with_reducible refine gate_callee (f := 14) rfl ?_); refine goesL_ (some 68) rfl rfl Tryd.func14 (by kernel_rfl) rfl #[.string a1, .string t106] rfl (by (try simp only [List.map_toArray, List.map_cons, List.map_nil]); first | done | rfl | (simp only [List.length_drop, List.length_take]; rfl)) ?_; (with_reducible refine (nat_Div.calls a1 t106 t110 t111 true _ ?side1 A37.out).mono ?_); (case side1 => exact Laid.below HLD.out (by repeat (first | (with_reducible first | exact HB.out | apply below_alloc | apply pw_below_drewN | apply below_drew1) | exact HB.out))); rintro e w51 ⟨rfl, hb⟩; refine ⟨_, rfl, ?_⟩; have n0_ := Aside0.mk (below_step (by repeat (first | (with_reducible first | exact HB.out | apply below_alloc | apply pw_below_drewN | apply below_drew1) | exact HB.out)) hb); clear HB; have HB := n0_; clear n0_; (try clear hb); (try clear hb2); (try clear hk); (try clear hi)) | (go_at_call 28; (with_reducible refine (nat_Gcd.calls t107 t110 t113 _ ?side1 A42.out).mono ?_); (case side1 => exact Laid.below HLD.out (by repeat (first | (with_reducible first | exact HB.out | apply below_alloc | apply pw_below_drewN | apply below_drew1) | exact HB.out))); rintro e w52 ⟨rfl, hb⟩; have n0_ := Aside0.mk (below_step (by repeat (first | (with_reducible first | exact HB.out | apply below_alloc | apply pw_below_drewN | apply below_drew1) | exact HB.out)) hb); clear HB; have HB := n0_; clear n0_; (try clear hb); (try clear hb2); (try clear hk); (try clear hi)) | (go_at_call 28; (with_reducible refine (nat_Gcd.calls a1 a0 t114 _ ?side1 A44.out).mono ?_); (case side1 => exact Laid.below HLD.out (by repeat (first | (with_reducible first | exact HB.out | apply below_alloc | apply pw_below_drewN | apply below_drew1) | exact HB.out))); rintro e w53 ⟨rfl, hb⟩; have n0_ := Aside0.mk (below_step (by repeat (first | (with_reducible first | exact HB.out | apply below_alloc | apply pw_below_drewN | apply below_drew1) | exact HB.out)) hb); clear HB; have HB := n0_; clear n0_; (try clear hb); (try clear hb2); (try clear hk); (try clear hi)) | (go_at_call 26; (with_reducible refine (nat_Mul.calls a0 a2 t115 _ ?side1 A46.out).mono ?_); (case side1 => exact Laid.below HLD.out (by repeat (first | (with_reducible first | exact HB.out | apply below_alloc | apply pw_below_drewN | apply below_drew1) | exact HB.out))); rintro e w54 ⟨rfl, hb⟩; have n0_ := Aside0.mk (below_step (by repeat (first | (with_reducible first | exact HB.out | apply below_alloc | apply pw_below_drewN | apply below_drew1) | exact HB.out)) hb); clear HB; have HB := n0_; clear n0_; (try clear hb); (try clear hb2); (try clear hk); (try clear hi)) | (go_at_call 26; (with_reducible refine (nat_Mul.calls a1 a2 t116 _ ?side1 A47.out).mono ?_); (case side1 => exact Laid.below HLD.out (by repeat (first | (with_reducible first | exact HB.out | apply below_alloc | apply pw_below_drewN | apply below_drew1) | exact HB.out))); rintro e w55 ⟨rfl, hb⟩; have n0_ := Aside0.mk (below_step (by repeat (first | (with_reducible first | exact HB.out | apply below_alloc | apply pw_below_drewN | apply below_drew1) | exact HB.out)) hb); clear HB; have HB := n0_; clear n0_; (try clear hb); (try clear hb2); (try clear hk); (try clear hi)) | (go_at_call 28; (with_reducible refine (nat_Gcd.calls t115 t116 t117 _ ?side1 A48.out).mono ?_); (case side1 => exact Laid.below HLD.out (by repeat (first | (with_reducible first | exact HB.out | apply below_alloc | apply pw_below_drewN | apply below_drew1) | exact HB.out))); rintro e w56 ⟨rfl, hb⟩; have n0_ := Aside0.mk (below_step (by repeat (first | (with_reducible first | exact HB.out | apply below_alloc | apply pw_below_drewN | apply below_drew1) | exact HB.out)) hb); clear HB; have HB := n0_; clear n0_; (try clear hb); (try clear hb2); (try clear hk); (try clear hi)) | (go_at_call 26; (with_reducible refine (nat_Mul.calls t106 a2 t118 _ ?side1 A49.out).mono ?_); (case side1 => exact Laid.below HLD.out (by repeat (first | (with_reducible first | exact HB.out | apply below_alloc | apply pw_below_drewN | apply below_drew1) | exact HB.out))); rintro e w57 ⟨rfl, hb⟩; have n0_ := Aside0.mk (below_step (by repeat (first | (with_reducible first | exact HB.out | apply below_alloc | apply pw_below_drewN | apply below_drew1) | exact HB.out)) hb); clear HB; have HB := n0_; clear n0_; (try clear hb); (try clear hb2); (try clear hk); (try clear hi)))
                          go_ret
                          exact ⟨by first | rfl | (simp [errW_none, errW_some] <;> rfl) | (simp [*, errW_none, errW_some] <;> rfl), by repeat (first | (with_reducible first | exact HB.out | apply below_alloc | apply pw_below_drewN | apply below_drew1) | exact HB.out)⟩
                        · rw [if_neg c45] at H
                          have c45b0 : (t114.toList == t106.toList) = false := beq_eq_false_iff_ne.mpr c45
                          have c45b1 : (t114.toList != t106.toList) = true := bne_iff_ne.mpr c45
                          exact absurd (H.trans (congrArg some hr_.out)) (by decide)
                      · rw [if_neg c43] at H
                        have c43b0 : (t113.toList == ([49] : List UInt8)) = false := beq_eq_false_iff_ne.mpr c43
                        have c43b1 : (t113.toList != ([49] : List UInt8)) = true := bne_iff_ne.mpr c43
                        exact absurd (H.trans (congrArg some hr_.out)) (by decide)
                    · rw [if_neg c41] at H
                      have c41b0 : (t111.toList == ([48] : List UInt8)) = false := beq_eq_false_iff_ne.mpr c41
                      have c41b1 : (t111.toList != ([48] : List UInt8)) = true := bne_iff_ne.mpr c41
                      exact absurd (H.trans (congrArg some hr_.out)) (by decide)
                  · rw [if_neg c40] at H
                    have c40b0 : (t108.toList == ([48] : List UInt8)) = false := beq_eq_false_iff_ne.mpr c40
                    have c40b1 : (t108.toList != ([48] : List UInt8)) = true := bne_iff_ne.mpr c40
                    exact absurd (H.trans (congrArg some hr_.out)) (by decide)
                · replace c39 := Bool.eq_false_iff.mpr c39
                  subst c39
                  have H1 : (some false) = some r := by rw [if_neg (show ¬ (false = true) by decide)] at H; exact H
                  clear H
                  have H := H1
                  clear H1
                  exact absurd (H.trans (congrArg some hr_.out)) (by decide)
              · replace c38 := Bool.eq_false_iff.mpr c38
                subst c38
                have H1 : (some false) = some r := by rw [if_neg (show ¬ (false = true) by decide)] at H; exact H
                clear H
                have H := H1
                clear H1
                exact absurd (H.trans (congrArg some hr_.out)) (by decide)
end Go.Proofs.YtmcpiejgneegjaaDoor.LNatGcd

end

/-
The law NatGcd, told by numbers.
-/
section
set_option linter.unusedVariables false
namespace Go.Proofs.YtmcpiejgneegjaaDoor
open Go.RowKit Go.Proofs.YtmcpiejgneegjaaDoorW.PrintWords Go.Proofs.YtmcpiejgneegjaaDoorW.PrintLast Go.Proofs.YtmcpiejgneegjaaDoorW.PrintMore

theorem pureNatGcd (a0 a1 a2 : ByteArray) (w0 : a0.size ≤ 140737488351232) (w1 : a1.size ≤ 140737488351232) (w2 : a2.size ≤ 140737488351232) : ∃ k, LNatGcd.debenturelaw01_NatGcd.f k a0 a1 a2 = some true := by
  refine ⟨3, ?_⟩
  unfold LNatGcd.debenturelaw01_NatGcd.f debenturelaw01_fixed.f
  have hj : LNatGcd.debenturelaw01_NatGcd.j0 3 a0 a1 a2 true = some true := by
    simp only [LNatGcd.debenturelaw01_NatGcd.j0]
    rfl
  rw [Option.bind_some, if_pos rfl]
  by_cases z0 : (a0.size : Int) > 100
  · rw [if_pos z0]; exact hj
  by_cases z1 : (a1.size : Int) > 100
  · rw [if_neg z0, if_pos z1]; exact hj
  by_cases z2 : (a2.size : Int) > 100
  · rw [if_neg z0, if_neg z1, if_pos z2]; exact hj
  rw [if_neg z0, if_neg z1, if_neg z2, rMay (by omega), Option.bind_some]
  by_cases m0 : mayB a0 = true
  · rw [if_pos m0, rMay (by omega), Option.bind_some]
    by_cases m1 : mayB a1 = true
    · rw [if_pos m1, rMay (by omega), Option.bind_some]
      by_cases m2 : mayB a2 = true
      · obtain ⟨m, rfl, e0⟩ := of_may m0
        obtain ⟨n, rfl, e1⟩ := of_may m1
        obtain ⟨p, rfl, e2⟩ := of_may m2
        rw [m2]
        have key : LNatGcd.debenturelaw01_NatGcd.j1 2 (natB m) (natB n) (natB p) (natB (Nat.gcd m n)) (decide (m = 0) && decide (n = 0)) = some true := by
          simp only [LNatGcd.debenturelaw01_NatGcd.j1]
          by_cases hz : m = 0 ∧ n = 0
          · rw [decide_eq_true hz.1, decide_eq_true hz.2, if_pos (by rfl), hz.1, hz.2, natB_beq_zero]
            rfl
          · have hg : 0 < Nat.gcd m n := by
              rcases Nat.eq_zero_or_pos m with h | h
              · exact Nat.gcd_pos_of_pos_right _ (by omega)
              · exact Nat.gcd_pos_of_pos_left _ h
            have hgs : sz (Nat.gcd m n) ≤ sz m + sz n := by
              rcases Nat.eq_zero_or_pos m with h | h
              · have := sz_mono (Nat.gcd_le_right m (show 0 < n by omega))
                omega
              · have := sz_mono (Nat.gcd_le_left n h)
                omega
            have d1 := Nat.gcd_dvd_left m n
            have d2 := Nat.gcd_dvd_right m n
            have e3 : Nat.gcd (m / Nat.gcd m n) (n / Nat.gcd m n) = 1 := by
              rw [Nat.gcd_div d1 d2, Nat.div_self hg]
            have s1 := sz_mono (Nat.div_le_self m (Nat.gcd m n))
            have s2 := sz_mono (Nat.div_le_self n (Nat.gcd m n))
            have s3 := sz_mul m p
            have s4 := sz_mul n p
            rw [if_neg (by rw [Bool.and_eq_true, decide_eq_true_eq, decide_eq_true_eq]; exact hz), fDiv (by omega) (by omega) (by omega), Option.bind_some, fDiv (by omega) (by omega) (by omega), Option.bind_some, if_pos (by rfl), if_pos (by rfl), if_pos (natB_toList_zero.2 (Nat.mod_eq_zero_of_dvd d1)), if_pos (natB_toList_zero.2 (Nat.mod_eq_zero_of_dvd d2)),
              fGcd (by omega) (by omega), Option.bind_some, if_pos (natB_toList_one.2 e3), fGcd (by omega) (by omega), Option.bind_some, if_pos (natB_toList_inj.2 (Nat.gcd_comm n m)), fMul (by omega) (by omega), Option.bind_some, fMul (by omega) (by omega), Option.bind_some, fGcd (by omega) (by omega), Option.bind_some, fMul (by omega) (by omega), Option.bind_some, natB_beq, decide_eq_true (Nat.gcd_mul_right m p n)]
        simp only [LNatGcd.debenturelaw01_NatGcd.j0]
        rw [if_neg (by decide), fGcd (by omega) (by omega), Option.bind_some]
        by_cases hm : m = 0
        · rw [if_pos (natB_toList_zero.2 hm), natB_beq_zero]
          rw [decide_eq_true hm, Bool.true_and] at key
          exact key
        · rw [if_neg (fun e => hm (natB_toList_zero.1 e))]
          rw [decide_eq_false hm, Bool.false_and] at key
          exact key
      · rw [(Bool.not_eq_true _).mp m2]
        exact hj
    · rw [if_neg m1]
      exact hj
  · rw [if_neg m0]
    exact hj
end Go.Proofs.YtmcpiejgneegjaaDoor

end

/-
The law NatGcd holds at every input: its row, and its card, tied to the program's text.
Conditions: none beyond the given row's own.
-/
section
namespace Go.Proofs.YtmcpiejgneegjaaDoor.natGcd
open Go.ChangeShapes Go.WideShapes Go.ChangeAt Go.RowKit
open Go.ChangeMaps (open_string shut_string)
set_option linter.unusedVariables false
set_option maxRecDepth 100000 in
theorem lifted (os : Os) (started : os.Started) (H : Type) (enc : TypeId × Value → H) :
    ReturnsInHanded {} Tryd.checked os 6 .any (fun w args => (Rows.natGcdSpec.pre enc Tryd.prog Tryd.f6 Rows.natGcdRow.domain false w args ∧ laidMetH Tryd.prog laidL w) ∧ sizedMet enc Tryd.prog Tryd.f6 (OpenSpec.ofChange Rows.natGcdSpec) false w args)
      (Rows.natGcdSpec.post enc Tryd.prog Tryd.f6 false true false false) := by
  refine returnsInHanded_of_change_and (C := Tryd.checked) (X := fun w _ => laidMetH Tryd.prog laidL w) (fun _ _ _ hh h => h.of_heap hh) own started (by kernel_rfl) Tryd.func6
    (ChangeSpec.witness_shaped (enc := enc) (C := Tryd.checked) (os := os) (X := fun w _ => laidMetH Tryd.prog laidL w) false (World.doorLaid Tryd.prog 4000 os) #[.string ByteArray.empty, .string ByteArray.empty, .string ByteArray.empty] 8 rfl (World.shaped_of_RefB (by kernel_rfl) (by kernel_rfl)) (by kernel_rfl) (by kernel_rfl) (by kernel_rfl) (door_met os _)) ?_
  intro W base args ds gs before hval0 hW _ hsz0 hL _
  have hsz : (DataW.weightsEach Tryd.prog (Tryd.f6.params.toList ++ Rows.natGcdSpec.plain.varTypes Tryd.prog) (ds ++ gs)).all (· ≤ reachBytes) = true := hsz0
  have hval : ∀ (j : Nat) t v, Tryd.f6.params[j]? = some t → args[j]? = some v → Value.okWide Tryd.prog W .any base t v := hval0
  have hW' := hW
  obtain ⟨p, q, hA0, hV, rfl, hfz, hnd⟩ := hW
  have hA : DataW.TrodAll enc Tryd.prog W 0 (fun _ => true) true Tryd.f6.params.toList args.toList ds p := hA0
  rw [Tryd.params6] at hA hval hsz
  obtain ⟨v0, vs0, d0, ds0, p0, q0, hargs, rfl, rfl, h0, r0⟩ := trodAll_cons hA
  obtain ⟨v1, vs1, d1, ds1, p1, q1, rfl, rfl, rfl, h1, r1⟩ := trodAll_cons r0
  obtain ⟨v2, vs2, d2, ds2, p2, q2, rfl, rfl, rfl, h2, r2⟩ := trodAll_cons r1
  obtain ⟨rfl, rfl, rfl⟩ := trodAll_nil r2
  obtain rfl : args = #[v0, v1, v2] := by cases args; simp_all
  obtain ⟨rfl, rfl⟩ := trodVars_none hV
  obtain ⟨a0, rfl, rfl, rfl, y0⟩ := open_string Tryd.underlying9 (hval 0 9 v0 rfl rfl) h0
  have w0 : a0.size ≤ 140737488351232 := by
    have z := sized_string hsz (j := 0) (t := 9) rfl rfl
    rw [Array.length_toList] at z
    exact z
  obtain ⟨a1, rfl, rfl, rfl, y1⟩ := open_string Tryd.underlying9 (hval 1 9 v1 rfl rfl) h1
  have w1 : a1.size ≤ 140737488351232 := by
    have z := sized_string hsz (j := 1) (t := 9) rfl rfl
    rw [Array.length_toList] at z
    exact z
  obtain ⟨a2, rfl, rfl, rfl, y2⟩ := open_string Tryd.underlying9 (hval 2 9 v2 rfl rfl) h2
  have w2 : a2.size ≤ 140737488351232 := by
    have z := sized_string hsz (j := 2) (t := 9) rfl rfl
    rw [Array.length_toList] at z
    exact z
  clear hA0 hval0 hsz0 hsz
  obtain ⟨k, hf⟩ := pureNatGcd a0 a1 a2 w0 w1 w2
  refine (LNatGcd.debenturelaw01_NatGcd.calls k a0 a1 a2 true W (laid_of hL) ⟨rfl⟩ hf).mono fun e W' ⟨he, bel⟩ => ?_
  subst he
  exact ⟨_, rfl, _, _, _, [], _, [], hW', trodAll_mk1 (shut_bool Tryd.underlying4 _), (trodAll_cons_mk (shut_string Tryd.underlying9 y0) (trodAll_cons_mk (shut_string Tryd.underlying9 y1) (trodAll_cons_mk (shut_string Tryd.underlying9 y2) trodAll_mk0))), rfl, bel.frame _, fun h => by cases h⟩
theorem over : Rows.NatGcdSaid :=
  OpenClaim.holds_of_wide 6 Tryd.f6 rfl rfl rfl rfl rfl rfl rfl ⟨rfl, rfl, rfl, rfl, rfl⟩ rfl rfl rfl rfl rfl (by kernel_rfl) Tryd.func6 (by kernel_rfl)
    (of_decide_eq_true (by kernel_rfl)) (by unfold Func.isWrapper; first | (rw [if_pos (by decide +kernel)]; kernel_rfl) | (rw [if_neg (by decide +kernel)]; exact ⟨rfl, rfl⟩))
    (fun os started H enc _ => lifted os started H enc)
theorem proved : Rows.NatGcdCardSaid :=
  Claim7.holds_tied_plain_at .later [] [.data, .data, .data, .sentinel, .sentinel] true (true, "d5ab43be80e0f9512f94eeafcac67ad3748b237780a8a3f2ad52dc7fafa3345f") true
    over (fun _ h => by cases h) (by kernel_rfl) (fun _ h => by cases h) natGcd_row_tie rfl ⟨rfl, rfl⟩ (by kernel_rfl) rfl
    (fun f fn hf hfn => by
      obtain rfl : f = 6 := Option.some.inj ((show Tryd.prog.funcNamed "debenture/debenturelaw01.NatGcd" = some 6 by kernel_rfl).symm.trans hf) |>.symm
      obtain rfl : fn = Tryd.f6 := (Option.some.inj (Tryd.func6.symm.trans hfn)).symm
      exact ⟨by kernel_rfl, fun j t ht => by
        rw [Tryd.params6] at ht
        have hm : t ∈ [9, 9, 9] := by simpa using Array.mem_of_getElem? ht
        have hall : ([9, 9, 9].all fun u => !Tryd.prog.wantsStandIn u) = true := by kernel_rfl
        exact (show Tryd.prog.wantsStandIn t = false by simpa using List.all_eq_true.1 hall t hm)⟩)
    (by kernel_rfl)
end Go.Proofs.YtmcpiejgneegjaaDoor.natGcd
namespace Go.Proofs.YtmcpiejgneegjaaDoor
/-- The card, under a short name, for the claim. -/
theorem natGcd_holds : Rows.NatGcdCardSaid := natGcd.proved
#print axioms natGcd_holds
end Go.Proofs.YtmcpiejgneegjaaDoor

end
