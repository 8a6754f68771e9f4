/-
The law NatTens holds at every input: its row, and its card, tied to the program's text. Conditions: none beyond the given row's own.
Parts of the proof, in build order: PuBase, LNatTens0, LNatTens1, PuNatTens, RowNatTens.
-/
import Derived.Test.YtmcpiejgneegjaaDoorC5
import Derived.Test.YtmcpiejgneegjaaDoorProg
import Derived.Below
import Derived.Deep.Draws
import Derived.Deep.AppendLies
import Derived.Maps.AppendAt
import Derived.OwnWalk
import Derived.Laws.BytesArg
import Derived.Laws.MakeOwn
import Derived.Laws.OwnMore
import Derived.Deep.OwnRows
import Derived.Tactics
import Derived.Lib.ConvBytes
import Derived.Laws.Slices
import Derived.WalkKit
import Derived.KernelRfl
import Derived.RowKit3
import Derived.Deep.LoopGhost
import Derived.Deep.QuietTactic
import Derived.BigQuiet
import Derived.WideLaws
import Derived.Deep.DeepCutAuto
import Derived.Deep.CutBlock
import Derived.Deep.RegionHeld3
import Derived.Laws.Rows
import Derived.Lib.AppendStr
import Derived.ArgAppend
import Derived.Laws.IdiomCopy
import Derived.OrdersHeld
import Derived.Laws.BitsLemmas
import Derived.RowKit
import Derived.Test.YtmcpiejgneegjaaDoorC0
import Derived.Test.YtmcpiejgneegjaaDoorTie
import Derived.Test.YtmcpiejgneegjaaDoorCards
import Derived.SevenTiedAt
/-
What the laws of naturals share.
-/
section
set_option linter.unusedVariables false
namespace Go.Proofs.YtmcpiejgneegjaaDoor
open Go.RowKit Go.Proofs.YtmcpiejgneegjaaDoorW.PrintWords Go.Proofs.YtmcpiejgneegjaaDoorW.PrintLast Go.Proofs.YtmcpiejgneegjaaDoorW.PrintMore

theorem shorts3 {a b c : ByteArray} : debentureref01_Short.f [a, b, c] = some (shortT a && (shortT b && shortT c)) := by
  rw [rShort (by simp)]
  simp [List.all_cons]
theorem shorts2 {a b : ByteArray} : debentureref01_Short.f [a, b] = some (shortT a && shortT b) := by
  rw [rShort (by simp)]
  simp [List.all_cons]
theorem cmpI_cases (m n : Nat) : (m < n ∧ Lib.compareInt (m : Int) (n : Int) = -1 ∧ Lib.compareInt (n : Int) (m : Int) = 1) ∨ (m = n ∧ Lib.compareInt (m : Int) (n : Int) = 0 ∧ Lib.compareInt (n : Int) (m : Int) = 0) ∨ (n < m ∧ Lib.compareInt (m : Int) (n : Int) = 1 ∧ Lib.compareInt (n : Int) (m : Int) = -1) := by
  rcases Nat.lt_trichotomy m n with h | h | h
  · exact .inl ⟨h, cmpI_lt h, cmpI_gt h⟩
  · exact .inr (.inl ⟨h, cmpI_eq h, cmpI_eq h.symm⟩)
  · exact .inr (.inr ⟨h, cmpI_gt h, cmpI_lt h⟩)

theorem wf_i64 {n : Int} (h : (Lit.int .i64 n).wf = true) : -9223372036854775808 ≤ n ∧ n ≤ 9223372036854775807 := by
  have e1 : IntKind.i64.min = -9223372036854775808 := rfl
  have e2 : IntKind.i64.max = 9223372036854775807 := rfl
  simp [Lit.wf, e1, e2] at h
  exact h
theorem bne_same {α : Type} [BEq α] [LawfulBEq α] (a : α) : ¬ (a != a) = true := by simp

end Go.Proofs.YtmcpiejgneegjaaDoor

end

-- Written by wip/pp.py of this place (over the kit's print) out of the translation.
section
namespace Go.Proofs.YtmcpiejgneegjaaDoor.LNatTens
open Go.RowKit Go.Proofs.YtmcpiejgneegjaaDoorW.PrintWords Go.Proofs.YtmcpiejgneegjaaDoorW.PrintLast Go.Proofs.YtmcpiejgneegjaaDoorW.PrintMore
attribute [local go_sem] max2_int min2_int max_two min_two max_three min_three max_four min_four   -- for this text's walks alone
set_option linter.unusedVariables false
set_option linter.unusedSimpArgs false



def errW : Option Int → Value
  | none => .nilIface
  | some c => .iface 0 (.int .i64 c)
theorem errW_none : errW none = .nilIface := rfl
theorem errW_some (c : Int) : errW (some c) = .iface 0 (.int .i64 c) := rfl

-- the values' own types

end Go.Proofs.YtmcpiejgneegjaaDoor.LNatTens

end

-- Written by wip/pp.py of this place (over the kit's print) out of the translation.
section
namespace Go.Proofs.YtmcpiejgneegjaaDoor.LNatTens
open Go.RowKit Go.Proofs.YtmcpiejgneegjaaDoorW.PrintWords Go.Proofs.YtmcpiejgneegjaaDoorW.PrintLast Go.Proofs.YtmcpiejgneegjaaDoorW.PrintMore
attribute [local go_sem] max2_int min2_int max_two min_two max_three min_three max_four min_four   -- for this text's walks alone
set_option linter.unusedVariables false
set_option linter.unusedSimpArgs false

-- walked by hand: function 11 (debenturelaw01_fixed)

-- walked by hand: function 14 (nat_Div)

-- walked by hand: function 19 (debentureref01_May)

-- walked by hand: function 24 (nat_Add)

-- walked by hand: function 26 (nat_Mul)

/-! ### debenturelaw01_NatTens: function 8 -/
mutual
def debenturelaw01_NatTens.j0 : Nat → ByteArray → Int → Bool → Option (Bool)
  | 0, _, _, _ => none
  | k + 1, x0, x1, x34 => if x34 = true then ((debenturelaw01_fixed.f).bind fun t103 => (some t103)) else (debenturelaw01_NatTens.l0 k x0 x1 (⟨#[49]⟩ : ByteArray) (⟨#[]⟩ : ByteArray) 0)
def debenturelaw01_NatTens.l0 : Nat → ByteArray → Int → ByteArray → ByteArray → Int → Option (Bool)
  | 0, _, _, _, _, _ => none
  | k + 1, x0, x1, x5, x6, x7 => if x7 < x1 then (if x5.size + 1 ≤ 9223372036854775807 then (if x6.size + 1 ≤ 9223372036854775807 then (debenturelaw01_NatTens.l0 k x0 x1 (x5 ++ (⟨#[48]⟩ : ByteArray)) (x6 ++ (⟨#[48]⟩ : ByteArray)) (wrap64 (x7 + 1))) else (none)) else (none)) else ((nat_Div.f x0 x5).bind fun bt104 => ((nat_Mul.f x0 x5).bind fun t107 => (if x0.size + x6.size ≤ 9223372036854775807 then (if t107.toList = (x0 ++ x6).toList then (debenturelaw01_NatTens.j2 k x0 x1 x5 bt104.1 bt104.2.1 (!bt104.2.2)) else (debenturelaw01_NatTens.j2 k x0 x1 x5 bt104.1 bt104.2.1 true)) else (none))))
def debenturelaw01_NatTens.j2 : Nat → ByteArray → Int → ByteArray → ByteArray → ByteArray → Bool → Option (Bool)
  | 0, _, _, _, _, _, _ => none
  | k + 1, x0, x1, x5, x8, x9, x62 => if x62 = true then (some false) else (if (x0.size : Int) ≤ x1 then (if x8.toList = ([48] : List UInt8) then (some (x9.toList == x0.toList)) else (some false)) else (if 0 ≤ (wrap64 ((x0.size : Int) - x1)) then (if (wrap64 ((x0.size : Int) - x1)) ≤ (x0.size : Int) then (if x8.toList = (x0.extract 0 ((wrap64 ((x0.size : Int) - x1)) : Int).toNat).toList then (if (x9.size : Int) ≤ (mx x1 1) then ((nat_Mul.f x8 x5).bind fun t108 => ((nat_Add.f t108 x9).bind fun t109 => (some (t109.toList == x0.toList)))) else (some false)) else (some false)) else (none)) else (none)))
end
def debenturelaw01_NatTens.f (k : Nat) (a0 : ByteArray) (a1 : Int) : Option (Bool) := (debenturelaw01_fixed.f).bind fun t101 => (if t101 = true then (if (a0.size : Int) > 200 then (debenturelaw01_NatTens.j0 k a0 a1 true) else ((debentureref01_May.f a0).bind fun t102 => (if t102 = true then (if a0.toList = ([48] : List UInt8) then (debenturelaw01_NatTens.j0 k a0 a1 true) else (if a1 < 0 then (debenturelaw01_NatTens.j0 k a0 a1 true) else (debenturelaw01_NatTens.j0 k a0 a1 (decide (a1 > 100))))) else (debenturelaw01_NatTens.j0 k a0 a1 true)))) else (debenturelaw01_NatTens.j0 k a0 a1 true))
theorem debenturelaw01_NatTens.mono_l : ∀ k, (∀ y0 y1 y2, LeO (debenturelaw01_NatTens.j0 k y0 y1 y2) (debenturelaw01_NatTens.j0 (k + 1) y0 y1 y2)) ∧ (∀ y0 y1 y2 y3 y4, LeO (debenturelaw01_NatTens.l0 k y0 y1 y2 y3 y4) (debenturelaw01_NatTens.l0 (k + 1) y0 y1 y2 y3 y4)) ∧ (∀ y0 y1 y2 y3 y4 y5, LeO (debenturelaw01_NatTens.j2 k y0 y1 y2 y3 y4 y5) (debenturelaw01_NatTens.j2 (k + 1) y0 y1 y2 y3 y4 y5))
  | 0 => ⟨fun _ _ _ r h => by simp [debenturelaw01_NatTens.j0] at h, fun _ _ _ _ _ r h => by simp [debenturelaw01_NatTens.l0] at h, fun _ _ _ _ _ _ r h => by simp [debenturelaw01_NatTens.j2] at h⟩
  | k + 1 => by
    obtain ⟨ih0, ih1, ih2⟩ := debenturelaw01_NatTens.mono_l k
    refine ⟨?_, ?_, ?_⟩
    · intro y0 y1 y2
      unfold debenturelaw01_NatTens.j0
      repeat' first
      | (with_reducible exact ih0 _ _ _)
      | (with_reducible exact ih1 _ _ _ _ _)
      | (with_reducible exact ih2 _ _ _ _ _ _)
      | (with_reducible exact LeO.refl _)
      | (with_reducible exact LeO.none _)
      | (with_reducible refine LeO.ite ?_ ?_)
      | (with_reducible refine LeO.bind ?_ (fun _ => ?_))
      | exact ih0 _ _ _
      | exact ih1 _ _ _ _ _
      | exact ih2 _ _ _ _ _ _
      | exact LeO.none _
      | refine LeO.ite ?_ ?_
      | refine LeO.bind ?_ (fun _ => ?_)
    · intro y0 y1 y2 y3 y4
      unfold debenturelaw01_NatTens.l0
      repeat' first
      | (with_reducible exact ih0 _ _ _)
      | (with_reducible exact ih1 _ _ _ _ _)
      | (with_reducible exact ih2 _ _ _ _ _ _)
      | (with_reducible exact LeO.refl _)
      | (with_reducible exact LeO.none _)
      | (with_reducible refine LeO.ite ?_ ?_)
      | (with_reducible refine LeO.bind ?_ (fun _ => ?_))
      | exact ih0 _ _ _
      | exact ih1 _ _ _ _ _
      | exact ih2 _ _ _ _ _ _
      | exact LeO.none _
      | refine LeO.ite ?_ ?_
      | refine LeO.bind ?_ (fun _ => ?_)
    · intro y0 y1 y2 y3 y4 y5
      unfold debenturelaw01_NatTens.j2
      repeat' first
      | (with_reducible exact ih0 _ _ _)
      | (with_reducible exact ih1 _ _ _ _ _)
      | (with_reducible exact ih2 _ _ _ _ _ _)
      | (with_reducible exact LeO.refl _)
      | (with_reducible exact LeO.none _)
      | (with_reducible refine LeO.ite ?_ ?_)
      | (with_reducible refine LeO.bind ?_ (fun _ => ?_))
      | exact ih0 _ _ _
      | exact ih1 _ _ _ _ _
      | exact ih2 _ _ _ _ _ _
      | exact LeO.none _
      | refine LeO.ite ?_ ?_
      | refine LeO.bind ?_ (fun _ => ?_)
theorem debenturelaw01_NatTens.mono : ∀ a0 a1 k, LeO (debenturelaw01_NatTens.f k a0 a1) (debenturelaw01_NatTens.f (k + 1) a0 a1) := by
  intro a0 a1 k
  obtain ⟨ih0, ih1, ih2⟩ := debenturelaw01_NatTens.mono_l k
  unfold debenturelaw01_NatTens.f
  repeat' first
      | (with_reducible exact ih0 _ _ _)
      | (with_reducible exact ih1 _ _ _ _ _)
      | (with_reducible exact ih2 _ _ _ _ _ _)
      | (with_reducible exact LeO.refl _)
      | (with_reducible exact LeO.none _)
      | (with_reducible refine LeO.ite ?_ ?_)
      | (with_reducible refine LeO.bind ?_ (fun _ => ?_))
      | exact ih0 _ _ _
      | exact ih1 _ _ _ _ _
      | exact ih2 _ _ _ _ _ _
      | exact LeO.none _
      | refine LeO.ite ?_ ?_
      | refine LeO.bind ?_ (fun _ => ?_)
set_option maxHeartbeats 8000000 in
set_option maxRecDepth 100000 in
theorem debenturelaw01_NatTens.calls (k : Nat) (a0 : ByteArray) (a1 : Int) (r : Bool) (w : World) (hL_ : Laid w) (hr_ : Aside0 (r = true)) (h : debenturelaw01_NatTens.f k a0 a1 = some r) :
    Calls Tryd.prog 8 #[.string a0, .int .i64 a1] w fun e w' => e = .returned (.bool r) ∧ Below w.heap.size w w' := by
  have HLD := Aside0.mk hL_
  clear hL_
  have HB := Aside0.mk (Below.refl w.heap.size w)
  have H : ((debenturelaw01_fixed.f).bind fun t101 => (if t101 = true then (if (a0.size : Int) > 200 then (debenturelaw01_NatTens.j0 k a0 a1 true) else ((debentureref01_May.f a0).bind fun t102 => (if t102 = true then (if a0.toList = ([48] : List UInt8) then (debenturelaw01_NatTens.j0 k a0 a1 true) else (if a1 < 0 then (debenturelaw01_NatTens.j0 k a0 a1 true) else (debenturelaw01_NatTens.j0 k a0 a1 (decide (a1 > 100))))) else (debenturelaw01_NatTens.j0 k a0 a1 true)))) else (debenturelaw01_NatTens.j0 k a0 a1 true))) = some r := h
  clear h
  have HC3 := Aside0.mk H
  clear H
  go_enter Tryd.func8, Tryd.ntmps8
  go_upto_region 1 with (fail)
  go_cut [34] (fun v34 wc => ∃ (kq : Nat) (x34_2 : Bool), v34 = .bool x34_2 ∧ Aside0 (debenturelaw01_NatTens.j0 kq a0 a1 x34_2 = some r) ∧ Aside0 (kq ≤ k) ∧ Aside0 (Below w.heap.size w wc))
  case first =>
    have H := HC3.out
    clear HC3
    replace H := Option.bind_eq_some_iff.mp H
    obtain ⟨t101, A40, H⟩ := H
    replace H : (if t101 = true then (if (a0.size : Int) > 200 then (debenturelaw01_NatTens.j0 k a0 a1 true) else ((debentureref01_May.f a0).bind fun t102 => (if t102 = true then (if a0.toList = ([48] : List UInt8) then (debenturelaw01_NatTens.j0 k a0 a1 true) else (if a1 < 0 then (debenturelaw01_NatTens.j0 k a0 a1 true) else (debenturelaw01_NatTens.j0 k a0 a1 (decide (a1 > 100))))) else (debenturelaw01_NatTens.j0 k a0 a1 true)))) else (debenturelaw01_NatTens.j0 k a0 a1 true)) = some r := H
    have A4 := Aside0.mk A40
    clear A40
    by_cases c5 : t101 = true
    · subst c5
      have H1 : (if (a0.size : Int) > 200 then (debenturelaw01_NatTens.j0 k a0 a1 true) else ((debentureref01_May.f a0).bind fun t102 => (if t102 = true then (if a0.toList = ([48] : List UInt8) then (debenturelaw01_NatTens.j0 k a0 a1 true) else (if a1 < 0 then (debenturelaw01_NatTens.j0 k a0 a1 true) else (debenturelaw01_NatTens.j0 k a0 a1 (decide (a1 > 100))))) else (debenturelaw01_NatTens.j0 k a0 a1 true)))) = some r := by rw [if_pos rfl] at H; exact H
      clear H
      have H := H1
      clear H1
      by_cases c6 : (a0.size : Int) > 200
      · rw [if_pos c6] at H
        have c6b0 : decide (200 < (a0.size : Int)) = true := decide_eq_true c6
        have c6b1 : decide (200 < a0.size) = true := decide_eq_true (by omega)
        clear c6
        (first | rw [c6b0] | (simp only [i64_w, i32_w]; rw [c6b0]) | skip)
        have H' := Aside0.mk H
        clear H
        go_wp2_with (first | ((with_reducible refine gate_callee (f := 11) rfl ?_); refine goesL_ (some 11) rfl rfl Tryd.func11 (by kernel_rfl) rfl #[] rfl (by (try simp only [List.map_toArray, List.map_cons, List.map_nil]); first | done | rfl | (simp only [List.length_drop, List.length_take]; rfl)) ?_; (with_reducible refine (debenturelaw01_fixed.calls  true _ ?side1 A4.out).mono ?_); (case side1 => exact Laid.below HLD.out (by repeat (first | (with_reducible first | exact HB.out | apply below_alloc | apply pw_below_drewN | apply below_drew1) | exact HB.out))); rintro e w7 ⟨rfl, hb⟩; refine ⟨_, rfl, ?_⟩; have n0_ := Aside0.mk (below_step (by repeat (first | (with_reducible first | exact HB.out | apply below_alloc | apply pw_below_drewN | apply below_drew1) | exact HB.out)) hb); clear HB; have HB := n0_; clear n0_; (try clear hb); (try clear hb2); (try clear hk); (try clear hi)))
        go_meet
        case rel => exact ⟨_, (true), (by first | rfl | (simp; done) | (simp [*]; done)), H', ⟨by first | omega | exact Nat.le_refl _⟩, ⟨by repeat (first | (with_reducible first | exact HB.out | apply below_alloc | apply pw_below_drewN | apply below_drew1) | exact HB.out)⟩⟩
      · rw [if_neg c6] at H
        have c6b0 : decide (200 < (a0.size : Int)) = false := decide_eq_false c6
        have c6b1 : decide (200 < a0.size) = false := decide_eq_false (by omega)
        clear c6
        (first | rw [c6b0] | (simp only [i64_w, i32_w]; rw [c6b0]) | skip)
        replace H := Option.bind_eq_some_iff.mp H
        obtain ⟨t102, A80, H⟩ := H
        replace H : (if t102 = true then (if a0.toList = ([48] : List UInt8) then (debenturelaw01_NatTens.j0 k a0 a1 true) else (if a1 < 0 then (debenturelaw01_NatTens.j0 k a0 a1 true) else (debenturelaw01_NatTens.j0 k a0 a1 (decide (a1 > 100))))) else (debenturelaw01_NatTens.j0 k a0 a1 true)) = some r := H
        have A8 := Aside0.mk A80
        clear A80
        by_cases c9 : t102 = true
        · subst c9
          have H1 : (if a0.toList = ([48] : List UInt8) then (debenturelaw01_NatTens.j0 k a0 a1 true) else (if a1 < 0 then (debenturelaw01_NatTens.j0 k a0 a1 true) else (debenturelaw01_NatTens.j0 k a0 a1 (decide (a1 > 100))))) = some r := by rw [if_pos rfl] at H; exact H
          clear H
          have H := H1
          clear H1
          by_cases c10 : a0.toList = ([48] : List UInt8)
          · rw [if_pos c10] at H
            have c10b0 : (a0.toList == ([48] : List UInt8)) = true := beq_iff_eq.mpr c10
            have c10b1 : (a0.toList != ([48] : List UInt8)) = false := bne_eq_false_iff_eq.mpr c10
            clear c10
            have H' := Aside0.mk H
            clear H
            go_wp2_with (first | ((with_reducible refine gate_callee (f := 11) rfl ?_); refine goesL_ (some 11) rfl rfl Tryd.func11 (by kernel_rfl) rfl #[] rfl (by (try simp only [List.map_toArray, List.map_cons, List.map_nil]); first | done | rfl | (simp only [List.length_drop, List.length_take]; rfl)) ?_; (with_reducible refine (debenturelaw01_fixed.calls  true _ ?side1 A4.out).mono ?_); (case side1 => exact Laid.below HLD.out (by repeat (first | (with_reducible first | exact HB.out | apply below_alloc | apply pw_below_drewN | apply below_drew1) | exact HB.out))); rintro e w11 ⟨rfl, hb⟩; refine ⟨_, rfl, ?_⟩; have n0_ := Aside0.mk (below_step (by repeat (first | (with_reducible first | exact HB.out | apply below_alloc | apply pw_below_drewN | apply below_drew1) | exact HB.out)) hb); clear HB; have HB := n0_; clear n0_; (try clear hb); (try clear hb2); (try clear hk); (try clear hi)) | (go_at_call 19; (with_reducible refine (debentureref01_May.calls a0 true _ A8.out).mono ?_); rintro e w12 ⟨rfl, hb⟩; have n0_ := Aside0.mk (below_step (by repeat (first | (with_reducible first | exact HB.out | apply below_alloc | apply pw_below_drewN | apply below_drew1) | exact HB.out)) hb); clear HB; have HB := n0_; clear n0_; (try clear hb); (try clear hb2); (try clear hk); (try clear hi)))
            go_meet
            case rel => exact ⟨_, (true), (by first | rfl | (simp; done) | (simp [*]; done)), H', ⟨by first | omega | exact Nat.le_refl _⟩, ⟨by repeat (first | (with_reducible first | exact HB.out | apply below_alloc | apply pw_below_drewN | apply below_drew1) | exact HB.out)⟩⟩
          · rw [if_neg c10] at H
            have c10b0 : (a0.toList == ([48] : List UInt8)) = false := beq_eq_false_iff_ne.mpr c10
            have c10b1 : (a0.toList != ([48] : List UInt8)) = true := bne_iff_ne.mpr c10
            by_cases c13 : a1 < 0
            · rw [if_pos c13] at H
              have c13b0 : decide (a1 < 0) = true := decide_eq_true c13
              clear c13
              have H' := Aside0.mk H
              clear H
              go_wp2_with (first | ((with_reducible refine gate_callee (f := 11) rfl ?_); refine goesL_ (some 11) rfl rfl Tryd.func11 (by kernel_rfl) rfl #[] rfl (by (try simp only [List.map_toArray, List.map_cons, List.map_nil]); first | done | rfl | (simp only [List.length_drop, List.length_take]; rfl)) ?_; (with_reducible refine (debenturelaw01_fixed.calls  true _ ?side1 A4.out).mono ?_); (case side1 => exact Laid.below HLD.out (by repeat (first | (with_reducible first | exact HB.out | apply below_alloc | apply pw_below_drewN | apply below_drew1) | exact HB.out))); rintro e w14 ⟨rfl, hb⟩; refine ⟨_, rfl, ?_⟩; have n0_ := Aside0.mk (below_step (by repeat (first | (with_reducible first | exact HB.out | apply below_alloc | apply pw_below_drewN | apply below_drew1) | exact HB.out)) hb); clear HB; have HB := n0_; clear n0_; (try clear hb); (try clear hb2); (try clear hk); (try clear hi)) | (go_at_call 19; (with_reducible refine (debentureref01_May.calls a0 true _ A8.out).mono ?_); rintro e w15 ⟨rfl, hb⟩; have n0_ := Aside0.mk (below_step (by repeat (first | (with_reducible first | exact HB.out | apply below_alloc | apply pw_below_drewN | apply below_drew1) | exact HB.out)) hb); clear HB; have HB := n0_; clear n0_; (try clear hb); (try clear hb2); (try clear hk); (try clear hi)))
              go_meet
              case rel => exact ⟨_, (true), (by first | rfl | (simp; done) | (simp [*]; done)), H', ⟨by first | omega | exact Nat.le_refl _⟩, ⟨by repeat (first | (with_reducible first | exact HB.out | apply below_alloc | apply pw_below_drewN | apply below_drew1) | exact HB.out)⟩⟩
            · rw [if_neg c13] at H
              have c13b0 : decide (a1 < 0) = false := decide_eq_false c13
              clear c13
              have H' := Aside0.mk H
              clear H
              go_wp2_with (first | ((with_reducible refine gate_callee (f := 11) rfl ?_); refine goesL_ (some 11) rfl rfl Tryd.func11 (by kernel_rfl) rfl #[] rfl (by (try simp only [List.map_toArray, List.map_cons, List.map_nil]); first | done | rfl | (simp only [List.length_drop, List.length_take]; rfl)) ?_; (with_reducible refine (debenturelaw01_fixed.calls  true _ ?side1 A4.out).mono ?_); (case side1 => exact Laid.below HLD.out (by repeat (first | (with_reducible first | exact HB.out | apply below_alloc | apply pw_below_drewN | apply below_drew1) | exact HB.out))); rintro e w16 ⟨rfl, hb⟩; refine ⟨_, rfl, ?_⟩; have n0_ := Aside0.mk (below_step (by repeat (first | (with_reducible first | exact HB.out | apply below_alloc | apply pw_below_drewN | apply below_drew1) | exact HB.out)) hb); clear HB; have HB := n0_; clear n0_; (try clear hb); (try clear hb2); (try clear hk); (try clear hi)) | (go_at_call 19; (with_reducible refine (debentureref01_May.calls a0 true _ A8.out).mono ?_); rintro e w17 ⟨rfl, hb⟩; have n0_ := Aside0.mk (below_step (by repeat (first | (with_reducible first | exact HB.out | apply below_alloc | apply pw_below_drewN | apply below_drew1) | exact HB.out)) hb); clear HB; have HB := n0_; clear n0_; (try clear hb); (try clear hb2); (try clear hk); (try clear hi)))
              go_meet
              case rel => exact ⟨_, (decide (a1 > 100)), (by first | rfl | (simp; done) | (simp [*]; done)), H', ⟨by first | omega | exact Nat.le_refl _⟩, ⟨by repeat (first | (with_reducible first | exact HB.out | apply below_alloc | apply pw_below_drewN | apply below_drew1) | exact HB.out)⟩⟩
        · replace c9 := Bool.eq_false_iff.mpr c9
          subst c9
          have H1 : (debenturelaw01_NatTens.j0 k a0 a1 true) = some r := by rw [if_neg (show ¬ (false = true) by decide)] at H; exact H
          clear H
          have H := H1
          clear H1
          have H' := Aside0.mk H
          clear H
          go_wp2_with (first | ((with_reducible refine gate_callee (f := 11) rfl ?_); refine goesL_ (some 11) rfl rfl Tryd.func11 (by kernel_rfl) rfl #[] rfl (by (try simp only [List.map_toArray, List.map_cons, List.map_nil]); first | done | rfl | (simp only [List.length_drop, List.length_take]; rfl)) ?_; (with_reducible refine (debenturelaw01_fixed.calls  true _ ?side1 A4.out).mono ?_); (case side1 => exact Laid.below HLD.out (by repeat (first | (with_reducible first | exact HB.out | apply below_alloc | apply pw_below_drewN | apply below_drew1) | exact HB.out))); rintro e w18 ⟨rfl, hb⟩; refine ⟨_, rfl, ?_⟩; have n0_ := Aside0.mk (below_step (by repeat (first | (with_reducible first | exact HB.out | apply below_alloc | apply pw_below_drewN | apply below_drew1) | exact HB.out)) hb); clear HB; have HB := n0_; clear n0_; (try clear hb); (try clear hb2); (try clear hk); (try clear hi)) | (go_at_call 19; (with_reducible refine (debentureref01_May.calls a0 false _ A8.out).mono ?_); rintro e w19 ⟨rfl, hb⟩; have n0_ := Aside0.mk (below_step (by repeat (first | (with_reducible first | exact HB.out | apply below_alloc | apply pw_below_drewN | apply below_drew1) | exact HB.out)) hb); clear HB; have HB := n0_; clear n0_; (try clear hb); (try clear hb2); (try clear hk); (try clear hi)))
          go_meet
          case rel => exact ⟨_, (true), (by first | rfl | (simp; done) | (simp [*]; done)), H', ⟨by first | omega | exact Nat.le_refl _⟩, ⟨by repeat (first | (with_reducible first | exact HB.out | apply below_alloc | apply pw_below_drewN | apply below_drew1) | exact HB.out)⟩⟩
    · replace c5 := Bool.eq_false_iff.mpr c5
      subst c5
      have H1 : (debenturelaw01_NatTens.j0 k a0 a1 true) = some r := by rw [if_neg (show ¬ (false = true) by decide)] at H; exact H
      clear H
      have H := H1
      clear H1
      have H' := Aside0.mk H
      clear H
      go_wp2_with (first | ((with_reducible refine gate_callee (f := 11) rfl ?_); refine goesL_ (some 11) rfl rfl Tryd.func11 (by kernel_rfl) rfl #[] rfl (by (try simp only [List.map_toArray, List.map_cons, List.map_nil]); first | done | rfl | (simp only [List.length_drop, List.length_take]; rfl)) ?_; (with_reducible refine (debenturelaw01_fixed.calls  false _ ?side1 A4.out).mono ?_); (case side1 => exact Laid.below HLD.out (by repeat (first | (with_reducible first | exact HB.out | apply below_alloc | apply pw_below_drewN | apply below_drew1) | exact HB.out))); rintro e w20 ⟨rfl, hb⟩; refine ⟨_, rfl, ?_⟩; have n0_ := Aside0.mk (below_step (by repeat (first | (with_reducible first | exact HB.out | apply below_alloc | apply pw_below_drewN | apply below_drew1) | exact HB.out)) hb); clear HB; have HB := n0_; clear n0_; (try clear hb); (try clear hb2); (try clear hk); (try clear hi)))
      go_meet
      case rel => exact ⟨_, (true), (by first | rfl | (simp; done) | (simp [*]; done)), H', ⟨by first | omega | exact Nat.le_refl _⟩, ⟨by repeat (first | (with_reducible first | exact HB.out | apply below_alloc | apply pw_below_drewN | apply below_drew1) | exact HB.out)⟩⟩
  case rest =>
    clear HC3
    try clear c1
    try clear p2
    try clear c5
    try clear c6
    try clear c6b0
    try clear c6b1
    try clear c8
    try clear c9
    try clear c10
    try clear c10b0
    try clear c10b1
    try clear c11
    try clear c13
    try clear c13b0
    obtain ⟨kq, x34_2, rfl, HA, HJ2, HB⟩ := hcut
    cases kq with
    | zero => exact absurd HA.out (by simp [debenturelaw01_NatTens.j0])
    | succ kj2 =>
      have H := HA.out
      clear HA
      simp only [debenturelaw01_NatTens.j0] at H
      by_cases c21 : x34_2 = true
      · subst c21
        have H1 : ((debenturelaw01_fixed.f).bind fun t103 => (some t103)) = some r := by rw [if_pos rfl] at H; exact H
        clear H
        have H := H1
        clear H1
        replace H := Option.bind_eq_some_iff.mp H
        obtain ⟨t103, A220, H⟩ := H
        replace H : (some t103) = some r := H
        have A22 := Aside0.mk A220
        clear A220
        obtain rfl := Option.some.inj H
        go_wp2_with (first | ((with_reducible refine gate_callee (f := 11) rfl ?_); refine goesL_ (some 35) rfl rfl Tryd.func11 (by kernel_rfl) rfl #[] rfl (by (try simp only [List.map_toArray, List.map_cons, List.map_nil]); first | done | rfl | (simp only [List.length_drop, List.length_take]; rfl)) ?_; (with_reducible refine (debenturelaw01_fixed.calls  t103 _ ?side1 A22.out).mono ?_); (case side1 => exact Laid.below HLD.out (by repeat (first | (with_reducible first | exact HB.out | apply below_alloc | apply pw_below_drewN | apply below_drew1) | exact HB.out))); rintro e w23 ⟨rfl, hb⟩; refine ⟨_, rfl, ?_⟩; have n0_ := Aside0.mk (below_step (by repeat (first | (with_reducible first | exact HB.out | apply below_alloc | apply pw_below_drewN | apply below_drew1) | exact HB.out)) hb); clear HB; have HB := n0_; clear n0_; (try clear hb); (try clear hb2); (try clear hk); (try clear hi)))
        go_ret
        exact ⟨by first | rfl | (simp [errW_none, errW_some] <;> rfl) | (simp [*, errW_none, errW_some] <;> rfl), by repeat (first | (with_reducible first | exact HB.out | apply below_alloc | apply pw_below_drewN | apply below_drew1) | exact HB.out)⟩
      · replace c21 := Bool.eq_false_iff.mpr c21
        subst c21
        have H1 : (debenturelaw01_NatTens.l0 kj2 a0 a1 (⟨#[49]⟩ : ByteArray) (⟨#[]⟩ : ByteArray) 0) = some r := by rw [if_neg (show ¬ (false = true) by decide)] at H; exact H
        clear H
        have H := H1
        clear H1
        have H' := Aside0.mk H
        clear H
        go_wp2
        go_loopg [5, 6, 7] kj2 (fun kq v5 v6 v7 w' => ∃ (x5_2 : ByteArray) (x6_2 : ByteArray) (x7_2 : Int), v5 = .string x5_2 ∧ v6 = .string x6_2 ∧ v7 = .int .i64 x7_2 ∧ Aside0 (debenturelaw01_NatTens.l0 kq a0 a1 x5_2 x6_2 x7_2 = some r) ∧ Aside0 (kq ≤ kj2) ∧ Aside0 (Below w.heap.size w w'))
        case atStart => exact ⟨((⟨#[49]⟩ : ByteArray)), ((⟨#[]⟩ : ByteArray)), (0), (by first | rfl | (simp; done) | (simp [*]; done)), (by first | rfl | (simp; done) | (simp [*]; done)), (by first | rfl | (simp; done) | (simp [*]; done)), H', ⟨Nat.le_refl _⟩, ⟨by repeat (first | (with_reducible first | exact HB.out | apply below_alloc | apply pw_below_drewN | apply below_drew1) | exact HB.out)⟩⟩
        case round =>
          clear H'
          try clear c1
          try clear c2
          try clear p2
          try clear c5
          try clear c6
          try clear c6b0
          try clear c6b1
          try clear c8
          try clear c9
          try clear c10
          try clear c10b0
          try clear c10b1
          try clear c11
          try clear c13
          try clear c13b0
          try clear c21
          try clear p2
          obtain ⟨x5_2, x6_2, x7_2, rfl, rfl, rfl, HA, HK2, HB⟩ := hrel
          cases gk with
          | zero => exact absurd HA.out (by simp [debenturelaw01_NatTens.l0])
          | succ k2 =>
            have H := HA.out
            clear HA
            simp only [debenturelaw01_NatTens.l0] at H
            by_cases c24 : x7_2 < a1
            · rw [if_pos c24] at H
              have c24b0 : decide (x7_2 < a1) = true := decide_eq_true c24
              clear c24
              by_cases c25 : x5_2.size + 1 ≤ 9223372036854775807
              · rw [if_pos c25] at H
                have c25b0 := eq_true c25
                have c25b1 : decide (x5_2.size + 1 ≤ 9223372036854775807) = true := decide_eq_true c25
                try have c25b2 : (9223372036854775807 < x5_2.size + 1) = False := eq_false (Nat.not_lt.2 c25)
                by_cases c26 : x6_2.size + 1 ≤ 9223372036854775807
                · rw [if_pos c26] at H
                  have c26b0 := eq_true c26
                  have c26b1 : decide (x6_2.size + 1 ≤ 9223372036854775807) = true := decide_eq_true c26
                  try have c26b2 : (9223372036854775807 < x6_2.size + 1) = False := eq_false (Nat.not_lt.2 c26)
                  have H' := Aside0.mk H
                  clear H
                  go_wp2
                  go_roundg k2
                  case measure => have := HJ2.out; have := HK2.out; omega
                  case rel => exact ⟨(x5_2 ++ (⟨#[48]⟩ : ByteArray)), (x6_2 ++ (⟨#[48]⟩ : ByteArray)), (wrap64 (x7_2 + 1)), (by first | rfl | (simp; done) | (simp [*]; done)), (by first | rfl | (simp; done) | (simp [*]; done)), (by first | rfl | (simp; done) | (simp [*]; done)), H', ⟨by have := HJ2.out; have := HK2.out; omega⟩, ⟨by repeat (first | (with_reducible first | exact HB.out | apply below_alloc | apply pw_below_drewN | apply below_drew1) | exact HB.out)⟩⟩
                · rw [if_neg c26] at H
                  exact absurd H (by simp)
              · rw [if_neg c25] at H
                exact absurd H (by simp)
            · rw [if_neg c24] at H
              have c24b0 : decide (x7_2 < a1) = false := decide_eq_false c24
              clear c24
              replace H := Option.bind_eq_some_iff.mp H
              obtain ⟨⟨t104, t105, t106⟩, A270, H⟩ := H
              replace H : ((nat_Mul.f a0 x5_2).bind fun t107 => (if a0.size + x6_2.size ≤ 9223372036854775807 then (if t107.toList = (a0 ++ x6_2).toList then (debenturelaw01_NatTens.j2 k2 a0 a1 x5_2 t104 t105 (!t106)) else (debenturelaw01_NatTens.j2 k2 a0 a1 x5_2 t104 t105 true)) else (none))) = some r := H
              have A27 := Aside0.mk A270
              clear A270
              have HC28 := Aside0.mk H
              clear H
              go_upto_region 11 with (first | ((with_reducible refine gate_callee (f := 14) rfl ?_); refine goesL_ (some 48) rfl rfl Tryd.func14 (by kernel_rfl) rfl #[.string a0, .string x5_2] rfl (by (try simp only [List.map_toArray, List.map_cons, List.map_nil]); first | done | rfl | (simp only [List.length_drop, List.length_take]; rfl)) ?_; (with_reducible refine (nat_Div.calls a0 x5_2 t104 t105 t106 _ ?side1 A27.out).mono ?_); (case side1 => exact Laid.below HLD.out (by repeat (first | (with_reducible first | exact HB.out | apply below_alloc | apply pw_below_drewN | apply below_drew1) | exact HB.out))); rintro e w29 ⟨rfl, hb⟩; refine ⟨_, rfl, ?_⟩; have n0_ := Aside0.mk (below_step (by repeat (first | (with_reducible first | exact HB.out | apply below_alloc | apply pw_below_drewN | apply below_drew1) | exact HB.out)) hb); clear HB; have HB := n0_; clear n0_; (try clear hb); (try clear hb2); (try clear hk); (try clear hi)))
              (try simp only [Act.put, List.setIfInBounds_toArray, List.set_cons_zero, List.set_cons_succ])
              go_cut [62] (fun v62 wc => ∃ (kq : Nat) (x62_27 : Bool), v62 = .bool x62_27 ∧ Aside0 (debenturelaw01_NatTens.j2 kq a0 a1 x5_2 t104 t105 x62_27 = some r) ∧ Aside0 (kq ≤ k2) ∧ Aside0 (Below w.heap.size w wc))
              case first =>
                have H := HC28.out
                clear HC28
                replace H := Option.bind_eq_some_iff.mp H
                obtain ⟨t107, A300, H⟩ := H
                replace H : (if a0.size + x6_2.size ≤ 9223372036854775807 then (if t107.toList = (a0 ++ x6_2).toList then (debenturelaw01_NatTens.j2 k2 a0 a1 x5_2 t104 t105 (!t106)) else (debenturelaw01_NatTens.j2 k2 a0 a1 x5_2 t104 t105 true)) else (none)) = some r := H
                have A30 := Aside0.mk A300
                clear A300
                by_cases c31 : a0.size + x6_2.size ≤ 9223372036854775807
                · rw [if_pos c31] at H
                  have c31b0 := eq_true c31
                  have c31b1 : decide (a0.size + x6_2.size ≤ 9223372036854775807) = true := decide_eq_true c31
                  try have c31b2 : (9223372036854775807 < a0.size + x6_2.size) = False := eq_false (Nat.not_lt.2 c31)
                  by_cases c32 : t107.toList = (a0 ++ x6_2).toList
                  · rw [if_pos c32] at H
                    have c32b0 : (t107.toList == (a0 ++ x6_2).toList) = true := beq_iff_eq.mpr c32
                    have c32b1 : (t107.toList != (a0 ++ x6_2).toList) = false := bne_eq_false_iff_eq.mpr c32
                    clear c32
                    (first | rw [c32b0] | (simp only [i64_w, i32_w]; rw [c32b0]) | skip)
                    have H' := Aside0.mk H
                    clear H
                    go_wp2_with (first | ((with_reducible refine gate_callee (f := 26) rfl ?_); refine goesL_ (some 54) rfl rfl Tryd.func26 (by kernel_rfl) rfl #[.string a0, .string x5_2] rfl (by (try simp only [List.map_toArray, List.map_cons, List.map_nil]); first | done | rfl | (simp only [List.length_drop, List.length_take]; rfl)) ?_; (with_reducible refine (nat_Mul.calls a0 x5_2 t107 _ ?side1 A30.out).mono ?_); (case side1 => exact Laid.below HLD.out (by repeat (first | (with_reducible first | exact HB.out | apply below_alloc | apply pw_below_drewN | apply below_drew1) | exact HB.out))); rintro e w33 ⟨rfl, hb⟩; refine ⟨_, rfl, ?_⟩; have n0_ := Aside0.mk (below_step (by repeat (first | (with_reducible first | exact HB.out | apply below_alloc | apply pw_below_drewN | apply below_drew1) | exact HB.out)) hb); clear HB; have HB := n0_; clear n0_; (try clear hb); (try clear hb2); (try clear hk); (try clear hi)))
                    go_meet
                    case rel => exact ⟨_, (!t106), (by first | rfl | (simp; done) | (simp [*]; done)), H', ⟨by have := HJ2.out; have := HK2.out; first | omega | exact Nat.le_refl _⟩, ⟨by repeat (first | (with_reducible first | exact HB.out | apply below_alloc | apply pw_below_drewN | apply below_drew1) | exact HB.out)⟩⟩
                  · rw [if_neg c32] at H
                    have c32b0 : (t107.toList == (a0 ++ x6_2).toList) = false := beq_eq_false_iff_ne.mpr c32
                    have c32b1 : (t107.toList != (a0 ++ x6_2).toList) = true := bne_iff_ne.mpr c32
                    (first | rw [c32b0] | (simp only [i64_w, i32_w]; rw [c32b0]) | skip)
                    have H' := Aside0.mk H
                    clear H
                    go_wp2_with (first | ((with_reducible refine gate_callee (f := 26) rfl ?_); refine goesL_ (some 54) rfl rfl Tryd.func26 (by kernel_rfl) rfl #[.string a0, .string x5_2] rfl (by (try simp only [List.map_toArray, List.map_cons, List.map_nil]); first | done | rfl | (simp only [List.length_drop, List.length_take]; rfl)) ?_; (with_reducible refine (nat_Mul.calls a0 x5_2 t107 _ ?side1 A30.out).mono ?_); (case side1 => exact Laid.below HLD.out (by repeat (first | (with_reducible first | exact HB.out | apply below_alloc | apply pw_below_drewN | apply below_drew1) | exact HB.out))); rintro e w34 ⟨rfl, hb⟩; refine ⟨_, rfl, ?_⟩; have n0_ := Aside0.mk (below_step (by repeat (first | (with_reducible first | exact HB.out | apply below_alloc | apply pw_below_drewN | apply below_drew1) | exact HB.out)) hb); clear HB; have HB := n0_; clear n0_; (try clear hb); (try clear hb2); (try clear hk); (try clear hi)))
                    go_meet
                    case rel => exact ⟨_, (true), (by first | rfl | (simp; done) | (simp [*]; done)), H', ⟨by have := HJ2.out; have := HK2.out; first | omega | exact Nat.le_refl _⟩, ⟨by repeat (first | (with_reducible first | exact HB.out | apply below_alloc | apply pw_below_drewN | apply below_drew1) | exact HB.out)⟩⟩
                · rw [if_neg c31] at H
                  exact absurd H (by simp)
              case rest =>
                clear HC28
                try clear c1
                try clear c2
                try clear p2
                try clear c3
                try clear c5
                try clear c6
                try clear c6b0
                try clear c6b1
                try clear p6
                try clear c8
                try clear c9
                try clear c10
                try clear c10b0
                try clear c10b1
                try clear c11
                try clear c13
                try clear c13b0
                try clear c14
                try clear c21
                try clear c24
                try clear c24b0
                try clear c25
                try clear c25b0
                try clear c25b1
                try clear c25b2
                try clear c26
                try clear c26b0
                try clear c26b1
                try clear c26b2
                try clear c31
                try clear c31b0
                try clear c31b1
                try clear c31b2
                try clear c32
                try clear c32b0
                try clear c32b1
                try clear p2
                obtain ⟨kq, x62_27, rfl, HA, HJ27, HB⟩ := hcut
                cases kq with
                | zero => exact absurd HA.out (by simp [debenturelaw01_NatTens.j2])
                | succ kj27 =>
                  have H := HA.out
                  clear HA
                  simp only [debenturelaw01_NatTens.j2] at H
                  by_cases c35 : x62_27 = true
                  · subst c35
                    have H1 : (some false) = some r := by rw [if_pos rfl] at H; exact H
                    clear H
                    have H := H1
                    clear H1
                    exact absurd (H.trans (congrArg some hr_.out)) (by decide)
                  · replace c35 := Bool.eq_false_iff.mpr c35
                    subst c35
                    have H1 : (if (a0.size : Int) ≤ a1 then (if t104.toList = ([48] : List UInt8) then (some (t105.toList == a0.toList)) else (some false)) else (if 0 ≤ (wrap64 ((a0.size : Int) - a1)) then (if (wrap64 ((a0.size : Int) - a1)) ≤ (a0.size : Int) then (if t104.toList = (a0.extract 0 ((wrap64 ((a0.size : Int) - a1)) : Int).toNat).toList then (if (t105.size : Int) ≤ (mx a1 1) then ((nat_Mul.f t104 x5_2).bind fun t108 => ((nat_Add.f t108 t105).bind fun t109 => (some (t109.toList == a0.toList)))) else (some false)) else (some false)) else (none)) else (none))) = some r := by rw [if_neg (show ¬ (false = true) by decide)] at H; exact H
                    clear H
                    have H := H1
                    clear H1
                    by_cases c36 : (a0.size : Int) ≤ a1
                    · rw [if_pos c36] at H
                      have c36b0 : decide ((a0.size : Int) ≤ a1) = true := decide_eq_true c36
                      clear c36
                      by_cases c37 : t104.toList = ([48] : List UInt8)
                      · rw [if_pos c37] at H
                        have c37b0 : (t104.toList == ([48] : List UInt8)) = true := beq_iff_eq.mpr c37
                        have c37b1 : (t104.toList != ([48] : List UInt8)) = false := bne_eq_false_iff_eq.mpr c37
                        clear c37
                        obtain rfl := Option.some.inj H
                        go_wp2
                        go_ret
                        exact ⟨by first | rfl | (simp [errW_none, errW_some] <;> rfl) | (simp [*, errW_none, errW_some] <;> rfl), by repeat (first | (with_reducible first | exact HB.out | apply below_alloc | apply pw_below_drewN | apply below_drew1) | exact HB.out)⟩
                      · rw [if_neg c37] at H
                        have c37b0 : (t104.toList == ([48] : List UInt8)) = false := beq_eq_false_iff_ne.mpr c37
                        have c37b1 : (t104.toList != ([48] : List UInt8)) = true := bne_iff_ne.mpr c37
                        exact absurd (H.trans (congrArg some hr_.out)) (by decide)
                    · rw [if_neg c36] at H
                      have c36b0 : decide ((a0.size : Int) ≤ a1) = false := decide_eq_false c36
                      clear c36
                      obtain ⟨ji38, hji38⟩ : ∃ j_ : Int, (wrap64 ((a0.size : Int) - a1)) = j_ := ⟨_, rfl⟩
                      replace H : (if 0 ≤ (ji38) then (if (ji38) ≤ (a0.size : Int) then (if t104.toList = (a0.extract 0 ((ji38) : Int).toNat).toList then (if (t105.size : Int) ≤ (mx a1 1) then ((nat_Mul.f t104 x5_2).bind fun t108 => ((nat_Add.f t108 t105).bind fun t109 => (some (t109.toList == a0.toList)))) else (some false)) else (some false)) else (none)) else (none)) = some r := by first | (rw [hji38] at H; exact H) | (simp only [hji38] at H ⊢; exact H)
                      have hji38w : (IntKind.i64.wrap ((a0.size : Int) - a1)) = ji38 := (i64_w _).trans hji38
                      by_cases c39 : 0 ≤ (ji38)
                      · rw [if_pos c39] at H
                        have c39b0 := eq_true c39
                        have c39b1 : decide (0 ≤ (ji38)) = true := decide_eq_true c39
                        clear c39
                        by_cases c40 : (ji38) ≤ (a0.size : Int)
                        · rw [if_pos c40] at H
                          have c40b0 := eq_true c40
                          have c40b1 : decide ((ji38) ≤ (a0.size : Int)) = true := decide_eq_true c40
                          clear c40
                          by_cases c41 : t104.toList = (a0.extract 0 ((ji38) : Int).toNat).toList
                          · rw [if_pos c41] at H
                            have c41b0 : (t104.toList == (a0.extract 0 ((ji38) : Int).toNat).toList) = true := beq_iff_eq.mpr c41
                            have c41b1 : (t104.toList != (a0.extract 0 ((ji38) : Int).toNat).toList) = false := bne_eq_false_iff_eq.mpr c41
                            clear c41
                            obtain ⟨ji42, hji42⟩ : ∃ j_ : Int, (mx a1 1) = j_ := ⟨_, rfl⟩
                            replace H : (if (t105.size : Int) ≤ (ji42) then ((nat_Mul.f t104 x5_2).bind fun t108 => ((nat_Add.f t108 t105).bind fun t109 => (some (t109.toList == a0.toList)))) else (some false)) = some r := by first | (rw [hji42] at H; exact H) | (simp only [hji42] at H ⊢; exact H)
                            have hji42_ : (if a1 < 1 then 1 else a1) = ji42 := hji42
                            by_cases c43 : (t105.size : Int) ≤ (ji42)
                            · rw [if_pos c43] at H
                              have c43b0 : decide ((t105.size : Int) ≤ (ji42)) = true := decide_eq_true c43
                              clear c43
                              replace H := Option.bind_eq_some_iff.mp H
                              obtain ⟨t108, A440, H⟩ := H
                              replace H : ((nat_Add.f t108 t105).bind fun t109 => (some (t109.toList == a0.toList))) = some r := H
                              have A44 := Aside0.mk A440
                              clear A440
                              replace H := Option.bind_eq_some_iff.mp H
                              obtain ⟨t109, A450, H⟩ := H
                              replace H : (some (t109.toList == a0.toList)) = some r := H
                              have A45 := Aside0.mk A450
                              clear A450
                              obtain rfl := Option.some.inj H
                              go_wp2_with (first | (go_at_call 26; (with_reducible refine (nat_Mul.calls t104 x5_2 t108 _ ?side1 A44.out).mono ?_); (case side1 => exact Laid.below HLD.out (by repeat (first | (with_reducible first | exact HB.out | apply below_alloc | apply pw_below_drewN | apply below_drew1) | exact HB.out))); rintro e w46 ⟨rfl, hb⟩; have n0_ := Aside0.mk (below_step (by repeat (first | (with_reducible first | exact HB.out | apply below_alloc | apply pw_below_drewN | apply below_drew1) | exact HB.out)) hb); clear HB; have HB := n0_; clear n0_; (try clear hb); (try clear hb2); (try clear hk); (try clear hi)) | (go_at_call 24; (with_reducible refine (nat_Add.calls t108 t105 t109 _ ?side1 A45.out).mono ?_); (case side1 => exact Laid.below HLD.out (by repeat (first | (with_reducible first | exact HB.out | apply below_alloc | apply pw_below_drewN | apply below_drew1) | exact HB.out))); rintro e w47 ⟨rfl, hb⟩; have n0_ := Aside0.mk (below_step (by repeat (first | (with_reducible first | exact HB.out | apply below_alloc | apply pw_below_drewN | apply below_drew1) | exact HB.out)) hb); clear HB; have HB := n0_; clear n0_; (try clear hb); (try clear hb2); (try clear hk); (try clear hi)))
                              go_ret
                              exact ⟨by first | rfl | (simp [errW_none, errW_some] <;> rfl) | (simp only [← hji38, ← hji42]; first | rfl | (simp [errW_none, errW_some] <;> rfl)) | (simp [*, errW_none, errW_some] <;> rfl), by repeat (first | (with_reducible first | exact HB.out | apply below_alloc | apply pw_below_drewN | apply below_drew1) | exact HB.out)⟩
                            · rw [if_neg c43] at H
                              have c43b0 : decide ((t105.size : Int) ≤ (ji42)) = false := decide_eq_false c43
                              clear c43
                              exact absurd (H.trans (congrArg some hr_.out)) (by decide)
                          · rw [if_neg c41] at H
                            have c41b0 : (t104.toList == (a0.extract 0 ((ji38) : Int).toNat).toList) = false := beq_eq_false_iff_ne.mpr c41
                            have c41b1 : (t104.toList != (a0.extract 0 ((ji38) : Int).toNat).toList) = true := bne_iff_ne.mpr c41
                            exact absurd (H.trans (congrArg some hr_.out)) (by decide)
                        · rw [if_neg c40] at H
                          exact absurd H (by simp)
                      · rw [if_neg c39] at H
                        exact absurd H (by simp)

end Go.Proofs.YtmcpiejgneegjaaDoor.LNatTens

end

/-
The law NatTens, told by numbers.
-/
section
set_option linter.unusedVariables false
namespace Go.Proofs.YtmcpiejgneegjaaDoor
open Go.RowKit Go.Proofs.YtmcpiejgneegjaaDoorW.PrintWords Go.Proofs.YtmcpiejgneegjaaDoorW.PrintLast Go.Proofs.YtmcpiejgneegjaaDoorW.PrintMore

/-! ### Tens -/
def zeroT (n : Nat) : ByteArray := ⟨(List.replicate n 48).toArray⟩
theorem dig_shift {m : Nat} (h : m ≠ 0) : ∀ n, Lib.decDigits (m * 10 ^ n) = Lib.decDigits m ++ List.replicate n 48
  | 0 => by simp
  | n + 1 => by
    have e : m * 10 ^ (n + 1) = (m * 10 ^ n) * 10 := by rw [Nat.pow_succ, Nat.mul_assoc]
    have hp : 1 ≤ m * 10 ^ n := Nat.mul_pos (by omega) (Nat.pow_pos (by omega))
    rw [e, dig_big (by omega), Nat.mul_div_cancel _ (by omega), Nat.mul_mod_left, dig_shift h n, List.append_assoc, List.replicate_succ']
    rfl
theorem natB_shift {m : Nat} (h : m ≠ 0) (n : Nat) : natB m ++ zeroT n = natB (m * 10 ^ n) := by
  apply bext
  rw [Joins.data_append, natB_list, natB_list, dig_shift h]
  rfl
theorem zeroT_succ (n : Nat) : zeroT n ++ ⟨#[48]⟩ = zeroT (n + 1) := by
  apply bext
  rw [Joins.data_append]
  unfold zeroT
  rw [List.replicate_succ']
theorem zeroT_size (n : Nat) : (zeroT n).size = n := by rw [size_len]; simp [zeroT]
theorem one_ten (n : Nat) : natB (10 ^ n) ++ ⟨#[48]⟩ = natB (10 ^ (n + 1)) := by
  have := natB_shift (m := 10 ^ n) (by have := Nat.pow_pos (n := n) (show 0 < 10 by omega); omega) 1
  rw [Nat.pow_succ]
  rw [Nat.pow_one] at this
  exact this
theorem sz_ten (n : Nat) : sz (10 ^ n) = n + 1 := by
  unfold sz
  have := natB_shift (m := 1) (by omega) n
  rw [Nat.one_mul] at this
  rw [← this, ByteArray.size_append, zeroT_size, natB_one]
  rw [Nat.add_comm]
  rfl
theorem tens_loop {m n : Nat} {need : Nat} {R : Option Bool} (hn : n ≤ 100)
    (H : ∀ k, need ≤ k → ((nat_Div.f (natB m) (natB (10 ^ n))).bind fun bt235 => ((nat_Mul.f (natB m) (natB (10 ^ n))).bind fun t238 => (if (natB m).size + (zeroT n).size ≤ 9223372036854775807 then (if t238.toList = (natB m ++ zeroT n).toList then (LNatTens.debenturelaw01_NatTens.j2 k (natB m) (n : Int) (natB (10 ^ n)) bt235.1 bt235.2.1 (!bt235.2.2)) else (LNatTens.debenturelaw01_NatTens.j2 k (natB m) (n : Int) (natB (10 ^ n)) bt235.1 bt235.2.1 true)) else (none)))) = R) :
    ∀ d i, i + d = n → ∀ k, need + d + 1 ≤ k → LNatTens.debenturelaw01_NatTens.l0 k (natB m) (n : Int) (natB (10 ^ i)) (zeroT i) (i : Int) = R
  | 0, i, hi, k, hk => by
    obtain ⟨k, rfl⟩ : ∃ m, k = m + 1 := ⟨k - 1, by omega⟩
    obtain rfl : i = n := by omega
    simp only [LNatTens.debenturelaw01_NatTens.l0]
    rw [if_neg (by omega)]
    exact H k (by omega)
  | d + 1, i, hi, k, hk => by
    obtain ⟨k, rfl⟩ : ∃ m, k = m + 1 := ⟨k - 1, by omega⟩
    simp only [LNatTens.debenturelaw01_NatTens.l0]
    have h1 := sz_ten i
    unfold sz at h1
    rw [if_pos (by omega), if_pos (by omega), if_pos (by rw [zeroT_size]; omega), one_ten, zeroT_succ, w64 (by omega) (by omega), show ((i : Int) + 1) = ((i + 1 : Nat) : Int) by omega]
    exact tens_loop hn H d (i + 1) (by omega) k (by omega)
theorem dig_div {m n : Nat} (h : n < sz m) : Lib.decDigits (m / 10 ^ n) = (Lib.decDigits m).take (sz m - n) ∧ m ≠ 0 ∨ m = 0 := by
  by_cases hm : m = 0
  · exact .inr hm
  · left
    refine ⟨?_, hm⟩
    have hlen : (Lib.decDigits m).length = sz m := (sz_dig m).symm
    have hall := dig_all m
    have e := num_append ((Lib.decDigits m).take (sz m - n)) ((Lib.decDigits m).drop (sz m - n))
    rw [List.take_append_drop, num_dig] at e
    have hd : ((Lib.decDigits m).drop (sz m - n)).length = n := by rw [List.length_drop, hlen]; omega
    have hs : ((Lib.decDigits m).take (sz m - n)).all isDig = true ∧ ((Lib.decDigits m).drop (sz m - n)).all isDig = true := by
      rw [← Bool.and_eq_true, ← List.all_append, List.take_append_drop]
      exact hall
    have hlt := num_lt hs.2
    rw [hd] at e hlt
    have hq : m / 10 ^ n = num ((Lib.decDigits m).take (sz m - n)) := by
      have e2 : m = num ((Lib.decDigits m).drop (sz m - n)) + 10 ^ n * num ((Lib.decDigits m).take (sz m - n)) := by rw [Nat.mul_comm (10 ^ n)]; omega
      have hp : 0 < 10 ^ n := Nat.pow_pos (by omega)
      have e3 : m / 10 ^ n = (num ((Lib.decDigits m).drop (sz m - n)) + 10 ^ n * num ((Lib.decDigits m).take (sz m - n))) / 10 ^ n := congrArg (· / 10 ^ n) e2
      rw [e3, Nat.add_mul_div_left _ _ hp, Nat.div_eq_of_lt hlt, Nat.zero_add]
    rw [hq]
    apply dig_num
    have hhead : ((Lib.decDigits m).take (sz m - n)).head? = (Lib.decDigits m).head? := by rw [List.head?_take, if_neg (by omega)]
    have hne : (Lib.decDigits m).take (sz m - n) ≠ [] := by
      intro e
      have := congrArg List.length e
      rw [List.length_take, hlen, List.length_nil] at this
      omega
    unfold mayL
    rw [hs.1, decide_eq_true hne, hhead, decide_eq_true (dig_head hm)]
    simp
theorem natB_cut {m n : Nat} (hm : m ≠ 0) (h : n < sz m) : natB (m / 10 ^ n) = (natB m).extract 0 (sz m - n) := by
  apply bext
  rw [natB_list, Lib.extract_data, List.drop_zero, Nat.sub_zero, natB_list]
  rcases dig_div h with h1 | h1
  · exact h1.1
  · exact absurd h1 hm
theorem pureNatTens (a0 : ByteArray) (a1 : Int) (w0 : a0.size ≤ 140737488351232) (w1 : (Lit.int .i64 a1).wf = true) : ∃ k, LNatTens.debenturelaw01_NatTens.f k a0 a1 = some true := by
  refine ⟨110, ?_⟩
  unfold LNatTens.debenturelaw01_NatTens.f debenturelaw01_fixed.f
  have hj : LNatTens.debenturelaw01_NatTens.j0 110 a0 a1 true = some true := by
    simp only [LNatTens.debenturelaw01_NatTens.j0]
    rfl
  rw [Option.bind_some, if_pos rfl]
  by_cases z0 : (a0.size : Int) > 200
  · rw [if_pos z0]; exact hj
  rw [if_neg z0, rMay (by omega), Option.bind_some]
  by_cases m0 : mayB a0 = true
  · rw [if_pos m0]
    obtain ⟨m, rfl, e0⟩ := of_may m0
    by_cases hz : m = 0
    · rw [if_pos (natB_toList_zero.2 hz)]; exact hj
    rw [if_neg (fun e => hz (natB_toList_zero.1 e))]
    by_cases h1 : a1 < 0
    · rw [if_pos h1]; exact hj
    rw [if_neg h1]
    by_cases h2 : a1 > 100
    · rw [decide_eq_true h2]; exact hj
    obtain ⟨n, rfl⟩ := Int.eq_ofNat_of_zero_le (show 0 ≤ a1 by omega)
    have hn : n ≤ 100 := by omega
    rw [decide_eq_false h2]
    simp only [LNatTens.debenturelaw01_NatTens.j0]
    rw [if_neg (by decide)]
    have hst := tens_loop (m := m) (n := n) (need := 1) (R := some true) hn ?_ n 0 (by omega) 109 (by omega)
    · have e1 : natB (10 ^ 0) = ⟨#[49]⟩ := natB_one
      rw [e1] at hst
      exact hst
    intro k hk
    obtain ⟨k, rfl⟩ : ∃ m, k = m + 1 := ⟨k - 1, by omega⟩
    have t1 := sz_ten n
    have t0 : (10 : Nat) ^ n ≠ 0 := by have := Nat.pow_pos (n := n) (show 0 < 10 by omega); omega
    have s1 := sz_mul m (10 ^ n)
    rw [fDiv (by omega) (by omega) t0, Option.bind_some, fMul (by omega) (by omega), Option.bind_some, if_pos (by rw [zeroT_size]; omega), natB_shift hz, if_pos rfl]
    simp only [LNatTens.debenturelaw01_NatTens.j2]
    rw [if_neg (by decide)]
    by_cases hle : ((natB m).size : Int) ≤ (n : Int)
    · have hlt : m < 10 ^ n := Nat.lt_of_lt_of_le (lt_sz m) (ten_mono (by omega))
      rw [if_pos hle, Nat.div_eq_of_lt hlt, if_pos (natB_toList_zero.2 rfl), Nat.mod_eq_of_lt hlt, natB_beq, decide_eq_true rfl]
    · have e1 : wrap64 (((natB m).size : Int) - (n : Int)) = ((sz m - n : Nat) : Int) := by
        rw [w64 (by omega) (by omega)]
        omega
      rw [if_neg hle, e1]
      clear e1
      have hml := Nat.mod_lt m (Nat.pos_of_ne_zero t0)
      have hms : sz (m % 10 ^ n) ≤ max n 1 := sz_le (Nat.lt_of_lt_of_le hml (ten_mono (by omega))) (by omega)
      have hmx : ((natB (m % 10 ^ n)).size : Int) ≤ mx (n : Int) 1 := by
        have e2 : mx (n : Int) 1 = ((max n 1 : Nat) : Int) := by
          unfold mx
          split <;> omega
        rw [e2]
        unfold sz at hms
        omega
      have s2 := sz_mul (m / 10 ^ n) (10 ^ n)
      have s3 := sz_mono (Nat.div_le_self m (10 ^ n))
      have s4 := sz_mono (Nat.mod_le m (10 ^ n))
      have hdm : m / 10 ^ n * 10 ^ n + m % 10 ^ n = m := by rw [Nat.mul_comm]; exact Nat.div_add_mod m (10 ^ n)
      rw [if_pos (by omega), if_pos (by omega), Int.toNat_natCast, if_pos (by rw [natB_cut hz (by omega)]), if_pos hmx, fMul (by omega) (by omega), Option.bind_some, fAdd (by omega) (by omega), Option.bind_some, hdm, natB_beq, decide_eq_true rfl]
  · rw [if_neg m0]
    exact hj

end Go.Proofs.YtmcpiejgneegjaaDoor

end

/-
The law NatTens holds at every input: its row, and its card, tied to the program's text.
Conditions: none beyond the given row's own.
-/
section
namespace Go.Proofs.YtmcpiejgneegjaaDoor.natTens
open Go.ChangeShapes Go.WideShapes Go.ChangeAt Go.RowKit
open Go.ChangeMaps (open_string shut_string)
set_option linter.unusedVariables false
set_option maxRecDepth 100000 in
theorem lifted (os : Os) (started : os.Started) (H : Type) (enc : TypeId × Value → H) :
    ReturnsInHanded {} Tryd.checked os 8 .any (fun w args => (Rows.natTensSpec.pre enc Tryd.prog Tryd.f8 Rows.natTensRow.domain false w args ∧ laidMetH Tryd.prog laidL w) ∧ sizedMet enc Tryd.prog Tryd.f8 (OpenSpec.ofChange Rows.natTensSpec) false w args)
      (Rows.natTensSpec.post enc Tryd.prog Tryd.f8 false true false false) := by
  refine returnsInHanded_of_change_and (C := Tryd.checked) (X := fun w _ => laidMetH Tryd.prog laidL w) (fun _ _ _ hh h => h.of_heap hh) own started (by kernel_rfl) Tryd.func8
    (ChangeSpec.witness_shaped (enc := enc) (C := Tryd.checked) (os := os) (X := fun w _ => laidMetH Tryd.prog laidL w) false (World.doorLaid Tryd.prog 4000 os) #[.string ByteArray.empty, .int .i64 0] 8 rfl (World.shaped_of_RefB (by kernel_rfl) (by kernel_rfl)) (by kernel_rfl) (by kernel_rfl) (by kernel_rfl) (door_met os _)) ?_
  intro W base args ds gs before hval0 hW _ hsz0 hL _
  have hsz : (DataW.weightsEach Tryd.prog (Tryd.f8.params.toList ++ Rows.natTensSpec.plain.varTypes Tryd.prog) (ds ++ gs)).all (· ≤ reachBytes) = true := hsz0
  have hval : ∀ (j : Nat) t v, Tryd.f8.params[j]? = some t → args[j]? = some v → Value.okWide Tryd.prog W .any base t v := hval0
  have hW' := hW
  obtain ⟨p, q, hA0, hV, rfl, hfz, hnd⟩ := hW
  have hA : DataW.TrodAll enc Tryd.prog W 0 (fun _ => true) true Tryd.f8.params.toList args.toList ds p := hA0
  rw [Tryd.params8] at hA hval hsz
  obtain ⟨v0, vs0, d0, ds0, p0, q0, hargs, rfl, rfl, h0, r0⟩ := trodAll_cons hA
  obtain ⟨v1, vs1, d1, ds1, p1, q1, rfl, rfl, rfl, h1, r1⟩ := trodAll_cons r0
  obtain ⟨rfl, rfl, rfl⟩ := trodAll_nil r1
  obtain rfl : args = #[v0, v1] := by cases args; simp_all
  obtain ⟨rfl, rfl⟩ := trodVars_none hV
  obtain ⟨a0, rfl, rfl, rfl, y0⟩ := open_string Tryd.underlying9 (hval 0 9 v0 rfl rfl) h0
  have w0 : a0.size ≤ 140737488351232 := by
    have z := sized_string hsz (j := 0) (t := 9) rfl rfl
    rw [Array.length_toList] at z
    exact z
  obtain ⟨a1, rfl, rfl, rfl, w1⟩ := open_int Tryd.underlying3 (hval 1 3 v1 rfl rfl) h1
  clear hA0 hval0 hsz0 hsz
  obtain ⟨k, hf⟩ := pureNatTens a0 a1 w0 w1
  refine (LNatTens.debenturelaw01_NatTens.calls k a0 a1 true W (laid_of hL) ⟨rfl⟩ hf).mono fun e W' ⟨he, bel⟩ => ?_
  subst he
  exact ⟨_, rfl, _, _, _, [], _, [], hW', trodAll_mk1 (shut_bool Tryd.underlying4 _), (trodAll_cons_mk (shut_string Tryd.underlying9 y0) (trodAll_cons_mk (shut_int Tryd.underlying3 w1) trodAll_mk0)), rfl, bel.frame _, fun h => by cases h⟩
theorem over : Rows.NatTensSaid :=
  OpenClaim.holds_of_wide 8 Tryd.f8 rfl rfl rfl rfl rfl rfl rfl ⟨rfl, rfl, rfl, rfl, rfl⟩ rfl rfl rfl rfl rfl (by kernel_rfl) Tryd.func8 (by kernel_rfl)
    (of_decide_eq_true (by kernel_rfl)) (by unfold Func.isWrapper; first | (rw [if_pos (by decide +kernel)]; kernel_rfl) | (rw [if_neg (by decide +kernel)]; exact ⟨rfl, rfl⟩))
    (fun os started H enc _ => lifted os started H enc)
theorem proved : Rows.NatTensCardSaid :=
  Claim7.holds_tied_plain_at .later [] [.data, .data, .data, .sentinel, .sentinel] true (true, "d5ab43be80e0f9512f94eeafcac67ad3748b237780a8a3f2ad52dc7fafa3345f") true
    over (fun _ h => by cases h) (by kernel_rfl) (fun _ h => by cases h) natTens_row_tie rfl ⟨rfl, rfl⟩ (by kernel_rfl) rfl
    (fun f fn hf hfn => by
      obtain rfl : f = 8 := Option.some.inj ((show Tryd.prog.funcNamed "debenture/debenturelaw01.NatTens" = some 8 by kernel_rfl).symm.trans hf) |>.symm
      obtain rfl : fn = Tryd.f8 := (Option.some.inj (Tryd.func8.symm.trans hfn)).symm
      exact ⟨by kernel_rfl, fun j t ht => by
        rw [Tryd.params8] at ht
        have hm : t ∈ [9, 3] := by simpa using Array.mem_of_getElem? ht
        have hall : ([9, 3].all fun u => !Tryd.prog.wantsStandIn u) = true := by kernel_rfl
        exact (show Tryd.prog.wantsStandIn t = false by simpa using List.all_eq_true.1 hall t hm)⟩)
    (by kernel_rfl)
end Go.Proofs.YtmcpiejgneegjaaDoor.natTens
namespace Go.Proofs.YtmcpiejgneegjaaDoor
/-- The card, under a short name, for the claim. -/
theorem natTens_holds : Rows.NatTensCardSaid := natTens.proved
#print axioms natTens_holds
end Go.Proofs.YtmcpiejgneegjaaDoor

end
