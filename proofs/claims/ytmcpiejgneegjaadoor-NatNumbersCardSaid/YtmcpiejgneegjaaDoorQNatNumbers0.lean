/-
The law NatNumbers holds at every input: its row, and its card, tied to the program's text. Conditions: none beyond the given row's own.
Parts of the proof, in build order: PuBase, LNatNumbers0, LNatNumbers1, PuNatNumbers, RowNatNumbers.
-/
import Derived.Test.YtmcpiejgneegjaaDoorC5
import Derived.Test.YtmcpiejgneegjaaDoorProg
import Derived.Below
import Derived.Deep.Draws
import Derived.Deep.AppendLies
import Derived.Maps.AppendAt
import Derived.OwnWalk
import Derived.Laws.BytesArg
import Derived.Laws.MakeOwn
import Derived.Laws.OwnMore
import Derived.Deep.OwnRows
import Derived.Tactics
import Derived.Lib.ConvBytes
import Derived.Laws.Slices
import Derived.WalkKit
import Derived.KernelRfl
import Derived.RowKit3
import Derived.Deep.LoopGhost
import Derived.Deep.QuietTactic
import Derived.BigQuiet
import Derived.WideLaws
import Derived.Deep.DeepCutAuto
import Derived.Deep.CutBlock
import Derived.Deep.RegionHeld3
import Derived.Laws.Rows
import Derived.Lib.AppendStr
import Derived.ArgAppend
import Derived.Laws.IdiomCopy
import Derived.OrdersHeld
import Derived.Laws.BitsLemmas
import Derived.RowKit
import Derived.Test.YtmcpiejgneegjaaDoorC0
import Derived.Test.YtmcpiejgneegjaaDoorTie
import Derived.Test.YtmcpiejgneegjaaDoorCards
import Derived.SevenTiedAt
/-
What the laws of naturals share.
-/
section
set_option linter.unusedVariables false
namespace Go.Proofs.YtmcpiejgneegjaaDoor
open Go.RowKit Go.Proofs.YtmcpiejgneegjaaDoorW.PrintWords Go.Proofs.YtmcpiejgneegjaaDoorW.PrintLast Go.Proofs.YtmcpiejgneegjaaDoorW.PrintMore

theorem shorts3 {a b c : ByteArray} : debentureref01_Short.f [a, b, c] = some (shortT a && (shortT b && shortT c)) := by
  rw [rShort (by simp)]
  simp [List.all_cons]
theorem shorts2 {a b : ByteArray} : debentureref01_Short.f [a, b] = some (shortT a && shortT b) := by
  rw [rShort (by simp)]
  simp [List.all_cons]
theorem cmpI_cases (m n : Nat) : (m < n ∧ Lib.compareInt (m : Int) (n : Int) = -1 ∧ Lib.compareInt (n : Int) (m : Int) = 1) ∨ (m = n ∧ Lib.compareInt (m : Int) (n : Int) = 0 ∧ Lib.compareInt (n : Int) (m : Int) = 0) ∨ (n < m ∧ Lib.compareInt (m : Int) (n : Int) = 1 ∧ Lib.compareInt (n : Int) (m : Int) = -1) := by
  rcases Nat.lt_trichotomy m n with h | h | h
  · exact .inl ⟨h, cmpI_lt h, cmpI_gt h⟩
  · exact .inr (.inl ⟨h, cmpI_eq h, cmpI_eq h.symm⟩)
  · exact .inr (.inr ⟨h, cmpI_gt h, cmpI_lt h⟩)

theorem wf_i64 {n : Int} (h : (Lit.int .i64 n).wf = true) : -9223372036854775808 ≤ n ∧ n ≤ 9223372036854775807 := by
  have e1 : IntKind.i64.min = -9223372036854775808 := rfl
  have e2 : IntKind.i64.max = 9223372036854775807 := rfl
  simp [Lit.wf, e1, e2] at h
  exact h
theorem bne_same {α : Type} [BEq α] [LawfulBEq α] (a : α) : ¬ (a != a) = true := by simp

end Go.Proofs.YtmcpiejgneegjaaDoor

end

-- Written by wip/pp.py of this place (over the kit's print) out of the translation.
section
namespace Go.Proofs.YtmcpiejgneegjaaDoor.LNatNumbers
open Go.RowKit Go.Proofs.YtmcpiejgneegjaaDoorW.PrintWords Go.Proofs.YtmcpiejgneegjaaDoorW.PrintLast Go.Proofs.YtmcpiejgneegjaaDoorW.PrintMore
attribute [local go_sem] max2_int min2_int max_two min_two max_three min_three max_four min_four   -- for this text's walks alone
set_option linter.unusedVariables false
set_option linter.unusedSimpArgs false



def errW : Option Int → Value
  | none => .nilIface
  | some c => .iface 0 (.int .i64 c)
theorem errW_none : errW none = .nilIface := rfl
theorem errW_some (c : Int) : errW (some c) = .iface 0 (.int .i64 c) := rfl

-- the values' own types

end Go.Proofs.YtmcpiejgneegjaaDoor.LNatNumbers

end

-- Written by wip/pp.py of this place (over the kit's print) out of the translation.
section
namespace Go.Proofs.YtmcpiejgneegjaaDoor.LNatNumbers
open Go.RowKit Go.Proofs.YtmcpiejgneegjaaDoorW.PrintWords Go.Proofs.YtmcpiejgneegjaaDoorW.PrintLast Go.Proofs.YtmcpiejgneegjaaDoorW.PrintMore
attribute [local go_sem] max2_int min2_int max_two min_two max_three min_three max_four min_four   -- for this text's walks alone
set_option linter.unusedVariables false
set_option linter.unusedSimpArgs false

-- walked by hand: function 11 (debenturelaw01_fixed)

-- walked by hand: function 14 (nat_Div)

-- walked by hand: function 16 (nat_Small)

-- walked by hand: function 20 (nat_Of)

-- walked by hand: function 22 (nat_Cmp)

-- walked by hand: function 24 (nat_Add)

-- walked by hand: function 26 (nat_Mul)

/-! ### debenturelaw01_NatNumbers: function 9 -/
mutual
def debenturelaw01_NatNumbers.j0 : Nat → Int → Int → Bool → Option (Bool)
  | 0, _, _, _ => none
  | k + 1, x0, x1, x30 => if x30 = true then ((debenturelaw01_fixed.f).bind fun t102 => (some t102)) else ((nat_Of.f x0).bind fun t103 => ((nat_Of.f x1).bind fun t104 => ((nat_Small.f t103).bind fun bt105 => (if x0 < x1 then (debenturelaw01_NatNumbers.j1 k x0 x1 t103 t104 bt105.1 bt105.2 (-1)) else (debenturelaw01_NatNumbers.j1 k x0 x1 t103 t104 bt105.1 bt105.2 0)))))
def debenturelaw01_NatNumbers.j1 : Nat → Int → Int → ByteArray → ByteArray → Int → Bool → Int → Option (Bool)
  | 0, _, _, _, _, _, _, _ => none
  | k + 1, x0, x1, x5, x6, x7, x8, x9 => if x0 > x1 then (debenturelaw01_NatNumbers.j2 k x0 x1 x5 x6 x7 x8 1) else (debenturelaw01_NatNumbers.j2 k x0 x1 x5 x6 x7 x8 x9)
def debenturelaw01_NatNumbers.j2 : Nat → Int → Int → ByteArray → ByteArray → Int → Bool → Int → Option (Bool)
  | 0, _, _, _, _, _, _, _ => none
  | k + 1, x0, x1, x5, x6, x7, x8, x9 => if x8 = true then (if x7 = x0 then ((nat_Add.f x5 x6).bind fun t107 => ((nat_Of.f (wrap64 (x0 + x1))).bind fun t108 => (if t107.toList = t108.toList then ((nat_Mul.f x5 x6).bind fun t109 => ((nat_Of.f (wrap64 (x0 * x1))).bind fun t110 => (if t109.toList = t110.toList then ((nat_Cmp.f x5 x6).bind fun t111 => (debenturelaw01_NatNumbers.j3 k x0 x1 x5 x6 (t111 != x9))) else (debenturelaw01_NatNumbers.j3 k x0 x1 x5 x6 true)))) else (debenturelaw01_NatNumbers.j3 k x0 x1 x5 x6 true)))) else (debenturelaw01_NatNumbers.j3 k x0 x1 x5 x6 true)) else (debenturelaw01_NatNumbers.j3 k x0 x1 x5 x6 true)
def debenturelaw01_NatNumbers.j3 : Nat → Int → Int → ByteArray → ByteArray → Bool → Option (Bool)
  | 0, _, _, _, _, _ => none
  | k + 1, x0, x1, x5, x6, x80 => if x80 = true then (some false) else ((nat_Div.f x5 x6).bind fun bt112 => (if (bt112.2.2 == (decide (x1 > 0))) = true then (if x1 = 0 then (some true) else (if (mx x1 1) = 0 then (none) else ((nat_Of.f (wrap64 (Int.tdiv x0 (mx x1 1)))).bind fun t115 => (if bt112.1.toList = t115.toList then ((nat_Of.f (Int.tmod x0 (mx x1 1))).bind fun t116 => (some (bt112.2.1.toList == t116.toList))) else (some false))))) else (some false)))
end
def debenturelaw01_NatNumbers.f (k : Nat) (a0 : Int) (a1 : Int) : Option (Bool) := (debenturelaw01_fixed.f).bind fun t101 => (if t101 = true then (if a0 < 0 then (debenturelaw01_NatNumbers.j0 k a0 a1 true) else (if a1 < 0 then (debenturelaw01_NatNumbers.j0 k a0 a1 true) else (if a0 > 1073741824 then (debenturelaw01_NatNumbers.j0 k a0 a1 true) else (debenturelaw01_NatNumbers.j0 k a0 a1 (decide (a1 > 1073741824)))))) else (debenturelaw01_NatNumbers.j0 k a0 a1 true))
theorem debenturelaw01_NatNumbers.mono_l : ∀ k, (∀ y0 y1 y2, LeO (debenturelaw01_NatNumbers.j0 k y0 y1 y2) (debenturelaw01_NatNumbers.j0 (k + 1) y0 y1 y2)) ∧ (∀ y0 y1 y2 y3 y4 y5 y6, LeO (debenturelaw01_NatNumbers.j1 k y0 y1 y2 y3 y4 y5 y6) (debenturelaw01_NatNumbers.j1 (k + 1) y0 y1 y2 y3 y4 y5 y6)) ∧ (∀ y0 y1 y2 y3 y4 y5 y6, LeO (debenturelaw01_NatNumbers.j2 k y0 y1 y2 y3 y4 y5 y6) (debenturelaw01_NatNumbers.j2 (k + 1) y0 y1 y2 y3 y4 y5 y6)) ∧ (∀ y0 y1 y2 y3 y4, LeO (debenturelaw01_NatNumbers.j3 k y0 y1 y2 y3 y4) (debenturelaw01_NatNumbers.j3 (k + 1) y0 y1 y2 y3 y4))
  | 0 => ⟨fun _ _ _ r h => by simp [debenturelaw01_NatNumbers.j0] at h, fun _ _ _ _ _ _ _ r h => by simp [debenturelaw01_NatNumbers.j1] at h, fun _ _ _ _ _ _ _ r h => by simp [debenturelaw01_NatNumbers.j2] at h, fun _ _ _ _ _ r h => by simp [debenturelaw01_NatNumbers.j3] at h⟩
  | k + 1 => by
    obtain ⟨ih0, ih1, ih2, ih3⟩ := debenturelaw01_NatNumbers.mono_l k
    refine ⟨?_, ?_, ?_, ?_⟩
    · intro y0 y1 y2
      unfold debenturelaw01_NatNumbers.j0
      repeat' first
      | (with_reducible exact ih0 _ _ _)
      | (with_reducible exact ih1 _ _ _ _ _ _ _)
      | (with_reducible exact ih2 _ _ _ _ _ _ _)
      | (with_reducible exact ih3 _ _ _ _ _)
      | (with_reducible exact LeO.refl _)
      | (with_reducible exact LeO.none _)
      | (with_reducible refine LeO.ite ?_ ?_)
      | (with_reducible refine LeO.bind ?_ (fun _ => ?_))
      | exact ih0 _ _ _
      | exact ih1 _ _ _ _ _ _ _
      | exact ih2 _ _ _ _ _ _ _
      | exact ih3 _ _ _ _ _
      | exact LeO.none _
      | refine LeO.ite ?_ ?_
      | refine LeO.bind ?_ (fun _ => ?_)
    · intro y0 y1 y2 y3 y4 y5 y6
      unfold debenturelaw01_NatNumbers.j1
      repeat' first
      | (with_reducible exact ih0 _ _ _)
      | (with_reducible exact ih1 _ _ _ _ _ _ _)
      | (with_reducible exact ih2 _ _ _ _ _ _ _)
      | (with_reducible exact ih3 _ _ _ _ _)
      | (with_reducible exact LeO.refl _)
      | (with_reducible exact LeO.none _)
      | (with_reducible refine LeO.ite ?_ ?_)
      | (with_reducible refine LeO.bind ?_ (fun _ => ?_))
      | exact ih0 _ _ _
      | exact ih1 _ _ _ _ _ _ _
      | exact ih2 _ _ _ _ _ _ _
      | exact ih3 _ _ _ _ _
      | exact LeO.none _
      | refine LeO.ite ?_ ?_
      | refine LeO.bind ?_ (fun _ => ?_)
    · intro y0 y1 y2 y3 y4 y5 y6
      unfold debenturelaw01_NatNumbers.j2
      repeat' first
      | (with_reducible exact ih0 _ _ _)
      | (with_reducible exact ih1 _ _ _ _ _ _ _)
      | (with_reducible exact ih2 _ _ _ _ _ _ _)
      | (with_reducible exact ih3 _ _ _ _ _)
      | (with_reducible exact LeO.refl _)
      | (with_reducible exact LeO.none _)
      | (with_reducible refine LeO.ite ?_ ?_)
      | (with_reducible refine LeO.bind ?_ (fun _ => ?_))
      | exact ih0 _ _ _
      | exact ih1 _ _ _ _ _ _ _
      | exact ih2 _ _ _ _ _ _ _
      | exact ih3 _ _ _ _ _
      | exact LeO.none _
      | refine LeO.ite ?_ ?_
      | refine LeO.bind ?_ (fun _ => ?_)
    · intro y0 y1 y2 y3 y4
      unfold debenturelaw01_NatNumbers.j3
      repeat' first
      | (with_reducible exact ih0 _ _ _)
      | (with_reducible exact ih1 _ _ _ _ _ _ _)
      | (with_reducible exact ih2 _ _ _ _ _ _ _)
      | (with_reducible exact ih3 _ _ _ _ _)
      | (with_reducible exact LeO.refl _)
      | (with_reducible exact LeO.none _)
      | (with_reducible refine LeO.ite ?_ ?_)
      | (with_reducible refine LeO.bind ?_ (fun _ => ?_))
      | exact ih0 _ _ _
      | exact ih1 _ _ _ _ _ _ _
      | exact ih2 _ _ _ _ _ _ _
      | exact ih3 _ _ _ _ _
      | exact LeO.none _
      | refine LeO.ite ?_ ?_
      | refine LeO.bind ?_ (fun _ => ?_)
theorem debenturelaw01_NatNumbers.mono : ∀ a0 a1 k, LeO (debenturelaw01_NatNumbers.f k a0 a1) (debenturelaw01_NatNumbers.f (k + 1) a0 a1) := by
  intro a0 a1 k
  obtain ⟨ih0, ih1, ih2, ih3⟩ := debenturelaw01_NatNumbers.mono_l k
  unfold debenturelaw01_NatNumbers.f
  repeat' first
      | (with_reducible exact ih0 _ _ _)
      | (with_reducible exact ih1 _ _ _ _ _ _ _)
      | (with_reducible exact ih2 _ _ _ _ _ _ _)
      | (with_reducible exact ih3 _ _ _ _ _)
      | (with_reducible exact LeO.refl _)
      | (with_reducible exact LeO.none _)
      | (with_reducible refine LeO.ite ?_ ?_)
      | (with_reducible refine LeO.bind ?_ (fun _ => ?_))
      | exact ih0 _ _ _
      | exact ih1 _ _ _ _ _ _ _
      | exact ih2 _ _ _ _ _ _ _
      | exact ih3 _ _ _ _ _
      | exact LeO.none _
      | refine LeO.ite ?_ ?_
      | refine LeO.bind ?_ (fun _ => ?_)
set_option maxHeartbeats 8000000 in
set_option maxRecDepth 100000 in
theorem debenturelaw01_NatNumbers.calls (k : Nat) (a0 : Int) (a1 : Int) (r : Bool) (w : World) (hL_ : Laid w) (hr_ : Aside0 (r = true)) (h : debenturelaw01_NatNumbers.f k a0 a1 = some r) :
    Calls Tryd.prog 9 #[.int .i64 a0, .int .i64 a1] w fun e w' => e = .returned (.bool r) ∧ Below w.heap.size w w' := by
  have HLD := Aside0.mk hL_
  clear hL_
  have HB := Aside0.mk (Below.refl w.heap.size w)
  have H : ((debenturelaw01_fixed.f).bind fun t101 => (if t101 = true then (if a0 < 0 then (debenturelaw01_NatNumbers.j0 k a0 a1 true) else (if a1 < 0 then (debenturelaw01_NatNumbers.j0 k a0 a1 true) else (if a0 > 1073741824 then (debenturelaw01_NatNumbers.j0 k a0 a1 true) else (debenturelaw01_NatNumbers.j0 k a0 a1 (decide (a1 > 1073741824)))))) else (debenturelaw01_NatNumbers.j0 k a0 a1 true))) = some r := h
  clear h
  have HC3 := Aside0.mk H
  clear H
  go_enter Tryd.func9, Tryd.ntmps9
  go_upto_region 1 with (fail)
  go_cut [30] (fun v30 wc => ∃ (kq : Nat) (x30_2 : Bool), v30 = .bool x30_2 ∧ Aside0 (debenturelaw01_NatNumbers.j0 kq a0 a1 x30_2 = some r) ∧ Aside0 (kq ≤ k) ∧ Aside0 (Below w.heap.size w wc))
  case first =>
    have H := HC3.out
    clear HC3
    replace H := Option.bind_eq_some_iff.mp H
    obtain ⟨t101, A40, H⟩ := H
    replace H : (if t101 = true then (if a0 < 0 then (debenturelaw01_NatNumbers.j0 k a0 a1 true) else (if a1 < 0 then (debenturelaw01_NatNumbers.j0 k a0 a1 true) else (if a0 > 1073741824 then (debenturelaw01_NatNumbers.j0 k a0 a1 true) else (debenturelaw01_NatNumbers.j0 k a0 a1 (decide (a1 > 1073741824)))))) else (debenturelaw01_NatNumbers.j0 k a0 a1 true)) = some r := H
    have A4 := Aside0.mk A40
    clear A40
    by_cases c5 : t101 = true
    · subst c5
      have H1 : (if a0 < 0 then (debenturelaw01_NatNumbers.j0 k a0 a1 true) else (if a1 < 0 then (debenturelaw01_NatNumbers.j0 k a0 a1 true) else (if a0 > 1073741824 then (debenturelaw01_NatNumbers.j0 k a0 a1 true) else (debenturelaw01_NatNumbers.j0 k a0 a1 (decide (a1 > 1073741824)))))) = some r := by rw [if_pos rfl] at H; exact H
      clear H
      have H := H1
      clear H1
      by_cases c6 : a0 < 0
      · rw [if_pos c6] at H
        have c6b0 : decide (a0 < 0) = true := decide_eq_true c6
        clear c6
        (first | rw [c6b0] | (simp only [i64_w, i32_w]; rw [c6b0]) | skip)
        have H' := Aside0.mk H
        clear H
        go_wp2_with (first | ((with_reducible refine gate_callee (f := 11) rfl ?_); refine goesL_ (some 13) rfl rfl Tryd.func11 (by kernel_rfl) rfl #[] rfl (by (try simp only [List.map_toArray, List.map_cons, List.map_nil]); first | done | rfl | (simp only [List.length_drop, List.length_take]; rfl)) ?_; (with_reducible refine (debenturelaw01_fixed.calls  true _ ?side1 A4.out).mono ?_); (case side1 => exact Laid.below HLD.out (by repeat (first | (with_reducible first | exact HB.out | apply below_alloc | apply pw_below_drewN | apply below_drew1) | exact HB.out))); rintro e w7 ⟨rfl, hb⟩; refine ⟨_, rfl, ?_⟩; have n0_ := Aside0.mk (below_step (by repeat (first | (with_reducible first | exact HB.out | apply below_alloc | apply pw_below_drewN | apply below_drew1) | exact HB.out)) hb); clear HB; have HB := n0_; clear n0_; (try clear hb); (try clear hb2); (try clear hk); (try clear hi)))
        go_meet
        case rel => exact ⟨_, (true), (by first | rfl | (simp; done) | (simp [*]; done)), H', ⟨by first | omega | exact Nat.le_refl _⟩, ⟨by repeat (first | (with_reducible first | exact HB.out | apply below_alloc | apply pw_below_drewN | apply below_drew1) | exact HB.out)⟩⟩
      · rw [if_neg c6] at H
        have c6b0 : decide (a0 < 0) = false := decide_eq_false c6
        clear c6
        (first | rw [c6b0] | (simp only [i64_w, i32_w]; rw [c6b0]) | skip)
        by_cases c8 : a1 < 0
        · rw [if_pos c8] at H
          have c8b0 : decide (a1 < 0) = true := decide_eq_true c8
          clear c8
          have H' := Aside0.mk H
          clear H
          go_wp2_with (first | ((with_reducible refine gate_callee (f := 11) rfl ?_); refine goesL_ (some 13) rfl rfl Tryd.func11 (by kernel_rfl) rfl #[] rfl (by (try simp only [List.map_toArray, List.map_cons, List.map_nil]); first | done | rfl | (simp only [List.length_drop, List.length_take]; rfl)) ?_; (with_reducible refine (debenturelaw01_fixed.calls  true _ ?side1 A4.out).mono ?_); (case side1 => exact Laid.below HLD.out (by repeat (first | (with_reducible first | exact HB.out | apply below_alloc | apply pw_below_drewN | apply below_drew1) | exact HB.out))); rintro e w9 ⟨rfl, hb⟩; refine ⟨_, rfl, ?_⟩; have n0_ := Aside0.mk (below_step (by repeat (first | (with_reducible first | exact HB.out | apply below_alloc | apply pw_below_drewN | apply below_drew1) | exact HB.out)) hb); clear HB; have HB := n0_; clear n0_; (try clear hb); (try clear hb2); (try clear hk); (try clear hi)))
          go_meet
          case rel => exact ⟨_, (true), (by first | rfl | (simp; done) | (simp [*]; done)), H', ⟨by first | omega | exact Nat.le_refl _⟩, ⟨by repeat (first | (with_reducible first | exact HB.out | apply below_alloc | apply pw_below_drewN | apply below_drew1) | exact HB.out)⟩⟩
        · rw [if_neg c8] at H
          have c8b0 : decide (a1 < 0) = false := decide_eq_false c8
          clear c8
          by_cases c10 : a0 > 1073741824
          · rw [if_pos c10] at H
            have c10b0 : decide (1073741824 < a0) = true := decide_eq_true c10
            clear c10
            have H' := Aside0.mk H
            clear H
            go_wp2_with (first | ((with_reducible refine gate_callee (f := 11) rfl ?_); refine goesL_ (some 13) rfl rfl Tryd.func11 (by kernel_rfl) rfl #[] rfl (by (try simp only [List.map_toArray, List.map_cons, List.map_nil]); first | done | rfl | (simp only [List.length_drop, List.length_take]; rfl)) ?_; (with_reducible refine (debenturelaw01_fixed.calls  true _ ?side1 A4.out).mono ?_); (case side1 => exact Laid.below HLD.out (by repeat (first | (with_reducible first | exact HB.out | apply below_alloc | apply pw_below_drewN | apply below_drew1) | exact HB.out))); rintro e w11 ⟨rfl, hb⟩; refine ⟨_, rfl, ?_⟩; have n0_ := Aside0.mk (below_step (by repeat (first | (with_reducible first | exact HB.out | apply below_alloc | apply pw_below_drewN | apply below_drew1) | exact HB.out)) hb); clear HB; have HB := n0_; clear n0_; (try clear hb); (try clear hb2); (try clear hk); (try clear hi)))
            go_meet
            case rel => exact ⟨_, (true), (by first | rfl | (simp; done) | (simp [*]; done)), H', ⟨by first | omega | exact Nat.le_refl _⟩, ⟨by repeat (first | (with_reducible first | exact HB.out | apply below_alloc | apply pw_below_drewN | apply below_drew1) | exact HB.out)⟩⟩
          · rw [if_neg c10] at H
            have c10b0 : decide (1073741824 < a0) = false := decide_eq_false c10
            clear c10
            have H' := Aside0.mk H
            clear H
            go_wp2_with (first | ((with_reducible refine gate_callee (f := 11) rfl ?_); refine goesL_ (some 13) rfl rfl Tryd.func11 (by kernel_rfl) rfl #[] rfl (by (try simp only [List.map_toArray, List.map_cons, List.map_nil]); first | done | rfl | (simp only [List.length_drop, List.length_take]; rfl)) ?_; (with_reducible refine (debenturelaw01_fixed.calls  true _ ?side1 A4.out).mono ?_); (case side1 => exact Laid.below HLD.out (by repeat (first | (with_reducible first | exact HB.out | apply below_alloc | apply pw_below_drewN | apply below_drew1) | exact HB.out))); rintro e w12 ⟨rfl, hb⟩; refine ⟨_, rfl, ?_⟩; have n0_ := Aside0.mk (below_step (by repeat (first | (with_reducible first | exact HB.out | apply below_alloc | apply pw_below_drewN | apply below_drew1) | exact HB.out)) hb); clear HB; have HB := n0_; clear n0_; (try clear hb); (try clear hb2); (try clear hk); (try clear hi)))
            go_meet
            case rel => exact ⟨_, (decide (a1 > 1073741824)), (by first | rfl | (simp; done) | (simp [*]; done)), H', ⟨by first | omega | exact Nat.le_refl _⟩, ⟨by repeat (first | (with_reducible first | exact HB.out | apply below_alloc | apply pw_below_drewN | apply below_drew1) | exact HB.out)⟩⟩
    · replace c5 := Bool.eq_false_iff.mpr c5
      subst c5
      have H1 : (debenturelaw01_NatNumbers.j0 k a0 a1 true) = some r := by rw [if_neg (show ¬ (false = true) by decide)] at H; exact H
      clear H
      have H := H1
      clear H1
      have H' := Aside0.mk H
      clear H
      go_wp2_with (first | ((with_reducible refine gate_callee (f := 11) rfl ?_); refine goesL_ (some 13) rfl rfl Tryd.func11 (by kernel_rfl) rfl #[] rfl (by (try simp only [List.map_toArray, List.map_cons, List.map_nil]); first | done | rfl | (simp only [List.length_drop, List.length_take]; rfl)) ?_; (with_reducible refine (debenturelaw01_fixed.calls  false _ ?side1 A4.out).mono ?_); (case side1 => exact Laid.below HLD.out (by repeat (first | (with_reducible first | exact HB.out | apply below_alloc | apply pw_below_drewN | apply below_drew1) | exact HB.out))); rintro e w13 ⟨rfl, hb⟩; refine ⟨_, rfl, ?_⟩; have n0_ := Aside0.mk (below_step (by repeat (first | (with_reducible first | exact HB.out | apply below_alloc | apply pw_below_drewN | apply below_drew1) | exact HB.out)) hb); clear HB; have HB := n0_; clear n0_; (try clear hb); (try clear hb2); (try clear hk); (try clear hi)))
      go_meet
      case rel => exact ⟨_, (true), (by first | rfl | (simp; done) | (simp [*]; done)), H', ⟨by first | omega | exact Nat.le_refl _⟩, ⟨by repeat (first | (with_reducible first | exact HB.out | apply below_alloc | apply pw_below_drewN | apply below_drew1) | exact HB.out)⟩⟩
  case rest =>
    clear HC3
    try clear c1
    try clear p2
    try clear c5
    try clear c6
    try clear c6b0
    try clear c8
    try clear c8b0
    try clear c9
    try clear c10
    try clear c10b0
    try clear c11
    obtain ⟨kq, x30_2, rfl, HA, HJ2, HB⟩ := hcut
    cases kq with
    | zero => exact absurd HA.out (by simp [debenturelaw01_NatNumbers.j0])
    | succ kj2 =>
      have H := HA.out
      clear HA
      simp only [debenturelaw01_NatNumbers.j0] at H
      by_cases c14 : x30_2 = true
      · subst c14
        have H1 : ((debenturelaw01_fixed.f).bind fun t102 => (some t102)) = some r := by rw [if_pos rfl] at H; exact H
        clear H
        have H := H1
        clear H1
        replace H := Option.bind_eq_some_iff.mp H
        obtain ⟨t102, A150, H⟩ := H
        replace H : (some t102) = some r := H
        have A15 := Aside0.mk A150
        clear A150
        obtain rfl := Option.some.inj H
        go_wp2_with (first | ((with_reducible refine gate_callee (f := 11) rfl ?_); refine goesL_ (some 31) rfl rfl Tryd.func11 (by kernel_rfl) rfl #[] rfl (by (try simp only [List.map_toArray, List.map_cons, List.map_nil]); first | done | rfl | (simp only [List.length_drop, List.length_take]; rfl)) ?_; (with_reducible refine (debenturelaw01_fixed.calls  t102 _ ?side1 A15.out).mono ?_); (case side1 => exact Laid.below HLD.out (by repeat (first | (with_reducible first | exact HB.out | apply below_alloc | apply pw_below_drewN | apply below_drew1) | exact HB.out))); rintro e w16 ⟨rfl, hb⟩; refine ⟨_, rfl, ?_⟩; have n0_ := Aside0.mk (below_step (by repeat (first | (with_reducible first | exact HB.out | apply below_alloc | apply pw_below_drewN | apply below_drew1) | exact HB.out)) hb); clear HB; have HB := n0_; clear n0_; (try clear hb); (try clear hb2); (try clear hk); (try clear hi)))
        go_ret
        exact ⟨by first | rfl | (simp [errW_none, errW_some] <;> rfl) | (simp [*, errW_none, errW_some] <;> rfl), by repeat (first | (with_reducible first | exact HB.out | apply below_alloc | apply pw_below_drewN | apply below_drew1) | exact HB.out)⟩
      · replace c14 := Bool.eq_false_iff.mpr c14
        subst c14
        have H1 : ((nat_Of.f a0).bind fun t103 => ((nat_Of.f a1).bind fun t104 => ((nat_Small.f t103).bind fun bt105 => (if a0 < a1 then (debenturelaw01_NatNumbers.j1 kj2 a0 a1 t103 t104 bt105.1 bt105.2 (-1)) else (debenturelaw01_NatNumbers.j1 kj2 a0 a1 t103 t104 bt105.1 bt105.2 0))))) = some r := by rw [if_neg (show ¬ (false = true) by decide)] at H; exact H
        clear H
        have H := H1
        clear H1
        replace H := Option.bind_eq_some_iff.mp H
        obtain ⟨t103, A170, H⟩ := H
        replace H : ((nat_Of.f a1).bind fun t104 => ((nat_Small.f t103).bind fun bt105 => (if a0 < a1 then (debenturelaw01_NatNumbers.j1 kj2 a0 a1 t103 t104 bt105.1 bt105.2 (-1)) else (debenturelaw01_NatNumbers.j1 kj2 a0 a1 t103 t104 bt105.1 bt105.2 0)))) = some r := H
        have A17 := Aside0.mk A170
        clear A170
        replace H := Option.bind_eq_some_iff.mp H
        obtain ⟨t104, A180, H⟩ := H
        replace H : ((nat_Small.f t103).bind fun bt105 => (if a0 < a1 then (debenturelaw01_NatNumbers.j1 kj2 a0 a1 t103 t104 bt105.1 bt105.2 (-1)) else (debenturelaw01_NatNumbers.j1 kj2 a0 a1 t103 t104 bt105.1 bt105.2 0))) = some r := H
        have A18 := Aside0.mk A180
        clear A180
        replace H := Option.bind_eq_some_iff.mp H
        obtain ⟨⟨t105, t106⟩, A190, H⟩ := H
        replace H : (if a0 < a1 then (debenturelaw01_NatNumbers.j1 kj2 a0 a1 t103 t104 t105 t106 (-1)) else (debenturelaw01_NatNumbers.j1 kj2 a0 a1 t103 t104 t105 t106 0)) = some r := H
        have A19 := Aside0.mk A190
        clear A190
        have HC20 := Aside0.mk H
        clear H
        go_upto_if 43 with (first | ((with_reducible refine gate_callee (f := 20) rfl ?_); refine goesL_ (some 33) rfl rfl Tryd.func20 (by kernel_rfl) rfl #[.int .i64 a0] rfl (by (try simp only [List.map_toArray, List.map_cons, List.map_nil]); first | done | rfl | (simp only [List.length_drop, List.length_take]; rfl)) ?_; (with_reducible refine (nat_Of.calls a0 t103 _ ?side1 A17.out).mono ?_); (case side1 => exact Laid.below HLD.out (by repeat (first | (with_reducible first | exact HB.out | apply below_alloc | apply pw_below_drewN | apply below_drew1) | exact HB.out))); rintro e w21 ⟨rfl, hb⟩; refine ⟨_, rfl, ?_⟩; have n0_ := Aside0.mk (below_step (by repeat (first | (with_reducible first | exact HB.out | apply below_alloc | apply pw_below_drewN | apply below_drew1) | exact HB.out)) hb); clear HB; have HB := n0_; clear n0_; (try clear hb); (try clear hb2); (try clear hk); (try clear hi)) | ((with_reducible refine gate_callee (f := 20) rfl ?_); refine goesL_ (some 35) rfl rfl Tryd.func20 (by kernel_rfl) rfl #[.int .i64 a1] rfl (by (try simp only [List.map_toArray, List.map_cons, List.map_nil]); first | done | rfl | (simp only [List.length_drop, List.length_take]; rfl)) ?_; (with_reducible refine (nat_Of.calls a1 t104 _ ?side1 A18.out).mono ?_); (case side1 => exact Laid.below HLD.out (by repeat (first | (with_reducible first | exact HB.out | apply below_alloc | apply pw_below_drewN | apply below_drew1) | exact HB.out))); rintro e w22 ⟨rfl, hb⟩; refine ⟨_, rfl, ?_⟩; have n0_ := Aside0.mk (below_step (by repeat (first | (with_reducible first | exact HB.out | apply below_alloc | apply pw_below_drewN | apply below_drew1) | exact HB.out)) hb); clear HB; have HB := n0_; clear n0_; (try clear hb); (try clear hb2); (try clear hk); (try clear hi)) | ((with_reducible refine gate_callee (f := 16) rfl ?_); refine goesL_ (some 38) rfl rfl Tryd.func16 (by kernel_rfl) rfl #[.string t103] rfl (by (try simp only [List.map_toArray, List.map_cons, List.map_nil]); first | done | rfl | (simp only [List.length_drop, List.length_take]; rfl)) ?_; (with_reducible refine (nat_Small.calls t103 t105 t106 _ ?side1 A19.out).mono ?_); (case side1 => exact Laid.below HLD.out (by repeat (first | (with_reducible first | exact HB.out | apply below_alloc | apply pw_below_drewN | apply below_drew1) | exact HB.out))); rintro e w23 ⟨rfl, hb⟩; refine ⟨_, rfl, ?_⟩; have n0_ := Aside0.mk (below_step (by repeat (first | (with_reducible first | exact HB.out | apply below_alloc | apply pw_below_drewN | apply below_drew1) | exact HB.out)) hb); clear HB; have HB := n0_; clear n0_; (try clear hb); (try clear hb2); (try clear hk); (try clear hi)))
        (try simp only [Act.put, List.setIfInBounds_toArray, List.set_cons_zero, List.set_cons_succ])
        go_cut [9] (fun v9 wc => ∃ (kq : Nat) (x9_19 : Int), v9 = .int .i64 x9_19 ∧ Aside0 (debenturelaw01_NatNumbers.j1 kq a0 a1 t103 t104 t105 t106 x9_19 = some r) ∧ Aside0 (kq ≤ kj2) ∧ Aside0 (Below w.heap.size w wc))
        case first =>
          have H := HC20.out
          clear HC20
          by_cases c24 : a0 < a1
          · rw [if_pos c24] at H
            have c24b0 : decide (a0 < a1) = true := decide_eq_true c24
            clear c24
            (first | rw [c24b0] | (simp only [i64_w, i32_w]; rw [c24b0]) | skip)
            have H' := Aside0.mk H
            clear H
            go_wp2
            go_meet
            case rel => exact ⟨_, ((-1)), (by first | rfl | (simp; done) | (simp [*]; done)), H', ⟨by have := HJ2.out; first | omega | exact Nat.le_refl _⟩, ⟨by repeat (first | (with_reducible first | exact HB.out | apply below_alloc | apply pw_below_drewN | apply below_drew1) | exact HB.out)⟩⟩
          · rw [if_neg c24] at H
            have c24b0 : decide (a0 < a1) = false := decide_eq_false c24
            clear c24
            (first | rw [c24b0] | (simp only [i64_w, i32_w]; rw [c24b0]) | skip)
            have H' := Aside0.mk H
            clear H
            go_wp2
            go_meet
            case rel => exact ⟨_, (0), (by first | rfl | (simp; done) | (simp [*]; done)), H', ⟨by have := HJ2.out; first | omega | exact Nat.le_refl _⟩, ⟨by repeat (first | (with_reducible first | exact HB.out | apply below_alloc | apply pw_below_drewN | apply below_drew1) | exact HB.out)⟩⟩
        case rest =>
          clear HC20
          try clear c1
          try clear c2
          try clear p2
          try clear c5
          try clear c6
          try clear c6b0
          try clear c8
          try clear c8b0
          try clear c9
          try clear c10
          try clear c10b0
          try clear c11
          try clear c14
          try clear c16
          try clear c20
          try clear c24
          try clear c24b0
          try clear p2
          obtain ⟨kq, x9_19, rfl, HA, HJ19, HB⟩ := hcut
          cases kq with
          | zero => exact absurd HA.out (by simp [debenturelaw01_NatNumbers.j1])
          | succ kj19 =>
            have H := HA.out
            clear HA
            simp only [debenturelaw01_NatNumbers.j1] at H
            have HC25 := Aside0.mk H
            clear H
            go_upto_if 46 with (fail)
            go_cut [9] (fun v9 wc => ∃ (kq : Nat) (x9_24 : Int), v9 = .int .i64 x9_24 ∧ Aside0 (debenturelaw01_NatNumbers.j2 kq a0 a1 t103 t104 t105 t106 x9_24 = some r) ∧ Aside0 (kq ≤ kj19) ∧ Aside0 (Below w.heap.size w wc))
            case first =>
              have H := HC25.out
              clear HC25
              by_cases c26 : a0 > a1
              · rw [if_pos c26] at H
                have c26b0 : decide (a1 < a0) = true := decide_eq_true c26
                clear c26
                (first | rw [c26b0] | (simp only [i64_w, i32_w]; rw [c26b0]) | skip)
                have H' := Aside0.mk H
                clear H
                go_wp2
                go_meet
                case rel => exact ⟨_, (1), (by first | rfl | (simp; done) | (simp [*]; done)), H', ⟨by have := HJ2.out; have := HJ19.out; first | omega | exact Nat.le_refl _⟩, ⟨by repeat (first | (with_reducible first | exact HB.out | apply below_alloc | apply pw_below_drewN | apply below_drew1) | exact HB.out)⟩⟩
              · rw [if_neg c26] at H
                have c26b0 : decide (a1 < a0) = false := decide_eq_false c26
                clear c26
                (first | rw [c26b0] | (simp only [i64_w, i32_w]; rw [c26b0]) | skip)
                have H' := Aside0.mk H
                clear H
                go_wp2
                go_meet
                case rel => exact ⟨_, (x9_19), (by first | rfl | (simp; done) | (simp [*]; done)), H', ⟨by have := HJ2.out; have := HJ19.out; first | omega | exact Nat.le_refl _⟩, ⟨by repeat (first | (with_reducible first | exact HB.out | apply below_alloc | apply pw_below_drewN | apply below_drew1) | exact HB.out)⟩⟩
            case rest =>
              clear HC25
              try clear c1
              try clear c2
              try clear p2
              try clear c5
              try clear c6
              try clear c6b0
              try clear c8
              try clear c8b0
              try clear c9
              try clear c10
              try clear c10b0
              try clear c11
              try clear c14
              try clear c16
              try clear c20
              try clear c24
              try clear c24b0
              try clear c26
              try clear c26b0
              try clear p2
              obtain ⟨kq, x9_24, rfl, HA, HJ24, HB⟩ := hcut
              cases kq with
              | zero => exact absurd HA.out (by simp [debenturelaw01_NatNumbers.j2])
              | succ kj24 =>
                have H := HA.out
                clear HA
                simp only [debenturelaw01_NatNumbers.j2] at H
                have HC27 := Aside0.mk H
                clear H
                go_upto_region 10 with (fail)
                go_cut [80] (fun v80 wc => ∃ (kq : Nat) (x80_26 : Bool), v80 = .bool x80_26 ∧ Aside0 (debenturelaw01_NatNumbers.j3 kq a0 a1 t103 t104 x80_26 = some r) ∧ Aside0 (kq ≤ kj24) ∧ Aside0 (Below w.heap.size w wc))
                case first =>
                  have H := HC27.out
                  clear HC27
                  by_cases c28 : t106 = true
                  · subst c28
                    have H1 : (if t105 = a0 then ((nat_Add.f t103 t104).bind fun t107 => ((nat_Of.f (wrap64 (a0 + a1))).bind fun t108 => (if t107.toList = t108.toList then ((nat_Mul.f t103 t104).bind fun t109 => ((nat_Of.f (wrap64 (a0 * a1))).bind fun t110 => (if t109.toList = t110.toList then ((nat_Cmp.f t103 t104).bind fun t111 => (debenturelaw01_NatNumbers.j3 kj24 a0 a1 t103 t104 (t111 != x9_24))) else (debenturelaw01_NatNumbers.j3 kj24 a0 a1 t103 t104 true)))) else (debenturelaw01_NatNumbers.j3 kj24 a0 a1 t103 t104 true)))) else (debenturelaw01_NatNumbers.j3 kj24 a0 a1 t103 t104 true)) = some r := by rw [if_pos rfl] at H; exact H
                    clear H
                    have H := H1
                    clear H1
                    by_cases c29 : t105 = a0
                    · rw [if_pos c29] at H
                      have c29b0 : (t105 == a0) = true := beq_iff_eq.mpr c29
                      have c29b1 : (t105 != a0) = false := bne_eq_false_iff_eq.mpr c29
                      clear c29
                      (first | rw [c29b0] | (simp only [i64_w, i32_w]; rw [c29b0]) | skip)
                      replace H := Option.bind_eq_some_iff.mp H
                      obtain ⟨t107, A300, H⟩ := H
                      replace H : ((nat_Of.f (wrap64 (a0 + a1))).bind fun t108 => (if t107.toList = t108.toList then ((nat_Mul.f t103 t104).bind fun t109 => ((nat_Of.f (wrap64 (a0 * a1))).bind fun t110 => (if t109.toList = t110.toList then ((nat_Cmp.f t103 t104).bind fun t111 => (debenturelaw01_NatNumbers.j3 kj24 a0 a1 t103 t104 (t111 != x9_24))) else (debenturelaw01_NatNumbers.j3 kj24 a0 a1 t103 t104 true)))) else (debenturelaw01_NatNumbers.j3 kj24 a0 a1 t103 t104 true))) = some r := H
                      have A30 := Aside0.mk A300
                      clear A300
                      replace H := Option.bind_eq_some_iff.mp H
                      obtain ⟨t108, A310, H⟩ := H
                      replace H : (if t107.toList = t108.toList then ((nat_Mul.f t103 t104).bind fun t109 => ((nat_Of.f (wrap64 (a0 * a1))).bind fun t110 => (if t109.toList = t110.toList then ((nat_Cmp.f t103 t104).bind fun t111 => (debenturelaw01_NatNumbers.j3 kj24 a0 a1 t103 t104 (t111 != x9_24))) else (debenturelaw01_NatNumbers.j3 kj24 a0 a1 t103 t104 true)))) else (debenturelaw01_NatNumbers.j3 kj24 a0 a1 t103 t104 true)) = some r := H
                      have A31 := Aside0.mk A310
                      clear A310
                      by_cases c32 : t107.toList = t108.toList
                      · rw [if_pos c32] at H
                        have c32b0 : (t107.toList == t108.toList) = true := beq_iff_eq.mpr c32
                        have c32b1 : (t107.toList != t108.toList) = false := bne_eq_false_iff_eq.mpr c32
                        clear c32
                        replace H := Option.bind_eq_some_iff.mp H
                        obtain ⟨t109, A330, H⟩ := H
                        replace H : ((nat_Of.f (wrap64 (a0 * a1))).bind fun t110 => (if t109.toList = t110.toList then ((nat_Cmp.f t103 t104).bind fun t111 => (debenturelaw01_NatNumbers.j3 kj24 a0 a1 t103 t104 (t111 != x9_24))) else (debenturelaw01_NatNumbers.j3 kj24 a0 a1 t103 t104 true))) = some r := H
                        have A33 := Aside0.mk A330
                        clear A330
                        replace H := Option.bind_eq_some_iff.mp H
                        obtain ⟨t110, A340, H⟩ := H
                        replace H : (if t109.toList = t110.toList then ((nat_Cmp.f t103 t104).bind fun t111 => (debenturelaw01_NatNumbers.j3 kj24 a0 a1 t103 t104 (t111 != x9_24))) else (debenturelaw01_NatNumbers.j3 kj24 a0 a1 t103 t104 true)) = some r := H
                        have A34 := Aside0.mk A340
                        clear A340
                        by_cases c35 : t109.toList = t110.toList
                        · rw [if_pos c35] at H
                          have c35b0 : (t109.toList == t110.toList) = true := beq_iff_eq.mpr c35
                          have c35b1 : (t109.toList != t110.toList) = false := bne_eq_false_iff_eq.mpr c35
                          clear c35
                          replace H := Option.bind_eq_some_iff.mp H
                          obtain ⟨t111, A360, H⟩ := H
                          replace H : (debenturelaw01_NatNumbers.j3 kj24 a0 a1 t103 t104 (t111 != x9_24)) = some r := H
                          have A36 := Aside0.mk A360
                          clear A360
                          have H' := Aside0.mk H
                          clear H
                          go_wp2_with (first | (go_at_call 24; (with_reducible refine (nat_Add.calls t103 t104 t107 _ ?side1 A30.out).mono ?_); (case side1 => exact Laid.below HLD.out (by repeat (first | (with_reducible first | exact HB.out | apply below_alloc | apply pw_below_drewN | apply below_drew1) | exact HB.out))); rintro e w37 ⟨rfl, hb⟩; have n0_ := Aside0.mk (below_step (by repeat (first | (with_reducible first | exact HB.out | apply below_alloc | apply pw_below_drewN | apply below_drew1) | exact HB.out)) hb); clear HB; have HB := n0_; clear n0_; (try clear hb); (try clear hb2); (try clear hk); (try clear hi)) | (go_at_call 20; (with_reducible refine (nat_Of.calls (wrap64 (a0 + a1)) t108 _ ?side1 A31.out).mono ?_); (case side1 => exact Laid.below HLD.out (by repeat (first | (with_reducible first | exact HB.out | apply below_alloc | apply pw_below_drewN | apply below_drew1) | exact HB.out))); rintro e w38 ⟨rfl, hb⟩; have n0_ := Aside0.mk (below_step (by repeat (first | (with_reducible first | exact HB.out | apply below_alloc | apply pw_below_drewN | apply below_drew1) | exact HB.out)) hb); clear HB; have HB := n0_; clear n0_; (try clear hb); (try clear hb2); (try clear hk); (try clear hi)) | (go_at_call 26; (with_reducible refine (nat_Mul.calls t103 t104 t109 _ ?side1 A33.out).mono ?_); (case side1 => exact Laid.below HLD.out (by repeat (first | (with_reducible first | exact HB.out | apply below_alloc | apply pw_below_drewN | apply below_drew1) | exact HB.out))); rintro e w39 ⟨rfl, hb⟩; have n0_ := Aside0.mk (below_step (by repeat (first | (with_reducible first | exact HB.out | apply below_alloc | apply pw_below_drewN | apply below_drew1) | exact HB.out)) hb); clear HB; have HB := n0_; clear n0_; (try clear hb); (try clear hb2); (try clear hk); (try clear hi)) | (go_at_call 20; (with_reducible refine (nat_Of.calls (wrap64 (a0 * a1)) t110 _ ?side1 A34.out).mono ?_); (case side1 => exact Laid.below HLD.out (by repeat (first | (with_reducible first | exact HB.out | apply below_alloc | apply pw_below_drewN | apply below_drew1) | exact HB.out))); rintro e w40 ⟨rfl, hb⟩; have n0_ := Aside0.mk (below_step (by repeat (first | (with_reducible first | exact HB.out | apply below_alloc | apply pw_below_drewN | apply below_drew1) | exact HB.out)) hb); clear HB; have HB := n0_; clear n0_; (try clear hb); (try clear hb2); (try clear hk); (try clear hi)) | (go_at_call 22; (with_reducible refine (nat_Cmp.calls t103 t104 t111 _ A36.out).mono ?_); rintro e w41 ⟨rfl, hb⟩; have n0_ := Aside0.mk (below_step (by repeat (first | (with_reducible first | exact HB.out | apply below_alloc | apply pw_below_drewN | apply below_drew1) | exact HB.out)) hb); clear HB; have HB := n0_; clear n0_; (try clear hb); (try clear hb2); (try clear hk); (try clear hi)))
                          go_meet
                          case rel => exact ⟨_, ((t111 != x9_24)), (by first | rfl | (simp; done) | (simp [*]; done)), H', ⟨by have := HJ2.out; have := HJ19.out; have := HJ24.out; first | omega | exact Nat.le_refl _⟩, ⟨by repeat (first | (with_reducible first | exact HB.out | apply below_alloc | apply pw_below_drewN | apply below_drew1) | exact HB.out)⟩⟩
                        · rw [if_neg c35] at H
                          have c35b0 : (t109.toList == t110.toList) = false := beq_eq_false_iff_ne.mpr c35
                          have c35b1 : (t109.toList != t110.toList) = true := bne_iff_ne.mpr c35
                          have H' := Aside0.mk H
                          clear H
                          go_wp2_with (first | (go_at_call 24; (with_reducible refine (nat_Add.calls t103 t104 t107 _ ?side1 A30.out).mono ?_); (case side1 => exact Laid.below HLD.out (by repeat (first | (with_reducible first | exact HB.out | apply below_alloc | apply pw_below_drewN | apply below_drew1) | exact HB.out))); rintro e w42 ⟨rfl, hb⟩; have n0_ := Aside0.mk (below_step (by repeat (first | (with_reducible first | exact HB.out | apply below_alloc | apply pw_below_drewN | apply below_drew1) | exact HB.out)) hb); clear HB; have HB := n0_; clear n0_; (try clear hb); (try clear hb2); (try clear hk); (try clear hi)) | (go_at_call 20; (with_reducible refine (nat_Of.calls (wrap64 (a0 + a1)) t108 _ ?side1 A31.out).mono ?_); (case side1 => exact Laid.below HLD.out (by repeat (first | (with_reducible first | exact HB.out | apply below_alloc | apply pw_below_drewN | apply below_drew1) | exact HB.out))); rintro e w43 ⟨rfl, hb⟩; have n0_ := Aside0.mk (below_step (by repeat (first | (with_reducible first | exact HB.out | apply below_alloc | apply pw_below_drewN | apply below_drew1) | exact HB.out)) hb); clear HB; have HB := n0_; clear n0_; (try clear hb); (try clear hb2); (try clear hk); (try clear hi)) | (go_at_call 26; (with_reducible refine (nat_Mul.calls t103 t104 t109 _ ?side1 A33.out).mono ?_); (case side1 => exact Laid.below HLD.out (by repeat (first | (with_reducible first | exact HB.out | apply below_alloc | apply pw_below_drewN | apply below_drew1) | exact HB.out))); rintro e w44 ⟨rfl, hb⟩; have n0_ := Aside0.mk (below_step (by repeat (first | (with_reducible first | exact HB.out | apply below_alloc | apply pw_below_drewN | apply below_drew1) | exact HB.out)) hb); clear HB; have HB := n0_; clear n0_; (try clear hb); (try clear hb2); (try clear hk); (try clear hi)) | (go_at_call 20; (with_reducible refine (nat_Of.calls (wrap64 (a0 * a1)) t110 _ ?side1 A34.out).mono ?_); (case side1 => exact Laid.below HLD.out (by repeat (first | (with_reducible first | exact HB.out | apply below_alloc | apply pw_below_drewN | apply below_drew1) | exact HB.out))); rintro e w45 ⟨rfl, hb⟩; have n0_ := Aside0.mk (below_step (by repeat (first | (with_reducible first | exact HB.out | apply below_alloc | apply pw_below_drewN | apply below_drew1) | exact HB.out)) hb); clear HB; have HB := n0_; clear n0_; (try clear hb); (try clear hb2); (try clear hk); (try clear hi)))
                          go_meet
                          case rel => exact ⟨_, (true), (by first | rfl | (simp; done) | (simp [*]; done)), H', ⟨by have := HJ2.out; have := HJ19.out; have := HJ24.out; first | omega | exact Nat.le_refl _⟩, ⟨by repeat (first | (with_reducible first | exact HB.out | apply below_alloc | apply pw_below_drewN | apply below_drew1) | exact HB.out)⟩⟩
                      · rw [if_neg c32] at H
                        have c32b0 : (t107.toList == t108.toList) = false := beq_eq_false_iff_ne.mpr c32
                        have c32b1 : (t107.toList != t108.toList) = true := bne_iff_ne.mpr c32
                        have H' := Aside0.mk H
                        clear H
                        go_wp2_with (first | (go_at_call 24; (with_reducible refine (nat_Add.calls t103 t104 t107 _ ?side1 A30.out).mono ?_); (case side1 => exact Laid.below HLD.out (by repeat (first | (with_reducible first | exact HB.out | apply below_alloc | apply pw_below_drewN | apply below_drew1) | exact HB.out))); rintro e w46 ⟨rfl, hb⟩; have n0_ := Aside0.mk (below_step (by repeat (first | (with_reducible first | exact HB.out | apply below_alloc | apply pw_below_drewN | apply below_drew1) | exact HB.out)) hb); clear HB; have HB := n0_; clear n0_; (try clear hb); (try clear hb2); (try clear hk); (try clear hi)) | (go_at_call 20; (with_reducible refine (nat_Of.calls (wrap64 (a0 + a1)) t108 _ ?side1 A31.out).mono ?_); (case side1 => exact Laid.below HLD.out (by repeat (first | (with_reducible first | exact HB.out | apply below_alloc | apply pw_below_drewN | apply below_drew1) | exact HB.out))); rintro e w47 ⟨rfl, hb⟩; have n0_ := Aside0.mk (below_step (by repeat (first | (with_reducible first | exact HB.out | apply below_alloc | apply pw_below_drewN | apply below_drew1) | exact HB.out)) hb); clear HB; have HB := n0_; clear n0_; (try clear hb); (try clear hb2); (try clear hk); (try clear hi)))
                        go_meet
                        case rel => exact ⟨_, (true), (by first | rfl | (simp; done) | (simp [*]; done)), H', ⟨by have := HJ2.out; have := HJ19.out; have := HJ24.out; first | omega | exact Nat.le_refl _⟩, ⟨by repeat (first | (with_reducible first | exact HB.out | apply below_alloc | apply pw_below_drewN | apply below_drew1) | exact HB.out)⟩⟩
                    · rw [if_neg c29] at H
                      have c29b0 : (t105 == a0) = false := beq_eq_false_iff_ne.mpr c29
                      have c29b1 : (t105 != a0) = true := bne_iff_ne.mpr c29
                      (first | rw [c29b0] | (simp only [i64_w, i32_w]; rw [c29b0]) | skip)
                      have H' := Aside0.mk H
                      clear H
                      go_wp2
                      go_meet
                      case rel => exact ⟨_, (true), (by first | rfl | (simp; done) | (simp [*]; done)), H', ⟨by have := HJ2.out; have := HJ19.out; have := HJ24.out; first | omega | exact Nat.le_refl _⟩, ⟨by repeat (first | (with_reducible first | exact HB.out | apply below_alloc | apply pw_below_drewN | apply below_drew1) | exact HB.out)⟩⟩
                  · replace c28 := Bool.eq_false_iff.mpr c28
                    subst c28
                    have H1 : (debenturelaw01_NatNumbers.j3 kj24 a0 a1 t103 t104 true) = some r := by rw [if_neg (show ¬ (false = true) by decide)] at H; exact H
                    clear H
                    have H := H1
                    clear H1
                    have H' := Aside0.mk H
                    clear H
                    go_wp2
                    go_meet
                    case rel => exact ⟨_, (true), (by first | rfl | (simp; done) | (simp [*]; done)), H', ⟨by have := HJ2.out; have := HJ19.out; have := HJ24.out; first | omega | exact Nat.le_refl _⟩, ⟨by repeat (first | (with_reducible first | exact HB.out | apply below_alloc | apply pw_below_drewN | apply below_drew1) | exact HB.out)⟩⟩
                case rest =>
                  clear HC27
                  try clear c1
                  try clear c2
                  try clear p2
                  try clear c3
                  try clear c5
                  try clear c6
                  try clear c6b0
                  try clear p6
                  try clear c8
                  try clear c8b0
                  try clear c9
                  try clear c10
                  try clear c10b0
                  try clear c11
                  try clear c14
                  try clear c16
                  try clear c20
                  try clear c24
                  try clear c24b0
                  try clear c26
                  try clear c26b0
                  try clear c28
                  try clear c29
                  try clear c29b0
                  try clear c29b1
                  try clear c32
                  try clear c32b0
                  try clear c32b1
                  try clear c35
                  try clear c35b0
                  try clear c35b1
                  try clear p2
                  obtain ⟨kq, x80_26, rfl, HA, HJ26, HB⟩ := hcut
                  cases kq with
                  | zero => exact absurd HA.out (by simp [debenturelaw01_NatNumbers.j3])
                  | succ kj26 =>
                    have H := HA.out
                    clear HA
                    simp only [debenturelaw01_NatNumbers.j3] at H
                    by_cases c48 : x80_26 = true
                    · subst c48
                      have H1 : (some false) = some r := by rw [if_pos rfl] at H; exact H
                      clear H
                      have H := H1
                      clear H1
                      exact absurd (H.trans (congrArg some hr_.out)) (by decide)
                    · replace c48 := Bool.eq_false_iff.mpr c48
                      subst c48
                      have H1 : ((nat_Div.f t103 t104).bind fun bt112 => (if (bt112.2.2 == (decide (a1 > 0))) = true then (if a1 = 0 then (some true) else (if (mx a1 1) = 0 then (none) else ((nat_Of.f (wrap64 (Int.tdiv a0 (mx a1 1)))).bind fun t115 => (if bt112.1.toList = t115.toList then ((nat_Of.f (Int.tmod a0 (mx a1 1))).bind fun t116 => (some (bt112.2.1.toList == t116.toList))) else (some false))))) else (some false))) = some r := by rw [if_neg (show ¬ (false = true) by decide)] at H; exact H
                      clear H
                      have H := H1
                      clear H1
                      replace H := Option.bind_eq_some_iff.mp H
                      obtain ⟨⟨t112, t113, t114⟩, A490, H⟩ := H
                      replace H : (if (t114 == (decide (a1 > 0))) = true then (if a1 = 0 then (some true) else (if (mx a1 1) = 0 then (none) else ((nat_Of.f (wrap64 (Int.tdiv a0 (mx a1 1)))).bind fun t115 => (if t112.toList = t115.toList then ((nat_Of.f (Int.tmod a0 (mx a1 1))).bind fun t116 => (some (t113.toList == t116.toList))) else (some false))))) else (some false)) = some r := H
                      have A49 := Aside0.mk A490
                      clear A490
                      by_cases c50 : (t114 == (decide (a1 > 0))) = true
                      · rw [if_pos c50] at H
                        have c50b0 : (t114 == (decide (a1 > 0))) = true := c50
                        (try (have c50b1 : decide (t114 = (decide (a1 > 0))) = true := by simpa using c50))
                        (try (have c50b2 : (t114 == (decide (a1 > 0))) = true := by simpa using c50))
                        clear c50
                        by_cases c51 : a1 = 0
                        · rw [if_pos c51] at H
                          have c51b0 : (a1 == 0) = true := beq_iff_eq.mpr c51
                          have c51b1 : (a1 != 0) = false := bne_eq_false_iff_eq.mpr c51
                          clear c51
                          obtain rfl := Option.some.inj H
                          go_wp2_with (first | ((with_reducible refine gate_callee (f := 14) rfl ?_); refine goesL_ (some 84) rfl rfl Tryd.func14 (by kernel_rfl) rfl #[.string t103, .string t104] rfl (by (try simp only [List.map_toArray, List.map_cons, List.map_nil]); first | done | rfl | (simp only [List.length_drop, List.length_take]; rfl)) ?_; (with_reducible refine (nat_Div.calls t103 t104 t112 t113 t114 _ ?side1 A49.out).mono ?_); (case side1 => exact Laid.below HLD.out (by repeat (first | (with_reducible first | exact HB.out | apply below_alloc | apply pw_below_drewN | apply below_drew1) | exact HB.out))); rintro e w52 ⟨rfl, hb⟩; refine ⟨_, rfl, ?_⟩; have n0_ := Aside0.mk (below_step (by repeat (first | (with_reducible first | exact HB.out | apply below_alloc | apply pw_below_drewN | apply below_drew1) | exact HB.out)) hb); clear HB; have HB := n0_; clear n0_; (try clear hb); (try clear hb2); (try clear hk); (try clear hi)))
                          go_ret
                          exact ⟨by first | rfl | (simp [errW_none, errW_some] <;> rfl) | (simp [*, errW_none, errW_some] <;> rfl), by repeat (first | (with_reducible first | exact HB.out | apply below_alloc | apply pw_below_drewN | apply below_drew1) | exact HB.out)⟩
                        · rw [if_neg c51] at H
                          have c51b0 : (a1 == 0) = false := beq_eq_false_iff_ne.mpr c51
                          have c51b1 : (a1 != 0) = true := bne_iff_ne.mpr c51
                          obtain ⟨ji53, hji53⟩ : ∃ j_ : Int, (mx a1 1) = j_ := ⟨_, rfl⟩
                          replace H : (if (ji53) = 0 then (none) else ((nat_Of.f (wrap64 (Int.tdiv a0 (ji53)))).bind fun t115 => (if t112.toList = t115.toList then ((nat_Of.f (Int.tmod a0 (ji53))).bind fun t116 => (some (t113.toList == t116.toList))) else (some false)))) = some r := by first | (rw [hji53] at H; exact H) | (simp only [hji53] at H ⊢; exact H)
                          (try rw [hji53] at A49)
                          have hji53_ : (if a1 < 1 then 1 else a1) = ji53 := hji53
                          by_cases c54 : (ji53) = 0
                          · rw [if_pos c54] at H
                            exact absurd H (by simp)
                          · rw [if_neg c54] at H
                            have c54b0 : ((ji53) == 0) = false := beq_eq_false_iff_ne.mpr c54
                            have c54b1 : ((ji53) != 0) = true := bne_iff_ne.mpr c54
                            replace H := Option.bind_eq_some_iff.mp H
                            obtain ⟨t115, A550, H⟩ := H
                            replace H : (if t112.toList = t115.toList then ((nat_Of.f (Int.tmod a0 (ji53))).bind fun t116 => (some (t113.toList == t116.toList))) else (some false)) = some r := H
                            have A55 := Aside0.mk A550
                            clear A550
                            by_cases c56 : t112.toList = t115.toList
                            · rw [if_pos c56] at H
                              have c56b0 : (t112.toList == t115.toList) = true := beq_iff_eq.mpr c56
                              have c56b1 : (t112.toList != t115.toList) = false := bne_eq_false_iff_eq.mpr c56
                              clear c56
                              replace H := Option.bind_eq_some_iff.mp H
                              obtain ⟨t116, A570, H⟩ := H
                              replace H : (some (t113.toList == t116.toList)) = some r := H
                              have A57 := Aside0.mk A570
                              clear A570
                              obtain rfl := Option.some.inj H
                              go_wp2_with (first | ((with_reducible refine gate_callee (f := 14) rfl ?_); refine goesL_ (some 84) rfl rfl Tryd.func14 (by kernel_rfl) rfl #[.string t103, .string t104] rfl (by (try simp only [List.map_toArray, List.map_cons, List.map_nil]); first | done | rfl | (simp only [List.length_drop, List.length_take]; rfl)) ?_; (with_reducible refine (nat_Div.calls t103 t104 t112 t113 t114 _ ?side1 A49.out).mono ?_); (case side1 => exact Laid.below HLD.out (by repeat (first | (with_reducible first | exact HB.out | apply below_alloc | apply pw_below_drewN | apply below_drew1) | exact HB.out))); rintro e w58 ⟨rfl, hb⟩; refine ⟨_, rfl, ?_⟩; have n0_ := Aside0.mk (below_step (by repeat (first | (with_reducible first | exact HB.out | apply below_alloc | apply pw_below_drewN | apply below_drew1) | exact HB.out)) hb); clear HB; have HB := n0_; clear n0_; (try clear hb); (try clear hb2); (try clear hk); (try clear hi)) | (go_at_call 20; (with_reducible refine (nat_Of.calls (wrap64 (Int.tdiv a0 (ji53))) t115 _ ?side1 A55.out).mono ?_); (case side1 => exact Laid.below HLD.out (by repeat (first | (with_reducible first | exact HB.out | apply below_alloc | apply pw_below_drewN | apply below_drew1) | exact HB.out))); rintro e w59 ⟨rfl, hb⟩; have n0_ := Aside0.mk (below_step (by repeat (first | (with_reducible first | exact HB.out | apply below_alloc | apply pw_below_drewN | apply below_drew1) | exact HB.out)) hb); clear HB; have HB := n0_; clear n0_; (try clear hb); (try clear hb2); (try clear hk); (try clear hi)) | (go_at_call 20; (with_reducible refine (nat_Of.calls (Int.tmod a0 (ji53)) t116 _ ?side1 A57.out).mono ?_); (case side1 => exact Laid.below HLD.out (by repeat (first | (with_reducible first | exact HB.out | apply below_alloc | apply pw_below_drewN | apply below_drew1) | exact HB.out))); rintro e w60 ⟨rfl, hb⟩; have n0_ := Aside0.mk (below_step (by repeat (first | (with_reducible first | exact HB.out | apply below_alloc | apply pw_below_drewN | apply below_drew1) | exact HB.out)) hb); clear HB; have HB := n0_; clear n0_; (try clear hb); (try clear hb2); (try clear hk); (try clear hi)))
                              go_ret
                              exact ⟨by first | rfl | (simp [errW_none, errW_some] <;> rfl) | (simp only [← hji53]; first | rfl | (simp [errW_none, errW_some] <;> rfl)) | (simp [*, errW_none, errW_some] <;> rfl), by repeat (first | (with_reducible first | exact HB.out | apply below_alloc | apply pw_below_drewN | apply below_drew1) | exact HB.out)⟩
                            · rw [if_neg c56] at H
                              have c56b0 : (t112.toList == t115.toList) = false := beq_eq_false_iff_ne.mpr c56
                              have c56b1 : (t112.toList != t115.toList) = true := bne_iff_ne.mpr c56
                              exact absurd (H.trans (congrArg some hr_.out)) (by decide)
                      · rw [if_neg c50] at H
                        have c50b0 : (t114 == (decide (a1 > 0))) = false := by simpa using c50
                        (try (have c50b1 : decide (t114 = (decide (a1 > 0))) = false := by simpa using c50))
                        (try (have c50b2 : (t114 == (decide (a1 > 0))) = false := by simpa using c50))
                        (try (have c50b3 : ¬ (t114 = (decide (a1 > 0))) := by simpa using c50))
                        clear c50
                        exact absurd (H.trans (congrArg some hr_.out)) (by decide)
end Go.Proofs.YtmcpiejgneegjaaDoor.LNatNumbers

end

/-
The law NatNumbers, told by numbers.
-/
section
set_option linter.unusedVariables false
namespace Go.Proofs.YtmcpiejgneegjaaDoor
open Go.RowKit Go.Proofs.YtmcpiejgneegjaaDoorW.PrintWords Go.Proofs.YtmcpiejgneegjaaDoorW.PrintLast Go.Proofs.YtmcpiejgneegjaaDoorW.PrintMore

/-! ### Small numbers -/
theorem sz_small {n : Nat} (h : n ≤ 9223372036854775807) : sz n ≤ 50000 := Nat.le_trans (sz_le (k := 19) (by omega) (by omega)) (by omega)
theorem pureNatNumbers (a0 a1 : Int) (w0 : (Lit.int .i64 a0).wf = true) (w1 : (Lit.int .i64 a1).wf = true) : ∃ k, LNatNumbers.debenturelaw01_NatNumbers.f k a0 a1 = some true := by
  refine ⟨6, ?_⟩
  unfold LNatNumbers.debenturelaw01_NatNumbers.f debenturelaw01_fixed.f
  have hj : LNatNumbers.debenturelaw01_NatNumbers.j0 6 a0 a1 true = some true := by
    simp only [LNatNumbers.debenturelaw01_NatNumbers.j0]
    rfl
  rw [Option.bind_some, if_pos rfl]
  by_cases h1 : a0 < 0
  · rw [if_pos h1]; exact hj
  by_cases h2 : a1 < 0
  · rw [if_neg h1, if_pos h2]; exact hj
  by_cases h3 : a0 > 1073741824
  · rw [if_neg h1, if_neg h2, if_pos h3]; exact hj
  by_cases h4 : a1 > 1073741824
  · rw [if_neg h1, if_neg h2, if_neg h3, decide_eq_true h4]; exact hj
  rw [if_neg h1, if_neg h2, if_neg h3, decide_eq_false h4]
  obtain ⟨m, rfl⟩ := Int.eq_ofNat_of_zero_le (show 0 ≤ a0 by omega)
  obtain ⟨n, rfl⟩ := Int.eq_ofNat_of_zero_le (show 0 ≤ a1 by omega)
  have hm : m ≤ 1073741824 := by omega
  have hn : n ≤ 1073741824 := by omega
  have zm := sz_small (n := m) (by omega)
  have zn := sz_small (n := n) (by omega)
  have hmul : m * n ≤ 1073741824 * 1073741824 := Nat.mul_le_mul hm hn
  have hmul' : m * n ≤ 1152921504606846976 := hmul
  clear h1 h2 h3 h4 w0 w1 hj hmul
  -- the last part
  have last : ∀ k, LNatNumbers.debenturelaw01_NatNumbers.j3 (k + 1) (m : Int) (n : Int) (natB m) (natB n) false = some true := by
    intro k
    simp only [LNatNumbers.debenturelaw01_NatNumbers.j3]
    rw [if_neg (by decide)]
    by_cases hz : n = 0
    · subst hz
      rw [fDiv0 zm, Option.bind_some]
      rfl
    · have hd1 := Nat.div_le_self m n
      have hd2 := Nat.mod_le m n
      have c1 : (m : Int) / (n : Int) = ((m / n : Nat) : Int) := (Int.natCast_ediv m n).symm
      have c2 : (m : Int) % (n : Int) = ((m % n : Nat) : Int) := (Int.natCast_emod m n).symm
      have e1 : mx (n : Int) 1 = (n : Int) := by
        unfold mx
        split <;> omega
      rw [fDiv zm zn hz, Option.bind_some, decide_eq_true (by omega : (n : Int) > 0), if_pos (by rfl), if_neg (by omega), e1, if_neg (by omega), Int.tdiv_eq_ediv_of_nonneg (by omega), Int.tmod_eq_emod_of_nonneg (by omega), c1, c2]
      clear c1 c2 e1
      generalize m / n = q at *
      generalize m % n = r at *
      rw [w64 (by omega) (by omega), fOf (by omega), Option.bind_some, if_pos rfl, fOf (by omega), Option.bind_some, natB_beq, decide_eq_true rfl]
  have mid : ∀ k (c : Int), c = Lib.compareInt (m : Int) (n : Int) → LNatNumbers.debenturelaw01_NatNumbers.j2 (k + 2) (m : Int) (n : Int) (natB m) (natB n) (m : Int) true c = some true := by
    intro k c hc
    have e1 : wrap64 ((m : Int) + (n : Int)) = ((m + n : Nat) : Int) := by rw [w64 (by omega) (by omega)]; omega
    have e2 : wrap64 ((m : Int) * (n : Int)) = ((m * n : Nat) : Int) := by rw [← Int.natCast_mul, w64 (by omega) (by omega)]
    show LNatNumbers.debenturelaw01_NatNumbers.j2 (k + 1 + 1) (m : Int) (n : Int) (natB m) (natB n) (m : Int) true c = some true
    simp only [LNatNumbers.debenturelaw01_NatNumbers.j2]
    rw [e1, e2]
    clear e1 e2
    rw [if_pos trivial, if_pos trivial, fAdd zm zn, Option.bind_some, fOf (by omega), Option.bind_some, if_pos rfl, fMul zm zn, Option.bind_some, fOf (by omega), Option.bind_some, if_pos rfl, fCmp zm zn, Option.bind_some, hc]
    have : (Lib.compareInt (m : Int) (n : Int) != Lib.compareInt (m : Int) (n : Int)) = false := by simp
    rw [this]
    exact last k
  simp only [LNatNumbers.debenturelaw01_NatNumbers.j0]
  rw [if_neg (by decide), fOf (by omega), Option.bind_some, fOf (by omega), Option.bind_some, fSmall zm (by omega), Option.bind_some]
  by_cases hlt : (m : Int) < (n : Int)
  · rw [if_pos hlt]
    simp only [LNatNumbers.debenturelaw01_NatNumbers.j1]
    rw [if_neg (by omega)]
    exact mid _ _ (cmpI_lt (by omega)).symm
  · rw [if_neg hlt]
    simp only [LNatNumbers.debenturelaw01_NatNumbers.j1]
    by_cases hgt : (m : Int) > (n : Int)
    · rw [if_pos hgt]
      exact mid _ _ (cmpI_gt (by omega)).symm
    · rw [if_neg hgt]
      exact mid _ _ (cmpI_eq (by omega)).symm
end Go.Proofs.YtmcpiejgneegjaaDoor

end

/-
The law NatNumbers holds at every input: its row, and its card, tied to the program's text.
Conditions: none beyond the given row's own.
-/
section
namespace Go.Proofs.YtmcpiejgneegjaaDoor.natNumbers
open Go.ChangeShapes Go.WideShapes Go.ChangeAt Go.RowKit
open Go.ChangeMaps (open_string shut_string)
set_option linter.unusedVariables false
set_option maxRecDepth 100000 in
theorem lifted (os : Os) (started : os.Started) (H : Type) (enc : TypeId × Value → H) :
    ReturnsInHanded {} Tryd.checked os 9 .any (fun w args => (Rows.natNumbersSpec.pre enc Tryd.prog Tryd.f9 Rows.natNumbersRow.domain false w args ∧ laidMetH Tryd.prog laidL w) ∧ sizedMet enc Tryd.prog Tryd.f9 (OpenSpec.ofChange Rows.natNumbersSpec) false w args)
      (Rows.natNumbersSpec.post enc Tryd.prog Tryd.f9 false true false false) := by
  refine returnsInHanded_of_change_and (C := Tryd.checked) (X := fun w _ => laidMetH Tryd.prog laidL w) (fun _ _ _ hh h => h.of_heap hh) own started (by kernel_rfl) Tryd.func9
    (ChangeSpec.witness_shaped (enc := enc) (C := Tryd.checked) (os := os) (X := fun w _ => laidMetH Tryd.prog laidL w) false (World.doorLaid Tryd.prog 4000 os) #[.int .i64 0, .int .i64 0] 8 rfl (World.shaped_of_RefB (by kernel_rfl) (by kernel_rfl)) (by kernel_rfl) (by kernel_rfl) (by kernel_rfl) (door_met os _)) ?_
  intro W base args ds gs before hval0 hW _ hsz0 hL _
  have hsz : (DataW.weightsEach Tryd.prog (Tryd.f9.params.toList ++ Rows.natNumbersSpec.plain.varTypes Tryd.prog) (ds ++ gs)).all (· ≤ reachBytes) = true := hsz0
  have hval : ∀ (j : Nat) t v, Tryd.f9.params[j]? = some t → args[j]? = some v → Value.okWide Tryd.prog W .any base t v := hval0
  have hW' := hW
  obtain ⟨p, q, hA0, hV, rfl, hfz, hnd⟩ := hW
  have hA : DataW.TrodAll enc Tryd.prog W 0 (fun _ => true) true Tryd.f9.params.toList args.toList ds p := hA0
  rw [Tryd.params9] at hA hval hsz
  obtain ⟨v0, vs0, d0, ds0, p0, q0, hargs, rfl, rfl, h0, r0⟩ := trodAll_cons hA
  obtain ⟨v1, vs1, d1, ds1, p1, q1, rfl, rfl, rfl, h1, r1⟩ := trodAll_cons r0
  obtain ⟨rfl, rfl, rfl⟩ := trodAll_nil r1
  obtain rfl : args = #[v0, v1] := by cases args; simp_all
  obtain ⟨rfl, rfl⟩ := trodVars_none hV
  obtain ⟨a0, rfl, rfl, rfl, w0⟩ := open_int Tryd.underlying3 (hval 0 3 v0 rfl rfl) h0
  obtain ⟨a1, rfl, rfl, rfl, w1⟩ := open_int Tryd.underlying3 (hval 1 3 v1 rfl rfl) h1
  clear hA0 hval0 hsz0 hsz
  obtain ⟨k, hf⟩ := pureNatNumbers a0 a1 w0 w1
  refine (LNatNumbers.debenturelaw01_NatNumbers.calls k a0 a1 true W (laid_of hL) ⟨rfl⟩ hf).mono fun e W' ⟨he, bel⟩ => ?_
  subst he
  exact ⟨_, rfl, _, _, _, [], _, [], hW', trodAll_mk1 (shut_bool Tryd.underlying4 _), (trodAll_cons_mk (shut_int Tryd.underlying3 w0) (trodAll_cons_mk (shut_int Tryd.underlying3 w1) trodAll_mk0)), rfl, bel.frame _, fun h => by cases h⟩
theorem over : Rows.NatNumbersSaid :=
  OpenClaim.holds_of_wide 9 Tryd.f9 rfl rfl rfl rfl rfl rfl rfl ⟨rfl, rfl, rfl, rfl, rfl⟩ rfl rfl rfl rfl rfl (by kernel_rfl) Tryd.func9 (by kernel_rfl)
    (of_decide_eq_true (by kernel_rfl)) (by unfold Func.isWrapper; first | (rw [if_pos (by decide +kernel)]; kernel_rfl) | (rw [if_neg (by decide +kernel)]; exact ⟨rfl, rfl⟩))
    (fun os started H enc _ => lifted os started H enc)
theorem proved : Rows.NatNumbersCardSaid :=
  Claim7.holds_tied_plain_at .later [] [.data, .data, .data, .sentinel, .sentinel] true (true, "d5ab43be80e0f9512f94eeafcac67ad3748b237780a8a3f2ad52dc7fafa3345f") true
    over (fun _ h => by cases h) (by kernel_rfl) (fun _ h => by cases h) natNumbers_row_tie rfl ⟨rfl, rfl⟩ (by kernel_rfl) rfl
    (fun f fn hf hfn => by
      obtain rfl : f = 9 := Option.some.inj ((show Tryd.prog.funcNamed "debenture/debenturelaw01.NatNumbers" = some 9 by kernel_rfl).symm.trans hf) |>.symm
      obtain rfl : fn = Tryd.f9 := (Option.some.inj (Tryd.func9.symm.trans hfn)).symm
      exact ⟨by kernel_rfl, fun j t ht => by
        rw [Tryd.params9] at ht
        have hm : t ∈ [3, 3] := by simpa using Array.mem_of_getElem? ht
        have hall : ([3, 3].all fun u => !Tryd.prog.wantsStandIn u) = true := by kernel_rfl
        exact (show Tryd.prog.wantsStandIn t = false by simpa using List.all_eq_true.1 hall t hm)⟩)
    (by kernel_rfl)
end Go.Proofs.YtmcpiejgneegjaaDoor.natNumbers
namespace Go.Proofs.YtmcpiejgneegjaaDoor
/-- The card, under a short name, for the claim. -/
theorem natNumbers_holds : Rows.NatNumbersCardSaid := natNumbers.proved
#print axioms natNumbers_holds
end Go.Proofs.YtmcpiejgneegjaaDoor

end
