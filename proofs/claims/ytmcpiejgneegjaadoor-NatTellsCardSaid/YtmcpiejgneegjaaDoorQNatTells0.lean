/-
The law NatTells holds at every input: its row, and its card, tied to the program's text. Conditions: none beyond the given row's own.
Parts of the proof, in build order: PuBase, LNatTells0, LNatTells1, PuNatTells, RowNatTells.
-/
import Derived.Test.YtmcpiejgneegjaaDoorC5
import Derived.Test.YtmcpiejgneegjaaDoorProg
import Derived.Below
import Derived.Deep.Draws
import Derived.Deep.AppendLies
import Derived.Maps.AppendAt
import Derived.OwnWalk
import Derived.Laws.BytesArg
import Derived.Laws.MakeOwn
import Derived.Laws.OwnMore
import Derived.Deep.OwnRows
import Derived.Tactics
import Derived.Lib.ConvBytes
import Derived.Laws.Slices
import Derived.WalkKit
import Derived.KernelRfl
import Derived.RowKit3
import Derived.Deep.LoopGhost
import Derived.Deep.QuietTactic
import Derived.BigQuiet
import Derived.WideLaws
import Derived.Deep.DeepCutAuto
import Derived.Deep.CutBlock
import Derived.Deep.RegionHeld3
import Derived.Laws.Rows
import Derived.Lib.AppendStr
import Derived.ArgAppend
import Derived.Laws.IdiomCopy
import Derived.OrdersHeld
import Derived.Laws.BitsLemmas
import Derived.RowKit
import Derived.Test.YtmcpiejgneegjaaDoorC0
import Derived.Test.YtmcpiejgneegjaaDoorTie
import Derived.Test.YtmcpiejgneegjaaDoorCards
import Derived.SevenTiedAt
/-
What the laws of naturals share.
-/
section
set_option linter.unusedVariables false
namespace Go.Proofs.YtmcpiejgneegjaaDoor
open Go.RowKit Go.Proofs.YtmcpiejgneegjaaDoorW.PrintWords Go.Proofs.YtmcpiejgneegjaaDoorW.PrintLast Go.Proofs.YtmcpiejgneegjaaDoorW.PrintMore

theorem shorts3 {a b c : ByteArray} : debentureref01_Short.f [a, b, c] = some (shortT a && (shortT b && shortT c)) := by
  rw [rShort (by simp)]
  simp [List.all_cons]
theorem shorts2 {a b : ByteArray} : debentureref01_Short.f [a, b] = some (shortT a && shortT b) := by
  rw [rShort (by simp)]
  simp [List.all_cons]
theorem cmpI_cases (m n : Nat) : (m < n ∧ Lib.compareInt (m : Int) (n : Int) = -1 ∧ Lib.compareInt (n : Int) (m : Int) = 1) ∨ (m = n ∧ Lib.compareInt (m : Int) (n : Int) = 0 ∧ Lib.compareInt (n : Int) (m : Int) = 0) ∨ (n < m ∧ Lib.compareInt (m : Int) (n : Int) = 1 ∧ Lib.compareInt (n : Int) (m : Int) = -1) := by
  rcases Nat.lt_trichotomy m n with h | h | h
  · exact .inl ⟨h, cmpI_lt h, cmpI_gt h⟩
  · exact .inr (.inl ⟨h, cmpI_eq h, cmpI_eq h.symm⟩)
  · exact .inr (.inr ⟨h, cmpI_gt h, cmpI_lt h⟩)

theorem wf_i64 {n : Int} (h : (Lit.int .i64 n).wf = true) : -9223372036854775808 ≤ n ∧ n ≤ 9223372036854775807 := by
  have e1 : IntKind.i64.min = -9223372036854775808 := rfl
  have e2 : IntKind.i64.max = 9223372036854775807 := rfl
  simp [Lit.wf, e1, e2] at h
  exact h
theorem bne_same {α : Type} [BEq α] [LawfulBEq α] (a : α) : ¬ (a != a) = true := by simp

end Go.Proofs.YtmcpiejgneegjaaDoor

end

-- Written by wip/pp.py of this place (over the kit's print) out of the translation.
section
namespace Go.Proofs.YtmcpiejgneegjaaDoor.LNatTells
open Go.RowKit Go.Proofs.YtmcpiejgneegjaaDoorW.PrintWords Go.Proofs.YtmcpiejgneegjaaDoorW.PrintLast Go.Proofs.YtmcpiejgneegjaaDoorW.PrintMore
attribute [local go_sem] max2_int min2_int max_two min_two max_three min_three max_four min_four   -- for this text's walks alone
set_option linter.unusedVariables false
set_option linter.unusedSimpArgs false



def errW : Option Int → Value
  | none => .nilIface
  | some c => .iface 0 (.int .i64 c)
theorem errW_none : errW none = .nilIface := rfl
theorem errW_some (c : Int) : errW (some c) = .iface 0 (.int .i64 c) := rfl

theorem info9 : (Tryd.prog.info? 9).map (fun i => (i.zero, i.size, i.bytes)) = some (some (.string ⟨#[]⟩), 1, 16) := by kernel_rfl
-- the values' own types

end Go.Proofs.YtmcpiejgneegjaaDoor.LNatTells

end

-- Written by wip/pp.py of this place (over the kit's print) out of the translation.
section
namespace Go.Proofs.YtmcpiejgneegjaaDoor.LNatTells
open Go.RowKit Go.Proofs.YtmcpiejgneegjaaDoorW.PrintWords Go.Proofs.YtmcpiejgneegjaaDoorW.PrintLast Go.Proofs.YtmcpiejgneegjaaDoorW.PrintMore
attribute [local go_sem] max2_int min2_int max_two min_two max_three min_three max_four min_four   -- for this text's walks alone
set_option linter.unusedVariables false
set_option linter.unusedSimpArgs false

-- walked by hand: function 10 (debentureref01_Short)

-- walked by hand: function 11 (debenturelaw01_fixed)

-- walked by hand: function 12 (nat_Sub)

-- walked by hand: function 13 (debentureref01_Sub)

-- walked by hand: function 14 (nat_Div)

-- walked by hand: function 15 (debentureref01_Div)

-- walked by hand: function 16 (nat_Small)

-- walked by hand: function 17 (debentureref01_Small)

-- walked by hand: function 18 (nat_May)

-- walked by hand: function 19 (debentureref01_May)

-- walked by hand: function 20 (nat_Of)

-- walked by hand: function 21 (debentureref01_Of)

-- walked by hand: function 22 (nat_Cmp)

-- walked by hand: function 23 (debentureref01_Cmp)

-- walked by hand: function 24 (nat_Add)

-- walked by hand: function 25 (debentureref01_Add)

-- walked by hand: function 26 (nat_Mul)

-- walked by hand: function 27 (debentureref01_Mul)

-- walked by hand: function 28 (nat_Gcd)

-- walked by hand: function 29 (debentureref01_Gcd)

/-! ### debenturelaw01_NatTells: function 3 -/
def debenturelaw01_NatTells.j0 : Nat → ByteArray → ByteArray → Bool → Option (Bool)
  | 0, _, _, _ => none
  | k + 1, x0, x1, x109 => if x109 = true then (some false) else ((debenturelaw01_fixed.f).bind fun t124 => (if t124 = true then ((nat_Cmp.f x0 x1).bind fun t125 => ((debentureref01_Cmp.f x0 x1).bind fun t126 => (if t125 = t126 then ((nat_Add.f x0 x1).bind fun t127 => ((debentureref01_Add.f x0 x1).bind fun t128 => (if t127.toList = t128.toList then ((nat_Mul.f x0 x1).bind fun t129 => ((debentureref01_Mul.f x0 x1).bind fun t130 => (if t129.toList = t130.toList then ((nat_Gcd.f x0 x1).bind fun t131 => ((debentureref01_Gcd.f x0 x1).bind fun t132 => (some (t131.toList == t132.toList)))) else (some false)))) else (some false)))) else (some false)))) else (some false)))
def debenturelaw01_NatTells.f (k : Nat) (a0 : ByteArray) (a1 : ByteArray) (a2 : Int) : Option (Bool) := (debentureref01_Short.f (([a0, a1] : List ByteArray))).bind fun t104 => (if t104 = true then ((nat_Sub.f a0 a1).bind fun bt106 => ((debentureref01_Sub.f a0 a1).bind fun bt108 => ((nat_Div.f a0 a1).bind fun bt110 => ((debentureref01_Div.f a0 a1).bind fun bt113 => ((nat_Small.f a0).bind fun bt116 => ((debentureref01_Small.f a0).bind fun bt118 => (if bt106.1.toList = bt108.1.toList then (if (bt106.2 != bt108.2) = true then (debenturelaw01_NatTells.j0 k a0 a1 true) else (if bt110.1.toList = bt113.1.toList then (if bt110.2.1.toList = bt113.2.1.toList then (if (bt110.2.2 != bt113.2.2) = true then (debenturelaw01_NatTells.j0 k a0 a1 true) else (if bt116.1 = bt118.1 then (if (bt116.2 != bt118.2) = true then (debenturelaw01_NatTells.j0 k a0 a1 true) else ((nat_May.f a0).bind fun t120 => ((debentureref01_May.f a0).bind fun t121 => (if (t120 != t121) = true then (debenturelaw01_NatTells.j0 k a0 a1 true) else ((nat_Of.f a2).bind fun t122 => ((debentureref01_Of.f a2).bind fun t123 => (debenturelaw01_NatTells.j0 k a0 a1 (t122.toList != t123.toList)))))))) else (debenturelaw01_NatTells.j0 k a0 a1 true))) else (debenturelaw01_NatTells.j0 k a0 a1 true)) else (debenturelaw01_NatTells.j0 k a0 a1 true))) else (debenturelaw01_NatTells.j0 k a0 a1 true)))))))) else ((debenturelaw01_fixed.f).bind fun t105 => (some t105)))
theorem debenturelaw01_NatTells.mono_l : ∀ k, (∀ y0 y1 y2, LeO (debenturelaw01_NatTells.j0 k y0 y1 y2) (debenturelaw01_NatTells.j0 (k + 1) y0 y1 y2))
  | 0 => fun _ _ _ r h => by simp [debenturelaw01_NatTells.j0] at h
  | k + 1 => by
    have ih0 := debenturelaw01_NatTells.mono_l k
    · intro y0 y1 y2
      unfold debenturelaw01_NatTells.j0
      repeat' first
      | (with_reducible exact ih0 _ _ _)
      | (with_reducible exact LeO.refl _)
      | (with_reducible exact LeO.none _)
      | (with_reducible refine LeO.ite ?_ ?_)
      | (with_reducible refine LeO.bind ?_ (fun _ => ?_))
      | exact ih0 _ _ _
      | exact LeO.none _
      | refine LeO.ite ?_ ?_
      | refine LeO.bind ?_ (fun _ => ?_)
theorem debenturelaw01_NatTells.mono : ∀ a0 a1 a2 k, LeO (debenturelaw01_NatTells.f k a0 a1 a2) (debenturelaw01_NatTells.f (k + 1) a0 a1 a2) := by
  intro a0 a1 a2 k
  have ih0 := debenturelaw01_NatTells.mono_l k
  unfold debenturelaw01_NatTells.f
  repeat' first
      | (with_reducible exact ih0 _ _ _)
      | (with_reducible exact LeO.refl _)
      | (with_reducible exact LeO.none _)
      | (with_reducible refine LeO.ite ?_ ?_)
      | (with_reducible refine LeO.bind ?_ (fun _ => ?_))
      | exact ih0 _ _ _
      | exact LeO.none _
      | refine LeO.ite ?_ ?_
      | refine LeO.bind ?_ (fun _ => ?_)
set_option maxHeartbeats 8000000 in
set_option maxRecDepth 100000 in
theorem debenturelaw01_NatTells.calls (k : Nat) (a0 : ByteArray) (a1 : ByteArray) (a2 : Int) (r : Bool) (w : World) (hL_ : Laid w) (hr_ : Aside0 (r = true)) (h : debenturelaw01_NatTells.f k a0 a1 a2 = some r) :
    Calls Tryd.prog 3 #[.string a0, .string a1, .int .i64 a2] w fun e w' => e = .returned (.bool r) ∧ Below w.heap.size w w' := by
  have HLD := Aside0.mk hL_
  clear hL_
  have HB := Aside0.mk (Below.refl w.heap.size w)
  have H : ((debentureref01_Short.f (([a0, a1] : List ByteArray))).bind fun t104 => (if t104 = true then ((nat_Sub.f a0 a1).bind fun bt106 => ((debentureref01_Sub.f a0 a1).bind fun bt108 => ((nat_Div.f a0 a1).bind fun bt110 => ((debentureref01_Div.f a0 a1).bind fun bt113 => ((nat_Small.f a0).bind fun bt116 => ((debentureref01_Small.f a0).bind fun bt118 => (if bt106.1.toList = bt108.1.toList then (if (bt106.2 != bt108.2) = true then (debenturelaw01_NatTells.j0 k a0 a1 true) else (if bt110.1.toList = bt113.1.toList then (if bt110.2.1.toList = bt113.2.1.toList then (if (bt110.2.2 != bt113.2.2) = true then (debenturelaw01_NatTells.j0 k a0 a1 true) else (if bt116.1 = bt118.1 then (if (bt116.2 != bt118.2) = true then (debenturelaw01_NatTells.j0 k a0 a1 true) else ((nat_May.f a0).bind fun t120 => ((debentureref01_May.f a0).bind fun t121 => (if (t120 != t121) = true then (debenturelaw01_NatTells.j0 k a0 a1 true) else ((nat_Of.f a2).bind fun t122 => ((debentureref01_Of.f a2).bind fun t123 => (debenturelaw01_NatTells.j0 k a0 a1 (t122.toList != t123.toList)))))))) else (debenturelaw01_NatTells.j0 k a0 a1 true))) else (debenturelaw01_NatTells.j0 k a0 a1 true)) else (debenturelaw01_NatTells.j0 k a0 a1 true))) else (debenturelaw01_NatTells.j0 k a0 a1 true)))))))) else ((debenturelaw01_fixed.f).bind fun t105 => (some t105)))) = some r := h
  clear h
  obtain ⟨y101, hy101⟩ : ∃ y_ : List ByteArray, y_ = (([a0, a1] : List ByteArray)) := ⟨_, rfl⟩
  replace H : ((debentureref01_Short.f y101).bind fun t104 => (if t104 = true then ((nat_Sub.f a0 a1).bind fun bt106 => ((debentureref01_Sub.f a0 a1).bind fun bt108 => ((nat_Div.f a0 a1).bind fun bt110 => ((debentureref01_Div.f a0 a1).bind fun bt113 => ((nat_Small.f a0).bind fun bt116 => ((debentureref01_Small.f a0).bind fun bt118 => (if bt106.1.toList = bt108.1.toList then (if (bt106.2 != bt108.2) = true then (debenturelaw01_NatTells.j0 k a0 a1 true) else (if bt110.1.toList = bt113.1.toList then (if bt110.2.1.toList = bt113.2.1.toList then (if (bt110.2.2 != bt113.2.2) = true then (debenturelaw01_NatTells.j0 k a0 a1 true) else (if bt116.1 = bt118.1 then (if (bt116.2 != bt118.2) = true then (debenturelaw01_NatTells.j0 k a0 a1 true) else ((nat_May.f a0).bind fun t120 => ((debentureref01_May.f a0).bind fun t121 => (if (t120 != t121) = true then (debenturelaw01_NatTells.j0 k a0 a1 true) else ((nat_Of.f a2).bind fun t122 => ((debentureref01_Of.f a2).bind fun t123 => (debenturelaw01_NatTells.j0 k a0 a1 (t122.toList != t123.toList)))))))) else (debenturelaw01_NatTells.j0 k a0 a1 true))) else (debenturelaw01_NatTells.j0 k a0 a1 true)) else (debenturelaw01_NatTells.j0 k a0 a1 true))) else (debenturelaw01_NatTells.j0 k a0 a1 true)))))))) else ((debenturelaw01_fixed.f).bind fun t105 => (some t105)))) = some r := by first | (rw [hy101]; with_reducible exact H) | (have H2_ := (Option.bind_some _ _).symm.trans H; rw [hy101]; with_reducible exact H2_) | (have H2_ := (Option.bind_some _ _).symm.trans H; with_reducible exact H2_) | with_reducible exact H | (rw [hy101]; exact H) | exact H
  have Ny101 := Aside0.mk hy101
  clear hy101
  replace H := Option.bind_eq_some_iff.mp H
  obtain ⟨t104, A40, H⟩ := H
  replace H : (if t104 = true then ((nat_Sub.f a0 a1).bind fun bt106 => ((debentureref01_Sub.f a0 a1).bind fun bt108 => ((nat_Div.f a0 a1).bind fun bt110 => ((debentureref01_Div.f a0 a1).bind fun bt113 => ((nat_Small.f a0).bind fun bt116 => ((debentureref01_Small.f a0).bind fun bt118 => (if bt106.1.toList = bt108.1.toList then (if (bt106.2 != bt108.2) = true then (debenturelaw01_NatTells.j0 k a0 a1 true) else (if bt110.1.toList = bt113.1.toList then (if bt110.2.1.toList = bt113.2.1.toList then (if (bt110.2.2 != bt113.2.2) = true then (debenturelaw01_NatTells.j0 k a0 a1 true) else (if bt116.1 = bt118.1 then (if (bt116.2 != bt118.2) = true then (debenturelaw01_NatTells.j0 k a0 a1 true) else ((nat_May.f a0).bind fun t120 => ((debentureref01_May.f a0).bind fun t121 => (if (t120 != t121) = true then (debenturelaw01_NatTells.j0 k a0 a1 true) else ((nat_Of.f a2).bind fun t122 => ((debentureref01_Of.f a2).bind fun t123 => (debenturelaw01_NatTells.j0 k a0 a1 (t122.toList != t123.toList)))))))) else (debenturelaw01_NatTells.j0 k a0 a1 true))) else (debenturelaw01_NatTells.j0 k a0 a1 true)) else (debenturelaw01_NatTells.j0 k a0 a1 true))) else (debenturelaw01_NatTells.j0 k a0 a1 true)))))))) else ((debenturelaw01_fixed.f).bind fun t105 => (some t105))) = some r := H
  have A4 := Aside0.mk A40
  clear A40
  by_cases c5 : t104 = true
  · subst c5
    have H1 : ((nat_Sub.f a0 a1).bind fun bt106 => ((debentureref01_Sub.f a0 a1).bind fun bt108 => ((nat_Div.f a0 a1).bind fun bt110 => ((debentureref01_Div.f a0 a1).bind fun bt113 => ((nat_Small.f a0).bind fun bt116 => ((debentureref01_Small.f a0).bind fun bt118 => (if bt106.1.toList = bt108.1.toList then (if (bt106.2 != bt108.2) = true then (debenturelaw01_NatTells.j0 k a0 a1 true) else (if bt110.1.toList = bt113.1.toList then (if bt110.2.1.toList = bt113.2.1.toList then (if (bt110.2.2 != bt113.2.2) = true then (debenturelaw01_NatTells.j0 k a0 a1 true) else (if bt116.1 = bt118.1 then (if (bt116.2 != bt118.2) = true then (debenturelaw01_NatTells.j0 k a0 a1 true) else ((nat_May.f a0).bind fun t120 => ((debentureref01_May.f a0).bind fun t121 => (if (t120 != t121) = true then (debenturelaw01_NatTells.j0 k a0 a1 true) else ((nat_Of.f a2).bind fun t122 => ((debentureref01_Of.f a2).bind fun t123 => (debenturelaw01_NatTells.j0 k a0 a1 (t122.toList != t123.toList)))))))) else (debenturelaw01_NatTells.j0 k a0 a1 true))) else (debenturelaw01_NatTells.j0 k a0 a1 true)) else (debenturelaw01_NatTells.j0 k a0 a1 true))) else (debenturelaw01_NatTells.j0 k a0 a1 true)))))))) = some r := by rw [if_pos rfl] at H; exact H
    clear H
    have H := H1
    clear H1
    replace H := Option.bind_eq_some_iff.mp H
    obtain ⟨⟨t106, t107⟩, A60, H⟩ := H
    replace H : ((debentureref01_Sub.f a0 a1).bind fun bt108 => ((nat_Div.f a0 a1).bind fun bt110 => ((debentureref01_Div.f a0 a1).bind fun bt113 => ((nat_Small.f a0).bind fun bt116 => ((debentureref01_Small.f a0).bind fun bt118 => (if t106.toList = bt108.1.toList then (if (t107 != bt108.2) = true then (debenturelaw01_NatTells.j0 k a0 a1 true) else (if bt110.1.toList = bt113.1.toList then (if bt110.2.1.toList = bt113.2.1.toList then (if (bt110.2.2 != bt113.2.2) = true then (debenturelaw01_NatTells.j0 k a0 a1 true) else (if bt116.1 = bt118.1 then (if (bt116.2 != bt118.2) = true then (debenturelaw01_NatTells.j0 k a0 a1 true) else ((nat_May.f a0).bind fun t120 => ((debentureref01_May.f a0).bind fun t121 => (if (t120 != t121) = true then (debenturelaw01_NatTells.j0 k a0 a1 true) else ((nat_Of.f a2).bind fun t122 => ((debentureref01_Of.f a2).bind fun t123 => (debenturelaw01_NatTells.j0 k a0 a1 (t122.toList != t123.toList)))))))) else (debenturelaw01_NatTells.j0 k a0 a1 true))) else (debenturelaw01_NatTells.j0 k a0 a1 true)) else (debenturelaw01_NatTells.j0 k a0 a1 true))) else (debenturelaw01_NatTells.j0 k a0 a1 true))))))) = some r := H
    have A6 := Aside0.mk A60
    clear A60
    replace H := Option.bind_eq_some_iff.mp H
    obtain ⟨⟨t108, t109⟩, A70, H⟩ := H
    replace H : ((nat_Div.f a0 a1).bind fun bt110 => ((debentureref01_Div.f a0 a1).bind fun bt113 => ((nat_Small.f a0).bind fun bt116 => ((debentureref01_Small.f a0).bind fun bt118 => (if t106.toList = t108.toList then (if (t107 != t109) = true then (debenturelaw01_NatTells.j0 k a0 a1 true) else (if bt110.1.toList = bt113.1.toList then (if bt110.2.1.toList = bt113.2.1.toList then (if (bt110.2.2 != bt113.2.2) = true then (debenturelaw01_NatTells.j0 k a0 a1 true) else (if bt116.1 = bt118.1 then (if (bt116.2 != bt118.2) = true then (debenturelaw01_NatTells.j0 k a0 a1 true) else ((nat_May.f a0).bind fun t120 => ((debentureref01_May.f a0).bind fun t121 => (if (t120 != t121) = true then (debenturelaw01_NatTells.j0 k a0 a1 true) else ((nat_Of.f a2).bind fun t122 => ((debentureref01_Of.f a2).bind fun t123 => (debenturelaw01_NatTells.j0 k a0 a1 (t122.toList != t123.toList)))))))) else (debenturelaw01_NatTells.j0 k a0 a1 true))) else (debenturelaw01_NatTells.j0 k a0 a1 true)) else (debenturelaw01_NatTells.j0 k a0 a1 true))) else (debenturelaw01_NatTells.j0 k a0 a1 true)))))) = some r := H
    have A7 := Aside0.mk A70
    clear A70
    replace H := Option.bind_eq_some_iff.mp H
    obtain ⟨⟨t110, t111, t112⟩, A80, H⟩ := H
    replace H : ((debentureref01_Div.f a0 a1).bind fun bt113 => ((nat_Small.f a0).bind fun bt116 => ((debentureref01_Small.f a0).bind fun bt118 => (if t106.toList = t108.toList then (if (t107 != t109) = true then (debenturelaw01_NatTells.j0 k a0 a1 true) else (if t110.toList = bt113.1.toList then (if t111.toList = bt113.2.1.toList then (if (t112 != bt113.2.2) = true then (debenturelaw01_NatTells.j0 k a0 a1 true) else (if bt116.1 = bt118.1 then (if (bt116.2 != bt118.2) = true then (debenturelaw01_NatTells.j0 k a0 a1 true) else ((nat_May.f a0).bind fun t120 => ((debentureref01_May.f a0).bind fun t121 => (if (t120 != t121) = true then (debenturelaw01_NatTells.j0 k a0 a1 true) else ((nat_Of.f a2).bind fun t122 => ((debentureref01_Of.f a2).bind fun t123 => (debenturelaw01_NatTells.j0 k a0 a1 (t122.toList != t123.toList)))))))) else (debenturelaw01_NatTells.j0 k a0 a1 true))) else (debenturelaw01_NatTells.j0 k a0 a1 true)) else (debenturelaw01_NatTells.j0 k a0 a1 true))) else (debenturelaw01_NatTells.j0 k a0 a1 true))))) = some r := H
    have A8 := Aside0.mk A80
    clear A80
    replace H := Option.bind_eq_some_iff.mp H
    obtain ⟨⟨t113, t114, t115⟩, A90, H⟩ := H
    replace H : ((nat_Small.f a0).bind fun bt116 => ((debentureref01_Small.f a0).bind fun bt118 => (if t106.toList = t108.toList then (if (t107 != t109) = true then (debenturelaw01_NatTells.j0 k a0 a1 true) else (if t110.toList = t113.toList then (if t111.toList = t114.toList then (if (t112 != t115) = true then (debenturelaw01_NatTells.j0 k a0 a1 true) else (if bt116.1 = bt118.1 then (if (bt116.2 != bt118.2) = true then (debenturelaw01_NatTells.j0 k a0 a1 true) else ((nat_May.f a0).bind fun t120 => ((debentureref01_May.f a0).bind fun t121 => (if (t120 != t121) = true then (debenturelaw01_NatTells.j0 k a0 a1 true) else ((nat_Of.f a2).bind fun t122 => ((debentureref01_Of.f a2).bind fun t123 => (debenturelaw01_NatTells.j0 k a0 a1 (t122.toList != t123.toList)))))))) else (debenturelaw01_NatTells.j0 k a0 a1 true))) else (debenturelaw01_NatTells.j0 k a0 a1 true)) else (debenturelaw01_NatTells.j0 k a0 a1 true))) else (debenturelaw01_NatTells.j0 k a0 a1 true)))) = some r := H
    have A9 := Aside0.mk A90
    clear A90
    replace H := Option.bind_eq_some_iff.mp H
    obtain ⟨⟨t116, t117⟩, A100, H⟩ := H
    replace H : ((debentureref01_Small.f a0).bind fun bt118 => (if t106.toList = t108.toList then (if (t107 != t109) = true then (debenturelaw01_NatTells.j0 k a0 a1 true) else (if t110.toList = t113.toList then (if t111.toList = t114.toList then (if (t112 != t115) = true then (debenturelaw01_NatTells.j0 k a0 a1 true) else (if t116 = bt118.1 then (if (t117 != bt118.2) = true then (debenturelaw01_NatTells.j0 k a0 a1 true) else ((nat_May.f a0).bind fun t120 => ((debentureref01_May.f a0).bind fun t121 => (if (t120 != t121) = true then (debenturelaw01_NatTells.j0 k a0 a1 true) else ((nat_Of.f a2).bind fun t122 => ((debentureref01_Of.f a2).bind fun t123 => (debenturelaw01_NatTells.j0 k a0 a1 (t122.toList != t123.toList)))))))) else (debenturelaw01_NatTells.j0 k a0 a1 true))) else (debenturelaw01_NatTells.j0 k a0 a1 true)) else (debenturelaw01_NatTells.j0 k a0 a1 true))) else (debenturelaw01_NatTells.j0 k a0 a1 true))) = some r := H
    have A10 := Aside0.mk A100
    clear A100
    replace H := Option.bind_eq_some_iff.mp H
    obtain ⟨⟨t118, t119⟩, A110, H⟩ := H
    replace H : (if t106.toList = t108.toList then (if (t107 != t109) = true then (debenturelaw01_NatTells.j0 k a0 a1 true) else (if t110.toList = t113.toList then (if t111.toList = t114.toList then (if (t112 != t115) = true then (debenturelaw01_NatTells.j0 k a0 a1 true) else (if t116 = t118 then (if (t117 != t119) = true then (debenturelaw01_NatTells.j0 k a0 a1 true) else ((nat_May.f a0).bind fun t120 => ((debentureref01_May.f a0).bind fun t121 => (if (t120 != t121) = true then (debenturelaw01_NatTells.j0 k a0 a1 true) else ((nat_Of.f a2).bind fun t122 => ((debentureref01_Of.f a2).bind fun t123 => (debenturelaw01_NatTells.j0 k a0 a1 (t122.toList != t123.toList)))))))) else (debenturelaw01_NatTells.j0 k a0 a1 true))) else (debenturelaw01_NatTells.j0 k a0 a1 true)) else (debenturelaw01_NatTells.j0 k a0 a1 true))) else (debenturelaw01_NatTells.j0 k a0 a1 true)) = some r := H
    have A11 := Aside0.mk A110
    clear A110
    have HC12 := Aside0.mk H
    clear H
    go_enter Tryd.func3, Tryd.ntmps3
    go_upto_region 9 with (first | ((with_reducible refine gate_dst (N := 23) rfl ?_); refine Kd.R_lit Kd.string _ 9 ?hg (N := 23) ?hd (xs := ([a0, a1] : List ByteArray)) (inner := [.string a0, .string a1]) (ok := fun _ => True) (okp := fun _ => True) ?hr ?hp (fun _ hk => hk) trivial (Below.refl _ _) (Nat.le_refl _) (by simp) ?_; (case hd => rfl); (case hg => rfl); (case hr => first | (go_simp; done) | (go_simp; rfl)); (case hp => exact (Reps.one (show Kd.M Kd.string _ _ _ a0 [.string a0] from rfl) (Reps.one (show Kd.M Kd.string _ _ _ a1 [.string a1] from rfl) (Reps.none _ _)))); intro v102 w13 ho14 hb hg_ hnew_; clear hg_ hnew_; (first | rw [← Ny101.out] at ho14 | (simp only [Int.reduceToNat] at ho14; rw [← Ny101.out] at ho14)); have n0_ := Aside0.mk (Kd.R_lower ho14 (below_size (by repeat (first | (with_reducible first | exact HB.out | apply below_alloc | apply pw_below_drewN | apply below_drew1) | exact HB.out)))); have n1_ := Aside0.mk (below_step (by repeat (first | (with_reducible first | exact HB.out | apply below_alloc | apply pw_below_drewN | apply below_drew1) | exact HB.out)) hb); clear HB; have HO103 := n0_; have HB := n1_; clear n0_ n1_; clear hb ho14; obtain ⟨Ao15, co15, eo15⟩ := Kd.R_slice HO103.out; subst eo15) | ((with_reducible refine gate_callee (f := 10) rfl ?_); refine goesL_ (some 24) rfl rfl Tryd.func10 (by kernel_rfl) rfl #[.slice Ao15 y101.length co15] rfl (by (try simp only [List.map_toArray, List.map_cons, List.map_nil]); first | done | rfl | (simp only [List.length_drop, List.length_take]; rfl)) ?_; (with_reducible refine (debentureref01_Short.calls _ _ y101 true _ ?side1 ?side2 A4.out).mono ?_); (case side1 => repeat (first | exact (Kd.R_reads' HO103.out).2.2 | (with_reducible refine Kd.C_alloc ?_ _) | (with_reducible refine Kd.C_drewN ?_ _) | (with_reducible refine Kd.C_drew ?_))); (case side2 => exact (Kd.R_reads' HO103.out).2.1); rintro e w16 ⟨rfl, hb⟩; refine ⟨_, rfl, ?_⟩; have n0_ := Aside0.mk (Kd.R_below (by (with_reducible repeat (first | apply Kd.R_alloc | apply Kd.R_drewN | apply Kd.R_drew)); exact HO103.out) hb); have n1_ := Aside0.mk (below_step (by repeat (first | (with_reducible first | exact HB.out | apply below_alloc | apply pw_below_drewN | apply below_drew1) | exact HB.out)) hb); clear HO103; clear HB; have HO103 := n0_; have HB := n1_; clear n0_ n1_; (try clear hb); (try clear hb2); (try clear hk); (try clear hi)) | ((with_reducible refine gate_callee (f := 12) rfl ?_); refine goesL_ (some 30) rfl rfl Tryd.func12 (by kernel_rfl) rfl #[.string a0, .string a1] rfl (by (try simp only [List.map_toArray, List.map_cons, List.map_nil]); first | done | rfl | (simp only [List.length_drop, List.length_take]; rfl)) ?_; (with_reducible refine (nat_Sub.calls a0 a1 t106 t107 _ ?side1 A6.out).mono ?_); (case side1 => exact Laid.below HLD.out (by repeat (first | (with_reducible first | exact HB.out | apply below_alloc | apply pw_below_drewN | apply below_drew1) | exact HB.out))); rintro e w17 ⟨rfl, hb⟩; refine ⟨_, rfl, ?_⟩; have n0_ := Aside0.mk (Kd.R_below (by (with_reducible repeat (first | apply Kd.R_alloc | apply Kd.R_drewN | apply Kd.R_drew)); exact HO103.out) hb); have n1_ := Aside0.mk (below_step (by repeat (first | (with_reducible first | exact HB.out | apply below_alloc | apply pw_below_drewN | apply below_drew1) | exact HB.out)) hb); clear HO103; clear HB; have HO103 := n0_; have HB := n1_; clear n0_ n1_; (try clear hb); (try clear hb2); (try clear hk); (try clear hi)) | ((with_reducible refine gate_callee (f := 13) rfl ?_); refine goesL_ (some 36) rfl rfl Tryd.func13 (by kernel_rfl) rfl #[.string a0, .string a1] rfl (by (try simp only [List.map_toArray, List.map_cons, List.map_nil]); first | done | rfl | (simp only [List.length_drop, List.length_take]; rfl)) ?_; (with_reducible refine (debentureref01_Sub.calls a0 a1 t108 t109 _ A7.out).mono ?_); rintro e w18 ⟨rfl, hb⟩; refine ⟨_, rfl, ?_⟩; have n0_ := Aside0.mk (Kd.R_below (by (with_reducible repeat (first | apply Kd.R_alloc | apply Kd.R_drewN | apply Kd.R_drew)); exact HO103.out) hb); have n1_ := Aside0.mk (below_step (by repeat (first | (with_reducible first | exact HB.out | apply below_alloc | apply pw_below_drewN | apply below_drew1) | exact HB.out)) hb); clear HO103; clear HB; have HO103 := n0_; have HB := n1_; clear n0_ n1_; (try clear hb); (try clear hb2); (try clear hk); (try clear hi)) | ((with_reducible refine gate_callee (f := 14) rfl ?_); refine goesL_ (some 42) rfl rfl Tryd.func14 (by kernel_rfl) rfl #[.string a0, .string a1] rfl (by (try simp only [List.map_toArray, List.map_cons, List.map_nil]); first | done | rfl | (simp only [List.length_drop, List.length_take]; rfl)) ?_; (with_reducible refine (nat_Div.calls a0 a1 t110 t111 t112 _ ?side1 A8.out).mono ?_); (case side1 => exact Laid.below HLD.out (by repeat (first | (with_reducible first | exact HB.out | apply below_alloc | apply pw_below_drewN | apply below_drew1) | exact HB.out))); rintro e w19 ⟨rfl, hb⟩; refine ⟨_, rfl, ?_⟩; have n0_ := Aside0.mk (Kd.R_below (by (with_reducible repeat (first | apply Kd.R_alloc | apply Kd.R_drewN | apply Kd.R_drew)); exact HO103.out) hb); have n1_ := Aside0.mk (below_step (by repeat (first | (with_reducible first | exact HB.out | apply below_alloc | apply pw_below_drewN | apply below_drew1) | exact HB.out)) hb); clear HO103; clear HB; have HO103 := n0_; have HB := n1_; clear n0_ n1_; (try clear hb); (try clear hb2); (try clear hk); (try clear hi)) | ((with_reducible refine gate_callee (f := 15) rfl ?_); refine goesL_ (some 49) rfl rfl Tryd.func15 (by kernel_rfl) rfl #[.string a0, .string a1] rfl (by (try simp only [List.map_toArray, List.map_cons, List.map_nil]); first | done | rfl | (simp only [List.length_drop, List.length_take]; rfl)) ?_; (with_reducible refine (debentureref01_Div.calls a0 a1 t113 t114 t115 _ A9.out).mono ?_); rintro e w20 ⟨rfl, hb⟩; refine ⟨_, rfl, ?_⟩; have n0_ := Aside0.mk (Kd.R_below (by (with_reducible repeat (first | apply Kd.R_alloc | apply Kd.R_drewN | apply Kd.R_drew)); exact HO103.out) hb); have n1_ := Aside0.mk (below_step (by repeat (first | (with_reducible first | exact HB.out | apply below_alloc | apply pw_below_drewN | apply below_drew1) | exact HB.out)) hb); clear HO103; clear HB; have HO103 := n0_; have HB := n1_; clear n0_ n1_; (try clear hb); (try clear hb2); (try clear hk); (try clear hi)) | ((with_reducible refine gate_callee (f := 16) rfl ?_); refine goesL_ (some 55) rfl rfl Tryd.func16 (by kernel_rfl) rfl #[.string a0] rfl (by (try simp only [List.map_toArray, List.map_cons, List.map_nil]); first | done | rfl | (simp only [List.length_drop, List.length_take]; rfl)) ?_; (with_reducible refine (nat_Small.calls a0 t116 t117 _ ?side1 A10.out).mono ?_); (case side1 => exact Laid.below HLD.out (by repeat (first | (with_reducible first | exact HB.out | apply below_alloc | apply pw_below_drewN | apply below_drew1) | exact HB.out))); rintro e w21 ⟨rfl, hb⟩; refine ⟨_, rfl, ?_⟩; have n0_ := Aside0.mk (Kd.R_below (by (with_reducible repeat (first | apply Kd.R_alloc | apply Kd.R_drewN | apply Kd.R_drew)); exact HO103.out) hb); have n1_ := Aside0.mk (below_step (by repeat (first | (with_reducible first | exact HB.out | apply below_alloc | apply pw_below_drewN | apply below_drew1) | exact HB.out)) hb); clear HO103; clear HB; have HO103 := n0_; have HB := n1_; clear n0_ n1_; (try clear hb); (try clear hb2); (try clear hk); (try clear hi)) | ((with_reducible refine gate_callee (f := 17) rfl ?_); refine goesL_ (some 60) rfl rfl Tryd.func17 (by kernel_rfl) rfl #[.string a0] rfl (by (try simp only [List.map_toArray, List.map_cons, List.map_nil]); first | done | rfl | (simp only [List.length_drop, List.length_take]; rfl)) ?_; (with_reducible refine (debentureref01_Small.calls a0 t118 t119 _ A11.out).mono ?_); rintro e w22 ⟨rfl, hb⟩; refine ⟨_, rfl, ?_⟩; have n0_ := Aside0.mk (Kd.R_below (by (with_reducible repeat (first | apply Kd.R_alloc | apply Kd.R_drewN | apply Kd.R_drew)); exact HO103.out) hb); have n1_ := Aside0.mk (below_step (by repeat (first | (with_reducible first | exact HB.out | apply below_alloc | apply pw_below_drewN | apply below_drew1) | exact HB.out)) hb); clear HO103; clear HB; have HO103 := n0_; have HB := n1_; clear n0_ n1_; (try clear hb); (try clear hb2); (try clear hk); (try clear hi)))
    (try simp only [Act.put, List.setIfInBounds_toArray, List.set_cons_zero, List.set_cons_succ])
    go_cut [109] (fun v109 wc => ∃ (kq : Nat) (x109_11 : Bool), v109 = .bool x109_11 ∧ Aside0 (debenturelaw01_NatTells.j0 kq a0 a1 x109_11 = some r) ∧ Aside0 (kq ≤ k) ∧ Aside0 (Below w.heap.size w wc))
    case first =>
      have H := HC12.out
      clear HC12
      by_cases c23 : t106.toList = t108.toList
      · rw [if_pos c23] at H
        have c23b0 : (t106.toList == t108.toList) = true := beq_iff_eq.mpr c23
        have c23b1 : (t106.toList != t108.toList) = false := bne_eq_false_iff_eq.mpr c23
        clear c23
        (first | rw [c23b0] | (simp only [i64_w, i32_w]; rw [c23b0]) | skip)
        by_cases c24 : (t107 != t109) = true
        · rw [if_pos c24] at H
          have c24b0 : (t107 != t109) = true := c24
          (try (have c24b1 : decide (t107 = t109) = false := by simpa using c24))
          (try (have c24b2 : (t107 == t109) = false := by simpa using c24))
          (try (have c24b3 : ¬ (t107 = t109) := by simpa using c24))
          clear c24
          have H' := Aside0.mk H
          clear H
          go_wp2
          go_meet
          case rel => exact ⟨_, (true), (by first | rfl | (simp; done) | (simp [*]; done)), H', ⟨by first | omega | exact Nat.le_refl _⟩, ⟨by repeat (first | (with_reducible first | exact HB.out | apply below_alloc | apply pw_below_drewN | apply below_drew1) | exact HB.out)⟩⟩
        · rw [if_neg c24] at H
          have c24b0 : (t107 != t109) = false := by simpa using c24
          (try (have c24b1 : decide (t107 = t109) = true := by simpa using c24))
          (try (have c24b2 : (t107 == t109) = true := by simpa using c24))
          clear c24
          by_cases c25 : t110.toList = t113.toList
          · rw [if_pos c25] at H
            have c25b0 : (t110.toList == t113.toList) = true := beq_iff_eq.mpr c25
            have c25b1 : (t110.toList != t113.toList) = false := bne_eq_false_iff_eq.mpr c25
            clear c25
            by_cases c26 : t111.toList = t114.toList
            · rw [if_pos c26] at H
              have c26b0 : (t111.toList == t114.toList) = true := beq_iff_eq.mpr c26
              have c26b1 : (t111.toList != t114.toList) = false := bne_eq_false_iff_eq.mpr c26
              clear c26
              by_cases c27 : (t112 != t115) = true
              · rw [if_pos c27] at H
                have c27b0 : (t112 != t115) = true := c27
                (try (have c27b1 : decide (t112 = t115) = false := by simpa using c27))
                (try (have c27b2 : (t112 == t115) = false := by simpa using c27))
                (try (have c27b3 : ¬ (t112 = t115) := by simpa using c27))
                clear c27
                have H' := Aside0.mk H
                clear H
                go_wp2
                go_meet
                case rel => exact ⟨_, (true), (by first | rfl | (simp; done) | (simp [*]; done)), H', ⟨by first | omega | exact Nat.le_refl _⟩, ⟨by repeat (first | (with_reducible first | exact HB.out | apply below_alloc | apply pw_below_drewN | apply below_drew1) | exact HB.out)⟩⟩
              · rw [if_neg c27] at H
                have c27b0 : (t112 != t115) = false := by simpa using c27
                (try (have c27b1 : decide (t112 = t115) = true := by simpa using c27))
                (try (have c27b2 : (t112 == t115) = true := by simpa using c27))
                clear c27
                by_cases c28 : t116 = t118
                · rw [if_pos c28] at H
                  have c28b0 : (t116 == t118) = true := beq_iff_eq.mpr c28
                  have c28b1 : (t116 != t118) = false := bne_eq_false_iff_eq.mpr c28
                  clear c28
                  by_cases c29 : (t117 != t119) = true
                  · rw [if_pos c29] at H
                    have c29b0 : (t117 != t119) = true := c29
                    (try (have c29b1 : decide (t117 = t119) = false := by simpa using c29))
                    (try (have c29b2 : (t117 == t119) = false := by simpa using c29))
                    (try (have c29b3 : ¬ (t117 = t119) := by simpa using c29))
                    clear c29
                    have H' := Aside0.mk H
                    clear H
                    go_wp2
                    go_meet
                    case rel => exact ⟨_, (true), (by first | rfl | (simp; done) | (simp [*]; done)), H', ⟨by first | omega | exact Nat.le_refl _⟩, ⟨by repeat (first | (with_reducible first | exact HB.out | apply below_alloc | apply pw_below_drewN | apply below_drew1) | exact HB.out)⟩⟩
                  · rw [if_neg c29] at H
                    have c29b0 : (t117 != t119) = false := by simpa using c29
                    (try (have c29b1 : decide (t117 = t119) = true := by simpa using c29))
                    (try (have c29b2 : (t117 == t119) = true := by simpa using c29))
                    clear c29
                    replace H := Option.bind_eq_some_iff.mp H
                    obtain ⟨t120, A300, H⟩ := H
                    replace H : ((debentureref01_May.f a0).bind fun t121 => (if (t120 != t121) = true then (debenturelaw01_NatTells.j0 k a0 a1 true) else ((nat_Of.f a2).bind fun t122 => ((debentureref01_Of.f a2).bind fun t123 => (debenturelaw01_NatTells.j0 k a0 a1 (t122.toList != t123.toList)))))) = some r := H
                    have A30 := Aside0.mk A300
                    clear A300
                    replace H := Option.bind_eq_some_iff.mp H
                    obtain ⟨t121, A310, H⟩ := H
                    replace H : (if (t120 != t121) = true then (debenturelaw01_NatTells.j0 k a0 a1 true) else ((nat_Of.f a2).bind fun t122 => ((debentureref01_Of.f a2).bind fun t123 => (debenturelaw01_NatTells.j0 k a0 a1 (t122.toList != t123.toList))))) = some r := H
                    have A31 := Aside0.mk A310
                    clear A310
                    by_cases c32 : (t120 != t121) = true
                    · rw [if_pos c32] at H
                      have c32b0 : (t120 != t121) = true := c32
                      (try (have c32b1 : decide (t120 = t121) = false := by simpa using c32))
                      (try (have c32b2 : (t120 == t121) = false := by simpa using c32))
                      (try (have c32b3 : ¬ (t120 = t121) := by simpa using c32))
                      clear c32
                      have H' := Aside0.mk H
                      clear H
                      go_wp2_with (first | (go_at_call 18; (with_reducible refine (nat_May.calls a0 t120 _ A30.out).mono ?_); rintro e w33 ⟨rfl, hb⟩; have n0_ := Aside0.mk (Kd.R_below (by (with_reducible repeat (first | apply Kd.R_alloc | apply Kd.R_drewN | apply Kd.R_drew)); exact HO103.out) hb); have n1_ := Aside0.mk (below_step (by repeat (first | (with_reducible first | exact HB.out | apply below_alloc | apply pw_below_drewN | apply below_drew1) | exact HB.out)) hb); clear HO103; clear HB; have HO103 := n0_; have HB := n1_; clear n0_ n1_; (try clear hb); (try clear hb2); (try clear hk); (try clear hi)) | (go_at_call 19; (with_reducible refine (debentureref01_May.calls a0 t121 _ A31.out).mono ?_); rintro e w34 ⟨rfl, hb⟩; have n0_ := Aside0.mk (Kd.R_below (by (with_reducible repeat (first | apply Kd.R_alloc | apply Kd.R_drewN | apply Kd.R_drew)); exact HO103.out) hb); have n1_ := Aside0.mk (below_step (by repeat (first | (with_reducible first | exact HB.out | apply below_alloc | apply pw_below_drewN | apply below_drew1) | exact HB.out)) hb); clear HO103; clear HB; have HO103 := n0_; have HB := n1_; clear n0_ n1_; (try clear hb); (try clear hb2); (try clear hk); (try clear hi)))
                      go_meet
                      case rel => exact ⟨_, (true), (by first | rfl | (simp; done) | (simp [*]; done)), H', ⟨by first | omega | exact Nat.le_refl _⟩, ⟨by repeat (first | (with_reducible first | exact HB.out | apply below_alloc | apply pw_below_drewN | apply below_drew1) | exact HB.out)⟩⟩
                    · rw [if_neg c32] at H
                      have c32b0 : (t120 != t121) = false := by simpa using c32
                      (try (have c32b1 : decide (t120 = t121) = true := by simpa using c32))
                      (try (have c32b2 : (t120 == t121) = true := by simpa using c32))
                      clear c32
                      replace H := Option.bind_eq_some_iff.mp H
                      obtain ⟨t122, A350, H⟩ := H
                      replace H : ((debentureref01_Of.f a2).bind fun t123 => (debenturelaw01_NatTells.j0 k a0 a1 (t122.toList != t123.toList))) = some r := H
                      have A35 := Aside0.mk A350
                      clear A350
                      replace H := Option.bind_eq_some_iff.mp H
                      obtain ⟨t123, A360, H⟩ := H
                      replace H : (debenturelaw01_NatTells.j0 k a0 a1 (t122.toList != t123.toList)) = some r := H
                      have A36 := Aside0.mk A360
                      clear A360
                      have H' := Aside0.mk H
                      clear H
                      go_wp2_with (first | (go_at_call 18; (with_reducible refine (nat_May.calls a0 t120 _ A30.out).mono ?_); rintro e w37 ⟨rfl, hb⟩; have n0_ := Aside0.mk (Kd.R_below (by (with_reducible repeat (first | apply Kd.R_alloc | apply Kd.R_drewN | apply Kd.R_drew)); exact HO103.out) hb); have n1_ := Aside0.mk (below_step (by repeat (first | (with_reducible first | exact HB.out | apply below_alloc | apply pw_below_drewN | apply below_drew1) | exact HB.out)) hb); clear HO103; clear HB; have HO103 := n0_; have HB := n1_; clear n0_ n1_; (try clear hb); (try clear hb2); (try clear hk); (try clear hi)) | (go_at_call 19; (with_reducible refine (debentureref01_May.calls a0 t121 _ A31.out).mono ?_); rintro e w38 ⟨rfl, hb⟩; have n0_ := Aside0.mk (Kd.R_below (by (with_reducible repeat (first | apply Kd.R_alloc | apply Kd.R_drewN | apply Kd.R_drew)); exact HO103.out) hb); have n1_ := Aside0.mk (below_step (by repeat (first | (with_reducible first | exact HB.out | apply below_alloc | apply pw_below_drewN | apply below_drew1) | exact HB.out)) hb); clear HO103; clear HB; have HO103 := n0_; have HB := n1_; clear n0_ n1_; (try clear hb); (try clear hb2); (try clear hk); (try clear hi)) | (go_at_call 20; (with_reducible refine (nat_Of.calls a2 t122 _ ?side1 A35.out).mono ?_); (case side1 => exact Laid.below HLD.out (by repeat (first | (with_reducible first | exact HB.out | apply below_alloc | apply pw_below_drewN | apply below_drew1) | exact HB.out))); rintro e w39 ⟨rfl, hb⟩; have n0_ := Aside0.mk (Kd.R_below (by (with_reducible repeat (first | apply Kd.R_alloc | apply Kd.R_drewN | apply Kd.R_drew)); exact HO103.out) hb); have n1_ := Aside0.mk (below_step (by repeat (first | (with_reducible first | exact HB.out | apply below_alloc | apply pw_below_drewN | apply below_drew1) | exact HB.out)) hb); clear HO103; clear HB; have HO103 := n0_; have HB := n1_; clear n0_ n1_; (try clear hb); (try clear hb2); (try clear hk); (try clear hi)) | (go_at_call 21; (with_reducible refine (debentureref01_Of.calls a2 t123 _ A36.out).mono ?_); rintro e w40 ⟨rfl, hb⟩; have n0_ := Aside0.mk (Kd.R_below (by (with_reducible repeat (first | apply Kd.R_alloc | apply Kd.R_drewN | apply Kd.R_drew)); exact HO103.out) hb); have n1_ := Aside0.mk (below_step (by repeat (first | (with_reducible first | exact HB.out | apply below_alloc | apply pw_below_drewN | apply below_drew1) | exact HB.out)) hb); clear HO103; clear HB; have HO103 := n0_; have HB := n1_; clear n0_ n1_; (try clear hb); (try clear hb2); (try clear hk); (try clear hi)))
                      go_meet
                      case rel => exact ⟨_, ((t122.toList != t123.toList)), (by first | rfl | (simp; done) | (simp [*]; done)), H', ⟨by first | omega | exact Nat.le_refl _⟩, ⟨by repeat (first | (with_reducible first | exact HB.out | apply below_alloc | apply pw_below_drewN | apply below_drew1) | exact HB.out)⟩⟩
                · rw [if_neg c28] at H
                  have c28b0 : (t116 == t118) = false := beq_eq_false_iff_ne.mpr c28
                  have c28b1 : (t116 != t118) = true := bne_iff_ne.mpr c28
                  have H' := Aside0.mk H
                  clear H
                  go_wp2
                  go_meet
                  case rel => exact ⟨_, (true), (by first | rfl | (simp; done) | (simp [*]; done)), H', ⟨by first | omega | exact Nat.le_refl _⟩, ⟨by repeat (first | (with_reducible first | exact HB.out | apply below_alloc | apply pw_below_drewN | apply below_drew1) | exact HB.out)⟩⟩
            · rw [if_neg c26] at H
              have c26b0 : (t111.toList == t114.toList) = false := beq_eq_false_iff_ne.mpr c26
              have c26b1 : (t111.toList != t114.toList) = true := bne_iff_ne.mpr c26
              have H' := Aside0.mk H
              clear H
              go_wp2
              go_meet
              case rel => exact ⟨_, (true), (by first | rfl | (simp; done) | (simp [*]; done)), H', ⟨by first | omega | exact Nat.le_refl _⟩, ⟨by repeat (first | (with_reducible first | exact HB.out | apply below_alloc | apply pw_below_drewN | apply below_drew1) | exact HB.out)⟩⟩
          · rw [if_neg c25] at H
            have c25b0 : (t110.toList == t113.toList) = false := beq_eq_false_iff_ne.mpr c25
            have c25b1 : (t110.toList != t113.toList) = true := bne_iff_ne.mpr c25
            have H' := Aside0.mk H
            clear H
            go_wp2
            go_meet
            case rel => exact ⟨_, (true), (by first | rfl | (simp; done) | (simp [*]; done)), H', ⟨by first | omega | exact Nat.le_refl _⟩, ⟨by repeat (first | (with_reducible first | exact HB.out | apply below_alloc | apply pw_below_drewN | apply below_drew1) | exact HB.out)⟩⟩
      · rw [if_neg c23] at H
        have c23b0 : (t106.toList == t108.toList) = false := beq_eq_false_iff_ne.mpr c23
        have c23b1 : (t106.toList != t108.toList) = true := bne_iff_ne.mpr c23
        (first | rw [c23b0] | (simp only [i64_w, i32_w]; rw [c23b0]) | skip)
        have H' := Aside0.mk H
        clear H
        go_wp2
        go_meet
        case rel => exact ⟨_, (true), (by first | rfl | (simp; done) | (simp [*]; done)), H', ⟨by first | omega | exact Nat.le_refl _⟩, ⟨by repeat (first | (with_reducible first | exact HB.out | apply below_alloc | apply pw_below_drewN | apply below_drew1) | exact HB.out)⟩⟩
    case rest =>
      clear HC12
      try clear c1
      try clear c2
      try clear p2
      try clear c3
      try clear c5
      try clear c10
      try clear c12
      try clear c13
      try clear c14
      try clear c15
      try clear c16
      try clear c17
      try clear c23
      try clear c23b0
      try clear c23b1
      try clear c24
      try clear c24b0
      try clear c24b1
      try clear c24b2
      try clear c25
      try clear c25b0
      try clear c25b1
      try clear c26
      try clear c26b0
      try clear c26b1
      try clear c27
      try clear c27b0
      try clear c27b1
      try clear c27b2
      try clear c28
      try clear c28b0
      try clear c28b1
      try clear c29
      try clear c29b0
      try clear c29b1
      try clear c29b2
      try clear c32
      try clear c32b0
      try clear c32b1
      try clear c32b2
      obtain ⟨kq, x109_11, rfl, HA, HJ11, HB⟩ := hcut
      cases kq with
      | zero => exact absurd HA.out (by simp [debenturelaw01_NatTells.j0])
      | succ kj11 =>
        have H := HA.out
        clear HA
        simp only [debenturelaw01_NatTells.j0] at H
        by_cases c41 : x109_11 = true
        · subst c41
          have H1 : (some false) = some r := by rw [if_pos rfl] at H; exact H
          clear H
          have H := H1
          clear H1
          exact absurd (H.trans (congrArg some hr_.out)) (by decide)
        · replace c41 := Bool.eq_false_iff.mpr c41
          subst c41
          have H1 : ((debenturelaw01_fixed.f).bind fun t124 => (if t124 = true then ((nat_Cmp.f a0 a1).bind fun t125 => ((debentureref01_Cmp.f a0 a1).bind fun t126 => (if t125 = t126 then ((nat_Add.f a0 a1).bind fun t127 => ((debentureref01_Add.f a0 a1).bind fun t128 => (if t127.toList = t128.toList then ((nat_Mul.f a0 a1).bind fun t129 => ((debentureref01_Mul.f a0 a1).bind fun t130 => (if t129.toList = t130.toList then ((nat_Gcd.f a0 a1).bind fun t131 => ((debentureref01_Gcd.f a0 a1).bind fun t132 => (some (t131.toList == t132.toList)))) else (some false)))) else (some false)))) else (some false)))) else (some false))) = some r := by rw [if_neg (show ¬ (false = true) by decide)] at H; exact H
          clear H
          have H := H1
          clear H1
          replace H := Option.bind_eq_some_iff.mp H
          obtain ⟨t124, A420, H⟩ := H
          replace H : (if t124 = true then ((nat_Cmp.f a0 a1).bind fun t125 => ((debentureref01_Cmp.f a0 a1).bind fun t126 => (if t125 = t126 then ((nat_Add.f a0 a1).bind fun t127 => ((debentureref01_Add.f a0 a1).bind fun t128 => (if t127.toList = t128.toList then ((nat_Mul.f a0 a1).bind fun t129 => ((debentureref01_Mul.f a0 a1).bind fun t130 => (if t129.toList = t130.toList then ((nat_Gcd.f a0 a1).bind fun t131 => ((debentureref01_Gcd.f a0 a1).bind fun t132 => (some (t131.toList == t132.toList)))) else (some false)))) else (some false)))) else (some false)))) else (some false)) = some r := H
          have A42 := Aside0.mk A420
          clear A420
          by_cases c43 : t124 = true
          · subst c43
            have H1 : ((nat_Cmp.f a0 a1).bind fun t125 => ((debentureref01_Cmp.f a0 a1).bind fun t126 => (if t125 = t126 then ((nat_Add.f a0 a1).bind fun t127 => ((debentureref01_Add.f a0 a1).bind fun t128 => (if t127.toList = t128.toList then ((nat_Mul.f a0 a1).bind fun t129 => ((debentureref01_Mul.f a0 a1).bind fun t130 => (if t129.toList = t130.toList then ((nat_Gcd.f a0 a1).bind fun t131 => ((debentureref01_Gcd.f a0 a1).bind fun t132 => (some (t131.toList == t132.toList)))) else (some false)))) else (some false)))) else (some false)))) = some r := by rw [if_pos rfl] at H; exact H
            clear H
            have H := H1
            clear H1
            replace H := Option.bind_eq_some_iff.mp H
            obtain ⟨t125, A440, H⟩ := H
            replace H : ((debentureref01_Cmp.f a0 a1).bind fun t126 => (if t125 = t126 then ((nat_Add.f a0 a1).bind fun t127 => ((debentureref01_Add.f a0 a1).bind fun t128 => (if t127.toList = t128.toList then ((nat_Mul.f a0 a1).bind fun t129 => ((debentureref01_Mul.f a0 a1).bind fun t130 => (if t129.toList = t130.toList then ((nat_Gcd.f a0 a1).bind fun t131 => ((debentureref01_Gcd.f a0 a1).bind fun t132 => (some (t131.toList == t132.toList)))) else (some false)))) else (some false)))) else (some false))) = some r := H
            have A44 := Aside0.mk A440
            clear A440
            replace H := Option.bind_eq_some_iff.mp H
            obtain ⟨t126, A450, H⟩ := H
            replace H : (if t125 = t126 then ((nat_Add.f a0 a1).bind fun t127 => ((debentureref01_Add.f a0 a1).bind fun t128 => (if t127.toList = t128.toList then ((nat_Mul.f a0 a1).bind fun t129 => ((debentureref01_Mul.f a0 a1).bind fun t130 => (if t129.toList = t130.toList then ((nat_Gcd.f a0 a1).bind fun t131 => ((debentureref01_Gcd.f a0 a1).bind fun t132 => (some (t131.toList == t132.toList)))) else (some false)))) else (some false)))) else (some false)) = some r := H
            have A45 := Aside0.mk A450
            clear A450
            by_cases c46 : t125 = t126
            · rw [if_pos c46] at H
              have c46b0 : (t125 == t126) = true := beq_iff_eq.mpr c46
              have c46b1 : (t125 != t126) = false := bne_eq_false_iff_eq.mpr c46
              clear c46
              replace H := Option.bind_eq_some_iff.mp H
              obtain ⟨t127, A470, H⟩ := H
              replace H : ((debentureref01_Add.f a0 a1).bind fun t128 => (if t127.toList = t128.toList then ((nat_Mul.f a0 a1).bind fun t129 => ((debentureref01_Mul.f a0 a1).bind fun t130 => (if t129.toList = t130.toList then ((nat_Gcd.f a0 a1).bind fun t131 => ((debentureref01_Gcd.f a0 a1).bind fun t132 => (some (t131.toList == t132.toList)))) else (some false)))) else (some false))) = some r := H
              have A47 := Aside0.mk A470
              clear A470
              replace H := Option.bind_eq_some_iff.mp H
              obtain ⟨t128, A480, H⟩ := H
              replace H : (if t127.toList = t128.toList then ((nat_Mul.f a0 a1).bind fun t129 => ((debentureref01_Mul.f a0 a1).bind fun t130 => (if t129.toList = t130.toList then ((nat_Gcd.f a0 a1).bind fun t131 => ((debentureref01_Gcd.f a0 a1).bind fun t132 => (some (t131.toList == t132.toList)))) else (some false)))) else (some false)) = some r := H
              have A48 := Aside0.mk A480
              clear A480
              by_cases c49 : t127.toList = t128.toList
              · rw [if_pos c49] at H
                have c49b0 : (t127.toList == t128.toList) = true := beq_iff_eq.mpr c49
                have c49b1 : (t127.toList != t128.toList) = false := bne_eq_false_iff_eq.mpr c49
                clear c49
                replace H := Option.bind_eq_some_iff.mp H
                obtain ⟨t129, A500, H⟩ := H
                replace H : ((debentureref01_Mul.f a0 a1).bind fun t130 => (if t129.toList = t130.toList then ((nat_Gcd.f a0 a1).bind fun t131 => ((debentureref01_Gcd.f a0 a1).bind fun t132 => (some (t131.toList == t132.toList)))) else (some false))) = some r := H
                have A50 := Aside0.mk A500
                clear A500
                replace H := Option.bind_eq_some_iff.mp H
                obtain ⟨t130, A510, H⟩ := H
                replace H : (if t129.toList = t130.toList then ((nat_Gcd.f a0 a1).bind fun t131 => ((debentureref01_Gcd.f a0 a1).bind fun t132 => (some (t131.toList == t132.toList)))) else (some false)) = some r := H
                have A51 := Aside0.mk A510
                clear A510
                by_cases c52 : t129.toList = t130.toList
                · rw [if_pos c52] at H
                  have c52b0 : (t129.toList == t130.toList) = true := beq_iff_eq.mpr c52
                  have c52b1 : (t129.toList != t130.toList) = false := bne_eq_false_iff_eq.mpr c52
                  clear c52
                  replace H := Option.bind_eq_some_iff.mp H
                  obtain ⟨t131, A530, H⟩ := H
                  replace H : ((debentureref01_Gcd.f a0 a1).bind fun t132 => (some (t131.toList == t132.toList))) = some r := H
                  have A53 := Aside0.mk A530
                  clear A530
                  replace H := Option.bind_eq_some_iff.mp H
                  obtain ⟨t132, A540, H⟩ := H
                  replace H : (some (t131.toList == t132.toList)) = some r := H
                  have A54 := Aside0.mk A540
                  clear A540
                  obtain rfl := Option.some.inj H
                  go_wp2_with (first | ((with_reducible refine gate_callee (f := 11) rfl ?_); refine goesL_ (some 110) rfl rfl Tryd.func11 (by kernel_rfl) rfl #[] rfl (by (try simp only [List.map_toArray, List.map_cons, List.map_nil]); first | done | rfl | (simp only [List.length_drop, List.length_take]; rfl)) ?_; (with_reducible refine (debenturelaw01_fixed.calls  true _ ?side1 A42.out).mono ?_); (case side1 => exact Laid.below HLD.out (by repeat (first | (with_reducible first | exact HB.out | apply below_alloc | apply pw_below_drewN | apply below_drew1) | exact HB.out))); rintro e w55 ⟨rfl, hb⟩; refine ⟨_, rfl, ?_⟩; have n0_ := Aside0.mk (below_step (by repeat (first | (with_reducible first | exact HB.out | apply below_alloc | apply pw_below_drewN | apply below_drew1) | exact HB.out)) hb); clear HB; have HB := n0_; clear n0_; (try clear hb); (try clear hb2); (try clear hk); (try clear hi)) | (go_at_call 22; (with_reducible refine (nat_Cmp.calls a0 a1 t125 _ A44.out).mono ?_); rintro e w56 ⟨rfl, hb⟩; have n0_ := Aside0.mk (below_step (by repeat (first | (with_reducible first | exact HB.out | apply below_alloc | apply pw_below_drewN | apply below_drew1) | exact HB.out)) hb); clear HB; have HB := n0_; clear n0_; (try clear hb); (try clear hb2); (try clear hk); (try clear hi)) | (go_at_call 23; (with_reducible refine (debentureref01_Cmp.calls a0 a1 t126 _ A45.out).mono ?_); rintro e w57 ⟨rfl, hb⟩; have n0_ := Aside0.mk (below_step (by repeat (first | (with_reducible first | exact HB.out | apply below_alloc | apply pw_below_drewN | apply below_drew1) | exact HB.out)) hb); clear HB; have HB := n0_; clear n0_; (try clear hb); (try clear hb2); (try clear hk); (try clear hi)) | (go_at_call 24; (with_reducible refine (nat_Add.calls a0 a1 t127 _ ?side1 A47.out).mono ?_); (case side1 => exact Laid.below HLD.out (by repeat (first | (with_reducible first | exact HB.out | apply below_alloc | apply pw_below_drewN | apply below_drew1) | exact HB.out))); rintro e w58 ⟨rfl, hb⟩; have n0_ := Aside0.mk (below_step (by repeat (first | (with_reducible first | exact HB.out | apply below_alloc | apply pw_below_drewN | apply below_drew1) | exact HB.out)) hb); clear HB; have HB := n0_; clear n0_; (try clear hb); (try clear hb2); (try clear hk); (try clear hi)) | (go_at_call 25; (with_reducible refine (debentureref01_Add.calls a0 a1 t128 _ A48.out).mono ?_); rintro e w59 ⟨rfl, hb⟩; have n0_ := Aside0.mk (below_step (by repeat (first | (with_reducible first | exact HB.out | apply below_alloc | apply pw_below_drewN | apply below_drew1) | exact HB.out)) hb); clear HB; have HB := n0_; clear n0_; (try clear hb); (try clear hb2); (try clear hk); (try clear hi)) | (go_at_call 26; (with_reducible refine (nat_Mul.calls a0 a1 t129 _ ?side1 A50.out).mono ?_); (case side1 => exact Laid.below HLD.out (by repeat (first | (with_reducible first | exact HB.out | apply below_alloc | apply pw_below_drewN | apply below_drew1) | exact HB.out))); rintro e w60 ⟨rfl, hb⟩; have n0_ := Aside0.mk (below_step (by repeat (first | (with_reducible first | exact HB.out | apply below_alloc | apply pw_below_drewN | apply below_drew1) | exact HB.out)) hb); clear HB; have HB := n0_; clear n0_; (try clear hb); (try clear hb2); (try clear hk); (try clear hi)) | (go_at_call 27; (with_reducible refine (debentureref01_Mul.calls a0 a1 t130 _ A51.out).mono ?_); rintro e w61 ⟨rfl, hb⟩; have n0_ := Aside0.mk (below_step (by repeat (first | (with_reducible first | exact HB.out | apply below_alloc | apply pw_below_drewN | apply below_drew1) | exact HB.out)) hb); clear HB; have HB := n0_; clear n0_; (try clear hb); (try clear hb2); (try clear hk); (try clear hi)) | (go_at_call 28; (with_reducible refine (nat_Gcd.calls a0 a1 t131 _ ?side1 A53.out).mono ?_); (case side1 => exact Laid.below HLD.out (by repeat (first | (with_reducible first | exact HB.out | apply below_alloc | apply pw_below_drewN | apply below_drew1) | exact HB.out))); rintro e w62 ⟨rfl, hb⟩; have n0_ := Aside0.mk (below_step (by repeat (first | (with_reducible first | exact HB.out | apply below_alloc | apply pw_below_drewN | apply below_drew1) | exact HB.out)) hb); clear HB; have HB := n0_; clear n0_; (try clear hb); (try clear hb2); (try clear hk); (try clear hi)) | (go_at_call 29; (with_reducible refine (debentureref01_Gcd.calls a0 a1 t132 _ A54.out).mono ?_); rintro e w63 ⟨rfl, hb⟩; have n0_ := Aside0.mk (below_step (by repeat (first | (with_reducible first | exact HB.out | apply below_alloc | apply pw_below_drewN | apply below_drew1) | exact HB.out)) hb); clear HB; have HB := n0_; clear n0_; (try clear hb); (try clear hb2); (try clear hk); (try clear hi)))
                  go_ret
                  exact ⟨by first | rfl | (simp [errW_none, errW_some] <;> rfl) | (simp [*, errW_none, errW_some] <;> rfl), by repeat (first | (with_reducible first | exact HB.out | apply below_alloc | apply pw_below_drewN | apply below_drew1) | exact HB.out)⟩
                · rw [if_neg c52] at H
                  have c52b0 : (t129.toList == t130.toList) = false := beq_eq_false_iff_ne.mpr c52
                  have c52b1 : (t129.toList != t130.toList) = true := bne_iff_ne.mpr c52
                  exact absurd (H.trans (congrArg some hr_.out)) (by decide)
              · rw [if_neg c49] at H
                have c49b0 : (t127.toList == t128.toList) = false := beq_eq_false_iff_ne.mpr c49
                have c49b1 : (t127.toList != t128.toList) = true := bne_iff_ne.mpr c49
                exact absurd (H.trans (congrArg some hr_.out)) (by decide)
            · rw [if_neg c46] at H
              have c46b0 : (t125 == t126) = false := beq_eq_false_iff_ne.mpr c46
              have c46b1 : (t125 != t126) = true := bne_iff_ne.mpr c46
              exact absurd (H.trans (congrArg some hr_.out)) (by decide)
          · replace c43 := Bool.eq_false_iff.mpr c43
            subst c43
            have H1 : (some false) = some r := by rw [if_neg (show ¬ (false = true) by decide)] at H; exact H
            clear H
            have H := H1
            clear H1
            exact absurd (H.trans (congrArg some hr_.out)) (by decide)
  · replace c5 := Bool.eq_false_iff.mpr c5
    subst c5
    have H1 : ((debenturelaw01_fixed.f).bind fun t105 => (some t105)) = some r := by rw [if_neg (show ¬ (false = true) by decide)] at H; exact H
    clear H
    have H := H1
    clear H1
    replace H := Option.bind_eq_some_iff.mp H
    obtain ⟨t105, A800, H⟩ := H
    replace H : (some t105) = some r := H
    have A80 := Aside0.mk A800
    clear A800
    obtain rfl := Option.some.inj H
    go_enter Tryd.func3, Tryd.ntmps3
    go_wp2_with (first | ((with_reducible refine gate_dst (N := 23) rfl ?_); refine Kd.R_lit Kd.string _ 9 ?hg (N := 23) ?hd (xs := ([a0, a1] : List ByteArray)) (inner := [.string a0, .string a1]) (ok := fun _ => True) (okp := fun _ => True) ?hr ?hp (fun _ hk => hk) trivial (Below.refl _ _) (Nat.le_refl _) (by simp) ?_; (case hd => rfl); (case hg => rfl); (case hr => first | (go_simp; done) | (go_simp; rfl)); (case hp => exact (Reps.one (show Kd.M Kd.string _ _ _ a0 [.string a0] from rfl) (Reps.one (show Kd.M Kd.string _ _ _ a1 [.string a1] from rfl) (Reps.none _ _)))); intro v102 w81 ho82 hb hg_ hnew_; clear hg_ hnew_; (first | rw [← Ny101.out] at ho82 | (simp only [Int.reduceToNat] at ho82; rw [← Ny101.out] at ho82)); have n0_ := Aside0.mk (Kd.R_lower ho82 (below_size (by repeat (first | (with_reducible first | exact HB.out | apply below_alloc | apply pw_below_drewN | apply below_drew1) | exact HB.out)))); have n1_ := Aside0.mk (below_step (by repeat (first | (with_reducible first | exact HB.out | apply below_alloc | apply pw_below_drewN | apply below_drew1) | exact HB.out)) hb); clear HB; have HO103 := n0_; have HB := n1_; clear n0_ n1_; clear hb ho82; obtain ⟨Ao83, co83, eo83⟩ := Kd.R_slice HO103.out; subst eo83) | ((with_reducible refine gate_callee (f := 10) rfl ?_); refine goesL_ (some 24) rfl rfl Tryd.func10 (by kernel_rfl) rfl #[.slice Ao83 y101.length co83] rfl (by (try simp only [List.map_toArray, List.map_cons, List.map_nil]); first | done | rfl | (simp only [List.length_drop, List.length_take]; rfl)) ?_; (with_reducible refine (debentureref01_Short.calls _ _ y101 false _ ?side1 ?side2 A4.out).mono ?_); (case side1 => repeat (first | exact (Kd.R_reads' HO103.out).2.2 | (with_reducible refine Kd.C_alloc ?_ _) | (with_reducible refine Kd.C_drewN ?_ _) | (with_reducible refine Kd.C_drew ?_))); (case side2 => exact (Kd.R_reads' HO103.out).2.1); rintro e w84 ⟨rfl, hb⟩; refine ⟨_, rfl, ?_⟩; have n0_ := Aside0.mk (Kd.R_below (by (with_reducible repeat (first | apply Kd.R_alloc | apply Kd.R_drewN | apply Kd.R_drew)); exact HO103.out) hb); have n1_ := Aside0.mk (below_step (by repeat (first | (with_reducible first | exact HB.out | apply below_alloc | apply pw_below_drewN | apply below_drew1) | exact HB.out)) hb); clear HO103; clear HB; have HO103 := n0_; have HB := n1_; clear n0_ n1_; (try clear hb); (try clear hb2); (try clear hk); (try clear hi)) | ((with_reducible refine gate_callee (f := 11) rfl ?_); refine goesL_ (some 26) rfl rfl Tryd.func11 (by kernel_rfl) rfl #[] rfl (by (try simp only [List.map_toArray, List.map_cons, List.map_nil]); first | done | rfl | (simp only [List.length_drop, List.length_take]; rfl)) ?_; (with_reducible refine (debenturelaw01_fixed.calls  t105 _ ?side1 A80.out).mono ?_); (case side1 => exact Laid.below HLD.out (by repeat (first | (with_reducible first | exact HB.out | apply below_alloc | apply pw_below_drewN | apply below_drew1) | exact HB.out))); rintro e w85 ⟨rfl, hb⟩; refine ⟨_, rfl, ?_⟩; have n0_ := Aside0.mk (Kd.R_below (by (with_reducible repeat (first | apply Kd.R_alloc | apply Kd.R_drewN | apply Kd.R_drew)); exact HO103.out) hb); have n1_ := Aside0.mk (below_step (by repeat (first | (with_reducible first | exact HB.out | apply below_alloc | apply pw_below_drewN | apply below_drew1) | exact HB.out)) hb); clear HO103; clear HB; have HO103 := n0_; have HB := n1_; clear n0_ n1_; (try clear hb); (try clear hb2); (try clear hk); (try clear hi)))
    go_ret
    exact ⟨by first | rfl | (simp [errW_none, errW_some] <;> rfl) | (simp [*, errW_none, errW_some] <;> rfl), by repeat (first | (with_reducible first | exact HB.out | apply below_alloc | apply pw_below_drewN | apply below_drew1) | exact HB.out)⟩

end Go.Proofs.YtmcpiejgneegjaaDoor.LNatTells

end

/-
The law NatTells, told by numbers.
-/
section
set_option linter.unusedVariables false
namespace Go.Proofs.YtmcpiejgneegjaaDoor
open Go.RowKit Go.Proofs.YtmcpiejgneegjaaDoorW.PrintWords Go.Proofs.YtmcpiejgneegjaaDoorW.PrintLast Go.Proofs.YtmcpiejgneegjaaDoorW.PrintMore

/-! ### As the document says -/
theorem pureNatTells (a0 a1 : ByteArray) (a2 : Int) (w0 : a0.size ≤ 140737488351232) (w1 : a1.size ≤ 140737488351232) (w2 : (Lit.int .i64 a2).wf = true) : ∃ k, LNatTells.debenturelaw01_NatTells.f k a0 a1 a2 = some true := by
  refine ⟨3, ?_⟩
  unfold LNatTells.debenturelaw01_NatTells.f debenturelaw01_fixed.f
  rw [shorts2, Option.bind_some, Option.bind_some]
  cases h0 : shortT a0 <;> cases h1 : shortT a1
  all_goals first | rfl | skip
  have z0 := shortT_le h0
  have z1 := shortT_le h1
  have s0 : sm a0 = true := decide_eq_true (by omega)
  have s1 : sm a1 = true := decide_eq_true (by omega)
  have s2 : sm2 a0 a1 = true := by unfold sm2; rw [s0, s1]; rfl
  have hb := wf_i64 w2
  rw [if_pos (by rfl)]
  unfold nat_Sub.f debentureref01_Sub.f nat_Div.f debentureref01_Div.f nat_Small.f debentureref01_Small.f nat_May.f debentureref01_May.f nat_Of.f debentureref01_Of.f
  rw [if_pos s2, if_pos s2, if_pos s0, if_pos s0, if_pos hb]
  simp only [Option.bind_some]
  rw [if_pos trivial, if_neg (bne_same _), if_pos trivial, if_pos trivial, if_neg (bne_same _), if_pos trivial, if_neg (bne_same _), if_neg (bne_same _)]
  have e : ((ofS a2).toList != (ofS a2).toList) = false := by simp
  rw [e]
  simp only [LNatTells.debenturelaw01_NatTells.j0]
  unfold debenturelaw01_fixed.f nat_Cmp.f debentureref01_Cmp.f nat_Add.f debentureref01_Add.f nat_Mul.f debentureref01_Mul.f nat_Gcd.f debentureref01_Gcd.f
  rw [if_pos s2, if_pos s2, if_pos s2, if_pos s2, if_neg (by decide)]
  simp only [Option.bind_some]
  simp

end Go.Proofs.YtmcpiejgneegjaaDoor

end

/-
The law NatTells holds at every input: its row, and its card, tied to the program's text.
Conditions: none beyond the given row's own.
-/
section
namespace Go.Proofs.YtmcpiejgneegjaaDoor.natTells
open Go.ChangeShapes Go.WideShapes Go.ChangeAt Go.RowKit
open Go.ChangeMaps (open_string shut_string)
set_option linter.unusedVariables false
set_option maxRecDepth 100000 in
theorem lifted (os : Os) (started : os.Started) (H : Type) (enc : TypeId × Value → H) :
    ReturnsInHanded {} Tryd.checked os 3 .any (fun w args => (Rows.natTellsSpec.pre enc Tryd.prog Tryd.f3 Rows.natTellsRow.domain false w args ∧ laidMetH Tryd.prog laidL w) ∧ sizedMet enc Tryd.prog Tryd.f3 (OpenSpec.ofChange Rows.natTellsSpec) false w args)
      (Rows.natTellsSpec.post enc Tryd.prog Tryd.f3 false true false false) := by
  refine returnsInHanded_of_change_and (C := Tryd.checked) (X := fun w _ => laidMetH Tryd.prog laidL w) (fun _ _ _ hh h => h.of_heap hh) own started (by kernel_rfl) Tryd.func3
    (ChangeSpec.witness_shaped (enc := enc) (C := Tryd.checked) (os := os) (X := fun w _ => laidMetH Tryd.prog laidL w) false (World.doorLaid Tryd.prog 4000 os) #[.string ByteArray.empty, .string ByteArray.empty, .int .i64 0] 8 rfl (World.shaped_of_RefB (by kernel_rfl) (by kernel_rfl)) (by kernel_rfl) (by kernel_rfl) (by kernel_rfl) (door_met os _)) ?_
  intro W base args ds gs before hval0 hW _ hsz0 hL _
  have hsz : (DataW.weightsEach Tryd.prog (Tryd.f3.params.toList ++ Rows.natTellsSpec.plain.varTypes Tryd.prog) (ds ++ gs)).all (· ≤ reachBytes) = true := hsz0
  have hval : ∀ (j : Nat) t v, Tryd.f3.params[j]? = some t → args[j]? = some v → Value.okWide Tryd.prog W .any base t v := hval0
  have hW' := hW
  obtain ⟨p, q, hA0, hV, rfl, hfz, hnd⟩ := hW
  have hA : DataW.TrodAll enc Tryd.prog W 0 (fun _ => true) true Tryd.f3.params.toList args.toList ds p := hA0
  rw [Tryd.params3] at hA hval hsz
  obtain ⟨v0, vs0, d0, ds0, p0, q0, hargs, rfl, rfl, h0, r0⟩ := trodAll_cons hA
  obtain ⟨v1, vs1, d1, ds1, p1, q1, rfl, rfl, rfl, h1, r1⟩ := trodAll_cons r0
  obtain ⟨v2, vs2, d2, ds2, p2, q2, rfl, rfl, rfl, h2, r2⟩ := trodAll_cons r1
  obtain ⟨rfl, rfl, rfl⟩ := trodAll_nil r2
  obtain rfl : args = #[v0, v1, v2] := by cases args; simp_all
  obtain ⟨rfl, rfl⟩ := trodVars_none hV
  obtain ⟨a0, rfl, rfl, rfl, y0⟩ := open_string Tryd.underlying9 (hval 0 9 v0 rfl rfl) h0
  have w0 : a0.size ≤ 140737488351232 := by
    have z := sized_string hsz (j := 0) (t := 9) rfl rfl
    rw [Array.length_toList] at z
    exact z
  obtain ⟨a1, rfl, rfl, rfl, y1⟩ := open_string Tryd.underlying9 (hval 1 9 v1 rfl rfl) h1
  have w1 : a1.size ≤ 140737488351232 := by
    have z := sized_string hsz (j := 1) (t := 9) rfl rfl
    rw [Array.length_toList] at z
    exact z
  obtain ⟨a2, rfl, rfl, rfl, w2⟩ := open_int Tryd.underlying3 (hval 2 3 v2 rfl rfl) h2
  clear hA0 hval0 hsz0 hsz
  obtain ⟨k, hf⟩ := pureNatTells a0 a1 a2 w0 w1 w2
  refine (LNatTells.debenturelaw01_NatTells.calls k a0 a1 a2 true W (laid_of hL) ⟨rfl⟩ hf).mono fun e W' ⟨he, bel⟩ => ?_
  subst he
  exact ⟨_, rfl, _, _, _, [], _, [], hW', trodAll_mk1 (shut_bool Tryd.underlying4 _), (trodAll_cons_mk (shut_string Tryd.underlying9 y0) (trodAll_cons_mk (shut_string Tryd.underlying9 y1) (trodAll_cons_mk (shut_int Tryd.underlying3 w2) trodAll_mk0))), rfl, bel.frame _, fun h => by cases h⟩
theorem over : Rows.NatTellsSaid :=
  OpenClaim.holds_of_wide 3 Tryd.f3 rfl rfl rfl rfl rfl rfl rfl ⟨rfl, rfl, rfl, rfl, rfl⟩ rfl rfl rfl rfl rfl (by kernel_rfl) Tryd.func3 (by kernel_rfl)
    (of_decide_eq_true (by kernel_rfl)) (by unfold Func.isWrapper; first | (rw [if_pos (by decide +kernel)]; kernel_rfl) | (rw [if_neg (by decide +kernel)]; exact ⟨rfl, rfl⟩))
    (fun os started H enc _ => lifted os started H enc)
theorem proved : Rows.NatTellsCardSaid :=
  Claim7.holds_tied_plain_at .later [] [.data, .data, .data, .sentinel, .sentinel] true (true, "d5ab43be80e0f9512f94eeafcac67ad3748b237780a8a3f2ad52dc7fafa3345f") true
    over (fun _ h => by cases h) (by kernel_rfl) (fun _ h => by cases h) natTells_row_tie rfl ⟨rfl, rfl⟩ (by kernel_rfl) rfl
    (fun f fn hf hfn => by
      obtain rfl : f = 3 := Option.some.inj ((show Tryd.prog.funcNamed "debenture/debenturelaw01.NatTells" = some 3 by kernel_rfl).symm.trans hf) |>.symm
      obtain rfl : fn = Tryd.f3 := (Option.some.inj (Tryd.func3.symm.trans hfn)).symm
      exact ⟨by kernel_rfl, fun j t ht => by
        rw [Tryd.params3] at ht
        have hm : t ∈ [9, 9, 3] := by simpa using Array.mem_of_getElem? ht
        have hall : ([9, 9, 3].all fun u => !Tryd.prog.wantsStandIn u) = true := by kernel_rfl
        exact (show Tryd.prog.wantsStandIn t = false by simpa using List.all_eq_true.1 hall t hm)⟩)
    (by kernel_rfl)
end Go.Proofs.YtmcpiejgneegjaaDoor.natTells
namespace Go.Proofs.YtmcpiejgneegjaaDoor
/-- The card, under a short name, for the claim. -/
theorem natTells_holds : Rows.NatTellsCardSaid := natTells.proved
#print axioms natTells_holds
end Go.Proofs.YtmcpiejgneegjaaDoor

end
