/-
The law NatLaws holds at every input: its row, and its card, tied to the program's text. Conditions: none beyond the given row's own.
Parts of the proof, in build order: PuBase, LNatLaws0, LNatLaws1, PuNatLaws, RowNatLaws.
-/
import Derived.Test.YtmcpiejgneegjaaDoorC5
import Derived.Test.YtmcpiejgneegjaaDoorProg
import Derived.Below
import Derived.Deep.Draws
import Derived.Deep.AppendLies
import Derived.Maps.AppendAt
import Derived.OwnWalk
import Derived.Laws.BytesArg
import Derived.Laws.MakeOwn
import Derived.Laws.OwnMore
import Derived.Deep.OwnRows
import Derived.Tactics
import Derived.Lib.ConvBytes
import Derived.Laws.Slices
import Derived.WalkKit
import Derived.KernelRfl
import Derived.RowKit3
import Derived.Deep.LoopGhost
import Derived.Deep.QuietTactic
import Derived.BigQuiet
import Derived.WideLaws
import Derived.Deep.DeepCutAuto
import Derived.Deep.CutBlock
import Derived.Deep.RegionHeld3
import Derived.Laws.Rows
import Derived.Lib.AppendStr
import Derived.ArgAppend
import Derived.Laws.IdiomCopy
import Derived.OrdersHeld
import Derived.Laws.BitsLemmas
import Derived.RowKit
import Derived.Test.YtmcpiejgneegjaaDoorC0
import Derived.Test.YtmcpiejgneegjaaDoorTie
import Derived.Test.YtmcpiejgneegjaaDoorCards
import Derived.SevenTiedAt
/-
What the laws of naturals share.
-/
section
set_option linter.unusedVariables false
namespace Go.Proofs.YtmcpiejgneegjaaDoor
open Go.RowKit Go.Proofs.YtmcpiejgneegjaaDoorW.PrintWords Go.Proofs.YtmcpiejgneegjaaDoorW.PrintLast Go.Proofs.YtmcpiejgneegjaaDoorW.PrintMore

theorem shorts3 {a b c : ByteArray} : debentureref01_Short.f [a, b, c] = some (shortT a && (shortT b && shortT c)) := by
  rw [rShort (by simp)]
  simp [List.all_cons]
theorem shorts2 {a b : ByteArray} : debentureref01_Short.f [a, b] = some (shortT a && shortT b) := by
  rw [rShort (by simp)]
  simp [List.all_cons]
theorem cmpI_cases (m n : Nat) : (m < n ∧ Lib.compareInt (m : Int) (n : Int) = -1 ∧ Lib.compareInt (n : Int) (m : Int) = 1) ∨ (m = n ∧ Lib.compareInt (m : Int) (n : Int) = 0 ∧ Lib.compareInt (n : Int) (m : Int) = 0) ∨ (n < m ∧ Lib.compareInt (m : Int) (n : Int) = 1 ∧ Lib.compareInt (n : Int) (m : Int) = -1) := by
  rcases Nat.lt_trichotomy m n with h | h | h
  · exact .inl ⟨h, cmpI_lt h, cmpI_gt h⟩
  · exact .inr (.inl ⟨h, cmpI_eq h, cmpI_eq h.symm⟩)
  · exact .inr (.inr ⟨h, cmpI_gt h, cmpI_lt h⟩)

theorem wf_i64 {n : Int} (h : (Lit.int .i64 n).wf = true) : -9223372036854775808 ≤ n ∧ n ≤ 9223372036854775807 := by
  have e1 : IntKind.i64.min = -9223372036854775808 := rfl
  have e2 : IntKind.i64.max = 9223372036854775807 := rfl
  simp [Lit.wf, e1, e2] at h
  exact h
theorem bne_same {α : Type} [BEq α] [LawfulBEq α] (a : α) : ¬ (a != a) = true := by simp

end Go.Proofs.YtmcpiejgneegjaaDoor

end

-- Written by wip/pp.py of this place (over the kit's print) out of the translation.
section
namespace Go.Proofs.YtmcpiejgneegjaaDoor.LNatLaws
open Go.RowKit Go.Proofs.YtmcpiejgneegjaaDoorW.PrintWords Go.Proofs.YtmcpiejgneegjaaDoorW.PrintLast Go.Proofs.YtmcpiejgneegjaaDoorW.PrintMore
attribute [local go_sem] max2_int min2_int max_two min_two max_three min_three max_four min_four   -- for this text's walks alone
set_option linter.unusedVariables false
set_option linter.unusedSimpArgs false



def errW : Option Int → Value
  | none => .nilIface
  | some c => .iface 0 (.int .i64 c)
theorem errW_none : errW none = .nilIface := rfl
theorem errW_some (c : Int) : errW (some c) = .iface 0 (.int .i64 c) := rfl

theorem info9 : (Tryd.prog.info? 9).map (fun i => (i.zero, i.size, i.bytes)) = some (some (.string ⟨#[]⟩), 1, 16) := by kernel_rfl
-- the values' own types

end Go.Proofs.YtmcpiejgneegjaaDoor.LNatLaws

end

-- Written by wip/pp.py of this place (over the kit's print) out of the translation.
section
namespace Go.Proofs.YtmcpiejgneegjaaDoor.LNatLaws
open Go.RowKit Go.Proofs.YtmcpiejgneegjaaDoorW.PrintWords Go.Proofs.YtmcpiejgneegjaaDoorW.PrintLast Go.Proofs.YtmcpiejgneegjaaDoorW.PrintMore
attribute [local go_sem] max2_int min2_int max_two min_two max_three min_three max_four min_four   -- for this text's walks alone
set_option linter.unusedVariables false
set_option linter.unusedSimpArgs false

-- walked by hand: function 10 (debentureref01_Short)

-- walked by hand: function 11 (debenturelaw01_fixed)

-- walked by hand: function 19 (debentureref01_May)

-- walked by hand: function 24 (nat_Add)

-- walked by hand: function 26 (nat_Mul)

/-! ### debenturelaw01_NatLaws: function 4 -/
def debenturelaw01_NatLaws.j0 : Nat → ByteArray → ByteArray → ByteArray → Bool → Option (Bool)
  | 0, _, _, _, _ => none
  | k + 1, x0, x1, x2, x33 => if x33 = true then ((debenturelaw01_fixed.f).bind fun t109 => (some t109)) else ((nat_Add.f x0 x1).bind fun t110 => ((nat_Add.f t110 x2).bind fun t111 => ((nat_Mul.f x0 x1).bind fun t112 => ((nat_Mul.f t112 x2).bind fun t113 => (if t111.toList = ([] : List UInt8) then (some false) else (if t113.toList = ([] : List UInt8) then (some false) else ((nat_Add.f x2 x1).bind fun t114 => ((nat_Add.f x0 t114).bind fun t115 => (if t111.toList = t115.toList then ((nat_Mul.f x2 x1).bind fun t116 => ((nat_Mul.f x0 t116).bind fun t117 => (if t113.toList = t117.toList then ((nat_Add.f x1 x2).bind fun t118 => ((nat_Mul.f x0 t118).bind fun t119 => ((nat_Mul.f x0 x1).bind fun t120 => ((nat_Mul.f x0 x2).bind fun t121 => ((nat_Add.f t120 t121).bind fun t122 => (some (t119.toList == t122.toList))))))) else (some false)))) else (some false))))))))))
def debenturelaw01_NatLaws.f (k : Nat) (a0 : ByteArray) (a1 : ByteArray) (a2 : ByteArray) : Option (Bool) := (debenturelaw01_fixed.f).bind fun t101 => (if t101 = true then ((debentureref01_Short.f (([a0, a1, a2] : List ByteArray))).bind fun t105 => (if t105 = true then ((debentureref01_May.f a0).bind fun t106 => (if t106 = true then ((debentureref01_May.f a1).bind fun t107 => (if t107 = true then ((debentureref01_May.f a2).bind fun t108 => (debenturelaw01_NatLaws.j0 k a0 a1 a2 (!t108))) else (debenturelaw01_NatLaws.j0 k a0 a1 a2 true))) else (debenturelaw01_NatLaws.j0 k a0 a1 a2 true))) else (debenturelaw01_NatLaws.j0 k a0 a1 a2 true))) else (debenturelaw01_NatLaws.j0 k a0 a1 a2 true))
theorem debenturelaw01_NatLaws.mono_l : ∀ k, (∀ y0 y1 y2 y3, LeO (debenturelaw01_NatLaws.j0 k y0 y1 y2 y3) (debenturelaw01_NatLaws.j0 (k + 1) y0 y1 y2 y3))
  | 0 => fun _ _ _ _ r h => by simp [debenturelaw01_NatLaws.j0] at h
  | k + 1 => by
    have ih0 := debenturelaw01_NatLaws.mono_l k
    · intro y0 y1 y2 y3
      unfold debenturelaw01_NatLaws.j0
      repeat' first
      | (with_reducible exact ih0 _ _ _ _)
      | (with_reducible exact LeO.refl _)
      | (with_reducible exact LeO.none _)
      | (with_reducible refine LeO.ite ?_ ?_)
      | (with_reducible refine LeO.bind ?_ (fun _ => ?_))
      | exact ih0 _ _ _ _
      | exact LeO.none _
      | refine LeO.ite ?_ ?_
      | refine LeO.bind ?_ (fun _ => ?_)
theorem debenturelaw01_NatLaws.mono : ∀ a0 a1 a2 k, LeO (debenturelaw01_NatLaws.f k a0 a1 a2) (debenturelaw01_NatLaws.f (k + 1) a0 a1 a2) := by
  intro a0 a1 a2 k
  have ih0 := debenturelaw01_NatLaws.mono_l k
  unfold debenturelaw01_NatLaws.f
  repeat' first
      | (with_reducible exact ih0 _ _ _ _)
      | (with_reducible exact LeO.refl _)
      | (with_reducible exact LeO.none _)
      | (with_reducible refine LeO.ite ?_ ?_)
      | (with_reducible refine LeO.bind ?_ (fun _ => ?_))
      | exact ih0 _ _ _ _
      | exact LeO.none _
      | refine LeO.ite ?_ ?_
      | refine LeO.bind ?_ (fun _ => ?_)
set_option maxHeartbeats 8000000 in
set_option maxRecDepth 100000 in
theorem debenturelaw01_NatLaws.calls (k : Nat) (a0 : ByteArray) (a1 : ByteArray) (a2 : ByteArray) (r : Bool) (w : World) (hL_ : Laid w) (hr_ : Aside0 (r = true)) (h : debenturelaw01_NatLaws.f k a0 a1 a2 = some r) :
    Calls Tryd.prog 4 #[.string a0, .string a1, .string a2] w fun e w' => e = .returned (.bool r) ∧ Below w.heap.size w w' := by
  have HLD := Aside0.mk hL_
  clear hL_
  have HB := Aside0.mk (Below.refl w.heap.size w)
  have H : ((debenturelaw01_fixed.f).bind fun t101 => (if t101 = true then ((debentureref01_Short.f (([a0, a1, a2] : List ByteArray))).bind fun t105 => (if t105 = true then ((debentureref01_May.f a0).bind fun t106 => (if t106 = true then ((debentureref01_May.f a1).bind fun t107 => (if t107 = true then ((debentureref01_May.f a2).bind fun t108 => (debenturelaw01_NatLaws.j0 k a0 a1 a2 (!t108))) else (debenturelaw01_NatLaws.j0 k a0 a1 a2 true))) else (debenturelaw01_NatLaws.j0 k a0 a1 a2 true))) else (debenturelaw01_NatLaws.j0 k a0 a1 a2 true))) else (debenturelaw01_NatLaws.j0 k a0 a1 a2 true))) = some r := h
  clear h
  have HC4 := Aside0.mk H
  clear H
  go_enter Tryd.func4, Tryd.ntmps4
  go_upto_region 1 with (fail)
  go_cut [33] (fun v33 wc => ∃ (kq : Nat) (x33_3 : Bool), v33 = .bool x33_3 ∧ Aside0 (debenturelaw01_NatLaws.j0 kq a0 a1 a2 x33_3 = some r) ∧ Aside0 (kq ≤ k) ∧ Aside0 (Below w.heap.size w wc))
  case first =>
    have H := HC4.out
    clear HC4
    replace H := Option.bind_eq_some_iff.mp H
    obtain ⟨t101, A50, H⟩ := H
    replace H : (if t101 = true then ((debentureref01_Short.f (([a0, a1, a2] : List ByteArray))).bind fun t105 => (if t105 = true then ((debentureref01_May.f a0).bind fun t106 => (if t106 = true then ((debentureref01_May.f a1).bind fun t107 => (if t107 = true then ((debentureref01_May.f a2).bind fun t108 => (debenturelaw01_NatLaws.j0 k a0 a1 a2 (!t108))) else (debenturelaw01_NatLaws.j0 k a0 a1 a2 true))) else (debenturelaw01_NatLaws.j0 k a0 a1 a2 true))) else (debenturelaw01_NatLaws.j0 k a0 a1 a2 true))) else (debenturelaw01_NatLaws.j0 k a0 a1 a2 true)) = some r := H
    have A5 := Aside0.mk A50
    clear A50
    by_cases c6 : t101 = true
    · subst c6
      have H1 : ((debentureref01_Short.f (([a0, a1, a2] : List ByteArray))).bind fun t105 => (if t105 = true then ((debentureref01_May.f a0).bind fun t106 => (if t106 = true then ((debentureref01_May.f a1).bind fun t107 => (if t107 = true then ((debentureref01_May.f a2).bind fun t108 => (debenturelaw01_NatLaws.j0 k a0 a1 a2 (!t108))) else (debenturelaw01_NatLaws.j0 k a0 a1 a2 true))) else (debenturelaw01_NatLaws.j0 k a0 a1 a2 true))) else (debenturelaw01_NatLaws.j0 k a0 a1 a2 true))) = some r := by rw [if_pos rfl] at H; exact H
      clear H
      have H := H1
      clear H1
      obtain ⟨y102, hy102⟩ : ∃ y_ : List ByteArray, y_ = (([a0, a1, a2] : List ByteArray)) := ⟨_, rfl⟩
      replace H : ((debentureref01_Short.f y102).bind fun t105 => (if t105 = true then ((debentureref01_May.f a0).bind fun t106 => (if t106 = true then ((debentureref01_May.f a1).bind fun t107 => (if t107 = true then ((debentureref01_May.f a2).bind fun t108 => (debenturelaw01_NatLaws.j0 k a0 a1 a2 (!t108))) else (debenturelaw01_NatLaws.j0 k a0 a1 a2 true))) else (debenturelaw01_NatLaws.j0 k a0 a1 a2 true))) else (debenturelaw01_NatLaws.j0 k a0 a1 a2 true))) = some r := by first | (rw [hy102]; with_reducible exact H) | (have H2_ := (Option.bind_some _ _).symm.trans H; rw [hy102]; with_reducible exact H2_) | (have H2_ := (Option.bind_some _ _).symm.trans H; with_reducible exact H2_) | with_reducible exact H | (rw [hy102]; exact H) | exact H
      have Ny102 := Aside0.mk hy102
      clear hy102
      replace H := Option.bind_eq_some_iff.mp H
      obtain ⟨t105, A70, H⟩ := H
      replace H : (if t105 = true then ((debentureref01_May.f a0).bind fun t106 => (if t106 = true then ((debentureref01_May.f a1).bind fun t107 => (if t107 = true then ((debentureref01_May.f a2).bind fun t108 => (debenturelaw01_NatLaws.j0 k a0 a1 a2 (!t108))) else (debenturelaw01_NatLaws.j0 k a0 a1 a2 true))) else (debenturelaw01_NatLaws.j0 k a0 a1 a2 true))) else (debenturelaw01_NatLaws.j0 k a0 a1 a2 true)) = some r := H
      have A7 := Aside0.mk A70
      clear A70
      by_cases c8 : t105 = true
      · subst c8
        have H1 : ((debentureref01_May.f a0).bind fun t106 => (if t106 = true then ((debentureref01_May.f a1).bind fun t107 => (if t107 = true then ((debentureref01_May.f a2).bind fun t108 => (debenturelaw01_NatLaws.j0 k a0 a1 a2 (!t108))) else (debenturelaw01_NatLaws.j0 k a0 a1 a2 true))) else (debenturelaw01_NatLaws.j0 k a0 a1 a2 true))) = some r := by rw [if_pos rfl] at H; exact H
        clear H
        have H := H1
        clear H1
        replace H := Option.bind_eq_some_iff.mp H
        obtain ⟨t106, A90, H⟩ := H
        replace H : (if t106 = true then ((debentureref01_May.f a1).bind fun t107 => (if t107 = true then ((debentureref01_May.f a2).bind fun t108 => (debenturelaw01_NatLaws.j0 k a0 a1 a2 (!t108))) else (debenturelaw01_NatLaws.j0 k a0 a1 a2 true))) else (debenturelaw01_NatLaws.j0 k a0 a1 a2 true)) = some r := H
        have A9 := Aside0.mk A90
        clear A90
        by_cases c10 : t106 = true
        · subst c10
          have H1 : ((debentureref01_May.f a1).bind fun t107 => (if t107 = true then ((debentureref01_May.f a2).bind fun t108 => (debenturelaw01_NatLaws.j0 k a0 a1 a2 (!t108))) else (debenturelaw01_NatLaws.j0 k a0 a1 a2 true))) = some r := by rw [if_pos rfl] at H; exact H
          clear H
          have H := H1
          clear H1
          replace H := Option.bind_eq_some_iff.mp H
          obtain ⟨t107, A110, H⟩ := H
          replace H : (if t107 = true then ((debentureref01_May.f a2).bind fun t108 => (debenturelaw01_NatLaws.j0 k a0 a1 a2 (!t108))) else (debenturelaw01_NatLaws.j0 k a0 a1 a2 true)) = some r := H
          have A11 := Aside0.mk A110
          clear A110
          by_cases c12 : t107 = true
          · subst c12
            have H1 : ((debentureref01_May.f a2).bind fun t108 => (debenturelaw01_NatLaws.j0 k a0 a1 a2 (!t108))) = some r := by rw [if_pos rfl] at H; exact H
            clear H
            have H := H1
            clear H1
            replace H := Option.bind_eq_some_iff.mp H
            obtain ⟨t108, A130, H⟩ := H
            replace H : (debenturelaw01_NatLaws.j0 k a0 a1 a2 (!t108)) = some r := H
            have A13 := Aside0.mk A130
            clear A130
            have H' := Aside0.mk H
            clear H
            go_wp2_with (first | ((with_reducible refine gate_callee (f := 11) rfl ?_); refine goesL_ (some 9) rfl rfl Tryd.func11 (by kernel_rfl) rfl #[] rfl (by (try simp only [List.map_toArray, List.map_cons, List.map_nil]); first | done | rfl | (simp only [List.length_drop, List.length_take]; rfl)) ?_; (with_reducible refine (debenturelaw01_fixed.calls  true _ ?side1 A5.out).mono ?_); (case side1 => exact Laid.below HLD.out (by repeat (first | (with_reducible first | exact HB.out | apply below_alloc | apply pw_below_drewN | apply below_drew1) | exact HB.out))); rintro e w14 ⟨rfl, hb⟩; refine ⟨_, rfl, ?_⟩; have n0_ := Aside0.mk (below_step (by repeat (first | (with_reducible first | exact HB.out | apply below_alloc | apply pw_below_drewN | apply below_drew1) | exact HB.out)) hb); clear HB; have HB := n0_; clear n0_; (try clear hb); (try clear hb2); (try clear hk); (try clear hi)) | ((with_reducible refine gate_dst (N := 15) rfl ?_); (try (refine gate_guard (by rfl) ?_; dsimp only)); refine Kd.R_lit Kd.string _ 9 ?hg (N := 15) ?hd (xs := ([a0, a1, a2] : List ByteArray)) (inner := [.string a0, .string a1, .string a2]) (ok := fun _ => True) (okp := fun _ => True) ?hr ?hp (fun _ hk => hk) trivial (Below.refl _ _) (Nat.le_refl _) (by simp) ?_; (case hd => rfl); (case hg => rfl); (case hr => first | (go_simp; done) | (go_simp; rfl)); (case hp => exact (Reps.one (show Kd.M Kd.string _ _ _ a0 [.string a0] from rfl) (Reps.one (show Kd.M Kd.string _ _ _ a1 [.string a1] from rfl) (Reps.one (show Kd.M Kd.string _ _ _ a2 [.string a2] from rfl) (Reps.none _ _))))); intro v103 w15 ho16 hb hg_ hnew_; clear hg_ hnew_; (first | rw [← Ny102.out] at ho16 | (simp only [Int.reduceToNat] at ho16; rw [← Ny102.out] at ho16)); have n0_ := Aside0.mk (Kd.R_lower ho16 (below_size (by repeat (first | (with_reducible first | exact HB.out | apply below_alloc | apply pw_below_drewN | apply below_drew1) | exact HB.out)))); have n1_ := Aside0.mk (below_step (by repeat (first | (with_reducible first | exact HB.out | apply below_alloc | apply pw_below_drewN | apply below_drew1) | exact HB.out)) hb); clear HB; have HO104 := n0_; have HB := n1_; clear n0_ n1_; clear hb ho16; obtain ⟨Ao17, co17, eo17⟩ := Kd.R_slice HO104.out; subst eo17) | (go_at_call 10; (with_reducible refine (debentureref01_Short.calls _ _ y102 true _ ?side1 ?side2 A7.out).mono ?_); (case side1 => repeat (first | exact (Kd.R_reads' HO104.out).2.2 | (with_reducible refine Kd.C_alloc ?_ _) | (with_reducible refine Kd.C_drewN ?_ _) | (with_reducible refine Kd.C_drew ?_))); (case side2 => exact (Kd.R_reads' HO104.out).2.1); rintro e w18 ⟨rfl, hb⟩; have n0_ := Aside0.mk (Kd.R_below (by (with_reducible repeat (first | apply Kd.R_alloc | apply Kd.R_drewN | apply Kd.R_drew)); exact HO104.out) hb); have n1_ := Aside0.mk (below_step (by repeat (first | (with_reducible first | exact HB.out | apply below_alloc | apply pw_below_drewN | apply below_drew1) | exact HB.out)) hb); clear HO104; clear HB; have HO104 := n0_; have HB := n1_; clear n0_ n1_; (try clear hb); (try clear hb2); (try clear hk); (try clear hi)) | (go_at_call 19; (with_reducible refine (debentureref01_May.calls a0 true _ A9.out).mono ?_); rintro e w19 ⟨rfl, hb⟩; have n0_ := Aside0.mk (Kd.R_below (by (with_reducible repeat (first | apply Kd.R_alloc | apply Kd.R_drewN | apply Kd.R_drew)); exact HO104.out) hb); have n1_ := Aside0.mk (below_step (by repeat (first | (with_reducible first | exact HB.out | apply below_alloc | apply pw_below_drewN | apply below_drew1) | exact HB.out)) hb); clear HO104; clear HB; have HO104 := n0_; have HB := n1_; clear n0_ n1_; (try clear hb); (try clear hb2); (try clear hk); (try clear hi)) | (go_at_call 19; (with_reducible refine (debentureref01_May.calls a1 true _ A11.out).mono ?_); rintro e w20 ⟨rfl, hb⟩; have n0_ := Aside0.mk (Kd.R_below (by (with_reducible repeat (first | apply Kd.R_alloc | apply Kd.R_drewN | apply Kd.R_drew)); exact HO104.out) hb); have n1_ := Aside0.mk (below_step (by repeat (first | (with_reducible first | exact HB.out | apply below_alloc | apply pw_below_drewN | apply below_drew1) | exact HB.out)) hb); clear HO104; clear HB; have HO104 := n0_; have HB := n1_; clear n0_ n1_; (try clear hb); (try clear hb2); (try clear hk); (try clear hi)) | (go_at_call 19; (with_reducible refine (debentureref01_May.calls a2 t108 _ A13.out).mono ?_); rintro e w21 ⟨rfl, hb⟩; have n0_ := Aside0.mk (Kd.R_below (by (with_reducible repeat (first | apply Kd.R_alloc | apply Kd.R_drewN | apply Kd.R_drew)); exact HO104.out) hb); have n1_ := Aside0.mk (below_step (by repeat (first | (with_reducible first | exact HB.out | apply below_alloc | apply pw_below_drewN | apply below_drew1) | exact HB.out)) hb); clear HO104; clear HB; have HO104 := n0_; have HB := n1_; clear n0_ n1_; (try clear hb); (try clear hb2); (try clear hk); (try clear hi)))
            go_meet
            case rel => exact ⟨_, (!t108), (by first | rfl | (simp; done) | (simp [*]; done)), H', ⟨by first | omega | exact Nat.le_refl _⟩, ⟨by repeat (first | (with_reducible first | exact HB.out | apply below_alloc | apply pw_below_drewN | apply below_drew1) | exact HB.out)⟩⟩
          · replace c12 := Bool.eq_false_iff.mpr c12
            subst c12
            have H1 : (debenturelaw01_NatLaws.j0 k a0 a1 a2 true) = some r := by rw [if_neg (show ¬ (false = true) by decide)] at H; exact H
            clear H
            have H := H1
            clear H1
            have H' := Aside0.mk H
            clear H
            go_wp2_with (first | ((with_reducible refine gate_callee (f := 11) rfl ?_); refine goesL_ (some 9) rfl rfl Tryd.func11 (by kernel_rfl) rfl #[] rfl (by (try simp only [List.map_toArray, List.map_cons, List.map_nil]); first | done | rfl | (simp only [List.length_drop, List.length_take]; rfl)) ?_; (with_reducible refine (debenturelaw01_fixed.calls  true _ ?side1 A5.out).mono ?_); (case side1 => exact Laid.below HLD.out (by repeat (first | (with_reducible first | exact HB.out | apply below_alloc | apply pw_below_drewN | apply below_drew1) | exact HB.out))); rintro e w22 ⟨rfl, hb⟩; refine ⟨_, rfl, ?_⟩; have n0_ := Aside0.mk (below_step (by repeat (first | (with_reducible first | exact HB.out | apply below_alloc | apply pw_below_drewN | apply below_drew1) | exact HB.out)) hb); clear HB; have HB := n0_; clear n0_; (try clear hb); (try clear hb2); (try clear hk); (try clear hi)) | ((with_reducible refine gate_dst (N := 15) rfl ?_); (try (refine gate_guard (by rfl) ?_; dsimp only)); refine Kd.R_lit Kd.string _ 9 ?hg (N := 15) ?hd (xs := ([a0, a1, a2] : List ByteArray)) (inner := [.string a0, .string a1, .string a2]) (ok := fun _ => True) (okp := fun _ => True) ?hr ?hp (fun _ hk => hk) trivial (Below.refl _ _) (Nat.le_refl _) (by simp) ?_; (case hd => rfl); (case hg => rfl); (case hr => first | (go_simp; done) | (go_simp; rfl)); (case hp => exact (Reps.one (show Kd.M Kd.string _ _ _ a0 [.string a0] from rfl) (Reps.one (show Kd.M Kd.string _ _ _ a1 [.string a1] from rfl) (Reps.one (show Kd.M Kd.string _ _ _ a2 [.string a2] from rfl) (Reps.none _ _))))); intro v103 w23 ho24 hb hg_ hnew_; clear hg_ hnew_; (first | rw [← Ny102.out] at ho24 | (simp only [Int.reduceToNat] at ho24; rw [← Ny102.out] at ho24)); have n0_ := Aside0.mk (Kd.R_lower ho24 (below_size (by repeat (first | (with_reducible first | exact HB.out | apply below_alloc | apply pw_below_drewN | apply below_drew1) | exact HB.out)))); have n1_ := Aside0.mk (below_step (by repeat (first | (with_reducible first | exact HB.out | apply below_alloc | apply pw_below_drewN | apply below_drew1) | exact HB.out)) hb); clear HB; have HO104 := n0_; have HB := n1_; clear n0_ n1_; clear hb ho24; obtain ⟨Ao25, co25, eo25⟩ := Kd.R_slice HO104.out; subst eo25) | (go_at_call 10; (with_reducible refine (debentureref01_Short.calls _ _ y102 true _ ?side1 ?side2 A7.out).mono ?_); (case side1 => repeat (first | exact (Kd.R_reads' HO104.out).2.2 | (with_reducible refine Kd.C_alloc ?_ _) | (with_reducible refine Kd.C_drewN ?_ _) | (with_reducible refine Kd.C_drew ?_))); (case side2 => exact (Kd.R_reads' HO104.out).2.1); rintro e w26 ⟨rfl, hb⟩; have n0_ := Aside0.mk (Kd.R_below (by (with_reducible repeat (first | apply Kd.R_alloc | apply Kd.R_drewN | apply Kd.R_drew)); exact HO104.out) hb); have n1_ := Aside0.mk (below_step (by repeat (first | (with_reducible first | exact HB.out | apply below_alloc | apply pw_below_drewN | apply below_drew1) | exact HB.out)) hb); clear HO104; clear HB; have HO104 := n0_; have HB := n1_; clear n0_ n1_; (try clear hb); (try clear hb2); (try clear hk); (try clear hi)) | (go_at_call 19; (with_reducible refine (debentureref01_May.calls a0 true _ A9.out).mono ?_); rintro e w27 ⟨rfl, hb⟩; have n0_ := Aside0.mk (Kd.R_below (by (with_reducible repeat (first | apply Kd.R_alloc | apply Kd.R_drewN | apply Kd.R_drew)); exact HO104.out) hb); have n1_ := Aside0.mk (below_step (by repeat (first | (with_reducible first | exact HB.out | apply below_alloc | apply pw_below_drewN | apply below_drew1) | exact HB.out)) hb); clear HO104; clear HB; have HO104 := n0_; have HB := n1_; clear n0_ n1_; (try clear hb); (try clear hb2); (try clear hk); (try clear hi)) | (go_at_call 19; (with_reducible refine (debentureref01_May.calls a1 false _ A11.out).mono ?_); rintro e w28 ⟨rfl, hb⟩; have n0_ := Aside0.mk (Kd.R_below (by (with_reducible repeat (first | apply Kd.R_alloc | apply Kd.R_drewN | apply Kd.R_drew)); exact HO104.out) hb); have n1_ := Aside0.mk (below_step (by repeat (first | (with_reducible first | exact HB.out | apply below_alloc | apply pw_below_drewN | apply below_drew1) | exact HB.out)) hb); clear HO104; clear HB; have HO104 := n0_; have HB := n1_; clear n0_ n1_; (try clear hb); (try clear hb2); (try clear hk); (try clear hi)))
            go_meet
            case rel => exact ⟨_, (true), (by first | rfl | (simp; done) | (simp [*]; done)), H', ⟨by first | omega | exact Nat.le_refl _⟩, ⟨by repeat (first | (with_reducible first | exact HB.out | apply below_alloc | apply pw_below_drewN | apply below_drew1) | exact HB.out)⟩⟩
        · replace c10 := Bool.eq_false_iff.mpr c10
          subst c10
          have H1 : (debenturelaw01_NatLaws.j0 k a0 a1 a2 true) = some r := by rw [if_neg (show ¬ (false = true) by decide)] at H; exact H
          clear H
          have H := H1
          clear H1
          have H' := Aside0.mk H
          clear H
          go_wp2_with (first | ((with_reducible refine gate_callee (f := 11) rfl ?_); refine goesL_ (some 9) rfl rfl Tryd.func11 (by kernel_rfl) rfl #[] rfl (by (try simp only [List.map_toArray, List.map_cons, List.map_nil]); first | done | rfl | (simp only [List.length_drop, List.length_take]; rfl)) ?_; (with_reducible refine (debenturelaw01_fixed.calls  true _ ?side1 A5.out).mono ?_); (case side1 => exact Laid.below HLD.out (by repeat (first | (with_reducible first | exact HB.out | apply below_alloc | apply pw_below_drewN | apply below_drew1) | exact HB.out))); rintro e w29 ⟨rfl, hb⟩; refine ⟨_, rfl, ?_⟩; have n0_ := Aside0.mk (below_step (by repeat (first | (with_reducible first | exact HB.out | apply below_alloc | apply pw_below_drewN | apply below_drew1) | exact HB.out)) hb); clear HB; have HB := n0_; clear n0_; (try clear hb); (try clear hb2); (try clear hk); (try clear hi)) | ((with_reducible refine gate_dst (N := 15) rfl ?_); (try (refine gate_guard (by rfl) ?_; dsimp only)); refine Kd.R_lit Kd.string _ 9 ?hg (N := 15) ?hd (xs := ([a0, a1, a2] : List ByteArray)) (inner := [.string a0, .string a1, .string a2]) (ok := fun _ => True) (okp := fun _ => True) ?hr ?hp (fun _ hk => hk) trivial (Below.refl _ _) (Nat.le_refl _) (by simp) ?_; (case hd => rfl); (case hg => rfl); (case hr => first | (go_simp; done) | (go_simp; rfl)); (case hp => exact (Reps.one (show Kd.M Kd.string _ _ _ a0 [.string a0] from rfl) (Reps.one (show Kd.M Kd.string _ _ _ a1 [.string a1] from rfl) (Reps.one (show Kd.M Kd.string _ _ _ a2 [.string a2] from rfl) (Reps.none _ _))))); intro v103 w30 ho31 hb hg_ hnew_; clear hg_ hnew_; (first | rw [← Ny102.out] at ho31 | (simp only [Int.reduceToNat] at ho31; rw [← Ny102.out] at ho31)); have n0_ := Aside0.mk (Kd.R_lower ho31 (below_size (by repeat (first | (with_reducible first | exact HB.out | apply below_alloc | apply pw_below_drewN | apply below_drew1) | exact HB.out)))); have n1_ := Aside0.mk (below_step (by repeat (first | (with_reducible first | exact HB.out | apply below_alloc | apply pw_below_drewN | apply below_drew1) | exact HB.out)) hb); clear HB; have HO104 := n0_; have HB := n1_; clear n0_ n1_; clear hb ho31; obtain ⟨Ao32, co32, eo32⟩ := Kd.R_slice HO104.out; subst eo32) | (go_at_call 10; (with_reducible refine (debentureref01_Short.calls _ _ y102 true _ ?side1 ?side2 A7.out).mono ?_); (case side1 => repeat (first | exact (Kd.R_reads' HO104.out).2.2 | (with_reducible refine Kd.C_alloc ?_ _) | (with_reducible refine Kd.C_drewN ?_ _) | (with_reducible refine Kd.C_drew ?_))); (case side2 => exact (Kd.R_reads' HO104.out).2.1); rintro e w33 ⟨rfl, hb⟩; have n0_ := Aside0.mk (Kd.R_below (by (with_reducible repeat (first | apply Kd.R_alloc | apply Kd.R_drewN | apply Kd.R_drew)); exact HO104.out) hb); have n1_ := Aside0.mk (below_step (by repeat (first | (with_reducible first | exact HB.out | apply below_alloc | apply pw_below_drewN | apply below_drew1) | exact HB.out)) hb); clear HO104; clear HB; have HO104 := n0_; have HB := n1_; clear n0_ n1_; (try clear hb); (try clear hb2); (try clear hk); (try clear hi)) | (go_at_call 19; (with_reducible refine (debentureref01_May.calls a0 false _ A9.out).mono ?_); rintro e w34 ⟨rfl, hb⟩; have n0_ := Aside0.mk (Kd.R_below (by (with_reducible repeat (first | apply Kd.R_alloc | apply Kd.R_drewN | apply Kd.R_drew)); exact HO104.out) hb); have n1_ := Aside0.mk (below_step (by repeat (first | (with_reducible first | exact HB.out | apply below_alloc | apply pw_below_drewN | apply below_drew1) | exact HB.out)) hb); clear HO104; clear HB; have HO104 := n0_; have HB := n1_; clear n0_ n1_; (try clear hb); (try clear hb2); (try clear hk); (try clear hi)))
          go_meet
          case rel => exact ⟨_, (true), (by first | rfl | (simp; done) | (simp [*]; done)), H', ⟨by first | omega | exact Nat.le_refl _⟩, ⟨by repeat (first | (with_reducible first | exact HB.out | apply below_alloc | apply pw_below_drewN | apply below_drew1) | exact HB.out)⟩⟩
      · replace c8 := Bool.eq_false_iff.mpr c8
        subst c8
        have H1 : (debenturelaw01_NatLaws.j0 k a0 a1 a2 true) = some r := by rw [if_neg (show ¬ (false = true) by decide)] at H; exact H
        clear H
        have H := H1
        clear H1
        have H' := Aside0.mk H
        clear H
        go_wp2_with (first | ((with_reducible refine gate_callee (f := 11) rfl ?_); refine goesL_ (some 9) rfl rfl Tryd.func11 (by kernel_rfl) rfl #[] rfl (by (try simp only [List.map_toArray, List.map_cons, List.map_nil]); first | done | rfl | (simp only [List.length_drop, List.length_take]; rfl)) ?_; (with_reducible refine (debenturelaw01_fixed.calls  true _ ?side1 A5.out).mono ?_); (case side1 => exact Laid.below HLD.out (by repeat (first | (with_reducible first | exact HB.out | apply below_alloc | apply pw_below_drewN | apply below_drew1) | exact HB.out))); rintro e w35 ⟨rfl, hb⟩; refine ⟨_, rfl, ?_⟩; have n0_ := Aside0.mk (below_step (by repeat (first | (with_reducible first | exact HB.out | apply below_alloc | apply pw_below_drewN | apply below_drew1) | exact HB.out)) hb); clear HB; have HB := n0_; clear n0_; (try clear hb); (try clear hb2); (try clear hk); (try clear hi)) | ((with_reducible refine gate_dst (N := 15) rfl ?_); (try (refine gate_guard (by rfl) ?_; dsimp only)); refine Kd.R_lit Kd.string _ 9 ?hg (N := 15) ?hd (xs := ([a0, a1, a2] : List ByteArray)) (inner := [.string a0, .string a1, .string a2]) (ok := fun _ => True) (okp := fun _ => True) ?hr ?hp (fun _ hk => hk) trivial (Below.refl _ _) (Nat.le_refl _) (by simp) ?_; (case hd => rfl); (case hg => rfl); (case hr => first | (go_simp; done) | (go_simp; rfl)); (case hp => exact (Reps.one (show Kd.M Kd.string _ _ _ a0 [.string a0] from rfl) (Reps.one (show Kd.M Kd.string _ _ _ a1 [.string a1] from rfl) (Reps.one (show Kd.M Kd.string _ _ _ a2 [.string a2] from rfl) (Reps.none _ _))))); intro v103 w36 ho37 hb hg_ hnew_; clear hg_ hnew_; (first | rw [← Ny102.out] at ho37 | (simp only [Int.reduceToNat] at ho37; rw [← Ny102.out] at ho37)); have n0_ := Aside0.mk (Kd.R_lower ho37 (below_size (by repeat (first | (with_reducible first | exact HB.out | apply below_alloc | apply pw_below_drewN | apply below_drew1) | exact HB.out)))); have n1_ := Aside0.mk (below_step (by repeat (first | (with_reducible first | exact HB.out | apply below_alloc | apply pw_below_drewN | apply below_drew1) | exact HB.out)) hb); clear HB; have HO104 := n0_; have HB := n1_; clear n0_ n1_; clear hb ho37; obtain ⟨Ao38, co38, eo38⟩ := Kd.R_slice HO104.out; subst eo38) | (go_at_call 10; (with_reducible refine (debentureref01_Short.calls _ _ y102 false _ ?side1 ?side2 A7.out).mono ?_); (case side1 => repeat (first | exact (Kd.R_reads' HO104.out).2.2 | (with_reducible refine Kd.C_alloc ?_ _) | (with_reducible refine Kd.C_drewN ?_ _) | (with_reducible refine Kd.C_drew ?_))); (case side2 => exact (Kd.R_reads' HO104.out).2.1); rintro e w39 ⟨rfl, hb⟩; have n0_ := Aside0.mk (Kd.R_below (by (with_reducible repeat (first | apply Kd.R_alloc | apply Kd.R_drewN | apply Kd.R_drew)); exact HO104.out) hb); have n1_ := Aside0.mk (below_step (by repeat (first | (with_reducible first | exact HB.out | apply below_alloc | apply pw_below_drewN | apply below_drew1) | exact HB.out)) hb); clear HO104; clear HB; have HO104 := n0_; have HB := n1_; clear n0_ n1_; (try clear hb); (try clear hb2); (try clear hk); (try clear hi)))
        go_meet
        case rel => exact ⟨_, (true), (by first | rfl | (simp; done) | (simp [*]; done)), H', ⟨by first | omega | exact Nat.le_refl _⟩, ⟨by repeat (first | (with_reducible first | exact HB.out | apply below_alloc | apply pw_below_drewN | apply below_drew1) | exact HB.out)⟩⟩
    · replace c6 := Bool.eq_false_iff.mpr c6
      subst c6
      have H1 : (debenturelaw01_NatLaws.j0 k a0 a1 a2 true) = some r := by rw [if_neg (show ¬ (false = true) by decide)] at H; exact H
      clear H
      have H := H1
      clear H1
      have H' := Aside0.mk H
      clear H
      go_wp2_with (first | ((with_reducible refine gate_callee (f := 11) rfl ?_); refine goesL_ (some 9) rfl rfl Tryd.func11 (by kernel_rfl) rfl #[] rfl (by (try simp only [List.map_toArray, List.map_cons, List.map_nil]); first | done | rfl | (simp only [List.length_drop, List.length_take]; rfl)) ?_; (with_reducible refine (debenturelaw01_fixed.calls  false _ ?side1 A5.out).mono ?_); (case side1 => exact Laid.below HLD.out (by repeat (first | (with_reducible first | exact HB.out | apply below_alloc | apply pw_below_drewN | apply below_drew1) | exact HB.out))); rintro e w40 ⟨rfl, hb⟩; refine ⟨_, rfl, ?_⟩; have n0_ := Aside0.mk (below_step (by repeat (first | (with_reducible first | exact HB.out | apply below_alloc | apply pw_below_drewN | apply below_drew1) | exact HB.out)) hb); clear HB; have HB := n0_; clear n0_; (try clear hb); (try clear hb2); (try clear hk); (try clear hi)))
      go_meet
      case rel => exact ⟨_, (true), (by first | rfl | (simp; done) | (simp [*]; done)), H', ⟨by first | omega | exact Nat.le_refl _⟩, ⟨by repeat (first | (with_reducible first | exact HB.out | apply below_alloc | apply pw_below_drewN | apply below_drew1) | exact HB.out)⟩⟩
  case rest =>
    clear HC4
    try clear c1
    try clear p2
    try clear c4
    try clear c6
    try clear c8
    try clear c10
    try clear c11
    try clear c12
    obtain ⟨kq, x33_3, rfl, HA, HJ3, HB⟩ := hcut
    cases kq with
    | zero => exact absurd HA.out (by simp [debenturelaw01_NatLaws.j0])
    | succ kj3 =>
      have H := HA.out
      clear HA
      simp only [debenturelaw01_NatLaws.j0] at H
      by_cases c41 : x33_3 = true
      · subst c41
        have H1 : ((debenturelaw01_fixed.f).bind fun t109 => (some t109)) = some r := by rw [if_pos rfl] at H; exact H
        clear H
        have H := H1
        clear H1
        replace H := Option.bind_eq_some_iff.mp H
        obtain ⟨t109, A420, H⟩ := H
        replace H : (some t109) = some r := H
        have A42 := Aside0.mk A420
        clear A420
        obtain rfl := Option.some.inj H
        go_wp2_with (first | ((with_reducible refine gate_callee (f := 11) rfl ?_); refine goesL_ (some 34) rfl rfl Tryd.func11 (by kernel_rfl) rfl #[] rfl (by (try simp only [List.map_toArray, List.map_cons, List.map_nil]); first | done | rfl | (simp only [List.length_drop, List.length_take]; rfl)) ?_; (with_reducible refine (debenturelaw01_fixed.calls  t109 _ ?side1 A42.out).mono ?_); (case side1 => exact Laid.below HLD.out (by repeat (first | (with_reducible first | exact HB.out | apply below_alloc | apply pw_below_drewN | apply below_drew1) | exact HB.out))); rintro e w43 ⟨rfl, hb⟩; refine ⟨_, rfl, ?_⟩; have n0_ := Aside0.mk (below_step (by repeat (first | (with_reducible first | exact HB.out | apply below_alloc | apply pw_below_drewN | apply below_drew1) | exact HB.out)) hb); clear HB; have HB := n0_; clear n0_; (try clear hb); (try clear hb2); (try clear hk); (try clear hi)))
        go_ret
        exact ⟨by first | rfl | (simp [errW_none, errW_some] <;> rfl) | (simp [*, errW_none, errW_some] <;> rfl), by repeat (first | (with_reducible first | exact HB.out | apply below_alloc | apply pw_below_drewN | apply below_drew1) | exact HB.out)⟩
      · replace c41 := Bool.eq_false_iff.mpr c41
        subst c41
        have H1 : ((nat_Add.f a0 a1).bind fun t110 => ((nat_Add.f t110 a2).bind fun t111 => ((nat_Mul.f a0 a1).bind fun t112 => ((nat_Mul.f t112 a2).bind fun t113 => (if t111.toList = ([] : List UInt8) then (some false) else (if t113.toList = ([] : List UInt8) then (some false) else ((nat_Add.f a2 a1).bind fun t114 => ((nat_Add.f a0 t114).bind fun t115 => (if t111.toList = t115.toList then ((nat_Mul.f a2 a1).bind fun t116 => ((nat_Mul.f a0 t116).bind fun t117 => (if t113.toList = t117.toList then ((nat_Add.f a1 a2).bind fun t118 => ((nat_Mul.f a0 t118).bind fun t119 => ((nat_Mul.f a0 a1).bind fun t120 => ((nat_Mul.f a0 a2).bind fun t121 => ((nat_Add.f t120 t121).bind fun t122 => (some (t119.toList == t122.toList))))))) else (some false)))) else (some false)))))))))) = some r := by rw [if_neg (show ¬ (false = true) by decide)] at H; exact H
        clear H
        have H := H1
        clear H1
        replace H := Option.bind_eq_some_iff.mp H
        obtain ⟨t110, A440, H⟩ := H
        replace H : ((nat_Add.f t110 a2).bind fun t111 => ((nat_Mul.f a0 a1).bind fun t112 => ((nat_Mul.f t112 a2).bind fun t113 => (if t111.toList = ([] : List UInt8) then (some false) else (if t113.toList = ([] : List UInt8) then (some false) else ((nat_Add.f a2 a1).bind fun t114 => ((nat_Add.f a0 t114).bind fun t115 => (if t111.toList = t115.toList then ((nat_Mul.f a2 a1).bind fun t116 => ((nat_Mul.f a0 t116).bind fun t117 => (if t113.toList = t117.toList then ((nat_Add.f a1 a2).bind fun t118 => ((nat_Mul.f a0 t118).bind fun t119 => ((nat_Mul.f a0 a1).bind fun t120 => ((nat_Mul.f a0 a2).bind fun t121 => ((nat_Add.f t120 t121).bind fun t122 => (some (t119.toList == t122.toList))))))) else (some false)))) else (some false))))))))) = some r := H
        have A44 := Aside0.mk A440
        clear A440
        replace H := Option.bind_eq_some_iff.mp H
        obtain ⟨t111, A450, H⟩ := H
        replace H : ((nat_Mul.f a0 a1).bind fun t112 => ((nat_Mul.f t112 a2).bind fun t113 => (if t111.toList = ([] : List UInt8) then (some false) else (if t113.toList = ([] : List UInt8) then (some false) else ((nat_Add.f a2 a1).bind fun t114 => ((nat_Add.f a0 t114).bind fun t115 => (if t111.toList = t115.toList then ((nat_Mul.f a2 a1).bind fun t116 => ((nat_Mul.f a0 t116).bind fun t117 => (if t113.toList = t117.toList then ((nat_Add.f a1 a2).bind fun t118 => ((nat_Mul.f a0 t118).bind fun t119 => ((nat_Mul.f a0 a1).bind fun t120 => ((nat_Mul.f a0 a2).bind fun t121 => ((nat_Add.f t120 t121).bind fun t122 => (some (t119.toList == t122.toList))))))) else (some false)))) else (some false)))))))) = some r := H
        have A45 := Aside0.mk A450
        clear A450
        replace H := Option.bind_eq_some_iff.mp H
        obtain ⟨t112, A460, H⟩ := H
        replace H : ((nat_Mul.f t112 a2).bind fun t113 => (if t111.toList = ([] : List UInt8) then (some false) else (if t113.toList = ([] : List UInt8) then (some false) else ((nat_Add.f a2 a1).bind fun t114 => ((nat_Add.f a0 t114).bind fun t115 => (if t111.toList = t115.toList then ((nat_Mul.f a2 a1).bind fun t116 => ((nat_Mul.f a0 t116).bind fun t117 => (if t113.toList = t117.toList then ((nat_Add.f a1 a2).bind fun t118 => ((nat_Mul.f a0 t118).bind fun t119 => ((nat_Mul.f a0 a1).bind fun t120 => ((nat_Mul.f a0 a2).bind fun t121 => ((nat_Add.f t120 t121).bind fun t122 => (some (t119.toList == t122.toList))))))) else (some false)))) else (some false))))))) = some r := H
        have A46 := Aside0.mk A460
        clear A460
        replace H := Option.bind_eq_some_iff.mp H
        obtain ⟨t113, A470, H⟩ := H
        replace H : (if t111.toList = ([] : List UInt8) then (some false) else (if t113.toList = ([] : List UInt8) then (some false) else ((nat_Add.f a2 a1).bind fun t114 => ((nat_Add.f a0 t114).bind fun t115 => (if t111.toList = t115.toList then ((nat_Mul.f a2 a1).bind fun t116 => ((nat_Mul.f a0 t116).bind fun t117 => (if t113.toList = t117.toList then ((nat_Add.f a1 a2).bind fun t118 => ((nat_Mul.f a0 t118).bind fun t119 => ((nat_Mul.f a0 a1).bind fun t120 => ((nat_Mul.f a0 a2).bind fun t121 => ((nat_Add.f t120 t121).bind fun t122 => (some (t119.toList == t122.toList))))))) else (some false)))) else (some false)))))) = some r := H
        have A47 := Aside0.mk A470
        clear A470
        by_cases c48 : t111.toList = ([] : List UInt8)
        · rw [if_pos c48] at H
          have c48b0 : (t111.toList == ([] : List UInt8)) = true := beq_iff_eq.mpr c48
          have c48b1 : (t111.toList != ([] : List UInt8)) = false := bne_eq_false_iff_eq.mpr c48
          clear c48
          exact absurd (H.trans (congrArg some hr_.out)) (by decide)
        · rw [if_neg c48] at H
          have c48b0 : (t111.toList == ([] : List UInt8)) = false := beq_eq_false_iff_ne.mpr c48
          have c48b1 : (t111.toList != ([] : List UInt8)) = true := bne_iff_ne.mpr c48
          by_cases c53 : t113.toList = ([] : List UInt8)
          · rw [if_pos c53] at H
            have c53b0 : (t113.toList == ([] : List UInt8)) = true := beq_iff_eq.mpr c53
            have c53b1 : (t113.toList != ([] : List UInt8)) = false := bne_eq_false_iff_eq.mpr c53
            clear c53
            exact absurd (H.trans (congrArg some hr_.out)) (by decide)
          · rw [if_neg c53] at H
            have c53b0 : (t113.toList == ([] : List UInt8)) = false := beq_eq_false_iff_ne.mpr c53
            have c53b1 : (t113.toList != ([] : List UInt8)) = true := bne_iff_ne.mpr c53
            replace H := Option.bind_eq_some_iff.mp H
            obtain ⟨t114, A580, H⟩ := H
            replace H : ((nat_Add.f a0 t114).bind fun t115 => (if t111.toList = t115.toList then ((nat_Mul.f a2 a1).bind fun t116 => ((nat_Mul.f a0 t116).bind fun t117 => (if t113.toList = t117.toList then ((nat_Add.f a1 a2).bind fun t118 => ((nat_Mul.f a0 t118).bind fun t119 => ((nat_Mul.f a0 a1).bind fun t120 => ((nat_Mul.f a0 a2).bind fun t121 => ((nat_Add.f t120 t121).bind fun t122 => (some (t119.toList == t122.toList))))))) else (some false)))) else (some false))) = some r := H
            have A58 := Aside0.mk A580
            clear A580
            replace H := Option.bind_eq_some_iff.mp H
            obtain ⟨t115, A590, H⟩ := H
            replace H : (if t111.toList = t115.toList then ((nat_Mul.f a2 a1).bind fun t116 => ((nat_Mul.f a0 t116).bind fun t117 => (if t113.toList = t117.toList then ((nat_Add.f a1 a2).bind fun t118 => ((nat_Mul.f a0 t118).bind fun t119 => ((nat_Mul.f a0 a1).bind fun t120 => ((nat_Mul.f a0 a2).bind fun t121 => ((nat_Add.f t120 t121).bind fun t122 => (some (t119.toList == t122.toList))))))) else (some false)))) else (some false)) = some r := H
            have A59 := Aside0.mk A590
            clear A590
            by_cases c60 : t111.toList = t115.toList
            · rw [if_pos c60] at H
              have c60b0 : (t111.toList == t115.toList) = true := beq_iff_eq.mpr c60
              have c60b1 : (t111.toList != t115.toList) = false := bne_eq_false_iff_eq.mpr c60
              clear c60
              replace H := Option.bind_eq_some_iff.mp H
              obtain ⟨t116, A610, H⟩ := H
              replace H : ((nat_Mul.f a0 t116).bind fun t117 => (if t113.toList = t117.toList then ((nat_Add.f a1 a2).bind fun t118 => ((nat_Mul.f a0 t118).bind fun t119 => ((nat_Mul.f a0 a1).bind fun t120 => ((nat_Mul.f a0 a2).bind fun t121 => ((nat_Add.f t120 t121).bind fun t122 => (some (t119.toList == t122.toList))))))) else (some false))) = some r := H
              have A61 := Aside0.mk A610
              clear A610
              replace H := Option.bind_eq_some_iff.mp H
              obtain ⟨t117, A620, H⟩ := H
              replace H : (if t113.toList = t117.toList then ((nat_Add.f a1 a2).bind fun t118 => ((nat_Mul.f a0 t118).bind fun t119 => ((nat_Mul.f a0 a1).bind fun t120 => ((nat_Mul.f a0 a2).bind fun t121 => ((nat_Add.f t120 t121).bind fun t122 => (some (t119.toList == t122.toList))))))) else (some false)) = some r := H
              have A62 := Aside0.mk A620
              clear A620
              by_cases c63 : t113.toList = t117.toList
              · rw [if_pos c63] at H
                have c63b0 : (t113.toList == t117.toList) = true := beq_iff_eq.mpr c63
                have c63b1 : (t113.toList != t117.toList) = false := bne_eq_false_iff_eq.mpr c63
                clear c63
                replace H := Option.bind_eq_some_iff.mp H
                obtain ⟨t118, A640, H⟩ := H
                replace H : ((nat_Mul.f a0 t118).bind fun t119 => ((nat_Mul.f a0 a1).bind fun t120 => ((nat_Mul.f a0 a2).bind fun t121 => ((nat_Add.f t120 t121).bind fun t122 => (some (t119.toList == t122.toList)))))) = some r := H
                have A64 := Aside0.mk A640
                clear A640
                replace H := Option.bind_eq_some_iff.mp H
                obtain ⟨t119, A650, H⟩ := H
                replace H : ((nat_Mul.f a0 a1).bind fun t120 => ((nat_Mul.f a0 a2).bind fun t121 => ((nat_Add.f t120 t121).bind fun t122 => (some (t119.toList == t122.toList))))) = some r := H
                have A65 := Aside0.mk A650
                clear A650
                replace H := Option.bind_eq_some_iff.mp H
                obtain ⟨t120, A660, H⟩ := H
                replace H : ((nat_Mul.f a0 a2).bind fun t121 => ((nat_Add.f t120 t121).bind fun t122 => (some (t119.toList == t122.toList)))) = some r := H
                have A66 := Aside0.mk A660
                clear A660
                replace H := Option.bind_eq_some_iff.mp H
                obtain ⟨t121, A670, H⟩ := H
                replace H : ((nat_Add.f t120 t121).bind fun t122 => (some (t119.toList == t122.toList))) = some r := H
                have A67 := Aside0.mk A670
                clear A670
                replace H := Option.bind_eq_some_iff.mp H
                obtain ⟨t122, A680, H⟩ := H
                replace H : (some (t119.toList == t122.toList)) = some r := H
                have A68 := Aside0.mk A680
                clear A680
                obtain rfl := Option.some.inj H
                go_wp2_with (first | ((with_reducible refine gate_callee (f := 24) rfl ?_); refine goesL_ (some 37) rfl rfl Tryd.func24 (by kernel_rfl) rfl #[.string a0, .string a1] rfl (by (try simp only [List.map_toArray, List.map_cons, List.map_nil]); first | done | rfl | (simp only [List.length_drop, List.length_take]; rfl)) ?_; (with_reducible refine (nat_Add.calls a0 a1 t110 _ ?side1 A44.out).mono ?_); (case side1 => exact Laid.below HLD.out (by repeat (first | (with_reducible first | exact HB.out | apply below_alloc | apply pw_below_drewN | apply below_drew1) | exact HB.out))); rintro e w69 ⟨rfl, hb⟩; refine ⟨_, rfl, ?_⟩; have n0_ := Aside0.mk (below_step (by repeat (first | (with_reducible first | exact HB.out | apply below_alloc | apply pw_below_drewN | apply below_drew1) | exact HB.out)) hb); clear HB; have HB := n0_; clear n0_; (try clear hb); (try clear hb2); (try clear hk); (try clear hi)) | ((with_reducible refine gate_callee (f := 24) rfl ?_); refine goesL_ (some 39) rfl rfl Tryd.func24 (by kernel_rfl) rfl #[.string t110, .string a2] rfl (by (try simp only [List.map_toArray, List.map_cons, List.map_nil]); first | done | rfl | (simp only [List.length_drop, List.length_take]; rfl)) ?_; (with_reducible refine (nat_Add.calls t110 a2 t111 _ ?side1 A45.out).mono ?_); (case side1 => exact Laid.below HLD.out (by repeat (first | (with_reducible first | exact HB.out | apply below_alloc | apply pw_below_drewN | apply below_drew1) | exact HB.out))); rintro e w70 ⟨rfl, hb⟩; refine ⟨_, rfl, ?_⟩; have n0_ := Aside0.mk (below_step (by repeat (first | (with_reducible first | exact HB.out | apply below_alloc | apply pw_below_drewN | apply below_drew1) | exact HB.out)) hb); clear HB; have HB := n0_; clear n0_; (try clear hb); (try clear hb2); (try clear hk); (try clear hi)) | ((with_reducible refine gate_callee (f := 26) rfl ?_); refine goesL_ (some 42) rfl rfl Tryd.func26 (by kernel_rfl) rfl #[.string a0, .string a1] rfl (by (try simp only [List.map_toArray, List.map_cons, List.map_nil]); first | done | rfl | (simp only [List.length_drop, List.length_take]; rfl)) ?_; (with_reducible refine (nat_Mul.calls a0 a1 t112 _ ?side1 A46.out).mono ?_); (case side1 => exact Laid.below HLD.out (by repeat (first | (with_reducible first | exact HB.out | apply below_alloc | apply pw_below_drewN | apply below_drew1) | exact HB.out))); rintro e w71 ⟨rfl, hb⟩; refine ⟨_, rfl, ?_⟩; have n0_ := Aside0.mk (below_step (by repeat (first | (with_reducible first | exact HB.out | apply below_alloc | apply pw_below_drewN | apply below_drew1) | exact HB.out)) hb); clear HB; have HB := n0_; clear n0_; (try clear hb); (try clear hb2); (try clear hk); (try clear hi)) | ((with_reducible refine gate_callee (f := 26) rfl ?_); refine goesL_ (some 44) rfl rfl Tryd.func26 (by kernel_rfl) rfl #[.string t112, .string a2] rfl (by (try simp only [List.map_toArray, List.map_cons, List.map_nil]); first | done | rfl | (simp only [List.length_drop, List.length_take]; rfl)) ?_; (with_reducible refine (nat_Mul.calls t112 a2 t113 _ ?side1 A47.out).mono ?_); (case side1 => exact Laid.below HLD.out (by repeat (first | (with_reducible first | exact HB.out | apply below_alloc | apply pw_below_drewN | apply below_drew1) | exact HB.out))); rintro e w72 ⟨rfl, hb⟩; refine ⟨_, rfl, ?_⟩; have n0_ := Aside0.mk (below_step (by repeat (first | (with_reducible first | exact HB.out | apply below_alloc | apply pw_below_drewN | apply below_drew1) | exact HB.out)) hb); clear HB; have HB := n0_; clear n0_; (try clear hb); (try clear hb2); (try clear hk); (try clear hi)) | (go_at_call 24; (with_reducible refine (nat_Add.calls a2 a1 t114 _ ?side1 A58.out).mono ?_); (case side1 => exact Laid.below HLD.out (by repeat (first | (with_reducible first | exact HB.out | apply below_alloc | apply pw_below_drewN | apply below_drew1) | exact HB.out))); rintro e w73 ⟨rfl, hb⟩; have n0_ := Aside0.mk (below_step (by repeat (first | (with_reducible first | exact HB.out | apply below_alloc | apply pw_below_drewN | apply below_drew1) | exact HB.out)) hb); clear HB; have HB := n0_; clear n0_; (try clear hb); (try clear hb2); (try clear hk); (try clear hi)) | (go_at_call 24; (with_reducible refine (nat_Add.calls a0 t114 t115 _ ?side1 A59.out).mono ?_); (case side1 => exact Laid.below HLD.out (by repeat (first | (with_reducible first | exact HB.out | apply below_alloc | apply pw_below_drewN | apply below_drew1) | exact HB.out))); rintro e w74 ⟨rfl, hb⟩; have n0_ := Aside0.mk (below_step (by repeat (first | (with_reducible first | exact HB.out | apply below_alloc | apply pw_below_drewN | apply below_drew1) | exact HB.out)) hb); clear HB; have HB := n0_; clear n0_; (try clear hb); (try clear hb2); (try clear hk); (try clear hi)) | (go_at_call 26; (with_reducible refine (nat_Mul.calls a2 a1 t116 _ ?side1 A61.out).mono ?_); (case side1 => exact Laid.below HLD.out (by repeat (first | (with_reducible first | exact HB.out | apply below_alloc | apply pw_below_drewN | apply below_drew1) | exact HB.out))); rintro e w75 ⟨rfl, hb⟩; have n0_ := Aside0.mk (below_step (by repeat (first | (with_reducible first | exact HB.out | apply below_alloc | apply pw_below_drewN | apply below_drew1) | exact HB.out)) hb); clear HB; have HB := n0_; clear n0_; (try clear hb); (try clear hb2); (try clear hk); (try clear hi)) | (go_at_call 26; (with_reducible refine (nat_Mul.calls a0 t116 t117 _ ?side1 A62.out).mono ?_); (case side1 => exact Laid.below HLD.out (by repeat (first | (with_reducible first | exact HB.out | apply below_alloc | apply pw_below_drewN | apply below_drew1) | exact HB.out))); rintro e w76 ⟨rfl, hb⟩; have n0_ := Aside0.mk (below_step (by repeat (first | (with_reducible first | exact HB.out | apply below_alloc | apply pw_below_drewN | apply below_drew1) | exact HB.out)) hb); clear HB; have HB := n0_; clear n0_; (try clear hb); (try clear hb2); (try clear hk); (try clear hi)) | (go_at_call 24; (with_reducible refine (nat_Add.calls a1 a2 t118 _ ?side1 A64.out).mono ?_); (case side1 => exact Laid.below HLD.out (by repeat (first | (with_reducible first | exact HB.out | apply below_alloc | apply pw_below_drewN | apply below_drew1) | exact HB.out))); rintro e w77 ⟨rfl, hb⟩; have n0_ := Aside0.mk (below_step (by repeat (first | (with_reducible first | exact HB.out | apply below_alloc | apply pw_below_drewN | apply below_drew1) | exact HB.out)) hb); clear HB; have HB := n0_; clear n0_; (try clear hb); (try clear hb2); (try clear hk); (try clear hi)) | (go_at_call 26; (with_reducible refine (nat_Mul.calls a0 t118 t119 _ ?side1 A65.out).mono ?_); (case side1 => exact Laid.below HLD.out (by repeat (first | (with_reducible first | exact HB.out | apply below_alloc | apply pw_below_drewN | apply below_drew1) | exact HB.out))); rintro e w78 ⟨rfl, hb⟩; have n0_ := Aside0.mk (below_step (by repeat (first | (with_reducible first | exact HB.out | apply below_alloc | apply pw_below_drewN | apply below_drew1) | exact HB.out)) hb); clear HB; have HB := n0_; clear n0_; (try clear hb); (try clear hb2); (try clear hk); (try clear hi)) | (go_at_call 26; (with_reducible refine (nat_Mul.calls a0 a1 t120 _ ?side1 A66.out).mono ?_); (case side1 => exact Laid.below HLD.out (by repeat (first | (with_reducible first | exact HB.out | apply below_alloc | apply pw_below_drewN | apply below_drew1) | exact HB.out))); rintro e w79 ⟨rfl, hb⟩; have n0_ := Aside0.mk (below_step (by repeat (first | (with_reducible first | exact HB.out | apply below_alloc | apply pw_below_drewN | apply below_drew1) | exact HB.out)) hb); clear HB; have HB := n0_; clear n0_; (try clear hb); (try clear hb2); (try clear hk); (try clear hi)) | (go_at_call 26; (with_reducible refine (nat_Mul.calls a0 a2 t121 _ ?side1 A67.out).mono ?_); (case side1 => exact Laid.below HLD.out (by repeat (first | (with_reducible first | exact HB.out | apply below_alloc | apply pw_below_drewN | apply below_drew1) | exact HB.out))); rintro e w80 ⟨rfl, hb⟩; have n0_ := Aside0.mk (below_step (by repeat (first | (with_reducible first | exact HB.out | apply below_alloc | apply pw_below_drewN | apply below_drew1) | exact HB.out)) hb); clear HB; have HB := n0_; clear n0_; (try clear hb); (try clear hb2); (try clear hk); (try clear hi)) | (go_at_call 24; (with_reducible refine (nat_Add.calls t120 t121 t122 _ ?side1 A68.out).mono ?_); (case side1 => exact Laid.below HLD.out (by repeat (first | (with_reducible first | exact HB.out | apply below_alloc | apply pw_below_drewN | apply below_drew1) | exact HB.out))); rintro e w81 ⟨rfl, hb⟩; have n0_ := Aside0.mk (below_step (by repeat (first | (with_reducible first | exact HB.out | apply below_alloc | apply pw_below_drewN | apply below_drew1) | exact HB.out)) hb); clear HB; have HB := n0_; clear n0_; (try clear hb); (try clear hb2); (try clear hk); (try clear hi)))
                go_ret
                exact ⟨by first | rfl | (simp [errW_none, errW_some] <;> rfl) | (simp [*, errW_none, errW_some] <;> rfl), by repeat (first | (with_reducible first | exact HB.out | apply below_alloc | apply pw_below_drewN | apply below_drew1) | exact HB.out)⟩
              · rw [if_neg c63] at H
                have c63b0 : (t113.toList == t117.toList) = false := beq_eq_false_iff_ne.mpr c63
                have c63b1 : (t113.toList != t117.toList) = true := bne_iff_ne.mpr c63
                exact absurd (H.trans (congrArg some hr_.out)) (by decide)
            · rw [if_neg c60] at H
              have c60b0 : (t111.toList == t115.toList) = false := beq_eq_false_iff_ne.mpr c60
              have c60b1 : (t111.toList != t115.toList) = true := bne_iff_ne.mpr c60
              exact absurd (H.trans (congrArg some hr_.out)) (by decide)
end Go.Proofs.YtmcpiejgneegjaaDoor.LNatLaws

end

/-
The law NatLaws, told by numbers.
-/
section
set_option linter.unusedVariables false
namespace Go.Proofs.YtmcpiejgneegjaaDoor
open Go.RowKit Go.Proofs.YtmcpiejgneegjaaDoorW.PrintWords Go.Proofs.YtmcpiejgneegjaaDoorW.PrintLast Go.Proofs.YtmcpiejgneegjaaDoorW.PrintMore

theorem pureNatLaws (a0 a1 a2 : ByteArray) (w0 : a0.size ≤ 140737488351232) (w1 : a1.size ≤ 140737488351232) (w2 : a2.size ≤ 140737488351232) : ∃ k, LNatLaws.debenturelaw01_NatLaws.f k a0 a1 a2 = some true := by
  refine ⟨3, ?_⟩
  unfold LNatLaws.debenturelaw01_NatLaws.f debenturelaw01_fixed.f
  have hj : LNatLaws.debenturelaw01_NatLaws.j0 3 a0 a1 a2 true = some true := by
    simp only [LNatLaws.debenturelaw01_NatLaws.j0]
    rfl
  rw [Option.bind_some, if_pos rfl, shorts3, Option.bind_some]
  cases h0 : shortT a0 <;> cases h1 : shortT a1 <;> cases h2 : shortT a2
  all_goals first | exact hj | skip
  have z0 := shortT_le h0
  have z1 := shortT_le h1
  have z2 := shortT_le h2
  rw [if_pos (by rfl), rMay (by omega), Option.bind_some]
  by_cases m0 : mayB a0 = true
  · rw [if_pos m0, rMay (by omega), Option.bind_some]
    by_cases m1 : mayB a1 = true
    · rw [if_pos m1, rMay (by omega), Option.bind_some]
      by_cases m2 : mayB a2 = true
      · obtain ⟨m, rfl, e0⟩ := of_may m0
        obtain ⟨n, rfl, e1⟩ := of_may m1
        obtain ⟨p, rfl, e2⟩ := of_may m2
        rw [m2]
        simp only [LNatLaws.debenturelaw01_NatLaws.j0]
        have s1 := sz_add m n
        have s2 := sz_mul m n
        have s3 := sz_add p n
        have s4 := sz_mul p n
        have s5 := sz_add n p
        have s6 := sz_mul m p
        rw [if_neg (by decide), fAdd (by omega) (by omega), Option.bind_some, fAdd (by omega) (by omega), Option.bind_some, fMul (by omega) (by omega), Option.bind_some, fMul (by omega) (by omega), Option.bind_some, if_neg (natB_ne_nil _), if_neg (natB_ne_nil _),
          fAdd (by omega) (by omega), Option.bind_some, fAdd (by omega) (by omega), Option.bind_some, if_pos (natB_toList_inj.2 (by omega)), fMul (by omega) (by omega), Option.bind_some, fMul (by omega) (by omega), Option.bind_some, if_pos (natB_toList_inj.2 (by rw [Nat.mul_assoc, Nat.mul_comm n p])),
          fAdd (by omega) (by omega), Option.bind_some, fMul (by omega) (by omega), Option.bind_some, Option.bind_some, fMul (by omega) (by omega), Option.bind_some, fAdd (by omega) (by omega), Option.bind_some, natB_beq, decide_eq_true (Nat.mul_add m n p)]
      · rw [(Bool.not_eq_true _).mp m2]
        exact hj
    · rw [if_neg m1]
      exact hj
  · rw [if_neg m0]
    exact hj

end Go.Proofs.YtmcpiejgneegjaaDoor

end

/-
The law NatLaws holds at every input: its row, and its card, tied to the program's text.
Conditions: none beyond the given row's own.
-/
section
namespace Go.Proofs.YtmcpiejgneegjaaDoor.natLaws
open Go.ChangeShapes Go.WideShapes Go.ChangeAt Go.RowKit
open Go.ChangeMaps (open_string shut_string)
set_option linter.unusedVariables false
set_option maxRecDepth 100000 in
theorem lifted (os : Os) (started : os.Started) (H : Type) (enc : TypeId × Value → H) :
    ReturnsInHanded {} Tryd.checked os 4 .any (fun w args => (Rows.natLawsSpec.pre enc Tryd.prog Tryd.f4 Rows.natLawsRow.domain false w args ∧ laidMetH Tryd.prog laidL w) ∧ sizedMet enc Tryd.prog Tryd.f4 (OpenSpec.ofChange Rows.natLawsSpec) false w args)
      (Rows.natLawsSpec.post enc Tryd.prog Tryd.f4 false true false false) := by
  refine returnsInHanded_of_change_and (C := Tryd.checked) (X := fun w _ => laidMetH Tryd.prog laidL w) (fun _ _ _ hh h => h.of_heap hh) own started (by kernel_rfl) Tryd.func4
    (ChangeSpec.witness_shaped (enc := enc) (C := Tryd.checked) (os := os) (X := fun w _ => laidMetH Tryd.prog laidL w) false (World.doorLaid Tryd.prog 4000 os) #[.string ByteArray.empty, .string ByteArray.empty, .string ByteArray.empty] 8 rfl (World.shaped_of_RefB (by kernel_rfl) (by kernel_rfl)) (by kernel_rfl) (by kernel_rfl) (by kernel_rfl) (door_met os _)) ?_
  intro W base args ds gs before hval0 hW _ hsz0 hL _
  have hsz : (DataW.weightsEach Tryd.prog (Tryd.f4.params.toList ++ Rows.natLawsSpec.plain.varTypes Tryd.prog) (ds ++ gs)).all (· ≤ reachBytes) = true := hsz0
  have hval : ∀ (j : Nat) t v, Tryd.f4.params[j]? = some t → args[j]? = some v → Value.okWide Tryd.prog W .any base t v := hval0
  have hW' := hW
  obtain ⟨p, q, hA0, hV, rfl, hfz, hnd⟩ := hW
  have hA : DataW.TrodAll enc Tryd.prog W 0 (fun _ => true) true Tryd.f4.params.toList args.toList ds p := hA0
  rw [Tryd.params4] at hA hval hsz
  obtain ⟨v0, vs0, d0, ds0, p0, q0, hargs, rfl, rfl, h0, r0⟩ := trodAll_cons hA
  obtain ⟨v1, vs1, d1, ds1, p1, q1, rfl, rfl, rfl, h1, r1⟩ := trodAll_cons r0
  obtain ⟨v2, vs2, d2, ds2, p2, q2, rfl, rfl, rfl, h2, r2⟩ := trodAll_cons r1
  obtain ⟨rfl, rfl, rfl⟩ := trodAll_nil r2
  obtain rfl : args = #[v0, v1, v2] := by cases args; simp_all
  obtain ⟨rfl, rfl⟩ := trodVars_none hV
  obtain ⟨a0, rfl, rfl, rfl, y0⟩ := open_string Tryd.underlying9 (hval 0 9 v0 rfl rfl) h0
  have w0 : a0.size ≤ 140737488351232 := by
    have z := sized_string hsz (j := 0) (t := 9) rfl rfl
    rw [Array.length_toList] at z
    exact z
  obtain ⟨a1, rfl, rfl, rfl, y1⟩ := open_string Tryd.underlying9 (hval 1 9 v1 rfl rfl) h1
  have w1 : a1.size ≤ 140737488351232 := by
    have z := sized_string hsz (j := 1) (t := 9) rfl rfl
    rw [Array.length_toList] at z
    exact z
  obtain ⟨a2, rfl, rfl, rfl, y2⟩ := open_string Tryd.underlying9 (hval 2 9 v2 rfl rfl) h2
  have w2 : a2.size ≤ 140737488351232 := by
    have z := sized_string hsz (j := 2) (t := 9) rfl rfl
    rw [Array.length_toList] at z
    exact z
  clear hA0 hval0 hsz0 hsz
  obtain ⟨k, hf⟩ := pureNatLaws a0 a1 a2 w0 w1 w2
  refine (LNatLaws.debenturelaw01_NatLaws.calls k a0 a1 a2 true W (laid_of hL) ⟨rfl⟩ hf).mono fun e W' ⟨he, bel⟩ => ?_
  subst he
  exact ⟨_, rfl, _, _, _, [], _, [], hW', trodAll_mk1 (shut_bool Tryd.underlying4 _), (trodAll_cons_mk (shut_string Tryd.underlying9 y0) (trodAll_cons_mk (shut_string Tryd.underlying9 y1) (trodAll_cons_mk (shut_string Tryd.underlying9 y2) trodAll_mk0))), rfl, bel.frame _, fun h => by cases h⟩
theorem over : Rows.NatLawsSaid :=
  OpenClaim.holds_of_wide 4 Tryd.f4 rfl rfl rfl rfl rfl rfl rfl ⟨rfl, rfl, rfl, rfl, rfl⟩ rfl rfl rfl rfl rfl (by kernel_rfl) Tryd.func4 (by kernel_rfl)
    (of_decide_eq_true (by kernel_rfl)) (by unfold Func.isWrapper; first | (rw [if_pos (by decide +kernel)]; kernel_rfl) | (rw [if_neg (by decide +kernel)]; exact ⟨rfl, rfl⟩))
    (fun os started H enc _ => lifted os started H enc)
theorem proved : Rows.NatLawsCardSaid :=
  Claim7.holds_tied_plain_at .later [] [.data, .data, .data, .sentinel, .sentinel] true (true, "d5ab43be80e0f9512f94eeafcac67ad3748b237780a8a3f2ad52dc7fafa3345f") true
    over (fun _ h => by cases h) (by kernel_rfl) (fun _ h => by cases h) natLaws_row_tie rfl ⟨rfl, rfl⟩ (by kernel_rfl) rfl
    (fun f fn hf hfn => by
      obtain rfl : f = 4 := Option.some.inj ((show Tryd.prog.funcNamed "debenture/debenturelaw01.NatLaws" = some 4 by kernel_rfl).symm.trans hf) |>.symm
      obtain rfl : fn = Tryd.f4 := (Option.some.inj (Tryd.func4.symm.trans hfn)).symm
      exact ⟨by kernel_rfl, fun j t ht => by
        rw [Tryd.params4] at ht
        have hm : t ∈ [9, 9, 9] := by simpa using Array.mem_of_getElem? ht
        have hall : ([9, 9, 9].all fun u => !Tryd.prog.wantsStandIn u) = true := by kernel_rfl
        exact (show Tryd.prog.wantsStandIn t = false by simpa using List.all_eq_true.1 hall t hm)⟩)
    (by kernel_rfl)
end Go.Proofs.YtmcpiejgneegjaaDoor.natLaws
namespace Go.Proofs.YtmcpiejgneegjaaDoor
/-- The card, under a short name, for the claim. -/
theorem natLaws_holds : Rows.NatLawsCardSaid := natLaws.proved
#print axioms natLaws_holds
end Go.Proofs.YtmcpiejgneegjaaDoor

end
