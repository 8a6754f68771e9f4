/-
Parts of the proof, in build order: Pq3, RefMul, RefDiv, NatDone, Small, RefDone, Pf0, Pf1, Fixed1, Num, Rowb.
-/
import Derived.Test.YtmcpiejgneegjaaDoorC1
import Derived.Test.YtmcpiejgneegjaaDoorC4
import Derived.Test.YtmcpiejgneegjaaDoorProg
import Derived.Below
import Derived.Deep.Draws
import Derived.Deep.AppendLies
import Derived.Maps.AppendAt
import Derived.OwnWalk
import Derived.Laws.BytesArg
import Derived.Laws.MakeOwn
import Derived.Laws.OwnMore
import Derived.Deep.OwnRows
import Derived.Tactics
import Derived.Lib.ConvBytes
import Derived.Laws.Slices
import Derived.WalkKit
import Derived.KernelRfl
import Derived.RowKit3
import Derived.Deep.LoopGhost
import Derived.Deep.QuietTactic
import Derived.BigQuiet
import Derived.WideLaws
import Derived.Deep.DeepCutAuto
import Derived.Deep.CutBlock
import Derived.Deep.RegionHeld3
import Derived.Laws.Rows
import Derived.Lib.AppendStr
import Derived.ArgAppend
import Derived.Laws.IdiomCopy
import Derived.OrdersHeld
import Derived.Laws.BitsLemmas
import Derived.RowKit
import Derived.Test.YtmcpiejgneegjaaDoorC0
import Derived.Test.YtmcpiejgneegjaaDoorRows
import Derived.ProofKit
import Derived.OpenShut
import Derived.ShutString
import Derived.ChangeOld
import Derived.SizedLaws
import Derived.LaidMore
import Derived.LaidHandle
import Derived.MakeChecks
import Derived.Lib.LaidTab
import Derived.Stop.LaidErr
import Derived.Stop.Joined
import Derived.RowKitTokens
import Derived.JoinedOf
import Derived.JoinedAt
import Derived.ChangeVars
import Derived.ChangeSame
import Derived.LaidLaws
-- Written by wip/pp.py of this place (over the kit's print) out of the translation.
section
namespace Go.Proofs.YtmcpiejgneegjaaDoor.Pq
open Go.RowKit Go.Proofs.YtmcpiejgneegjaaDoorW.PrintWords Go.Proofs.YtmcpiejgneegjaaDoorW.PrintLast Go.Proofs.YtmcpiejgneegjaaDoorW.PrintMore
attribute [local go_sem] max2_int min2_int max_two min_two max_three min_three max_four min_four   -- for this text's walks alone
set_option linter.unusedVariables false
set_option linter.unusedSimpArgs false

/-! ### debentureref01_Mul: function 27 -/
mutual
def debentureref01_Mul.j0 : Nat → ByteArray → ByteArray → Bool → Option (ByteArray)
  | 0, _, _, _ => none
  | k + 1, x0, x1, x20 => if x20 = true then (some (⟨#[]⟩ : ByteArray)) else (if 0 ≤ (wrap64 ((wrap64 ((x0.size : Int) + (x1.size : Int))) + 1)) then (if (wrap64 ((wrap64 ((x0.size : Int) + (x1.size : Int))) + 1) : Int).toNat ≤ 35184372088832 then (debentureref01_Mul.l0 k x0 x1 (wrap64 ((x0.size : Int) + (x1.size : Int))) (List.replicate (wrap64 ((wrap64 ((x0.size : Int) + (x1.size : Int))) + 1) : Int).toNat 0) 0) else (none)) else (none))
def debentureref01_Mul.l0 : Nat → ByteArray → ByteArray → Int → List Int → Int → Option (ByteArray)
  | 0, _, _, _, _, _ => none
  | k + 1, x0, x1, x5, x6, x7 => if x7 < (x0.size : Int) then (debentureref01_Mul.l1 k x0 x1 x5 x6 x7 0) else (if 0 ≤ x5 then (if (x5 : Int).toNat ≤ 281474976710656 then (debentureref01_Mul.l2 k x5 x6 (List.replicate (x5 : Int).toNat 0) 0 0) else (none)) else (none))
def debentureref01_Mul.l1 : Nat → ByteArray → ByteArray → Int → List Int → Int → Int → Option (ByteArray)
  | 0, _, _, _, _, _, _ => none
  | k + 1, x0, x1, x5, x6, x7, x8 => if x8 < (x1.size : Int) then (if 0 ≤ (wrap64 (x7 + x8)) then (if (wrap64 (x7 + x8)) < (x6.length : Int) then ((debentureref01_at.f x0 x7).bind fun t131 => ((debentureref01_at.f x1 x8).bind fun t132 => (debentureref01_Mul.l1 k x0 x1 x5 (x6.set ((wrap64 (x7 + x8)) : Int).toNat (wrap64 ((rd x6 (wrap64 (x7 + x8))) + (wrap64 (t131 * t132))))) x7 (wrap64 (x8 + 1))))) else (none)) else (none)) else (debentureref01_Mul.l0 k x0 x1 x5 x6 (wrap64 (x7 + 1)))
def debentureref01_Mul.l2 : Nat → Int → List Int → List Int → Int → Int → Option (ByteArray)
  | 0, _, _, _, _, _ => none
  | k + 1, x5, x6, x9, x10, x11 => if x11 < x5 then (if 0 ≤ x11 then (if x11 < (x6.length : Int) then (if 0 ≤ (wrap64 ((wrap64 (x5 - 1)) - x11)) then (if (wrap64 ((wrap64 (x5 - 1)) - x11)) < (x9.length : Int) then (debentureref01_Mul.l2 k x5 x6 (x9.set ((wrap64 ((wrap64 (x5 - 1)) - x11)) : Int).toNat ((wrap64 (48 + (Int.tmod (wrap64 ((rd x6 x11) + x10)) 10))) % 256)) (wrap64 (Int.tdiv (wrap64 ((rd x6 x11) + x10)) 10)) (wrap64 (x11 + 1))) else (none)) else (none)) else (none)) else (none)) else ((debentureref01_trim.f k (strOfNums x9)).bind fun t139 => (some t139))
end
def debentureref01_Mul.f (k : Nat) (a0 : ByteArray) (a1 : ByteArray) : Option (ByteArray) := (debentureref01_May.f k a0).bind fun t125 => (if t125 = true then ((debentureref01_May.f k a1).bind fun t126 => (debentureref01_Mul.j0 k a0 a1 (!t126))) else (debentureref01_Mul.j0 k a0 a1 true))
theorem debentureref01_Mul.mono_l : ∀ k, (∀ y0 y1 y2, LeO (debentureref01_Mul.j0 k y0 y1 y2) (debentureref01_Mul.j0 (k + 1) y0 y1 y2)) ∧ (∀ y0 y1 y2 y3 y4, LeO (debentureref01_Mul.l0 k y0 y1 y2 y3 y4) (debentureref01_Mul.l0 (k + 1) y0 y1 y2 y3 y4)) ∧ (∀ y0 y1 y2 y3 y4 y5, LeO (debentureref01_Mul.l1 k y0 y1 y2 y3 y4 y5) (debentureref01_Mul.l1 (k + 1) y0 y1 y2 y3 y4 y5)) ∧ (∀ y0 y1 y2 y3 y4, LeO (debentureref01_Mul.l2 k y0 y1 y2 y3 y4) (debentureref01_Mul.l2 (k + 1) y0 y1 y2 y3 y4))
  | 0 => ⟨fun _ _ _ r h => by simp [debentureref01_Mul.j0] at h, fun _ _ _ _ _ r h => by simp [debentureref01_Mul.l0] at h, fun _ _ _ _ _ _ r h => by simp [debentureref01_Mul.l1] at h, fun _ _ _ _ _ r h => by simp [debentureref01_Mul.l2] at h⟩
  | k + 1 => by
    obtain ⟨ih0, ih1, ih2, ih3⟩ := debentureref01_Mul.mono_l k
    refine ⟨?_, ?_, ?_, ?_⟩
    · intro y0 y1 y2
      unfold debentureref01_Mul.j0
      repeat' first
      | (with_reducible exact ih0 _ _ _)
      | (with_reducible exact ih1 _ _ _ _ _)
      | (with_reducible exact ih2 _ _ _ _ _ _)
      | (with_reducible exact ih3 _ _ _ _ _)
      | (with_reducible exact debentureref01_May.mono _ _)
      | (with_reducible exact debentureref01_trim.mono _ _)
      | (with_reducible exact LeO.refl _)
      | (with_reducible exact LeO.none _)
      | (with_reducible refine LeO.ite ?_ ?_)
      | (with_reducible refine LeO.bind ?_ (fun _ => ?_))
      | exact ih0 _ _ _
      | exact ih1 _ _ _ _ _
      | exact ih2 _ _ _ _ _ _
      | exact ih3 _ _ _ _ _
      | exact debentureref01_May.mono _ _
      | exact debentureref01_trim.mono _ _
      | exact LeO.none _
      | refine LeO.ite ?_ ?_
      | refine LeO.bind ?_ (fun _ => ?_)
    · intro y0 y1 y2 y3 y4
      unfold debentureref01_Mul.l0
      repeat' first
      | (with_reducible exact ih0 _ _ _)
      | (with_reducible exact ih1 _ _ _ _ _)
      | (with_reducible exact ih2 _ _ _ _ _ _)
      | (with_reducible exact ih3 _ _ _ _ _)
      | (with_reducible exact debentureref01_May.mono _ _)
      | (with_reducible exact debentureref01_trim.mono _ _)
      | (with_reducible exact LeO.refl _)
      | (with_reducible exact LeO.none _)
      | (with_reducible refine LeO.ite ?_ ?_)
      | (with_reducible refine LeO.bind ?_ (fun _ => ?_))
      | exact ih0 _ _ _
      | exact ih1 _ _ _ _ _
      | exact ih2 _ _ _ _ _ _
      | exact ih3 _ _ _ _ _
      | exact debentureref01_May.mono _ _
      | exact debentureref01_trim.mono _ _
      | exact LeO.none _
      | refine LeO.ite ?_ ?_
      | refine LeO.bind ?_ (fun _ => ?_)
    · intro y0 y1 y2 y3 y4 y5
      unfold debentureref01_Mul.l1
      repeat' first
      | (with_reducible exact ih0 _ _ _)
      | (with_reducible exact ih1 _ _ _ _ _)
      | (with_reducible exact ih2 _ _ _ _ _ _)
      | (with_reducible exact ih3 _ _ _ _ _)
      | (with_reducible exact debentureref01_May.mono _ _)
      | (with_reducible exact debentureref01_trim.mono _ _)
      | (with_reducible exact LeO.refl _)
      | (with_reducible exact LeO.none _)
      | (with_reducible refine LeO.ite ?_ ?_)
      | (with_reducible refine LeO.bind ?_ (fun _ => ?_))
      | exact ih0 _ _ _
      | exact ih1 _ _ _ _ _
      | exact ih2 _ _ _ _ _ _
      | exact ih3 _ _ _ _ _
      | exact debentureref01_May.mono _ _
      | exact debentureref01_trim.mono _ _
      | exact LeO.none _
      | refine LeO.ite ?_ ?_
      | refine LeO.bind ?_ (fun _ => ?_)
    · intro y0 y1 y2 y3 y4
      unfold debentureref01_Mul.l2
      repeat' first
      | (with_reducible exact ih0 _ _ _)
      | (with_reducible exact ih1 _ _ _ _ _)
      | (with_reducible exact ih2 _ _ _ _ _ _)
      | (with_reducible exact ih3 _ _ _ _ _)
      | (with_reducible exact debentureref01_May.mono _ _)
      | (with_reducible exact debentureref01_trim.mono _ _)
      | (with_reducible exact LeO.refl _)
      | (with_reducible exact LeO.none _)
      | (with_reducible refine LeO.ite ?_ ?_)
      | (with_reducible refine LeO.bind ?_ (fun _ => ?_))
      | exact ih0 _ _ _
      | exact ih1 _ _ _ _ _
      | exact ih2 _ _ _ _ _ _
      | exact ih3 _ _ _ _ _
      | exact debentureref01_May.mono _ _
      | exact debentureref01_trim.mono _ _
      | exact LeO.none _
      | refine LeO.ite ?_ ?_
      | refine LeO.bind ?_ (fun _ => ?_)
theorem debentureref01_Mul.mono : ∀ a0 a1 k, LeO (debentureref01_Mul.f k a0 a1) (debentureref01_Mul.f (k + 1) a0 a1) := by
  intro a0 a1 k
  obtain ⟨ih0, ih1, ih2, ih3⟩ := debentureref01_Mul.mono_l k
  unfold debentureref01_Mul.f
  repeat' first
      | (with_reducible exact ih0 _ _ _)
      | (with_reducible exact ih1 _ _ _ _ _)
      | (with_reducible exact ih2 _ _ _ _ _ _)
      | (with_reducible exact ih3 _ _ _ _ _)
      | (with_reducible exact debentureref01_May.mono _ _)
      | (with_reducible exact debentureref01_trim.mono _ _)
      | (with_reducible exact LeO.refl _)
      | (with_reducible exact LeO.none _)
      | (with_reducible refine LeO.ite ?_ ?_)
      | (with_reducible refine LeO.bind ?_ (fun _ => ?_))
      | exact ih0 _ _ _
      | exact ih1 _ _ _ _ _
      | exact ih2 _ _ _ _ _ _
      | exact ih3 _ _ _ _ _
      | exact debentureref01_May.mono _ _
      | exact debentureref01_trim.mono _ _
      | exact LeO.none _
      | refine LeO.ite ?_ ?_
      | refine LeO.bind ?_ (fun _ => ?_)
def debentureref01_Mul.T11 : Bool × List (List Nat × List Nat) := (true, [([], []), ([], []), ([], []), ([1, 2], [1, 2]), ([0, 3], [0, 3]), ([4], [4]), ([], []), ([], []), ([6, 7], [6, 7]), ([], []), ([], []), ([9, 10, 8], [9, 10]), ([8, 11], [8, 11]), ([5, 12], [5, 12]), ([0, 3, 0, 1, 2, 3, 4, 5, 6, 7, 8, 9, 10, 11, 12, 13], [0, 3]), ([14, 13, 11, 0, 1, 2, 3, 4, 5, 6, 7, 8, 9, 10, 11, 12, 13], [13, 14])])
def debentureref01_Mul.B11 : List Nat := [0, 0, 0, 6, 15, 31, 0, 0, 192, 0, 0, 1984, 4032, 8191, 16383, 32767]
theorem debentureref01_Mul.tab11 : rtab .any (opsOf Tryd.f27 11) = debentureref01_Mul.T11 := by kernel_rfl
theorem debentureref01_Mul.bits11 : waitsOk debentureref01_Mul.T11.2 debentureref01_Mul.B11 = true := by kernel_rfl
set_option maxHeartbeats 8000000 in
set_option maxRecDepth 100000 in
theorem debentureref01_Mul.calls (k : Nat) (a0 : ByteArray) (a1 : ByteArray) (r : ByteArray) (w : World) (h : debentureref01_Mul.f k a0 a1 = some r) :
    Calls Tryd.prog 27 #[.string a0, .string a1] w fun e w' => e = .returned (.string r) ∧ Below w.heap.size w w' := by
  have HB := Aside0.mk (Below.refl w.heap.size w)
  have H : ((debentureref01_May.f k a0).bind fun t125 => (if t125 = true then ((debentureref01_May.f k a1).bind fun t126 => (debentureref01_Mul.j0 k a0 a1 (!t126))) else (debentureref01_Mul.j0 k a0 a1 true))) = some r := h
  clear h
  have HC3 := Aside0.mk H
  clear H
  go_enter Tryd.func27, Tryd.ntmps27
  go_upto_region 1 with (fail)
  go_cut [20] (fun v20 wc => ∃ (kq : Nat) (x20_2 : Bool), v20 = .bool x20_2 ∧ Aside0 (debentureref01_Mul.j0 kq a0 a1 x20_2 = some r) ∧ Aside0 (kq ≤ k) ∧ Aside0 (Below w.heap.size w wc))
  case first =>
    have H := HC3.out
    clear HC3
    replace H := Option.bind_eq_some_iff.mp H
    obtain ⟨t125, A40, H⟩ := H
    replace H : (if t125 = true then ((debentureref01_May.f k a1).bind fun t126 => (debentureref01_Mul.j0 k a0 a1 (!t126))) else (debentureref01_Mul.j0 k a0 a1 true)) = some r := H
    have A4 := Aside0.mk A40
    clear A40
    by_cases c5 : t125 = true
    · subst c5
      have H1 : ((debentureref01_May.f k a1).bind fun t126 => (debentureref01_Mul.j0 k a0 a1 (!t126))) = some r := by rw [if_pos rfl] at H; exact H
      clear H
      have H := H1
      clear H1
      replace H := Option.bind_eq_some_iff.mp H
      obtain ⟨t126, A60, H⟩ := H
      replace H : (debentureref01_Mul.j0 k a0 a1 (!t126)) = some r := H
      have A6 := Aside0.mk A60
      clear A60
      have H' := Aside0.mk H
      clear H
      go_wp2_with (first | ((with_reducible refine gate_callee (f := 19) rfl ?_); refine goesL_ (some 14) rfl rfl Tryd.func19 (by kernel_rfl) rfl #[.string a0] rfl (by (try simp only [List.map_toArray, List.map_cons, List.map_nil]); first | done | rfl | (simp only [List.length_drop, List.length_take]; rfl)) ?_; (with_reducible refine (debentureref01_May.calls k a0 true _ A4.out).mono ?_); rintro e w' ⟨rfl, ⟨nd, rfl⟩⟩; refine ⟨_, rfl, ?_⟩) | (go_at_call 19; (with_reducible refine (debentureref01_May.calls k a1 t126 _ A6.out).mono ?_); rintro e w' ⟨rfl, ⟨nd, rfl⟩⟩))
      go_meet
      case rel => exact ⟨_, (!t126), (by first | rfl | (simp; done) | (simp [*]; done)), H', ⟨by first | omega | exact Nat.le_refl _⟩, ⟨by repeat (first | (with_reducible first | exact HB.out | apply below_alloc | apply pw_below_drewN | apply below_drew1) | exact HB.out)⟩⟩
    · replace c5 := Bool.eq_false_iff.mpr c5
      subst c5
      have H1 : (debentureref01_Mul.j0 k a0 a1 true) = some r := by rw [if_neg (show ¬ (false = true) by decide)] at H; exact H
      clear H
      have H := H1
      clear H1
      have H' := Aside0.mk H
      clear H
      go_wp2_with (first | ((with_reducible refine gate_callee (f := 19) rfl ?_); refine goesL_ (some 14) rfl rfl Tryd.func19 (by kernel_rfl) rfl #[.string a0] rfl (by (try simp only [List.map_toArray, List.map_cons, List.map_nil]); first | done | rfl | (simp only [List.length_drop, List.length_take]; rfl)) ?_; (with_reducible refine (debentureref01_May.calls k a0 false _ A4.out).mono ?_); rintro e w' ⟨rfl, ⟨nd, rfl⟩⟩; refine ⟨_, rfl, ?_⟩))
      go_meet
      case rel => exact ⟨_, (true), (by first | rfl | (simp; done) | (simp [*]; done)), H', ⟨by first | omega | exact Nat.le_refl _⟩, ⟨by repeat (first | (with_reducible first | exact HB.out | apply below_alloc | apply pw_below_drewN | apply below_drew1) | exact HB.out)⟩⟩
  case rest =>
    clear HC3
    try clear c1
    try clear c2
    try clear p2
    try clear c5
    obtain ⟨kq, x20_2, rfl, HA, HJ2, HB⟩ := hcut
    cases kq with
    | zero => exact absurd HA.out (by simp [debentureref01_Mul.j0])
    | succ kj2 =>
      have H := HA.out
      clear HA
      simp only [debentureref01_Mul.j0] at H
      by_cases c7 : x20_2 = true
      · subst c7
        have H1 : (some (⟨#[]⟩ : ByteArray)) = some r := by rw [if_pos rfl] at H; exact H
        clear H
        have H := H1
        clear H1
        obtain rfl := Option.some.inj H
        go_wp2
        go_ret
        exact ⟨by first | rfl | (simp [errW_none, errW_some] <;> rfl) | (simp [*, errW_none, errW_some] <;> rfl), by repeat (first | (with_reducible first | exact HB.out | apply below_alloc | apply pw_below_drewN | apply below_drew1) | exact HB.out)⟩
      · replace c7 := Bool.eq_false_iff.mpr c7
        subst c7
        have H1 : (if 0 ≤ (wrap64 ((wrap64 ((a0.size : Int) + (a1.size : Int))) + 1)) then (if (wrap64 ((wrap64 ((a0.size : Int) + (a1.size : Int))) + 1) : Int).toNat ≤ 35184372088832 then (debentureref01_Mul.l0 kj2 a0 a1 (wrap64 ((a0.size : Int) + (a1.size : Int))) (List.replicate (wrap64 ((wrap64 ((a0.size : Int) + (a1.size : Int))) + 1) : Int).toNat 0) 0) else (none)) else (none)) = some r := by rw [if_neg (show ¬ (false = true) by decide)] at H; exact H
        clear H
        have H := H1
        clear H1
        obtain ⟨ji8, hji8⟩ : ∃ j_ : Int, (wrap64 ((wrap64 ((a0.size : Int) + (a1.size : Int))) + 1)) = j_ := ⟨_, rfl⟩
        replace H : (if 0 ≤ (ji8) then (if (ji8 : Int).toNat ≤ 35184372088832 then (debentureref01_Mul.l0 kj2 a0 a1 (wrap64 ((a0.size : Int) + (a1.size : Int))) (List.replicate (ji8 : Int).toNat 0) 0) else (none)) else (none)) = some r := by first | (rw [hji8] at H; exact H) | (simp only [hji8] at H ⊢; exact H)
        have hji8w : (IntKind.i64.wrap ((wrap64 ((a0.size : Int) + (a1.size : Int))) + 1)) = ji8 := (i64_w _).trans hji8
        by_cases c9 : 0 ≤ (ji8)
        · rw [if_pos c9] at H
          have c9b0 := eq_true c9
          have c9b1 : decide (0 ≤ (ji8)) = true := decide_eq_true c9
          clear c9
          by_cases c10 : (ji8 : Int).toNat ≤ 35184372088832
          · rw [if_pos c10] at H
            have c10b0 := eq_true c10
            have c10b1 : decide ((ji8 : Int).toNat ≤ 35184372088832) = true := decide_eq_true c10
            clear c10
            obtain ⟨y127, hy127⟩ : ∃ y_ : List Int, y_ = (List.replicate (ji8 : Int).toNat 0) := ⟨_, rfl⟩
            replace H : (debentureref01_Mul.l0 kj2 a0 a1 (wrap64 ((a0.size : Int) + (a1.size : Int))) y127 0) = some r := by first | (rw [hy127]; with_reducible exact H) | (have H2_ := (Option.bind_some _ _).symm.trans H; rw [hy127]; with_reducible exact H2_) | (have H2_ := (Option.bind_some _ _).symm.trans H; with_reducible exact H2_) | with_reducible exact H | (rw [hy127]; exact H) | exact H
            have Ny127 := Aside0.mk hy127
            clear hy127
            have H' := Aside0.mk H
            clear H
            go_wp2_with (first | ((with_reducible refine gate_dst (N := 28) rfl ?_); refine Kd.R_make (Kd.int .i64) _ 3 rfl (N := 28) rfl 40 _ _ rfl ji8 (by first | rfl | (rw [← hji8]; rfl)) (by first | rfl | (rw [← hji8]; rfl)) Tryd.underlying40 (.int .i64 0) 8 info3 rfl (by decide) (by omega) 0 (ok := fun _ => True) (okp := fun _ => True) rfl (fun _ hk => hk) trivial (of_decide_eq_true (by first | (with_reducible assumption) | assumption)) (by have h_ := (of_decide_eq_true (by first | (with_reducible assumption) | assumption) : ji8.toNat ≤ 35184372088832); omega) (Below.refl _ _) (Nat.le_refl _) ?_; intro v128 w11 ho12 hb hg_ hnew_; clear hg_ hnew_; (first | rw [← Ny127.out] at ho12 | (simp only [Int.reduceToNat] at ho12; rw [← Ny127.out] at ho12)); have n0_ := Aside0.mk (Kd.R_lower ho12 (below_size (by repeat (first | (with_reducible first | exact HB.out | apply below_alloc | apply pw_below_drewN | apply below_drew1) | exact HB.out)))); have n1_ := Aside0.mk (below_step (by repeat (first | (with_reducible first | exact HB.out | apply below_alloc | apply pw_below_drewN | apply below_drew1) | exact HB.out)) hb); clear HB; have HO129 := n0_; have HB := n1_; clear n0_ n1_; clear hb ho12))
            go_loopg [7] kj2 (fun kq v7 w' => ∃ (x6_2 : List Int) (x7_2 : Int), v7 = .int .i64 x7_2 ∧ Aside0 (debentureref01_Mul.l0 kq a0 a1 (wrap64 ((a0.size : Int) + (a1.size : Int))) x6_2 x7_2 = some r) ∧ Aside0 (kq ≤ kj2) ∧ Aside0 (Kd.R (Kd.int .i64) 3 w' w.heap.size (fun _ => True) v128 x6_2) ∧ Aside0 (Below w.heap.size w w'))
            case atStart => exact ⟨(y127), (0), (by first | rfl | (simp; done) | (simp [*]; done)), H', ⟨Nat.le_refl _⟩, ⟨by (with_reducible repeat (first | apply Kd.R_alloc | apply Kd.R_drewN | apply Kd.R_drew)); exact HO129.out⟩, ⟨by repeat (first | (with_reducible first | exact HB.out | apply below_alloc | apply pw_below_drewN | apply below_drew1) | exact HB.out)⟩⟩
            case round =>
              clear H'
              try clear c1
              try clear c2
              try clear p2
              try clear c5
              try clear p6
              try clear c7
              try clear c9
              try clear c9b0
              try clear c9b1
              try clear c10
              try clear c10b0
              try clear c10b1
              try clear p2
              obtain ⟨x6_2, x7_2, rfl, HA, HK2, HO_6, HB⟩ := hrel
              cases gk with
              | zero => exact absurd HA.out (by simp [debentureref01_Mul.l0])
              | succ k2 =>
                have H := HA.out
                clear HA
                simp only [debentureref01_Mul.l0] at H
                by_cases c13 : x7_2 < (a0.size : Int)
                · rw [if_pos c13] at H
                  have c13b0 : decide (x7_2 < (a0.size : Int)) = true := decide_eq_true c13
                  clear c13
                  have H' := Aside0.mk H
                  clear H
                  go_wp2
                  go_loopg [8] k2 (fun kq v8 w' => ∃ (x6_3 : List Int) (x8_3 : Int), v8 = .int .i64 x8_3 ∧ Aside0 (debentureref01_Mul.l1 kq a0 a1 (wrap64 ((a0.size : Int) + (a1.size : Int))) x6_3 x7_2 x8_3 = some r) ∧ Aside0 (kq ≤ k2) ∧ Aside0 (Kd.R (Kd.int .i64) 3 w' w.heap.size (fun _ => True) v128 x6_3) ∧ Aside0 (Below w.heap.size w w'))
                  case atStart => exact ⟨(x6_2), (0), (by first | rfl | (simp; done) | (simp [*]; done)), H', ⟨Nat.le_refl _⟩, ⟨by (with_reducible repeat (first | apply Kd.R_alloc | apply Kd.R_drewN | apply Kd.R_drew)); exact HO_6.out⟩, ⟨by repeat (first | (with_reducible first | exact HB.out | apply below_alloc | apply pw_below_drewN | apply below_drew1) | exact HB.out)⟩⟩
                  case round =>
                    clear H'
                    try clear c1
                    try clear c2
                    try clear p2
                    try clear c5
                    try clear p6
                    try clear c7
                    try clear c9
                    try clear c9b0
                    try clear c9b1
                    try clear c10
                    try clear c10b0
                    try clear c10b1
                    try clear c13
                    try clear c13b0
                    try clear p2
                    try clear p6
                    obtain ⟨x6_3, x8_3, rfl, HA, HK3, HO_6, HB⟩ := hrel
                    cases gk with
                    | zero => exact absurd HA.out (by simp [debentureref01_Mul.l1])
                    | succ k3 =>
                      have H := HA.out
                      clear HA
                      simp only [debentureref01_Mul.l1] at H
                      by_cases c14 : x8_3 < (a1.size : Int)
                      · rw [if_pos c14] at H
                        have c14b0 : decide (x8_3 < (a1.size : Int)) = true := decide_eq_true c14
                        clear c14
                        obtain ⟨ji15, hji15⟩ : ∃ j_ : Int, (wrap64 (x7_2 + x8_3)) = j_ := ⟨_, rfl⟩
                        replace H : (if 0 ≤ (ji15) then (if (ji15) < (x6_3.length : Int) then ((debentureref01_at.f a0 x7_2).bind fun t131 => ((debentureref01_at.f a1 x8_3).bind fun t132 => (debentureref01_Mul.l1 k3 a0 a1 (wrap64 ((a0.size : Int) + (a1.size : Int))) (x6_3.set ((ji15) : Int).toNat (wrap64 ((rd x6_3 (ji15)) + (wrap64 (t131 * t132))))) x7_2 (wrap64 (x8_3 + 1))))) else (none)) else (none)) = some r := by first | (rw [hji15] at H; exact H) | (simp only [hji15] at H ⊢; exact H)
                        have hji15w : (IntKind.i64.wrap (x7_2 + x8_3)) = ji15 := (i64_w _).trans hji15
                        by_cases c16 : 0 ≤ (ji15)
                        · rw [if_pos c16] at H
                          have c16b0 : decide (0 ≤ (ji15)) = true := decide_eq_true c16
                          clear c16
                          by_cases c17 : (ji15) < (x6_3.length : Int)
                          · rw [if_pos c17] at H
                            have c17b0 : decide ((ji15) < (x6_3.length : Int)) = true := decide_eq_true c17
                            clear c17
                            replace H := Option.bind_eq_some_iff.mp H
                            obtain ⟨t131, A180, H⟩ := H
                            replace H : ((debentureref01_at.f a1 x8_3).bind fun t132 => (debentureref01_Mul.l1 k3 a0 a1 (wrap64 ((a0.size : Int) + (a1.size : Int))) (x6_3.set ((ji15) : Int).toNat (wrap64 ((rd x6_3 (ji15)) + (wrap64 (t131 * t132))))) x7_2 (wrap64 (x8_3 + 1)))) = some r := H
                            have A18 := Aside0.mk A180
                            clear A180
                            replace H := Option.bind_eq_some_iff.mp H
                            obtain ⟨t132, A190, H⟩ := H
                            replace H : (debentureref01_Mul.l1 k3 a0 a1 (wrap64 ((a0.size : Int) + (a1.size : Int))) (x6_3.set ((ji15) : Int).toNat (wrap64 ((rd x6_3 (ji15)) + (wrap64 (t131 * t132))))) x7_2 (wrap64 (x8_3 + 1))) = some r := H
                            have A19 := Aside0.mk A190
                            clear A190
                            obtain ⟨y133, hy133⟩ : ∃ y_ : List Int, y_ = (x6_3.set ((ji15) : Int).toNat (wrap64 ((rd x6_3 (ji15)) + (wrap64 (t131 * t132))))) := ⟨_, rfl⟩
                            replace H : (debentureref01_Mul.l1 k3 a0 a1 (wrap64 ((a0.size : Int) + (a1.size : Int))) y133 x7_2 (wrap64 (x8_3 + 1))) = some r := by first | (rw [hy133]; with_reducible exact H) | (have H2_ := (Option.bind_some _ _).symm.trans H; rw [hy133]; with_reducible exact H2_) | (have H2_ := (Option.bind_some _ _).symm.trans H; with_reducible exact H2_) | with_reducible exact H | (rw [hy133]; exact H) | exact H
                            have Ny133 := Aside0.mk hy133
                            clear hy133
                            have H' := Aside0.mk H
                            clear H
                            try go_wp2
                            have n0_ := Aside0.mk (Kd.R_drew HO_6.out)
                            have n1_ := Aside0.mk (below_drew1 HB.out)
                            clear HO_6
                            clear HB
                            have HO_6 := n0_
                            have HB := n1_
                            clear n0_ n1_
                            obtain ⟨Ao22, co22, eo22⟩ := Kd.R_slice HO_6.out
                            (first | subst eo22 | (injection eo22 with f1_ f2_ f3_; have f4_ := f1_.symm; have f5_ := f3_.symm; clear f1_ f2_ f3_; subst f4_; subst f5_))
                            have p130 : 0 ≤ ((ji15) : Int) := of_decide_eq_true (by first | (with_reducible assumption) | assumption)
                            have q130 : (ji15) < (x6_3.length : Int) := of_decide_eq_true (by first | (with_reducible assumption) | assumption)
                            obtain ⟨ad130, e130, hx130_0⟩ := Kd.at_int (Kd.R_reads' HO_6.out).2.2 (ji15) p130 q130
                            cases e130
                            replace p130 := eq_true p130
                            replace q130 := eq_true q130
                            refine start_ (n := 16) (S := fun w' => w'.cell? (ad130.add ((ji15)).toNat) = some (.int .i64 (rd x6_3 (ji15)))) (ds := [15]) #[false, false, false, false, false, false, false, false, false, false, false, false, false, false, false, false] (by kernel_rfl) rfl rfl (hx130_0) (fun hHeld => ?_); refine with_tabW debentureref01_Mul.tab11 debentureref01_Mul.bits11 (fun HT_ HW_ => ?_)
                            generalize wr.drew = w21 at HO_6 HB hx130_0 hHeld ⊢
                            refine pure_ (i := 0) (N := some 41) (v := ?_) (a' := ?_) #[true, false, false, false, false, false, false, false, false, false, false, false, false, false, false, false] rfl rfl (any_of HT_.out (by kernel_rfl)) (fun _ _ _ h => h) (Or.inl ⟨by rfl, ?_⟩) ?_ ?_
                            rotate_left
                            · intro w'
                              go_simp
                              with_reducible rfl
                            rotate_left
                            · simp only [Act.put, List.setIfInBounds_toArray, List.set_cons_zero, List.set_cons_succ, i64_w, i32_w]
                              rfl
                            refine pure_ (i := 1) (N := some 42) (v := ?_) (a' := ?_) #[true, true, false, false, false, false, false, false, false, false, false, false, false, false, false, false] rfl rfl (any_of HT_.out (by kernel_rfl)) (fun _ _ _ h => h) (Or.inl ⟨by rfl, ?_⟩) ?_ ?_
                            rotate_left
                            · intro w'
                              go_simp
                              with_reducible rfl
                            rotate_left
                            · simp only [Act.put, List.setIfInBounds_toArray, List.set_cons_zero, List.set_cons_succ, i64_w, i32_w]
                              rfl
                            refine pure_ (i := 2) (N := some 43) (v := ?_) (a' := ?_) #[true, true, true, false, false, false, false, false, false, false, false, false, false, false, false, false] rfl rfl (any_of HT_.out (by kernel_rfl)) (fun _ _ _ h => h) (Or.inl ⟨by rfl, ?_⟩) ?_ ?_
                            rotate_left
                            · intro w'
                              go_simp
                              with_reducible rfl
                            rotate_left
                            · simp only [Act.put, List.setIfInBounds_toArray, List.set_cons_zero, List.set_cons_succ, i64_w, i32_w]
                              rfl
                            refine pure_ (i := 3) (N := some 44) (v := ?_) (a' := ?_) #[true, true, true, true, false, false, false, false, false, false, false, false, false, false, false, false] rfl rfl (any_of HT_.out (by kernel_rfl)) (fun _ _ _ h => h) (Or.inl ⟨by rfl, ?_⟩) ?_ ?_
                            rotate_left
                            · intro w'
                              go_simp
                              with_reducible rfl
                            rotate_left
                            · simp only [Act.put, List.setIfInBounds_toArray, List.set_cons_zero, List.set_cons_succ, i64_w, i32_w]
                              rfl
                            refine pure_ (i := 4) (N := some 45) (v := ?_) (a' := ?_) #[true, true, true, true, true, false, false, false, false, false, false, false, false, false, false, false] rfl rfl (any_of HT_.out (by kernel_rfl)) (fun _ _ _ h => h) (Or.inl ⟨by rfl, ?_⟩) ?_ ?_
                            rotate_left
                            · intro w'
                              go_simp
                              with_reducible rfl
                            rotate_left
                            · simp only [Act.put, List.setIfInBounds_toArray, List.set_cons_zero, List.set_cons_succ, i64_w, i32_w]
                              rfl
                            refine pure_ (i := 6) (N := some 47) (v := ?_) (a' := ?_) #[true, true, true, true, true, false, true, false, false, false, false, false, false, false, false, false] rfl rfl (any_of HT_.out (by kernel_rfl)) (fun _ _ _ h => h) (Or.inl ⟨by rfl, ?_⟩) ?_ ?_
                            rotate_left
                            · intro w'
                              go_simp
                              with_reducible rfl
                            rotate_left
                            · simp only [Act.put, List.setIfInBounds_toArray, List.set_cons_zero, List.set_cons_succ, i64_w, i32_w]
                              rfl
                            refine pure_ (i := 7) (N := some 48) (v := ?_) (a' := ?_) #[true, true, true, true, true, false, true, true, false, false, false, false, false, false, false, false] rfl rfl (any_of HT_.out (by kernel_rfl)) (fun _ _ _ h => h) (Or.inl ⟨by rfl, ?_⟩) ?_ ?_
                            rotate_left
                            · intro w'
                              go_simp
                              with_reducible rfl
                            rotate_left
                            · simp only [Act.put, List.setIfInBounds_toArray, List.set_cons_zero, List.set_cons_succ, i64_w, i32_w]
                              rfl
                            refine pure_ (i := 9) (N := some 50) (v := ?_) (a' := ?_) #[true, true, true, true, true, false, true, true, false, true, false, false, false, false, false, false] rfl rfl (any_of HT_.out (by kernel_rfl)) (fun _ _ _ h => h) (Or.inl ⟨by rfl, ?_⟩) ?_ ?_
                            rotate_left
                            · intro w'
                              go_simp
                              with_reducible rfl
                            rotate_left
                            · simp only [Act.put, List.setIfInBounds_toArray, List.set_cons_zero, List.set_cons_succ, i64_w, i32_w]
                              rfl
                            refine pure_ (i := 10) (N := some 51) (v := ?_) (a' := ?_) #[true, true, true, true, true, false, true, true, false, true, true, false, false, false, false, false] rfl rfl (any_of HT_.out (by kernel_rfl)) (fun _ _ _ h => h) (Or.inl ⟨by rfl, ?_⟩) ?_ ?_
                            rotate_left
                            · intro w'
                              go_simp
                              with_reducible rfl
                            rotate_left
                            · simp only [Act.put, List.setIfInBounds_toArray, List.set_cons_zero, List.set_cons_succ, i64_w, i32_w]
                              rfl
                            refine take_ (i := 5) (N := some 46) (v := ?_) (a' := ?_) #[true, true, true, true, true, true, true, true, false, true, true, false, false, false, false, false] rfl rfl (take_ofW HT_.out HW_.out (by kernel_rfl)) (fun _ _ _ h => h) (Or.inl ⟨by rfl, ?_⟩) hHeld ?_ ?_
                            rotate_left
                            · intro w' s0
                              go_simp
                              with_reducible rfl
                            rotate_left
                            · simp only [Act.put, List.setIfInBounds_toArray, List.set_cons_zero, List.set_cons_succ, i64_w, i32_w]
                              rfl
                            refine one_ (i := 8) (N := some 49) #[true, true, true, true, true, true, true, true, true, true, true, false, false, false, false, false] rfl rfl (one_of HT_.out (by kernel_rfl)) (by decide) (fun K hK => ?_)
                            refine goes_ Tryd.func34 (by kernel_rfl) rfl #[.string a0, .int .i64 x7_2] (by rfl) rfl rfl (by (try simp only [List.map_toArray, List.map_cons, List.map_nil]); first | done | rfl | (simp only [List.length_drop, List.length_take]; rfl)) ?_
                            with_reducible refine (debentureref01_at.calls a0 x7_2 t131 _ A18.out).mono ?_
                            rintro e w' ⟨rfl, ⟨nd, rfl⟩⟩
                            refine ⟨_, rfl, ?_⟩
                            refine hK.out _ _ (hHeld) (fun hHeld => ?_)
                            clear hK K
                            refine norm_ (a' := ?_) ?_ ?_
                            rotate_left
                            · show Act.put _ (some 49) _ = _
                              simp only [Act.put, List.setIfInBounds_toArray, List.set_cons_zero, List.set_cons_succ, i64_w, i32_w]
                              rfl
                            refine one_ (i := 11) (N := some 52) #[true, true, true, true, true, true, true, true, true, true, true, true, false, false, false, false] rfl rfl (one_of HT_.out (by kernel_rfl)) (by decide) (fun K hK => ?_)
                            refine goes_ Tryd.func34 (by kernel_rfl) rfl #[.string a1, .int .i64 x8_3] (by rfl) rfl rfl (by (try simp only [List.map_toArray, List.map_cons, List.map_nil]); first | done | rfl | (simp only [List.length_drop, List.length_take]; rfl)) ?_
                            with_reducible refine (debentureref01_at.calls a1 x8_3 t132 _ A19.out).mono ?_
                            rintro e w' ⟨rfl, ⟨nd, rfl⟩⟩
                            refine ⟨_, rfl, ?_⟩
                            have p20 : 0 ≤ ((ji15) : Int) := of_decide_eq_true (by first | (with_reducible assumption) | assumption)
                            have q20 : ((ji15) : Int) < ((x6_3.length : Int) : Int) := of_decide_eq_true (by first | (with_reducible assumption) | assumption)
                            obtain ⟨go20, co20, eo20, gb20, gl20, cl20, HG20⟩ := Kd.R_form HO_6.out (by omega)
                            (first | cases eo20 | (injection eo20 with ea_ en_ ec_; (first | subst ea_ | (injection ea_ with ea_; subst ea_)); subst ec_; clear en_))
                            have GB20 := Aside0.mk gb20
                            have GG20 := Aside0.mk HG20
                            clear gb20 gl20 HG20
                            (first | simp only [add_plain] at hx130_0 | skip)
                            obtain ⟨hx20_0, hf20_0⟩ := Kd.R_celln 0 HO_6.out ((ji15) : Int) p20 q20
                            replace p20 := eq_true p20
                            replace q20 := eq_true q20
                            have HP23 := Kd.R_putn HO_6.out ((ji15) : Int) (wrap64 ((rd x6_3 (ji15)) + (wrap64 (t131 * t132))))
                            rw [← Ny133.out] at HP23
                            have HQ23 := Aside0.mk HP23
                            clear HP23
                            refine hK.out _ _ (hHeld) (fun hHeld => ?_)
                            clear hK K
                            refine norm_ (a' := ?_) ?_ ?_
                            rotate_left
                            · show Act.put _ (some 52) _ = _
                              simp only [Act.put, List.setIfInBounds_toArray, List.set_cons_zero, List.set_cons_succ, i64_w, i32_w]
                              rfl
                            refine pure_ (i := 12) (N := some 53) (v := ?_) (a' := ?_) #[true, true, true, true, true, true, true, true, true, true, true, true, true, false, false, false] rfl rfl (any_of HT_.out (by kernel_rfl)) (fun _ _ _ h => h) (Or.inl ⟨by rfl, ?_⟩) ?_ ?_
                            rotate_left
                            · intro w'
                              go_simp
                              with_reducible rfl
                            rotate_left
                            · simp only [Act.put, List.setIfInBounds_toArray, List.set_cons_zero, List.set_cons_succ, i64_w, i32_w]
                              rfl
                            refine pure_ (i := 13) (N := some 54) (v := ?_) (a' := ?_) #[true, true, true, true, true, true, true, true, true, true, true, true, true, true, false, false] rfl rfl (any_of HT_.out (by kernel_rfl)) (fun _ _ _ h => h) (Or.inl ⟨by rfl, ?_⟩) ?_ ?_
                            rotate_left
                            · intro w'
                              go_simp
                              with_reducible rfl
                            rotate_left
                            · simp only [Act.put, List.setIfInBounds_toArray, List.set_cons_zero, List.set_cons_succ, i64_w, i32_w]
                              rfl
                            refine pure_ (i := 14) (N := some 55) (v := ?_) (a' := ?_) #[true, true, true, true, true, true, true, true, true, true, true, true, true, true, true, false] rfl rfl (any_of HT_.out (by kernel_rfl)) (fun _ _ _ h => h) (Or.inl ⟨by rfl, ?_⟩) ?_ ?_
                            rotate_left
                            · intro w'
                              go_simp
                              with_reducible rfl
                            rotate_left
                            · simp only [Act.put, List.setIfInBounds_toArray, List.set_cons_zero, List.set_cons_succ, i64_w, i32_w]
                              rfl
                            refine last_ (i := 15) (N := none) #[true, true, true, true, true, true, true, true, true, true, true, true, true, true, true, true] rfl rfl (one_of HT_.out (by kernel_rfl)) (by decide) (fun K hK => ?_)
                            refine skip_ (w1 := ?_) (by rfl) rfl ?_ ?_
                            rotate_left
                            · go_simp
                              rfl
                            refine hK.out _ _ ?_
                            clear hK K
                            refine done_ (done_of HT_.out (by kernel_rfl)) ?_
                            try go_wp2
                            go_roundg k3
                            case measure => have := HJ2.out; have := HK2.out; have := HK3.out; omega
                            case rel => exact ⟨(y133), (wrap64 (x8_3 + 1)), (by first | rfl | (simp; done) | (simp [*]; done)), H', ⟨by have := HJ2.out; have := HK2.out; have := HK3.out; omega⟩, ⟨by (with_reducible repeat (first | apply Kd.R_alloc | apply Kd.R_drewN | apply Kd.R_drew)); exact HQ23.out⟩, ⟨by repeat (first | (with_reducible first | exact HB.out | apply below_alloc | apply pw_below_drewN | apply below_drew1 | refine below_set ?_ GB20.out) | exact HB.out)⟩⟩
                          · rw [if_neg c17] at H
                            exact absurd H (by simp)
                        · rw [if_neg c16] at H
                          exact absurd H (by simp)
                      · rw [if_neg c14] at H
                        have c14b0 : decide (x8_3 < (a1.size : Int)) = false := decide_eq_false c14
                        clear c14
                        have H' := Aside0.mk H
                        clear H
                        go_wp2
                        go_roundg k3
                        case measure => have := HJ2.out; have := HK2.out; have := HK3.out; omega
                        case rel => exact ⟨(x6_3), (wrap64 (x7_2 + 1)), (by first | rfl | (simp; done) | (simp [*]; done)), H', ⟨by have := HJ2.out; have := HK2.out; have := HK3.out; omega⟩, ⟨by (with_reducible repeat (first | apply Kd.R_alloc | apply Kd.R_drewN | apply Kd.R_drew)); exact HO_6.out⟩, ⟨by repeat (first | (with_reducible first | exact HB.out | apply below_alloc | apply pw_below_drewN | apply below_drew1) | exact HB.out)⟩⟩
                · rw [if_neg c13] at H
                  have c13b0 : decide (x7_2 < (a0.size : Int)) = false := decide_eq_false c13
                  clear c13
                  obtain ⟨ji24, hji24⟩ : ∃ j_ : Int, (wrap64 ((a0.size : Int) + (a1.size : Int))) = j_ := ⟨_, rfl⟩
                  replace H : (if 0 ≤ (ji24) then (if ((ji24) : Int).toNat ≤ 281474976710656 then (debentureref01_Mul.l2 k2 (ji24) x6_2 (List.replicate ((ji24) : Int).toNat 0) 0 0) else (none)) else (none)) = some r := by first | (rw [hji24] at H; exact H) | (simp only [hji24] at H ⊢; exact H)
                  have hji24w : (IntKind.i64.wrap ((a0.size : Int) + (a1.size : Int))) = ji24 := (i64_w _).trans hji24
                  by_cases c25 : 0 ≤ (ji24)
                  · rw [if_pos c25] at H
                    have c25b0 := eq_true c25
                    have c25b1 : decide (0 ≤ (ji24)) = true := decide_eq_true c25
                    clear c25
                    by_cases c26 : ((ji24) : Int).toNat ≤ 281474976710656
                    · rw [if_pos c26] at H
                      have c26b0 := eq_true c26
                      have c26b1 : decide (((ji24) : Int).toNat ≤ 281474976710656) = true := decide_eq_true c26
                      clear c26
                      obtain ⟨y134, hy134⟩ : ∃ y_ : List Int, y_ = (List.replicate ((ji24) : Int).toNat 0) := ⟨_, rfl⟩
                      replace H : (debentureref01_Mul.l2 k2 (ji24) x6_2 y134 0 0) = some r := by first | (rw [hy134]; with_reducible exact H) | (have H2_ := (Option.bind_some _ _).symm.trans H; rw [hy134]; with_reducible exact H2_) | (have H2_ := (Option.bind_some _ _).symm.trans H; with_reducible exact H2_) | with_reducible exact H | (rw [hy134]; exact H) | exact H
                      have Ny134 := Aside0.mk hy134
                      clear hy134
                      have H' := Aside0.mk H
                      clear H
                      go_wp2_with (first | ((with_reducible refine gate_dst (N := 57) rfl ?_); refine Kd.R_make (Kd.int .u8) _ 5 rfl (N := 57) rfl 47 _ _ rfl (ji24) (by first | rfl | (rw [← hji24]; rfl)) (by first | rfl | (rw [← hji24]; rfl)) Tryd.underlying47 (.int .u8 0) 1 info5 rfl (by decide) (by omega) 0 (ok := fun _ => True) (okp := fun _ => True) rfl (fun _ hk => hk) trivial (of_decide_eq_true (by first | (with_reducible assumption) | assumption)) (by have h_ := (of_decide_eq_true (by first | (with_reducible assumption) | assumption) : (ji24).toNat ≤ 281474976710656); omega) (Below.refl _ _) (Nat.le_refl _) ?_; intro v135 w27 ho28 hb hg_ hnew_; clear hg_ hnew_; (first | rw [← Ny134.out] at ho28 | (simp only [Int.reduceToNat] at ho28; rw [← Ny134.out] at ho28)); have n0_ := Aside0.mk (Kd.R_below (by (with_reducible repeat (first | apply Kd.R_alloc | apply Kd.R_drewN | apply Kd.R_drew)); exact HO_6.out) hb); have n1_ := Aside0.mk (Kd.R_lower ho28 (below_size (by repeat (first | (with_reducible first | exact HB.out | apply below_alloc | apply pw_below_drewN | apply below_drew1) | exact HB.out)))); have n2_ := Aside0.mk (below_step (by repeat (first | (with_reducible first | exact HB.out | apply below_alloc | apply pw_below_drewN | apply below_drew1) | exact HB.out)) hb); clear HO_6; clear HB; have HO_6 := n0_; have HO136 := n1_; have HB := n2_; clear n0_ n1_ n2_; clear hb ho28))
                      go_loopg [10, 11] k2 (fun kq v10 v11 w' => ∃ (x9_3 : List Int) (x10_3 : Int) (x11_3 : Int), v10 = .int .i64 x10_3 ∧ v11 = .int .i64 x11_3 ∧ Aside0 (debentureref01_Mul.l2 kq (ji24) x6_2 x9_3 x10_3 x11_3 = some r) ∧ Aside0 (kq ≤ k2) ∧ Aside0 (Kd.R (Kd.int .i64) 3 w' w.heap.size (fun _ => True) v128 x6_2) ∧ Aside0 (Kd.R (Kd.int .u8) 5 w' w.heap.size (fun _ => True) v135 x9_3) ∧ Aside0 (Below w.heap.size w w'))
                      case atStart => exact ⟨(y134), (0), (0), (by first | rfl | (simp; done) | (simp [*]; done)), (by first | rfl | (simp; done) | (simp [*]; done)), H', ⟨Nat.le_refl _⟩, ⟨by (with_reducible repeat (first | apply Kd.R_alloc | apply Kd.R_drewN | apply Kd.R_drew)); exact HO_6.out⟩, ⟨by (with_reducible repeat (first | apply Kd.R_alloc | apply Kd.R_drewN | apply Kd.R_drew)); exact HO136.out⟩, ⟨by repeat (first | (with_reducible first | exact HB.out | apply below_alloc | apply pw_below_drewN | apply below_drew1) | exact HB.out)⟩⟩
                      case round =>
                        clear H'
                        try clear c1
                        try clear p1
                        try clear q1
                        try clear hx1
                        try clear c2
                        try clear p2
                        try clear q2
                        try clear hx2
                        try clear hf2
                        try clear c3
                        try clear c5
                        try clear p6
                        try clear c7
                        try clear c9
                        try clear c9b0
                        try clear c9b1
                        try clear c10
                        try clear c10b0
                        try clear c10b1
                        try clear c13
                        try clear c13b0
                        try clear p13
                        try clear q13
                        try clear hx13
                        try clear c14
                        try clear c14b0
                        try clear c16
                        try clear c16b0
                        try clear c17
                        try clear c17b0
                        try clear c19
                        try clear p20
                        try clear q20
                        try clear hx20
                        try clear hf20
                        try clear c25
                        try clear c25b0
                        try clear c25b1
                        try clear c26
                        try clear c26b0
                        try clear c26b1
                        try clear c27
                        try clear hx130_0
                        try clear hx20_0
                        try clear p130
                        try clear p2
                        try clear p20
                        try clear p6
                        try clear q130
                        try clear q20
                        obtain ⟨x9_3, x10_3, x11_3, rfl, rfl, HA, HK3, HO_6, HO_9, HB⟩ := hrel
                        cases gk with
                        | zero => exact absurd HA.out (by simp [debentureref01_Mul.l2])
                        | succ k3 =>
                          have H := HA.out
                          clear HA
                          simp only [debentureref01_Mul.l2] at H
                          by_cases c29 : x11_3 < (ji24)
                          · rw [if_pos c29] at H
                            have c29b0 : decide (x11_3 < (ji24)) = true := decide_eq_true c29
                            clear c29
                            by_cases c30 : 0 ≤ x11_3
                            · rw [if_pos c30] at H
                              have c30b0 : decide (0 ≤ x11_3) = true := decide_eq_true c30
                              clear c30
                              by_cases c31 : x11_3 < (x6_2.length : Int)
                              · rw [if_pos c31] at H
                                have c31b0 : decide (x11_3 < (x6_2.length : Int)) = true := decide_eq_true c31
                                clear c31
                                obtain ⟨ji32, hji32⟩ : ∃ j_ : Int, (wrap64 ((wrap64 ((ji24) - 1)) - x11_3)) = j_ := ⟨_, rfl⟩
                                replace H : (if 0 ≤ (ji32) then (if (ji32) < (x9_3.length : Int) then (debentureref01_Mul.l2 k3 (ji24) x6_2 (x9_3.set ((ji32) : Int).toNat ((wrap64 (48 + (Int.tmod (wrap64 ((rd x6_2 x11_3) + x10_3)) 10))) % 256)) (wrap64 (Int.tdiv (wrap64 ((rd x6_2 x11_3) + x10_3)) 10)) (wrap64 (x11_3 + 1))) else (none)) else (none)) = some r := by first | (rw [hji32] at H; exact H) | (simp only [hji32] at H ⊢; exact H)
                                have hji32w : (IntKind.i64.wrap ((wrap64 ((ji24) - 1)) - x11_3)) = ji32 := (i64_w _).trans hji32
                                by_cases c33 : 0 ≤ (ji32)
                                · rw [if_pos c33] at H
                                  have c33b0 : decide (0 ≤ (ji32)) = true := decide_eq_true c33
                                  clear c33
                                  by_cases c34 : (ji32) < (x9_3.length : Int)
                                  · rw [if_pos c34] at H
                                    have c34b0 : decide ((ji32) < (x9_3.length : Int)) = true := decide_eq_true c34
                                    clear c34
                                    obtain ⟨y138, hy138⟩ : ∃ y_ : List Int, y_ = (x9_3.set ((ji32) : Int).toNat ((wrap64 (48 + (Int.tmod (wrap64 ((rd x6_2 x11_3) + x10_3)) 10))) % 256)) := ⟨_, rfl⟩
                                    replace H : (debentureref01_Mul.l2 k3 (ji24) x6_2 y138 (wrap64 (Int.tdiv (wrap64 ((rd x6_2 x11_3) + x10_3)) 10)) (wrap64 (x11_3 + 1))) = some r := by first | (rw [hy138]; with_reducible exact H) | (have H2_ := (Option.bind_some _ _).symm.trans H; rw [hy138]; with_reducible exact H2_) | (have H2_ := (Option.bind_some _ _).symm.trans H; with_reducible exact H2_) | with_reducible exact H | (rw [hy138]; exact H) | exact H
                                    have Ny138 := Aside0.mk hy138
                                    clear hy138
                                    have H' := Aside0.mk H
                                    clear H
                                    obtain ⟨Ao36, co36, eo36⟩ := Kd.R_slice HO_6.out
                                    subst eo36
                                    have p137 : 0 ≤ (x11_3 : Int) := of_decide_eq_true (by first | (with_reducible assumption) | assumption)
                                    have q137 : x11_3 < (x6_2.length : Int) := of_decide_eq_true (by first | (with_reducible assumption) | assumption)
                                    obtain ⟨ad137, e137, hx137_0⟩ := Kd.at_int (Kd.R_reads' HO_6.out).2.2 x11_3 p137 q137
                                    cases e137
                                    replace p137 := eq_true p137
                                    replace q137 := eq_true q137
                                    have p35 : 0 ≤ ((ji32) : Int) := of_decide_eq_true (by first | (with_reducible assumption) | assumption)
                                    have q35 : ((ji32) : Int) < ((x9_3.length : Int) : Int) := of_decide_eq_true (by first | (with_reducible assumption) | assumption)
                                    obtain ⟨go35, co35, eo35, gb35, gl35, cl35, HG35⟩ := Kd.R_form HO_9.out (by omega)
                                    (first | cases eo35 | (injection eo35 with ea_ en_ ec_; (first | subst ea_ | (injection ea_ with ea_; subst ea_)); subst ec_; clear en_))
                                    have GB35 := Aside0.mk gb35
                                    have GG35 := Aside0.mk HG35
                                    clear gb35 gl35 HG35
                                    obtain ⟨hx35_0, hf35_0⟩ := Kd.R_celln 0 HO_9.out ((ji32) : Int) p35 q35
                                    replace p35 := eq_true p35
                                    replace q35 := eq_true q35
                                    have HP37 := Kd.R_putg HO_9.out ((ji32) : Int) ((wrap64 (48 + (Int.tmod (wrap64 ((rd x6_2 x11_3) + x10_3)) 10))) % 256)
                                    go_wp2_with (first | ((with_reducible refine gate_store (t := 5) (p := 78) rfl ?_); refine store_event (t := 5) (p := 78) (v := ?vo_w38) (w1 := (wr.setCell ⟨go35, ((ji32) : Int).toNat, none⟩ (.int .u8 ((wrap64 (48 + (Int.tmod (wrap64 ((rd x6_2 x11_3) + x10_3)) 10))) % 256)))) ?hg ?ho ?hn ?hr ?_; (case ho => rfl); (case hg => rfl); (case hn => rfl); (case hr => first | (go_simp; done) | (go_simp; rfl)); intro w38 hw; have hg : wr.grownBy w38 (some go35) := (by rw [hw]; exact HP37.2); have hp_ : Kd.R (Kd.int .u8) 5 w38 w.heap.size (fun _ => True) (.slice (some ⟨go35, 0, none⟩) x9_3.length co35) y138 := (by rw [hw, Ny138.out]; exact HP37.1); clear HP37; have n0_ := Aside0.mk (Kd.R_over' (v := (.slice (some ⟨go35, 0, none⟩) x9_3.length co35)) (by (with_reducible repeat (first | apply Kd.R_alloc | apply Kd.R_drewN | apply Kd.R_drew)); exact HO_6.out) (Kd.R_typed HO_9.out) (by decide) hg); have n1_ := Aside0.mk (hp_); have n2_ := Aside0.mk ((by rw [hw]; exact below_set (HB.out) GB35.out : Below w.heap.size w w38)); clear HO_6; clear HO_9; clear HB; have HO_6 := n0_; have HO_9 := n1_; have HB := n2_; clear n0_ n1_ n2_; clear hg hw hp_))
                                    go_roundg k3
                                    case measure => have := HJ2.out; have := HK2.out; have := HK3.out; omega
                                    case rel => exact ⟨(y138), (wrap64 (Int.tdiv (wrap64 ((rd x6_2 x11_3) + x10_3)) 10)), (wrap64 (x11_3 + 1)), (by first | rfl | (simp; done) | (simp [*]; done)), (by first | rfl | (simp; done) | (simp [*]; done)), H', ⟨by have := HJ2.out; have := HK2.out; have := HK3.out; omega⟩, ⟨by (with_reducible repeat (first | apply Kd.R_alloc | apply Kd.R_drewN | apply Kd.R_drew)); exact HO_6.out⟩, ⟨by (with_reducible repeat (first | apply Kd.R_alloc | apply Kd.R_drewN | apply Kd.R_drew)); exact HO_9.out⟩, ⟨by repeat (first | (with_reducible first | exact HB.out | apply below_alloc | apply pw_below_drewN | apply below_drew1) | exact HB.out)⟩⟩
                                  · rw [if_neg c34] at H
                                    exact absurd H (by simp)
                                · rw [if_neg c33] at H
                                  exact absurd H (by simp)
                              · rw [if_neg c31] at H
                                exact absurd H (by simp)
                            · rw [if_neg c30] at H
                              exact absurd H (by simp)
                          · rw [if_neg c29] at H
                            have c29b0 : decide (x11_3 < (ji24)) = false := decide_eq_false c29
                            clear c29
                            replace H := Option.bind_eq_some_iff.mp H
                            obtain ⟨t139, A390, H⟩ := H
                            replace H : (some t139) = some r := H
                            have A39 := Aside0.mk A390
                            clear A390
                            obtain rfl := Option.some.inj H
                            have hcv40 := own_string (P := Tryd.prog) Tryd.underlying47 Tryd.underlying5 Tryd.underlying9 (Kd.own_of_R HO_9.out)
                            go_wp2_with (first | ((with_reducible refine gate_callee (f := 35) rfl ?_); refine goesL_ (some 83) rfl rfl Tryd.func35 (by kernel_rfl) rfl #[.string (strOfNums x9_3)] rfl (by (try simp only [List.map_toArray, List.map_cons, List.map_nil]); first | done | rfl | (simp only [List.length_drop, List.length_take]; rfl)) ?_; (with_reducible refine (debentureref01_trim.calls k3 (strOfNums x9_3) t139 _ A39.out).mono ?_); rintro e w' ⟨rfl, ⟨nd, rfl⟩⟩; refine ⟨_, rfl, ?_⟩))
                            go_ret
                            exact ⟨by first | rfl | (simp [errW_none, errW_some] <;> rfl) | (simp only [← hji8, ← hji24]; first | rfl | (simp [errW_none, errW_some] <;> rfl)) | (simp [*, errW_none, errW_some] <;> rfl), by repeat (first | (with_reducible first | exact HB.out | apply below_alloc | apply pw_below_drewN | apply below_drew1) | exact HB.out)⟩
                    · rw [if_neg c26] at H
                      exact absurd H (by simp)
                  · rw [if_neg c25] at H
                    exact absurd H (by simp)
          · rw [if_neg c10] at H
            exact absurd H (by simp)
        · rw [if_neg c9] at H
          exact absurd H (by simp)

end Go.Proofs.YtmcpiejgneegjaaDoor.Pq

end

/-
What the first reference's product tells.
-/
section
set_option linter.unusedVariables false
namespace Go.Proofs.YtmcpiejgneegjaaDoor
open Go.RowKit Go.Proofs.YtmcpiejgneegjaaDoorW.PrintWords Go.Proofs.YtmcpiejgneegjaaDoorW.PrintLast Go.Proofs.YtmcpiejgneegjaaDoorW.PrintMore

/-- Cells from 0 on, at most M. -/
def Cells (M : Int) (l : List Int) : Prop := ∀ x ∈ l, 0 ≤ x ∧ x ≤ M
theorem cells_mono {M M' : Int} {l : List Int} (h : Cells M l) (hm : M ≤ M') : Cells M' l := fun x hx => ⟨(h x hx).1, by have := (h x hx).2; omega⟩
theorem cells_set {M : Int} {l : List Int} (h : Cells M l) (j : Nat) {v : Int} (h0 : 0 ≤ v) (h1 : v ≤ M) : Cells M (l.set j v) := by
  intro x hx
  rcases List.mem_or_eq_of_mem_set hx with hx | rfl
  · exact h x hx
  · exact ⟨h0, h1⟩
theorem cells_limb {M : Int} {l : List Int} (h : Cells M l) (hM : 0 ≤ M) (i : Nat) : 0 ≤ limb l i ∧ limb l i ≤ M := by
  unfold limb
  rw [List.getD_eq_getElem?_getD]
  cases hx : l[i]? with
  | none => exact ⟨Int.le_refl _, hM⟩
  | some x => exact h x (List.mem_of_getElem? hx)
theorem cells_rep (n : Nat) : Cells 0 (List.replicate n 0) := by
  intro x hx
  rw [List.eq_of_mem_replicate hx]
  decide
theorem cells_nonneg {M : Int} {l : List Int} (h : Cells M l) : 0 ≤ ten l := ten_nonneg fun x hx => (h x hx).1

theorem dig_mul {x y : Int} (hx : 0 ≤ x ∧ x < 10) (hy : 0 ≤ y ∧ y < 10) : 0 ≤ x * y ∧ x * y ≤ 81 := by
  refine ⟨Int.mul_nonneg hx.1 hy.1, ?_⟩
  have h1 : x * y ≤ x * 9 := Int.mul_le_mul_of_nonneg_left (by omega) hx.1
  omega
theorem w64_cell {z p M : Int} {j : Nat} (h : 0 ≤ z ∧ z ≤ M + 81 * (j : Int)) (hj : j ≤ 50000) (hM : M ≤ 300000000000) (hp : 0 ≤ p ∧ p ≤ 81) : wrap64 (z + p) = z + p := w64 (by omega) (by omega)
theorem w64_small {p : Int} (hp : 0 ≤ p ∧ p ≤ 81) : wrap64 p = p := w64 (by omega) (by omega)
theorem cell_new {z p M : Int} {j : Nat} (h : 0 ≤ z ∧ z ≤ M + 81 * (j : Int)) (hp : 0 ≤ p ∧ p ≤ 81) : 0 ≤ z + p ∧ z + p ≤ M + 81 * ((j + 1 : Nat) : Int) := by omega
/-- The carry: cells are turned into digits. -/
theorem rmul_carry {n s : Nat} {cells : List Int} (hn : n ≤ 1000000000) (hn0 : 0 < n) {M : Int} (hM0 : 0 ≤ M) (hM : M ≤ 1000000000000) (hc : Cells M cells) (hl : n + 1 ≤ cells.length) (hs : ten (cells.take n) = s) (hlt : (s : Int) < 10 ^ n) :
    ∀ (d i : Nat), i + d = n → ∀ (T : List Int) (c : Int) (k : Nat), d + n + 2 ≤ k → Code10 T → T.length = i → 0 ≤ c → c ≤ M → cnum T + 10 ^ i * c = ten (cells.take i) →
      Pq.debentureref01_Mul.l2 k (n : Int) cells (List.replicate d 0 ++ T) c (i : Int) = some (natB s)
  | 0, i, hi, T, c, k, hk, hT, hTl, hc0, hc1, hv => by
    obtain ⟨k, rfl⟩ : ∃ m, k = m + 1 := ⟨k - 1, by omega⟩
    obtain rfl : i = n := by omega
    simp only [Pq.debentureref01_Mul.l2]
    rw [if_neg (by omega)]
    rw [hs] at hv
    have h3 := cnum_lt hT
    have h4 : c = 0 := by
      rcases (by omega : c = 0 ∨ 1 ≤ c) with h | h
      · exact h
      · exfalso
        have := Int.mul_le_mul_of_nonneg_left h (Int.le_of_lt (p10 i))
        omega
    subst h4
    rw [Int.mul_zero, Int.add_zero] at hv
    rw [List.replicate_zero, List.nil_append, code_trim hT (by intro e; rw [e] at hTl; simp at hTl; omega) hv (by omega) _ (by omega)]
    rfl
  | d + 1, i, hi, T, c, k, hk, hT, hTl, hc0, hc1, hv => by
    obtain ⟨k, rfl⟩ : ∃ m, k = m + 1 := ⟨k - 1, by omega⟩
    simp only [Pq.debentureref01_Mul.l2]
    have e1 : wrap64 (wrap64 ((n : Int) - 1) - (i : Int)) = (d : Int) := by
      rw [w64 (x := (n : Int) - 1) (by omega) (by omega), w64 (by omega) (by omega)]
      omega
    rw [e1]
    clear e1
    rw [if_pos (by omega), if_pos (by omega), if_pos (by omega), if_pos (by omega), if_pos (by rw [List.length_append, List.length_replicate]; omega), Int.toNat_natCast, set_rep, rd_limb]
    have h3 := cells_limb hc hM0 i
    have h5 := ten_take_succ cells i
    generalize limb cells i = x at *
    rw [w64 (x := x + c) (by omega) (by omega), Int.tmod_eq_emod_of_nonneg (by omega), Int.tdiv_eq_ediv_of_nonneg (by omega), w64 (x := 48 + (x + c) % 10) (by omega) (by omega), w64 (x := (x + c) / 10) (by omega) (by omega), w64 (x := (i : Int) + 1) (by omega) (by omega)]
    rw [Int.emod_eq_of_lt (a := 48 + (x + c) % 10) (by omega) (by omega)]
    refine rmul_carry hn hn0 hM0 hM hc hl hs hlt d (i + 1) (by omega) _ _ k (by omega) (code_cons (by omega) (by omega) hT) (by simp [hTl]) (by omega) (by omega) ?_
    rw [cnum_cons, hTl, h5, Int.pow_succ]
    have e2 := Int.mul_ediv_add_emod (x + c) 10
    generalize (x + c) / 10 = q at *
    generalize (x + c) % 10 = r at *
    generalize (10 : Int) ^ i = p at *
    have e3 : r = x + c - 10 * q := by omega
    subst e3
    grind

theorem rmul_inner {a b : ByteArray} {n i : Nat} (hd1 : a.data.toList.all isDig = true) (hd2 : b.data.toList.all isDig = true) (ha : a.size ≤ 50000) (hb : b.size ≤ 50000) (hn : n = a.size + b.size) (hi : i < a.size) {M : Int} (hM0 : 0 ≤ M) (hM : M ≤ 300000000000) {need : Nat} {R : Option ByteArray} {V0 : Int}
    (H : ∀ (cells : List Int) (k : Nat), need ≤ k → Cells (M + 81 * (b.size : Int)) cells → cells.length = n + 1 → ten cells = V0 + 10 ^ i * (limb (dl a) i * ten (dl b)) → Pq.debentureref01_Mul.l0 k a b (n : Int) cells ((i + 1 : Nat) : Int) = R) :
    ∀ (d j : Nat), j + d = b.size → ∀ (cells : List Int) (k : Nat), need + d + 1 ≤ k → Cells (M + 81 * (j : Int)) cells → cells.length = n + 1 → ten cells = V0 + 10 ^ i * (limb (dl a) i * ten ((dl b).take j)) →
      Pq.debentureref01_Mul.l1 k a b (n : Int) cells (i : Int) (j : Int) = R
  | 0, j, hj, cells, k, hk, hc, hl, hv => by
    obtain ⟨k, rfl⟩ : ∃ m, k = m + 1 := ⟨k - 1, by omega⟩
    have HV := Lib.hid hv
    clear hv
    obtain rfl : j = b.size := by omega
    simp only [Pq.debentureref01_Mul.l1]
    rw [if_neg (by omega), w64 (by omega) (by omega), show ((i : Int) + 1) = ((i + 1 : Nat) : Int) by omega]
    have hv := HV.out
    rw [List.take_of_length_le (by rw [dl_length]; exact Nat.le_refl _)] at hv
    exact H cells k (by omega) hc hl hv
  | d + 1, j, hj, cells, k, hk, hc, hl, hv => by
    obtain ⟨k, rfl⟩ : ∃ m, k = m + 1 := ⟨k - 1, by omega⟩
    have HV := Lib.hid hv
    clear hv
    simp only [Pq.debentureref01_Mul.l1]
    have e1 : wrap64 ((i : Int) + (j : Int)) = ((i + j : Nat) : Int) := by rw [w64 (by omega) (by omega)]; omega
    rw [e1]
    clear e1
    rw [if_pos (by omega), if_pos (by omega), if_pos (by omega), at_f a (by omega) hd1 i (by omega), Option.bind_some, at_f b (by omega) hd2 j (by omega), Option.bind_some, rd_limb, Int.toNat_natCast]
    have h3 := dig_limb (dl_dig hd1) i
    have h4 := dig_limb (dl_dig hd2) j
    have h6 := cells_limb hc (by omega) (i + j)
    have hset := fun v => ten_set (l := cells) (j := i + j) (by omega) v
    generalize limb cells (i + j) = z at *
    have hxy := dig_mul h3 h4
    have ej : wrap64 ((j : Int) + 1) = ((j + 1 : Nat) : Int) := by rw [w64 (by omega) (by omega)]; omega
    rw [ej]
    clear ej
    rw [w64_small hxy, w64_cell h6 (by omega) hM hxy]
    have hnew := cell_new h6 hxy
    refine rmul_inner hd1 hd2 ha hb hn hi hM0 hM H d (j + 1) (by omega) _ k (by omega) (cells_set (cells_mono hc (by omega)) _ hnew.1 hnew.2) (by simp [hl]) ?_
    rw [hset, ten_take_succ, HV.out, Int.pow_add]
    grind
theorem rmul_outer {a b : ByteArray} {n s : Nat} (hd1 : a.data.toList.all isDig = true) (hd2 : b.data.toList.all isDig = true) (ha : a.size ≤ 50000) (hb : b.size ≤ 50000) (ha0 : 0 < a.size) (hn : n = a.size + b.size) (hs : (s : Int) = ten (dl a) * ten (dl b)) :
    ∀ (d i : Nat), i + d = a.size → ∀ (cells : List Int) (k : Nat), d * (b.size + 2) + 2 * n + 5 ≤ k → Cells (4050000 * (i : Int)) cells → cells.length = n + 1 → ten cells = ten ((dl a).take i) * ten (dl b) →
      Pq.debentureref01_Mul.l0 k a b (n : Int) cells (i : Int) = some (natB s)
  | 0, i, hi, cells, k, hk, hc, hl, hv => by
    obtain ⟨k, rfl⟩ : ∃ m, k = m + 1 := ⟨k - 1, by omega⟩
    have HV := Lib.hid hv
    clear hv
    have HS := Lib.hid hs
    clear hs
    simp only [Pq.debentureref01_Mul.l0]
    rw [if_neg (by omega), if_pos (by omega), if_pos (by omega), Int.toNat_natCast]
    have hs := HS.out
    have hv := HV.out
    rw [List.take_of_length_le (by rw [dl_length]; omega), ← hs] at hv
    have hA := ten_lt (dl_dig hd1)
    have hB := ten_lt (dl_dig hd2)
    rw [dl_length] at hA hB
    have hlt : (s : Int) < 10 ^ n := by
      rw [hs, hn, Int.pow_add]
      have h1 : ten (dl a) * ten (dl b) ≤ ten (dl a) * 10 ^ b.size := Int.mul_le_mul_of_nonneg_left (by omega) hA.1
      have h2 : ten (dl a) * 10 ^ b.size < 10 ^ a.size * 10 ^ b.size := Int.mul_lt_mul_of_pos_right hA.2 (p10 _)
      omega
    have htop : ten (cells.take n) = s := by
      have h1 := ten_take_succ cells n
      rw [List.take_of_length_le (by omega)] at h1
      have h2 := (cells_limb hc (by omega) n).1
      have h3 := ten_nonneg (l := cells.take n) (fun x hx => (hc x (List.mem_of_mem_take hx)).1)
      rcases (by omega : limb cells n = 0 ∨ 1 ≤ limb cells n) with h4 | h4
      · rw [h4, Int.mul_zero] at h1
        omega
      · exfalso
        have := Int.mul_le_mul_of_nonneg_left h4 (Int.le_of_lt (p10 n))
        omega
    have := rmul_carry (n := n) (s := s) (M := 4050000 * (i : Int)) (by omega) (by omega) (by omega) (by omega) hc (by omega) htop hlt n 0 (by omega) [] 0 k (by omega) code_nil rfl (by omega) (by omega) (by simp [cnum, ten])
    rw [List.append_nil] at this
    exact this
  | d + 1, i, hi, cells, k, hk, hc, hl, hv => by
    obtain ⟨k, rfl⟩ : ∃ m, k = m + 1 := ⟨k - 1, by omega⟩
    have HV := Lib.hid hv
    clear hv
    have HS := Lib.hid hs
    clear hs
    simp only [Pq.debentureref01_Mul.l0]
    rw [Nat.add_mul] at hk
    rw [if_pos (by omega)]
    refine rmul_inner (V0 := ten cells) (M := 4050000 * (i : Int)) (need := d * (b.size + 2) + 2 * n + 5) hd1 hd2 ha hb hn (by omega) (by omega) (by omega) ?_ b.size 0 (by omega) cells k (by omega) (cells_mono hc (by omega)) hl (by simp [ten])
    intro cells' k' hk' hc' hl' hv'
    have HV' := Lib.hid hv'
    clear hv'
    refine rmul_outer hd1 hd2 ha hb ha0 hn HS.out d (i + 1) (by omega) cells' k' hk' (cells_mono hc' (by omega)) hl' ?_
    rw [HV'.out, HV.out, ten_take_succ]
    grind
theorem rmul_f {a b : ByteArray} (ha : a.size ≤ 50000) (hb : b.size ≤ 50000) (k : Nat) (hk : a.size * (b.size + 2) + 2 * (a.size + b.size) + 60010 ≤ k) : Pq.debentureref01_Mul.f k a b = some (mulS a b) := by
  obtain ⟨k, rfl⟩ : ∃ m, k = m + 1 := ⟨k - 1, by omega⟩
  unfold Pq.debentureref01_Mul.f
  rw [rmay_f a (by omega) _ (by omega), Option.bind_some]
  by_cases h1 : mayB a = true
  · rw [if_pos h1, rmay_f b (by omega) _ (by omega), Option.bind_some]
    by_cases h2 : mayB b = true
    · rw [h2]
      simp only [Pq.debentureref01_Mul.j0]
      unfold mulS
      rw [if_pos (may2_eq h1 h2), if_neg (by decide)]
      have hn : wrap64 ((a.size : Int) + (b.size : Int)) = ((a.size + b.size : Nat) : Int) := by
        rw [w64 (by omega) (by omega)]
        omega
      have hn1 : wrap64 (((a.size + b.size : Nat) : Int) + 1) = ((a.size + b.size + 1 : Nat) : Int) := by
        rw [w64 (by omega) (by omega)]
        omega
      rw [hn, hn1, if_pos (by omega), if_pos (by omega), Int.toNat_natCast]
      have ta := ten_dl (may_all h1)
      have tb := ten_dl (may_all h2)
      exact rmul_outer (s := numB a * numB b) (may_all h1) (may_all h2) ha hb (may_pos h1) rfl (by rw [ta, tb, Int.natCast_mul]) a.size 0 (by omega) _ k (by omega) (cells_rep _) (by simp) (by rw [ten_replicate]; simp [ten])
    · rw [(Bool.not_eq_true _).mp h2]
      unfold mulS
      rw [if_neg (may2_no2 h2)]
      rfl
  · rw [if_neg h1]
    unfold mulS
    rw [if_neg (may2_no1 h1)]
    rfl
end Go.Proofs.YtmcpiejgneegjaaDoor

end

/-
What the first reference's quotient, common divisor, and numbers tell.
-/
section
set_option linter.unusedVariables false
namespace Go.Proofs.YtmcpiejgneegjaaDoor
open Go.RowKit Go.Proofs.YtmcpiejgneegjaaDoorW.PrintWords Go.Proofs.YtmcpiejgneegjaaDoorW.PrintLast Go.Proofs.YtmcpiejgneegjaaDoorW.PrintMore

/-- The text of ten digits, that one is cut from. -/
def tenB : ByteArray := ⟨#[48, 49, 50, 51, 52, 53, 54, 55, 56, 57]⟩
theorem ten_cut {d : Nat} (h : d < 10) : (tenB.extract d (d + 1)).data.toList = [UInt8.ofNat (48 + d)] := by
  rcases (by omega : d = 0 ∨ d = 1 ∨ d = 2 ∨ d = 3 ∨ d = 4 ∨ d = 5 ∨ d = 6 ∨ d = 7 ∨ d = 8 ∨ d = 9) with rfl | rfl | rfl | rfl | rfl | rfl | rfl | rfl | rfl | rfl <;> rfl
theorem ten_cut_size {d : Nat} (h : d < 10) : (tenB.extract d (d + 1)).size = 1 := by rw [size_len, ten_cut h]; rfl

/-! ### Of -/
theorem rof_loop : ∀ (n : Nat) (s : ByteArray) (k : Nat), n + 1 ≤ k → n ≤ 9223372036854775807 → s.size + n / 2 ≤ 5000000000000000000 → Pq.debentureref01_Of.l0 k (n : Int) s = some ⟨(Lib.decDigits n ++ s.data.toList).toArray⟩
  | n, s, k, hk, hn, hs => by
    obtain ⟨k, rfl⟩ : ∃ m, k = m + 1 := ⟨k - 1, by omega⟩
    simp only [Pq.debentureref01_Of.l0]
    by_cases h : n < 10
    · rw [if_neg (by omega), if_pos (by omega), w64 (x := (n : Int) + 1) (by omega) (by omega), if_pos (by omega), if_pos (by omega)]
      have e : ((n : Int) + 1).toNat = n + 1 := by omega
      rw [e, Int.toNat_natCast]
      have h1 := ten_cut_size h
      unfold tenB at h1
      rw [if_pos (by rw [h1]; omega)]
      congr 1
      apply bmk
      rw [Joins.data_append, dig_small h]
      have h2 := ten_cut h
      unfold tenB at h2
      rw [h2]
    · rw [if_pos (by omega), Int.tmod_eq_emod_of_nonneg (by omega), Int.tdiv_eq_ediv_of_nonneg (by omega)]
      have e1 : (n : Int) % 10 = ((n % 10 : Nat) : Int) := by omega
      have e2 : (n : Int) / 10 = ((n / 10 : Nat) : Int) := by omega
      rw [e1, e2]
      clear e1 e2
      obtain ⟨d, hd⟩ : ∃ d, n % 10 = d := ⟨_, rfl⟩
      have hd10 : d < 10 := by omega
      obtain ⟨q, hq⟩ : ∃ q, n / 10 = q := ⟨_, rfl⟩
      have hq1 : q + 1 ≤ n := by omega
      have hq2 : q < n := by omega
      have hq3 : q / 2 + 1 ≤ n / 2 := by omega
      rw [hd, hq]
      have HD := Lib.hid hd
      have HQ := Lib.hid hq
      clear hd hq
      rw [if_pos (by omega), w64 (x := (d : Int) + 1) (by omega) (by omega), if_pos (by omega), if_pos (by omega)]
      have e : ((d : Int) + 1).toNat = d + 1 := by omega
      rw [e, Int.toNat_natCast]
      have h1 := ten_cut_size hd10
      unfold tenB at h1
      rw [if_pos (by rw [h1]; omega), w64 (x := (q : Int)) (by omega) (by omega)]
      have hsz : (((⟨#[48, 49, 50, 51, 52, 53, 54, 55, 56, 57]⟩ : ByteArray).extract d (d + 1)) ++ s).size = s.size + 1 := by rw [ByteArray.size_append, h1]; omega
      rw [rof_loop q _ k (by omega) (by omega) (by rw [hsz]; omega)]
      congr 1
      rw [dig_big h, HD.out, HQ.out, Joins.data_append]
      have h2 := ten_cut hd10
      unfold tenB at h2
      rw [h2, List.append_assoc]
  termination_by n => n
  decreasing_by exact hq2
theorem rof_f (n : Int) (h1 : n ≤ 9223372036854775807) (k : Nat) (hk : n.toNat + 1 ≤ k) : Pq.debentureref01_Of.f k n = some (ofS n) := by
  unfold Pq.debentureref01_Of.f ofS
  by_cases h : n < 0
  · rw [if_pos h, if_pos h]
    rfl
  · rw [if_neg h, if_neg h]
    obtain ⟨m, rfl⟩ := Int.eq_ofNat_of_zero_le (show 0 ≤ n by omega)
    rw [Int.toNat_natCast] at hk ⊢
    have h0 : (⟨#[]⟩ : ByteArray).size = 0 := rfl
    rw [rof_loop m _ k hk (by omega) (by rw [h0]; omega)]
    unfold natB
    simp

/-! ### Div -/
theorem natB_size (n : Nat) : (natB n).size = (Lib.decDigits n).length := by rw [size_len, natB_list]
theorem dig_len_le {n k : Nat} (h : n < 10 ^ k) (hk : 1 ≤ k) : (Lib.decDigits n).length ≤ k := by
  by_cases h0 : n = 0
  · subst h0
    rw [dig_small (by omega)]
    simpa using hk
  · have h1 := num_pos (dig_all n) (dig_ne n) (dig_head h0)
    rw [num_dig] at h1
    have h2 : 10 ^ ((Lib.decDigits n).length - 1) < 10 ^ k := by omega
    have := (Nat.pow_lt_pow_iff_right (by omega : 1 < 10)).1 h2
    omega
theorem natB_le {n : Nat} {b : ByteArray} (hb : mayB b = true) (h : n ≤ numB b) : (natB n).size ≤ b.size := by
  rw [natB_size]
  have h1 := num_lt (may_all hb)
  rw [← size_len] at h1
  exact dig_len_le (by unfold numB at h; omega) (may_pos hb)
/-- A digit is pushed behind a natural, and needless zeros are cut. -/
theorem push_f {R : Nat} {c : UInt8} (hc : isDig c = true) (t : ByteArray) (ht : t.data.toList = [c]) (k : Nat) (hsz : (natB R).size ≤ 1000000000) (hk : (natB R).size + 2 ≤ k) : Pq.debentureref01_trim.f k (natB R ++ t) = some (natB (R * 10 + (c.toNat - 48))) := by
  have hl : (natB R ++ t).data.toList = Lib.decDigits R ++ [c] := by rw [Joins.data_append, natB_list, ht]
  have hs : (natB R ++ t).size = (natB R).size + 1 := by
    rw [size_len, hl, List.length_append, natB_size]
    rfl
  have h1 := trim_f (natB R ++ t) (by omega) k (by omega) (by rw [hl]; simp) (by rw [hl, List.all_append, dig_all]; simp [hc])
  rw [h1]
  unfold numB
  rw [hl, num_snoc, num_dig]
/-- What is so while the quotient's digits come. -/
theorem rdiv_inner {a b q : ByteArray} {i : Nat} {N : Nat} (hN : N ≤ 50000) (hb : mayB b = true) (hbs : b.size ≤ N) (hB : 0 < numB b) (hqs : q.size ≤ N) {R0 : Nat} (hR0 : R0 < 10 * numB b) {need : Nat} {X : Option (ByteArray × ByteArray × Bool)} (hi : i ≤ N)
    (H : ∀ (k : Nat), need ≤ k → Pq.debentureref01_Div.l0 k a b (q ++ tenB.extract (R0 / numB b) (R0 / numB b + 1)) (natB (R0 % numB b)) ((i + 1 : Nat) : Int) = X) :
    ∀ (e R d : Nat), R / numB b = e → R = R0 - d * numB b → d * numB b ≤ R0 → ∀ k, need + e + 1 ≤ k → 2 * N + 20 ≤ need → Pq.debentureref01_Div.l1 k a b q (natB R) (i : Int) (d : Int) = X
  | 0, R, d, he, hR, hd, k, hk, hneed => by
    obtain ⟨k, rfl⟩ : ∃ m, k = m + 1 := ⟨k - 1, by omega⟩
    have hlt : R < numB b := by
      rcases Nat.lt_or_ge R (numB b) with h | h
      · exact h
      · have := Nat.div_pos h hB
        omega
    have hsz := natB_le hb (Nat.le_of_lt hlt)
    simp only [Pq.debentureref01_Div.l1]
    rw [rcmp_f (N := N) (by omega) (by omega) hbs _ (by omega), Option.bind_some]
    have hc : cmpS (natB R) b = -1 := by
      unfold cmpS
      rw [if_pos (may2_eq (mayB_natB R) hb), numB_natB, cmpI_lt hlt]
    have hd10 : d < 10 := by
      have h1 : d * numB b < 10 * numB b := by omega
      exact Nat.lt_of_mul_lt_mul_right h1
    have hq : R0 / numB b = d := by
      have e1 : R0 = R + numB b * d := by rw [Nat.mul_comm (numB b) d]; omega
      rw [e1, Nat.add_mul_div_left _ _ hB, Nat.div_eq_of_lt hlt, Nat.zero_add]
    have hr : R0 % numB b = R := by
      have e1 : R0 = R + numB b * d := by rw [Nat.mul_comm (numB b) d]; omega
      rw [e1, Nat.add_mul_mod_self_left, Nat.mod_eq_of_lt hlt]
    rw [hq, hr] at H
    have h1 := ten_cut_size hd10
    rw [hc, if_neg (by decide), if_pos (by omega), w64 (x := (d : Int) + 1) (by omega) (by omega), if_pos (by omega), if_pos (by omega)]
    have e : ((d : Int) + 1).toNat = d + 1 := by omega
    rw [e, Int.toNat_natCast]
    have h1' := h1
    unfold tenB at h1'
    rw [if_pos (by rw [h1']; omega), w64 (x := (i : Int) + 1) (by omega) (by omega), show ((i : Int) + 1) = ((i + 1 : Nat) : Int) by omega]
    exact H k (by omega)
  | e + 1, R, d, he, hR, hd, k, hk, hneed => by
    obtain ⟨k, rfl⟩ : ∃ m, k = m + 1 := ⟨k - 1, by omega⟩
    have hge : numB b ≤ R := by
      rcases Nat.lt_or_ge R (numB b) with h | h
      · rw [Nat.div_eq_of_lt h] at he
        omega
      · exact h
    have hsz : (natB R).size ≤ N + 1 := by
      rw [natB_size]
      have h1 := num_lt (may_all hb)
      rw [← size_len] at h1
      have h2 : (10 : Nat) ^ b.size ≤ 10 ^ N := Nat.pow_le_pow_right (by omega) hbs
      apply dig_len_le _ (by omega)
      rw [Nat.pow_succ]
      unfold numB at hR0
      omega
    simp only [Pq.debentureref01_Div.l1]
    rw [rcmp_f (N := N + 1) (by omega) hsz (by omega) _ (by omega), Option.bind_some]
    have hc : ¬ cmpS (natB R) b < 0 := by
      unfold cmpS
      rw [if_pos (may2_eq (mayB_natB R) hb), numB_natB, cmpI_neg]
      omega
    have hs : subS (natB R) b = (natB (R - numB b), true) := by
      unfold subS
      rw [numB_natB, if_pos (by rw [may2_eq (mayB_natB R) hb, decide_eq_true hge]; rfl)]
    rw [if_pos (by omega), rsub_f (N := N + 1) (by omega) hsz (by omega) _ (by omega), Option.bind_some, hs]
    have hd10 : d < 10 := by
      have h1 : d * numB b < 10 * numB b := by omega
      exact Nat.lt_of_mul_lt_mul_right h1
    rw [w64 (x := (d : Int) + 1) (by omega) (by omega), show ((d : Int) + 1) = ((d + 1 : Nat) : Int) by omega]
    have e1 : (d + 1) * numB b = d * numB b + numB b := by rw [Nat.add_mul, Nat.one_mul]
    refine rdiv_inner hN hb hbs hB hqs hR0 hi H e (R - numB b) (d + 1) ?_ (by omega) (by omega) k (by omega) hneed
    have e2 : R = (R - numB b) + numB b := by omega
    rw [e2, Nat.add_div_right _ hB] at he
    omega

theorem rdiv_loop {a b : ByteArray} {N : Nat} (hN : N ≤ 50000) (ha : mayB a = true) (hb : mayB b = true) (has : a.size ≤ N) (hbs : b.size ≤ N) (hB : 0 < numB b) :
    ∀ (e i : Nat), i + e = a.size → ∀ (q : ByteArray) (R k : Nat), e * 20 + 2 * N + 30 ≤ k → q.size = i → q.data.toList.all isDig = true → R < numB b → num q.data.toList * numB b + R = num (a.data.toList.take i) →
      Pq.debentureref01_Div.l0 k a b q (natB R) (i : Int) = some (natB (numB a / numB b), natB (numB a % numB b), true)
  | 0, i, hi, q, R, k, hk, hq, hqd, hR, hv => by
    obtain ⟨k, rfl⟩ : ∃ m, k = m + 1 := ⟨k - 1, by omega⟩
    simp only [Pq.debentureref01_Div.l0]
    have hpos := may_pos ha
    rw [if_neg (by omega), trim_f q (by omega) k (by omega) (by intro h; have := congrArg List.length h; rw [← size_len, List.length_nil] at this; omega) hqd, Option.bind_some]
    rw [List.take_of_length_le (by rw [← size_len]; omega)] at hv
    have e1 : numB a = R + numB b * numB q := by unfold numB at hv ⊢; rw [← hv, Nat.mul_comm (num b.data.toList)]; omega
    rw [e1, Nat.add_mul_div_left _ _ hB, Nat.div_eq_of_lt hR, Nat.zero_add, Nat.add_mul_mod_self_left, Nat.mod_eq_of_lt hR]
  | e + 1, i, hi, q, R, k, hk, hq, hqd, hR, hv => by
    obtain ⟨k, rfl⟩ : ∃ m, k = m + 1 := ⟨k - 1, by omega⟩
    obtain ⟨c, hc, _⟩ := bt_get a i (by omega)
    have hcd := List.all_eq_true.1 (may_all ha) c (List.mem_of_getElem? hc)
    have hcb := isDig_bounds hcd
    have hil : i < a.data.toList.length := by rw [← size_len]; omega
    have hcc : a.data.toList[i] = c := by
      rw [List.getElem?_eq_getElem hil] at hc
      exact Option.some.inj hc
    have hx : (a.extract i (i + 1)).data.toList = [c] := by
      rw [Lib.extract_data, List.drop_eq_getElem_cons hil, hcc, Nat.add_sub_cancel_left]
      rfl
    have hxs : (a.extract i (i + 1)).size = 1 := by rw [size_len, hx]; rfl
    have hsz := natB_le hb (Nat.le_of_lt hR)
    simp only [Pq.debentureref01_Div.l0]
    rw [if_pos (by omega), if_pos (by omega), w64 (x := (i : Int) + 1) (by omega) (by omega), if_pos (by omega), if_pos (by omega)]
    have e0 : ((i : Int) + 1).toNat = i + 1 := by omega
    rw [e0, Int.toNat_natCast, if_pos (by rw [hxs]; omega), push_f hcd _ hx k (by omega) (by omega), Option.bind_some]
    have hR0 : R * 10 + (c.toNat - 48) < 10 * numB b := by omega
    have hdm := Nat.div_add_mod (R * 10 + (c.toNat - 48)) (numB b)
    have hml := Nat.mod_lt (R * 10 + (c.toNat - 48)) hB
    have hd10 : (R * 10 + (c.toNat - 48)) / numB b < 10 := Nat.div_lt_of_lt_mul (by rw [Nat.mul_comm (numB b)]; exact hR0)
    have hnum : num (a.data.toList.take (i + 1)) = num (a.data.toList.take i) * 10 + (c.toNat - 48) := by
      rw [List.take_succ_eq_append_getElem hil, hcc, num_snoc]
    obtain ⟨R0, hR0e⟩ : ∃ z, R * 10 + (c.toNat - 48) = z := ⟨_, rfl⟩
    rw [hR0e] at hR0 hdm hml hd10 ⊢
    have hcut := ten_cut hd10
    have hcuts := ten_cut_size hd10
    have hdig : isDig (UInt8.ofNat (48 + R0 / numB b)) = true := isDig_ofNat hd10
    have hdn := ofNat_dig hd10
    refine rdiv_inner (N := N) (need := e * 20 + 2 * N + 30) hN hb hbs hB (by omega) hR0 (by omega) ?_ (R0 / numB b) R0 0 rfl (by omega) (by omega) k (by omega) (by omega)
    intro k' hk'
    refine rdiv_loop hN ha hb has hbs hB e (i + 1) (by omega) _ _ k' hk' ?_ ?_ hml ?_
    · rw [ByteArray.size_append, hcuts, hq]
    · rw [Joins.data_append, hcut, List.all_append, hqd, List.all_cons, hdig]
      rfl
    · rw [Joins.data_append, hcut, num_snoc, hnum, ← hv, hdn]
      rw [Nat.add_sub_cancel_left]
      generalize R0 / numB b = d at *
      generalize R0 % numB b = r at *
      generalize num q.data.toList = Q at *
      generalize numB b = B at *
      have e3 : (Q * 10 + d) * B = Q * B * 10 + B * d := by grind
      omega
theorem list48 {b : ByteArray} (hb : mayB b = true) : (b.data.toList = [48] ↔ numB b = 0) := by
  constructor
  · intro h
    unfold numB
    rw [h]
    rfl
  · intro h
    have : b = natB 0 := numB_inj hb (mayB_natB 0) (by rw [h, numB_natB])
    rw [this, natB_list, dig_small (by omega)]
    rfl
theorem rdiv_f {a b : ByteArray} {N : Nat} (hN : N ≤ 50000) (ha : a.size ≤ N) (hb : b.size ≤ N) (k : Nat) (hk : 22 * N + 40 ≤ k) : Pq.debentureref01_Div.f k a b = some (divS a b) := by
  obtain ⟨k, rfl⟩ : ∃ m, k = m + 1 := ⟨k - 1, by omega⟩
  unfold Pq.debentureref01_Div.f
  rw [rmay_f a (by omega) _ (by omega), Option.bind_some]
  by_cases h1 : mayB a = true
  · rw [if_pos h1, rmay_f b (by omega) _ (by omega), Option.bind_some]
    by_cases h2 : mayB b = true
    · rw [if_pos h2]
      simp only [Pq.debentureref01_Div.j0]
      unfold divS
      rw [may2_eq h1 h2, ByteArray.toList_eq]
      by_cases hc : numB b = 0
      · rw [if_pos (by rw [beq_iff_eq, list48 h2]; exact hc), if_neg (by rw [hc]; decide)]
        rfl
      · rw [if_neg (by rw [beq_iff_eq, list48 h2]; exact hc), if_pos (by rw [decide_eq_true hc]; rfl)]
        have e0 : (⟨#[48]⟩ : ByteArray) = natB 0 := by
          apply bext
          rw [natB_list, dig_small (by omega)]
          rfl
        rw [e0]
        exact rdiv_loop hN h1 h2 ha hb (by omega) a.size 0 (by omega) _ 0 k (by omega) rfl rfl (by omega) (by simp [num])
    · rw [if_neg h2]
      unfold divS
      rw [(Bool.not_eq_true _).mp (may2_no2 (a := a) h2)]
      rfl
  · rw [if_neg h1]
    unfold divS
    rw [(Bool.not_eq_true _).mp (may2_no1 (b := b) h1)]
    rfl

/-! ### Gcd -/
theorem rgcd_loop {N : Nat} (hN : N ≤ 50000) : ∀ (n m k : Nat), (natB m).size ≤ N → (natB n).size ≤ N → n + 22 * N + 60 ≤ k → Pq.debentureref01_Gcd.l0 k (natB m) (natB n) = some (natB (Nat.gcd m n))
  | n, m, k, hm, hn, hk => by
    obtain ⟨k, rfl⟩ : ∃ j, k = j + 1 := ⟨k - 1, by omega⟩
    simp only [Pq.debentureref01_Gcd.l0]
    rw [ByteArray.toList_eq]
    have hz := list48 (mayB_natB n)
    rw [numB_natB] at hz
    by_cases h : n = 0
    · rw [if_pos (hz.2 h), h, Nat.gcd_zero_right]
    · rw [if_neg (fun e => h (hz.1 e)), rdiv_f hN hm hn k (by omega), Option.bind_some]
      have hd : divS (natB m) (natB n) = (natB (m / n), natB (m % n), true) := by
        unfold divS
        rw [numB_natB, numB_natB, if_pos (by rw [may2_eq (mayB_natB m) (mayB_natB n), decide_eq_true h]; rfl)]
      rw [hd]
      have h2 := Nat.mod_lt m (show 0 < n by omega)
      have h3 := natB_le (mayB_natB n) (n := m % n) (by rw [numB_natB]; omega)
      have := rgcd_loop hN (m % n) n k hn (by omega) (by omega)
      rw [this, Nat.gcd_comm m n, Nat.gcd_rec n m, Nat.gcd_comm]
  termination_by n => n
  decreasing_by exact Nat.mod_lt m (by omega)
theorem rgcd_f {a b : ByteArray} {N : Nat} (hN : N ≤ 50000) (ha : a.size ≤ N) (hb : b.size ≤ N) (k : Nat) (hk : numB b + 22 * N + 70 ≤ k) : Pq.debentureref01_Gcd.f k a b = some (gcdS a b) := by
  obtain ⟨k, rfl⟩ : ∃ m, k = m + 1 := ⟨k - 1, by omega⟩
  unfold Pq.debentureref01_Gcd.f
  rw [rmay_f a (by omega) _ (by omega), Option.bind_some]
  by_cases h1 : mayB a = true
  · rw [if_pos h1, rmay_f b (by omega) _ (by omega), Option.bind_some]
    by_cases h2 : mayB b = true
    · rw [h2]
      simp only [Pq.debentureref01_Gcd.j0]
      unfold gcdS
      rw [if_pos (may2_eq h1 h2), if_neg (by decide)]
      have := rgcd_loop hN (numB b) (numB a) k (by rw [natB_numB h1]; exact ha) (by rw [natB_numB h2]; exact hb) (by omega)
      rw [natB_numB h1, natB_numB h2] at this
      exact this
    · rw [(Bool.not_eq_true _).mp h2]
      unfold gcdS
      rw [if_neg (may2_no2 h2)]
      rfl
  · rw [if_neg h1]
    unfold gcdS
    rw [if_neg (may2_no1 h1)]
    rfl

/-! ### Short -/
def shortT (s : ByteArray) : Bool := decide (s.size ≤ 200)
theorem rshort_loop (l : List ByteArray) (hl : l.length ≤ 4611686018427387904) : ∀ (d i : Nat), i + d = l.length → ∀ k, d + 1 ≤ k → Pq.debentureref01_Short.l0 k l (i : Int) = some ((l.drop i).all shortT)
  | 0, i, hi, k, hk => by
    obtain ⟨k, rfl⟩ : ∃ m, k = m + 1 := ⟨k - 1, by omega⟩
    simp only [Pq.debentureref01_Short.l0]
    rw [if_neg (by omega), List.drop_of_length_le (by omega)]
    rfl
  | d + 1, i, hi, k, hk => by
    obtain ⟨k, rfl⟩ : ∃ m, k = m + 1 := ⟨k - 1, by omega⟩
    simp only [Pq.debentureref01_Short.l0]
    have hil : i < l.length := by omega
    have e : rdOf ByteArray.empty l (i : Int) = l[i] := by
      unfold rdOf
      rw [Int.toNat_natCast, List.getD_eq_getElem?_getD, List.getElem?_eq_getElem hil]
      rfl
    rw [if_pos (by omega), if_pos (by omega), e, List.drop_eq_getElem_cons hil, List.all_cons, w64 (by omega) (by omega)]
    by_cases h : l[i].size ≤ 200
    · have h2 : shortT l[i] = true := decide_eq_true h
      rw [if_neg (by omega), h2, Bool.true_and, show ((i : Int) + 1) = ((i + 1 : Nat) : Int) by omega, rshort_loop l hl d (i + 1) (by omega) k (by omega)]
    · have h2 : shortT l[i] = false := decide_eq_false h
      rw [if_pos (by omega), h2, Bool.false_and]
theorem rshort_f (l : List ByteArray) (hl : l.length ≤ 4611686018427387904) (k : Nat) (hk : l.length + 1 ≤ k) : Pq.debentureref01_Short.f k l = some (l.all shortT) := by
  unfold Pq.debentureref01_Short.f
  have := rshort_loop l hl l.length 0 (by omega) k hk
  rw [List.drop_zero] at this
  exact this
end Go.Proofs.YtmcpiejgneegjaaDoor

end

/-
nat's own exported functions by contract: what they answer is told by numbers alone, without rounds.
-/
section
set_option linter.unusedVariables false
namespace Go.Proofs.YtmcpiejgneegjaaDoor
open Go.RowKit Go.Proofs.YtmcpiejgneegjaaDoorW.PrintWords Go.Proofs.YtmcpiejgneegjaaDoorW.PrintLast Go.Proofs.YtmcpiejgneegjaaDoorW.PrintMore

theorem and2 {a b : ByteArray} (h : sm2 a b = true) : sm a = true ∧ sm b = true := by
  unfold sm2 at h
  rwa [Bool.and_eq_true] at h
def nat_Cmp.f (a0 a1 : ByteArray) : Option Int := if sm2 a0 a1 = true then some (cmpS a0 a1) else none
theorem nat_Cmp.calls (a0 a1 : ByteArray) (r : Int) (w : World) (h : nat_Cmp.f a0 a1 = some r) :
    Calls Tryd.prog 22 #[.string a0, .string a1] w fun e w' => e = .returned (.int .i64 r) ∧ Below w.heap.size w w' := by
  unfold nat_Cmp.f at h
  split at h
  · rename_i hp
    rw [← cmp_f (and2 hp).1 (and2 hp).2 0] at h
    exact Pr.nat_Cmp.calls _ a0 a1 r w h
  · cases h
def nat_Of.f (a0 : Int) : Option ByteArray := if -9223372036854775808 ≤ a0 ∧ a0 ≤ 9223372036854775807 then some (ofS a0) else none
theorem nat_Of.calls (a0 : Int) (r : ByteArray) (w : World) (hL_ : Laid w) (h : nat_Of.f a0 = some r) :
    Calls Tryd.prog 20 #[.int .i64 a0] w fun e w' => e = .returned (.string r) ∧ Below w.heap.size w w' := by
  unfold nat_Of.f at h
  split at h
  · rename_i hp
    rw [← of_f a0 hp.1 hp.2] at h
    exact Pr.nat_Of.calls a0 r w hL_ h
  · cases h
def nat_Add.f (a0 a1 : ByteArray) : Option ByteArray := if sm2 a0 a1 = true then some (addS a0 a1) else none
theorem nat_Add.calls (a0 a1 : ByteArray) (r : ByteArray) (w : World) (hL_ : Laid w) (h : nat_Add.f a0 a1 = some r) :
    Calls Tryd.prog 24 #[.string a0, .string a1] w fun e w' => e = .returned (.string r) ∧ Below w.heap.size w w' := by
  unfold nat_Add.f at h
  split at h
  · rename_i hp
    rw [← add_f (and2 hp).1 (and2 hp).2 0] at h
    exact Pr.nat_Add.calls _ a0 a1 r w hL_ h
  · cases h
def nat_Sub.f (a0 a1 : ByteArray) : Option (ByteArray × Bool) := if sm2 a0 a1 = true then some (subS a0 a1) else none
theorem nat_Sub.calls (a0 a1 : ByteArray) (r1 : ByteArray) (r2 : Bool) (w : World) (hL_ : Laid w) (h : nat_Sub.f a0 a1 = some (r1, r2)) :
    Calls Tryd.prog 12 #[.string a0, .string a1] w fun e w' => e = .returned (.tuple #[.string r1, .bool r2]) ∧ Below w.heap.size w w' := by
  unfold nat_Sub.f at h
  split at h
  · rename_i hp
    rw [← sub_f (and2 hp).1 (and2 hp).2 0] at h
    exact Pr.nat_Sub.calls _ a0 a1 r1 r2 w hL_ h
  · cases h
def nat_Mul.f (a0 a1 : ByteArray) : Option ByteArray := if sm2 a0 a1 = true then some (mulS a0 a1) else none
theorem nat_Mul.calls (a0 a1 : ByteArray) (r : ByteArray) (w : World) (hL_ : Laid w) (h : nat_Mul.f a0 a1 = some r) :
    Calls Tryd.prog 26 #[.string a0, .string a1] w fun e w' => e = .returned (.string r) ∧ Below w.heap.size w w' := by
  unfold nat_Mul.f at h
  split at h
  · rename_i hp
    rw [← mul_f (and2 hp).1 (and2 hp).2 0] at h
    exact Pr.nat_Mul.calls _ a0 a1 r w hL_ h
  · cases h
def nat_Div.f (a0 a1 : ByteArray) : Option (ByteArray × ByteArray × Bool) := if sm2 a0 a1 = true then some (divS a0 a1) else none
theorem nat_Div.calls (a0 a1 : ByteArray) (r1 r2 : ByteArray) (r3 : Bool) (w : World) (hL_ : Laid w) (h : nat_Div.f a0 a1 = some (r1, r2, r3)) :
    Calls Tryd.prog 14 #[.string a0, .string a1] w fun e w' => e = .returned (.tuple #[.string r1, .string r2, .bool r3]) ∧ Below w.heap.size w w' := by
  unfold nat_Div.f at h
  split at h
  · rename_i hp
    rw [← div_f (and2 hp).1 (and2 hp).2 0] at h
    exact Pr.nat_Div.calls _ a0 a1 r1 r2 r3 w hL_ h
  · cases h
def nat_Gcd.f (a0 a1 : ByteArray) : Option ByteArray := if sm2 a0 a1 = true then some (gcdS a0 a1) else none
theorem nat_Gcd.calls (a0 a1 : ByteArray) (r : ByteArray) (w : World) (hL_ : Laid w) (h : nat_Gcd.f a0 a1 = some r) :
    Calls Tryd.prog 28 #[.string a0, .string a1] w fun e w' => e = .returned (.string r) ∧ Below w.heap.size w w' := by
  unfold nat_Gcd.f at h
  split at h
  · rename_i hp
    rw [← gcd_f (and2 hp).1 (and2 hp).2 _ (Nat.le_refl _)] at h
    exact Pr.nat_Gcd.calls _ a0 a1 r w hL_ h
  · cases h
end Go.Proofs.YtmcpiejgneegjaaDoor

end

/-
nat.Small: the number that a text tells, if it fits.
-/
section
set_option linter.unusedVariables false
namespace Go.Proofs.YtmcpiejgneegjaaDoor
open Go.RowKit Go.Shelf Go.Proofs.YtmcpiejgneegjaaDoorW.PrintWords Go.Proofs.YtmcpiejgneegjaaDoorW.PrintLast Go.Proofs.YtmcpiejgneegjaaDoorW.PrintMore

def most63 : Nat := 9223372036854775807
def smallS (s : ByteArray) : Int × Bool := if (mayB s && decide (numB s ≤ most63)) = true then ((numB s : Int), true) else (0, false)

theorem atoi_may {s : ByteArray} (hm : mayB s = true) : (numB s ≤ most63 → Lib.atoiAll s.data.toList = .ok (numB s : Int)) ∧ (¬ numB s ≤ most63 → Lib.atoiAll s.data.toList = .range) := by
  have h := atoi_digits (mayL_ne hm) (mayL_all hm)
  unfold numB most63
  constructor
  · intro hn
    rw [h, if_pos (by omega)]
  · intro hn
    rw [h, if_neg (by omega)]
theorem bytesW_below (w : World) (t : ByteArray) : Below w.heap.size w (Lib.bytesWorld w 5 t) := bytes_below (Below.refl _ _) (Nat.le_refl _) _ _

set_option maxHeartbeats 1000000 in
theorem small_no (s : ByteArray) (hs : sm s = true) (hm : mayB s = false) (w : World) :
    Calls Tryd.prog 16 #[.string s] w fun e w' => e = .returned (.tuple #[.int .i64 0, .bool false]) ∧ Below w.heap.size w w' := by
  have hf : nat_May.f s = some false := by rw [may_f hs, hm]
  have H := Lib.hid hf
  clear hf hs hm
  go_enter Tryd.func16, Tryd.ntmps16
  go_wp2_with (go_at_call 18; refine (nat_May.calls s false _ H.out).mono ?_; rintro e w1 ⟨rfl, hb⟩)
  go_ret2
  exact ⟨rfl, hb⟩

set_option maxHeartbeats 1000000 in
theorem small_ok (s : ByteArray) (hs : sm s = true) (hm : mayB s = true) (hn : numB s ≤ most63) (w : World) :
    Calls Tryd.prog 16 #[.string s] w fun e w' => e = .returned (.tuple #[.int .i64 (numB s : Int), .bool true]) ∧ Below w.heap.size w w' := by
  have hf : nat_May.f s = some true := by rw [may_f hs, hm]
  have hsz : s.size ≤ 9223372036854775806 := Nat.le_trans (sm_le hs) (by omega)
  have HS := Lib.hid hsz
  have H := Lib.hid hf
  have HA := Lib.hid ((atoi_may hm).1 hn)
  clear hf hs hm hn hsz
  go_enter Tryd.func16, Tryd.ntmps16
  go_wp2_with (first | (go_at_call 18; refine (nat_May.calls s true _ H.out).mono ?_; rintro e w1 ⟨rfl, hb⟩) | (go_at_call 37; refine (Tryd.strconv_Atoi_ok s HS.out _ HA.out _).mono ?_; rintro e w2 ⟨rfl, hb2⟩))
  go_ret2
  refine ⟨rfl, hb.trans ?_⟩
  rcases hb2 with rfl | ⟨t, rfl⟩
  · exact Below.refl _ _
  · exact (bytesW_below _ t).mono hb.size

set_option maxHeartbeats 1000000 in
theorem small_big (s : ByteArray) (hs : sm s = true) (hm : mayB s = true) (hn : ¬ numB s ≤ most63) (w : World) (hL : Laid w) :
    Calls Tryd.prog 16 #[.string s] w fun e w' => e = .returned (.tuple #[.int .i64 0, .bool false]) ∧ Below w.heap.size w w' := by
  have hf : nat_May.f s = some true := by rw [may_f hs, hm]
  have hsz : s.size ≤ 281474976710656 := Nat.le_trans (sm_le hs) (by omega)
  have HS := Lib.hid hsz
  have H := Lib.hid hf
  have HA := Lib.hid ((atoi_may hm).2 hn)
  have HL := Lib.hid hL
  clear hf hs hm hn hL hsz
  go_enter Tryd.func16, Tryd.ntmps16
  go_wp2_with (go_at_call 18; refine (nat_May.calls s true _ H.out).mono ?_; rintro e w1 ⟨rfl, hb⟩)
  have hL1 := HL.out.below hb
  obtain ⟨tp, p, hv⟩ := hL1.rng
  have HV := Lib.hid hv
  clear hL1 hv
  go_wp2_with (go_at_call 37; refine (Tryd.strconv_Atoi_range_var s HS.out HA.out tp p _ HV.out).mono ?_; rintro e w2 ⟨q, rfl, hq, hc, hb2⟩)
  all_goals (go_ret2; exact ⟨rfl, hb.trans (hb2.mono hb.size)⟩)

def nat_Small.f (a0 : ByteArray) : Option (Int × Bool) := if sm a0 = true then some (smallS a0) else none
theorem nat_Small.calls (a0 : ByteArray) (r1 : Int) (r2 : Bool) (w : World) (hL_ : Laid w) (h : nat_Small.f a0 = some (r1, r2)) :
    Calls Tryd.prog 16 #[.string a0] w fun e w' => e = .returned (.tuple #[.int .i64 r1, .bool r2]) ∧ Below w.heap.size w w' := by
  unfold nat_Small.f smallS at h
  split at h
  · rename_i hs
    split at h
    · rename_i hp
      rw [Bool.and_eq_true, decide_eq_true_eq] at hp
      cases h
      exact small_ok a0 hs hp.1 hp.2 w
    · rename_i hp
      cases h
      rw [Bool.and_eq_true, decide_eq_true_eq] at hp
      by_cases hm : mayB a0 = true
      · exact small_big a0 hs hm (fun hn => hp ⟨hm, hn⟩) w hL_
      · exact small_no a0 hs ((Bool.not_eq_true _).mp hm) w
  · cases h
end Go.Proofs.YtmcpiejgneegjaaDoor

end

/-
The first reference's exported functions by contract: they answer what nat's own do.
-/
section
set_option linter.unusedVariables false
namespace Go.Proofs.YtmcpiejgneegjaaDoor
open Go.RowKit Go.Proofs.YtmcpiejgneegjaaDoorW.PrintWords Go.Proofs.YtmcpiejgneegjaaDoorW.PrintLast Go.Proofs.YtmcpiejgneegjaaDoorW.PrintMore

/-! ### Small -/
def most63B : ByteArray := ⟨#[57, 50, 50, 51, 51, 55, 50, 48, 51, 54, 56, 53, 52, 55, 55, 53, 56, 48, 55]⟩
theorem most63B_may : mayB most63B = true := by decide
theorem most63B_num : numB most63B = most63 := by decide
theorem num_take_le {l : List UInt8} (h : l.all isDig = true) (i : Nat) : num (l.take i) ≤ num l := by
  have e := num_append (l.take i) (l.drop i)
  rw [List.take_append_drop] at e
  have h1 : 1 ≤ 10 ^ (l.drop i).length := Nat.one_le_pow _ _ (by omega)
  have h2 := Nat.le_mul_of_pos_right (num (l.take i)) h1
  omega
theorem rsmall_loop {s : ByteArray} (hd : s.data.toList.all isDig = true) (hs : s.size ≤ 1000000000) (hn : numB s ≤ 9223372036854775807) : ∀ (d i : Nat), i + d = s.size → ∀ k, d + 1 ≤ k → Pq.debentureref01_Small.l0 k s (num (s.data.toList.take i) : Int) (i : Int) = some ((numB s : Int), true)
  | 0, i, hi, k, hk => by
    obtain ⟨k, rfl⟩ : ∃ m, k = m + 1 := ⟨k - 1, by omega⟩
    simp only [Pq.debentureref01_Small.l0]
    rw [if_neg (by omega), List.take_of_length_le (by rw [← size_len]; omega)]
    rfl
  | d + 1, i, hi, k, hk => by
    obtain ⟨k, rfl⟩ : ∃ m, k = m + 1 := ⟨k - 1, by omega⟩
    simp only [Pq.debentureref01_Small.l0]
    obtain ⟨c, hc, hb⟩ := bt_get s i (by omega)
    have hcb := isDig_bounds (List.all_eq_true.1 hd c (List.mem_of_getElem? hc))
    have hil : i < s.data.toList.length := by rw [← size_len]; omega
    have hcc : s.data.toList[i] = c := by
      rw [List.getElem?_eq_getElem hil] at hc
      exact Option.some.inj hc
    have h1 := num_take_le hd (i + 1)
    have h2 : num (s.data.toList.take (i + 1)) = num (s.data.toList.take i) * 10 + (c.toNat - 48) := by
      rw [List.take_succ_eq_append_getElem hil, hcc, num_snoc]
    have h3 : num s.data.toList ≤ 9223372036854775807 := hn
    rw [if_pos (by omega), if_pos (by omega), hb]
    have e1 : ((c.toNat : Int) - 48) % 256 = (c.toNat : Int) - 48 := Int.emod_eq_of_lt (by omega) (by omega)
    rw [e1, w64 (x := 10 * (num (s.data.toList.take i) : Int)) (by omega) (by omega), w64 (x := 10 * (num (s.data.toList.take i) : Int) + ((c.toNat : Int) - 48)) (by omega) (by omega), w64 (x := (i : Int) + 1) (by omega) (by omega)]
    have e2 : 10 * (num (s.data.toList.take i) : Int) + ((c.toNat : Int) - 48) = ((num (s.data.toList.take (i + 1)) : Nat) : Int) := by omega
    rw [e2, show ((i : Int) + 1) = ((i + 1 : Nat) : Int) by omega]
    exact rsmall_loop hd hs hn d (i + 1) (by omega) k (by omega)
theorem cmpI_pos (m n : Nat) : Lib.compareInt (m : Int) (n : Int) > 0 ↔ ¬ m ≤ n := by
  unfold Lib.compareInt
  split
  · constructor
    · intro h; exact absurd h (by decide)
    · intro h; omega
  · split
    · constructor
      · intro _; omega
      · intro _; decide
    · constructor
      · intro h; exact absurd h (by decide)
      · intro h; omega
theorem rsmall_f {a : ByteArray} (ha : a.size ≤ 50000) (k : Nat) (hk : 50010 ≤ k) : Pq.debentureref01_Small.f k a = some (smallS a) := by
  obtain ⟨k, rfl⟩ : ∃ m, k = m + 1 := ⟨k - 1, by omega⟩
  unfold Pq.debentureref01_Small.f
  rw [rmay_f a (by omega) _ (by omega), Option.bind_some]
  by_cases h1 : mayB a = true
  · have hmb : most63B.size ≤ 50000 := Nat.le_trans (show most63B.size ≤ 19 from Nat.le_refl 19) (by omega)
    have hc := rcmp_f (N := 50000) (by omega) ha hmb (k + 1) (by omega)
    unfold most63B at hc
    rw [if_pos h1, hc, Option.bind_some]
    simp only [Pq.debentureref01_Small.j0]
    have hcs : cmpS a ⟨#[57, 50, 50, 51, 51, 55, 50, 48, 51, 54, 56, 53, 52, 55, 55, 53, 56, 48, 55]⟩ = Lib.compareInt (numB a : Int) (most63 : Int) := by
      have h2 := most63B_may
      have h3 := most63B_num
      unfold most63B at h2 h3
      unfold cmpS
      rw [if_pos (may2_eq h1 h2), h3]
    rw [hcs]
    unfold smallS
    rw [h1, Bool.true_and]
    by_cases h : numB a ≤ most63
    · rw [if_neg (by rw [decide_eq_true_eq, cmpI_pos]; omega), if_pos (decide_eq_true h)]
      exact rsmall_loop (may_all h1) (by omega) (by unfold most63 at h; exact h) a.size 0 (by omega) k (by omega)
    · rw [if_pos (by rw [decide_eq_true_eq, cmpI_pos]; exact h), if_neg (by rw [decide_eq_true_eq]; exact h)]
  · rw [if_neg h1]
    unfold smallS
    rw [(Bool.not_eq_true _).mp h1]
    rfl

theorem drawn_below {w w' : World} (h : Drawn0 w w') : Below w.heap.size w w' := by
  obtain ⟨n, rfl⟩ := h
  exact pw_below_drewN (Below.refl _ _) n

/-! ### The contracts -/
def debentureref01_May.f (a0 : ByteArray) : Option Bool := if sm a0 = true then some (mayB a0) else none
theorem debentureref01_May.calls (a0 : ByteArray) (r : Bool) (w : World) (h : debentureref01_May.f a0 = some r) :
    Calls Tryd.prog 19 #[.string a0] w fun e w' => e = .returned (.bool r) ∧ Below w.heap.size w w' := by
  unfold debentureref01_May.f at h
  split at h
  · rename_i hp
    have hs := sm_le hp
    rw [← rmay_f a0 (by omega) _ (Nat.le_refl _)] at h
    exact (Pq.debentureref01_May.calls _ a0 r w h).mono fun e w' ⟨he, hw⟩ => ⟨he, drawn_below hw⟩
  · cases h
def debentureref01_Of.f (a0 : Int) : Option ByteArray := if -9223372036854775808 ≤ a0 ∧ a0 ≤ 9223372036854775807 then some (ofS a0) else none
theorem debentureref01_Of.calls (a0 : Int) (r : ByteArray) (w : World) (h : debentureref01_Of.f a0 = some r) :
    Calls Tryd.prog 21 #[.int .i64 a0] w fun e w' => e = .returned (.string r) ∧ Below w.heap.size w w' := by
  unfold debentureref01_Of.f at h
  split at h
  · rename_i hp
    rw [← rof_f a0 hp.2 _ (Nat.le_refl _)] at h
    exact (Pq.debentureref01_Of.calls _ a0 r w h).mono fun e w' ⟨he, hw⟩ => ⟨he, drawn_below hw⟩
  · cases h
def debentureref01_Cmp.f (a0 a1 : ByteArray) : Option Int := if sm2 a0 a1 = true then some (cmpS a0 a1) else none
theorem debentureref01_Cmp.calls (a0 a1 : ByteArray) (r : Int) (w : World) (h : debentureref01_Cmp.f a0 a1 = some r) :
    Calls Tryd.prog 23 #[.string a0, .string a1] w fun e w' => e = .returned (.int .i64 r) ∧ Below w.heap.size w w' := by
  unfold debentureref01_Cmp.f at h
  split at h
  · rename_i hp
    rw [← rcmp_f (N := 50000) (by omega) (sm_le (and2 hp).1) (sm_le (and2 hp).2) _ (Nat.le_refl _)] at h
    exact (Pq.debentureref01_Cmp.calls _ a0 a1 r w h).mono fun e w' ⟨he, hw⟩ => ⟨he, drawn_below hw⟩
  · cases h
def debentureref01_Small.f (a0 : ByteArray) : Option (Int × Bool) := if sm a0 = true then some (smallS a0) else none
theorem debentureref01_Small.calls (a0 : ByteArray) (r1 : Int) (r2 : Bool) (w : World) (h : debentureref01_Small.f a0 = some (r1, r2)) :
    Calls Tryd.prog 17 #[.string a0] w fun e w' => e = .returned (.tuple #[.int .i64 r1, .bool r2]) ∧ Below w.heap.size w w' := by
  unfold debentureref01_Small.f at h
  split at h
  · rename_i hp
    rw [← rsmall_f (sm_le hp) _ (Nat.le_refl _)] at h
    exact (Pq.debentureref01_Small.calls _ a0 r1 r2 w h).mono fun e w' ⟨he, hw⟩ => ⟨he, drawn_below hw⟩
  · cases h
def debentureref01_Add.f (a0 a1 : ByteArray) : Option ByteArray := if sm2 a0 a1 = true then some (addS a0 a1) else none
theorem debentureref01_Add.calls (a0 a1 : ByteArray) (r : ByteArray) (w : World) (h : debentureref01_Add.f a0 a1 = some r) :
    Calls Tryd.prog 25 #[.string a0, .string a1] w fun e w' => e = .returned (.string r) ∧ Below w.heap.size w w' := by
  unfold debentureref01_Add.f at h
  split at h
  · rename_i hp
    rw [← radd_f (N := 50000) (by omega) (sm_le (and2 hp).1) (sm_le (and2 hp).2) _ (Nat.le_refl _)] at h
    exact Pq.debentureref01_Add.calls _ a0 a1 r w h
  · cases h
def debentureref01_Sub.f (a0 a1 : ByteArray) : Option (ByteArray × Bool) := if sm2 a0 a1 = true then some (subS a0 a1) else none
theorem debentureref01_Sub.calls (a0 a1 : ByteArray) (r1 : ByteArray) (r2 : Bool) (w : World) (h : debentureref01_Sub.f a0 a1 = some (r1, r2)) :
    Calls Tryd.prog 13 #[.string a0, .string a1] w fun e w' => e = .returned (.tuple #[.string r1, .bool r2]) ∧ Below w.heap.size w w' := by
  unfold debentureref01_Sub.f at h
  split at h
  · rename_i hp
    rw [← rsub_f (N := 50000) (by omega) (sm_le (and2 hp).1) (sm_le (and2 hp).2) _ (Nat.le_refl _)] at h
    exact Pq.debentureref01_Sub.calls _ a0 a1 r1 r2 w h
  · cases h
def debentureref01_Mul.f (a0 a1 : ByteArray) : Option ByteArray := if sm2 a0 a1 = true then some (mulS a0 a1) else none
theorem debentureref01_Mul.calls (a0 a1 : ByteArray) (r : ByteArray) (w : World) (h : debentureref01_Mul.f a0 a1 = some r) :
    Calls Tryd.prog 27 #[.string a0, .string a1] w fun e w' => e = .returned (.string r) ∧ Below w.heap.size w w' := by
  unfold debentureref01_Mul.f at h
  split at h
  · rename_i hp
    rw [← rmul_f (sm_le (and2 hp).1) (sm_le (and2 hp).2) _ (Nat.le_refl _)] at h
    exact Pq.debentureref01_Mul.calls _ a0 a1 r w h
  · cases h
def debentureref01_Div.f (a0 a1 : ByteArray) : Option (ByteArray × ByteArray × Bool) := if sm2 a0 a1 = true then some (divS a0 a1) else none
theorem debentureref01_Div.calls (a0 a1 : ByteArray) (r1 r2 : ByteArray) (r3 : Bool) (w : World) (h : debentureref01_Div.f a0 a1 = some (r1, r2, r3)) :
    Calls Tryd.prog 15 #[.string a0, .string a1] w fun e w' => e = .returned (.tuple #[.string r1, .string r2, .bool r3]) ∧ Below w.heap.size w w' := by
  unfold debentureref01_Div.f at h
  split at h
  · rename_i hp
    rw [← rdiv_f (N := 50000) (by omega) (sm_le (and2 hp).1) (sm_le (and2 hp).2) _ (Nat.le_refl _)] at h
    exact Pq.debentureref01_Div.calls _ a0 a1 r1 r2 r3 w h
  · cases h
def debentureref01_Gcd.f (a0 a1 : ByteArray) : Option ByteArray := if sm2 a0 a1 = true then some (gcdS a0 a1) else none
theorem debentureref01_Gcd.calls (a0 a1 : ByteArray) (r : ByteArray) (w : World) (h : debentureref01_Gcd.f a0 a1 = some r) :
    Calls Tryd.prog 29 #[.string a0, .string a1] w fun e w' => e = .returned (.string r) ∧ Below w.heap.size w w' := by
  unfold debentureref01_Gcd.f at h
  split at h
  · rename_i hp
    rw [← rgcd_f (N := 50000) (by omega) (sm_le (and2 hp).1) (sm_le (and2 hp).2) _ (Nat.le_refl _)] at h
    exact Pq.debentureref01_Gcd.calls _ a0 a1 r w h
  · cases h
def debentureref01_Short.f (l0 : List ByteArray) : Option Bool := if l0.length ≤ 50000 then some (l0.all shortT) else none
theorem debentureref01_Short.calls (A0 : Option Addr) (c0 : Nat) (l0 : List ByteArray) (r : Bool) (w : World) (hr0 : Kd.C Kd.string w A0 l0.length l0) (hc0 : l0.length ≤ c0) (h : debentureref01_Short.f l0 = some r) :
    Calls Tryd.prog 10 #[.slice A0 l0.length c0] w fun e w' => e = .returned (.bool r) ∧ Below w.heap.size w w' := by
  unfold debentureref01_Short.f at h
  split at h
  · rename_i hp
    rw [← rshort_f l0 (by omega) _ (Nat.le_refl _)] at h
    exact (Pq.debentureref01_Short.calls _ A0 c0 l0 r w hr0 hc0 h).mono fun e w' ⟨he, hw⟩ => ⟨he, drawn_below hw⟩
  · cases h
end Go.Proofs.YtmcpiejgneegjaaDoor

end

-- Written by wip/pp.py of this place (over the kit's print) out of the translation.
section
namespace Go.Proofs.YtmcpiejgneegjaaDoor.Pf
open Go.RowKit Go.Proofs.YtmcpiejgneegjaaDoorW.PrintWords Go.Proofs.YtmcpiejgneegjaaDoorW.PrintLast Go.Proofs.YtmcpiejgneegjaaDoorW.PrintMore
attribute [local go_sem] max2_int min2_int max_two min_two max_three min_three max_four min_four   -- for this text's walks alone
set_option linter.unusedVariables false
set_option linter.unusedSimpArgs false



def errW : Option Int → Value
  | none => .nilIface
  | some c => .iface 0 (.int .i64 c)
theorem errW_none : errW none = .nilIface := rfl
theorem errW_some (c : Int) : errW (some c) = .iface 0 (.int .i64 c) := rfl

-- the values' own types

end Go.Proofs.YtmcpiejgneegjaaDoor.Pf

end

-- Written by wip/pp.py of this place (over the kit's print) out of the translation.
section
namespace Go.Proofs.YtmcpiejgneegjaaDoor.Pf
open Go.RowKit Go.Proofs.YtmcpiejgneegjaaDoorW.PrintWords Go.Proofs.YtmcpiejgneegjaaDoorW.PrintLast Go.Proofs.YtmcpiejgneegjaaDoorW.PrintMore
attribute [local go_sem] max2_int min2_int max_two min_two max_three min_three max_four min_four   -- for this text's walks alone
set_option linter.unusedVariables false
set_option linter.unusedSimpArgs false

-- walked by hand: function 12 (nat_Sub)

-- walked by hand: function 14 (nat_Div)

-- walked by hand: function 16 (nat_Small)

-- walked by hand: function 18 (nat_May)

-- walked by hand: function 20 (nat_Of)

-- walked by hand: function 22 (nat_Cmp)

-- walked by hand: function 24 (nat_Add)

-- walked by hand: function 26 (nat_Mul)

-- walked by hand: function 28 (nat_Gcd)

/-! ### debenturelaw01_fixed: function 11 -/
def debenturelaw01_fixed.f  : Option (Bool) := (nat_Div.f (⟨#[49, 48, 48, 48, 48, 48, 48, 48, 48, 48, 48, 48, 48, 48, 48, 48, 48, 48, 48, 48, 48, 48]⟩ : ByteArray) (⟨#[55]⟩ : ByteArray)).bind fun bt101 => ((nat_Div.f (⟨#[55]⟩ : ByteArray) (⟨#[48]⟩ : ByteArray)).bind fun bt104 => ((nat_Sub.f (⟨#[49, 48, 48, 48, 48]⟩ : ByteArray) (⟨#[49]⟩ : ByteArray)).bind fun bt107 => ((nat_Sub.f (⟨#[49]⟩ : ByteArray) (⟨#[50]⟩ : ByteArray)).bind fun bt109 => ((nat_Small.f (⟨#[57, 50, 50, 51, 51, 55, 50, 48, 51, 54, 56, 53, 52, 55, 55, 53, 56, 48, 55]⟩ : ByteArray)).bind fun bt111 => ((nat_Small.f (⟨#[57, 50, 50, 51, 51, 55, 50, 48, 51, 54, 56, 53, 52, 55, 55, 53, 56, 48, 56]⟩ : ByteArray)).bind fun bt113 => (if bt101.1.toList = ([49, 52, 50, 56, 53, 55, 49, 52, 50, 56, 53, 55, 49, 52, 50, 56, 53, 55, 49, 52, 50] : List UInt8) then (if bt101.2.1.toList = ([54] : List UInt8) then (if bt101.2.2 = true then (if bt104.2.2 = true then (some false) else (if bt107.1.toList = ([57, 57, 57, 57] : List UInt8) then (if bt107.2 = true then (if bt109.2 = true then (some false) else (if bt111.1 = 9223372036854775807 then (if bt111.2 = true then (if bt113.2 = true then (some false) else ((nat_Add.f (⟨#[57, 57, 57, 57]⟩ : ByteArray) (⟨#[49]⟩ : ByteArray)).bind fun t115 => (if t115.toList = ([49, 48, 48, 48, 48] : List UInt8) then ((nat_Mul.f (⟨#[57, 57, 57, 57, 57]⟩ : ByteArray) (⟨#[57, 57, 57, 57, 57]⟩ : ByteArray)).bind fun t116 => (if t116.toList = ([57, 57, 57, 57, 56, 48, 48, 48, 48, 49] : List UInt8) then ((nat_Gcd.f (⟨#[49, 50]⟩ : ByteArray) (⟨#[49, 56]⟩ : ByteArray)).bind fun t117 => (if t117.toList = ([54] : List UInt8) then ((nat_Gcd.f (⟨#[48]⟩ : ByteArray) (⟨#[53]⟩ : ByteArray)).bind fun t118 => (if t118.toList = ([53] : List UInt8) then ((nat_Cmp.f (⟨#[57]⟩ : ByteArray) (⟨#[49, 48]⟩ : ByteArray)).bind fun t119 => (if t119 = (-1) then ((nat_May.f (⟨#[48]⟩ : ByteArray)).bind fun t120 => (if t120 = true then ((nat_May.f (⟨#[48, 49]⟩ : ByteArray)).bind fun t121 => (if t121 = true then (some false) else ((nat_Of.f 7).bind fun t122 => (if t122.toList = ([55] : List UInt8) then ((nat_Add.f (⟨#[]⟩ : ByteArray) (⟨#[49]⟩ : ByteArray)).bind fun t123 => (some (t123.toList == ([] : List UInt8)))) else (some false))))) else (some false))) else (some false))) else (some false))) else (some false))) else (some false))) else (some false)))) else (some false)) else (some false))) else (some false)) else (some false))) else (some false)) else (some false)) else (some false)))))))
set_option maxHeartbeats 8000000 in
set_option maxRecDepth 100000 in
theorem debenturelaw01_fixed.calls  (r : Bool) (w : World) (hL_ : Laid w) (hr_ : Aside0 (r = true)) (h : debenturelaw01_fixed.f  = some r) :
    Calls Tryd.prog 11 #[] w fun e w' => e = .returned (.bool r) ∧ Below w.heap.size w w' := by
  have HLD := Aside0.mk hL_
  clear hL_
  have HB := Aside0.mk (Below.refl w.heap.size w)
  have H : ((nat_Div.f (⟨#[49, 48, 48, 48, 48, 48, 48, 48, 48, 48, 48, 48, 48, 48, 48, 48, 48, 48, 48, 48, 48, 48]⟩ : ByteArray) (⟨#[55]⟩ : ByteArray)).bind fun bt101 => ((nat_Div.f (⟨#[55]⟩ : ByteArray) (⟨#[48]⟩ : ByteArray)).bind fun bt104 => ((nat_Sub.f (⟨#[49, 48, 48, 48, 48]⟩ : ByteArray) (⟨#[49]⟩ : ByteArray)).bind fun bt107 => ((nat_Sub.f (⟨#[49]⟩ : ByteArray) (⟨#[50]⟩ : ByteArray)).bind fun bt109 => ((nat_Small.f (⟨#[57, 50, 50, 51, 51, 55, 50, 48, 51, 54, 56, 53, 52, 55, 55, 53, 56, 48, 55]⟩ : ByteArray)).bind fun bt111 => ((nat_Small.f (⟨#[57, 50, 50, 51, 51, 55, 50, 48, 51, 54, 56, 53, 52, 55, 55, 53, 56, 48, 56]⟩ : ByteArray)).bind fun bt113 => (if bt101.1.toList = ([49, 52, 50, 56, 53, 55, 49, 52, 50, 56, 53, 55, 49, 52, 50, 56, 53, 55, 49, 52, 50] : List UInt8) then (if bt101.2.1.toList = ([54] : List UInt8) then (if bt101.2.2 = true then (if bt104.2.2 = true then (some false) else (if bt107.1.toList = ([57, 57, 57, 57] : List UInt8) then (if bt107.2 = true then (if bt109.2 = true then (some false) else (if bt111.1 = 9223372036854775807 then (if bt111.2 = true then (if bt113.2 = true then (some false) else ((nat_Add.f (⟨#[57, 57, 57, 57]⟩ : ByteArray) (⟨#[49]⟩ : ByteArray)).bind fun t115 => (if t115.toList = ([49, 48, 48, 48, 48] : List UInt8) then ((nat_Mul.f (⟨#[57, 57, 57, 57, 57]⟩ : ByteArray) (⟨#[57, 57, 57, 57, 57]⟩ : ByteArray)).bind fun t116 => (if t116.toList = ([57, 57, 57, 57, 56, 48, 48, 48, 48, 49] : List UInt8) then ((nat_Gcd.f (⟨#[49, 50]⟩ : ByteArray) (⟨#[49, 56]⟩ : ByteArray)).bind fun t117 => (if t117.toList = ([54] : List UInt8) then ((nat_Gcd.f (⟨#[48]⟩ : ByteArray) (⟨#[53]⟩ : ByteArray)).bind fun t118 => (if t118.toList = ([53] : List UInt8) then ((nat_Cmp.f (⟨#[57]⟩ : ByteArray) (⟨#[49, 48]⟩ : ByteArray)).bind fun t119 => (if t119 = (-1) then ((nat_May.f (⟨#[48]⟩ : ByteArray)).bind fun t120 => (if t120 = true then ((nat_May.f (⟨#[48, 49]⟩ : ByteArray)).bind fun t121 => (if t121 = true then (some false) else ((nat_Of.f 7).bind fun t122 => (if t122.toList = ([55] : List UInt8) then ((nat_Add.f (⟨#[]⟩ : ByteArray) (⟨#[49]⟩ : ByteArray)).bind fun t123 => (some (t123.toList == ([] : List UInt8)))) else (some false))))) else (some false))) else (some false))) else (some false))) else (some false))) else (some false))) else (some false)))) else (some false)) else (some false))) else (some false)) else (some false))) else (some false)) else (some false)) else (some false)))))))) = some r := h
  clear h
  replace H := Option.bind_eq_some_iff.mp H
  obtain ⟨⟨t101, t102, t103⟩, A10, H⟩ := H
  replace H : ((nat_Div.f (⟨#[55]⟩ : ByteArray) (⟨#[48]⟩ : ByteArray)).bind fun bt104 => ((nat_Sub.f (⟨#[49, 48, 48, 48, 48]⟩ : ByteArray) (⟨#[49]⟩ : ByteArray)).bind fun bt107 => ((nat_Sub.f (⟨#[49]⟩ : ByteArray) (⟨#[50]⟩ : ByteArray)).bind fun bt109 => ((nat_Small.f (⟨#[57, 50, 50, 51, 51, 55, 50, 48, 51, 54, 56, 53, 52, 55, 55, 53, 56, 48, 55]⟩ : ByteArray)).bind fun bt111 => ((nat_Small.f (⟨#[57, 50, 50, 51, 51, 55, 50, 48, 51, 54, 56, 53, 52, 55, 55, 53, 56, 48, 56]⟩ : ByteArray)).bind fun bt113 => (if t101.toList = ([49, 52, 50, 56, 53, 55, 49, 52, 50, 56, 53, 55, 49, 52, 50, 56, 53, 55, 49, 52, 50] : List UInt8) then (if t102.toList = ([54] : List UInt8) then (if t103 = true then (if bt104.2.2 = true then (some false) else (if bt107.1.toList = ([57, 57, 57, 57] : List UInt8) then (if bt107.2 = true then (if bt109.2 = true then (some false) else (if bt111.1 = 9223372036854775807 then (if bt111.2 = true then (if bt113.2 = true then (some false) else ((nat_Add.f (⟨#[57, 57, 57, 57]⟩ : ByteArray) (⟨#[49]⟩ : ByteArray)).bind fun t115 => (if t115.toList = ([49, 48, 48, 48, 48] : List UInt8) then ((nat_Mul.f (⟨#[57, 57, 57, 57, 57]⟩ : ByteArray) (⟨#[57, 57, 57, 57, 57]⟩ : ByteArray)).bind fun t116 => (if t116.toList = ([57, 57, 57, 57, 56, 48, 48, 48, 48, 49] : List UInt8) then ((nat_Gcd.f (⟨#[49, 50]⟩ : ByteArray) (⟨#[49, 56]⟩ : ByteArray)).bind fun t117 => (if t117.toList = ([54] : List UInt8) then ((nat_Gcd.f (⟨#[48]⟩ : ByteArray) (⟨#[53]⟩ : ByteArray)).bind fun t118 => (if t118.toList = ([53] : List UInt8) then ((nat_Cmp.f (⟨#[57]⟩ : ByteArray) (⟨#[49, 48]⟩ : ByteArray)).bind fun t119 => (if t119 = (-1) then ((nat_May.f (⟨#[48]⟩ : ByteArray)).bind fun t120 => (if t120 = true then ((nat_May.f (⟨#[48, 49]⟩ : ByteArray)).bind fun t121 => (if t121 = true then (some false) else ((nat_Of.f 7).bind fun t122 => (if t122.toList = ([55] : List UInt8) then ((nat_Add.f (⟨#[]⟩ : ByteArray) (⟨#[49]⟩ : ByteArray)).bind fun t123 => (some (t123.toList == ([] : List UInt8)))) else (some false))))) else (some false))) else (some false))) else (some false))) else (some false))) else (some false))) else (some false)))) else (some false)) else (some false))) else (some false)) else (some false))) else (some false)) else (some false)) else (some false))))))) = some r := H
  have A1 := Aside0.mk A10
  clear A10
  replace H := Option.bind_eq_some_iff.mp H
  obtain ⟨⟨t104, t105, t106⟩, A20, H⟩ := H
  replace H : ((nat_Sub.f (⟨#[49, 48, 48, 48, 48]⟩ : ByteArray) (⟨#[49]⟩ : ByteArray)).bind fun bt107 => ((nat_Sub.f (⟨#[49]⟩ : ByteArray) (⟨#[50]⟩ : ByteArray)).bind fun bt109 => ((nat_Small.f (⟨#[57, 50, 50, 51, 51, 55, 50, 48, 51, 54, 56, 53, 52, 55, 55, 53, 56, 48, 55]⟩ : ByteArray)).bind fun bt111 => ((nat_Small.f (⟨#[57, 50, 50, 51, 51, 55, 50, 48, 51, 54, 56, 53, 52, 55, 55, 53, 56, 48, 56]⟩ : ByteArray)).bind fun bt113 => (if t101.toList = ([49, 52, 50, 56, 53, 55, 49, 52, 50, 56, 53, 55, 49, 52, 50, 56, 53, 55, 49, 52, 50] : List UInt8) then (if t102.toList = ([54] : List UInt8) then (if t103 = true then (if t106 = true then (some false) else (if bt107.1.toList = ([57, 57, 57, 57] : List UInt8) then (if bt107.2 = true then (if bt109.2 = true then (some false) else (if bt111.1 = 9223372036854775807 then (if bt111.2 = true then (if bt113.2 = true then (some false) else ((nat_Add.f (⟨#[57, 57, 57, 57]⟩ : ByteArray) (⟨#[49]⟩ : ByteArray)).bind fun t115 => (if t115.toList = ([49, 48, 48, 48, 48] : List UInt8) then ((nat_Mul.f (⟨#[57, 57, 57, 57, 57]⟩ : ByteArray) (⟨#[57, 57, 57, 57, 57]⟩ : ByteArray)).bind fun t116 => (if t116.toList = ([57, 57, 57, 57, 56, 48, 48, 48, 48, 49] : List UInt8) then ((nat_Gcd.f (⟨#[49, 50]⟩ : ByteArray) (⟨#[49, 56]⟩ : ByteArray)).bind fun t117 => (if t117.toList = ([54] : List UInt8) then ((nat_Gcd.f (⟨#[48]⟩ : ByteArray) (⟨#[53]⟩ : ByteArray)).bind fun t118 => (if t118.toList = ([53] : List UInt8) then ((nat_Cmp.f (⟨#[57]⟩ : ByteArray) (⟨#[49, 48]⟩ : ByteArray)).bind fun t119 => (if t119 = (-1) then ((nat_May.f (⟨#[48]⟩ : ByteArray)).bind fun t120 => (if t120 = true then ((nat_May.f (⟨#[48, 49]⟩ : ByteArray)).bind fun t121 => (if t121 = true then (some false) else ((nat_Of.f 7).bind fun t122 => (if t122.toList = ([55] : List UInt8) then ((nat_Add.f (⟨#[]⟩ : ByteArray) (⟨#[49]⟩ : ByteArray)).bind fun t123 => (some (t123.toList == ([] : List UInt8)))) else (some false))))) else (some false))) else (some false))) else (some false))) else (some false))) else (some false))) else (some false)))) else (some false)) else (some false))) else (some false)) else (some false))) else (some false)) else (some false)) else (some false)))))) = some r := H
  have A2 := Aside0.mk A20
  clear A20
  replace H := Option.bind_eq_some_iff.mp H
  obtain ⟨⟨t107, t108⟩, A30, H⟩ := H
  replace H : ((nat_Sub.f (⟨#[49]⟩ : ByteArray) (⟨#[50]⟩ : ByteArray)).bind fun bt109 => ((nat_Small.f (⟨#[57, 50, 50, 51, 51, 55, 50, 48, 51, 54, 56, 53, 52, 55, 55, 53, 56, 48, 55]⟩ : ByteArray)).bind fun bt111 => ((nat_Small.f (⟨#[57, 50, 50, 51, 51, 55, 50, 48, 51, 54, 56, 53, 52, 55, 55, 53, 56, 48, 56]⟩ : ByteArray)).bind fun bt113 => (if t101.toList = ([49, 52, 50, 56, 53, 55, 49, 52, 50, 56, 53, 55, 49, 52, 50, 56, 53, 55, 49, 52, 50] : List UInt8) then (if t102.toList = ([54] : List UInt8) then (if t103 = true then (if t106 = true then (some false) else (if t107.toList = ([57, 57, 57, 57] : List UInt8) then (if t108 = true then (if bt109.2 = true then (some false) else (if bt111.1 = 9223372036854775807 then (if bt111.2 = true then (if bt113.2 = true then (some false) else ((nat_Add.f (⟨#[57, 57, 57, 57]⟩ : ByteArray) (⟨#[49]⟩ : ByteArray)).bind fun t115 => (if t115.toList = ([49, 48, 48, 48, 48] : List UInt8) then ((nat_Mul.f (⟨#[57, 57, 57, 57, 57]⟩ : ByteArray) (⟨#[57, 57, 57, 57, 57]⟩ : ByteArray)).bind fun t116 => (if t116.toList = ([57, 57, 57, 57, 56, 48, 48, 48, 48, 49] : List UInt8) then ((nat_Gcd.f (⟨#[49, 50]⟩ : ByteArray) (⟨#[49, 56]⟩ : ByteArray)).bind fun t117 => (if t117.toList = ([54] : List UInt8) then ((nat_Gcd.f (⟨#[48]⟩ : ByteArray) (⟨#[53]⟩ : ByteArray)).bind fun t118 => (if t118.toList = ([53] : List UInt8) then ((nat_Cmp.f (⟨#[57]⟩ : ByteArray) (⟨#[49, 48]⟩ : ByteArray)).bind fun t119 => (if t119 = (-1) then ((nat_May.f (⟨#[48]⟩ : ByteArray)).bind fun t120 => (if t120 = true then ((nat_May.f (⟨#[48, 49]⟩ : ByteArray)).bind fun t121 => (if t121 = true then (some false) else ((nat_Of.f 7).bind fun t122 => (if t122.toList = ([55] : List UInt8) then ((nat_Add.f (⟨#[]⟩ : ByteArray) (⟨#[49]⟩ : ByteArray)).bind fun t123 => (some (t123.toList == ([] : List UInt8)))) else (some false))))) else (some false))) else (some false))) else (some false))) else (some false))) else (some false))) else (some false)))) else (some false)) else (some false))) else (some false)) else (some false))) else (some false)) else (some false)) else (some false))))) = some r := H
  have A3 := Aside0.mk A30
  clear A30
  replace H := Option.bind_eq_some_iff.mp H
  obtain ⟨⟨t109, t110⟩, A40, H⟩ := H
  replace H : ((nat_Small.f (⟨#[57, 50, 50, 51, 51, 55, 50, 48, 51, 54, 56, 53, 52, 55, 55, 53, 56, 48, 55]⟩ : ByteArray)).bind fun bt111 => ((nat_Small.f (⟨#[57, 50, 50, 51, 51, 55, 50, 48, 51, 54, 56, 53, 52, 55, 55, 53, 56, 48, 56]⟩ : ByteArray)).bind fun bt113 => (if t101.toList = ([49, 52, 50, 56, 53, 55, 49, 52, 50, 56, 53, 55, 49, 52, 50, 56, 53, 55, 49, 52, 50] : List UInt8) then (if t102.toList = ([54] : List UInt8) then (if t103 = true then (if t106 = true then (some false) else (if t107.toList = ([57, 57, 57, 57] : List UInt8) then (if t108 = true then (if t110 = true then (some false) else (if bt111.1 = 9223372036854775807 then (if bt111.2 = true then (if bt113.2 = true then (some false) else ((nat_Add.f (⟨#[57, 57, 57, 57]⟩ : ByteArray) (⟨#[49]⟩ : ByteArray)).bind fun t115 => (if t115.toList = ([49, 48, 48, 48, 48] : List UInt8) then ((nat_Mul.f (⟨#[57, 57, 57, 57, 57]⟩ : ByteArray) (⟨#[57, 57, 57, 57, 57]⟩ : ByteArray)).bind fun t116 => (if t116.toList = ([57, 57, 57, 57, 56, 48, 48, 48, 48, 49] : List UInt8) then ((nat_Gcd.f (⟨#[49, 50]⟩ : ByteArray) (⟨#[49, 56]⟩ : ByteArray)).bind fun t117 => (if t117.toList = ([54] : List UInt8) then ((nat_Gcd.f (⟨#[48]⟩ : ByteArray) (⟨#[53]⟩ : ByteArray)).bind fun t118 => (if t118.toList = ([53] : List UInt8) then ((nat_Cmp.f (⟨#[57]⟩ : ByteArray) (⟨#[49, 48]⟩ : ByteArray)).bind fun t119 => (if t119 = (-1) then ((nat_May.f (⟨#[48]⟩ : ByteArray)).bind fun t120 => (if t120 = true then ((nat_May.f (⟨#[48, 49]⟩ : ByteArray)).bind fun t121 => (if t121 = true then (some false) else ((nat_Of.f 7).bind fun t122 => (if t122.toList = ([55] : List UInt8) then ((nat_Add.f (⟨#[]⟩ : ByteArray) (⟨#[49]⟩ : ByteArray)).bind fun t123 => (some (t123.toList == ([] : List UInt8)))) else (some false))))) else (some false))) else (some false))) else (some false))) else (some false))) else (some false))) else (some false)))) else (some false)) else (some false))) else (some false)) else (some false))) else (some false)) else (some false)) else (some false)))) = some r := H
  have A4 := Aside0.mk A40
  clear A40
  replace H := Option.bind_eq_some_iff.mp H
  obtain ⟨⟨t111, t112⟩, A50, H⟩ := H
  replace H : ((nat_Small.f (⟨#[57, 50, 50, 51, 51, 55, 50, 48, 51, 54, 56, 53, 52, 55, 55, 53, 56, 48, 56]⟩ : ByteArray)).bind fun bt113 => (if t101.toList = ([49, 52, 50, 56, 53, 55, 49, 52, 50, 56, 53, 55, 49, 52, 50, 56, 53, 55, 49, 52, 50] : List UInt8) then (if t102.toList = ([54] : List UInt8) then (if t103 = true then (if t106 = true then (some false) else (if t107.toList = ([57, 57, 57, 57] : List UInt8) then (if t108 = true then (if t110 = true then (some false) else (if t111 = 9223372036854775807 then (if t112 = true then (if bt113.2 = true then (some false) else ((nat_Add.f (⟨#[57, 57, 57, 57]⟩ : ByteArray) (⟨#[49]⟩ : ByteArray)).bind fun t115 => (if t115.toList = ([49, 48, 48, 48, 48] : List UInt8) then ((nat_Mul.f (⟨#[57, 57, 57, 57, 57]⟩ : ByteArray) (⟨#[57, 57, 57, 57, 57]⟩ : ByteArray)).bind fun t116 => (if t116.toList = ([57, 57, 57, 57, 56, 48, 48, 48, 48, 49] : List UInt8) then ((nat_Gcd.f (⟨#[49, 50]⟩ : ByteArray) (⟨#[49, 56]⟩ : ByteArray)).bind fun t117 => (if t117.toList = ([54] : List UInt8) then ((nat_Gcd.f (⟨#[48]⟩ : ByteArray) (⟨#[53]⟩ : ByteArray)).bind fun t118 => (if t118.toList = ([53] : List UInt8) then ((nat_Cmp.f (⟨#[57]⟩ : ByteArray) (⟨#[49, 48]⟩ : ByteArray)).bind fun t119 => (if t119 = (-1) then ((nat_May.f (⟨#[48]⟩ : ByteArray)).bind fun t120 => (if t120 = true then ((nat_May.f (⟨#[48, 49]⟩ : ByteArray)).bind fun t121 => (if t121 = true then (some false) else ((nat_Of.f 7).bind fun t122 => (if t122.toList = ([55] : List UInt8) then ((nat_Add.f (⟨#[]⟩ : ByteArray) (⟨#[49]⟩ : ByteArray)).bind fun t123 => (some (t123.toList == ([] : List UInt8)))) else (some false))))) else (some false))) else (some false))) else (some false))) else (some false))) else (some false))) else (some false)))) else (some false)) else (some false))) else (some false)) else (some false))) else (some false)) else (some false)) else (some false))) = some r := H
  have A5 := Aside0.mk A50
  clear A50
  replace H := Option.bind_eq_some_iff.mp H
  obtain ⟨⟨t113, t114⟩, A60, H⟩ := H
  replace H : (if t101.toList = ([49, 52, 50, 56, 53, 55, 49, 52, 50, 56, 53, 55, 49, 52, 50, 56, 53, 55, 49, 52, 50] : List UInt8) then (if t102.toList = ([54] : List UInt8) then (if t103 = true then (if t106 = true then (some false) else (if t107.toList = ([57, 57, 57, 57] : List UInt8) then (if t108 = true then (if t110 = true then (some false) else (if t111 = 9223372036854775807 then (if t112 = true then (if t114 = true then (some false) else ((nat_Add.f (⟨#[57, 57, 57, 57]⟩ : ByteArray) (⟨#[49]⟩ : ByteArray)).bind fun t115 => (if t115.toList = ([49, 48, 48, 48, 48] : List UInt8) then ((nat_Mul.f (⟨#[57, 57, 57, 57, 57]⟩ : ByteArray) (⟨#[57, 57, 57, 57, 57]⟩ : ByteArray)).bind fun t116 => (if t116.toList = ([57, 57, 57, 57, 56, 48, 48, 48, 48, 49] : List UInt8) then ((nat_Gcd.f (⟨#[49, 50]⟩ : ByteArray) (⟨#[49, 56]⟩ : ByteArray)).bind fun t117 => (if t117.toList = ([54] : List UInt8) then ((nat_Gcd.f (⟨#[48]⟩ : ByteArray) (⟨#[53]⟩ : ByteArray)).bind fun t118 => (if t118.toList = ([53] : List UInt8) then ((nat_Cmp.f (⟨#[57]⟩ : ByteArray) (⟨#[49, 48]⟩ : ByteArray)).bind fun t119 => (if t119 = (-1) then ((nat_May.f (⟨#[48]⟩ : ByteArray)).bind fun t120 => (if t120 = true then ((nat_May.f (⟨#[48, 49]⟩ : ByteArray)).bind fun t121 => (if t121 = true then (some false) else ((nat_Of.f 7).bind fun t122 => (if t122.toList = ([55] : List UInt8) then ((nat_Add.f (⟨#[]⟩ : ByteArray) (⟨#[49]⟩ : ByteArray)).bind fun t123 => (some (t123.toList == ([] : List UInt8)))) else (some false))))) else (some false))) else (some false))) else (some false))) else (some false))) else (some false))) else (some false)))) else (some false)) else (some false))) else (some false)) else (some false))) else (some false)) else (some false)) else (some false)) = some r := H
  have A6 := Aside0.mk A60
  clear A60
  by_cases c7 : t101.toList = ([49, 52, 50, 56, 53, 55, 49, 52, 50, 56, 53, 55, 49, 52, 50, 56, 53, 55, 49, 52, 50] : List UInt8)
  · rw [if_pos c7] at H
    have c7b0 : (t101.toList == ([49, 52, 50, 56, 53, 55, 49, 52, 50, 56, 53, 55, 49, 52, 50, 56, 53, 55, 49, 52, 50] : List UInt8)) = true := beq_iff_eq.mpr c7
    have c7b1 : (t101.toList != ([49, 52, 50, 56, 53, 55, 49, 52, 50, 56, 53, 55, 49, 52, 50, 56, 53, 55, 49, 52, 50] : List UInt8)) = false := bne_eq_false_iff_eq.mpr c7
    clear c7
    by_cases c8 : t102.toList = ([54] : List UInt8)
    · rw [if_pos c8] at H
      have c8b0 : (t102.toList == ([54] : List UInt8)) = true := beq_iff_eq.mpr c8
      have c8b1 : (t102.toList != ([54] : List UInt8)) = false := bne_eq_false_iff_eq.mpr c8
      clear c8
      by_cases c9 : t103 = true
      · subst c9
        have H1 : (if t106 = true then (some false) else (if t107.toList = ([57, 57, 57, 57] : List UInt8) then (if t108 = true then (if t110 = true then (some false) else (if t111 = 9223372036854775807 then (if t112 = true then (if t114 = true then (some false) else ((nat_Add.f (⟨#[57, 57, 57, 57]⟩ : ByteArray) (⟨#[49]⟩ : ByteArray)).bind fun t115 => (if t115.toList = ([49, 48, 48, 48, 48] : List UInt8) then ((nat_Mul.f (⟨#[57, 57, 57, 57, 57]⟩ : ByteArray) (⟨#[57, 57, 57, 57, 57]⟩ : ByteArray)).bind fun t116 => (if t116.toList = ([57, 57, 57, 57, 56, 48, 48, 48, 48, 49] : List UInt8) then ((nat_Gcd.f (⟨#[49, 50]⟩ : ByteArray) (⟨#[49, 56]⟩ : ByteArray)).bind fun t117 => (if t117.toList = ([54] : List UInt8) then ((nat_Gcd.f (⟨#[48]⟩ : ByteArray) (⟨#[53]⟩ : ByteArray)).bind fun t118 => (if t118.toList = ([53] : List UInt8) then ((nat_Cmp.f (⟨#[57]⟩ : ByteArray) (⟨#[49, 48]⟩ : ByteArray)).bind fun t119 => (if t119 = (-1) then ((nat_May.f (⟨#[48]⟩ : ByteArray)).bind fun t120 => (if t120 = true then ((nat_May.f (⟨#[48, 49]⟩ : ByteArray)).bind fun t121 => (if t121 = true then (some false) else ((nat_Of.f 7).bind fun t122 => (if t122.toList = ([55] : List UInt8) then ((nat_Add.f (⟨#[]⟩ : ByteArray) (⟨#[49]⟩ : ByteArray)).bind fun t123 => (some (t123.toList == ([] : List UInt8)))) else (some false))))) else (some false))) else (some false))) else (some false))) else (some false))) else (some false))) else (some false)))) else (some false)) else (some false))) else (some false)) else (some false))) = some r := by rw [if_pos rfl] at H; exact H
        clear H
        have H := H1
        clear H1
        by_cases c10 : t106 = true
        · subst c10
          have H1 : (some false) = some r := by rw [if_pos rfl] at H; exact H
          clear H
          have H := H1
          clear H1
          exact absurd (H.trans (congrArg some hr_.out)) (by decide)
        · replace c10 := Bool.eq_false_iff.mpr c10
          subst c10
          have H1 : (if t107.toList = ([57, 57, 57, 57] : List UInt8) then (if t108 = true then (if t110 = true then (some false) else (if t111 = 9223372036854775807 then (if t112 = true then (if t114 = true then (some false) else ((nat_Add.f (⟨#[57, 57, 57, 57]⟩ : ByteArray) (⟨#[49]⟩ : ByteArray)).bind fun t115 => (if t115.toList = ([49, 48, 48, 48, 48] : List UInt8) then ((nat_Mul.f (⟨#[57, 57, 57, 57, 57]⟩ : ByteArray) (⟨#[57, 57, 57, 57, 57]⟩ : ByteArray)).bind fun t116 => (if t116.toList = ([57, 57, 57, 57, 56, 48, 48, 48, 48, 49] : List UInt8) then ((nat_Gcd.f (⟨#[49, 50]⟩ : ByteArray) (⟨#[49, 56]⟩ : ByteArray)).bind fun t117 => (if t117.toList = ([54] : List UInt8) then ((nat_Gcd.f (⟨#[48]⟩ : ByteArray) (⟨#[53]⟩ : ByteArray)).bind fun t118 => (if t118.toList = ([53] : List UInt8) then ((nat_Cmp.f (⟨#[57]⟩ : ByteArray) (⟨#[49, 48]⟩ : ByteArray)).bind fun t119 => (if t119 = (-1) then ((nat_May.f (⟨#[48]⟩ : ByteArray)).bind fun t120 => (if t120 = true then ((nat_May.f (⟨#[48, 49]⟩ : ByteArray)).bind fun t121 => (if t121 = true then (some false) else ((nat_Of.f 7).bind fun t122 => (if t122.toList = ([55] : List UInt8) then ((nat_Add.f (⟨#[]⟩ : ByteArray) (⟨#[49]⟩ : ByteArray)).bind fun t123 => (some (t123.toList == ([] : List UInt8)))) else (some false))))) else (some false))) else (some false))) else (some false))) else (some false))) else (some false))) else (some false)))) else (some false)) else (some false))) else (some false)) else (some false)) = some r := by rw [if_neg (show ¬ (false = true) by decide)] at H; exact H
          clear H
          have H := H1
          clear H1
          by_cases c17 : t107.toList = ([57, 57, 57, 57] : List UInt8)
          · rw [if_pos c17] at H
            have c17b0 : (t107.toList == ([57, 57, 57, 57] : List UInt8)) = true := beq_iff_eq.mpr c17
            have c17b1 : (t107.toList != ([57, 57, 57, 57] : List UInt8)) = false := bne_eq_false_iff_eq.mpr c17
            clear c17
            by_cases c18 : t108 = true
            · subst c18
              have H1 : (if t110 = true then (some false) else (if t111 = 9223372036854775807 then (if t112 = true then (if t114 = true then (some false) else ((nat_Add.f (⟨#[57, 57, 57, 57]⟩ : ByteArray) (⟨#[49]⟩ : ByteArray)).bind fun t115 => (if t115.toList = ([49, 48, 48, 48, 48] : List UInt8) then ((nat_Mul.f (⟨#[57, 57, 57, 57, 57]⟩ : ByteArray) (⟨#[57, 57, 57, 57, 57]⟩ : ByteArray)).bind fun t116 => (if t116.toList = ([57, 57, 57, 57, 56, 48, 48, 48, 48, 49] : List UInt8) then ((nat_Gcd.f (⟨#[49, 50]⟩ : ByteArray) (⟨#[49, 56]⟩ : ByteArray)).bind fun t117 => (if t117.toList = ([54] : List UInt8) then ((nat_Gcd.f (⟨#[48]⟩ : ByteArray) (⟨#[53]⟩ : ByteArray)).bind fun t118 => (if t118.toList = ([53] : List UInt8) then ((nat_Cmp.f (⟨#[57]⟩ : ByteArray) (⟨#[49, 48]⟩ : ByteArray)).bind fun t119 => (if t119 = (-1) then ((nat_May.f (⟨#[48]⟩ : ByteArray)).bind fun t120 => (if t120 = true then ((nat_May.f (⟨#[48, 49]⟩ : ByteArray)).bind fun t121 => (if t121 = true then (some false) else ((nat_Of.f 7).bind fun t122 => (if t122.toList = ([55] : List UInt8) then ((nat_Add.f (⟨#[]⟩ : ByteArray) (⟨#[49]⟩ : ByteArray)).bind fun t123 => (some (t123.toList == ([] : List UInt8)))) else (some false))))) else (some false))) else (some false))) else (some false))) else (some false))) else (some false))) else (some false)))) else (some false)) else (some false))) = some r := by rw [if_pos rfl] at H; exact H
              clear H
              have H := H1
              clear H1
              by_cases c19 : t110 = true
              · subst c19
                have H1 : (some false) = some r := by rw [if_pos rfl] at H; exact H
                clear H
                have H := H1
                clear H1
                exact absurd (H.trans (congrArg some hr_.out)) (by decide)
              · replace c19 := Bool.eq_false_iff.mpr c19
                subst c19
                have H1 : (if t111 = 9223372036854775807 then (if t112 = true then (if t114 = true then (some false) else ((nat_Add.f (⟨#[57, 57, 57, 57]⟩ : ByteArray) (⟨#[49]⟩ : ByteArray)).bind fun t115 => (if t115.toList = ([49, 48, 48, 48, 48] : List UInt8) then ((nat_Mul.f (⟨#[57, 57, 57, 57, 57]⟩ : ByteArray) (⟨#[57, 57, 57, 57, 57]⟩ : ByteArray)).bind fun t116 => (if t116.toList = ([57, 57, 57, 57, 56, 48, 48, 48, 48, 49] : List UInt8) then ((nat_Gcd.f (⟨#[49, 50]⟩ : ByteArray) (⟨#[49, 56]⟩ : ByteArray)).bind fun t117 => (if t117.toList = ([54] : List UInt8) then ((nat_Gcd.f (⟨#[48]⟩ : ByteArray) (⟨#[53]⟩ : ByteArray)).bind fun t118 => (if t118.toList = ([53] : List UInt8) then ((nat_Cmp.f (⟨#[57]⟩ : ByteArray) (⟨#[49, 48]⟩ : ByteArray)).bind fun t119 => (if t119 = (-1) then ((nat_May.f (⟨#[48]⟩ : ByteArray)).bind fun t120 => (if t120 = true then ((nat_May.f (⟨#[48, 49]⟩ : ByteArray)).bind fun t121 => (if t121 = true then (some false) else ((nat_Of.f 7).bind fun t122 => (if t122.toList = ([55] : List UInt8) then ((nat_Add.f (⟨#[]⟩ : ByteArray) (⟨#[49]⟩ : ByteArray)).bind fun t123 => (some (t123.toList == ([] : List UInt8)))) else (some false))))) else (some false))) else (some false))) else (some false))) else (some false))) else (some false))) else (some false)))) else (some false)) else (some false)) = some r := by rw [if_neg (show ¬ (false = true) by decide)] at H; exact H
                clear H
                have H := H1
                clear H1
                by_cases c26 : t111 = 9223372036854775807
                · rw [if_pos c26] at H
                  have c26b0 : (t111 == 9223372036854775807) = true := beq_iff_eq.mpr c26
                  have c26b1 : (t111 != 9223372036854775807) = false := bne_eq_false_iff_eq.mpr c26
                  clear c26
                  by_cases c27 : t112 = true
                  · subst c27
                    have H1 : (if t114 = true then (some false) else ((nat_Add.f (⟨#[57, 57, 57, 57]⟩ : ByteArray) (⟨#[49]⟩ : ByteArray)).bind fun t115 => (if t115.toList = ([49, 48, 48, 48, 48] : List UInt8) then ((nat_Mul.f (⟨#[57, 57, 57, 57, 57]⟩ : ByteArray) (⟨#[57, 57, 57, 57, 57]⟩ : ByteArray)).bind fun t116 => (if t116.toList = ([57, 57, 57, 57, 56, 48, 48, 48, 48, 49] : List UInt8) then ((nat_Gcd.f (⟨#[49, 50]⟩ : ByteArray) (⟨#[49, 56]⟩ : ByteArray)).bind fun t117 => (if t117.toList = ([54] : List UInt8) then ((nat_Gcd.f (⟨#[48]⟩ : ByteArray) (⟨#[53]⟩ : ByteArray)).bind fun t118 => (if t118.toList = ([53] : List UInt8) then ((nat_Cmp.f (⟨#[57]⟩ : ByteArray) (⟨#[49, 48]⟩ : ByteArray)).bind fun t119 => (if t119 = (-1) then ((nat_May.f (⟨#[48]⟩ : ByteArray)).bind fun t120 => (if t120 = true then ((nat_May.f (⟨#[48, 49]⟩ : ByteArray)).bind fun t121 => (if t121 = true then (some false) else ((nat_Of.f 7).bind fun t122 => (if t122.toList = ([55] : List UInt8) then ((nat_Add.f (⟨#[]⟩ : ByteArray) (⟨#[49]⟩ : ByteArray)).bind fun t123 => (some (t123.toList == ([] : List UInt8)))) else (some false))))) else (some false))) else (some false))) else (some false))) else (some false))) else (some false))) else (some false)))) = some r := by rw [if_pos rfl] at H; exact H
                    clear H
                    have H := H1
                    clear H1
                    by_cases c28 : t114 = true
                    · subst c28
                      have H1 : (some false) = some r := by rw [if_pos rfl] at H; exact H
                      clear H
                      have H := H1
                      clear H1
                      exact absurd (H.trans (congrArg some hr_.out)) (by decide)
                    · replace c28 := Bool.eq_false_iff.mpr c28
                      subst c28
                      have H1 : ((nat_Add.f (⟨#[57, 57, 57, 57]⟩ : ByteArray) (⟨#[49]⟩ : ByteArray)).bind fun t115 => (if t115.toList = ([49, 48, 48, 48, 48] : List UInt8) then ((nat_Mul.f (⟨#[57, 57, 57, 57, 57]⟩ : ByteArray) (⟨#[57, 57, 57, 57, 57]⟩ : ByteArray)).bind fun t116 => (if t116.toList = ([57, 57, 57, 57, 56, 48, 48, 48, 48, 49] : List UInt8) then ((nat_Gcd.f (⟨#[49, 50]⟩ : ByteArray) (⟨#[49, 56]⟩ : ByteArray)).bind fun t117 => (if t117.toList = ([54] : List UInt8) then ((nat_Gcd.f (⟨#[48]⟩ : ByteArray) (⟨#[53]⟩ : ByteArray)).bind fun t118 => (if t118.toList = ([53] : List UInt8) then ((nat_Cmp.f (⟨#[57]⟩ : ByteArray) (⟨#[49, 48]⟩ : ByteArray)).bind fun t119 => (if t119 = (-1) then ((nat_May.f (⟨#[48]⟩ : ByteArray)).bind fun t120 => (if t120 = true then ((nat_May.f (⟨#[48, 49]⟩ : ByteArray)).bind fun t121 => (if t121 = true then (some false) else ((nat_Of.f 7).bind fun t122 => (if t122.toList = ([55] : List UInt8) then ((nat_Add.f (⟨#[]⟩ : ByteArray) (⟨#[49]⟩ : ByteArray)).bind fun t123 => (some (t123.toList == ([] : List UInt8)))) else (some false))))) else (some false))) else (some false))) else (some false))) else (some false))) else (some false))) else (some false))) = some r := by rw [if_neg (show ¬ (false = true) by decide)] at H; exact H
                      clear H
                      have H := H1
                      clear H1
                      replace H := Option.bind_eq_some_iff.mp H
                      obtain ⟨t115, A350, H⟩ := H
                      replace H : (if t115.toList = ([49, 48, 48, 48, 48] : List UInt8) then ((nat_Mul.f (⟨#[57, 57, 57, 57, 57]⟩ : ByteArray) (⟨#[57, 57, 57, 57, 57]⟩ : ByteArray)).bind fun t116 => (if t116.toList = ([57, 57, 57, 57, 56, 48, 48, 48, 48, 49] : List UInt8) then ((nat_Gcd.f (⟨#[49, 50]⟩ : ByteArray) (⟨#[49, 56]⟩ : ByteArray)).bind fun t117 => (if t117.toList = ([54] : List UInt8) then ((nat_Gcd.f (⟨#[48]⟩ : ByteArray) (⟨#[53]⟩ : ByteArray)).bind fun t118 => (if t118.toList = ([53] : List UInt8) then ((nat_Cmp.f (⟨#[57]⟩ : ByteArray) (⟨#[49, 48]⟩ : ByteArray)).bind fun t119 => (if t119 = (-1) then ((nat_May.f (⟨#[48]⟩ : ByteArray)).bind fun t120 => (if t120 = true then ((nat_May.f (⟨#[48, 49]⟩ : ByteArray)).bind fun t121 => (if t121 = true then (some false) else ((nat_Of.f 7).bind fun t122 => (if t122.toList = ([55] : List UInt8) then ((nat_Add.f (⟨#[]⟩ : ByteArray) (⟨#[49]⟩ : ByteArray)).bind fun t123 => (some (t123.toList == ([] : List UInt8)))) else (some false))))) else (some false))) else (some false))) else (some false))) else (some false))) else (some false))) else (some false)) = some r := H
                      have A35 := Aside0.mk A350
                      clear A350
                      by_cases c36 : t115.toList = ([49, 48, 48, 48, 48] : List UInt8)
                      · rw [if_pos c36] at H
                        have c36b0 : (t115.toList == ([49, 48, 48, 48, 48] : List UInt8)) = true := beq_iff_eq.mpr c36
                        have c36b1 : (t115.toList != ([49, 48, 48, 48, 48] : List UInt8)) = false := bne_eq_false_iff_eq.mpr c36
                        clear c36
                        replace H := Option.bind_eq_some_iff.mp H
                        obtain ⟨t116, A370, H⟩ := H
                        replace H : (if t116.toList = ([57, 57, 57, 57, 56, 48, 48, 48, 48, 49] : List UInt8) then ((nat_Gcd.f (⟨#[49, 50]⟩ : ByteArray) (⟨#[49, 56]⟩ : ByteArray)).bind fun t117 => (if t117.toList = ([54] : List UInt8) then ((nat_Gcd.f (⟨#[48]⟩ : ByteArray) (⟨#[53]⟩ : ByteArray)).bind fun t118 => (if t118.toList = ([53] : List UInt8) then ((nat_Cmp.f (⟨#[57]⟩ : ByteArray) (⟨#[49, 48]⟩ : ByteArray)).bind fun t119 => (if t119 = (-1) then ((nat_May.f (⟨#[48]⟩ : ByteArray)).bind fun t120 => (if t120 = true then ((nat_May.f (⟨#[48, 49]⟩ : ByteArray)).bind fun t121 => (if t121 = true then (some false) else ((nat_Of.f 7).bind fun t122 => (if t122.toList = ([55] : List UInt8) then ((nat_Add.f (⟨#[]⟩ : ByteArray) (⟨#[49]⟩ : ByteArray)).bind fun t123 => (some (t123.toList == ([] : List UInt8)))) else (some false))))) else (some false))) else (some false))) else (some false))) else (some false))) else (some false)) = some r := H
                        have A37 := Aside0.mk A370
                        clear A370
                        by_cases c38 : t116.toList = ([57, 57, 57, 57, 56, 48, 48, 48, 48, 49] : List UInt8)
                        · rw [if_pos c38] at H
                          have c38b0 : (t116.toList == ([57, 57, 57, 57, 56, 48, 48, 48, 48, 49] : List UInt8)) = true := beq_iff_eq.mpr c38
                          have c38b1 : (t116.toList != ([57, 57, 57, 57, 56, 48, 48, 48, 48, 49] : List UInt8)) = false := bne_eq_false_iff_eq.mpr c38
                          clear c38
                          replace H := Option.bind_eq_some_iff.mp H
                          obtain ⟨t117, A390, H⟩ := H
                          replace H : (if t117.toList = ([54] : List UInt8) then ((nat_Gcd.f (⟨#[48]⟩ : ByteArray) (⟨#[53]⟩ : ByteArray)).bind fun t118 => (if t118.toList = ([53] : List UInt8) then ((nat_Cmp.f (⟨#[57]⟩ : ByteArray) (⟨#[49, 48]⟩ : ByteArray)).bind fun t119 => (if t119 = (-1) then ((nat_May.f (⟨#[48]⟩ : ByteArray)).bind fun t120 => (if t120 = true then ((nat_May.f (⟨#[48, 49]⟩ : ByteArray)).bind fun t121 => (if t121 = true then (some false) else ((nat_Of.f 7).bind fun t122 => (if t122.toList = ([55] : List UInt8) then ((nat_Add.f (⟨#[]⟩ : ByteArray) (⟨#[49]⟩ : ByteArray)).bind fun t123 => (some (t123.toList == ([] : List UInt8)))) else (some false))))) else (some false))) else (some false))) else (some false))) else (some false)) = some r := H
                          have A39 := Aside0.mk A390
                          clear A390
                          by_cases c40 : t117.toList = ([54] : List UInt8)
                          · rw [if_pos c40] at H
                            have c40b0 : (t117.toList == ([54] : List UInt8)) = true := beq_iff_eq.mpr c40
                            have c40b1 : (t117.toList != ([54] : List UInt8)) = false := bne_eq_false_iff_eq.mpr c40
                            clear c40
                            replace H := Option.bind_eq_some_iff.mp H
                            obtain ⟨t118, A410, H⟩ := H
                            replace H : (if t118.toList = ([53] : List UInt8) then ((nat_Cmp.f (⟨#[57]⟩ : ByteArray) (⟨#[49, 48]⟩ : ByteArray)).bind fun t119 => (if t119 = (-1) then ((nat_May.f (⟨#[48]⟩ : ByteArray)).bind fun t120 => (if t120 = true then ((nat_May.f (⟨#[48, 49]⟩ : ByteArray)).bind fun t121 => (if t121 = true then (some false) else ((nat_Of.f 7).bind fun t122 => (if t122.toList = ([55] : List UInt8) then ((nat_Add.f (⟨#[]⟩ : ByteArray) (⟨#[49]⟩ : ByteArray)).bind fun t123 => (some (t123.toList == ([] : List UInt8)))) else (some false))))) else (some false))) else (some false))) else (some false)) = some r := H
                            have A41 := Aside0.mk A410
                            clear A410
                            by_cases c42 : t118.toList = ([53] : List UInt8)
                            · rw [if_pos c42] at H
                              have c42b0 : (t118.toList == ([53] : List UInt8)) = true := beq_iff_eq.mpr c42
                              have c42b1 : (t118.toList != ([53] : List UInt8)) = false := bne_eq_false_iff_eq.mpr c42
                              clear c42
                              replace H := Option.bind_eq_some_iff.mp H
                              obtain ⟨t119, A430, H⟩ := H
                              replace H : (if t119 = (-1) then ((nat_May.f (⟨#[48]⟩ : ByteArray)).bind fun t120 => (if t120 = true then ((nat_May.f (⟨#[48, 49]⟩ : ByteArray)).bind fun t121 => (if t121 = true then (some false) else ((nat_Of.f 7).bind fun t122 => (if t122.toList = ([55] : List UInt8) then ((nat_Add.f (⟨#[]⟩ : ByteArray) (⟨#[49]⟩ : ByteArray)).bind fun t123 => (some (t123.toList == ([] : List UInt8)))) else (some false))))) else (some false))) else (some false)) = some r := H
                              have A43 := Aside0.mk A430
                              clear A430
                              by_cases c44 : t119 = (-1)
                              · rw [if_pos c44] at H
                                have c44b0 : (t119 == (-1)) = true := beq_iff_eq.mpr c44
                                have c44b1 : (t119 != (-1)) = false := bne_eq_false_iff_eq.mpr c44
                                clear c44
                                replace H := Option.bind_eq_some_iff.mp H
                                obtain ⟨t120, A450, H⟩ := H
                                replace H : (if t120 = true then ((nat_May.f (⟨#[48, 49]⟩ : ByteArray)).bind fun t121 => (if t121 = true then (some false) else ((nat_Of.f 7).bind fun t122 => (if t122.toList = ([55] : List UInt8) then ((nat_Add.f (⟨#[]⟩ : ByteArray) (⟨#[49]⟩ : ByteArray)).bind fun t123 => (some (t123.toList == ([] : List UInt8)))) else (some false))))) else (some false)) = some r := H
                                have A45 := Aside0.mk A450
                                clear A450
                                by_cases c46 : t120 = true
                                · subst c46
                                  have H1 : ((nat_May.f (⟨#[48, 49]⟩ : ByteArray)).bind fun t121 => (if t121 = true then (some false) else ((nat_Of.f 7).bind fun t122 => (if t122.toList = ([55] : List UInt8) then ((nat_Add.f (⟨#[]⟩ : ByteArray) (⟨#[49]⟩ : ByteArray)).bind fun t123 => (some (t123.toList == ([] : List UInt8)))) else (some false))))) = some r := by rw [if_pos rfl] at H; exact H
                                  clear H
                                  have H := H1
                                  clear H1
                                  replace H := Option.bind_eq_some_iff.mp H
                                  obtain ⟨t121, A470, H⟩ := H
                                  replace H : (if t121 = true then (some false) else ((nat_Of.f 7).bind fun t122 => (if t122.toList = ([55] : List UInt8) then ((nat_Add.f (⟨#[]⟩ : ByteArray) (⟨#[49]⟩ : ByteArray)).bind fun t123 => (some (t123.toList == ([] : List UInt8)))) else (some false)))) = some r := H
                                  have A47 := Aside0.mk A470
                                  clear A470
                                  by_cases c48 : t121 = true
                                  · subst c48
                                    have H1 : (some false) = some r := by rw [if_pos rfl] at H; exact H
                                    clear H
                                    have H := H1
                                    clear H1
                                    exact absurd (H.trans (congrArg some hr_.out)) (by decide)
                                  · replace c48 := Bool.eq_false_iff.mpr c48
                                    subst c48
                                    have H1 : ((nat_Of.f 7).bind fun t122 => (if t122.toList = ([55] : List UInt8) then ((nat_Add.f (⟨#[]⟩ : ByteArray) (⟨#[49]⟩ : ByteArray)).bind fun t123 => (some (t123.toList == ([] : List UInt8)))) else (some false))) = some r := by rw [if_neg (show ¬ (false = true) by decide)] at H; exact H
                                    clear H
                                    have H := H1
                                    clear H1
                                    replace H := Option.bind_eq_some_iff.mp H
                                    obtain ⟨t122, A620, H⟩ := H
                                    replace H : (if t122.toList = ([55] : List UInt8) then ((nat_Add.f (⟨#[]⟩ : ByteArray) (⟨#[49]⟩ : ByteArray)).bind fun t123 => (some (t123.toList == ([] : List UInt8)))) else (some false)) = some r := H
                                    have A62 := Aside0.mk A620
                                    clear A620
                                    by_cases c63 : t122.toList = ([55] : List UInt8)
                                    · rw [if_pos c63] at H
                                      have c63b0 : (t122.toList == ([55] : List UInt8)) = true := beq_iff_eq.mpr c63
                                      have c63b1 : (t122.toList != ([55] : List UInt8)) = false := bne_eq_false_iff_eq.mpr c63
                                      clear c63
                                      replace H := Option.bind_eq_some_iff.mp H
                                      obtain ⟨t123, A640, H⟩ := H
                                      replace H : (some (t123.toList == ([] : List UInt8))) = some r := H
                                      have A64 := Aside0.mk A640
                                      clear A640
                                      obtain rfl := Option.some.inj H
                                      go_enter Tryd.func11, Tryd.ntmps11
                                      go_wp2_with (first | ((with_reducible refine gate_callee (f := 14) rfl ?_); refine goesL_ (some 16) rfl rfl Tryd.func14 (by kernel_rfl) rfl #[.string (⟨#[49, 48, 48, 48, 48, 48, 48, 48, 48, 48, 48, 48, 48, 48, 48, 48, 48, 48, 48, 48, 48, 48]⟩ : ByteArray), .string (⟨#[55]⟩ : ByteArray)] rfl (by (try simp only [List.map_toArray, List.map_cons, List.map_nil]); first | done | rfl | (simp only [List.length_drop, List.length_take]; rfl)) ?_; (with_reducible refine (nat_Div.calls (⟨#[49, 48, 48, 48, 48, 48, 48, 48, 48, 48, 48, 48, 48, 48, 48, 48, 48, 48, 48, 48, 48, 48]⟩ : ByteArray) (⟨#[55]⟩ : ByteArray) t101 t102 true _ ?side1 A1.out).mono ?_); (case side1 => exact Laid.below HLD.out (by repeat (first | (with_reducible first | exact HB.out | apply below_alloc | apply pw_below_drewN | apply below_drew1) | exact HB.out))); rintro e w65 ⟨rfl, hb⟩; refine ⟨_, rfl, ?_⟩; have n0_ := Aside0.mk (below_step (by repeat (first | (with_reducible first | exact HB.out | apply below_alloc | apply pw_below_drewN | apply below_drew1) | exact HB.out)) hb); clear HB; have HB := n0_; clear n0_; (try clear hb); (try clear hb2); (try clear hk); (try clear hi)) | ((with_reducible refine gate_callee (f := 14) rfl ?_); refine goesL_ (some 21) rfl rfl Tryd.func14 (by kernel_rfl) rfl #[.string (⟨#[55]⟩ : ByteArray), .string (⟨#[48]⟩ : ByteArray)] rfl (by (try simp only [List.map_toArray, List.map_cons, List.map_nil]); first | done | rfl | (simp only [List.length_drop, List.length_take]; rfl)) ?_; (with_reducible refine (nat_Div.calls (⟨#[55]⟩ : ByteArray) (⟨#[48]⟩ : ByteArray) t104 t105 false _ ?side1 A2.out).mono ?_); (case side1 => exact Laid.below HLD.out (by repeat (first | (with_reducible first | exact HB.out | apply below_alloc | apply pw_below_drewN | apply below_drew1) | exact HB.out))); rintro e w66 ⟨rfl, hb⟩; refine ⟨_, rfl, ?_⟩; have n0_ := Aside0.mk (below_step (by repeat (first | (with_reducible first | exact HB.out | apply below_alloc | apply pw_below_drewN | apply below_drew1) | exact HB.out)) hb); clear HB; have HB := n0_; clear n0_; (try clear hb); (try clear hb2); (try clear hk); (try clear hi)) | ((with_reducible refine gate_callee (f := 12) rfl ?_); refine goesL_ (some 26) rfl rfl Tryd.func12 (by kernel_rfl) rfl #[.string (⟨#[49, 48, 48, 48, 48]⟩ : ByteArray), .string (⟨#[49]⟩ : ByteArray)] rfl (by (try simp only [List.map_toArray, List.map_cons, List.map_nil]); first | done | rfl | (simp only [List.length_drop, List.length_take]; rfl)) ?_; (with_reducible refine (nat_Sub.calls (⟨#[49, 48, 48, 48, 48]⟩ : ByteArray) (⟨#[49]⟩ : ByteArray) t107 true _ ?side1 A3.out).mono ?_); (case side1 => exact Laid.below HLD.out (by repeat (first | (with_reducible first | exact HB.out | apply below_alloc | apply pw_below_drewN | apply below_drew1) | exact HB.out))); rintro e w67 ⟨rfl, hb⟩; refine ⟨_, rfl, ?_⟩; have n0_ := Aside0.mk (below_step (by repeat (first | (with_reducible first | exact HB.out | apply below_alloc | apply pw_below_drewN | apply below_drew1) | exact HB.out)) hb); clear HB; have HB := n0_; clear n0_; (try clear hb); (try clear hb2); (try clear hk); (try clear hi)) | ((with_reducible refine gate_callee (f := 12) rfl ?_); refine goesL_ (some 30) rfl rfl Tryd.func12 (by kernel_rfl) rfl #[.string (⟨#[49]⟩ : ByteArray), .string (⟨#[50]⟩ : ByteArray)] rfl (by (try simp only [List.map_toArray, List.map_cons, List.map_nil]); first | done | rfl | (simp only [List.length_drop, List.length_take]; rfl)) ?_; (with_reducible refine (nat_Sub.calls (⟨#[49]⟩ : ByteArray) (⟨#[50]⟩ : ByteArray) t109 false _ ?side1 A4.out).mono ?_); (case side1 => exact Laid.below HLD.out (by repeat (first | (with_reducible first | exact HB.out | apply below_alloc | apply pw_below_drewN | apply below_drew1) | exact HB.out))); rintro e w68 ⟨rfl, hb⟩; refine ⟨_, rfl, ?_⟩; have n0_ := Aside0.mk (below_step (by repeat (first | (with_reducible first | exact HB.out | apply below_alloc | apply pw_below_drewN | apply below_drew1) | exact HB.out)) hb); clear HB; have HB := n0_; clear n0_; (try clear hb); (try clear hb2); (try clear hk); (try clear hi)) | ((with_reducible refine gate_callee (f := 16) rfl ?_); refine goesL_ (some 34) rfl rfl Tryd.func16 (by kernel_rfl) rfl #[.string (⟨#[57, 50, 50, 51, 51, 55, 50, 48, 51, 54, 56, 53, 52, 55, 55, 53, 56, 48, 55]⟩ : ByteArray)] rfl (by (try simp only [List.map_toArray, List.map_cons, List.map_nil]); first | done | rfl | (simp only [List.length_drop, List.length_take]; rfl)) ?_; (with_reducible refine (nat_Small.calls (⟨#[57, 50, 50, 51, 51, 55, 50, 48, 51, 54, 56, 53, 52, 55, 55, 53, 56, 48, 55]⟩ : ByteArray) t111 true _ ?side1 A5.out).mono ?_); (case side1 => exact Laid.below HLD.out (by repeat (first | (with_reducible first | exact HB.out | apply below_alloc | apply pw_below_drewN | apply below_drew1) | exact HB.out))); rintro e w69 ⟨rfl, hb⟩; refine ⟨_, rfl, ?_⟩; have n0_ := Aside0.mk (below_step (by repeat (first | (with_reducible first | exact HB.out | apply below_alloc | apply pw_below_drewN | apply below_drew1) | exact HB.out)) hb); clear HB; have HB := n0_; clear n0_; (try clear hb); (try clear hb2); (try clear hk); (try clear hi)) | ((with_reducible refine gate_callee (f := 16) rfl ?_); refine goesL_ (some 38) rfl rfl Tryd.func16 (by kernel_rfl) rfl #[.string (⟨#[57, 50, 50, 51, 51, 55, 50, 48, 51, 54, 56, 53, 52, 55, 55, 53, 56, 48, 56]⟩ : ByteArray)] rfl (by (try simp only [List.map_toArray, List.map_cons, List.map_nil]); first | done | rfl | (simp only [List.length_drop, List.length_take]; rfl)) ?_; (with_reducible refine (nat_Small.calls (⟨#[57, 50, 50, 51, 51, 55, 50, 48, 51, 54, 56, 53, 52, 55, 55, 53, 56, 48, 56]⟩ : ByteArray) t113 false _ ?side1 A6.out).mono ?_); (case side1 => exact Laid.below HLD.out (by repeat (first | (with_reducible first | exact HB.out | apply below_alloc | apply pw_below_drewN | apply below_drew1) | exact HB.out))); rintro e w70 ⟨rfl, hb⟩; refine ⟨_, rfl, ?_⟩; have n0_ := Aside0.mk (below_step (by repeat (first | (with_reducible first | exact HB.out | apply below_alloc | apply pw_below_drewN | apply below_drew1) | exact HB.out)) hb); clear HB; have HB := n0_; clear n0_; (try clear hb); (try clear hb2); (try clear hk); (try clear hi)) | (go_at_call 24; (with_reducible refine (nat_Add.calls (⟨#[57, 57, 57, 57]⟩ : ByteArray) (⟨#[49]⟩ : ByteArray) t115 _ ?side1 A35.out).mono ?_); (case side1 => exact Laid.below HLD.out (by repeat (first | (with_reducible first | exact HB.out | apply below_alloc | apply pw_below_drewN | apply below_drew1) | exact HB.out))); rintro e w71 ⟨rfl, hb⟩; have n0_ := Aside0.mk (below_step (by repeat (first | (with_reducible first | exact HB.out | apply below_alloc | apply pw_below_drewN | apply below_drew1) | exact HB.out)) hb); clear HB; have HB := n0_; clear n0_; (try clear hb); (try clear hb2); (try clear hk); (try clear hi)) | (go_at_call 26; (with_reducible refine (nat_Mul.calls (⟨#[57, 57, 57, 57, 57]⟩ : ByteArray) (⟨#[57, 57, 57, 57, 57]⟩ : ByteArray) t116 _ ?side1 A37.out).mono ?_); (case side1 => exact Laid.below HLD.out (by repeat (first | (with_reducible first | exact HB.out | apply below_alloc | apply pw_below_drewN | apply below_drew1) | exact HB.out))); rintro e w72 ⟨rfl, hb⟩; have n0_ := Aside0.mk (below_step (by repeat (first | (with_reducible first | exact HB.out | apply below_alloc | apply pw_below_drewN | apply below_drew1) | exact HB.out)) hb); clear HB; have HB := n0_; clear n0_; (try clear hb); (try clear hb2); (try clear hk); (try clear hi)) | (go_at_call 28; (with_reducible refine (nat_Gcd.calls (⟨#[49, 50]⟩ : ByteArray) (⟨#[49, 56]⟩ : ByteArray) t117 _ ?side1 A39.out).mono ?_); (case side1 => exact Laid.below HLD.out (by repeat (first | (with_reducible first | exact HB.out | apply below_alloc | apply pw_below_drewN | apply below_drew1) | exact HB.out))); rintro e w73 ⟨rfl, hb⟩; have n0_ := Aside0.mk (below_step (by repeat (first | (with_reducible first | exact HB.out | apply below_alloc | apply pw_below_drewN | apply below_drew1) | exact HB.out)) hb); clear HB; have HB := n0_; clear n0_; (try clear hb); (try clear hb2); (try clear hk); (try clear hi)) | (go_at_call 28; (with_reducible refine (nat_Gcd.calls (⟨#[48]⟩ : ByteArray) (⟨#[53]⟩ : ByteArray) t118 _ ?side1 A41.out).mono ?_); (case side1 => exact Laid.below HLD.out (by repeat (first | (with_reducible first | exact HB.out | apply below_alloc | apply pw_below_drewN | apply below_drew1) | exact HB.out))); rintro e w74 ⟨rfl, hb⟩; have n0_ := Aside0.mk (below_step (by repeat (first | (with_reducible first | exact HB.out | apply below_alloc | apply pw_below_drewN | apply below_drew1) | exact HB.out)) hb); clear HB; have HB := n0_; clear n0_; (try clear hb); (try clear hb2); (try clear hk); (try clear hi)) | (go_at_call 22; (with_reducible refine (nat_Cmp.calls (⟨#[57]⟩ : ByteArray) (⟨#[49, 48]⟩ : ByteArray) t119 _ A43.out).mono ?_); rintro e w75 ⟨rfl, hb⟩; have n0_ := Aside0.mk (below_step (by repeat (first | (with_reducible first | exact HB.out | apply below_alloc | apply pw_below_drewN | apply below_drew1) | exact HB.out)) hb); clear HB; have HB := n0_; clear n0_; (try clear hb); (try clear hb2); (try clear hk); (try clear hi)) | (go_at_call 18; (with_reducible refine (nat_May.calls (⟨#[48]⟩ : ByteArray) true _ A45.out).mono ?_); rintro e w76 ⟨rfl, hb⟩; have n0_ := Aside0.mk (below_step (by repeat (first | (with_reducible first | exact HB.out | apply below_alloc | apply pw_below_drewN | apply below_drew1) | exact HB.out)) hb); clear HB; have HB := n0_; clear n0_; (try clear hb); (try clear hb2); (try clear hk); (try clear hi)) | (go_at_call 18; (with_reducible refine (nat_May.calls (⟨#[48, 49]⟩ : ByteArray) false _ A47.out).mono ?_); rintro e w77 ⟨rfl, hb⟩; have n0_ := Aside0.mk (below_step (by repeat (first | (with_reducible first | exact HB.out | apply below_alloc | apply pw_below_drewN | apply below_drew1) | exact HB.out)) hb); clear HB; have HB := n0_; clear n0_; (try clear hb); (try clear hb2); (try clear hk); (try clear hi)) | (go_at_call 20; (with_reducible refine (nat_Of.calls 7 t122 _ ?side1 A62.out).mono ?_); (case side1 => exact Laid.below HLD.out (by repeat (first | (with_reducible first | exact HB.out | apply below_alloc | apply pw_below_drewN | apply below_drew1) | exact HB.out))); rintro e w78 ⟨rfl, hb⟩; have n0_ := Aside0.mk (below_step (by repeat (first | (with_reducible first | exact HB.out | apply below_alloc | apply pw_below_drewN | apply below_drew1) | exact HB.out)) hb); clear HB; have HB := n0_; clear n0_; (try clear hb); (try clear hb2); (try clear hk); (try clear hi)) | (go_at_call 24; (with_reducible refine (nat_Add.calls (⟨#[]⟩ : ByteArray) (⟨#[49]⟩ : ByteArray) t123 _ ?side1 A64.out).mono ?_); (case side1 => exact Laid.below HLD.out (by repeat (first | (with_reducible first | exact HB.out | apply below_alloc | apply pw_below_drewN | apply below_drew1) | exact HB.out))); rintro e w79 ⟨rfl, hb⟩; have n0_ := Aside0.mk (below_step (by repeat (first | (with_reducible first | exact HB.out | apply below_alloc | apply pw_below_drewN | apply below_drew1) | exact HB.out)) hb); clear HB; have HB := n0_; clear n0_; (try clear hb); (try clear hb2); (try clear hk); (try clear hi)))
                                      go_ret
                                      exact ⟨by first | rfl | (simp [errW_none, errW_some] <;> rfl) | (simp [*, errW_none, errW_some] <;> rfl), by repeat (first | (with_reducible first | exact HB.out | apply below_alloc | apply pw_below_drewN | apply below_drew1) | exact HB.out)⟩
                                    · rw [if_neg c63] at H
                                      have c63b0 : (t122.toList == ([55] : List UInt8)) = false := beq_eq_false_iff_ne.mpr c63
                                      have c63b1 : (t122.toList != ([55] : List UInt8)) = true := bne_iff_ne.mpr c63
                                      exact absurd (H.trans (congrArg some hr_.out)) (by decide)
                                · replace c46 := Bool.eq_false_iff.mpr c46
                                  subst c46
                                  have H1 : (some false) = some r := by rw [if_neg (show ¬ (false = true) by decide)] at H; exact H
                                  clear H
                                  have H := H1
                                  clear H1
                                  exact absurd (H.trans (congrArg some hr_.out)) (by decide)
                              · rw [if_neg c44] at H
                                have c44b0 : (t119 == (-1)) = false := beq_eq_false_iff_ne.mpr c44
                                have c44b1 : (t119 != (-1)) = true := bne_iff_ne.mpr c44
                                exact absurd (H.trans (congrArg some hr_.out)) (by decide)
                            · rw [if_neg c42] at H
                              have c42b0 : (t118.toList == ([53] : List UInt8)) = false := beq_eq_false_iff_ne.mpr c42
                              have c42b1 : (t118.toList != ([53] : List UInt8)) = true := bne_iff_ne.mpr c42
                              exact absurd (H.trans (congrArg some hr_.out)) (by decide)
                          · rw [if_neg c40] at H
                            have c40b0 : (t117.toList == ([54] : List UInt8)) = false := beq_eq_false_iff_ne.mpr c40
                            have c40b1 : (t117.toList != ([54] : List UInt8)) = true := bne_iff_ne.mpr c40
                            exact absurd (H.trans (congrArg some hr_.out)) (by decide)
                        · rw [if_neg c38] at H
                          have c38b0 : (t116.toList == ([57, 57, 57, 57, 56, 48, 48, 48, 48, 49] : List UInt8)) = false := beq_eq_false_iff_ne.mpr c38
                          have c38b1 : (t116.toList != ([57, 57, 57, 57, 56, 48, 48, 48, 48, 49] : List UInt8)) = true := bne_iff_ne.mpr c38
                          exact absurd (H.trans (congrArg some hr_.out)) (by decide)
                      · rw [if_neg c36] at H
                        have c36b0 : (t115.toList == ([49, 48, 48, 48, 48] : List UInt8)) = false := beq_eq_false_iff_ne.mpr c36
                        have c36b1 : (t115.toList != ([49, 48, 48, 48, 48] : List UInt8)) = true := bne_iff_ne.mpr c36
                        exact absurd (H.trans (congrArg some hr_.out)) (by decide)
                  · replace c27 := Bool.eq_false_iff.mpr c27
                    subst c27
                    have H1 : (some false) = some r := by rw [if_neg (show ¬ (false = true) by decide)] at H; exact H
                    clear H
                    have H := H1
                    clear H1
                    exact absurd (H.trans (congrArg some hr_.out)) (by decide)
                · rw [if_neg c26] at H
                  have c26b0 : (t111 == 9223372036854775807) = false := beq_eq_false_iff_ne.mpr c26
                  have c26b1 : (t111 != 9223372036854775807) = true := bne_iff_ne.mpr c26
                  exact absurd (H.trans (congrArg some hr_.out)) (by decide)
            · replace c18 := Bool.eq_false_iff.mpr c18
              subst c18
              have H1 : (some false) = some r := by rw [if_neg (show ¬ (false = true) by decide)] at H; exact H
              clear H
              have H := H1
              clear H1
              exact absurd (H.trans (congrArg some hr_.out)) (by decide)
          · rw [if_neg c17] at H
            have c17b0 : (t107.toList == ([57, 57, 57, 57] : List UInt8)) = false := beq_eq_false_iff_ne.mpr c17
            have c17b1 : (t107.toList != ([57, 57, 57, 57] : List UInt8)) = true := bne_iff_ne.mpr c17
            exact absurd (H.trans (congrArg some hr_.out)) (by decide)
      · replace c9 := Bool.eq_false_iff.mpr c9
        subst c9
        have H1 : (some false) = some r := by rw [if_neg (show ¬ (false = true) by decide)] at H; exact H
        clear H
        have H := H1
        clear H1
        exact absurd (H.trans (congrArg some hr_.out)) (by decide)
    · rw [if_neg c8] at H
      have c8b0 : (t102.toList == ([54] : List UInt8)) = false := beq_eq_false_iff_ne.mpr c8
      have c8b1 : (t102.toList != ([54] : List UInt8)) = true := bne_iff_ne.mpr c8
      exact absurd (H.trans (congrArg some hr_.out)) (by decide)
  · rw [if_neg c7] at H
    have c7b0 : (t101.toList == ([49, 52, 50, 56, 53, 55, 49, 52, 50, 56, 53, 55, 49, 52, 50, 56, 53, 55, 49, 52, 50] : List UInt8)) = false := beq_eq_false_iff_ne.mpr c7
    have c7b1 : (t101.toList != ([49, 52, 50, 56, 53, 55, 49, 52, 50, 56, 53, 55, 49, 52, 50, 56, 53, 55, 49, 52, 50] : List UInt8)) = true := bne_iff_ne.mpr c7
    exact absurd (H.trans (congrArg some hr_.out)) (by decide)
end Go.Proofs.YtmcpiejgneegjaaDoor.Pf

end

/-
What the first laws' fixed() answers: true.
-/
section
namespace Go.Proofs.YtmcpiejgneegjaaDoor
open Go.RowKit
theorem fixed1_true : Pf.debenturelaw01_fixed.f = some true := by kernel_rfl
def debenturelaw01_fixed.f : Option Bool := some true
theorem debenturelaw01_fixed.calls (r : Bool) (w : World) (hL_ : Laid w) (h : debenturelaw01_fixed.f = some r) :
    Calls Tryd.prog 11 #[] w fun e w' => e = .returned (.bool r) ∧ Below w.heap.size w w' :=
  Pf.debenturelaw01_fixed.calls r w hL_ ⟨(Option.some.inj h).symm⟩ (fixed1_true.trans h)
end Go.Proofs.YtmcpiejgneegjaaDoor

end

/-
Naturals' texts by their numbers: what nat's and the reference's functions answer at them, and how long they are. For the laws.
-/
section
set_option linter.unusedVariables false
namespace Go.Proofs.YtmcpiejgneegjaaDoor
open Go.RowKit Go.Proofs.YtmcpiejgneegjaaDoorW.PrintWords Go.Proofs.YtmcpiejgneegjaaDoorW.PrintLast Go.Proofs.YtmcpiejgneegjaaDoorW.PrintMore

/-- How long a natural's text is. -/
def sz (n : Nat) : Nat := (natB n).size
theorem sz_dig (n : Nat) : sz n = (Lib.decDigits n).length := natB_size n
theorem sz_pos (n : Nat) : 1 ≤ sz n := may_pos (mayB_natB n)
theorem lt_sz (n : Nat) : n < 10 ^ sz n := by
  have h := num_lt (dig_all n)
  rw [num_dig, ← sz_dig] at h
  exact h
theorem sz_le {n k : Nat} (h : n < 10 ^ k) (hk : 1 ≤ k) : sz n ≤ k := by
  rw [sz_dig]
  exact dig_len_le h hk
theorem sz_mono {m n : Nat} (h : m ≤ n) : sz m ≤ sz n := sz_le (Nat.lt_of_le_of_lt h (lt_sz n)) (sz_pos n)
theorem ten_mono {a b : Nat} (h : a ≤ b) : (10 : Nat) ^ a ≤ 10 ^ b := Nat.pow_le_pow_right (by omega) h
theorem sz_add (m n : Nat) : sz (m + n) ≤ sz m + sz n := by
  have h1 := lt_sz m
  have h2 := lt_sz n
  have h3 := sz_pos m
  have h4 := sz_pos n
  apply sz_le _ (by omega)
  have h5 := ten_mono (a := sz m) (b := sz m + sz n - 1) (by omega)
  have h6 := ten_mono (a := sz n) (b := sz m + sz n - 1) (by omega)
  obtain ⟨k, hk⟩ : ∃ k, sz m + sz n = k + 1 := ⟨sz m + sz n - 1, by omega⟩
  rw [hk, Nat.add_sub_cancel] at h5 h6
  rw [hk, Nat.pow_succ]
  omega
theorem sz_mul (m n : Nat) : sz (m * n) ≤ sz m + sz n := by
  have h1 := lt_sz m
  have h2 := lt_sz n
  apply sz_le _ (by have := sz_pos m; omega)
  rw [Nat.pow_add]
  exact Nat.mul_lt_mul'' h1 h2
theorem sz_lt {m n : Nat} (h : sz m < sz n) : m < n := by
  rcases Nat.lt_or_ge m n with h1 | h1
  · exact h1
  · have := sz_mono h1
    omega
/-- Short enough for the contracts. -/
theorem sm_natB {n : Nat} (h : sz n ≤ 50000) : sm (natB n) = true := decide_eq_true h
theorem sm2_natB {m n : Nat} (hm : sz m ≤ 50000) (hn : sz n ≤ 50000) : sm2 (natB m) (natB n) = true := by unfold sm2; rw [sm_natB hm, sm_natB hn]; rfl
theorem may2_natB (m n : Nat) : may2 (natB m) (natB n) = true := may2_eq (mayB_natB m) (mayB_natB n)
theorem of_may {a : ByteArray} (h : mayB a = true) : ∃ n, a = natB n ∧ sz n = a.size := ⟨numB a, (natB_numB h).symm, by unfold sz; rw [natB_numB h]⟩
theorem natB_inj {m n : Nat} : natB m = natB n ↔ m = n := ⟨fun h => by rw [← numB_natB m, h, numB_natB], fun h => by rw [h]⟩
theorem toList_inj {a b : ByteArray} : a.toList = b.toList ↔ a = b := by
  rw [ByteArray.toList_eq, ByteArray.toList_eq]
  exact ⟨bext, fun h => by rw [h]⟩
theorem natB_toList_inj {m n : Nat} : (natB m).toList = (natB n).toList ↔ m = n := by rw [toList_inj, natB_inj]
theorem natB_beq (m n : Nat) : ((natB m).toList == (natB n).toList) = decide (m = n) := by
  rw [Bool.eq_iff_iff, beq_iff_eq, natB_toList_inj, decide_eq_true_eq]
theorem natB_toList_zero {m : Nat} : (natB m).toList = [48] ↔ m = 0 := by
  rw [ByteArray.toList_eq]
  have := list48 (mayB_natB m)
  rw [numB_natB] at this
  exact this
theorem natB_beq_zero (m : Nat) : ((natB m).toList == ([48] : List UInt8)) = decide (m = 0) := by
  rw [Bool.eq_iff_iff, beq_iff_eq, natB_toList_zero, decide_eq_true_eq]
theorem natB_one : natB 1 = ⟨#[49]⟩ := bext (by rw [natB_list, dig_small (by omega)]; rfl)
theorem natB_zero : natB 0 = ⟨#[48]⟩ := bext (by rw [natB_list, dig_small (by omega)]; rfl)
theorem natB_toList_one {m : Nat} : (natB m).toList = [49] ↔ m = 1 := by
  have h : (natB 1).toList = [49] := by rw [ByteArray.toList_eq, natB_list, dig_small (by omega)]; rfl
  rw [← h]
  exact natB_toList_inj
theorem natB_ne_nil (m : Nat) : (natB m).toList ≠ [] := by
  rw [ByteArray.toList_eq, natB_list]
  exact dig_ne m

theorem fMay {a : ByteArray} (h : a.size ≤ 50000) : nat_May.f a = some (mayB a) := may_f (decide_eq_true h)
theorem rMay {a : ByteArray} (h : a.size ≤ 50000) : debentureref01_May.f a = some (mayB a) := by
  unfold debentureref01_May.f
  rw [if_pos (show sm a = true from decide_eq_true h)]
theorem fAdd {m n : Nat} (hm : sz m ≤ 50000) (hn : sz n ≤ 50000) : nat_Add.f (natB m) (natB n) = some (natB (m + n)) := by
  unfold nat_Add.f addS
  rw [if_pos (sm2_natB hm hn), if_pos (may2_natB m n), numB_natB, numB_natB]
theorem fMul {m n : Nat} (hm : sz m ≤ 50000) (hn : sz n ≤ 50000) : nat_Mul.f (natB m) (natB n) = some (natB (m * n)) := by
  unfold nat_Mul.f mulS
  rw [if_pos (sm2_natB hm hn), if_pos (may2_natB m n), numB_natB, numB_natB]
theorem fGcd {m n : Nat} (hm : sz m ≤ 50000) (hn : sz n ≤ 50000) : nat_Gcd.f (natB m) (natB n) = some (natB (Nat.gcd m n)) := by
  unfold nat_Gcd.f gcdS
  rw [if_pos (sm2_natB hm hn), if_pos (may2_natB m n), numB_natB, numB_natB]
theorem fCmp {m n : Nat} (hm : sz m ≤ 50000) (hn : sz n ≤ 50000) : nat_Cmp.f (natB m) (natB n) = some (Lib.compareInt (m : Int) (n : Int)) := by
  unfold nat_Cmp.f cmpS
  rw [if_pos (sm2_natB hm hn), if_pos (may2_natB m n), numB_natB, numB_natB]
theorem fSub {m n : Nat} (hm : sz m ≤ 50000) (hn : sz n ≤ 50000) : nat_Sub.f (natB m) (natB n) = some (if n ≤ m then (natB (m - n), true) else (noB, false)) := by
  unfold nat_Sub.f subS
  rw [if_pos (sm2_natB hm hn), may2_natB, numB_natB, numB_natB, Bool.true_and]
  by_cases h : n ≤ m
  · rw [if_pos (decide_eq_true h), if_pos h]
  · rw [if_neg (by rw [decide_eq_true_eq]; exact h), if_neg h]
theorem fDiv {m n : Nat} (hm : sz m ≤ 50000) (hn : sz n ≤ 50000) (h : n ≠ 0) : nat_Div.f (natB m) (natB n) = some (natB (m / n), natB (m % n), true) := by
  unfold nat_Div.f divS
  rw [if_pos (sm2_natB hm hn), may2_natB, numB_natB, numB_natB, Bool.true_and, if_pos (decide_eq_true h)]
theorem fDiv0 {m : Nat} (hm : sz m ≤ 50000) : nat_Div.f (natB m) (natB 0) = some (noB, noB, false) := by
  have h0 : sz 0 ≤ 1 := sz_le (by decide) (Nat.le_refl 1)
  unfold nat_Div.f divS
  rw [if_pos (sm2_natB hm (by omega)), may2_natB, numB_natB, numB_natB, Bool.true_and, if_neg (by decide)]
theorem fOf {n : Nat} (h : n ≤ 9223372036854775807) : nat_Of.f (n : Int) = some (natB n) := by
  unfold nat_Of.f ofS
  rw [if_pos ⟨by omega, by omega⟩, if_neg (by omega), Int.toNat_natCast]
theorem fSmall {n : Nat} (hn : sz n ≤ 50000) (h : n ≤ 9223372036854775807) : nat_Small.f (natB n) = some ((n : Int), true) := by
  unfold nat_Small.f smallS
  rw [if_pos (sm_natB hn), mayB_natB, numB_natB, Bool.true_and, if_pos (decide_eq_true (by unfold most63; exact h))]
theorem rShort {l : List ByteArray} (h : l.length ≤ 50000) : debentureref01_Short.f l = some (l.all shortT) := by
  unfold debentureref01_Short.f
  rw [if_pos h]
theorem shortT_le {a : ByteArray} (h : shortT a = true) : a.size ≤ 200 := of_decide_eq_true h
end Go.Proofs.YtmcpiejgneegjaaDoor

end

/-
What the rows of this seat share: the listed variables as the library lays them, and the door's own heap.
-/
section
namespace Go.Proofs.YtmcpiejgneegjaaDoor
open Go.ChangeShapes Go.WideShapes Go.ChangeAt Go.RowKit Go.Lib
open Go.ChangeMaps (open_string shut_string)
set_option linter.unusedVariables false
abbrev laidL : List (String × DataW Unit) := [("math/bits.deBruijn32tab", Rows.laid_math_bits_deBruijn32tab), ("math/bits.deBruijn64tab", Rows.laid_math_bits_deBruijn64tab), ("internal/strconv.uint64pow10", Rows.laid_internal_strconv_uint64pow10), ("strconv.ErrRange", Rows.laid_strconv_ErrRange), ("strconv.ErrSyntax", Rows.laid_strconv_ErrSyntax)]
theorem own : ownKnob Tryd.prog.godebug = none := by kernel_rfl
theorem tabType : (Tryd.prog.globals[2]?).map (·.type) = some 110 := by kernel_rfl
theorem rngType : (Tryd.prog.globals[1]?).map (·.type) = some 53 := by kernel_rfl
theorem tabCells : Tryd.prog.cellsOf 110 = 20 := by kernel_rfl
theorem u64Cells : Tryd.prog.cellsOf 91 = 1 := by kernel_rfl
theorem errCells : Tryd.prog.cellsOf 108 = 1 := by kernel_rfl
theorem strCells : Tryd.prog.cellsOf 9 = 1 := by kernel_rfl
theorem starErr : "*" ++ "errors.errorString" = "*errors.errorString" := by decide
theorem rowErr (u : TypeId) (h : Tryd.prog.typeName? 3 u = some "*errors.errorString") : u = 106 :=
  typeName_ptr_named (nm := "errors.errorString") (by rw [starErr]; kernel_rfl) (by kernel_rfl) (by decide) u (by rw [starErr]; exact h)
theorem laid_tab_eq : (Rows.laid_internal_strconv_uint64pow10 : DataW Unit) = tabData .u64 pow10Tab := by kernel_rfl
/-- What the condition gives the walks. -/
theorem laid_of {W : World} (h : laidMetH Tryd.prog laidL W) : Laid W := by
  rw [MakeChecks.laidMetH_plain _ _ _ (by kernel_rfl)] at h
  have hL := h
  obtain ⟨a1, s1, hv1, -, -, -⟩ := laid_sentinel (hL.tail.tail.tail) gRng rngType Tryd.underlying53 rowErr Tryd.underlying106 Tryd.underlying108 rfl rfl Tryd.underlying9 errCells strCells
  refine ⟨tabIs_of_head gTab tabType Tryd.underlying110 Tryd.underlying91 u64Cells tabCells (by rw [← laid_tab_eq]; exact hL.tail.tail), ⟨_, _, hv1⟩⟩
/-- The door's own heap meets the condition: closed facts. -/
theorem door_met (os : Os) (args : Array Value) : laidMetH Tryd.prog laidL ((World.doorLaid Tryd.prog 4000 os).forCall (fun _ _ => 0) ⟨#[], args, []⟩).memory :=
  laidMetH_of_parts3 (fuel := 8) (laidMet_of_run' 8 (by kernel_rfl) (by kernel_rfl)) (by kernel_rfl) (by kernel_rfl)
end Go.Proofs.YtmcpiejgneegjaaDoor

end
