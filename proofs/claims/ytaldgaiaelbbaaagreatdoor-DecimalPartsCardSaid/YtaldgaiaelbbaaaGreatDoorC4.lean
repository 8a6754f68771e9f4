/-
Parts of the proof, in build order: Px1, Px2, Px, Ref2May, PuCom, NumW, RatW, GcdS, NatGcd, NumGcd, Py0, Py1, Py2, Py, RatApi, RatDone, Ref2Done, RefGcd, Pz0, Pz1, Pz2, Pz3, Pz4, Pz5, Pz, Ref3Api, Ref3Done, NumR0, Ref3Of, NumG0.
-/
import Derived.Test.YtaldgaiaelbbaaaGreatDoorC1
import Derived.Test.YtaldgaiaelbbaaaGreatDoorC3
import Derived.Test.YtaldgaiaelbbaaaGreatDoorC2
import Derived.Test.YtaldgaiaelbbaaaGreatDoorProg
import Derived.Below
import Derived.Deep.Draws
import Derived.Deep.AppendLies
import Derived.Maps.AppendAt
import Derived.OwnWalk
import Derived.Laws.BytesArg
import Derived.Laws.MakeOwn
import Derived.Laws.OwnMore
import Derived.Deep.OwnRows
import Derived.Tactics
import Derived.Lib.ConvBytes
import Derived.Laws.Slices
import Derived.WalkKit
import Derived.KernelRfl
import Derived.RowKit3
import Derived.Deep.LoopGhost
import Derived.Deep.QuietTactic
import Derived.BigQuiet
import Derived.WideLaws
import Derived.Deep.DeepCutAuto
import Derived.Deep.CutBlock
import Derived.Deep.RegionHeld3
import Derived.Laws.Rows
import Derived.Lib.AppendStr
import Derived.ArgAppend
import Derived.Laws.IdiomCopy
import Derived.OrdersHeld
import Derived.Laws.BitsLemmas
import Derived.RowKit
import Derived.Test.YtaldgaiaelbbaaaGreatDoorC0
set_option linter.unusedVariables false
set_option linter.unusedSimpArgs false
open Go.RowKit Go.Proofs.YtaldgaiaelbbaaaGreatDoorW.PrintWords Go.Proofs.YtaldgaiaelbbaaaGreatDoorW.PrintLast Go.Proofs.YtaldgaiaelbbaaaGreatDoorW.PrintMore
attribute [local go_sem] max2_int min2_int max_two min_two max_three min_three max_four min_four   -- for this text's walks alone
section
namespace Go.Proofs.YtaldgaiaelbbaaaGreatDoor.Px
def r2_amount.f (a0 : ByteArray) : Option (ByteArray × Bool) := if (a0.size : Int) > 0 then (if 0 < (a0.size : Int) then (if (bt a0 0) = 45 then (if 1 ≤ (a0.size : Int) then (some (a0.extract 1 a0.size, true)) else (none)) else (some (a0, false))) else (none)) else (some (a0, false))
set_option maxHeartbeats 8000000 in
set_option maxRecDepth 100000 in
theorem r2_amount.calls (a0 : ByteArray) (r1 : ByteArray) (r2 : Bool) (w : World) (h : r2_amount.f a0 = some (r1, r2)) :
  Calls Tryz.prog 60 #[.string a0] w fun e w' => e = .returned (.tuple #[.string r1, .bool r2]) ∧ Drawn0 w w' := by
 have H := h; unfold r2_amount.f at H; clear h; by_cases c2 : (a0.size : Int) > 0
 ·rw [if_pos c2] at H; have c2b0 : decide (0 < (a0.size : Int)) = true := decide_eq_true c2; have c2b1 : decide (0 < a0.size) = true := decide_eq_true (by omega); clear c2; by_cases c3 : 0 < (a0.size : Int)
  ·rw [if_pos c3] at H; have c3b0 : decide (0 < (a0.size : Int)) = true := decide_eq_true c3; have c3b1 : decide (0 < a0.size) = true := decide_eq_true (by omega); clear c3; by_cases c5 : (bt a0 0) = 45
   ·rw [if_pos c5] at H; have c5b0 : ((bt a0 0) == 45) = true := beq_iff_eq.mpr c5; have c5b1 : ((bt a0 0) != 45) = false := bne_eq_false_iff_eq.mpr c5; clear c5; by_cases c6 : 1 ≤ (a0.size : Int)
    ·rw [if_pos c6] at H; have c6b0 := eq_true c6; have c6b1 : decide (1 ≤ (a0.size : Int)) = true := decide_eq_true c6; clear c6; simp only [Option.some.injEq, Prod.mk.injEq] at H; obtain ⟨rfl, rfl⟩ := H; have p4 : 0 ≤ (0 : Int) := (by omega); have q4 : 0 < a0.size := (by have : (0 : Int) < (a0.size : Int) := of_decide_eq_true as_f; omega); have hx4 : ∀ h : 0 < a0.size, ((a0[0]'h).toNat : Int) = bt a0 0 := bt_at a0 0; clear p4; have qi4 : (0 < (a0.size : Int)) = True := eq_true (of_decide_eq_true as_f); replace q4 := eq_true q4; go_enter Tryz.func60, Tryz.ntmps60; go_wp2; go_ret2; exact ⟨by first | rfl | (simp; done) | (simp [*]; done), d0_⟩
    ·rw [if_neg c6] at H; exact absurd H (by simp)
   ·rw [if_neg c5] at H; have c5b0 : ((bt a0 0) == 45) = false := beq_eq_false_iff_ne.mpr c5; have c5b1 : ((bt a0 0) != 45) = true := bne_iff_ne.mpr c5; simp only [Option.some.injEq, Prod.mk.injEq] at H; obtain ⟨rfl, rfl⟩ := H; have p4 : 0 ≤ (0 : Int) := (by omega); have q4 : 0 < a0.size := (by have : (0 : Int) < (a0.size : Int) := of_decide_eq_true as_f; omega); have hx4 : ∀ h : 0 < a0.size, ((a0[0]'h).toNat : Int) = bt a0 0 := bt_at a0 0; clear p4; have qi4 : (0 < (a0.size : Int)) = True := eq_true (of_decide_eq_true as_f); replace q4 := eq_true q4; go_enter Tryz.func60, Tryz.ntmps60; go_wp2; go_ret2; exact ⟨by first | rfl | (simp; done) | (simp [*]; done), d0_⟩
  ·rw [if_neg c3] at H; exact absurd H (by simp)
 ·rw [if_neg c2] at H; have c2b0 : decide (0 < (a0.size : Int)) = false := decide_eq_false c2; have c2b1 : decide (0 < a0.size) = false := decide_eq_false (by omega); clear c2; simp only [Option.some.injEq, Prod.mk.injEq] at H; obtain ⟨rfl, rfl⟩ := H; go_enter Tryz.func60, Tryz.ntmps60; go_wp2; go_ret2; exact ⟨by first | rfl | (simp; done) | (simp [*]; done), d0_⟩
def r2_May.f (a0 : ByteArray) : Option (Bool) := (r2_amount.f a0).bind fun bt101 => ((r1_May.f bt101.1).bind fun t103 => (if t103 = true then (if bt101.2 = true then (some (bt101.1.toList != ([48] : List UInt8))) else (some true)) else (some false)))
set_option maxHeartbeats 8000000 in
set_option maxRecDepth 100000 in
theorem r2_May.calls (a0 : ByteArray) (r : Bool) (w : World) (h : r2_May.f a0 = some r) :
  Calls Tryz.prog 59 #[.string a0] w fun e w' => e = .returned (.bool r) ∧ Below w.heap.size w w' := by
 have HB := Aside0.mk (Below.refl w.heap.size w); have H := h; unfold r2_May.f at H; clear h; obtain ⟨⟨t101, t102⟩, A2, H⟩ := bi_ H; (try dsimp only at H); obtain ⟨t103, A3, H⟩ := bi_ H; by_cases c4 : t103 = true
 ·subst c4; rw [if_pos rfl] at H; by_cases c5 : t102 = true
  ·subst c5; rw [if_pos rfl] at H; obtain rfl := Option.some.inj H; go_enter Tryz.func59, Tryz.ntmps59
   go_wp2_with (first | (refine gl_ 7 Tryz.func60 #[.string a0] ?_; refine mo_ (r2_amount.calls a0 t101 true _ A2.out) ?_; rintro w' ⟨nd, rfl⟩) | (refine gl_ 11 Tryz.func68 #[.string t101] ?_; refine mo_ (r1_May.calls t101 true _ A3.out) ?_; intro w6 hb; replace HB := bs_ HB hb; (try clear hb); (try clear hb2); (try clear hk); (try clear hi)))
   go_ret
   exact ⟨er_, b_ HB.out⟩
  ·replace c5 := Bool.eq_false_iff.mpr c5; subst c5; rw [if_neg nf_] at H; obtain rfl := Option.some.inj H; go_enter Tryz.func59, Tryz.ntmps59
   go_wp2_with (first | (refine gl_ 7 Tryz.func60 #[.string a0] ?_; refine mo_ (r2_amount.calls a0 t101 false _ A2.out) ?_; rintro w' ⟨nd, rfl⟩) | (refine gl_ 11 Tryz.func68 #[.string t101] ?_; refine mo_ (r1_May.calls t101 true _ A3.out) ?_; intro w7 hb; replace HB := bs_ HB hb; (try clear hb); (try clear hb2); (try clear hk); (try clear hi)))
   go_ret
   exact ⟨er_, b_ HB.out⟩
 ·replace c4 := Bool.eq_false_iff.mpr c4; subst c4; rw [if_neg nf_] at H; obtain rfl := Option.some.inj H; go_enter Tryz.func59, Tryz.ntmps59
  go_wp2_with (first | (refine gl_ 7 Tryz.func60 #[.string a0] ?_; refine mo_ (r2_amount.calls a0 t101 t102 _ A2.out) ?_; rintro w' ⟨nd, rfl⟩) | (refine gl_ 11 Tryz.func68 #[.string t101] ?_; refine mo_ (r1_May.calls t101 false _ A3.out) ?_; intro w8 hb; replace HB := bs_ HB hb; (try clear hb); (try clear hb2); (try clear hk); (try clear hi)))
  go_ret
  exact ⟨er_, b_ HB.out⟩
def r2_Of.f (a0 : Int) : Option (ByteArray) := if a0 < 0 then ((r1_Of.f (wrap64 (-(wrap64 (a0 + 1))))).bind fun t104 => ((r1_Add.f t104 (⟨#[49]⟩ : ByteArray)).bind fun t105 => (if 1 + t105.size ≤ 9223372036854775807 then (some ((⟨#[45]⟩ : ByteArray) ++ t105)) else (none)))) else ((r1_Of.f a0).bind fun t106 => (some t106))
set_option maxHeartbeats 8000000 in
set_option maxRecDepth 100000 in
theorem r2_Of.calls (a0 : Int) (r : ByteArray) (w : World) (h : r2_Of.f a0 = some r) :
  Calls Tryz.prog 50 #[.int .i64 a0] w fun e w' => e = .returned (.string r) ∧ Below w.heap.size w w' := by
 have HB := Aside0.mk (Below.refl w.heap.size w); have H := h; unfold r2_Of.f at H; clear h; by_cases c2 : a0 < 0
 ·rw [if_pos c2] at H; have c2b0 : decide (a0 < 0) = true := decide_eq_true c2; clear c2; obtain ⟨t104, A3, H⟩ := bi_ H; obtain ⟨t105, A4, H⟩ := bi_ H; by_cases c5 : 1 + t105.size ≤ 9223372036854775807
  ·rw [if_pos c5] at H; have c5b0 := eq_true c5; have c5b1 : decide (1 + t105.size ≤ 9223372036854775807) = true := decide_eq_true c5
   try have c5b2 : (9223372036854775807 < 1 + t105.size) = False := eq_false (Nat.not_lt.2 c5)
   obtain rfl := Option.some.inj H; go_enter Tryz.func50, Tryz.ntmps50
   go_wp2_with (first | (refine gl_ 8 Tryz.func84 #[.int .i64 (wrap64 (-(wrap64 (a0 + 1))))] ?_; refine mo_ (r1_Of.calls (wrap64 (-(wrap64 (a0 + 1)))) t104 _ A3.out) ?_; intro w6 hb; replace HB := bs_ HB hb; (try clear hb); (try clear hb2); (try clear hk); (try clear hi)) | (refine gl_ 9 Tryz.func83 #[.string t104, .string (⟨#[49]⟩ : ByteArray)] ?_; refine mo_ (r1_Add.calls t104 (⟨#[49]⟩ : ByteArray) t105 _ A4.out) ?_; intro w7 hb; replace HB := bs_ HB hb; (try clear hb); (try clear hb2); (try clear hk); (try clear hi)))
   go_ret
   exact ⟨er_, b_ HB.out⟩
  ·rw [if_neg c5] at H; exact absurd H (by simp)
 ·rw [if_neg c2] at H; have c2b0 : decide (a0 < 0) = false := decide_eq_false c2; clear c2; obtain ⟨t106, A8, H⟩ := bi_ H; obtain rfl := Option.some.inj H; go_enter Tryz.func50, Tryz.ntmps50
  go_wp2_with (first | (refine gl_ 12 Tryz.func84 #[.int .i64 a0] ?_; refine mo_ (r1_Of.calls a0 t106 _ A8.out) ?_; intro w9 hb; replace HB := bs_ HB hb; (try clear hb); (try clear hb2); (try clear hk); (try clear hi)))
  go_ret
  exact ⟨er_, b_ HB.out⟩
def r2_Sign.j0 : Nat → Bool → Bool → Option (Int)
 | 0, _, _ => none
 | k + 1, x4, x16 => if x16 = true then (some 0) else (if x4 = true then (some (-1)) else (some 1))
def r2_Sign.f (k : Nat) (a0 : ByteArray) : Option (Int) := (r2_amount.f a0).bind fun bt107 => ((r2_May.f a0).bind fun t109 => (if t109 = true then (r2_Sign.j0 k bt107.2 (bt107.1.toList == ([48] : List UInt8))) else (r2_Sign.j0 k bt107.2 true)))
set_option maxHeartbeats 8000000 in
set_option maxRecDepth 100000 in
theorem r2_Sign.calls (k : Nat) (a0 : ByteArray) (r : Int) (w : World) (h : r2_Sign.f k a0 = some r) :
  Calls Tryz.prog 62 #[.string a0] w fun e w' => e = .returned (.int .i64 r) ∧ Below w.heap.size w w' := by
 have HB := Aside0.mk (Below.refl w.heap.size w); have H := h; unfold r2_Sign.f at H; clear h; obtain ⟨⟨t107, t108⟩, A2, H⟩ := bi_ H; (try dsimp only at H); have HC3 := Aside0.mk H; clear H; go_enter Tryz.func62, Tryz.ntmps62
 go_upto_region 2 with (first | (refine gl_ 7 Tryz.func60 #[.string a0] ?_; refine mo_ (r2_amount.calls a0 t107 t108 _ A2.out) ?_; rintro w' ⟨nd, rfl⟩))
 (try simp only [Act.put, List.setIfInBounds_toArray, List.set_cons_zero, List.set_cons_succ])
 go_cut [16] (fun v16 wc => ∃ (kq : Nat) (x16_2 : Bool), v16 = .bool x16_2 ∧ Aside0 (r2_Sign.j0 kq t108 x16_2 = some r) ∧ Aside0 (kq ≤ k) ∧ Aside0 (Below w.heap.size w wc))
 case first =>
  have H := HC3.out; clear HC3; obtain ⟨t109, A4, H⟩ := bi_ H; by_cases c5 : t109 = true
  ·subst c5; rw [if_pos rfl] at H; have H' := Aside0.mk H; clear H
   go_wp2_with (first | (refine gl_ 11 Tryz.func59 #[.string a0] ?_; refine mo_ (r2_May.calls a0 true _ A4.out) ?_; intro w6 hb; replace HB := bs_ HB hb; (try clear hb); (try clear hb2); (try clear hk); (try clear hi)))
   go_meet
   case rel => exact ⟨_, ((t107.toList == ([48] : List UInt8))), rl_, H', ⟨by first | omega | exact Nat.le_refl _⟩, ⟨b_ HB.out⟩⟩
  ·replace c5 := Bool.eq_false_iff.mpr c5; subst c5; rw [if_neg nf_] at H; have H' := Aside0.mk H; clear H
   go_wp2_with (first | (refine gl_ 11 Tryz.func59 #[.string a0] ?_; refine mo_ (r2_May.calls a0 false _ A4.out) ?_; intro w7 hb; replace HB := bs_ HB hb; (try clear hb); (try clear hb2); (try clear hk); (try clear hi)))
   go_meet
   case rel => exact ⟨_, (true), rl_, H', ⟨by first | omega | exact Nat.le_refl _⟩, ⟨b_ HB.out⟩⟩
 case rest =>
  clear HC3; (try clear p2); (try clear c5); (try clear c6); obtain ⟨kq, x16_2, rfl, HA, HJ2, HB⟩ := hcut
  cases kq with
  | zero => exact absurd HA.out (by simp [r2_Sign.j0])
  | succ kj2 =>
   have H := HA.out; clear HA; simp only [r2_Sign.j0] at H; by_cases c8 : x16_2 = true
   ·subst c8; rw [if_pos rfl] at H; obtain rfl := Option.some.inj H; go_wp2
    go_ret
    exact ⟨er_, b_ HB.out⟩
   ·replace c8 := Bool.eq_false_iff.mpr c8; subst c8; rw [if_neg nf_] at H; by_cases c9 : t108 = true
    ·subst c9; rw [if_pos rfl] at H; obtain rfl := Option.some.inj H; go_wp2
     go_ret
     exact ⟨er_, b_ HB.out⟩
    ·replace c9 := Bool.eq_false_iff.mpr c9; subst c9; rw [if_neg nf_] at H; obtain rfl := Option.some.inj H; go_wp2
     go_ret
     exact ⟨er_, b_ HB.out⟩
def r2_Abs.f (a0 : ByteArray) : Option (ByteArray) := (r2_May.f a0).bind fun t110 => (if t110 = true then ((r2_amount.f a0).bind fun bt111 => (some bt111.1)) else (some (⟨#[]⟩ : ByteArray)))
set_option maxHeartbeats 8000000 in
set_option maxRecDepth 100000 in
theorem r2_Abs.calls (a0 : ByteArray) (r : ByteArray) (w : World) (h : r2_Abs.f a0 = some r) :
  Calls Tryz.prog 45 #[.string a0] w fun e w' => e = .returned (.string r) ∧ Below w.heap.size w w' := by
 have HB := Aside0.mk (Below.refl w.heap.size w); have H := h; unfold r2_Abs.f at H; clear h; obtain ⟨t110, A2, H⟩ := bi_ H; by_cases c3 : t110 = true
 ·subst c3; rw [if_pos rfl] at H; obtain ⟨⟨t111, t112⟩, A4, H⟩ := bi_ H; (try dsimp only at H); obtain rfl := Option.some.inj H; go_enter Tryz.func45, Tryz.ntmps45
  go_wp2_with (first | (refine gl_ 6 Tryz.func59 #[.string a0] ?_; refine mo_ (r2_May.calls a0 true _ A2.out) ?_; intro w5 hb; replace HB := bs_ HB hb; (try clear hb); (try clear hb2); (try clear hk); (try clear hi)) | (refine gl_ 10 Tryz.func60 #[.string a0] ?_; refine mo_ (r2_amount.calls a0 t111 t112 _ A4.out) ?_; rintro w' ⟨nd, rfl⟩))
  go_ret
  exact ⟨er_, b_ HB.out⟩
 ·replace c3 := Bool.eq_false_iff.mpr c3; subst c3; rw [if_neg nf_] at H; obtain rfl := Option.some.inj H; go_enter Tryz.func45, Tryz.ntmps45
  go_wp2_with (first | (refine gl_ 6 Tryz.func59 #[.string a0] ?_; refine mo_ (r2_May.calls a0 false _ A2.out) ?_; intro w6 hb; replace HB := bs_ HB hb; (try clear hb); (try clear hb2); (try clear hk); (try clear hi)))
  go_ret
  exact ⟨er_, b_ HB.out⟩
def r2_with.f (a0 : ByteArray) (a1 : Bool) : Option (ByteArray) := if a1 = true then (if a0.toList = ([48] : List UInt8) then (some a0) else (if 1 + a0.size ≤ 9223372036854775807 then (some ((⟨#[45]⟩ : ByteArray) ++ a0)) else (none))) else (some a0)
set_option maxHeartbeats 8000000 in
set_option maxRecDepth 100000 in
theorem r2_with.calls (a0 : ByteArray) (a1 : Bool) (r : ByteArray) (w : World) (h : r2_with.f a0 a1 = some r) :
  Calls Tryz.prog 61 #[.string a0, .bool a1] w fun e w' => e = .returned (.string r) ∧ Drawn0 w w' := by
 have H := h; unfold r2_with.f at H; clear h; by_cases c3 : a1 = true
 ·subst c3; rw [if_pos rfl] at H; by_cases c4 : a0.toList = ([48] : List UInt8)
  ·rw [if_pos c4] at H; have c4b0 : (a0.toList == ([48] : List UInt8)) = true := beq_iff_eq.mpr c4; have c4b1 : (a0.toList != ([48] : List UInt8)) = false := bne_eq_false_iff_eq.mpr c4; clear c4; obtain rfl := Option.some.inj H; go_enter Tryz.func61, Tryz.ntmps61; go_wp2
   go_ret
   exact ⟨by first | rfl | (simp; done) | (simp [*]; done), d0_⟩
  ·rw [if_neg c4] at H; have c4b0 : (a0.toList == ([48] : List UInt8)) = false := beq_eq_false_iff_ne.mpr c4; have c4b1 : (a0.toList != ([48] : List UInt8)) = true := bne_iff_ne.mpr c4; by_cases c5 : 1 + a0.size ≤ 9223372036854775807
   ·rw [if_pos c5] at H; have c5b0 := eq_true c5; have c5b1 : decide (1 + a0.size ≤ 9223372036854775807) = true := decide_eq_true c5
    try have c5b2 : (9223372036854775807 < 1 + a0.size) = False := eq_false (Nat.not_lt.2 c5)
    obtain rfl := Option.some.inj H; go_enter Tryz.func61, Tryz.ntmps61; go_wp2
    go_ret
    exact ⟨by first | rfl | (simp; done) | (simp [*]; done), d0_⟩
   ·rw [if_neg c5] at H; exact absurd H (by simp)
 ·replace c3 := Bool.eq_false_iff.mpr c3; subst c3; rw [if_neg nf_] at H; obtain rfl := Option.some.inj H; go_enter Tryz.func61, Tryz.ntmps61; go_wp2
  go_ret
  exact ⟨by first | rfl | (simp; done) | (simp [*]; done), d0_⟩
def r2_Neg.f (a0 : ByteArray) : Option (ByteArray) := (r2_May.f a0).bind fun t113 => (if t113 = true then ((r2_amount.f a0).bind fun bt114 => ((r2_with.f bt114.1 (!bt114.2)).bind fun t116 => (some t116))) else (some (⟨#[]⟩ : ByteArray)))
set_option maxHeartbeats 8000000 in
set_option maxRecDepth 100000 in
theorem r2_Neg.calls (a0 : ByteArray) (r : ByteArray) (w : World) (h : r2_Neg.f a0 = some r) :
  Calls Tryz.prog 34 #[.string a0] w fun e w' => e = .returned (.string r) ∧ Below w.heap.size w w' := by
 have HB := Aside0.mk (Below.refl w.heap.size w); have H := h; unfold r2_Neg.f at H; clear h; obtain ⟨t113, A2, H⟩ := bi_ H; by_cases c3 : t113 = true
 ·subst c3; rw [if_pos rfl] at H; obtain ⟨⟨t114, t115⟩, A4, H⟩ := bi_ H; (try dsimp only at H); obtain ⟨t116, A5, H⟩ := bi_ H; obtain rfl := Option.some.inj H; go_enter Tryz.func34, Tryz.ntmps34
  go_wp2_with (first | (refine gl_ 6 Tryz.func59 #[.string a0] ?_; refine mo_ (r2_May.calls a0 true _ A2.out) ?_; intro w6 hb; replace HB := bs_ HB hb; (try clear hb); (try clear hb2); (try clear hk); (try clear hi)) | (refine gl_ 10 Tryz.func60 #[.string a0] ?_; refine mo_ (r2_amount.calls a0 t114 t115 _ A4.out) ?_; rintro w' ⟨nd, rfl⟩) | (refine gl_ 16 Tryz.func61 #[.string t114, .bool (!t115)] ?_; refine mo_ (r2_with.calls t114 (!t115) t116 _ A5.out) ?_; rintro w' ⟨nd, rfl⟩))
  go_ret
  exact ⟨er_, b_ HB.out⟩
 ·replace c3 := Bool.eq_false_iff.mpr c3; subst c3; rw [if_neg nf_] at H; obtain rfl := Option.some.inj H; go_enter Tryz.func34, Tryz.ntmps34
  go_wp2_with (first | (refine gl_ 6 Tryz.func59 #[.string a0] ?_; refine mo_ (r2_May.calls a0 false _ A2.out) ?_; intro w7 hb; replace HB := bs_ HB hb; (try clear hb); (try clear hb2); (try clear hk); (try clear hi)))
  go_ret
  exact ⟨er_, b_ HB.out⟩
def r2_Add.j0 : Nat → ByteArray → ByteArray → Bool → Option (ByteArray)
 | 0, _, _, _ => none
 | k + 1, x0, x1, x20 => if x20 = true then (some (⟨#[]⟩ : ByteArray)) else ((r2_amount.f x0).bind fun bt119 => ((r2_amount.f x1).bind fun bt121 => (if (bt119.2 == bt121.2) = true then ((r1_Add.f bt119.1 bt121.1).bind fun t123 => ((r2_with.f t123 bt119.2).bind fun t124 => (some t124))) else ((r1_Cmp.f bt119.1 bt121.1).bind fun t125 => (if t125 ≥ 0 then ((r1_Sub.f bt119.1 bt121.1).bind fun bt126 => ((r2_with.f bt126.1 bt119.2).bind fun t128 => (some t128))) else ((r1_Sub.f bt121.1 bt119.1).bind fun bt129 => ((r2_with.f bt129.1 bt121.2).bind fun t131 => (some t131))))))))
def r2_Add.f (k : Nat) (a0 : ByteArray) (a1 : ByteArray) : Option (ByteArray) := (r2_May.f a0).bind fun t117 => (if t117 = true then ((r2_May.f a1).bind fun t118 => (r2_Add.j0 k a0 a1 (!t118))) else (r2_Add.j0 k a0 a1 true))
set_option maxHeartbeats 8000000 in
set_option maxRecDepth 100000 in
theorem r2_Add.calls (k : Nat) (a0 : ByteArray) (a1 : ByteArray) (r : ByteArray) (w : World) (h : r2_Add.f k a0 a1 = some r) :
  Calls Tryz.prog 49 #[.string a0, .string a1] w fun e w' => e = .returned (.string r) ∧ Below w.heap.size w w' := by
 have HB := Aside0.mk (Below.refl w.heap.size w); have H := h; unfold r2_Add.f at H; clear h; have HC3 := Aside0.mk H; clear H; go_enter Tryz.func49, Tryz.ntmps49
 go_upto_region 1 with (fail)
 go_cut [20] (fun v20 wc => ∃ (kq : Nat) (x20_2 : Bool), v20 = .bool x20_2 ∧ Aside0 (r2_Add.j0 kq a0 a1 x20_2 = some r) ∧ Aside0 (kq ≤ k) ∧ Aside0 (Below w.heap.size w wc))
 case first =>
  have H := HC3.out; clear HC3; obtain ⟨t117, A4, H⟩ := bi_ H; by_cases c5 : t117 = true
  ·subst c5; rw [if_pos rfl] at H; obtain ⟨t118, A6, H⟩ := bi_ H; have H' := Aside0.mk H; clear H
   go_wp2_with (first | (refine gl_ 14 Tryz.func59 #[.string a0] ?_; refine mo_ (r2_May.calls a0 true _ A4.out) ?_; intro w7 hb; replace HB := bs_ HB hb; (try clear hb); (try clear hb2); (try clear hk); (try clear hi)) | (go_at_call 59; (with_reducible refine (r2_May.calls a1 t118 _ A6.out).mono ?_); rintro e w8 ⟨rfl, hb⟩; replace HB := bs_ HB hb; (try clear hb); (try clear hb2); (try clear hk); (try clear hi)))
   go_meet
   case rel => exact ⟨_, (!t118), rl_, H', ⟨by first | omega | exact Nat.le_refl _⟩, ⟨b_ HB.out⟩⟩
  ·replace c5 := Bool.eq_false_iff.mpr c5; subst c5; rw [if_neg nf_] at H; have H' := Aside0.mk H; clear H
   go_wp2_with (first | (refine gl_ 14 Tryz.func59 #[.string a0] ?_; refine mo_ (r2_May.calls a0 false _ A4.out) ?_; intro w9 hb; replace HB := bs_ HB hb; (try clear hb); (try clear hb2); (try clear hk); (try clear hi)))
   go_meet
   case rel => exact ⟨_, (true), rl_, H', ⟨by first | omega | exact Nat.le_refl _⟩, ⟨b_ HB.out⟩⟩
 case rest =>
  clear HC3; (try clear p2); (try clear c4); (try clear c5); obtain ⟨kq, x20_2, rfl, HA, HJ2, HB⟩ := hcut
  cases kq with
  | zero => exact absurd HA.out (by simp [r2_Add.j0])
  | succ kj2 =>
   have H := HA.out; clear HA; simp only [r2_Add.j0] at H; by_cases c10 : x20_2 = true
   ·subst c10; rw [if_pos rfl] at H; obtain rfl := Option.some.inj H; go_wp2
    go_ret
    exact ⟨er_, b_ HB.out⟩
   ·replace c10 := Bool.eq_false_iff.mpr c10; subst c10; rw [if_neg nf_] at H; obtain ⟨⟨t119, t120⟩, A11, H⟩ := bi_ H; (try dsimp only at H); obtain ⟨⟨t121, t122⟩, A12, H⟩ := bi_ H; (try dsimp only at H); by_cases c13 : (t120 == t122) = true
    ·rw [if_pos c13] at H; have c13b0 : (t120 == t122) = true := c13; (try (have c13b1 : decide (t120 = t122) = true := by simpa using c13)); (try (have c13b2 : (t120 == t122) = true := by simpa using c13)); clear c13; obtain ⟨t123, A14, H⟩ := bi_ H; obtain ⟨t124, A15, H⟩ := bi_ H; obtain rfl := Option.some.inj H
     go_wp2_with (first | (refine gl_ 23 Tryz.func60 #[.string a0] ?_; refine mo_ (r2_amount.calls a0 t119 t120 _ A11.out) ?_; rintro w' ⟨nd, rfl⟩) | (refine gl_ 28 Tryz.func60 #[.string a1] ?_; refine mo_ (r2_amount.calls a1 t121 t122 _ A12.out) ?_; rintro w' ⟨nd, rfl⟩) | (refine gl_ 36 Tryz.func83 #[.string t119, .string t121] ?_; refine mo_ (r1_Add.calls t119 t121 t123 _ A14.out) ?_; intro w16 hb; replace HB := bs_ HB hb; (try clear hb); (try clear hb2); (try clear hk); (try clear hi)) | (refine gl_ 38 Tryz.func61 #[.string t123, .bool t120] ?_; refine mo_ (r2_with.calls t123 t120 t124 _ A15.out) ?_; rintro w' ⟨nd, rfl⟩))
     go_ret
     exact ⟨er_, b_ HB.out⟩
    ·rw [if_neg c13] at H
     have c13b0 : (t120 == t122) = false := by simpa using c13
     (try (have c13b1 : decide (t120 = t122) = false := by simpa using c13)); (try (have c13b2 : (t120 == t122) = false := by simpa using c13)); (try (have c13b3 : ¬ (t120 = t122) := by simpa using c13)); clear c13; obtain ⟨t125, A17, H⟩ := bi_ H; by_cases c18 : t125 ≥ 0
     ·rw [if_pos c18] at H; have c18b0 : decide (0 ≤ t125) = true := decide_eq_true c18; clear c18; obtain ⟨⟨t126, t127⟩, A19, H⟩ := bi_ H; (try dsimp only at H); obtain ⟨t128, A20, H⟩ := bi_ H; obtain rfl := Option.some.inj H
      go_wp2_with (first | (refine gl_ 23 Tryz.func60 #[.string a0] ?_; refine mo_ (r2_amount.calls a0 t119 t120 _ A11.out) ?_; rintro w' ⟨nd, rfl⟩) | (refine gl_ 28 Tryz.func60 #[.string a1] ?_; refine mo_ (r2_amount.calls a1 t121 t122 _ A12.out) ?_; rintro w' ⟨nd, rfl⟩) | (refine gl_ 41 Tryz.func70 #[.string t119, .string t121] ?_; refine mo_ (r1_Cmp.calls t119 t121 t125 _ A17.out) ?_; intro w21 hb; replace HB := bs_ HB hb; (try clear hb); (try clear hb2); (try clear hk); (try clear hi)) | (refine gl_ 46 Tryz.func71 #[.string t119, .string t121] ?_; refine mo_ (r1_Sub.calls t119 t121 t126 t127 _ A19.out) ?_; intro w22 hb; replace HB := bs_ HB hb; (try clear hb); (try clear hb2); (try clear hk); (try clear hi)) | (refine gl_ 51 Tryz.func61 #[.string t126, .bool t120] ?_; refine mo_ (r2_with.calls t126 t120 t128 _ A20.out) ?_; rintro w' ⟨nd, rfl⟩))
      go_ret
      exact ⟨er_, b_ HB.out⟩
     ·rw [if_neg c18] at H; have c18b0 : decide (0 ≤ t125) = false := decide_eq_false c18; clear c18; obtain ⟨⟨t129, t130⟩, A23, H⟩ := bi_ H; (try dsimp only at H); obtain ⟨t131, A24, H⟩ := bi_ H; obtain rfl := Option.some.inj H
      go_wp2_with (first | (refine gl_ 23 Tryz.func60 #[.string a0] ?_; refine mo_ (r2_amount.calls a0 t119 t120 _ A11.out) ?_; rintro w' ⟨nd, rfl⟩) | (refine gl_ 28 Tryz.func60 #[.string a1] ?_; refine mo_ (r2_amount.calls a1 t121 t122 _ A12.out) ?_; rintro w' ⟨nd, rfl⟩) | (refine gl_ 41 Tryz.func70 #[.string t119, .string t121] ?_; refine mo_ (r1_Cmp.calls t119 t121 t125 _ A17.out) ?_; intro w25 hb; replace HB := bs_ HB hb; (try clear hb); (try clear hb2); (try clear hk); (try clear hi)) | (refine gl_ 55 Tryz.func71 #[.string t121, .string t119] ?_; refine mo_ (r1_Sub.calls t121 t119 t129 t130 _ A23.out) ?_; intro w26 hb; replace HB := bs_ HB hb; (try clear hb); (try clear hb2); (try clear hk); (try clear hi)) | (refine gl_ 60 Tryz.func61 #[.string t129, .bool t122] ?_; refine mo_ (r2_with.calls t129 t122 t131 _ A24.out) ?_; rintro w' ⟨nd, rfl⟩))
      go_ret
      exact ⟨er_, b_ HB.out⟩
def r2_Mul.j0 : Nat → ByteArray → ByteArray → Bool → Option (ByteArray)
 | 0, _, _, _ => none
 | k + 1, x0, x1, x16 => if x16 = true then (some (⟨#[]⟩ : ByteArray)) else ((r2_amount.f x0).bind fun bt134 => ((r2_amount.f x1).bind fun bt136 => ((r1_Mul.f bt134.1 bt136.1).bind fun t138 => ((r2_with.f t138 (bt134.2 != bt136.2)).bind fun t139 => (some t139)))))
def r2_Mul.f (k : Nat) (a0 : ByteArray) (a1 : ByteArray) : Option (ByteArray) := (r2_May.f a0).bind fun t132 => (if t132 = true then ((r2_May.f a1).bind fun t133 => (r2_Mul.j0 k a0 a1 (!t133))) else (r2_Mul.j0 k a0 a1 true))
set_option maxHeartbeats 8000000 in
set_option maxRecDepth 100000 in
theorem r2_Mul.calls (k : Nat) (a0 : ByteArray) (a1 : ByteArray) (r : ByteArray) (w : World) (h : r2_Mul.f k a0 a1 = some r) :
  Calls Tryz.prog 47 #[.string a0, .string a1] w fun e w' => e = .returned (.string r) ∧ Below w.heap.size w w' := by
 have HB := Aside0.mk (Below.refl w.heap.size w); have H := h; unfold r2_Mul.f at H; clear h; have HC3 := Aside0.mk H; clear H; go_enter Tryz.func47, Tryz.ntmps47
 go_upto_region 1 with (fail)
 go_cut [16] (fun v16 wc => ∃ (kq : Nat) (x16_2 : Bool), v16 = .bool x16_2 ∧ Aside0 (r2_Mul.j0 kq a0 a1 x16_2 = some r) ∧ Aside0 (kq ≤ k) ∧ Aside0 (Below w.heap.size w wc))
 case first =>
  have H := HC3.out; clear HC3; obtain ⟨t132, A4, H⟩ := bi_ H; by_cases c5 : t132 = true
  ·subst c5; rw [if_pos rfl] at H; obtain ⟨t133, A6, H⟩ := bi_ H; have H' := Aside0.mk H; clear H
   go_wp2_with (first | (refine gl_ 10 Tryz.func59 #[.string a0] ?_; refine mo_ (r2_May.calls a0 true _ A4.out) ?_; intro w7 hb; replace HB := bs_ HB hb; (try clear hb); (try clear hb2); (try clear hk); (try clear hi)) | (go_at_call 59; (with_reducible refine (r2_May.calls a1 t133 _ A6.out).mono ?_); rintro e w8 ⟨rfl, hb⟩; replace HB := bs_ HB hb; (try clear hb); (try clear hb2); (try clear hk); (try clear hi)))
   go_meet
   case rel => exact ⟨_, (!t133), rl_, H', ⟨by first | omega | exact Nat.le_refl _⟩, ⟨b_ HB.out⟩⟩
  ·replace c5 := Bool.eq_false_iff.mpr c5; subst c5; rw [if_neg nf_] at H; have H' := Aside0.mk H; clear H
   go_wp2_with (first | (refine gl_ 10 Tryz.func59 #[.string a0] ?_; refine mo_ (r2_May.calls a0 false _ A4.out) ?_; intro w9 hb; replace HB := bs_ HB hb; (try clear hb); (try clear hb2); (try clear hk); (try clear hi)))
   go_meet
   case rel => exact ⟨_, (true), rl_, H', ⟨by first | omega | exact Nat.le_refl _⟩, ⟨b_ HB.out⟩⟩
 case rest =>
  clear HC3; (try clear p2); (try clear c4); (try clear c5); obtain ⟨kq, x16_2, rfl, HA, HJ2, HB⟩ := hcut
  cases kq with
  | zero => exact absurd HA.out (by simp [r2_Mul.j0])
  | succ kj2 =>
   have H := HA.out; clear HA; simp only [r2_Mul.j0] at H; by_cases c10 : x16_2 = true
   ·subst c10; rw [if_pos rfl] at H; obtain rfl := Option.some.inj H; go_wp2
    go_ret
    exact ⟨er_, b_ HB.out⟩
   ·replace c10 := Bool.eq_false_iff.mpr c10; subst c10; rw [if_neg nf_] at H; obtain ⟨⟨t134, t135⟩, A11, H⟩ := bi_ H; (try dsimp only at H); obtain ⟨⟨t136, t137⟩, A12, H⟩ := bi_ H; (try dsimp only at H); obtain ⟨t138, A13, H⟩ := bi_ H; obtain ⟨t139, A14, H⟩ := bi_ H; obtain rfl := Option.some.inj H
    go_wp2_with (first | (refine gl_ 19 Tryz.func60 #[.string a0] ?_; refine mo_ (r2_amount.calls a0 t134 t135 _ A11.out) ?_; rintro w' ⟨nd, rfl⟩) | (refine gl_ 24 Tryz.func60 #[.string a1] ?_; refine mo_ (r2_amount.calls a1 t136 t137 _ A12.out) ?_; rintro w' ⟨nd, rfl⟩) | (refine gl_ 29 Tryz.func48 #[.string t134, .string t136] ?_; refine mo_ (r1_Mul.calls t134 t136 t138 _ A13.out) ?_; intro w15 hb; replace HB := bs_ HB hb; (try clear hb); (try clear hb2); (try clear hk); (try clear hi)) | (refine gl_ 33 Tryz.func61 #[.string t138, .bool (t135 != t137)] ?_; refine mo_ (r2_with.calls t138 (t135 != t137) t139 _ A14.out) ?_; rintro w' ⟨nd, rfl⟩))
    go_ret
    exact ⟨er_, b_ HB.out⟩
end Go.Proofs.YtaldgaiaelbbaaaGreatDoor.Px
end

section
namespace Go.Proofs.YtaldgaiaelbbaaaGreatDoor.Px
mutual
def r2_Div.j0 : Nat → ByteArray → ByteArray → Bool → Option (ByteArray × ByteArray × Bool)
 | 0, _, _, _ => none
 | k + 1, x0, x1, x27 => if x27 = true then (some ((⟨#[]⟩ : ByteArray), (⟨#[]⟩ : ByteArray), false)) else ((r2_amount.f x0).bind fun bt142 => ((r2_amount.f x1).bind fun bt144 => ((r1_Div.f bt142.1 bt144.1).bind fun bt146 => (if bt142.2 = true then (r2_Div.j1 k bt142.2 bt144.1 bt144.2 bt146.1 bt146.2.1 (bt146.2.1.toList != ([48] : List UInt8))) else (r2_Div.j1 k bt142.2 bt144.1 bt144.2 bt146.1 bt146.2.1 false)))))
def r2_Div.j1 : Nat → Bool → ByteArray → Bool → ByteArray → ByteArray → Bool → Option (ByteArray × ByteArray × Bool)
 | 0, _, _, _, _, _, _ => none
 | k + 1, x8, x9, x10, x11, x12, x49 => if x49 = true then ((r1_Add.f x11 (⟨#[49]⟩ : ByteArray)).bind fun t149 => ((r1_Sub.f x9 x12).bind fun bt150 => ((r2_with.f t149 (x8 != x10)).bind fun t152 => (some (t152, bt150.1, true))))) else ((r2_with.f x11 (x8 != x10)).bind fun t153 => (some (t153, x12, true)))
end
def r2_Div.f (k : Nat) (a0 : ByteArray) (a1 : ByteArray) : Option (ByteArray × ByteArray × Bool) := (r2_May.f a0).bind fun t140 => (if t140 = true then ((r2_May.f a1).bind fun t141 => (if t141 = true then (r2_Div.j0 k a0 a1 (a1.toList == ([48] : List UInt8))) else (r2_Div.j0 k a0 a1 true))) else (r2_Div.j0 k a0 a1 true))
set_option maxHeartbeats 8000000 in
set_option maxRecDepth 100000 in
theorem r2_Div.calls (k : Nat) (a0 : ByteArray) (a1 : ByteArray) (r1 : ByteArray) (r2 : ByteArray) (r3 : Bool) (w : World) (h : r2_Div.f k a0 a1 = some (r1, r2, r3)) :
  Calls Tryz.prog 64 #[.string a0, .string a1] w fun e w' => e = .returned (.tuple #[.string r1, .string r2, .bool r3]) ∧ Below w.heap.size w w' := by
 have HB := Aside0.mk (Below.refl w.heap.size w); have H := h; unfold r2_Div.f at H; clear h; have HC3 := Aside0.mk H; clear H; go_enter Tryz.func64, Tryz.ntmps64
 go_upto_region 1 with (fail)
 go_cut [27] (fun v27 wc => ∃ (kq : Nat) (x27_2 : Bool), v27 = .bool x27_2 ∧ Aside0 (r2_Div.j0 kq a0 a1 x27_2 = some (r1, r2, r3)) ∧ Aside0 (kq ≤ k) ∧ Aside0 (Below w.heap.size w wc))
 case first =>
  have H := HC3.out; clear HC3; obtain ⟨t140, A4, H⟩ := bi_ H; by_cases c5 : t140 = true
  ·subst c5; rw [if_pos rfl] at H; obtain ⟨t141, A6, H⟩ := bi_ H; by_cases c7 : t141 = true
   ·subst c7; rw [if_pos rfl] at H; have H' := Aside0.mk H; clear H
    go_wp2_with (first | (refine gl_ 17 Tryz.func59 #[.string a0] ?_; refine mo_ (r2_May.calls a0 true _ A4.out) ?_; intro w8 hb; replace HB := bs_ HB hb; (try clear hb); (try clear hb2); (try clear hk); (try clear hi)) | (go_at_call 59; (with_reducible refine (r2_May.calls a1 true _ A6.out).mono ?_); rintro e w9 ⟨rfl, hb⟩; replace HB := bs_ HB hb; (try clear hb); (try clear hb2); (try clear hk); (try clear hi)))
    go_meet
    case rel => exact ⟨_, ((a1.toList == ([48] : List UInt8))), rl_, H', ⟨by first | omega | exact Nat.le_refl _⟩, ⟨b_ HB.out⟩⟩
   ·replace c7 := Bool.eq_false_iff.mpr c7; subst c7; rw [if_neg nf_] at H; have H' := Aside0.mk H; clear H
    go_wp2_with (first | (refine gl_ 17 Tryz.func59 #[.string a0] ?_; refine mo_ (r2_May.calls a0 true _ A4.out) ?_; intro w10 hb; replace HB := bs_ HB hb; (try clear hb); (try clear hb2); (try clear hk); (try clear hi)) | (go_at_call 59; (with_reducible refine (r2_May.calls a1 false _ A6.out).mono ?_); rintro e w11 ⟨rfl, hb⟩; replace HB := bs_ HB hb; (try clear hb); (try clear hb2); (try clear hk); (try clear hi)))
    go_meet
    case rel => exact ⟨_, (true), rl_, H', ⟨by first | omega | exact Nat.le_refl _⟩, ⟨b_ HB.out⟩⟩
  ·replace c5 := Bool.eq_false_iff.mpr c5; subst c5; rw [if_neg nf_] at H; have H' := Aside0.mk H; clear H
   go_wp2_with (first | (refine gl_ 17 Tryz.func59 #[.string a0] ?_; refine mo_ (r2_May.calls a0 false _ A4.out) ?_; intro w12 hb; replace HB := bs_ HB hb; (try clear hb); (try clear hb2); (try clear hk); (try clear hi)))
   go_meet
   case rel => exact ⟨_, (true), rl_, H', ⟨by first | omega | exact Nat.le_refl _⟩, ⟨b_ HB.out⟩⟩
 case rest =>
  clear HC3; (try clear p2); (try clear c5); (try clear c6); (try clear c7); obtain ⟨kq, x27_2, rfl, HA, HJ2, HB⟩ := hcut
  cases kq with
  | zero => exact absurd HA.out (by simp [r2_Div.j0])
  | succ kj2 =>
   have H := HA.out; clear HA; simp only [r2_Div.j0] at H; by_cases c13 : x27_2 = true
   ·subst c13; rw [if_pos rfl] at H; simp only [Option.some.injEq, Prod.mk.injEq] at H; obtain ⟨rfl, rfl, rfl⟩ := H; go_wp2
    go_ret3
    exact ⟨er_, b_ HB.out⟩
   ·replace c13 := Bool.eq_false_iff.mpr c13; subst c13; rw [if_neg nf_] at H; obtain ⟨⟨t142, t143⟩, A14, H⟩ := bi_ H; (try dsimp only at H); obtain ⟨⟨t144, t145⟩, A15, H⟩ := bi_ H; (try dsimp only at H); obtain ⟨⟨t146, t147, t148⟩, A16, H⟩ := bi_ H; (try dsimp only at H); have HC17 := Aside0.mk H; clear H
    go_upto_region 6 with (first | (refine gl_ 30 Tryz.func60 #[.string a0] ?_; refine mo_ (r2_amount.calls a0 t142 t143 _ A14.out) ?_; rintro w' ⟨nd, rfl⟩) | (refine gl_ 35 Tryz.func60 #[.string a1] ?_; refine mo_ (r2_amount.calls a1 t144 t145 _ A15.out) ?_; rintro w' ⟨nd, rfl⟩) | (refine gl_ 41 Tryz.func39 #[.string t142, .string t144] ?_; refine mo_ (r1_Div.calls t142 t144 t146 t147 t148 _ A16.out) ?_; intro w18 hb; replace HB := bs_ HB hb; (try clear hb); (try clear hb2); (try clear hk); (try clear hi)))
    (try simp only [Act.put, List.setIfInBounds_toArray, List.set_cons_zero, List.set_cons_succ])
    go_cut [49] (fun v49 wc => ∃ (kq : Nat) (x49_16 : Bool), v49 = .bool x49_16 ∧ Aside0 (r2_Div.j1 kq t143 t144 t145 t146 t147 x49_16 = some (r1, r2, r3)) ∧ Aside0 (kq ≤ kj2) ∧ Aside0 (Below w.heap.size w wc))
    case first =>
     have H := HC17.out; clear HC17; by_cases c19 : t143 = true
     ·subst c19; rw [if_pos rfl] at H; have H' := Aside0.mk H; clear H; go_wp2
      go_meet
      case rel => exact ⟨_, ((t147.toList != ([48] : List UInt8))), rl_, H', ⟨by have := HJ2.out; first | omega | exact Nat.le_refl _⟩, ⟨b_ HB.out⟩⟩
     ·replace c19 := Bool.eq_false_iff.mpr c19; subst c19; rw [if_neg nf_] at H; have H' := Aside0.mk H; clear H; go_wp2
      go_meet
      case rel => exact ⟨_, (false), rl_, H', ⟨by have := HJ2.out; first | omega | exact Nat.le_refl _⟩, ⟨b_ HB.out⟩⟩
    case rest =>
     clear HC17; (try clear c1); (try clear p2); (try clear c3); (try clear c5); (try clear c6); (try clear c7); (try clear c13); (try clear c19); (try clear p2); obtain ⟨kq, x49_16, rfl, HA, HJ16, HB⟩ := hcut
     cases kq with
     | zero => exact absurd HA.out (by simp [r2_Div.j1])
     | succ kj16 =>
      have H := HA.out; clear HA; simp only [r2_Div.j1] at H; by_cases c20 : x49_16 = true
      ·subst c20; rw [if_pos rfl] at H; obtain ⟨t149, A21, H⟩ := bi_ H; obtain ⟨⟨t150, t151⟩, A22, H⟩ := bi_ H; (try dsimp only at H); obtain ⟨t152, A23, H⟩ := bi_ H; simp only [Option.some.injEq, Prod.mk.injEq] at H; obtain ⟨rfl, rfl, rfl⟩ := H
       go_wp2_with (first | (refine gl_ 51 Tryz.func83 #[.string t146, .string (⟨#[49]⟩ : ByteArray)] ?_; refine mo_ (r1_Add.calls t146 (⟨#[49]⟩ : ByteArray) t149 _ A21.out) ?_; intro w24 hb; replace HB := bs_ HB hb; (try clear hb); (try clear hb2); (try clear hk); (try clear hi)) | (refine gl_ 55 Tryz.func71 #[.string t144, .string t147] ?_; refine mo_ (r1_Sub.calls t144 t147 t150 t151 _ A22.out) ?_; intro w25 hb; replace HB := bs_ HB hb; (try clear hb); (try clear hb2); (try clear hk); (try clear hi)) | (refine gl_ 63 Tryz.func61 #[.string t149, .bool (t143 != t145)] ?_; refine mo_ (r2_with.calls t149 (t143 != t145) t152 _ A23.out) ?_; rintro w' ⟨nd, rfl⟩))
       go_ret3
       exact ⟨er_, b_ HB.out⟩
      ·replace c20 := Bool.eq_false_iff.mpr c20; subst c20; rw [if_neg nf_] at H; obtain ⟨t153, A26, H⟩ := bi_ H; simp only [Option.some.injEq, Prod.mk.injEq] at H; obtain ⟨rfl, rfl, rfl⟩ := H
       go_wp2_with (first | (refine gl_ 63 Tryz.func61 #[.string t146, .bool (t143 != t145)] ?_; refine mo_ (r2_with.calls t146 (t143 != t145) t153 _ A26.out) ?_; rintro w' ⟨nd, rfl⟩))
       go_ret3
       exact ⟨er_, b_ HB.out⟩
end Go.Proofs.YtaldgaiaelbbaaaGreatDoor.Px
end

section
namespace Go.Proofs.YtaldgaiaelbbaaaGreatDoor.Px
end Go.Proofs.YtaldgaiaelbbaaaGreatDoor.Px
end

section
namespace Go.Proofs.YtaldgaiaelbbaaaGreatDoor
theorem amount_f (a : ByteArray) : Px.r2_amount.f a = some (amtB a, minusB a) := by
 unfold Px.r2_amount.f amtB minusB
 have hs := size_len a
 cases hl : a.data.toList with
 | nil =>
  rw [hl, List.length_nil] at hs
  rw [if_neg (by omega)]
  simp only [cutL]
  congr 2
  apply bext
  rw [hl]
 | cons c r =>
  rw [hl, List.length_cons] at hs
  obtain ⟨c', hc, hb⟩ := bt_get a 0 (by omega)
  have hcc : c' = c := by
   rw [hl] at hc
   exact (Option.some.inj hc).symm
  subst hcc
  have hb' : bt a 0 = (c'.toNat : Int) := hb
  rw [if_pos (by omega), if_pos (by omega), hb']
  by_cases h : c' = 45
  ·subst h
   rw [if_pos (by decide), if_pos (by omega)]
   simp only [cutL]
   congr 2
   apply bext
   rw [Lib.extract_to_end, hl]
   rfl
  ·have hn : ¬ (c'.toNat : Int) = 45 := by
    intro e
    exact h (UInt8.toNat_inj.1 (by rw [show (45 : UInt8).toNat = 45 from rfl]; omega))
   have e : cutL (c' :: r) = (c' :: r, false) := by
    unfold cutL
    split
    ·rename_i h'
     injection h' with h' _
     exact absurd h' h
    ·rfl
   rw [if_neg hn, e]
   congr 2
   apply bext
   rw [hl]
theorem amtB_size' (a : ByteArray) : (amtB a).size ≤ a.size := by
 rw [size_len, size_len, amtB_list]
 unfold cutL
 split
 ·rename_i h; rw [h]; simp
 ·exact Nat.le_refl _
theorem r2may_f {a : ByteArray} (h : a.size ≤ 50000) : Px.r2_May.f a = some (mayW a) := by
 unfold Px.r2_May.f mayW
 have hs := amtB_size' a
 rw [amount_f, Option.bind_some, rMay (a := amtB a) (by omega), Option.bind_some]
 cases hm : mayB (amtB a) with
 | false => rfl
 | true =>
  simp only [if_true, Bool.true_and]
  cases hn : minusB a with
  | false => rfl
  | true =>
   simp only [if_true, Bool.not_true, Bool.false_or]
   congr 1
   have h48 := list48 hm
   rw [← ByteArray.toList_eq] at h48
   rw [Bool.eq_iff_iff, bne_iff_ne, decide_eq_true_eq]
   exact not_congr h48
def r2_May.f (a0 : ByteArray) : Option Bool := if sm a0 = true then some (mayW a0) else none
theorem r2_May.calls (a0 : ByteArray) (r : Bool) (w : World) (h : r2_May.f a0 = some r) :
  Calls Tryz.prog 59 #[.string a0] w fun e w' => e = .returned (.bool r) ∧ Below w.heap.size w w' := by
 unfold r2_May.f at h
 split at h
 ·rename_i hp
  rw [← r2may_f (sm_le hp)] at h
  exact Px.r2_May.calls a0 r w h
 ·cases h
end Go.Proofs.YtaldgaiaelbbaaaGreatDoor
end

section
namespace Go.Proofs.YtaldgaiaelbbaaaGreatDoor
end Go.Proofs.YtaldgaiaelbbaaaGreatDoor
end

section
namespace Go.Proofs.YtaldgaiaelbbaaaGreatDoor
theorem szI_add (x y : Int) : szI (x + y) ≤ szI x + szI y + 1 := by
 have h1 := szI_le (x + y)
 have h2 := sz_mono (show (x + y).natAbs ≤ x.natAbs + y.natAbs by omega)
 have h3 := sz_add x.natAbs y.natAbs
 have h4 := le_szI x
 have h5 := le_szI y
 omega
theorem szI_neg (x : Int) : szI (-x) ≤ szI x + 1 := by
 have h1 := szI_le (-x)
 have h4 := le_szI x
 rw [Int.natAbs_neg] at h1
 omega
theorem szI_mul (x y : Int) : szI (x * y) ≤ szI x + szI y + 1 := by
 have h1 := szI_le (x * y)
 rw [Int.natAbs_mul] at h1
 have h3 := sz_mul x.natAbs y.natAbs
 have h4 := le_szI x
 have h5 := le_szI y
 omega
theorem smw2_int {x y : Int} (hx : szI x ≤ 49990) (hy : szI y ≤ 49990) : smw2 (intB x) (intB y) = true := by
 unfold smw2
 rw [show smw (intB x) = true from decide_eq_true hx, show smw (intB y) = true from decide_eq_true hy]
 rfl
theorem smw_int {x : Int} (hx : szI x ≤ 49990) : smw (intB x) = true := decide_eq_true hx
theorem gDiv {x y : Int} (hx : szI x ≤ 49990) (hy : szI y ≤ 49990) (h : y ≠ 0) : whole_Div.f (intB x) (intB y) = some (intB (x / y), intB (x % y), true) := by
 unfold whole_Div.f wdivS
 rw [if_pos (smw2_int hx hy), may2W_int, Bool.true_and, numW_int, numW_int, if_pos (decide_eq_true h)]
theorem gNeg {x : Int} (hx : szI x ≤ 49990) : whole_Neg.f (intB x) = some (intB (-x)) := by
 unfold whole_Neg.f wnegS
 rw [if_pos (smw_int hx), if_pos (mayW_int x), numW_int]
theorem gSign {x : Int} (hx : szI x ≤ 49990) : whole_Sign.f (intB x) = some (Lib.compareInt x 0) := by
 unfold whole_Sign.f wsignS
 rw [if_pos (smw_int hx), if_pos (mayW_int x), numW_int]
theorem gAbs {x : Int} (hx : szI x ≤ 49990) : whole_Abs.f (intB x) = some (intB (x.natAbs : Int)) := by
 unfold whole_Abs.f wabsS
 rw [if_pos (smw_int hx), if_pos (mayW_int x), numW_int, intB_nat]
theorem rMay2 {a : ByteArray} (h : a.size ≤ 50000) : r2_May.f a = some (mayW a) := by
 unfold r2_May.f
 rw [if_pos (show sm a = true from decide_eq_true h)]
theorem intB_toList_zero {z : Int} : (intB z).toList = [48] ↔ z = 0 := by
 have h : (intB 0).toList = [48] := by
  have e : intB 0 = natB 0 := intB_nat 0
  rw [e, ByteArray.toList_eq, natB_list, dig_small (by omega)]
  rfl
 rw [← h]
 exact intB_toList_inj
theorem intB_beq_zero (x : Int) : ((intB x).toList == ([48] : List UInt8)) = decide (x = 0) := by
 rw [Bool.eq_iff_iff, beq_iff_eq, intB_toList_zero, decide_eq_true_eq]
end Go.Proofs.YtaldgaiaelbbaaaGreatDoor
end

section
namespace Go.Proofs.YtaldgaiaelbbaaaGreatDoor
abbrev BB := ByteArray × ByteArray
def no2 : BB := (noB, noB)
def may2R (x y : BB) : Bool := mayR x && mayR y
def rmakeS (a b : ByteArray) : BB × Bool := if (may2W a b && decide (numW b ≠ 0)) = true then (rT (Rat.divInt (numW a) (numW b)), true) else (no2, false)
def rnegS (x : BB) : BB := if mayR x = true then rT (-ratR x) else no2
def raddS (x y : BB) : BB := if may2R x y = true then rT (ratR x + ratR y) else no2
def rmulS (x y : BB) : BB := if may2R x y = true then rT (ratR x * ratR y) else no2
def rdivS (x y : BB) : BB × Bool := if (may2R x y && decide (ratR y ≠ 0)) = true then (rT (ratR x / ratR y), true) else (no2, false)
def szR (q : Rat) : Nat := szI q.num + sz q.den
theorem le_szR_num (q : Rat) : szI q.num ≤ szR q := Nat.le_add_right _ _
theorem le_szR_den (q : Rat) : sz q.den ≤ szR q := Nat.le_add_left _ _
theorem szI_nat (n : Nat) : szI (n : Int) = sz n := by unfold szI sz; rw [intB_nat]
theorem sz_den_le (x : Int) {y : Int} (hy : y ≠ 0) : sz (Rat.divInt x y).den ≤ szI y := by
 have h : ((Rat.divInt x y).den : Int) ≤ (y.natAbs : Int) := by
  rw [← red_den hy]
  exact Int.ediv_le_self _ (Int.natCast_nonneg _)
 have h1 := sz_mono (show (Rat.divInt x y).den ≤ y.natAbs by omega)
 have h2 := le_szI y
 omega
theorem sz_num_le (x : Int) {y : Int} (hy : y ≠ 0) : szI (Rat.divInt x y).num ≤ szI x + 1 := by
 have h : (Rat.divInt x y).num.natAbs ≤ x.natAbs := by
  rw [← red_num hy]
  have e := Int.natAbs_ediv_le_natAbs (if y < 0 then -x else x) ((Nat.gcd x.natAbs y.natAbs : Nat) : Int)
  have e2 : (if y < 0 then -x else x).natAbs = x.natAbs := by split <;> omega
  have h3 : Int.natAbs ((if y < 0 then -x else x) / ((Nat.gcd x.natAbs y.natAbs : Nat) : Int)) = (if y < 0 then -x else x).natAbs / Nat.gcd x.natAbs y.natAbs := by
   have hd : ((Nat.gcd x.natAbs y.natAbs : Nat) : Int) ∣ (if y < 0 then -x else x) := by
    rw [Int.ofNat_dvd_left, e2]
    exact Nat.gcd_dvd_left _ _
   rw [Int.natAbs_ediv_of_dvd hd, Int.natAbs_natCast]
  rw [h3, e2]
  exact Nat.div_le_self _ _
 have h1 := sz_mono h
 have h2 := le_szI x
 have h3 := szI_le (Rat.divInt x y).num
 omega
theorem szR_divInt (x : Int) {y : Int} (hy : y ≠ 0) : szR (Rat.divInt x y) ≤ szI x + szI y + 1 := by
 have h1 := sz_den_le x hy
 have h2 := sz_num_le x hy
 unfold szR
 omega
theorem den_ne (q : Rat) : (q.den : Int) ≠ 0 := by have := q.den_nz; omega
theorem num_ne {y : Rat} (h : y ≠ 0) : y.num ≠ 0 := fun e => h (Rat.num_eq_zero.1 e)
theorem szR_div (x : Rat) {y : Rat} (hy : y ≠ 0) : szR (x / y) ≤ szR x + szR y + 10 := by
 have h := szR_divInt (x.num * (y.den : Int)) (Int.mul_ne_zero (den_ne x) (num_ne hy))
 rw [div_parts] at h
 have h2 := szI_mul x.num (y.den : Int)
 have h4 := szI_mul (x.den : Int) y.num
 rw [szI_nat] at h2 h4
 unfold szR at h ⊢
 omega
theorem szR_int (n : Int) : szR (n : Rat) = szI n + 1 := by
 unfold szR
 rw [Rat.num_intCast, Rat.den_intCast]
 have : sz 1 = 1 := Nat.le_antisymm (sz_le (by omega) (by omega)) (sz_pos 1)
 rw [this]
theorem of_mayR' {x : BB} (h : mayR x = true) : ∃ q, x = rT q ∧ szR q = x.1.size + x.2.size := by
 obtain ⟨q, rfl⟩ := of_mayR h
 exact ⟨q, rfl, rfl⟩
theorem casesR (x y : BB) : (∃ p q, x = rT p ∧ y = rT q) ∨ ¬ may2R x y = true := by
 by_cases h : may2R x y = true
 ·have h' := h
  unfold may2R at h'
  rw [Bool.and_eq_true] at h'
  obtain ⟨p, hp⟩ := of_mayR h'.1
  obtain ⟨q, hq⟩ := of_mayR h'.2
  exact .inl ⟨p, q, hp, hq⟩
 ·exact .inr h
theorem may2R_rT (p q : Rat) : may2R (rT p) (rT q) = true := by unfold may2R; rw [mayR_rT, mayR_rT]; rfl
def smR (x : BB) : Bool := decide (x.1.size ≤ 4000 ∧ x.2.size ≤ 4000)
theorem smR_le {x : BB} (h : smR x = true) : x.1.size ≤ 4000 ∧ x.2.size ≤ 4000 := of_decide_eq_true h
def smR2 (x y : BB) : Bool := smR x && decide (y.1.size ≤ 3999 ∧ y.2.size ≤ 3999)
theorem smR2_le {x y : BB} (h : smR2 x y = true) : smR x = true ∧ smR y = true ∧ (y.1.size ≤ 3999 ∧ y.2.size ≤ 4000) := by
 unfold smR2 at h
 rw [Bool.and_eq_true, decide_eq_true_eq] at h
 exact ⟨h.1, decide_eq_true (by omega), by omega⟩
end Go.Proofs.YtaldgaiaelbbaaaGreatDoor
end

section
namespace Go.Proofs.YtaldgaiaelbbaaaGreatDoor
def gcdS (a b : ByteArray) : ByteArray := if may2 a b = true then natB (Nat.gcd (numB a) (numB b)) else noB
end Go.Proofs.YtaldgaiaelbbaaaGreatDoor
end

section
namespace Go.Proofs.YtaldgaiaelbbaaaGreatDoor
theorem gcd_loop : ∀ (n m k : Nat), (lim m).length ≤ 50000 → (lim n).length ≤ 50000 → n + 1 ≤ k → Pr.nat_Gcd.l0 k (lim m) (lim n) = some (natB (Nat.gcd m n))
 | n, m, k, hm, hn, hk => by
  obtain ⟨k, rfl⟩ : ∃ j, k = j + 1 := ⟨k - 1, by omega⟩
  simp only [Pr.nat_Gcd.l0]
  by_cases h : n = 0
  ·subst h
   rw [lim_zero, if_neg (by decide), text_natB (by omega), Nat.gcd_zero_right]
   rfl
  ·have h1 : ((lim n).length : Int) > 0 := by
    have : ((lim n).length : Int) ≠ 0 := fun e => h ((lim_zero_len n).1 e)
    omega
   rw [if_pos h1, divL_f hm hn h, Option.bind_some]
   have h2 := Nat.mod_lt m (show 0 < n by omega)
   have := gcd_loop (m % n) n k hn (Nat.le_trans (lim_le_len (Nat.mod_le m n)) hm) (by omega)
   rw [this, Nat.gcd_comm m n, Nat.gcd_rec n m, Nat.gcd_comm]
 termination_by n => n
 decreasing_by exact Nat.mod_lt m (by omega)
theorem gcd_f {a b : ByteArray} (ha : sm a = true) (hb : sm b = true) (k : Nat) (hk : numB b + 1 ≤ k) : Pr.nat_Gcd.f k a b = some (gcdS a b) := by
 obtain ⟨k, rfl⟩ : ∃ j, k = j + 1 := ⟨k - 1, by omega⟩
 unfold Pr.nat_Gcd.f gcdS
 rw [both_f ha hb, Option.bind_some]
 by_cases h : may2 a b = true
 ·obtain ⟨h1, h2⟩ := may2_and h
  rw [if_pos h, if_pos rfl, if_pos h]
  exact gcd_loop (numB b) (numB a) (k + 1) (lim_sm ha h1) (lim_sm hb h2) hk
 ·rw [if_neg h, if_neg (by decide), if_neg h]
  rfl
def nat_Gcd.f (a0 a1 : ByteArray) : Option ByteArray := if sm2 a0 a1 = true then some (gcdS a0 a1) else none
theorem nat_Gcd.calls (a0 a1 : ByteArray) (r : ByteArray) (w : World) (hL_ : Laid w) (h : nat_Gcd.f a0 a1 = some r) :
  Calls Tryz.prog 66 #[.string a0, .string a1] w fun e w' => e = .returned (.string r) ∧ Below w.heap.size w w' := by
 unfold nat_Gcd.f at h
 split at h
 ·rename_i hp
  rw [← gcd_f (and2 hp).1 (and2 hp).2 _ (Nat.le_refl _)] at h
  exact Pr.nat_Gcd.calls _ a0 a1 r w hL_ h
 ·cases h
end Go.Proofs.YtaldgaiaelbbaaaGreatDoor
end

section
namespace Go.Proofs.YtaldgaiaelbbaaaGreatDoor
theorem fGcd {m n : Nat} (hm : sz m ≤ 50000) (hn : sz n ≤ 50000) : nat_Gcd.f (natB m) (natB n) = some (natB (Nat.gcd m n)) := by
 unfold nat_Gcd.f gcdS
 rw [if_pos (sm2_natB hm hn), if_pos (may2_natB m n), numB_natB, numB_natB]
end Go.Proofs.YtaldgaiaelbbaaaGreatDoor
end

section
namespace Go.Proofs.YtaldgaiaelbbaaaGreatDoor.Py
def errW : Option Int → Value
 | none => .nilIface
 | some c => .iface 0 (.int .i64 c)
theorem errW_none : errW none = .nilIface := rfl
theorem errW_some (c : Int) : errW (some c) = .iface 0 (.int .i64 c) := rfl
end Go.Proofs.YtaldgaiaelbbaaaGreatDoor.Py
end

section
namespace Go.Proofs.YtaldgaiaelbbaaaGreatDoor.Py
def rat_May.f (a0_0 : ByteArray) (a0_1 : ByteArray) : Option (Bool) := (whole_May.f a0_0).bind fun t102 => (if t102 = true then ((nat_May.f a0_1).bind fun t103 => (if t103 = true then (if a0_1.toList = ([48] : List UInt8) then (some false) else ((whole_Abs.f a0_0).bind fun t104 => ((nat_Gcd.f t104 a0_1).bind fun t105 => (some (t105.toList == ([49] : List UInt8)))))) else (some false))) else (some false))
def rat_May.T1 : Bool × List (List Nat × List Nat) := (true, [([], []), ([0], [0]), ([1], [1]), ([2, 2], [2]), ([3], [3]), ([4, 3], [3, 4]), ([5, 3, 3], [3, 5]), ([3, 6], [3, 6]), ([7, 6], [7]), ([8], [8]), ([9, 8], [8, 9]), ([10, 8], [8, 10]), ([8, 11], [8, 11]), ([12, 8], [12]), ([13], [13]), ([14, 13], [13, 14]), ([15, 13, 13], [13, 15]), ([13], [13]), ([17, 13], [13, 17]), ([16, 18, 16, 13], [13, 16, 18]), ([19, 13], [13, 19]), ([13, 20], [13, 20]), ([21, 19, 0, 1, 2, 3, 4, 5, 6, 7, 8, 9, 10, 11, 12, 13, 14, 15, 16, 17, 18, 19, 20, 21], [21])])
def rat_May.B1 : List Nat := [0, 1, 3, 7, 15, 31, 63, 127, 255, 511, 1023, 2047, 4095, 8191, 16383, 32767, 65535, 16383, 147455, 524287, 1048575, 2097151, 4194303]
theorem rat_May.tab1 : rtab .any (opsOf Tryz.f36 1) = rat_May.T1 := by kernel_rfl
theorem rat_May.bits1 : waitsOk rat_May.T1.2 rat_May.B1 = true := by kernel_rfl
set_option maxHeartbeats 8000000 in
set_option maxRecDepth 100000 in
theorem rat_May.calls (a0_0 : ByteArray) (a0_1 : ByteArray) (r : Bool) (w : World) (hL_ : Laid w) (h : rat_May.f a0_0 a0_1 = some r) :
  Calls Tryz.prog 36 #[.agg #[.string a0_0, .string a0_1]] w fun e w' => e = .returned (.bool r) ∧ Below w.heap.size w w' := by
 have hu23 := Tryz.underlying23; have HLD := Aside0.mk hL_; clear hL_; have HB := Aside0.mk (Below.refl w.heap.size w); have H := h; unfold rat_May.f at H; clear h; obtain ⟨t102, A2, H⟩ := bi_ H; by_cases c3 : t102 = true
 ·subst c3; rw [if_pos rfl] at H; obtain ⟨t103, A4, H⟩ := bi_ H; by_cases c5 : t103 = true
  ·subst c5; rw [if_pos rfl] at H; by_cases c6 : a0_1.toList = ([48] : List UInt8)
   ·rw [if_pos c6] at H; have c6b0 : (a0_1.toList == ([48] : List UInt8)) = true := beq_iff_eq.mpr c6; have c6b1 : (a0_1.toList != ([48] : List UInt8)) = false := bne_eq_false_iff_eq.mpr c6; clear c6; obtain rfl := Option.some.inj H; go_enter Tryz.func36, Tryz.ntmps36
    try go_wp2_with (first | ((with_reducible refine gate_dst (N := 1) rfl ?_); refine be_ 1 #[.string a0_0, .string a0_1] 23 ?_; intro gb101 hg w7 hbox hb; have BK101 := Aside0.mk (hbox); have GW101 := ge_ HB hg; have GE101 := ge_ HB hg; replace HB := bs_ HB hb; clear hb hbox hg))
    replace BK101 := Aside0.mk (blk_drew BK101.out); replace HB := Aside0.mk (below_drew1 HB.out); refine sa_ 23 (fun w' => w'.cell? ⟨gb101, 0, none⟩ = some (.string a0_0) ∧ w'.cell? ⟨gb101, 1, none⟩ = some (.string a0_1)) (fun hHeld => ?_); refine with_tabW rat_May.tab1 rat_May.bits1 (fun HT_ HW_ => ?_); generalize w7.drew = w8 at BK101 HB hHeld ⊢; refine pu_ 0 3 rfl rfl HT_ ?_; refine t2_ 1 4 rfl rfl HT_ HW_ hHeld ?_; refine on_ 2 (some 5) rfl rfl HT_ (fun K hK => ?_); refine gs_ Tryz.func57 #[.string a0_0] ?_; refine mo_ (whole_May.calls a0_0 true _ A2.out) ?_; intro w9 hb; replace BK101 := kb_ BK101 hb; replace HB := bs_ HB hb; (try clear hb); refine hk_ hK (fun hHeld => ?_); clear hK K; refine nm_ ?_; refine pu_ 3 6 rfl rfl HT_ ?_; refine pu_ 4 7 rfl rfl HT_ ?_; refine t2_ 5 8 rfl rfl HT_ HW_ hHeld ?_; refine on_ 6 (some 9) rfl rfl HT_ (fun K hK => ?_); refine gs_ Tryz.func65 #[.string a0_1] ?_; refine mo_ (nat_May.calls a0_1 true _ A4.out) ?_; intro w10 hb; replace BK101 := kb_ BK101 hb; replace HB := bs_ HB hb; (try clear hb); refine hk_ hK (fun hHeld => ?_); clear hK K; refine nm_ ?_; refine pu_ 7 10 rfl rfl HT_ ?_; refine pu_ 8 11 rfl rfl HT_ ?_; refine pu_ 9 12 rfl rfl HT_ ?_; refine t2_ 10 13 rfl rfl HT_ HW_ hHeld ?_; refine pu_ 11 14 rfl rfl HT_ ?_; refine pu_ 12 15 rfl rfl HT_ ?_; refine pu_ 13 16 rfl rfl HT_ ?_; refine pv_ 14 17 rfl rfl HT_ ?_; refine pv_ 15 18 rfl rfl HT_ ?_; refine pv_ 16 19 rfl rfl HT_ ?_; refine pv_ 17 20 rfl rfl HT_ ?_; refine pv_ 18 21 rfl rfl HT_ ?_; refine pv_ 19 22 rfl rfl HT_ ?_; refine pv_ 20 23 rfl rfl HT_ ?_; refine pu_ 21 24 rfl rfl HT_ ?_; refine pu_ 22 2 rfl rfl HT_ ?_; refine done_ (done_of HT_.out (by kernel_rfl)) ?_
    try go_wp2
    go_ret
    exact ⟨er_, b_ HB.out⟩
   ·rw [if_neg c6] at H; have c6b0 : (a0_1.toList == ([48] : List UInt8)) = false := beq_eq_false_iff_ne.mpr c6; have c6b1 : (a0_1.toList != ([48] : List UInt8)) = true := bne_iff_ne.mpr c6; obtain ⟨t104, A11, H⟩ := bi_ H; obtain ⟨t105, A12, H⟩ := bi_ H; obtain rfl := Option.some.inj H; go_enter Tryz.func36, Tryz.ntmps36
    try go_wp2_with (first | ((with_reducible refine gate_dst (N := 1) rfl ?_); refine be_ 1 #[.string a0_0, .string a0_1] 23 ?_; intro gb101 hg w13 hbox hb; have BK101 := Aside0.mk (hbox); have GW101 := ge_ HB hg; have GE101 := ge_ HB hg; replace HB := bs_ HB hb; clear hb hbox hg))
    replace BK101 := Aside0.mk (blk_drew BK101.out); replace HB := Aside0.mk (below_drew1 HB.out); refine sa_ 23 (fun w' => w'.cell? ⟨gb101, 0, none⟩ = some (.string a0_0) ∧ w'.cell? ⟨gb101, 1, none⟩ = some (.string a0_1)) (fun hHeld => ?_); refine with_tabW rat_May.tab1 rat_May.bits1 (fun HT_ HW_ => ?_); generalize w13.drew = w14 at BK101 HB hHeld ⊢; refine pu_ 0 3 rfl rfl HT_ ?_; refine t2_ 1 4 rfl rfl HT_ HW_ hHeld ?_; refine on_ 2 (some 5) rfl rfl HT_ (fun K hK => ?_); refine gs_ Tryz.func57 #[.string a0_0] ?_; refine mo_ (whole_May.calls a0_0 true _ A2.out) ?_; intro w15 hb; replace BK101 := kb_ BK101 hb; replace HB := bs_ HB hb; (try clear hb); refine hk_ hK (fun hHeld => ?_); clear hK K; refine nm_ ?_; refine pu_ 3 6 rfl rfl HT_ ?_; refine pu_ 4 7 rfl rfl HT_ ?_; refine t2_ 5 8 rfl rfl HT_ HW_ hHeld ?_; refine on_ 6 (some 9) rfl rfl HT_ (fun K hK => ?_); refine gs_ Tryz.func65 #[.string a0_1] ?_; refine mo_ (nat_May.calls a0_1 true _ A4.out) ?_; intro w16 hb; replace BK101 := kb_ BK101 hb; replace HB := bs_ HB hb; (try clear hb); refine hk_ hK (fun hHeld => ?_); clear hK K; refine nm_ ?_; refine pu_ 7 10 rfl rfl HT_ ?_; refine pu_ 8 11 rfl rfl HT_ ?_; refine pu_ 9 12 rfl rfl HT_ ?_; refine t2_ 10 13 rfl rfl HT_ HW_ hHeld ?_; refine pu_ 11 14 rfl rfl HT_ ?_; refine pu_ 12 15 rfl rfl HT_ ?_; refine pu_ 13 16 rfl rfl HT_ ?_; refine pu_ 14 17 rfl rfl HT_ ?_; refine pu_ 17 20 rfl rfl HT_ ?_; refine t2_ 15 18 rfl rfl HT_ HW_ hHeld ?_; refine t2_ 18 21 rfl rfl HT_ HW_ hHeld ?_; refine on_ 16 (some 19) rfl rfl HT_ (fun K hK => ?_); refine gs_ Tryz.func42 #[.string a0_0] ?_; refine mo_ (whole_Abs.calls a0_0 t104 _ A11.out) ?_; intro w17 hb; replace BK101 := kb_ BK101 hb; replace HB := bs_ HB hb; (try clear hb); refine hk_ hK (fun hHeld => ?_); clear hK K; refine nm_ ?_; refine on_ 19 (some 22) rfl rfl HT_ (fun K hK => ?_); refine gs_ Tryz.func66 #[.string t104, .string a0_1] ?_; refine mo_ (nat_Gcd.calls t104 a0_1 t105 _ (lb_ HLD HB) A12.out) ?_; intro w18 hb; replace BK101 := kb_ BK101 hb; replace HB := bs_ HB hb; (try clear hb); refine hk_ hK (fun hHeld => ?_); clear hK K; refine nm_ ?_; refine pu_ 20 23 rfl rfl HT_ ?_; refine pu_ 21 24 rfl rfl HT_ ?_; refine pu_ 22 2 rfl rfl HT_ ?_; refine done_ (done_of HT_.out (by kernel_rfl)) ?_
    try go_wp2
    go_ret
    exact ⟨er_, b_ HB.out⟩
  ·replace c5 := Bool.eq_false_iff.mpr c5; subst c5; rw [if_neg nf_] at H; obtain rfl := Option.some.inj H; go_enter Tryz.func36, Tryz.ntmps36
   try go_wp2_with (first | ((with_reducible refine gate_dst (N := 1) rfl ?_); refine be_ 1 #[.string a0_0, .string a0_1] 23 ?_; intro gb101 hg w19 hbox hb; have BK101 := Aside0.mk (hbox); have GW101 := ge_ HB hg; have GE101 := ge_ HB hg; replace HB := bs_ HB hb; clear hb hbox hg))
   replace BK101 := Aside0.mk (blk_drew BK101.out); replace HB := Aside0.mk (below_drew1 HB.out); refine sa_ 23 (fun w' => w'.cell? ⟨gb101, 0, none⟩ = some (.string a0_0) ∧ w'.cell? ⟨gb101, 1, none⟩ = some (.string a0_1)) (fun hHeld => ?_); refine with_tabW rat_May.tab1 rat_May.bits1 (fun HT_ HW_ => ?_); generalize w19.drew = w20 at BK101 HB hHeld ⊢; refine pu_ 0 3 rfl rfl HT_ ?_; refine t2_ 1 4 rfl rfl HT_ HW_ hHeld ?_; refine on_ 2 (some 5) rfl rfl HT_ (fun K hK => ?_); refine gs_ Tryz.func57 #[.string a0_0] ?_; refine mo_ (whole_May.calls a0_0 true _ A2.out) ?_; intro w21 hb; replace BK101 := kb_ BK101 hb; replace HB := bs_ HB hb; (try clear hb); refine hk_ hK (fun hHeld => ?_); clear hK K; refine nm_ ?_; refine pu_ 3 6 rfl rfl HT_ ?_; refine pu_ 4 7 rfl rfl HT_ ?_; refine t2_ 5 8 rfl rfl HT_ HW_ hHeld ?_; refine on_ 6 (some 9) rfl rfl HT_ (fun K hK => ?_); refine gs_ Tryz.func65 #[.string a0_1] ?_; refine mo_ (nat_May.calls a0_1 false _ A4.out) ?_; intro w22 hb; replace BK101 := kb_ BK101 hb; replace HB := bs_ HB hb; (try clear hb); refine hk_ hK (fun hHeld => ?_); clear hK K; refine nm_ ?_; refine pu_ 7 10 rfl rfl HT_ ?_; refine pu_ 8 11 rfl rfl HT_ ?_; refine pv_ 9 12 rfl rfl HT_ ?_; refine pv_ 10 13 rfl rfl HT_ ?_; refine pv_ 11 14 rfl rfl HT_ ?_; refine pu_ 12 15 rfl rfl HT_ ?_; refine pu_ 13 16 rfl rfl HT_ ?_; refine pv_ 14 17 rfl rfl HT_ ?_; refine pv_ 15 18 rfl rfl HT_ ?_; refine pv_ 16 19 rfl rfl HT_ ?_; refine pv_ 17 20 rfl rfl HT_ ?_; refine pv_ 18 21 rfl rfl HT_ ?_; refine pv_ 19 22 rfl rfl HT_ ?_; refine pv_ 20 23 rfl rfl HT_ ?_; refine pu_ 21 24 rfl rfl HT_ ?_; refine pu_ 22 2 rfl rfl HT_ ?_; refine done_ (done_of HT_.out (by kernel_rfl)) ?_
   try go_wp2
   go_ret
   exact ⟨er_, b_ HB.out⟩
 ·replace c3 := Bool.eq_false_iff.mpr c3; subst c3; rw [if_neg nf_] at H; obtain rfl := Option.some.inj H; go_enter Tryz.func36, Tryz.ntmps36
  try go_wp2_with (first | ((with_reducible refine gate_dst (N := 1) rfl ?_); refine be_ 1 #[.string a0_0, .string a0_1] 23 ?_; intro gb101 hg w23 hbox hb; have BK101 := Aside0.mk (hbox); have GW101 := ge_ HB hg; have GE101 := ge_ HB hg; replace HB := bs_ HB hb; clear hb hbox hg))
  replace BK101 := Aside0.mk (blk_drew BK101.out); replace HB := Aside0.mk (below_drew1 HB.out); refine sa_ 23 (fun w' => w'.cell? ⟨gb101, 0, none⟩ = some (.string a0_0) ∧ w'.cell? ⟨gb101, 1, none⟩ = some (.string a0_1)) (fun hHeld => ?_); refine with_tabW rat_May.tab1 rat_May.bits1 (fun HT_ HW_ => ?_); generalize w23.drew = w24 at BK101 HB hHeld ⊢; refine pu_ 0 3 rfl rfl HT_ ?_; refine t2_ 1 4 rfl rfl HT_ HW_ hHeld ?_; refine on_ 2 (some 5) rfl rfl HT_ (fun K hK => ?_); refine gs_ Tryz.func57 #[.string a0_0] ?_; refine mo_ (whole_May.calls a0_0 false _ A2.out) ?_; intro w25 hb; replace BK101 := kb_ BK101 hb; replace HB := bs_ HB hb; (try clear hb); refine hk_ hK (fun hHeld => ?_); clear hK K; refine nm_ ?_; refine pu_ 3 6 rfl rfl HT_ ?_; refine pv_ 4 7 rfl rfl HT_ ?_; refine pv_ 5 8 rfl rfl HT_ ?_; refine pv_ 6 9 rfl rfl HT_ ?_; refine pu_ 7 10 rfl rfl HT_ ?_; refine pu_ 8 11 rfl rfl HT_ ?_; refine pv_ 9 12 rfl rfl HT_ ?_; refine pv_ 10 13 rfl rfl HT_ ?_; refine pv_ 11 14 rfl rfl HT_ ?_; refine pu_ 12 15 rfl rfl HT_ ?_; refine pu_ 13 16 rfl rfl HT_ ?_; refine pv_ 14 17 rfl rfl HT_ ?_; refine pv_ 15 18 rfl rfl HT_ ?_; refine pv_ 16 19 rfl rfl HT_ ?_; refine pv_ 17 20 rfl rfl HT_ ?_; refine pv_ 18 21 rfl rfl HT_ ?_; refine pv_ 19 22 rfl rfl HT_ ?_; refine pv_ 20 23 rfl rfl HT_ ?_; refine pu_ 21 24 rfl rfl HT_ ?_; refine pu_ 22 2 rfl rfl HT_ ?_; refine done_ (done_of HT_.out (by kernel_rfl)) ?_
  try go_wp2
  go_ret
  exact ⟨er_, b_ HB.out⟩
end Go.Proofs.YtaldgaiaelbbaaaGreatDoor.Py
end

section
namespace Go.Proofs.YtaldgaiaelbbaaaGreatDoor.Py
def rat_reduced.j0 : Nat → ByteArray → ByteArray → Option (ByteArray × ByteArray)
 | 0, _, _ => none
 | k + 1, x0, x1 => (whole_Abs.f x0).bind fun t110 => ((nat_Gcd.f t110 x1).bind fun t111 => ((whole_Div.f x0 t111).bind fun bt112 => ((whole_Div.f x1 t111).bind fun bt115 => (some (bt112.1, bt115.1)))))
def rat_reduced.f (k : Nat) (a0 : ByteArray) (a1 : ByteArray) : Option (ByteArray × ByteArray) := (whole_Sign.f a1).bind fun t107 => (if t107 < 0 then ((whole_Neg.f a0).bind fun t108 => ((whole_Neg.f a1).bind fun t109 => (rat_reduced.j0 k t108 t109))) else (rat_reduced.j0 k a0 a1))
set_option maxHeartbeats 8000000 in
set_option maxRecDepth 100000 in
theorem rat_reduced.calls (k : Nat) (a0 : ByteArray) (a1 : ByteArray) (r1 : ByteArray) (r2 : ByteArray) (w : World) (hL_ : Laid w) (h : rat_reduced.f k a0 a1 = some (r1, r2)) :
  Calls Tryz.prog 58 #[.string a0, .string a1] w fun e w' => e = .returned (.agg #[.string r1, .string r2]) ∧ Below w.heap.size w w' := by
 have hu23 := Tryz.underlying23; have HLD := Aside0.mk hL_; clear hL_; have HB := Aside0.mk (Below.refl w.heap.size w); have H := h; unfold rat_reduced.f at H; clear h; obtain ⟨t107, A3, H⟩ := bi_ H; have HC4 := Aside0.mk H; clear H; go_enter Tryz.func58, Tryz.ntmps58
 go_upto_if 8 with (first | ((with_reducible refine gate_dst (N := 4) rfl ?_); refine be_ 4 #[.string (⟨#[]⟩ : ByteArray), .string (⟨#[]⟩ : ByteArray)] 23 ?_; intro gb106 hg w5 hbox hb; have BK106 := Aside0.mk (hbox); have GW106 := ge_ HB hg; have GE106 := ge_ HB hg; replace HB := bs_ HB hb; clear hb hbox hg) | (refine gl_ 7 Tryz.func44 #[.string a1] ?_; refine mo_ (whole_Sign.calls a1 t107 _ A3.out) ?_; intro w6 hb; replace BK106 := kb_ BK106 hb; replace HB := bs_ HB hb; (try clear hb); (try clear hb2); (try clear hk); (try clear hi)))
 (try simp only [Act.put, List.setIfInBounds_toArray, List.set_cons_zero, List.set_cons_succ])
 go_cut [0, 1] (fun v0 v1 wc => ∃ (kq : Nat) (x0_3 : ByteArray) (x1_3 : ByteArray), v0 = .string x0_3 ∧ v1 = .string x1_3 ∧ Aside0 (rat_reduced.j0 kq x0_3 x1_3 = some (r1, r2)) ∧ Aside0 (kq ≤ k) ∧ Aside0 (wc.heap[gb106]? = some (.cells #[.string (⟨#[]⟩ : ByteArray), .string (⟨#[]⟩ : ByteArray)] 23 (0, 0))) ∧ Aside0 (Below w.heap.size w wc))
 case first =>
  have H := HC4.out; clear HC4; by_cases c7 : t107 < 0
  ·rw [if_pos c7] at H; have c7b0 : decide (t107 < 0) = true := decide_eq_true c7; clear c7; (first | rw [c7b0] | (simp only [i64_w, i32_w]; rw [c7b0]) | skip); obtain ⟨t108, A8, H⟩ := bi_ H; obtain ⟨t109, A9, H⟩ := bi_ H; have H' := Aside0.mk H; clear H
   go_wp2_with (first | (refine gl_ 10 Tryz.func29 #[.string a0] ?_; refine mo_ (whole_Neg.calls a0 t108 _ A8.out) ?_; intro w10 hb; replace BK106 := kb_ BK106 hb; replace HB := bs_ HB hb; (try clear hb); (try clear hb2); (try clear hk); (try clear hi)) | (refine gl_ 12 Tryz.func29 #[.string a1] ?_; refine mo_ (whole_Neg.calls a1 t109 _ A9.out) ?_; intro w11 hb; replace BK106 := kb_ BK106 hb; replace HB := bs_ HB hb; (try clear hb); (try clear hb2); (try clear hk); (try clear hi)))
   go_meet
   case rel => exact ⟨_, (t108), (t109), rl_, rl_, H', ⟨by first | omega | exact Nat.le_refl _⟩, ⟨k_ BK106.out⟩, ⟨b_ HB.out⟩⟩
  ·rw [if_neg c7] at H; have c7b0 : decide (t107 < 0) = false := decide_eq_false c7; clear c7; (first | rw [c7b0] | (simp only [i64_w, i32_w]; rw [c7b0]) | skip); have H' := Aside0.mk H; clear H; go_wp2
   go_meet
   case rel => exact ⟨_, (a0), (a1), rl_, rl_, H', ⟨by first | omega | exact Nat.le_refl _⟩, ⟨k_ BK106.out⟩, ⟨b_ HB.out⟩⟩
 case rest =>
  clear HC4; (try clear c2); (try clear p2); (try clear c4); (try clear c5); (try clear c7); (try clear c7b0); obtain ⟨kq, x0_3, x1_3, rfl, rfl, HA, HJ3, BK106, HB⟩ := hcut
  cases kq with
  | zero => exact absurd HA.out (by simp [rat_reduced.j0])
  | succ kj3 =>
   have H := HA.out; clear HA; simp only [rat_reduced.j0] at H; obtain ⟨t110, A12, H⟩ := bi_ H; obtain ⟨t111, A13, H⟩ := bi_ H; obtain ⟨⟨t112, t113, t114⟩, A14, H⟩ := bi_ H; (try dsimp only at H); obtain ⟨⟨t115, t116, t117⟩, A15, H⟩ := bi_ H; (try dsimp only at H); simp only [Option.some.injEq, Prod.mk.injEq] at H; obtain ⟨rfl, rfl⟩ := H
   go_wp2_with (first | (refine gl_ 14 Tryz.func42 #[.string x0_3] ?_; refine mo_ (whole_Abs.calls x0_3 t110 _ A12.out) ?_; intro w16 hb; replace BK106 := kb_ BK106 hb; replace HB := bs_ HB hb; (try clear hb); (try clear hb2); (try clear hk); (try clear hi)) | (refine gl_ 16 Tryz.func66 #[.string t110, .string x1_3] ?_; refine mo_ (nat_Gcd.calls t110 x1_3 t111 _ (lb_ HLD HB) A13.out) ?_; intro w17 hb; replace BK106 := kb_ BK106 hb; replace HB := bs_ HB hb; (try clear hb); (try clear hb2); (try clear hk); (try clear hi)) | (refine gl_ 20 Tryz.func94 #[.string x0_3, .string t111] ?_; refine mo_ (whole_Div.calls x0_3 t111 t112 t113 t114 _ (lb_ HLD HB) A14.out) ?_; intro w18 hb; replace BK106 := kb_ BK106 hb; replace HB := bs_ HB hb; (try clear hb); (try clear hb2); (try clear hk); (try clear hi)) | (refine gl_ 27 Tryz.func94 #[.string x1_3, .string t111] ?_; refine mo_ (whole_Div.calls x1_3 t111 t115 t116 t117 _ (lb_ HLD HB) A15.out) ?_; intro w19 hb; replace BK106 := kb_ BK106 hb; replace HB := bs_ HB hb; (try clear hb); (try clear hb2); (try clear hk); (try clear hi); have hcz20_0 := bc_ BK106 0 rfl; have hcz20_1 := bc_ BK106 1 rfl; have hfz20_0 := blk_frozen BK106.out 0; have hfz20_1 := blk_frozen BK106.out 1))
   refine bodyPost_ret (results_cell_row rfl _ _ gb106 23 #[.string t112, .string t115] (0, 0) _ rfl (rp_ BK106.out) Tryz.underlying23 rfl (by kernel_rfl)) rfl ?_; exact ⟨er_, b_ HB.out⟩
def rat_Make.f (k : Nat) (a0 : ByteArray) (a1 : ByteArray) : Option (ByteArray × ByteArray × Bool) := (whole_May.f a0).bind fun t119 => (if t119 = true then ((whole_May.f a1).bind fun t120 => (if t120 = true then (if a1.toList = ([48] : List UInt8) then (some ((⟨#[]⟩ : ByteArray), (⟨#[]⟩ : ByteArray), false)) else ((rat_reduced.f k a0 a1).bind fun bt121 => (some (bt121.1, bt121.2, true)))) else (some ((⟨#[]⟩ : ByteArray), (⟨#[]⟩ : ByteArray), false)))) else (some ((⟨#[]⟩ : ByteArray), (⟨#[]⟩ : ByteArray), false)))
set_option maxHeartbeats 8000000 in
set_option maxRecDepth 100000 in
theorem rat_Make.calls (k : Nat) (a0 : ByteArray) (a1 : ByteArray) (r1 : ByteArray) (r2 : ByteArray) (r3 : Bool) (w : World) (hL_ : Laid w) (h : rat_Make.f k a0 a1 = some (r1, r2, r3)) :
  Calls Tryz.prog 30 #[.string a0, .string a1] w fun e w' => e = .returned (.tuple #[.agg #[.string r1, .string r2], .bool r3]) ∧ Below w.heap.size w w' := by
 have hu23 := Tryz.underlying23; have HLD := Aside0.mk hL_; clear hL_; have HB := Aside0.mk (Below.refl w.heap.size w); have H := h; unfold rat_Make.f at H; clear h; obtain ⟨t119, A3, H⟩ := bi_ H; by_cases c4 : t119 = true
 ·subst c4; rw [if_pos rfl] at H; obtain ⟨t120, A5, H⟩ := bi_ H; by_cases c6 : t120 = true
  ·subst c6; rw [if_pos rfl] at H; by_cases c7 : a1.toList = ([48] : List UInt8)
   ·rw [if_pos c7] at H; have c7b0 : (a1.toList == ([48] : List UInt8)) = true := beq_iff_eq.mpr c7; have c7b1 : (a1.toList != ([48] : List UInt8)) = false := bne_eq_false_iff_eq.mpr c7; clear c7; simp only [Option.some.injEq, Prod.mk.injEq] at H; obtain ⟨rfl, rfl, rfl⟩ := H; go_enter Tryz.func30, Tryz.ntmps30
    go_wp2_with (first | ((with_reducible refine gate_dst (N := 4) rfl ?_); refine be_ 4 #[.string (⟨#[]⟩ : ByteArray), .string (⟨#[]⟩ : ByteArray)] 23 ?_; intro gb118 hg w8 hbox hb; have BK118 := Aside0.mk (hbox); have GW118 := ge_ HB hg; have GE118 := ge_ HB hg; replace HB := bs_ HB hb; clear hb hbox hg) | (refine gl_ 7 Tryz.func57 #[.string a0] ?_; refine mo_ (whole_May.calls a0 true _ A3.out) ?_; intro w9 hb; replace BK118 := kb_ BK118 hb; replace HB := bs_ HB hb; (try clear hb); (try clear hb2); (try clear hk); (try clear hi)) | (go_at_call 57; (with_reducible refine (whole_May.calls a1 true _ A5.out).mono ?_); rintro e w10 ⟨rfl, hb⟩; replace BK118 := kb_ BK118 hb; replace HB := bs_ HB hb; (try clear hb); (try clear hb2); (try clear hk); (try clear hi); have hcz11_0 := bc_ BK118 0 rfl; have hcz11_1 := bc_ BK118 1 rfl; have hfz11_0 := blk_frozen BK118.out 0; have hfz11_1 := blk_frozen BK118.out 1))
    refine bodyPost_ret (results_ct rfl _ _ gb118 23 #[.string (⟨#[]⟩ : ByteArray), .string (⟨#[]⟩ : ByteArray)] (0, 0) _ rfl (rp_ BK118.out) Tryz.underlying23 rfl (by kernel_rfl)) rfl ?_; exact ⟨er_, b_ HB.out⟩
   ·rw [if_neg c7] at H; have c7b0 : (a1.toList == ([48] : List UInt8)) = false := beq_eq_false_iff_ne.mpr c7; have c7b1 : (a1.toList != ([48] : List UInt8)) = true := bne_iff_ne.mpr c7; obtain ⟨⟨t121, t122⟩, A12, H⟩ := bi_ H; (try dsimp only at H); simp only [Option.some.injEq, Prod.mk.injEq] at H; obtain ⟨rfl, rfl, rfl⟩ := H; go_enter Tryz.func30, Tryz.ntmps30
    go_wp2_with (first | ((with_reducible refine gate_dst (N := 4) rfl ?_); refine be_ 4 #[.string (⟨#[]⟩ : ByteArray), .string (⟨#[]⟩ : ByteArray)] 23 ?_; intro gb118 hg w13 hbox hb; have BK118 := Aside0.mk (hbox); have GW118 := ge_ HB hg; have GE118 := ge_ HB hg; replace HB := bs_ HB hb; clear hb hbox hg) | (refine gl_ 7 Tryz.func57 #[.string a0] ?_; refine mo_ (whole_May.calls a0 true _ A3.out) ?_; intro w14 hb; replace BK118 := kb_ BK118 hb; replace HB := bs_ HB hb; (try clear hb); (try clear hb2); (try clear hk); (try clear hi)) | (go_at_call 57; (with_reducible refine (whole_May.calls a1 true _ A5.out).mono ?_); rintro e w15 ⟨rfl, hb⟩; replace BK118 := kb_ BK118 hb; replace HB := bs_ HB hb; (try clear hb); (try clear hb2); (try clear hk); (try clear hi)) | (refine gl_ 21 Tryz.func58 #[.string a0, .string a1] ?_; refine mo_ (rat_reduced.calls k a0 a1 t121 t122 _ (lb_ HLD HB) A12.out) ?_; intro w16 hb; replace BK118 := kb_ BK118 hb; replace HB := bs_ HB hb; (try clear hb); (try clear hb2); (try clear hk); (try clear hi); have hcz17_0 := bc_ BK118 0 rfl; have hcz17_1 := bc_ BK118 1 rfl; have hfz17_0 := blk_frozen BK118.out 0; have hfz17_1 := blk_frozen BK118.out 1))
    refine bodyPost_ret (results_ct rfl _ _ gb118 23 #[.string t121, .string t122] (0, 0) _ rfl (rp_ BK118.out) Tryz.underlying23 rfl (by kernel_rfl)) rfl ?_; exact ⟨er_, b_ HB.out⟩
  ·replace c6 := Bool.eq_false_iff.mpr c6; subst c6; rw [if_neg nf_] at H; simp only [Option.some.injEq, Prod.mk.injEq] at H; obtain ⟨rfl, rfl, rfl⟩ := H; go_enter Tryz.func30, Tryz.ntmps30
   go_wp2_with (first | ((with_reducible refine gate_dst (N := 4) rfl ?_); refine be_ 4 #[.string (⟨#[]⟩ : ByteArray), .string (⟨#[]⟩ : ByteArray)] 23 ?_; intro gb118 hg w18 hbox hb; have BK118 := Aside0.mk (hbox); have GW118 := ge_ HB hg; have GE118 := ge_ HB hg; replace HB := bs_ HB hb; clear hb hbox hg) | (refine gl_ 7 Tryz.func57 #[.string a0] ?_; refine mo_ (whole_May.calls a0 true _ A3.out) ?_; intro w19 hb; replace BK118 := kb_ BK118 hb; replace HB := bs_ HB hb; (try clear hb); (try clear hb2); (try clear hk); (try clear hi)) | (go_at_call 57; (with_reducible refine (whole_May.calls a1 false _ A5.out).mono ?_); rintro e w20 ⟨rfl, hb⟩; replace BK118 := kb_ BK118 hb; replace HB := bs_ HB hb; (try clear hb); (try clear hb2); (try clear hk); (try clear hi); have hcz21_0 := bc_ BK118 0 rfl; have hcz21_1 := bc_ BK118 1 rfl; have hfz21_0 := blk_frozen BK118.out 0; have hfz21_1 := blk_frozen BK118.out 1))
   refine bodyPost_ret (results_ct rfl _ _ gb118 23 #[.string (⟨#[]⟩ : ByteArray), .string (⟨#[]⟩ : ByteArray)] (0, 0) _ rfl (rp_ BK118.out) Tryz.underlying23 rfl (by kernel_rfl)) rfl ?_; exact ⟨er_, b_ HB.out⟩
 ·replace c4 := Bool.eq_false_iff.mpr c4; subst c4; rw [if_neg nf_] at H; simp only [Option.some.injEq, Prod.mk.injEq] at H; obtain ⟨rfl, rfl, rfl⟩ := H; go_enter Tryz.func30, Tryz.ntmps30
  go_wp2_with (first | ((with_reducible refine gate_dst (N := 4) rfl ?_); refine be_ 4 #[.string (⟨#[]⟩ : ByteArray), .string (⟨#[]⟩ : ByteArray)] 23 ?_; intro gb118 hg w22 hbox hb; have BK118 := Aside0.mk (hbox); have GW118 := ge_ HB hg; have GE118 := ge_ HB hg; replace HB := bs_ HB hb; clear hb hbox hg) | (refine gl_ 7 Tryz.func57 #[.string a0] ?_; refine mo_ (whole_May.calls a0 false _ A3.out) ?_; intro w23 hb; replace BK118 := kb_ BK118 hb; replace HB := bs_ HB hb; (try clear hb); (try clear hb2); (try clear hk); (try clear hi); have hcz24_0 := bc_ BK118 0 rfl; have hcz24_1 := bc_ BK118 1 rfl; have hfz24_0 := blk_frozen BK118.out 0; have hfz24_1 := blk_frozen BK118.out 1))
  refine bodyPost_ret (results_ct rfl _ _ gb118 23 #[.string (⟨#[]⟩ : ByteArray), .string (⟨#[]⟩ : ByteArray)] (0, 0) _ rfl (rp_ BK118.out) Tryz.underlying23 rfl (by kernel_rfl)) rfl ?_; exact ⟨er_, b_ HB.out⟩
end Go.Proofs.YtaldgaiaelbbaaaGreatDoor.Py
end

section
namespace Go.Proofs.YtaldgaiaelbbaaaGreatDoor.Py
end Go.Proofs.YtaldgaiaelbbaaaGreatDoor.Py
end

section
namespace Go.Proofs.YtaldgaiaelbbaaaGreatDoor
theorem gMay {a : ByteArray} (h : a.size ≤ 49990) : whole_May.f a = some (mayW a) := by
 unfold whole_May.f
 rw [if_pos (show smw a = true from decide_eq_true h)]
theorem natB_beq_one (m : Nat) : ((natB m).toList == ([49] : List UInt8)) = (m == 1) := by
 rw [Bool.eq_iff_iff, beq_iff_eq, beq_iff_eq, natB_toList_one]
theorem szI_natAbs (x : Int) : sz x.natAbs ≤ szI x := le_szI x
theorem gcd_le_l {x y : Int} (hy : y ≠ 0) : sz (Nat.gcd x.natAbs y.natAbs) ≤ szI y := by
 have h := sz_mono (Nat.gcd_le_right x.natAbs (show 0 < y.natAbs by omega))
 have := le_szI y
 omega
theorem ratmay_f {a b : ByteArray} (ha : a.size ≤ 20000) (hb : b.size ≤ 20000) : Py.rat_May.f a b = some (mayR (a, b)) := by
 unfold Py.rat_May.f mayR
 rw [gMay (by omega), Option.bind_some]
 by_cases h1 : mayW a = true
 ·rw [if_pos h1, fMay (by omega), Option.bind_some]
  by_cases h2 : mayB b = true
  ·obtain ⟨z, rfl⟩ := of_mayW h1
   obtain ⟨n, rfl, e2⟩ := of_may h2
   have s1 : szI z ≤ 20000 := ha
   have s2 : sz n ≤ 20000 := hb
   have s3 := szI_natAbs z
   rw [if_pos h2, h1, h2, numW_int, numB_natB]
   by_cases h3 : n = 0
   ·rw [if_pos (natB_toList_zero.2 h3), h3]
    rfl
   ·rw [if_neg (fun e => h3 (natB_toList_zero.1 e)), gAbs (by omega), Option.bind_some, intB_nat, fGcd (by omega) (by omega), Option.bind_some, natB_beq_one, decide_eq_true h3]
    rfl
  ·rw [if_neg h2, h1, (Bool.not_eq_true _).mp h2]
   rfl
 ·rw [if_neg h1, (Bool.not_eq_true _).mp h1]
  rfl
theorem red_core {x y : Int} (hy : 0 < y) (hx : szI x ≤ 20000) (hs : szI y ≤ 20000) (k : Nat) : Py.rat_reduced.j0 (k + 1) (intB x) (intB y) = some (rT (Rat.divInt x y)) := by
 have s3 := szI_natAbs x
 have s4 := szI_natAbs y
 have s5 := gcd_le_l (x := x) (show y ≠ 0 by omega)
 have hg : ((Nat.gcd x.natAbs y.natAbs : Nat) : Int) ≠ 0 := by
  have := Nat.gcd_pos_of_pos_right x.natAbs (show 0 < y.natAbs by omega)
  omega
 have h1 := red_num (x := x) (y := y) (by omega)
 have h2 := red_den (x := x) (y := y) (by omega)
 rw [if_neg (by omega)] at h1
 have e : intB y = natB y.natAbs := by rw [intB_nonneg (by omega)]; congr 1; omega
 have e' : (y.natAbs : Int) = y := by omega
 simp only [Py.rat_reduced.j0]
 rw [gAbs (by omega), Option.bind_some, intB_nat, e, fGcd (by omega) (by omega), Option.bind_some, ← e, ← intB_nat, gDiv (by omega) (by rw [szI_nat]; omega) hg, Option.bind_some, gDiv (by omega) (by rw [szI_nat]; omega) hg, Option.bind_some]
 rw [e'] at h2
 show some (intB _, intB _) = some (intB _, natB _)
 rw [h1, h2, intB_nat]
theorem red_f {x y : Int} (hy : y ≠ 0) (hx : szI x ≤ 19000) (hs : szI y ≤ 19000) (k : Nat) : Py.rat_reduced.f (k + 1) (intB x) (intB y) = some (rT (Rat.divInt x y)) := by
 unfold Py.rat_reduced.f
 rw [gSign (by omega), Option.bind_some]
 by_cases h : y < 0
 ·have n1 := szI_neg x
  have n2 := szI_neg y
  rw [if_pos (by rw [cmp_lt' h]; decide), gNeg (by omega), Option.bind_some, gNeg (by omega), Option.bind_some, red_core (by omega) (by omega) (by omega), Rat.neg_divInt_neg]
 ·rw [if_neg (by rw [cmp_gt' (by omega)]; decide), red_core (by omega) (by omega) (by omega)]
theorem ratmake_f {a b : ByteArray} (ha : a.size ≤ 19000) (hb : b.size ≤ 19000) (k : Nat) : Py.rat_Make.f (k + 1) a b = some ((rmakeS a b).1.1, (rmakeS a b).1.2, (rmakeS a b).2) := by
 unfold Py.rat_Make.f rmakeS
 rw [gMay (by omega), Option.bind_some]
 by_cases h1 : mayW a = true
 ·rw [if_pos h1, gMay (by omega), Option.bind_some]
  by_cases h2 : mayW b = true
  ·obtain ⟨x, rfl⟩ := of_mayW h1
   obtain ⟨y, rfl⟩ := of_mayW h2
   have s1 : szI x ≤ 19000 := ha
   have s2 : szI y ≤ 19000 := hb
   rw [if_pos h2, show may2W (intB x) (intB y) = true by unfold may2W; rw [h1, h2]; rfl, Bool.true_and, numW_int, numW_int]
   by_cases h3 : y = 0
   ·rw [if_pos (intB_toList_zero.2 h3), if_neg (by rw [h3]; decide)]
    rfl
   ·rw [if_neg (fun e => h3 (intB_toList_zero.1 e)), if_pos (decide_eq_true h3), red_f h3 s1 s2, Option.bind_some]
  ·rw [if_neg h2, show may2W a b = false by unfold may2W; rw [h1, (Bool.not_eq_true _).mp h2]; rfl]
   rfl
 ·rw [if_neg h1, show may2W a b = false by unfold may2W; rw [(Bool.not_eq_true _).mp h1]; rfl]
  rfl
end Go.Proofs.YtaldgaiaelbbaaaGreatDoor
end

section
namespace Go.Proofs.YtaldgaiaelbbaaaGreatDoor
def rat_May.f (a0_0 a0_1 : ByteArray) : Option (Bool) := if smR (a0_0, a0_1) = true then some (mayR (a0_0, a0_1)) else none
theorem rat_May.calls (a0_0 a0_1 : ByteArray) (r : Bool) (w : World) (hL_ : Laid w) (h : rat_May.f a0_0 a0_1 = some r) :
  Calls Tryz.prog 36 #[.agg #[.string a0_0, .string a0_1]] w fun e w' => e = .returned (.bool r) ∧ Below w.heap.size w w' := by
 unfold rat_May.f at h
 split at h
 ·rename_i hp
  have hs := smR_le hp
  rw [← ratmay_f (a := a0_0) (b := a0_1) (Nat.le_trans hs.1 (by decide)) (Nat.le_trans hs.2 (by decide))] at h
  exact Py.rat_May.calls a0_0 a0_1 r w hL_ h
 ·cases h
def rat_Make.f (a0 a1 : ByteArray) : Option (ByteArray × ByteArray × Bool) := if smR (a0, a1) = true then some ((rmakeS a0 a1).1.1, (rmakeS a0 a1).1.2, (rmakeS a0 a1).2) else none
theorem rat_Make.calls (a0 a1 : ByteArray) (r1 : ByteArray) (r2 : ByteArray) (r3 : Bool) (w : World) (hL_ : Laid w) (h : rat_Make.f a0 a1 = some (r1, r2, r3)) :
  Calls Tryz.prog 30 #[.string a0, .string a1] w fun e w' => e = .returned (.tuple #[.agg #[.string r1, .string r2], .bool r3]) ∧ Below w.heap.size w w' := by
 unfold rat_Make.f at h
 split at h
 ·rename_i hp
  have hs := smR_le hp
  rw [← ratmake_f (a := a0) (b := a1) (Nat.le_trans hs.1 (by decide)) (Nat.le_trans hs.2 (by decide)) 1] at h
  exact Py.rat_Make.calls _ a0 a1 r1 r2 r3 w hL_ h
 ·cases h
end Go.Proofs.YtaldgaiaelbbaaaGreatDoor
end

section
namespace Go.Proofs.YtaldgaiaelbbaaaGreatDoor
theorem rAdd {m n : Nat} (hm : sz m ≤ 50000) (hn : sz n ≤ 50000) : r1_Add.f (natB m) (natB n) = some (natB (m + n)) := by
 unfold r1_Add.f addS
 rw [if_pos (sm2_natB hm hn), if_pos (may2_natB m n), numB_natB, numB_natB]
theorem rMul {m n : Nat} (hm : sz m ≤ 50000) (hn : sz n ≤ 50000) : r1_Mul.f (natB m) (natB n) = some (natB (m * n)) := by
 unfold r1_Mul.f mulS
 rw [if_pos (sm2_natB hm hn), if_pos (may2_natB m n), numB_natB, numB_natB]
theorem rCmp {m n : Nat} (hm : sz m ≤ 50000) (hn : sz n ≤ 50000) : r1_Cmp.f (natB m) (natB n) = some (Lib.compareInt (m : Int) (n : Int)) := by
 unfold r1_Cmp.f cmpS
 rw [if_pos (sm2_natB hm hn), if_pos (may2_natB m n), numB_natB, numB_natB]
theorem rSub {m n : Nat} (hm : sz m ≤ 50000) (hn : sz n ≤ 50000) : r1_Sub.f (natB m) (natB n) = some (if n ≤ m then (natB (m - n), true) else (noB, false)) := by
 unfold r1_Sub.f subS
 rw [if_pos (sm2_natB hm hn), may2_natB, numB_natB, numB_natB, Bool.true_and]
 by_cases h : n ≤ m
 ·rw [if_pos (decide_eq_true h), if_pos h]
 ·rw [if_neg (by rw [decide_eq_true_eq]; exact h), if_neg h]
theorem rDiv {m n : Nat} (hm : sz m ≤ 50000) (hn : sz n ≤ 50000) (h : n ≠ 0) : r1_Div.f (natB m) (natB n) = some (natB (m / n), natB (m % n), true) := by
 unfold r1_Div.f divS
 rw [if_pos (sm2_natB hm hn), may2_natB, numB_natB, numB_natB, Bool.true_and, if_pos (decide_eq_true h)]
theorem may2W_and' {a b : ByteArray} : may2W a b = true ↔ mayW a = true ∧ mayW b = true := by unfold may2W; rw [Bool.and_eq_true]
theorem may2W_int' (x y : Int) : may2W (intB x) (intB y) = true := may2W_and'.2 ⟨mayW_int x, mayW_int y⟩
theorem casesW' (a b : ByteArray) : (∃ x y, a = intB x ∧ b = intB y) ∨ ¬ may2W a b = true := by
 by_cases h : may2W a b = true
 ·obtain ⟨h1, h2⟩ := may2W_and'.1 h
  obtain ⟨x, hx⟩ := of_mayW h1
  obtain ⟨y, hy⟩ := of_mayW h2
  exact .inl ⟨x, y, hx, hy⟩
 ·exact .inr h
theorem withS_int' (z : Int) : withS (decide (z < 0)) z.natAbs = z := by
 unfold withS
 by_cases h : z < 0
 ·rw [if_pos (decide_eq_true h)]; omega
 ·rw [if_neg (by rw [decide_eq_true_eq]; exact h)]; omega
theorem withS_not' (z : Int) : withS (!decide (z < 0)) z.natAbs = -z := by
 unfold withS
 by_cases h : z < 0
 ·rw [decide_eq_true h, if_neg (by decide)]; omega
 ·rw [decide_eq_false h, if_pos (by decide)]; omega
theorem with_f (b : Bool) {n : Nat} (h : sz n ≤ 1000000) : Px.r2_with.f (natB n) b = some (intB (withS b n)) := by
 rw [← withS_text]
 unfold Px.r2_with.f
 cases b with
 | false => rfl
 | true =>
  simp only [if_true]
  by_cases hz : n = 0
  ·rw [if_pos (natB_toList_zero.2 hz), if_pos hz]
  ·unfold sz at h
   rw [if_neg (fun e => hz (natB_toList_zero.1 e)), if_neg hz, if_pos (by omega)]
theorem r2of_f (n : Int) (h0 : -9223372036854775808 ≤ n) (h1 : n ≤ 9223372036854775807) : Px.r2_Of.f n = some (intB n) := by
 unfold Px.r2_Of.f
 have hof : ∀ m : Int, 0 ≤ m → m ≤ 9223372036854775807 → r1_Of.f m = some (natB m.toNat) := by
  intro m h2 h3
  unfold r1_Of.f ofS
  rw [if_pos ⟨by omega, h3⟩, if_neg (by omega)]
 by_cases h : n < 0
 ·rw [if_pos h, w64 (x := n + 1) (by omega) (by omega), w64 (by omega) (by omega), hof _ (by omega) (by omega), Option.bind_some, ← natB_one]
  have s1 : sz (-(n + 1)).toNat ≤ 20 := sz_le (by omega) (by omega)
  have s2 : sz 1 ≤ 20 := sz_le (by omega) (by omega)
  have s3 := sz_add (-(n + 1)).toNat 1
  rw [rAdd (by omega) (by omega), Option.bind_some, if_pos (by unfold sz at s1 s2 s3; omega)]
  have e : (-(n + 1)).toNat + 1 = n.natAbs := by omega
  rw [e]
  unfold intB
  rw [if_pos h]
 ·rw [if_neg h, hof n (by omega) h1, Option.bind_some, intB_nonneg (by omega)]
theorem r2abs_f {a : ByteArray} (h : a.size ≤ 50000) : Px.r2_Abs.f a = some (wabsS a) := by
 unfold Px.r2_Abs.f wabsS
 rw [r2may_f h, Option.bind_some]
 by_cases hm : mayW a = true
 ·obtain ⟨z, rfl⟩ := of_mayW hm
  rw [if_pos hm, amount_f, Option.bind_some, if_pos hm, numW_int, amtB_int]
 ·rw [if_neg hm, if_neg hm]
  rfl
theorem r2neg_f {a : ByteArray} (h : a.size ≤ 50000) : Px.r2_Neg.f a = some (wnegS a) := by
 unfold Px.r2_Neg.f wnegS
 rw [r2may_f h, Option.bind_some]
 by_cases hm : mayW a = true
 ·obtain ⟨z, rfl⟩ := of_mayW hm
  have h1 := le_szI z
  have h2 : szI z ≤ 50000 := h
  rw [if_pos hm, amount_f, Option.bind_some, if_pos hm, numW_int, amtB_int, minusB_int, with_f _ (by omega), withS_not']
  rfl
 ·rw [if_neg hm, if_neg hm]
  rfl
theorem r2sign_f {a : ByteArray} (h : a.size ≤ 50000) (k : Nat) : Px.r2_Sign.f (k + 1) a = some (wsignS a) := by
 unfold Px.r2_Sign.f wsignS
 rw [amount_f, Option.bind_some, r2may_f h, Option.bind_some]
 by_cases hm : mayW a = true
 ·obtain ⟨z, rfl⟩ := of_mayW hm
  rw [if_pos hm, if_pos hm, amtB_int, minusB_int, natB_beq_zero, numW_int]
  simp only [Px.r2_Sign.j0]
  rcases (by omega : z < 0 ∨ z = 0 ∨ 0 < z) with hz | hz | hz
  ·rw [if_neg (by rw [decide_eq_true_eq]; omega), if_pos (decide_eq_true hz), cmp_lt' hz]
  ·subst hz
   rfl
  ·rw [if_neg (by rw [decide_eq_true_eq]; omega), if_neg (by rw [decide_eq_true_eq]; omega), cmp_gt' hz]
 ·rw [if_neg hm, if_neg hm]
  rfl
theorem r2add_core {m n : Nat} (a b : Bool) (hm : sz m ≤ 50000) (hn : sz n ≤ 50000) :
  (if (a == b) = true then ((r1_Add.f (natB m) (natB n)).bind fun t => ((Px.r2_with.f t a).bind fun u => some u)) else ((r1_Cmp.f (natB m) (natB n)).bind fun c => (if c ≥ 0 then ((r1_Sub.f (natB m) (natB n)).bind fun d => ((Px.r2_with.f d.1 a).bind fun u => some u)) else ((r1_Sub.f (natB n) (natB m)).bind fun d => ((Px.r2_with.f d.1 b).bind fun u => some u))))) = some (intB (withS a m + withS b n)) := by
 have s1 := sz_add m n
 have s2 := sz_mono (show m - n ≤ m by omega)
 have s3 := sz_mono (show n - m ≤ n by omega)
 by_cases h : a = b
 ·subst h
  rw [if_pos (by simp), rAdd hm hn, Option.bind_some, with_f _ (by omega), Option.bind_some]
  congr 2
  unfold withS
  cases a
  ·simp
  ·simp only [if_true]; omega
 ·rw [if_neg (by simpa using h), rCmp hm hn, Option.bind_some]
  by_cases hle : n ≤ m
  ·have hc : Lib.compareInt (m : Int) (n : Int) ≥ 0 := by unfold Lib.compareInt; (repeat' split) <;> omega
   rw [if_pos hc, rSub hm hn, Option.bind_some, if_pos hle, with_f _ (by omega), Option.bind_some]
   congr 2
   unfold withS
   cases a <;> cases b <;> first | exact absurd rfl h | (simp only [Bool.false_eq_true, if_true, if_false]; omega)
  ·have hc : ¬ Lib.compareInt (m : Int) (n : Int) ≥ 0 := by unfold Lib.compareInt; (repeat' split) <;> omega
   rw [if_neg hc, rSub hn hm, Option.bind_some, if_pos (by omega), with_f _ (by omega), Option.bind_some]
   congr 2
   unfold withS
   cases a <;> cases b <;> first | exact absurd rfl h | (simp only [Bool.false_eq_true, if_true, if_false]; omega)
theorem r2add_f {a b : ByteArray} (ha : a.size ≤ 50000) (hb : b.size ≤ 50000) (k : Nat) : Px.r2_Add.f (k + 1) a b = some (waddS a b) := by
 unfold Px.r2_Add.f waddS
 rw [r2may_f ha, Option.bind_some]
 rcases casesW' a b with ⟨x, y, rfl, rfl⟩ | hm
 ·have h1 := le_szI x
  have h2 := le_szI y
  have h3 : szI x ≤ 50000 := ha
  have h4 : szI y ≤ 50000 := hb
  rw [if_pos (mayW_int x), r2may_f hb, Option.bind_some, mayW_int]
  simp only [Px.r2_Add.j0]
  rw [if_neg (by decide), amount_f, Option.bind_some, amount_f, Option.bind_some, amtB_int, amtB_int, minusB_int, minusB_int, r2add_core _ _ (by omega) (by omega), withS_int', withS_int', if_pos (may2W_int' x y), numW_int, numW_int]
 ·rw [if_neg hm]
  by_cases h1 : mayW a = true
  ·rw [if_pos h1, r2may_f hb, Option.bind_some, (Bool.not_eq_true _).mp (fun h2 => hm (may2W_and'.2 ⟨h1, h2⟩))]
   rfl
  ·rw [if_neg h1]
   rfl
theorem withS_mul' (a b : Bool) (m n : Nat) : withS (a != b) (m * n) = withS a m * withS b n := by
 unfold withS
 cases a <;> cases b <;> simp [Int.natCast_mul, Int.neg_mul, Int.mul_neg]
theorem r2mul_f {a b : ByteArray} (ha : a.size ≤ 50000) (hb : b.size ≤ 50000) (k : Nat) : Px.r2_Mul.f (k + 1) a b = some (wmulS a b) := by
 unfold Px.r2_Mul.f wmulS
 rw [r2may_f ha, Option.bind_some]
 rcases casesW' a b with ⟨x, y, rfl, rfl⟩ | hm
 ·have h1 := le_szI x
  have h2 := le_szI y
  have h3 : szI x ≤ 50000 := ha
  have h4 : szI y ≤ 50000 := hb
  have h5 := sz_mul x.natAbs y.natAbs
  rw [if_pos (mayW_int x), r2may_f hb, Option.bind_some, mayW_int]
  simp only [Px.r2_Mul.j0]
  rw [if_neg (by decide), amount_f, Option.bind_some, amount_f, Option.bind_some, amtB_int, amtB_int, minusB_int, minusB_int, rMul (by omega) (by omega), Option.bind_some, with_f _ (by omega), withS_mul', withS_int', withS_int', if_pos (may2W_int' x y), numW_int, numW_int]
  rfl
 ·rw [if_neg hm]
  by_cases h1 : mayW a = true
  ·rw [if_pos h1, r2may_f hb, Option.bind_some, (Bool.not_eq_true _).mp (fun h2 => hm (may2W_and'.2 ⟨h1, h2⟩))]
   rfl
  ·rw [if_neg h1]
   rfl
theorem r2div_f {a b : ByteArray} (ha : a.size ≤ 49990) (hb : b.size ≤ 49990) (k : Nat) : Px.r2_Div.f (k + 2) a b = some (wdivS a b) := by
 unfold Px.r2_Div.f wdivS
 rw [r2may_f (by omega), Option.bind_some]
 rcases casesW' a b with ⟨x, y, rfl, rfl⟩ | hm
 ·have h1 := le_szI x
  have h2 := le_szI y
  have h3 : szI x ≤ 49990 := ha
  have h4 : szI y ≤ 49990 := hb
  have hb0 : ((intB y).toList == ([48] : List UInt8)) = decide (y = 0) := by
   have e : (intB 0).toList = [48] := by
    rw [show intB 0 = natB 0 from intB_nat 0]
    exact natB_toList_zero.2 rfl
   rw [Bool.eq_iff_iff, beq_iff_eq, decide_eq_true_eq, ← e]
   exact intB_toList_inj
  rw [if_pos (mayW_int x), r2may_f (by omega), Option.bind_some, if_pos (mayW_int y), may2W_int', Bool.true_and, numW_int, numW_int, hb0]
  show Px.r2_Div.j0 (k + 1 + 1) _ _ _ = _
  simp only [Px.r2_Div.j0]
  by_cases hy : y = 0
  ·subst hy
   rfl
  ·have hy' : y.natAbs ≠ 0 := by omega
   have hd := divW (m := x.natAbs) hy' (decide (x < 0)) (decide (y < 0)) (by intro h; rw [decide_eq_true_eq] at h; omega)
   rw [withS_int', withS_int'] at hd
   have s1 := sz_mono (Nat.div_le_self x.natAbs y.natAbs)
   have s2 := sz_mono (Nat.mod_le x.natAbs y.natAbs)
   have hlt := Nat.mod_lt x.natAbs (show 0 < y.natAbs by omega)
   rw [if_neg (by rw [decide_eq_true_eq]; exact hy), if_pos (decide_eq_true hy), amount_f, Option.bind_some, amount_f, Option.bind_some, amtB_int, amtB_int, minusB_int, minusB_int, rDiv (by omega) (by omega) hy', Option.bind_some, hd.1, hd.2]
   clear hd
   generalize x.natAbs / y.natAbs = q at *
   generalize x.natAbs % y.natAbs = r at *
   have one1 : sz 1 ≤ 1 := sz_le (by omega) (by omega)
   have s3 := sz_add q 1
   by_cases hx : x < 0
   ·rw [if_pos (decide_eq_true hx)]
    simp only [Px.r2_Div.j1]
    by_cases hr : r = 0
    ·subst hr
     rw [if_neg (by have := natB_beq_zero 0; simp [bne, this]), with_f _ (by omega), Option.bind_some, if_neg (by simp), if_neg (by simp), intB_nat]
    ·rw [if_pos (by have := natB_beq_zero r; simp [bne, this, hr]), ← natB_one, rAdd (by omega) (by omega), Option.bind_some, rSub (by omega) (by omega), Option.bind_some, if_pos (by omega), with_f _ (by omega), Option.bind_some, if_pos ⟨decide_eq_true hx, hr⟩, if_pos ⟨decide_eq_true hx, hr⟩, intB_nat]
   ·rw [if_neg (by rw [decide_eq_true_eq]; exact hx)]
    simp only [Px.r2_Div.j1]
    have hf : ¬ (decide (x < 0) = true ∧ r ≠ 0) := fun e => hx (of_decide_eq_true e.1)
    rw [if_neg (by decide), with_f _ (by omega), Option.bind_some, if_neg hf, if_neg hf, intB_nat]
 ·rw [(Bool.not_eq_true _).mp hm]
  by_cases h1 : mayW a = true
  ·rw [if_pos h1, r2may_f (by omega), Option.bind_some, if_neg (fun h2 => hm (may2W_and'.2 ⟨h1, h2⟩))]
   rfl
  ·rw [if_neg h1]
   rfl
def smr (s : ByteArray) : Bool := decide (s.size ≤ 20000)
theorem smr_le {s : ByteArray} (h : smr s = true) : s.size ≤ 20000 := of_decide_eq_true h
def smr2 (a b : ByteArray) : Bool := smr a && smr b
theorem smr2_le {a b : ByteArray} (h : smr2 a b = true) : a.size ≤ 20000 ∧ b.size ≤ 20000 := by
 unfold smr2 at h
 rw [Bool.and_eq_true] at h
 exact ⟨smr_le h.1, smr_le h.2⟩
def r2_Of.f (a0 : Int) : Option ByteArray := if -9223372036854775808 ≤ a0 ∧ a0 ≤ 9223372036854775807 then some (intB a0) else none
theorem r2_Of.calls (a0 : Int) (r : ByteArray) (w : World) (h : r2_Of.f a0 = some r) :
  Calls Tryz.prog 50 #[.int .i64 a0] w fun e w' => e = .returned (.string r) ∧ Below w.heap.size w w' := by
 unfold r2_Of.f at h
 split at h
 ·rename_i hp
  rw [← r2of_f a0 hp.1 hp.2] at h
  exact Px.r2_Of.calls a0 r w h
 ·cases h
def r2_Sign.f (a0 : ByteArray) : Option Int := if smr a0 = true then some (wsignS a0) else none
theorem r2_Sign.calls (a0 : ByteArray) (r : Int) (w : World) (h : r2_Sign.f a0 = some r) :
  Calls Tryz.prog 62 #[.string a0] w fun e w' => e = .returned (.int .i64 r) ∧ Below w.heap.size w w' := by
 unfold r2_Sign.f at h
 split at h
 ·rename_i hp
  have hs := smr_le hp
  rw [← r2sign_f (by omega) 0] at h
  exact Px.r2_Sign.calls _ a0 r w h
 ·cases h
def r2_Abs.f (a0 : ByteArray) : Option ByteArray := if smr a0 = true then some (wabsS a0) else none
theorem r2_Abs.calls (a0 : ByteArray) (r : ByteArray) (w : World) (h : r2_Abs.f a0 = some r) :
  Calls Tryz.prog 45 #[.string a0] w fun e w' => e = .returned (.string r) ∧ Below w.heap.size w w' := by
 unfold r2_Abs.f at h
 split at h
 ·rename_i hp
  have hs := smr_le hp
  rw [← r2abs_f (by omega)] at h
  exact Px.r2_Abs.calls a0 r w h
 ·cases h
def r2_Neg.f (a0 : ByteArray) : Option ByteArray := if smr a0 = true then some (wnegS a0) else none
theorem r2_Neg.calls (a0 : ByteArray) (r : ByteArray) (w : World) (h : r2_Neg.f a0 = some r) :
  Calls Tryz.prog 34 #[.string a0] w fun e w' => e = .returned (.string r) ∧ Below w.heap.size w w' := by
 unfold r2_Neg.f at h
 split at h
 ·rename_i hp
  have hs := smr_le hp
  rw [← r2neg_f (by omega)] at h
  exact Px.r2_Neg.calls a0 r w h
 ·cases h
def r2_Add.f (a0 a1 : ByteArray) : Option ByteArray := if smr2 a0 a1 = true then some (waddS a0 a1) else none
theorem r2_Add.calls (a0 a1 : ByteArray) (r : ByteArray) (w : World) (h : r2_Add.f a0 a1 = some r) :
  Calls Tryz.prog 49 #[.string a0, .string a1] w fun e w' => e = .returned (.string r) ∧ Below w.heap.size w w' := by
 unfold r2_Add.f at h
 split at h
 ·rename_i hp
  have hs := smr2_le hp
  rw [← r2add_f (by omega) (by omega) 0] at h
  exact Px.r2_Add.calls _ a0 a1 r w h
 ·cases h
def r2_Mul.f (a0 a1 : ByteArray) : Option ByteArray := if smr2 a0 a1 = true then some (wmulS a0 a1) else none
theorem r2_Mul.calls (a0 a1 : ByteArray) (r : ByteArray) (w : World) (h : r2_Mul.f a0 a1 = some r) :
  Calls Tryz.prog 47 #[.string a0, .string a1] w fun e w' => e = .returned (.string r) ∧ Below w.heap.size w w' := by
 unfold r2_Mul.f at h
 split at h
 ·rename_i hp
  have hs := smr2_le hp
  rw [← r2mul_f (by omega) (by omega) 0] at h
  exact Px.r2_Mul.calls _ a0 a1 r w h
 ·cases h
def r2_Div.f (a0 a1 : ByteArray) : Option (ByteArray × ByteArray × Bool) := if smr2 a0 a1 = true then some (wdivS a0 a1) else none
theorem r2_Div.calls (a0 a1 : ByteArray) (r1 r2 : ByteArray) (r3 : Bool) (w : World) (h : r2_Div.f a0 a1 = some (r1, r2, r3)) :
  Calls Tryz.prog 64 #[.string a0, .string a1] w fun e w' => e = .returned (.tuple #[.string r1, .string r2, .bool r3]) ∧ Below w.heap.size w w' := by
 unfold r2_Div.f at h
 split at h
 ·rename_i hp
  have hs := smr2_le hp
  rw [← r2div_f (by omega) (by omega) 0] at h
  exact Px.r2_Div.calls _ a0 a1 r1 r2 r3 w h
 ·cases h
end Go.Proofs.YtaldgaiaelbbaaaGreatDoor
end

section
namespace Go.Proofs.YtaldgaiaelbbaaaGreatDoor
theorem rgcd_loop {N : Nat} (hN : N ≤ 50000) : ∀ (n m k : Nat), (natB m).size ≤ N → (natB n).size ≤ N → n + 22 * N + 60 ≤ k → Pq.r1_Gcd.l0 k (natB m) (natB n) = some (natB (Nat.gcd m n))
 | n, m, k, hm, hn, hk => by
  obtain ⟨k, rfl⟩ : ∃ j, k = j + 1 := ⟨k - 1, by omega⟩
  simp only [Pq.r1_Gcd.l0]
  rw [ByteArray.toList_eq]
  have hz := list48 (mayB_natB n)
  rw [numB_natB] at hz
  by_cases h : n = 0
  ·rw [if_pos (hz.2 h), h, Nat.gcd_zero_right]
  ·rw [if_neg (fun e => h (hz.1 e)), rdiv_f hN hm hn k (by omega), Option.bind_some]
   have hd : divS (natB m) (natB n) = (natB (m / n), natB (m % n), true) := by
    unfold divS
    rw [numB_natB, numB_natB, if_pos (by rw [may2_eq (mayB_natB m) (mayB_natB n), decide_eq_true h]; rfl)]
   rw [hd]
   have h2 := Nat.mod_lt m (show 0 < n by omega)
   have h3 := natB_le (mayB_natB n) (n := m % n) (by rw [numB_natB]; omega)
   have := rgcd_loop hN (m % n) n k hn (by omega) (by omega)
   rw [this, Nat.gcd_comm m n, Nat.gcd_rec n m, Nat.gcd_comm]
 termination_by n => n
 decreasing_by exact Nat.mod_lt m (by omega)
theorem rgcd_f {a b : ByteArray} {N : Nat} (hN : N ≤ 50000) (ha : a.size ≤ N) (hb : b.size ≤ N) (k : Nat) (hk : numB b + 22 * N + 70 ≤ k) : Pq.r1_Gcd.f k a b = some (gcdS a b) := by
 obtain ⟨k, rfl⟩ : ∃ m, k = m + 1 := ⟨k - 1, by omega⟩
 unfold Pq.r1_Gcd.f
 rw [rmay_f a (by omega) _ (by omega), Option.bind_some]
 by_cases h1 : mayB a = true
 ·rw [if_pos h1, rmay_f b (by omega) _ (by omega), Option.bind_some]
  by_cases h2 : mayB b = true
  ·rw [h2]
   simp only [Pq.r1_Gcd.j0]
   unfold gcdS
   rw [if_pos (may2_eq h1 h2), if_neg (by decide)]
   have := rgcd_loop hN (numB b) (numB a) k (by rw [natB_numB h1]; exact ha) (by rw [natB_numB h2]; exact hb) (by omega)
   rw [natB_numB h1, natB_numB h2] at this
   exact this
  ·rw [(Bool.not_eq_true _).mp h2]
   unfold gcdS
   rw [if_neg (may2_no2 h2)]
   rfl
 ·rw [if_neg h1]
  unfold gcdS
  rw [if_neg (may2_no1 h1)]
  rfl
def r1_Gcd.f (a0 a1 : ByteArray) : Option ByteArray := if sm2 a0 a1 = true then some (gcdS a0 a1) else none
theorem r1_Gcd.calls (a0 a1 : ByteArray) (r : ByteArray) (w : World) (h : r1_Gcd.f a0 a1 = some r) :
  Calls Tryz.prog 63 #[.string a0, .string a1] w fun e w' => e = .returned (.string r) ∧ Below w.heap.size w w' := by
 unfold r1_Gcd.f at h
 split at h
 ·rename_i hp
  rw [← rgcd_f (N := 50000) (by omega) (sm_le (and2 hp).1) (sm_le (and2 hp).2) _ (Nat.le_refl _)] at h
  exact Pq.r1_Gcd.calls _ a0 a1 r w h
 ·cases h
end Go.Proofs.YtaldgaiaelbbaaaGreatDoor
end

section
namespace Go.Proofs.YtaldgaiaelbbaaaGreatDoor.Pz
def errW : Option Int → Value
 | none => .nilIface
 | some c => .iface 0 (.int .i64 c)
theorem errW_none : errW none = .nilIface := rfl
theorem errW_some (c : Int) : errW (some c) = .iface 0 (.int .i64 c) := rfl
theorem info23 : (Tryz.prog.info? 23).map (fun i => (i.zero, i.size, i.bytes)) = some (some (.agg #[(.string ⟨#[]⟩), (.string ⟨#[]⟩)]), 2, 32) := by kernel_rfl
structure S23 where
 f0 : ByteArray
 f1 : ByteArray
def z23 : S23 := ⟨(⟨#[]⟩ : ByteArray), (⟨#[]⟩ : ByteArray)⟩
def k23 : Kd S23 := Kd.iso (Kd.pair Kd.string Kd.string) (fun x : S23 => (x.f0, x.f1))
theorem k23_open {w : World} {x : S23} {cs : List Value} (h : k23.K w x cs) : cs = [.string x.f0, .string x.f1] := by
 obtain ⟨_, _, rfl, rfl, rfl⟩ := h; exact rfl
theorem k23_mkM (w : World) (base : Nat) (ok : Nat → Prop) (x : S23)  : k23.M w base ok x [.string x.f0, .string x.f1] := ⟨[.string x.f0], [.string x.f1], rfl, rfl, rfl⟩
def rd_T23 (xs : List S23) (i : Int) : S23 := xs.getD i.toNat z23
theorem at_T23 {w : World} {A : Option Addr} {n : Nat} {xs : List S23} (h : Kd.C k23 w A n xs) (i : Int) (h0 : 0 ≤ i) (h1 : i < n) : ∃ ad , A = some ad ∧ w.cell? (ad.add (i.toNat * 2)) = some (.string (rd_T23 xs i).f0) ∧ w.cell? ⟨(ad.add (i.toNat * 2)).block, (ad.add (i.toNat * 2)).off + 1, none⟩ = some (.string (rd_T23 xs i).f1) := by
 obtain ⟨ad, c, e, _, hK, hc0⟩ := Kd.C_get h z23 i h0 h1; have hc : ∀ j u, c[j]? = some u → w.cell? (ad.add (i.toNat * 2 + j)) = some u := hc0; obtain rfl := k23_open hK; exact ⟨ad, e, hc 0 _ rfl, by rw [← add_field _ _ 1 (by omega)]; exact hc 1 _ rfl⟩
end Go.Proofs.YtaldgaiaelbbaaaGreatDoor.Pz
end

section
namespace Go.Proofs.YtaldgaiaelbbaaaGreatDoor.Pz
def r3_May.f (a0_0 : ByteArray) (a0_1 : ByteArray) : Option (Bool) := (r2_May.f a0_0).bind fun t102 => (if t102 = true then ((r1_May.f a0_1).bind fun t103 => (if t103 = true then (if a0_1.toList = ([48] : List UInt8) then (some false) else ((r2_Abs.f a0_0).bind fun t104 => ((r1_Gcd.f t104 a0_1).bind fun t105 => (some (t105.toList == ([49] : List UInt8)))))) else (some false))) else (some false))
def r3_May.T1 : Bool × List (List Nat × List Nat) := (true, [([], []), ([0], [0]), ([1], [1]), ([2, 2], [2]), ([3], [3]), ([4, 3], [3, 4]), ([5, 3, 3], [3, 5]), ([3, 6], [3, 6]), ([7, 6], [7]), ([8], [8]), ([9, 8], [8, 9]), ([10, 8], [8, 10]), ([8, 11], [8, 11]), ([12, 8], [12]), ([13], [13]), ([14, 13], [13, 14]), ([15, 13, 13], [13, 15]), ([13], [13]), ([17, 13], [13, 17]), ([16, 18, 16, 13], [13, 16, 18]), ([19, 13], [13, 19]), ([13, 20], [13, 20]), ([21, 19, 0, 1, 2, 3, 4, 5, 6, 7, 8, 9, 10, 11, 12, 13, 14, 15, 16, 17, 18, 19, 20, 21], [21])])
def r3_May.B1 : List Nat := [0, 1, 3, 7, 15, 31, 63, 127, 255, 511, 1023, 2047, 4095, 8191, 16383, 32767, 65535, 16383, 147455, 524287, 1048575, 2097151, 4194303]
theorem r3_May.tab1 : rtab .any (opsOf Tryz.f38 1) = r3_May.T1 := by kernel_rfl
theorem r3_May.bits1 : waitsOk r3_May.T1.2 r3_May.B1 = true := by kernel_rfl
set_option maxHeartbeats 8000000 in
set_option maxRecDepth 100000 in
theorem r3_May.calls (a0_0 : ByteArray) (a0_1 : ByteArray) (r : Bool) (w : World) (h : r3_May.f a0_0 a0_1 = some r) :
  Calls Tryz.prog 38 #[.agg #[.string a0_0, .string a0_1]] w fun e w' => e = .returned (.bool r) ∧ Below w.heap.size w w' := by
 have hu23 := Tryz.underlying23; have HB := Aside0.mk (Below.refl w.heap.size w); have H := h; unfold r3_May.f at H; clear h; obtain ⟨t102, A2, H⟩ := bi_ H; by_cases c3 : t102 = true
 ·subst c3; rw [if_pos rfl] at H; obtain ⟨t103, A4, H⟩ := bi_ H; by_cases c5 : t103 = true
  ·subst c5; rw [if_pos rfl] at H; by_cases c6 : a0_1.toList = ([48] : List UInt8)
   ·rw [if_pos c6] at H; have c6b0 : (a0_1.toList == ([48] : List UInt8)) = true := beq_iff_eq.mpr c6; have c6b1 : (a0_1.toList != ([48] : List UInt8)) = false := bne_eq_false_iff_eq.mpr c6; clear c6; obtain rfl := Option.some.inj H; go_enter Tryz.func38, Tryz.ntmps38
    try go_wp2_with (first | ((with_reducible refine gate_dst (N := 1) rfl ?_); refine be_ 1 #[.string a0_0, .string a0_1] 23 ?_; intro gb101 hg w7 hbox hb; have BK101 := Aside0.mk (hbox); have GW101 := ge_ HB hg; have GE101 := ge_ HB hg; replace HB := bs_ HB hb; clear hb hbox hg))
    replace BK101 := Aside0.mk (blk_drew BK101.out); replace HB := Aside0.mk (below_drew1 HB.out); refine sa_ 23 (fun w' => w'.cell? ⟨gb101, 0, none⟩ = some (.string a0_0) ∧ w'.cell? ⟨gb101, 1, none⟩ = some (.string a0_1)) (fun hHeld => ?_); refine with_tabW r3_May.tab1 r3_May.bits1 (fun HT_ HW_ => ?_); generalize w7.drew = w8 at BK101 HB hHeld ⊢; refine pu_ 0 3 rfl rfl HT_ ?_; refine t2_ 1 4 rfl rfl HT_ HW_ hHeld ?_; refine on_ 2 (some 5) rfl rfl HT_ (fun K hK => ?_); refine gs_ Tryz.func59 #[.string a0_0] ?_; refine mo_ (r2_May.calls a0_0 true _ A2.out) ?_; intro w9 hb; replace BK101 := kb_ BK101 hb; replace HB := bs_ HB hb; (try clear hb); refine hk_ hK (fun hHeld => ?_); clear hK K; refine nm_ ?_; refine pu_ 3 6 rfl rfl HT_ ?_; refine pu_ 4 7 rfl rfl HT_ ?_; refine t2_ 5 8 rfl rfl HT_ HW_ hHeld ?_; refine on_ 6 (some 9) rfl rfl HT_ (fun K hK => ?_); refine gs_ Tryz.func68 #[.string a0_1] ?_; refine mo_ (r1_May.calls a0_1 true _ A4.out) ?_; intro w10 hb; replace BK101 := kb_ BK101 hb; replace HB := bs_ HB hb; (try clear hb); refine hk_ hK (fun hHeld => ?_); clear hK K; refine nm_ ?_; refine pu_ 7 10 rfl rfl HT_ ?_; refine pu_ 8 11 rfl rfl HT_ ?_; refine pu_ 9 12 rfl rfl HT_ ?_; refine t2_ 10 13 rfl rfl HT_ HW_ hHeld ?_; refine pu_ 11 14 rfl rfl HT_ ?_; refine pu_ 12 15 rfl rfl HT_ ?_; refine pu_ 13 16 rfl rfl HT_ ?_; refine pv_ 14 17 rfl rfl HT_ ?_; refine pv_ 15 18 rfl rfl HT_ ?_; refine pv_ 16 19 rfl rfl HT_ ?_; refine pv_ 17 20 rfl rfl HT_ ?_; refine pv_ 18 21 rfl rfl HT_ ?_; refine pv_ 19 22 rfl rfl HT_ ?_; refine pv_ 20 23 rfl rfl HT_ ?_; refine pu_ 21 24 rfl rfl HT_ ?_; refine pu_ 22 2 rfl rfl HT_ ?_; refine done_ (done_of HT_.out (by kernel_rfl)) ?_
    try go_wp2
    go_ret
    exact ⟨er_, b_ HB.out⟩
   ·rw [if_neg c6] at H; have c6b0 : (a0_1.toList == ([48] : List UInt8)) = false := beq_eq_false_iff_ne.mpr c6; have c6b1 : (a0_1.toList != ([48] : List UInt8)) = true := bne_iff_ne.mpr c6; obtain ⟨t104, A11, H⟩ := bi_ H; obtain ⟨t105, A12, H⟩ := bi_ H; obtain rfl := Option.some.inj H; go_enter Tryz.func38, Tryz.ntmps38
    try go_wp2_with (first | ((with_reducible refine gate_dst (N := 1) rfl ?_); refine be_ 1 #[.string a0_0, .string a0_1] 23 ?_; intro gb101 hg w13 hbox hb; have BK101 := Aside0.mk (hbox); have GW101 := ge_ HB hg; have GE101 := ge_ HB hg; replace HB := bs_ HB hb; clear hb hbox hg))
    replace BK101 := Aside0.mk (blk_drew BK101.out); replace HB := Aside0.mk (below_drew1 HB.out); refine sa_ 23 (fun w' => w'.cell? ⟨gb101, 0, none⟩ = some (.string a0_0) ∧ w'.cell? ⟨gb101, 1, none⟩ = some (.string a0_1)) (fun hHeld => ?_); refine with_tabW r3_May.tab1 r3_May.bits1 (fun HT_ HW_ => ?_); generalize w13.drew = w14 at BK101 HB hHeld ⊢; refine pu_ 0 3 rfl rfl HT_ ?_; refine t2_ 1 4 rfl rfl HT_ HW_ hHeld ?_; refine on_ 2 (some 5) rfl rfl HT_ (fun K hK => ?_); refine gs_ Tryz.func59 #[.string a0_0] ?_; refine mo_ (r2_May.calls a0_0 true _ A2.out) ?_; intro w15 hb; replace BK101 := kb_ BK101 hb; replace HB := bs_ HB hb; (try clear hb); refine hk_ hK (fun hHeld => ?_); clear hK K; refine nm_ ?_; refine pu_ 3 6 rfl rfl HT_ ?_; refine pu_ 4 7 rfl rfl HT_ ?_; refine t2_ 5 8 rfl rfl HT_ HW_ hHeld ?_; refine on_ 6 (some 9) rfl rfl HT_ (fun K hK => ?_); refine gs_ Tryz.func68 #[.string a0_1] ?_; refine mo_ (r1_May.calls a0_1 true _ A4.out) ?_; intro w16 hb; replace BK101 := kb_ BK101 hb; replace HB := bs_ HB hb; (try clear hb); refine hk_ hK (fun hHeld => ?_); clear hK K; refine nm_ ?_; refine pu_ 7 10 rfl rfl HT_ ?_; refine pu_ 8 11 rfl rfl HT_ ?_; refine pu_ 9 12 rfl rfl HT_ ?_; refine t2_ 10 13 rfl rfl HT_ HW_ hHeld ?_; refine pu_ 11 14 rfl rfl HT_ ?_; refine pu_ 12 15 rfl rfl HT_ ?_; refine pu_ 13 16 rfl rfl HT_ ?_; refine pu_ 14 17 rfl rfl HT_ ?_; refine pu_ 17 20 rfl rfl HT_ ?_; refine t2_ 15 18 rfl rfl HT_ HW_ hHeld ?_; refine t2_ 18 21 rfl rfl HT_ HW_ hHeld ?_; refine on_ 16 (some 19) rfl rfl HT_ (fun K hK => ?_); refine gs_ Tryz.func45 #[.string a0_0] ?_; refine mo_ (r2_Abs.calls a0_0 t104 _ A11.out) ?_; intro w17 hb; replace BK101 := kb_ BK101 hb; replace HB := bs_ HB hb; (try clear hb); refine hk_ hK (fun hHeld => ?_); clear hK K; refine nm_ ?_; refine on_ 19 (some 22) rfl rfl HT_ (fun K hK => ?_); refine gs_ Tryz.func63 #[.string t104, .string a0_1] ?_; refine mo_ (r1_Gcd.calls t104 a0_1 t105 _ A12.out) ?_; intro w18 hb; replace BK101 := kb_ BK101 hb; replace HB := bs_ HB hb; (try clear hb); refine hk_ hK (fun hHeld => ?_); clear hK K; refine nm_ ?_; refine pu_ 20 23 rfl rfl HT_ ?_; refine pu_ 21 24 rfl rfl HT_ ?_; refine pu_ 22 2 rfl rfl HT_ ?_; refine done_ (done_of HT_.out (by kernel_rfl)) ?_
    try go_wp2
    go_ret
    exact ⟨er_, b_ HB.out⟩
  ·replace c5 := Bool.eq_false_iff.mpr c5; subst c5; rw [if_neg nf_] at H; obtain rfl := Option.some.inj H; go_enter Tryz.func38, Tryz.ntmps38
   try go_wp2_with (first | ((with_reducible refine gate_dst (N := 1) rfl ?_); refine be_ 1 #[.string a0_0, .string a0_1] 23 ?_; intro gb101 hg w19 hbox hb; have BK101 := Aside0.mk (hbox); have GW101 := ge_ HB hg; have GE101 := ge_ HB hg; replace HB := bs_ HB hb; clear hb hbox hg))
   replace BK101 := Aside0.mk (blk_drew BK101.out); replace HB := Aside0.mk (below_drew1 HB.out); refine sa_ 23 (fun w' => w'.cell? ⟨gb101, 0, none⟩ = some (.string a0_0) ∧ w'.cell? ⟨gb101, 1, none⟩ = some (.string a0_1)) (fun hHeld => ?_); refine with_tabW r3_May.tab1 r3_May.bits1 (fun HT_ HW_ => ?_); generalize w19.drew = w20 at BK101 HB hHeld ⊢; refine pu_ 0 3 rfl rfl HT_ ?_; refine t2_ 1 4 rfl rfl HT_ HW_ hHeld ?_; refine on_ 2 (some 5) rfl rfl HT_ (fun K hK => ?_); refine gs_ Tryz.func59 #[.string a0_0] ?_; refine mo_ (r2_May.calls a0_0 true _ A2.out) ?_; intro w21 hb; replace BK101 := kb_ BK101 hb; replace HB := bs_ HB hb; (try clear hb); refine hk_ hK (fun hHeld => ?_); clear hK K; refine nm_ ?_; refine pu_ 3 6 rfl rfl HT_ ?_; refine pu_ 4 7 rfl rfl HT_ ?_; refine t2_ 5 8 rfl rfl HT_ HW_ hHeld ?_; refine on_ 6 (some 9) rfl rfl HT_ (fun K hK => ?_); refine gs_ Tryz.func68 #[.string a0_1] ?_; refine mo_ (r1_May.calls a0_1 false _ A4.out) ?_; intro w22 hb; replace BK101 := kb_ BK101 hb; replace HB := bs_ HB hb; (try clear hb); refine hk_ hK (fun hHeld => ?_); clear hK K; refine nm_ ?_; refine pu_ 7 10 rfl rfl HT_ ?_; refine pu_ 8 11 rfl rfl HT_ ?_; refine pv_ 9 12 rfl rfl HT_ ?_; refine pv_ 10 13 rfl rfl HT_ ?_; refine pv_ 11 14 rfl rfl HT_ ?_; refine pu_ 12 15 rfl rfl HT_ ?_; refine pu_ 13 16 rfl rfl HT_ ?_; refine pv_ 14 17 rfl rfl HT_ ?_; refine pv_ 15 18 rfl rfl HT_ ?_; refine pv_ 16 19 rfl rfl HT_ ?_; refine pv_ 17 20 rfl rfl HT_ ?_; refine pv_ 18 21 rfl rfl HT_ ?_; refine pv_ 19 22 rfl rfl HT_ ?_; refine pv_ 20 23 rfl rfl HT_ ?_; refine pu_ 21 24 rfl rfl HT_ ?_; refine pu_ 22 2 rfl rfl HT_ ?_; refine done_ (done_of HT_.out (by kernel_rfl)) ?_
   try go_wp2
   go_ret
   exact ⟨er_, b_ HB.out⟩
 ·replace c3 := Bool.eq_false_iff.mpr c3; subst c3; rw [if_neg nf_] at H; obtain rfl := Option.some.inj H; go_enter Tryz.func38, Tryz.ntmps38
  try go_wp2_with (first | ((with_reducible refine gate_dst (N := 1) rfl ?_); refine be_ 1 #[.string a0_0, .string a0_1] 23 ?_; intro gb101 hg w23 hbox hb; have BK101 := Aside0.mk (hbox); have GW101 := ge_ HB hg; have GE101 := ge_ HB hg; replace HB := bs_ HB hb; clear hb hbox hg))
  replace BK101 := Aside0.mk (blk_drew BK101.out); replace HB := Aside0.mk (below_drew1 HB.out); refine sa_ 23 (fun w' => w'.cell? ⟨gb101, 0, none⟩ = some (.string a0_0) ∧ w'.cell? ⟨gb101, 1, none⟩ = some (.string a0_1)) (fun hHeld => ?_); refine with_tabW r3_May.tab1 r3_May.bits1 (fun HT_ HW_ => ?_); generalize w23.drew = w24 at BK101 HB hHeld ⊢; refine pu_ 0 3 rfl rfl HT_ ?_; refine t2_ 1 4 rfl rfl HT_ HW_ hHeld ?_; refine on_ 2 (some 5) rfl rfl HT_ (fun K hK => ?_); refine gs_ Tryz.func59 #[.string a0_0] ?_; refine mo_ (r2_May.calls a0_0 false _ A2.out) ?_; intro w25 hb; replace BK101 := kb_ BK101 hb; replace HB := bs_ HB hb; (try clear hb); refine hk_ hK (fun hHeld => ?_); clear hK K; refine nm_ ?_; refine pu_ 3 6 rfl rfl HT_ ?_; refine pv_ 4 7 rfl rfl HT_ ?_; refine pv_ 5 8 rfl rfl HT_ ?_; refine pv_ 6 9 rfl rfl HT_ ?_; refine pu_ 7 10 rfl rfl HT_ ?_; refine pu_ 8 11 rfl rfl HT_ ?_; refine pv_ 9 12 rfl rfl HT_ ?_; refine pv_ 10 13 rfl rfl HT_ ?_; refine pv_ 11 14 rfl rfl HT_ ?_; refine pu_ 12 15 rfl rfl HT_ ?_; refine pu_ 13 16 rfl rfl HT_ ?_; refine pv_ 14 17 rfl rfl HT_ ?_; refine pv_ 15 18 rfl rfl HT_ ?_; refine pv_ 16 19 rfl rfl HT_ ?_; refine pv_ 17 20 rfl rfl HT_ ?_; refine pv_ 18 21 rfl rfl HT_ ?_; refine pv_ 19 22 rfl rfl HT_ ?_; refine pv_ 20 23 rfl rfl HT_ ?_; refine pu_ 21 24 rfl rfl HT_ ?_; refine pu_ 22 2 rfl rfl HT_ ?_; refine done_ (done_of HT_.out (by kernel_rfl)) ?_
  try go_wp2
  go_ret
  exact ⟨er_, b_ HB.out⟩
end Go.Proofs.YtaldgaiaelbbaaaGreatDoor.Pz
end

section
namespace Go.Proofs.YtaldgaiaelbbaaaGreatDoor.Pz
mutual
def r3_Make.j0 : Nat → ByteArray → ByteArray → Bool → Option (ByteArray × ByteArray × Bool)
 | 0, _, _, _ => none
 | k + 1, x0, x1, x24 => if x24 = true then (some ((⟨#[]⟩ : ByteArray), (⟨#[]⟩ : ByteArray), false)) else ((r2_Sign.f x1).bind fun t109 => (if t109 < 0 then ((r2_Neg.f x0).bind fun t110 => ((r2_Neg.f x1).bind fun t111 => (r3_Make.j1 k t110 t111))) else (r3_Make.j1 k x0 x1)))
def r3_Make.j1 : Nat → ByteArray → ByteArray → Option (ByteArray × ByteArray × Bool)
 | 0, _, _ => none
 | k + 1, x0, x1 => (r2_Abs.f x0).bind fun t112 => ((r1_Gcd.f t112 x1).bind fun t113 => ((r2_Div.f x0 t113).bind fun bt114 => ((r2_Div.f x1 t113).bind fun bt117 => (some (bt114.1, bt117.1, true)))))
end
def r3_Make.f (k : Nat) (a0 : ByteArray) (a1 : ByteArray) : Option (ByteArray × ByteArray × Bool) := (r2_May.f a0).bind fun t107 => (if t107 = true then ((r2_May.f a1).bind fun t108 => (if t108 = true then (r3_Make.j0 k a0 a1 (a1.toList == ([48] : List UInt8))) else (r3_Make.j0 k a0 a1 true))) else (r3_Make.j0 k a0 a1 true))
set_option maxHeartbeats 8000000 in
set_option maxRecDepth 100000 in
theorem r3_Make.calls (k : Nat) (a0 : ByteArray) (a1 : ByteArray) (r1 : ByteArray) (r2 : ByteArray) (r3 : Bool) (w : World) (h : r3_Make.f k a0 a1 = some (r1, r2, r3)) :
  Calls Tryz.prog 35 #[.string a0, .string a1] w fun e w' => e = .returned (.tuple #[.agg #[.string r1, .string r2], .bool r3]) ∧ Below w.heap.size w w' := by
 have hu23 := Tryz.underlying23; have HB := Aside0.mk (Below.refl w.heap.size w); have H := h; unfold r3_Make.f at H; clear h; have HC3 := Aside0.mk H; clear H; go_enter Tryz.func35, Tryz.ntmps35
 go_upto_region 1 with (first | ((with_reducible refine gate_dst (N := 4) rfl ?_); refine be_ 4 #[.string (⟨#[]⟩ : ByteArray), .string (⟨#[]⟩ : ByteArray)] 23 ?_; intro gb106 hg w4 hbox hb; have BK106 := Aside0.mk (hbox); have GW106 := ge_ HB hg; have GE106 := ge_ HB hg; replace HB := bs_ HB hb; clear hb hbox hg))
 (try simp only [Act.put, List.setIfInBounds_toArray, List.set_cons_zero, List.set_cons_succ])
 go_cut [24] (fun v24 wc => ∃ (kq : Nat) (x24_2 : Bool), v24 = .bool x24_2 ∧ Aside0 (r3_Make.j0 kq a0 a1 x24_2 = some (r1, r2, r3)) ∧ Aside0 (kq ≤ k) ∧ Aside0 (wc.heap[gb106]? = some (.cells #[.string (⟨#[]⟩ : ByteArray), .string (⟨#[]⟩ : ByteArray)] 23 (0, 0))) ∧ Aside0 (Below w.heap.size w wc))
 case first =>
  have H := HC3.out; clear HC3; obtain ⟨t107, A5, H⟩ := bi_ H; by_cases c6 : t107 = true
  ·subst c6; rw [if_pos rfl] at H; obtain ⟨t108, A7, H⟩ := bi_ H; by_cases c8 : t108 = true
   ·subst c8; rw [if_pos rfl] at H; have H' := Aside0.mk H; clear H
    go_wp2_with (first | (refine gl_ 14 Tryz.func59 #[.string a0] ?_; refine mo_ (r2_May.calls a0 true _ A5.out) ?_; intro w9 hb; replace BK106 := kb_ BK106 hb; replace HB := bs_ HB hb; (try clear hb); (try clear hb2); (try clear hk); (try clear hi)) | (go_at_call 59; (with_reducible refine (r2_May.calls a1 true _ A7.out).mono ?_); rintro e w10 ⟨rfl, hb⟩; replace BK106 := kb_ BK106 hb; replace HB := bs_ HB hb; (try clear hb); (try clear hb2); (try clear hk); (try clear hi)))
    go_meet
    case rel => exact ⟨_, ((a1.toList == ([48] : List UInt8))), rl_, H', ⟨by first | omega | exact Nat.le_refl _⟩, ⟨k_ BK106.out⟩, ⟨b_ HB.out⟩⟩
   ·replace c8 := Bool.eq_false_iff.mpr c8; subst c8; rw [if_neg nf_] at H; have H' := Aside0.mk H; clear H
    go_wp2_with (first | (refine gl_ 14 Tryz.func59 #[.string a0] ?_; refine mo_ (r2_May.calls a0 true _ A5.out) ?_; intro w11 hb; replace BK106 := kb_ BK106 hb; replace HB := bs_ HB hb; (try clear hb); (try clear hb2); (try clear hk); (try clear hi)) | (go_at_call 59; (with_reducible refine (r2_May.calls a1 false _ A7.out).mono ?_); rintro e w12 ⟨rfl, hb⟩; replace BK106 := kb_ BK106 hb; replace HB := bs_ HB hb; (try clear hb); (try clear hb2); (try clear hk); (try clear hi)))
    go_meet
    case rel => exact ⟨_, (true), rl_, H', ⟨by first | omega | exact Nat.le_refl _⟩, ⟨k_ BK106.out⟩, ⟨b_ HB.out⟩⟩
  ·replace c6 := Bool.eq_false_iff.mpr c6; subst c6; rw [if_neg nf_] at H; have H' := Aside0.mk H; clear H
   go_wp2_with (first | (refine gl_ 14 Tryz.func59 #[.string a0] ?_; refine mo_ (r2_May.calls a0 false _ A5.out) ?_; intro w13 hb; replace BK106 := kb_ BK106 hb; replace HB := bs_ HB hb; (try clear hb); (try clear hb2); (try clear hk); (try clear hi)))
   go_meet
   case rel => exact ⟨_, (true), rl_, H', ⟨by first | omega | exact Nat.le_refl _⟩, ⟨k_ BK106.out⟩, ⟨b_ HB.out⟩⟩
 case rest =>
  clear HC3; (try clear p2); (try clear c3); (try clear c5); (try clear c6); (try clear c8); obtain ⟨kq, x24_2, rfl, HA, HJ2, BK106, HB⟩ := hcut
  cases kq with
  | zero => exact absurd HA.out (by simp [r3_Make.j0])
  | succ kj2 =>
   have H := HA.out; clear HA; simp only [r3_Make.j0] at H; by_cases c14 : x24_2 = true
   ·subst c14; rw [if_pos rfl] at H; simp only [Option.some.injEq, Prod.mk.injEq] at H; obtain ⟨rfl, rfl, rfl⟩ := H; have hcz15_0 := bc_ BK106 0 rfl; have hcz15_1 := bc_ BK106 1 rfl; have hfz15_0 := blk_frozen BK106.out 0; have hfz15_1 := blk_frozen BK106.out 1; go_wp2; refine bodyPost_ret (results_ct rfl _ _ gb106 23 #[.string (⟨#[]⟩ : ByteArray), .string (⟨#[]⟩ : ByteArray)] (0, 0) _ rfl (rp_ BK106.out) Tryz.underlying23 rfl (by kernel_rfl)) rfl ?_; exact ⟨er_, b_ HB.out⟩
   ·replace c14 := Bool.eq_false_iff.mpr c14; subst c14; rw [if_neg nf_] at H; obtain ⟨t109, A16, H⟩ := bi_ H; have HC17 := Aside0.mk H; clear H
    go_upto_if 28 with (first | (refine gl_ 27 Tryz.func62 #[.string a1] ?_; refine mo_ (r2_Sign.calls a1 t109 _ A16.out) ?_; intro w18 hb; replace BK106 := kb_ BK106 hb; replace HB := bs_ HB hb; (try clear hb); (try clear hb2); (try clear hk); (try clear hi)))
    (try simp only [Act.put, List.setIfInBounds_toArray, List.set_cons_zero, List.set_cons_succ])
    go_cut [0, 1] (fun v0 v1 wc => ∃ (kq : Nat) (x0_16 : ByteArray) (x1_16 : ByteArray), v0 = .string x0_16 ∧ v1 = .string x1_16 ∧ Aside0 (r3_Make.j1 kq x0_16 x1_16 = some (r1, r2, r3)) ∧ Aside0 (kq ≤ kj2) ∧ Aside0 (wc.heap[gb106]? = some (.cells #[.string (⟨#[]⟩ : ByteArray), .string (⟨#[]⟩ : ByteArray)] 23 (0, 0))) ∧ Aside0 (Below w.heap.size w wc))
    case first =>
     have H := HC17.out; clear HC17; by_cases c19 : t109 < 0
     ·rw [if_pos c19] at H; have c19b0 : decide (t109 < 0) = true := decide_eq_true c19; clear c19; (first | rw [c19b0] | (simp only [i64_w, i32_w]; rw [c19b0]) | skip); obtain ⟨t110, A20, H⟩ := bi_ H; obtain ⟨t111, A21, H⟩ := bi_ H; have H' := Aside0.mk H; clear H
      go_wp2_with (first | (refine gl_ 30 Tryz.func34 #[.string a0] ?_; refine mo_ (r2_Neg.calls a0 t110 _ A20.out) ?_; intro w22 hb; replace BK106 := kb_ BK106 hb; replace HB := bs_ HB hb; (try clear hb); (try clear hb2); (try clear hk); (try clear hi)) | (refine gl_ 32 Tryz.func34 #[.string a1] ?_; refine mo_ (r2_Neg.calls a1 t111 _ A21.out) ?_; intro w23 hb; replace BK106 := kb_ BK106 hb; replace HB := bs_ HB hb; (try clear hb); (try clear hb2); (try clear hk); (try clear hi)))
      go_meet
      case rel => exact ⟨_, (t110), (t111), rl_, rl_, H', ⟨by have := HJ2.out; first | omega | exact Nat.le_refl _⟩, ⟨k_ BK106.out⟩, ⟨b_ HB.out⟩⟩
     ·rw [if_neg c19] at H; have c19b0 : decide (t109 < 0) = false := decide_eq_false c19; clear c19; (first | rw [c19b0] | (simp only [i64_w, i32_w]; rw [c19b0]) | skip); have H' := Aside0.mk H; clear H; go_wp2
      go_meet
      case rel => exact ⟨_, (a0), (a1), rl_, rl_, H', ⟨by have := HJ2.out; first | omega | exact Nat.le_refl _⟩, ⟨k_ BK106.out⟩, ⟨b_ HB.out⟩⟩
    case rest =>
     clear HC17; (try clear c1); (try clear p2); (try clear c3); (try clear c5); (try clear c6); (try clear c8); (try clear c14); (try clear c19); (try clear c19b0); (try clear hcz15_0); (try clear hcz15_1); (try clear hfz15_0); (try clear hfz15_1); (try clear p2); obtain ⟨kq, x0_16, x1_16, rfl, rfl, HA, HJ16, BK106, HB⟩ := hcut
     cases kq with
     | zero => exact absurd HA.out (by simp [r3_Make.j1])
     | succ kj16 =>
      have H := HA.out; clear HA; simp only [r3_Make.j1] at H; obtain ⟨t112, A24, H⟩ := bi_ H; obtain ⟨t113, A25, H⟩ := bi_ H; obtain ⟨⟨t114, t115, t116⟩, A26, H⟩ := bi_ H; (try dsimp only at H); obtain ⟨⟨t117, t118, t119⟩, A27, H⟩ := bi_ H; (try dsimp only at H); simp only [Option.some.injEq, Prod.mk.injEq] at H; obtain ⟨rfl, rfl, rfl⟩ := H
      go_wp2_with (first | (refine gl_ 34 Tryz.func45 #[.string x0_16] ?_; refine mo_ (r2_Abs.calls x0_16 t112 _ A24.out) ?_; intro w28 hb; replace BK106 := kb_ BK106 hb; replace HB := bs_ HB hb; (try clear hb); (try clear hb2); (try clear hk); (try clear hi)) | (refine gl_ 36 Tryz.func63 #[.string t112, .string x1_16] ?_; refine mo_ (r1_Gcd.calls t112 x1_16 t113 _ A25.out) ?_; intro w29 hb; replace BK106 := kb_ BK106 hb; replace HB := bs_ HB hb; (try clear hb); (try clear hb2); (try clear hk); (try clear hi)) | (refine gl_ 40 Tryz.func64 #[.string x0_16, .string t113] ?_; refine mo_ (r2_Div.calls x0_16 t113 t114 t115 t116 _ A26.out) ?_; intro w30 hb; replace BK106 := kb_ BK106 hb; replace HB := bs_ HB hb; (try clear hb); (try clear hb2); (try clear hk); (try clear hi)) | (refine gl_ 47 Tryz.func64 #[.string x1_16, .string t113] ?_; refine mo_ (r2_Div.calls x1_16 t113 t117 t118 t119 _ A27.out) ?_; intro w31 hb; replace BK106 := kb_ BK106 hb; replace HB := bs_ HB hb; (try clear hb); (try clear hb2); (try clear hk); (try clear hi); have hcz32_0 := bc_ BK106 0 rfl; have hcz32_1 := bc_ BK106 1 rfl; have hfz32_0 := blk_frozen BK106.out 0; have hfz32_1 := blk_frozen BK106.out 1))
      refine bodyPost_ret (results_ct rfl _ _ gb106 23 #[.string t114, .string t117] (0, 0) _ rfl (rp_ BK106.out) Tryz.underlying23 rfl (by kernel_rfl)) rfl ?_; exact ⟨er_, b_ HB.out⟩
def r3_Of.f (a0 : Int) : Option (ByteArray × ByteArray) := (r2_Of.f a0).bind fun t121 => (some (t121, (⟨#[49]⟩ : ByteArray)))
set_option maxHeartbeats 8000000 in
set_option maxRecDepth 100000 in
theorem r3_Of.calls (a0 : Int) (r1 : ByteArray) (r2 : ByteArray) (w : World) (h : r3_Of.f a0 = some (r1, r2)) :
  Calls Tryz.prog 22 #[.int .i64 a0] w fun e w' => e = .returned (.agg #[.string r1, .string r2]) ∧ Below w.heap.size w w' := by
 have hu23 := Tryz.underlying23; have HB := Aside0.mk (Below.refl w.heap.size w); have H := h; unfold r3_Of.f at H; clear h; obtain ⟨t121, A2, H⟩ := bi_ H; simp only [Option.some.injEq, Prod.mk.injEq] at H; obtain ⟨rfl, rfl⟩ := H; go_enter Tryz.func22, Tryz.ntmps22
 go_wp2_with (first | ((with_reducible refine gate_dst (N := 2) rfl ?_); refine be_ 2 #[.string (⟨#[]⟩ : ByteArray), .string (⟨#[]⟩ : ByteArray)] 23 ?_; intro gb120 hg w3 hbox hb; have BK120 := Aside0.mk (hbox); have GW120 := ge_ HB hg; have GE120 := ge_ HB hg; replace HB := bs_ HB hb; clear hb hbox hg) | (refine gl_ 4 Tryz.func50 #[.int .i64 a0] ?_; refine mo_ (r2_Of.calls a0 t121 _ A2.out) ?_; intro w4 hb; replace BK120 := kb_ BK120 hb; replace HB := bs_ HB hb; (try clear hb); (try clear hb2); (try clear hk); (try clear hi); have hcz5_0 := bc_ BK120 0 rfl; have hcz5_1 := bc_ BK120 1 rfl; have hfz5_0 := blk_frozen BK120.out 0; have hfz5_1 := blk_frozen BK120.out 1))
 refine bodyPost_ret (results_cell_row rfl _ _ gb120 23 #[.string t121, .string (⟨#[49]⟩ : ByteArray)] (0, 0) _ rfl (rp_ BK120.out) Tryz.underlying23 rfl (by kernel_rfl)) rfl ?_; exact ⟨er_, b_ HB.out⟩
def r3_Neg.f (a0_0 : ByteArray) (a0_1 : ByteArray) : Option (ByteArray × ByteArray) := (r3_May.f a0_0 a0_1).bind fun t127 => (if t127 = true then ((r2_Neg.f a0_0).bind fun t128 => (some (t128, a0_1))) else (some ((⟨#[]⟩ : ByteArray), (⟨#[]⟩ : ByteArray))))
set_option maxHeartbeats 8000000 in
set_option maxRecDepth 100000 in
theorem r3_Neg.calls (a0_0 : ByteArray) (a0_1 : ByteArray) (r1 : ByteArray) (r2 : ByteArray) (w : World) (h : r3_Neg.f a0_0 a0_1 = some (r1, r2)) :
  Calls Tryz.prog 21 #[.agg #[.string a0_0, .string a0_1]] w fun e w' => e = .returned (.agg #[.string r1, .string r2]) ∧ Below w.heap.size w w' := by
 have hu23 := Tryz.underlying23; have HB := Aside0.mk (Below.refl w.heap.size w); have H := h; unfold r3_Neg.f at H; clear h; obtain ⟨t127, A2, H⟩ := bi_ H; by_cases c3 : t127 = true
 ·subst c3; rw [if_pos rfl] at H; obtain ⟨t128, A4, H⟩ := bi_ H; simp only [Option.some.injEq, Prod.mk.injEq] at H; obtain ⟨rfl, rfl⟩ := H; go_enter Tryz.func21, Tryz.ntmps21
  try go_wp2_with (first | ((with_reducible refine gate_dst (N := 1) rfl ?_); refine be_ 1 #[.string a0_0, .string a0_1] 23 ?_; intro gb125 hg w5 hbox hb; have BK125 := Aside0.mk (hbox); have GW125 := ge_ HB hg; have GE125 := ge_ HB hg; replace HB := bs_ HB hb; clear hb hbox hg) | ((with_reducible refine gate_dst (N := 2) rfl ?_); refine be_ 2 #[.string (⟨#[]⟩ : ByteArray), .string (⟨#[]⟩ : ByteArray)] 23 ?_; intro gb126 hg w6 hbox hb; have BK126 := Aside0.mk (hbox); have GW126 := ge_ HB hg; have GE126 := ge_ HB hg; have NB125_126 := nl_ BK125 hg; have NB126_125 := ng_ BK125 hg; replace BK125 := kb_ BK125 hb; replace HB := bs_ HB hb; clear hb hbox hg; have hnb7 := NB125_126.out; have hnc7 := NB126_125.out; have hcz8_0 := bc_ BK125 0 rfl; have hcz8_1 := bc_ BK125 1 rfl; have hfz8_0 := blk_frozen BK125.out 0; have hfz8_1 := blk_frozen BK125.out 1) | (refine gl_ 4 Tryz.func38 #[.agg #[.string a0_0, .string a0_1]] ?_; refine mo_ (r3_May.calls a0_0 a0_1 true _ A2.out) ?_; intro w9 hb; replace BK125 := kb_ BK125 hb; replace BK126 := kb_ BK126 hb; replace HB := bs_ HB hb; (try clear hb); (try clear hb2); (try clear hk); (try clear hi)))
  replace BK125 := Aside0.mk (blk_drew BK125.out); replace BK126 := Aside0.mk (blk_drew BK126.out); replace HB := Aside0.mk (below_drew1 HB.out); refine sa_ 7 (fun w' => w'.cell? ⟨gb125, 0, none⟩ = some (.string a0_0) ∧ w'.cell? ⟨gb125, 1, none⟩ = some (.string a0_1)) (fun hHeld => ?_); generalize w9.drew = w10 at BK125 BK126 HB hHeld ⊢; refine pure_ (i := 0) (N := some 7) (v := ?_) (a' := ?_) #[true, false, false, false, false, false, false] rfl rfl (by kernel_rfl) (fun _ _ _ h => h) (Or.inl ⟨by rfl, ?_⟩) ?_ ?_; rotate_left
  ·intro w'; go_simp; with_reducible rfl
  rotate_left
  ·exact ap_
  refine pure_ (i := 3) (N := some 10) (v := ?_) (a' := ?_) #[true, false, false, true, false, false, false] rfl rfl (by kernel_rfl) (fun _ _ _ h => h) (Or.inl ⟨by rfl, ?_⟩) ?_ ?_; rotate_left
  ·intro w'; go_simp; with_reducible rfl
  rotate_left
  ·exact ap_
  refine take_ (i := 1) (N := some 8) (v := ?_) (a' := ?_) #[true, true, false, true, false, false, false] rfl rfl (by kernel_rfl) (fun _ _ _ h => h) (Or.inl ⟨by rfl, ?_⟩) hHeld ?_ ?_; rotate_left
  ·rintro w' ⟨s0, s1⟩; go_simp; with_reducible rfl
  rotate_left
  ·exact ap_
  refine take_ (i := 4) (N := some 11) (v := ?_) (a' := ?_) #[true, true, false, true, true, false, false] rfl rfl (by kernel_rfl) (fun _ _ _ h => h) (Or.inl ⟨by rfl, ?_⟩) hHeld ?_ ?_; rotate_left
  ·rintro w' ⟨s0, s1⟩; go_simp; with_reducible rfl
  rotate_left
  ·exact ap_
  refine one_ (i := 2) (N := some 9) #[true, true, true, true, true, false, false] rfl rfl (by kernel_rfl) (by decide) (fun K hK => ?_); refine gs_ Tryz.func34 #[.string a0_0] ?_; refine mo_ (r2_Neg.calls a0_0 t128 _ A4.out) ?_; intro w11 hb; replace BK125 := kb_ BK125 hb; replace BK126 := kb_ BK126 hb; replace HB := bs_ HB hb; (try clear hb); refine hk_ hK (fun hHeld => ?_); clear hK K; refine nm_ ?_; refine pure_ (i := 5) (N := some 12) (v := ?_) (a' := ?_) #[true, true, true, true, true, true, false] rfl rfl (by kernel_rfl) (fun _ _ _ h => h) (Or.inl ⟨by rfl, ?_⟩) ?_ ?_; rotate_left
  ·intro w'; go_simp; with_reducible rfl
  rotate_left
  ·exact ap_
  refine one_ (i := 6) (N := none) #[true, true, true, true, true, true, true] rfl rfl (by kernel_rfl) (by decide) (fun K hK => ?_); have hs12 := bc_ BK126 0 rfl; have hfs12 := blk_frozen BK126.out 0; have hns12_0 := NB125_126.out; have hms12_0 := NB126_125.out; have hs13 := bc_ BK126 1 rfl; have hfs13 := blk_frozen BK126.out 1; have hns13_0 := NB125_126.out; have hms13_0 := NB126_125.out; refine skip_ (w1 := ?_) (by rfl) rfl ?_ ?_; rotate_left
  ·go_simp
   rfl
  refine hf_ hK hHeld (fun hHeld => ?_); clear hK K; refine done_ (by kernel_rfl) ?_
  try go_wp2
  refine bodyPost_ret (results_cell_row rfl _ _ gb126 23 #[.string t128, .string a0_1] (0, 0) _ rfl (rp_ BK126.out) Tryz.underlying23 rfl (by kernel_rfl)) rfl ?_; exact ⟨er_, b_ HB.out⟩
 ·replace c3 := Bool.eq_false_iff.mpr c3; subst c3; rw [if_neg nf_] at H; simp only [Option.some.injEq, Prod.mk.injEq] at H; obtain ⟨rfl, rfl⟩ := H; go_enter Tryz.func21, Tryz.ntmps21
  go_wp2_with (first | ((with_reducible refine gate_dst (N := 1) rfl ?_); refine be_ 1 #[.string a0_0, .string a0_1] 23 ?_; intro gb125 hg w14 hbox hb; have BK125 := Aside0.mk (hbox); have GW125 := ge_ HB hg; have GE125 := ge_ HB hg; replace HB := bs_ HB hb; clear hb hbox hg) | ((with_reducible refine gate_dst (N := 2) rfl ?_); refine be_ 2 #[.string (⟨#[]⟩ : ByteArray), .string (⟨#[]⟩ : ByteArray)] 23 ?_; intro gb126 hg w15 hbox hb; have BK126 := Aside0.mk (hbox); have GW126 := ge_ HB hg; have GE126 := ge_ HB hg; have NB125_126 := nl_ BK125 hg; have NB126_125 := ng_ BK125 hg; replace BK125 := kb_ BK125 hb; replace HB := bs_ HB hb; clear hb hbox hg; have hnb16 := NB125_126.out; have hnc16 := NB126_125.out; have hcz17_0 := bc_ BK125 0 rfl; have hcz17_1 := bc_ BK125 1 rfl; have hfz17_0 := blk_frozen BK125.out 0; have hfz17_1 := blk_frozen BK125.out 1) | (refine gl_ 4 Tryz.func38 #[.agg #[.string a0_0, .string a0_1]] ?_; refine mo_ (r3_May.calls a0_0 a0_1 false _ A2.out) ?_; intro w18 hb; replace BK125 := kb_ BK125 hb; replace BK126 := kb_ BK126 hb; replace HB := bs_ HB hb; (try clear hb); (try clear hb2); (try clear hk); (try clear hi); have hcz19_0 := bc_ BK126 0 rfl; have hcz19_1 := bc_ BK126 1 rfl; have hfz19_0 := blk_frozen BK126.out 0; have hfz19_1 := blk_frozen BK126.out 1))
  refine bodyPost_ret (results_cell_row rfl _ _ gb126 23 #[.string (⟨#[]⟩ : ByteArray), .string (⟨#[]⟩ : ByteArray)] (0, 0) _ rfl (rp_ BK126.out) Tryz.underlying23 rfl (by kernel_rfl)) rfl ?_; exact ⟨er_, b_ HB.out⟩
end Go.Proofs.YtaldgaiaelbbaaaGreatDoor.Pz
end

section
namespace Go.Proofs.YtaldgaiaelbbaaaGreatDoor.Pz
def r3_Add.j0 : Nat → Bool → ByteArray → ByteArray → ByteArray → ByteArray → Option (ByteArray × ByteArray)
 | 0, _, _, _, _, _ => none
 | k + 1, x14, x130000, x130001, x131000, x131001 => if x14 = true then (some ((⟨#[]⟩ : ByteArray), (⟨#[]⟩ : ByteArray))) else ((r2_Mul.f x130000 x131001).bind fun t134 => ((r2_Mul.f x131000 x130001).bind fun t135 => ((r2_Add.f t134 t135).bind fun t136 => ((r1_Mul.f x130001 x131001).bind fun t137 => ((r3_Make.f k t136 t137).bind fun bt138 => (some (bt138.1, bt138.2.1)))))))
def r3_Add.f (k : Nat) (a0_0 : ByteArray) (a0_1 : ByteArray) (a1_0 : ByteArray) (a1_1 : ByteArray) : Option (ByteArray × ByteArray) := (r3_May.f a0_0 a0_1).bind fun t132 => (if t132 = true then ((r3_May.f a1_0 a1_1).bind fun t133 => (r3_Add.j0 k (!t133) a0_0 a0_1 a1_0 a1_1)) else (r3_Add.j0 k true a0_0 a0_1 a1_0 a1_1))
def r3_Add.T3 : Bool × List (List Nat × List Nat) := (true, [([], []), ([0], [0]), ([], []), ([2], [2]), ([1, 3], [1, 3]), ([], []), ([5], [5]), ([], []), ([7], [7]), ([6, 8, 4], [6, 8]), ([4, 9, 9], [4, 9]), ([], []), ([11], [11]), ([], []), ([13], [13]), ([12, 14, 10], [12, 14]), ([10, 15, 15], [10, 15]), ([16], [16]), ([17], [17]), ([17], [17]), ([], []), ([20, 18, 16, 0, 1, 2, 3, 4, 5, 6, 7, 8, 9, 10, 11, 12, 13, 14, 15, 16, 17, 18, 20], [18, 20]), ([19, 21, 0, 1, 2, 3, 4, 5, 6, 7, 8, 9, 10, 11, 12, 13, 14, 15, 16, 17, 18, 19, 20, 21], [19])])
def r3_Add.B3 : List Nat := [0, 1, 0, 4, 15, 0, 32, 0, 128, 511, 1023, 0, 2048, 0, 8192, 32767, 65535, 131071, 262143, 262143, 0, 1572863, 4194303]
theorem r3_Add.tab3 : rtab .any (opsOf Tryz.f20 3) = r3_Add.T3 := by kernel_rfl
theorem r3_Add.bits3 : waitsOk r3_Add.T3.2 r3_Add.B3 = true := by kernel_rfl
set_option maxHeartbeats 8000000 in
set_option maxRecDepth 100000 in
theorem r3_Add.calls (k : Nat) (a0_0 : ByteArray) (a0_1 : ByteArray) (a1_0 : ByteArray) (a1_1 : ByteArray) (r1 : ByteArray) (r2 : ByteArray) (w : World) (h : r3_Add.f k a0_0 a0_1 a1_0 a1_1 = some (r1, r2)) :
  Calls Tryz.prog 20 #[.agg #[.string a0_0, .string a0_1], .agg #[.string a1_0, .string a1_1]] w fun e w' => e = .returned (.agg #[.string r1, .string r2]) ∧ Below w.heap.size w w' := by
 have hu23 := Tryz.underlying23; have HB := Aside0.mk (Below.refl w.heap.size w); have H := h; unfold r3_Add.f at H; clear h; have HC3 := Aside0.mk H; clear H; go_enter Tryz.func20, Tryz.ntmps20
 go_upto_region 1 with (first | ((with_reducible refine gate_dst (N := 2) rfl ?_); refine be_ 2 #[.string a0_0, .string a0_1] 23 ?_; intro gb129 hg w4 hbox hb; have BK129 := Aside0.mk (hbox); have GW129 := ge_ HB hg; have GE129 := ge_ HB hg; replace HB := bs_ HB hb; clear hb hbox hg) | ((with_reducible refine gate_dst (N := 3) rfl ?_); refine be_ 3 #[.string a1_0, .string a1_1] 23 ?_; intro gb130 hg w5 hbox hb; have BK130 := Aside0.mk (hbox); have GW130 := ge_ HB hg; have GE130 := ge_ HB hg; have NB129_130 := nl_ BK129 hg; have NB130_129 := ng_ BK129 hg; replace BK129 := kb_ BK129 hb; replace HB := bs_ HB hb; clear hb hbox hg) | ((with_reducible refine gate_dst (N := 4) rfl ?_); refine be_ 4 #[.string (⟨#[]⟩ : ByteArray), .string (⟨#[]⟩ : ByteArray)] 23 ?_; intro gb131 hg w6 hbox hb; have BK131 := Aside0.mk (hbox); have GW131 := ge_ HB hg; have GE131 := ge_ HB hg; have NB129_131 := nl_ BK129 hg; have NB131_129 := ng_ BK129 hg; have NB130_131 := nl_ BK130 hg; have NB131_130 := ng_ BK130 hg; replace BK129 := kb_ BK129 hb; replace BK130 := kb_ BK130 hb; replace HB := bs_ HB hb; clear hb hbox hg))
 (try simp only [Act.put, List.setIfInBounds_toArray, List.set_cons_zero, List.set_cons_succ])
 go_cut [14] (fun v14 wc => ∃ (kq : Nat) (x14_2 : Bool), v14 = .bool x14_2 ∧ Aside0 (r3_Add.j0 kq x14_2 a0_0 a0_1 a1_0 a1_1 = some (r1, r2)) ∧ Aside0 (kq ≤ k) ∧ Aside0 (wc.heap[gb129]? = some (.cells #[.string a0_0, .string a0_1] 23 (0, 0))) ∧ Aside0 (wc.heap[gb130]? = some (.cells #[.string a1_0, .string a1_1] 23 (0, 0))) ∧ Aside0 (wc.heap[gb131]? = some (.cells #[.string (⟨#[]⟩ : ByteArray), .string (⟨#[]⟩ : ByteArray)] 23 (0, 0))) ∧ Aside0 (Below w.heap.size w wc))
 case first =>
  have H := HC3.out; clear HC3; obtain ⟨t132, A7, H⟩ := bi_ H; by_cases c8 : t132 = true
  ·subst c8; rw [if_pos rfl] at H; obtain ⟨t133, A9, H⟩ := bi_ H; have H' := Aside0.mk H; clear H; have hnb10 := NB129_130.out; have hnc10 := NB130_129.out; have hnb11 := NB129_131.out; have hnc11 := NB131_129.out; have hcz12_0 := bc_ BK129 0 rfl; have hcz12_1 := bc_ BK129 1 rfl; have hfz12_0 := blk_frozen BK129.out 0; have hfz12_1 := blk_frozen BK129.out 1
   go_wp2_with (first | (refine gl_ 8 Tryz.func38 #[.agg #[.string a0_0, .string a0_1]] ?_; refine mo_ (r3_May.calls a0_0 a0_1 true _ A7.out) ?_; intro w13 hb; replace BK129 := kb_ BK129 hb; replace BK130 := kb_ BK130 hb; replace BK131 := kb_ BK131 hb; replace HB := bs_ HB hb; (try clear hb); (try clear hb2); (try clear hk); (try clear hi); have hnb14 := NB130_131.out; have hnc14 := NB131_130.out; have hcz15_0 := bc_ BK130 0 rfl; have hcz15_1 := bc_ BK130 1 rfl; have hfz15_0 := blk_frozen BK130.out 0; have hfz15_1 := blk_frozen BK130.out 1) | (go_at_call 38; (with_reducible refine (r3_May.calls a1_0 a1_1 t133 _ A9.out).mono ?_); rintro e w16 ⟨rfl, hb⟩; replace BK129 := kb_ BK129 hb; replace BK130 := kb_ BK130 hb; replace BK131 := kb_ BK131 hb; replace HB := bs_ HB hb; (try clear hb); (try clear hb2); (try clear hk); (try clear hi)))
   go_meet
   case rel => exact ⟨_, (!t133), rl_, H', ⟨by first | omega | exact Nat.le_refl _⟩, ⟨k_ BK129.out⟩, ⟨k_ BK130.out⟩, ⟨k_ BK131.out⟩, ⟨b_ HB.out⟩⟩
  ·replace c8 := Bool.eq_false_iff.mpr c8; subst c8; rw [if_neg nf_] at H; have H' := Aside0.mk H; clear H; have hnb17 := NB129_130.out; have hnc17 := NB130_129.out; have hnb18 := NB129_131.out; have hnc18 := NB131_129.out; have hcz19_0 := bc_ BK129 0 rfl; have hcz19_1 := bc_ BK129 1 rfl; have hfz19_0 := blk_frozen BK129.out 0; have hfz19_1 := blk_frozen BK129.out 1
   go_wp2_with (first | (refine gl_ 8 Tryz.func38 #[.agg #[.string a0_0, .string a0_1]] ?_; refine mo_ (r3_May.calls a0_0 a0_1 false _ A7.out) ?_; intro w20 hb; replace BK129 := kb_ BK129 hb; replace BK130 := kb_ BK130 hb; replace BK131 := kb_ BK131 hb; replace HB := bs_ HB hb; (try clear hb); (try clear hb2); (try clear hk); (try clear hi)))
   go_meet
   case rel => exact ⟨_, (true), rl_, H', ⟨by first | omega | exact Nat.le_refl _⟩, ⟨k_ BK129.out⟩, ⟨k_ BK130.out⟩, ⟨k_ BK131.out⟩, ⟨b_ HB.out⟩⟩
 case rest =>
  clear HC3; (try clear c1); (try clear c2); (try clear p2); (try clear c3); (try clear c8); (try clear c10); (try clear c11); (try clear c14); (try clear c17); (try clear c18); (try clear c20); (try clear hcz12_0); (try clear hcz12_1); (try clear hcz15_0); (try clear hcz15_1); (try clear hcz19_0); (try clear hcz19_1); (try clear hfz12_0); (try clear hfz12_1); (try clear hfz15_0); (try clear hfz15_1); (try clear hfz19_0); (try clear hfz19_1); obtain ⟨kq, x14_2, rfl, HA, HJ2, BK129, BK130, BK131, HB⟩ := hcut
  cases kq with
  | zero => exact absurd HA.out (by simp [r3_Add.j0])
  | succ kj2 =>
   have H := HA.out; clear HA; simp only [r3_Add.j0] at H; by_cases c21 : x14_2 = true
   ·subst c21; rw [if_pos rfl] at H; simp only [Option.some.injEq, Prod.mk.injEq] at H; obtain ⟨rfl, rfl⟩ := H; have hnb22 := NB131_129.out; have hnc22 := NB129_131.out; have hnb23 := NB131_130.out; have hnc23 := NB130_131.out; have hcz24_0 := bc_ BK131 0 rfl; have hcz24_1 := bc_ BK131 1 rfl; have hfz24_0 := blk_frozen BK131.out 0; have hfz24_1 := blk_frozen BK131.out 1; go_wp2; refine bodyPost_ret (results_cell_row rfl _ _ gb131 23 #[.string (⟨#[]⟩ : ByteArray), .string (⟨#[]⟩ : ByteArray)] (0, 0) _ rfl (rp_ BK131.out) Tryz.underlying23 rfl (by kernel_rfl)) rfl ?_; exact ⟨er_, b_ HB.out⟩
   ·replace c21 := Bool.eq_false_iff.mpr c21; subst c21; rw [if_neg nf_] at H; obtain ⟨t134, A25, H⟩ := bi_ H; obtain ⟨t135, A26, H⟩ := bi_ H; obtain ⟨t136, A27, H⟩ := bi_ H; obtain ⟨t137, A28, H⟩ := bi_ H; obtain ⟨⟨t138, t139, t140⟩, A29, H⟩ := bi_ H; (try dsimp only at H); simp only [Option.some.injEq, Prod.mk.injEq] at H; obtain ⟨rfl, rfl⟩ := H
    try go_wp2
    replace BK129 := Aside0.mk (blk_drew BK129.out); replace BK130 := Aside0.mk (blk_drew BK130.out); replace BK131 := Aside0.mk (blk_drew BK131.out); replace HB := Aside0.mk (below_drew1 HB.out); refine sa_ 23 (fun w' => w'.cell? ⟨gb129, 0, none⟩ = some (.string a0_0) ∧ w'.cell? ⟨gb129, 1, none⟩ = some (.string a0_1) ∧ w'.cell? ⟨gb130, 0, none⟩ = some (.string a1_0) ∧ w'.cell? ⟨gb130, 1, none⟩ = some (.string a1_1)) (fun hHeld => ?_); refine with_tabW r3_Add.tab3 r3_Add.bits3 (fun HT_ HW_ => ?_); generalize wc.drew = w30 at BK129 BK130 BK131 HB hHeld ⊢; refine pu_ 0 17 rfl rfl HT_ ?_; refine pu_ 2 19 rfl rfl HT_ ?_; refine pu_ 5 22 rfl rfl HT_ ?_; refine pu_ 7 24 rfl rfl HT_ ?_; refine pu_ 11 28 rfl rfl HT_ ?_; refine pu_ 13 30 rfl rfl HT_ ?_; refine t4_ 1 18 rfl rfl HT_ HW_ hHeld ?_; refine t4_ 3 20 rfl rfl HT_ HW_ hHeld ?_; refine t4_ 6 23 rfl rfl HT_ HW_ hHeld ?_; refine t4_ 8 25 rfl rfl HT_ HW_ hHeld ?_; refine t4_ 12 29 rfl rfl HT_ HW_ hHeld ?_; refine t4_ 14 31 rfl rfl HT_ HW_ hHeld ?_; refine join_ (σ := Nat) 2 #[true, true, true, true, true, true, true, true, true, true, true, true, true, true, true, true, true, true, true, true, true, false, false] (fun s_ => [(21, .string t134), (26, .string t135), (27, .string t136), (32, .string t137), (33, .tuple #[.agg #[.string t138, .string t139], .bool t140]), (5, .pointer (some ⟨s_, 0, none⟩)), (16, .tuple #[.agg #[.string t138, .string t139], .bool t140]), (34, .agg #[.string t138, .string t139]), (35, .bool t140)]) (fun s_ w' => (w'.cell? ⟨gb129, 0, none⟩ = some (.string a0_0) ∧ w'.cell? ⟨gb129, 1, none⟩ = some (.string a0_1) ∧ w'.cell? ⟨gb130, 0, none⟩ = some (.string a1_0) ∧ w'.cell? ⟨gb130, 1, none⟩ = some (.string a1_1)) ∧ (w'.heap[gb129]? = some (.cells #[.string a0_0, .string a0_1] 23 (0, 0))) ∧ (w'.heap[gb130]? = some (.cells #[.string a1_0, .string a1_1] 23 (0, 0))) ∧ (w'.heap[gb131]? = some (.cells #[.string (⟨#[]⟩ : ByteArray), .string (⟨#[]⟩ : ByteArray)] 23 (0, 0))) ∧ (w'.heap[s_]? = some (.cells #[.string (⟨#[]⟩ : ByteArray), .string (⟨#[]⟩ : ByteArray)] 23 (0, 0))) ∧ (w.heap.size ≤ s_) ∧ (w.heap.size ≤ s_) ∧ (gb129 ≠ s_) ∧ (s_ ≠ gb129) ∧ (gb130 ≠ s_) ∧ (s_ ≠ gb130) ∧ (gb131 ≠ s_) ∧ (s_ ≠ gb131) ∧ (Below w.heap.size w w')) ?_ ?_; rotate_left
    ·intro hJ4_9_10_15_16_20; refine join_ (σ := Unit) 3 #[true, true, true, true, true, true, true, true, true, true, true, true, true, true, true, true, true, true, true, true, false, false, false] (fun s_ => [(21, .string t134), (26, .string t135), (27, .string t136), (32, .string t137), (33, .tuple #[.agg #[.string t138, .string t139], .bool t140]), (16, .tuple #[.agg #[.string t138, .string t139], .bool t140]), (34, .agg #[.string t138, .string t139]), (35, .bool t140)]) (fun s_ w' => (w'.cell? ⟨gb129, 0, none⟩ = some (.string a0_0) ∧ w'.cell? ⟨gb129, 1, none⟩ = some (.string a0_1) ∧ w'.cell? ⟨gb130, 0, none⟩ = some (.string a1_0) ∧ w'.cell? ⟨gb130, 1, none⟩ = some (.string a1_1)) ∧ (w'.heap[gb129]? = some (.cells #[.string a0_0, .string a0_1] 23 (0, 0))) ∧ (w'.heap[gb130]? = some (.cells #[.string a1_0, .string a1_1] 23 (0, 0))) ∧ (w'.heap[gb131]? = some (.cells #[.string (⟨#[]⟩ : ByteArray), .string (⟨#[]⟩ : ByteArray)] 23 (0, 0))) ∧ (Below w.heap.size w w')) ?_ ?_; rotate_left
     ·intro hJ4_9_10_15_16; refine join_ (σ := Nat) 6 #[true, true, true, true, true, true, true, true, true, true, true, true, true, true, true, true, false, false, false, false, true, false, false] (fun s_ => [(21, .string t134), (26, .string t135), (27, .string t136), (32, .string t137), (5, .pointer (some ⟨s_, 0, none⟩))]) (fun s_ w' => (w'.cell? ⟨gb129, 0, none⟩ = some (.string a0_0) ∧ w'.cell? ⟨gb129, 1, none⟩ = some (.string a0_1) ∧ w'.cell? ⟨gb130, 0, none⟩ = some (.string a1_0) ∧ w'.cell? ⟨gb130, 1, none⟩ = some (.string a1_1)) ∧ (w'.heap[gb129]? = some (.cells #[.string a0_0, .string a0_1] 23 (0, 0))) ∧ (w'.heap[gb130]? = some (.cells #[.string a1_0, .string a1_1] 23 (0, 0))) ∧ (w'.heap[gb131]? = some (.cells #[.string (⟨#[]⟩ : ByteArray), .string (⟨#[]⟩ : ByteArray)] 23 (0, 0))) ∧ (w'.heap[s_]? = some (.cells #[.string (⟨#[]⟩ : ByteArray), .string (⟨#[]⟩ : ByteArray)] 23 (0, 0))) ∧ (w.heap.size ≤ s_) ∧ (w.heap.size ≤ s_) ∧ (gb129 ≠ s_) ∧ (s_ ≠ gb129) ∧ (gb130 ≠ s_) ∧ (s_ ≠ gb130) ∧ (gb131 ≠ s_) ∧ (s_ ≠ gb131) ∧ (Below w.heap.size w w')) ?_ ?_; rotate_left
      ·intro hJ4_9_10_15_20; refine join_ (σ := Unit) 7 #[true, true, true, true, true, true, true, true, true, true, true, true, true, true, true, true, false, false, false, false, false, false, false] (fun s_ => [(21, .string t134), (26, .string t135), (27, .string t136), (32, .string t137)]) (fun s_ w' => (w'.cell? ⟨gb129, 0, none⟩ = some (.string a0_0) ∧ w'.cell? ⟨gb129, 1, none⟩ = some (.string a0_1) ∧ w'.cell? ⟨gb130, 0, none⟩ = some (.string a1_0) ∧ w'.cell? ⟨gb130, 1, none⟩ = some (.string a1_1)) ∧ (w'.heap[gb129]? = some (.cells #[.string a0_0, .string a0_1] 23 (0, 0))) ∧ (w'.heap[gb130]? = some (.cells #[.string a1_0, .string a1_1] 23 (0, 0))) ∧ (w'.heap[gb131]? = some (.cells #[.string (⟨#[]⟩ : ByteArray), .string (⟨#[]⟩ : ByteArray)] 23 (0, 0))) ∧ (Below w.heap.size w w')) ?_ ?_; rotate_left
       ·intro hJ4_9_10_15; refine join_ (σ := Nat) 7 #[true, true, true, true, true, true, true, true, true, true, true, true, true, true, true, false, false, false, false, false, true, false, false] (fun s_ => [(21, .string t134), (26, .string t135), (27, .string t136), (5, .pointer (some ⟨s_, 0, none⟩))]) (fun s_ w' => (w'.cell? ⟨gb129, 0, none⟩ = some (.string a0_0) ∧ w'.cell? ⟨gb129, 1, none⟩ = some (.string a0_1) ∧ w'.cell? ⟨gb130, 0, none⟩ = some (.string a1_0) ∧ w'.cell? ⟨gb130, 1, none⟩ = some (.string a1_1)) ∧ (w'.heap[gb129]? = some (.cells #[.string a0_0, .string a0_1] 23 (0, 0))) ∧ (w'.heap[gb130]? = some (.cells #[.string a1_0, .string a1_1] 23 (0, 0))) ∧ (w'.heap[gb131]? = some (.cells #[.string (⟨#[]⟩ : ByteArray), .string (⟨#[]⟩ : ByteArray)] 23 (0, 0))) ∧ (w'.heap[s_]? = some (.cells #[.string (⟨#[]⟩ : ByteArray), .string (⟨#[]⟩ : ByteArray)] 23 (0, 0))) ∧ (w.heap.size ≤ s_) ∧ (w.heap.size ≤ s_) ∧ (gb129 ≠ s_) ∧ (s_ ≠ gb129) ∧ (gb130 ≠ s_) ∧ (s_ ≠ gb130) ∧ (gb131 ≠ s_) ∧ (s_ ≠ gb131) ∧ (Below w.heap.size w w')) ?_ ?_; rotate_left
        ·intro hJ4_9_10_20; refine join_ (σ := Unit) 8 #[true, true, true, true, true, true, true, true, true, true, true, true, true, true, true, false, false, false, false, false, false, false, false] (fun s_ => [(21, .string t134), (26, .string t135), (27, .string t136)]) (fun s_ w' => (w'.cell? ⟨gb129, 0, none⟩ = some (.string a0_0) ∧ w'.cell? ⟨gb129, 1, none⟩ = some (.string a0_1) ∧ w'.cell? ⟨gb130, 0, none⟩ = some (.string a1_0) ∧ w'.cell? ⟨gb130, 1, none⟩ = some (.string a1_1)) ∧ (w'.heap[gb129]? = some (.cells #[.string a0_0, .string a0_1] 23 (0, 0))) ∧ (w'.heap[gb130]? = some (.cells #[.string a1_0, .string a1_1] 23 (0, 0))) ∧ (w'.heap[gb131]? = some (.cells #[.string (⟨#[]⟩ : ByteArray), .string (⟨#[]⟩ : ByteArray)] 23 (0, 0))) ∧ (Below w.heap.size w w')) ?_ ?_; rotate_left
         ·intro hJ4_9_10; refine join_ (σ := Nat) 8 #[true, true, true, true, true, true, true, true, true, true, false, true, true, true, true, false, false, false, false, false, true, false, false] (fun s_ => [(21, .string t134), (26, .string t135), (5, .pointer (some ⟨s_, 0, none⟩))]) (fun s_ w' => (w'.cell? ⟨gb129, 0, none⟩ = some (.string a0_0) ∧ w'.cell? ⟨gb129, 1, none⟩ = some (.string a0_1) ∧ w'.cell? ⟨gb130, 0, none⟩ = some (.string a1_0) ∧ w'.cell? ⟨gb130, 1, none⟩ = some (.string a1_1)) ∧ (w'.heap[gb129]? = some (.cells #[.string a0_0, .string a0_1] 23 (0, 0))) ∧ (w'.heap[gb130]? = some (.cells #[.string a1_0, .string a1_1] 23 (0, 0))) ∧ (w'.heap[gb131]? = some (.cells #[.string (⟨#[]⟩ : ByteArray), .string (⟨#[]⟩ : ByteArray)] 23 (0, 0))) ∧ (w'.heap[s_]? = some (.cells #[.string (⟨#[]⟩ : ByteArray), .string (⟨#[]⟩ : ByteArray)] 23 (0, 0))) ∧ (w.heap.size ≤ s_) ∧ (w.heap.size ≤ s_) ∧ (gb129 ≠ s_) ∧ (s_ ≠ gb129) ∧ (gb130 ≠ s_) ∧ (s_ ≠ gb130) ∧ (gb131 ≠ s_) ∧ (s_ ≠ gb131) ∧ (Below w.heap.size w w')) ?_ ?_; rotate_left
          ·intro hJ4_9_20; refine join_ (σ := Unit) 9 #[true, true, true, true, true, true, true, true, true, true, false, true, true, true, true, false, false, false, false, false, false, false, false] (fun s_ => [(21, .string t134), (26, .string t135)]) (fun s_ w' => (w'.cell? ⟨gb129, 0, none⟩ = some (.string a0_0) ∧ w'.cell? ⟨gb129, 1, none⟩ = some (.string a0_1) ∧ w'.cell? ⟨gb130, 0, none⟩ = some (.string a1_0) ∧ w'.cell? ⟨gb130, 1, none⟩ = some (.string a1_1)) ∧ (w'.heap[gb129]? = some (.cells #[.string a0_0, .string a0_1] 23 (0, 0))) ∧ (w'.heap[gb130]? = some (.cells #[.string a1_0, .string a1_1] 23 (0, 0))) ∧ (w'.heap[gb131]? = some (.cells #[.string (⟨#[]⟩ : ByteArray), .string (⟨#[]⟩ : ByteArray)] 23 (0, 0))) ∧ (Below w.heap.size w w')) ?_ ?_; rotate_left
           ·intro hJ4_9; refine join_ (σ := Nat) 9 #[true, true, true, true, true, true, true, true, true, false, false, true, true, true, true, false, false, false, false, false, true, false, false] (fun s_ => [(21, .string t134), (5, .pointer (some ⟨s_, 0, none⟩))]) (fun s_ w' => (w'.cell? ⟨gb129, 0, none⟩ = some (.string a0_0) ∧ w'.cell? ⟨gb129, 1, none⟩ = some (.string a0_1) ∧ w'.cell? ⟨gb130, 0, none⟩ = some (.string a1_0) ∧ w'.cell? ⟨gb130, 1, none⟩ = some (.string a1_1)) ∧ (w'.heap[gb129]? = some (.cells #[.string a0_0, .string a0_1] 23 (0, 0))) ∧ (w'.heap[gb130]? = some (.cells #[.string a1_0, .string a1_1] 23 (0, 0))) ∧ (w'.heap[gb131]? = some (.cells #[.string (⟨#[]⟩ : ByteArray), .string (⟨#[]⟩ : ByteArray)] 23 (0, 0))) ∧ (w'.heap[s_]? = some (.cells #[.string (⟨#[]⟩ : ByteArray), .string (⟨#[]⟩ : ByteArray)] 23 (0, 0))) ∧ (w.heap.size ≤ s_) ∧ (w.heap.size ≤ s_) ∧ (gb129 ≠ s_) ∧ (s_ ≠ gb129) ∧ (gb130 ≠ s_) ∧ (s_ ≠ gb130) ∧ (gb131 ≠ s_) ∧ (s_ ≠ gb131) ∧ (Below w.heap.size w w')) ?_ ?_; rotate_left
            ·intro hJ4_20; refine join_ (σ := Unit) 10 #[true, true, true, true, true, true, true, true, true, false, false, true, true, true, true, false, false, false, false, false, false, false, false] (fun s_ => [(21, .string t134)]) (fun s_ w' => (w'.cell? ⟨gb129, 0, none⟩ = some (.string a0_0) ∧ w'.cell? ⟨gb129, 1, none⟩ = some (.string a0_1) ∧ w'.cell? ⟨gb130, 0, none⟩ = some (.string a1_0) ∧ w'.cell? ⟨gb130, 1, none⟩ = some (.string a1_1)) ∧ (w'.heap[gb129]? = some (.cells #[.string a0_0, .string a0_1] 23 (0, 0))) ∧ (w'.heap[gb130]? = some (.cells #[.string a1_0, .string a1_1] 23 (0, 0))) ∧ (w'.heap[gb131]? = some (.cells #[.string (⟨#[]⟩ : ByteArray), .string (⟨#[]⟩ : ByteArray)] 23 (0, 0))) ∧ (Below w.heap.size w w')) ?_ ?_; rotate_left
             ·intro hJ4; refine join_ (σ := Nat) 10 #[true, true, true, true, false, true, true, true, true, false, false, true, true, true, true, false, false, false, false, false, true, false, false] (fun s_ => [(5, .pointer (some ⟨s_, 0, none⟩))]) (fun s_ w' => (w'.cell? ⟨gb129, 0, none⟩ = some (.string a0_0) ∧ w'.cell? ⟨gb129, 1, none⟩ = some (.string a0_1) ∧ w'.cell? ⟨gb130, 0, none⟩ = some (.string a1_0) ∧ w'.cell? ⟨gb130, 1, none⟩ = some (.string a1_1)) ∧ (w'.heap[gb129]? = some (.cells #[.string a0_0, .string a0_1] 23 (0, 0))) ∧ (w'.heap[gb130]? = some (.cells #[.string a1_0, .string a1_1] 23 (0, 0))) ∧ (w'.heap[gb131]? = some (.cells #[.string (⟨#[]⟩ : ByteArray), .string (⟨#[]⟩ : ByteArray)] 23 (0, 0))) ∧ (w'.heap[s_]? = some (.cells #[.string (⟨#[]⟩ : ByteArray), .string (⟨#[]⟩ : ByteArray)] 23 (0, 0))) ∧ (w.heap.size ≤ s_) ∧ (w.heap.size ≤ s_) ∧ (gb129 ≠ s_) ∧ (s_ ≠ gb129) ∧ (gb130 ≠ s_) ∧ (s_ ≠ gb130) ∧ (gb131 ≠ s_) ∧ (s_ ≠ gb131) ∧ (Below w.heap.size w w')) ?_ ?_; rotate_left
              ·intro hJ20; refine two_ (i := 4) (j := 20) (Ni := some 21) (Nj := some 5) #[true, true, true, true, true, true, true, true, true, false, false, true, true, true, true, false, false, false, false, false, false, false, false] #[true, true, true, true, false, true, true, true, true, false, false, true, true, true, true, false, false, false, false, false, true, false, false] rfl rfl rfl rfl (two_of HT_.out (by kernel_rfl)) (by decide) (by decide) (fun K hK => ?_) (fun K hK => ?_)
               ·skip; refine gs_ Tryz.func47 #[.string a0_0, .string a1_1] ?_; refine mo_ (r2_Mul.calls a0_0 a1_1 t134 _ A25.out) ?_; intro w31 hb; replace BK129 := kb_ BK129 hb; replace BK130 := kb_ BK130 hb; replace BK131 := kb_ BK131 hb; replace HB := bs_ HB hb; (try clear hb); refine hk_ hK (fun hHeld => ?_); clear hK K; refine nm_ ?_; exact norm_ pa_ (hJ4 () _ ⟨hHeld, (k_ BK129.out), (k_ BK130.out), (k_ BK131.out), (b_ HB.out)⟩)
               ·skip; refine box_step ?hg (N := 5) ?hd (cs := #[.string (⟨#[]⟩ : ByteArray), .string (⟨#[]⟩ : ByteArray)]) (t := 23) ?hr ?_; (case hd => rfl); (case hg => rfl); (case hr => first | (go_simp; done) | (go_simp; rfl)); intro gb141 hg w31 hbox hb; have BK141 := Aside0.mk (hbox); have GW141 := ge_ HB hg; have GE141 := ge_ HB hg; have NB129_141 := nl_ BK129 hg; have NB141_129 := ng_ BK129 hg; have NB130_141 := nl_ BK130 hg; have NB141_130 := ng_ BK130 hg; have NB131_141 := nl_ BK131 hg; have NB141_131 := ng_ BK131 hg; replace BK129 := kb_ BK129 hb; replace BK130 := kb_ BK130 hb; replace BK131 := kb_ BK131 hb; replace HB := bs_ HB hb; clear hb hbox hg; refine hk_ hK (fun hHeld => ?_); clear hK K; refine nm_ ?_; exact norm_ pa_ (hJ20 (gb141) _ ⟨hHeld, (k_ BK129.out), (k_ BK130.out), (k_ BK131.out), (k_ BK141.out), GW141.out, GE141.out, NB129_141.out, NB141_129.out, NB130_141.out, NB141_130.out, NB131_141.out, NB141_131.out, (b_ HB.out)⟩)
              ·skip; rintro gb141 w32 ⟨hS_, h0_, h1_, h2_, h3_, h4_, h5_, h6_, h7_, h8_, h9_, h10_, h11_, h12_⟩; have n0_ : Aside0 (w32.heap[gb129]? = some (.cells #[.string a0_0, .string a0_1] 23 (0, 0))) := ⟨h0_⟩; have n1_ : Aside0 (w32.heap[gb130]? = some (.cells #[.string a1_0, .string a1_1] 23 (0, 0))) := ⟨h1_⟩; have n2_ : Aside0 (w32.heap[gb131]? = some (.cells #[.string (⟨#[]⟩ : ByteArray), .string (⟨#[]⟩ : ByteArray)] 23 (0, 0))) := ⟨h2_⟩; have n3_ : Aside0 (w32.heap[gb141]? = some (.cells #[.string (⟨#[]⟩ : ByteArray), .string (⟨#[]⟩ : ByteArray)] 23 (0, 0))) := ⟨h3_⟩; have n4_ : Aside0 (w.heap.size ≤ gb141) := ⟨h4_⟩; have n5_ : Aside0 (w.heap.size ≤ gb141) := ⟨h5_⟩; have n6_ : Aside0 (gb129 ≠ gb141) := ⟨h6_⟩; have n7_ : Aside0 (gb141 ≠ gb129) := ⟨h7_⟩; have n8_ : Aside0 (gb130 ≠ gb141) := ⟨h8_⟩; have n9_ : Aside0 (gb141 ≠ gb130) := ⟨h9_⟩; have n10_ : Aside0 (gb131 ≠ gb141) := ⟨h10_⟩; have n11_ : Aside0 (gb141 ≠ gb131) := ⟨h11_⟩; have n12_ : Aside0 (Below w.heap.size w w32) := ⟨h12_⟩; clear BK129; clear BK130; clear BK131; clear HB; clear h0_ h1_ h2_ h3_ h4_ h5_ h6_ h7_ h8_ h9_ h10_ h11_ h12_; have BK129 := n0_; have BK130 := n1_; have BK131 := n2_; have BK141 := n3_; have GW141 := n4_; have GE141 := n5_; have NB129_141 := n6_; have NB141_129 := n7_; have NB130_141 := n8_; have NB141_130 := n9_; have NB131_141 := n10_; have NB141_131 := n11_; have HB := n12_; clear n0_ n1_ n2_ n3_ n4_ n5_ n6_ n7_ n8_ n9_ n10_ n11_ n12_; have hHeld : w32.cell? ⟨gb129, 0, none⟩ = some (.string a0_0) ∧ w32.cell? ⟨gb129, 1, none⟩ = some (.string a0_1) ∧ w32.cell? ⟨gb130, 0, none⟩ = some (.string a1_0) ∧ w32.cell? ⟨gb130, 1, none⟩ = some (.string a1_1) := hS_; refine norm_ (a' := ?_) ?_ ?_; rotate_left
               ·simp only [putAll, Act.put, List.setIfInBounds_toArray, List.set_cons_zero, List.set_cons_succ]
                rfl
               refine on_ 4 (some 21) rfl rfl HT_ (fun K hK => ?_); refine gs_ Tryz.func47 #[.string a0_0, .string a1_1] ?_; refine mo_ (r2_Mul.calls a0_0 a1_1 t134 _ A25.out) ?_; intro w33 hb; replace BK129 := kb_ BK129 hb; replace BK130 := kb_ BK130 hb; replace BK131 := kb_ BK131 hb; replace BK141 := kb_ BK141 hb; replace HB := bs_ HB hb; (try clear hb); refine hk_ hK (fun hHeld => ?_); clear hK K; refine nm_ ?_; exact norm_ pa_ (hJ4_20 (gb141) _ ⟨hHeld, (k_ BK129.out), (k_ BK130.out), (k_ BK131.out), (k_ BK141.out), GW141.out, GE141.out, NB129_141.out, NB141_129.out, NB130_141.out, NB141_130.out, NB131_141.out, NB141_131.out, (b_ HB.out)⟩)
             ·skip; rintro _ w32 ⟨hS_, h0_, h1_, h2_, h3_⟩; have n0_ : Aside0 (w32.heap[gb129]? = some (.cells #[.string a0_0, .string a0_1] 23 (0, 0))) := ⟨h0_⟩; have n1_ : Aside0 (w32.heap[gb130]? = some (.cells #[.string a1_0, .string a1_1] 23 (0, 0))) := ⟨h1_⟩; have n2_ : Aside0 (w32.heap[gb131]? = some (.cells #[.string (⟨#[]⟩ : ByteArray), .string (⟨#[]⟩ : ByteArray)] 23 (0, 0))) := ⟨h2_⟩; have n3_ : Aside0 (Below w.heap.size w w32) := ⟨h3_⟩; clear BK129; clear BK130; clear BK131; clear HB; clear h0_ h1_ h2_ h3_; have BK129 := n0_; have BK130 := n1_; have BK131 := n2_; have HB := n3_; clear n0_ n1_ n2_ n3_; have hHeld : w32.cell? ⟨gb129, 0, none⟩ = some (.string a0_0) ∧ w32.cell? ⟨gb129, 1, none⟩ = some (.string a0_1) ∧ w32.cell? ⟨gb130, 0, none⟩ = some (.string a1_0) ∧ w32.cell? ⟨gb130, 1, none⟩ = some (.string a1_1) := hS_; refine norm_ (a' := ?_) ?_ ?_; rotate_left
              ·simp only [putAll, Act.put, List.setIfInBounds_toArray, List.set_cons_zero, List.set_cons_succ]
               rfl
              refine two_ (i := 9) (j := 20) (Ni := some 26) (Nj := some 5) #[true, true, true, true, true, true, true, true, true, true, false, true, true, true, true, false, false, false, false, false, false, false, false] #[true, true, true, true, true, true, true, true, true, false, false, true, true, true, true, false, false, false, false, false, true, false, false] rfl rfl rfl rfl (two_of HT_.out (by kernel_rfl)) (by decide) (by decide) (fun K hK => ?_) (fun K hK => ?_)
              ·skip; refine gs_ Tryz.func47 #[.string a1_0, .string a0_1] ?_; refine mo_ (r2_Mul.calls a1_0 a0_1 t135 _ A26.out) ?_; intro w33 hb; replace BK129 := kb_ BK129 hb; replace BK130 := kb_ BK130 hb; replace BK131 := kb_ BK131 hb; replace HB := bs_ HB hb; (try clear hb); refine hk_ hK (fun hHeld => ?_); clear hK K; refine nm_ ?_; exact norm_ pa_ (hJ4_9 () _ ⟨hHeld, (k_ BK129.out), (k_ BK130.out), (k_ BK131.out), (b_ HB.out)⟩)
              ·skip; refine box_step ?hg (N := 5) ?hd (cs := #[.string (⟨#[]⟩ : ByteArray), .string (⟨#[]⟩ : ByteArray)]) (t := 23) ?hr ?_; (case hd => rfl); (case hg => rfl); (case hr => first | (go_simp; done) | (go_simp; rfl)); intro gb141 hg w33 hbox hb; have BK141 := Aside0.mk (hbox); have GW141 := ge_ HB hg; have GE141 := ge_ HB hg; have NB129_141 := nl_ BK129 hg; have NB141_129 := ng_ BK129 hg; have NB130_141 := nl_ BK130 hg; have NB141_130 := ng_ BK130 hg; have NB131_141 := nl_ BK131 hg; have NB141_131 := ng_ BK131 hg; replace BK129 := kb_ BK129 hb; replace BK130 := kb_ BK130 hb; replace BK131 := kb_ BK131 hb; replace HB := bs_ HB hb; clear hb hbox hg; refine hk_ hK (fun hHeld => ?_); clear hK K; refine nm_ ?_; exact norm_ pa_ (hJ4_20 (gb141) _ ⟨hHeld, (k_ BK129.out), (k_ BK130.out), (k_ BK131.out), (k_ BK141.out), GW141.out, GE141.out, NB129_141.out, NB141_129.out, NB130_141.out, NB141_130.out, NB131_141.out, NB141_131.out, (b_ HB.out)⟩)
            ·skip; rintro gb141 w33 ⟨hS_, h0_, h1_, h2_, h3_, h4_, h5_, h6_, h7_, h8_, h9_, h10_, h11_, h12_⟩; have n0_ : Aside0 (w33.heap[gb129]? = some (.cells #[.string a0_0, .string a0_1] 23 (0, 0))) := ⟨h0_⟩; have n1_ : Aside0 (w33.heap[gb130]? = some (.cells #[.string a1_0, .string a1_1] 23 (0, 0))) := ⟨h1_⟩; have n2_ : Aside0 (w33.heap[gb131]? = some (.cells #[.string (⟨#[]⟩ : ByteArray), .string (⟨#[]⟩ : ByteArray)] 23 (0, 0))) := ⟨h2_⟩; have n3_ : Aside0 (w33.heap[gb141]? = some (.cells #[.string (⟨#[]⟩ : ByteArray), .string (⟨#[]⟩ : ByteArray)] 23 (0, 0))) := ⟨h3_⟩; have n4_ : Aside0 (w.heap.size ≤ gb141) := ⟨h4_⟩; have n5_ : Aside0 (w.heap.size ≤ gb141) := ⟨h5_⟩; have n6_ : Aside0 (gb129 ≠ gb141) := ⟨h6_⟩; have n7_ : Aside0 (gb141 ≠ gb129) := ⟨h7_⟩; have n8_ : Aside0 (gb130 ≠ gb141) := ⟨h8_⟩; have n9_ : Aside0 (gb141 ≠ gb130) := ⟨h9_⟩; have n10_ : Aside0 (gb131 ≠ gb141) := ⟨h10_⟩; have n11_ : Aside0 (gb141 ≠ gb131) := ⟨h11_⟩; have n12_ : Aside0 (Below w.heap.size w w33) := ⟨h12_⟩; clear BK129; clear BK130; clear BK131; clear HB; clear h0_ h1_ h2_ h3_ h4_ h5_ h6_ h7_ h8_ h9_ h10_ h11_ h12_; have BK129 := n0_; have BK130 := n1_; have BK131 := n2_; have BK141 := n3_; have GW141 := n4_; have GE141 := n5_; have NB129_141 := n6_; have NB141_129 := n7_; have NB130_141 := n8_; have NB141_130 := n9_; have NB131_141 := n10_; have NB141_131 := n11_; have HB := n12_; clear n0_ n1_ n2_ n3_ n4_ n5_ n6_ n7_ n8_ n9_ n10_ n11_ n12_; have hHeld : w33.cell? ⟨gb129, 0, none⟩ = some (.string a0_0) ∧ w33.cell? ⟨gb129, 1, none⟩ = some (.string a0_1) ∧ w33.cell? ⟨gb130, 0, none⟩ = some (.string a1_0) ∧ w33.cell? ⟨gb130, 1, none⟩ = some (.string a1_1) := hS_; refine norm_ (a' := ?_) ?_ ?_; rotate_left
             ·simp only [putAll, Act.put, List.setIfInBounds_toArray, List.set_cons_zero, List.set_cons_succ]
              rfl
             refine on_ 9 (some 26) rfl rfl HT_ (fun K hK => ?_); refine gs_ Tryz.func47 #[.string a1_0, .string a0_1] ?_; refine mo_ (r2_Mul.calls a1_0 a0_1 t135 _ A26.out) ?_; intro w34 hb; replace BK129 := kb_ BK129 hb; replace BK130 := kb_ BK130 hb; replace BK131 := kb_ BK131 hb; replace BK141 := kb_ BK141 hb; replace HB := bs_ HB hb; (try clear hb); refine hk_ hK (fun hHeld => ?_); clear hK K; refine nm_ ?_; exact norm_ pa_ (hJ4_9_20 (gb141) _ ⟨hHeld, (k_ BK129.out), (k_ BK130.out), (k_ BK131.out), (k_ BK141.out), GW141.out, GE141.out, NB129_141.out, NB141_129.out, NB130_141.out, NB141_130.out, NB131_141.out, NB141_131.out, (b_ HB.out)⟩)
           ·skip; rintro _ w33 ⟨hS_, h0_, h1_, h2_, h3_⟩; have n0_ : Aside0 (w33.heap[gb129]? = some (.cells #[.string a0_0, .string a0_1] 23 (0, 0))) := ⟨h0_⟩; have n1_ : Aside0 (w33.heap[gb130]? = some (.cells #[.string a1_0, .string a1_1] 23 (0, 0))) := ⟨h1_⟩; have n2_ : Aside0 (w33.heap[gb131]? = some (.cells #[.string (⟨#[]⟩ : ByteArray), .string (⟨#[]⟩ : ByteArray)] 23 (0, 0))) := ⟨h2_⟩; have n3_ : Aside0 (Below w.heap.size w w33) := ⟨h3_⟩; clear BK129; clear BK130; clear BK131; clear HB; clear h0_ h1_ h2_ h3_; have BK129 := n0_; have BK130 := n1_; have BK131 := n2_; have HB := n3_; clear n0_ n1_ n2_ n3_; have hHeld : w33.cell? ⟨gb129, 0, none⟩ = some (.string a0_0) ∧ w33.cell? ⟨gb129, 1, none⟩ = some (.string a0_1) ∧ w33.cell? ⟨gb130, 0, none⟩ = some (.string a1_0) ∧ w33.cell? ⟨gb130, 1, none⟩ = some (.string a1_1) := hS_; refine norm_ (a' := ?_) ?_ ?_; rotate_left
            ·simp only [putAll, Act.put, List.setIfInBounds_toArray, List.set_cons_zero, List.set_cons_succ]
             rfl
            refine two_ (i := 10) (j := 20) (Ni := some 27) (Nj := some 5) #[true, true, true, true, true, true, true, true, true, true, true, true, true, true, true, false, false, false, false, false, false, false, false] #[true, true, true, true, true, true, true, true, true, true, false, true, true, true, true, false, false, false, false, false, true, false, false] rfl rfl rfl rfl (two_of HT_.out (by kernel_rfl)) (by decide) (by decide) (fun K hK => ?_) (fun K hK => ?_)
            ·skip; refine gs_ Tryz.func49 #[.string t134, .string t135] ?_; refine mo_ (r2_Add.calls t134 t135 t136 _ A27.out) ?_; intro w34 hb; replace BK129 := kb_ BK129 hb; replace BK130 := kb_ BK130 hb; replace BK131 := kb_ BK131 hb; replace HB := bs_ HB hb; (try clear hb); refine hk_ hK (fun hHeld => ?_); clear hK K; refine nm_ ?_; exact norm_ pa_ (hJ4_9_10 () _ ⟨hHeld, (k_ BK129.out), (k_ BK130.out), (k_ BK131.out), (b_ HB.out)⟩)
            ·skip; refine box_step ?hg (N := 5) ?hd (cs := #[.string (⟨#[]⟩ : ByteArray), .string (⟨#[]⟩ : ByteArray)]) (t := 23) ?hr ?_; (case hd => rfl); (case hg => rfl); (case hr => first | (go_simp; done) | (go_simp; rfl)); intro gb141 hg w34 hbox hb; have BK141 := Aside0.mk (hbox); have GW141 := ge_ HB hg; have GE141 := ge_ HB hg; have NB129_141 := nl_ BK129 hg; have NB141_129 := ng_ BK129 hg; have NB130_141 := nl_ BK130 hg; have NB141_130 := ng_ BK130 hg; have NB131_141 := nl_ BK131 hg; have NB141_131 := ng_ BK131 hg; replace BK129 := kb_ BK129 hb; replace BK130 := kb_ BK130 hb; replace BK131 := kb_ BK131 hb; replace HB := bs_ HB hb; clear hb hbox hg; refine hk_ hK (fun hHeld => ?_); clear hK K; refine nm_ ?_; exact norm_ pa_ (hJ4_9_20 (gb141) _ ⟨hHeld, (k_ BK129.out), (k_ BK130.out), (k_ BK131.out), (k_ BK141.out), GW141.out, GE141.out, NB129_141.out, NB141_129.out, NB130_141.out, NB141_130.out, NB131_141.out, NB141_131.out, (b_ HB.out)⟩)
          ·skip; rintro gb141 w34 ⟨hS_, h0_, h1_, h2_, h3_, h4_, h5_, h6_, h7_, h8_, h9_, h10_, h11_, h12_⟩; have n0_ : Aside0 (w34.heap[gb129]? = some (.cells #[.string a0_0, .string a0_1] 23 (0, 0))) := ⟨h0_⟩; have n1_ : Aside0 (w34.heap[gb130]? = some (.cells #[.string a1_0, .string a1_1] 23 (0, 0))) := ⟨h1_⟩; have n2_ : Aside0 (w34.heap[gb131]? = some (.cells #[.string (⟨#[]⟩ : ByteArray), .string (⟨#[]⟩ : ByteArray)] 23 (0, 0))) := ⟨h2_⟩; have n3_ : Aside0 (w34.heap[gb141]? = some (.cells #[.string (⟨#[]⟩ : ByteArray), .string (⟨#[]⟩ : ByteArray)] 23 (0, 0))) := ⟨h3_⟩; have n4_ : Aside0 (w.heap.size ≤ gb141) := ⟨h4_⟩; have n5_ : Aside0 (w.heap.size ≤ gb141) := ⟨h5_⟩; have n6_ : Aside0 (gb129 ≠ gb141) := ⟨h6_⟩; have n7_ : Aside0 (gb141 ≠ gb129) := ⟨h7_⟩; have n8_ : Aside0 (gb130 ≠ gb141) := ⟨h8_⟩; have n9_ : Aside0 (gb141 ≠ gb130) := ⟨h9_⟩; have n10_ : Aside0 (gb131 ≠ gb141) := ⟨h10_⟩; have n11_ : Aside0 (gb141 ≠ gb131) := ⟨h11_⟩; have n12_ : Aside0 (Below w.heap.size w w34) := ⟨h12_⟩; clear BK129; clear BK130; clear BK131; clear HB; clear h0_ h1_ h2_ h3_ h4_ h5_ h6_ h7_ h8_ h9_ h10_ h11_ h12_; have BK129 := n0_; have BK130 := n1_; have BK131 := n2_; have BK141 := n3_; have GW141 := n4_; have GE141 := n5_; have NB129_141 := n6_; have NB141_129 := n7_; have NB130_141 := n8_; have NB141_130 := n9_; have NB131_141 := n10_; have NB141_131 := n11_; have HB := n12_; clear n0_ n1_ n2_ n3_ n4_ n5_ n6_ n7_ n8_ n9_ n10_ n11_ n12_; have hHeld : w34.cell? ⟨gb129, 0, none⟩ = some (.string a0_0) ∧ w34.cell? ⟨gb129, 1, none⟩ = some (.string a0_1) ∧ w34.cell? ⟨gb130, 0, none⟩ = some (.string a1_0) ∧ w34.cell? ⟨gb130, 1, none⟩ = some (.string a1_1) := hS_; refine norm_ (a' := ?_) ?_ ?_; rotate_left
           ·simp only [putAll, Act.put, List.setIfInBounds_toArray, List.set_cons_zero, List.set_cons_succ]
            rfl
           refine on_ 10 (some 27) rfl rfl HT_ (fun K hK => ?_); refine gs_ Tryz.func49 #[.string t134, .string t135] ?_; refine mo_ (r2_Add.calls t134 t135 t136 _ A27.out) ?_; intro w35 hb; replace BK129 := kb_ BK129 hb; replace BK130 := kb_ BK130 hb; replace BK131 := kb_ BK131 hb; replace BK141 := kb_ BK141 hb; replace HB := bs_ HB hb; (try clear hb); refine hk_ hK (fun hHeld => ?_); clear hK K; refine nm_ ?_; exact norm_ pa_ (hJ4_9_10_20 (gb141) _ ⟨hHeld, (k_ BK129.out), (k_ BK130.out), (k_ BK131.out), (k_ BK141.out), GW141.out, GE141.out, NB129_141.out, NB141_129.out, NB130_141.out, NB141_130.out, NB131_141.out, NB141_131.out, (b_ HB.out)⟩)
         ·skip; rintro _ w34 ⟨hS_, h0_, h1_, h2_, h3_⟩; have n0_ : Aside0 (w34.heap[gb129]? = some (.cells #[.string a0_0, .string a0_1] 23 (0, 0))) := ⟨h0_⟩; have n1_ : Aside0 (w34.heap[gb130]? = some (.cells #[.string a1_0, .string a1_1] 23 (0, 0))) := ⟨h1_⟩; have n2_ : Aside0 (w34.heap[gb131]? = some (.cells #[.string (⟨#[]⟩ : ByteArray), .string (⟨#[]⟩ : ByteArray)] 23 (0, 0))) := ⟨h2_⟩; have n3_ : Aside0 (Below w.heap.size w w34) := ⟨h3_⟩; clear BK129; clear BK130; clear BK131; clear HB; clear h0_ h1_ h2_ h3_; have BK129 := n0_; have BK130 := n1_; have BK131 := n2_; have HB := n3_; clear n0_ n1_ n2_ n3_; have hHeld : w34.cell? ⟨gb129, 0, none⟩ = some (.string a0_0) ∧ w34.cell? ⟨gb129, 1, none⟩ = some (.string a0_1) ∧ w34.cell? ⟨gb130, 0, none⟩ = some (.string a1_0) ∧ w34.cell? ⟨gb130, 1, none⟩ = some (.string a1_1) := hS_; refine norm_ (a' := ?_) ?_ ?_; rotate_left
          ·simp only [putAll, Act.put, List.setIfInBounds_toArray, List.set_cons_zero, List.set_cons_succ]
           rfl
          refine two_ (i := 15) (j := 20) (Ni := some 32) (Nj := some 5) #[true, true, true, true, true, true, true, true, true, true, true, true, true, true, true, true, false, false, false, false, false, false, false] #[true, true, true, true, true, true, true, true, true, true, true, true, true, true, true, false, false, false, false, false, true, false, false] rfl rfl rfl rfl (two_of HT_.out (by kernel_rfl)) (by decide) (by decide) (fun K hK => ?_) (fun K hK => ?_)
          ·skip; refine gs_ Tryz.func48 #[.string a0_1, .string a1_1] ?_; refine mo_ (r1_Mul.calls a0_1 a1_1 t137 _ A28.out) ?_; intro w35 hb; replace BK129 := kb_ BK129 hb; replace BK130 := kb_ BK130 hb; replace BK131 := kb_ BK131 hb; replace HB := bs_ HB hb; (try clear hb); refine hk_ hK (fun hHeld => ?_); clear hK K; refine nm_ ?_; exact norm_ pa_ (hJ4_9_10_15 () _ ⟨hHeld, (k_ BK129.out), (k_ BK130.out), (k_ BK131.out), (b_ HB.out)⟩)
          ·skip; refine box_step ?hg (N := 5) ?hd (cs := #[.string (⟨#[]⟩ : ByteArray), .string (⟨#[]⟩ : ByteArray)]) (t := 23) ?hr ?_; (case hd => rfl); (case hg => rfl); (case hr => first | (go_simp; done) | (go_simp; rfl)); intro gb141 hg w35 hbox hb; have BK141 := Aside0.mk (hbox); have GW141 := ge_ HB hg; have GE141 := ge_ HB hg; have NB129_141 := nl_ BK129 hg; have NB141_129 := ng_ BK129 hg; have NB130_141 := nl_ BK130 hg; have NB141_130 := ng_ BK130 hg; have NB131_141 := nl_ BK131 hg; have NB141_131 := ng_ BK131 hg; replace BK129 := kb_ BK129 hb; replace BK130 := kb_ BK130 hb; replace BK131 := kb_ BK131 hb; replace HB := bs_ HB hb; clear hb hbox hg; refine hk_ hK (fun hHeld => ?_); clear hK K; refine nm_ ?_; exact norm_ pa_ (hJ4_9_10_20 (gb141) _ ⟨hHeld, (k_ BK129.out), (k_ BK130.out), (k_ BK131.out), (k_ BK141.out), GW141.out, GE141.out, NB129_141.out, NB141_129.out, NB130_141.out, NB141_130.out, NB131_141.out, NB141_131.out, (b_ HB.out)⟩)
        ·skip; rintro gb141 w35 ⟨hS_, h0_, h1_, h2_, h3_, h4_, h5_, h6_, h7_, h8_, h9_, h10_, h11_, h12_⟩; have n0_ : Aside0 (w35.heap[gb129]? = some (.cells #[.string a0_0, .string a0_1] 23 (0, 0))) := ⟨h0_⟩; have n1_ : Aside0 (w35.heap[gb130]? = some (.cells #[.string a1_0, .string a1_1] 23 (0, 0))) := ⟨h1_⟩; have n2_ : Aside0 (w35.heap[gb131]? = some (.cells #[.string (⟨#[]⟩ : ByteArray), .string (⟨#[]⟩ : ByteArray)] 23 (0, 0))) := ⟨h2_⟩; have n3_ : Aside0 (w35.heap[gb141]? = some (.cells #[.string (⟨#[]⟩ : ByteArray), .string (⟨#[]⟩ : ByteArray)] 23 (0, 0))) := ⟨h3_⟩; have n4_ : Aside0 (w.heap.size ≤ gb141) := ⟨h4_⟩; have n5_ : Aside0 (w.heap.size ≤ gb141) := ⟨h5_⟩; have n6_ : Aside0 (gb129 ≠ gb141) := ⟨h6_⟩; have n7_ : Aside0 (gb141 ≠ gb129) := ⟨h7_⟩; have n8_ : Aside0 (gb130 ≠ gb141) := ⟨h8_⟩; have n9_ : Aside0 (gb141 ≠ gb130) := ⟨h9_⟩; have n10_ : Aside0 (gb131 ≠ gb141) := ⟨h10_⟩; have n11_ : Aside0 (gb141 ≠ gb131) := ⟨h11_⟩; have n12_ : Aside0 (Below w.heap.size w w35) := ⟨h12_⟩; clear BK129; clear BK130; clear BK131; clear HB; clear h0_ h1_ h2_ h3_ h4_ h5_ h6_ h7_ h8_ h9_ h10_ h11_ h12_; have BK129 := n0_; have BK130 := n1_; have BK131 := n2_; have BK141 := n3_; have GW141 := n4_; have GE141 := n5_; have NB129_141 := n6_; have NB141_129 := n7_; have NB130_141 := n8_; have NB141_130 := n9_; have NB131_141 := n10_; have NB141_131 := n11_; have HB := n12_; clear n0_ n1_ n2_ n3_ n4_ n5_ n6_ n7_ n8_ n9_ n10_ n11_ n12_; have hHeld : w35.cell? ⟨gb129, 0, none⟩ = some (.string a0_0) ∧ w35.cell? ⟨gb129, 1, none⟩ = some (.string a0_1) ∧ w35.cell? ⟨gb130, 0, none⟩ = some (.string a1_0) ∧ w35.cell? ⟨gb130, 1, none⟩ = some (.string a1_1) := hS_; refine norm_ (a' := ?_) ?_ ?_; rotate_left
         ·simp only [putAll, Act.put, List.setIfInBounds_toArray, List.set_cons_zero, List.set_cons_succ]
          rfl
         refine on_ 15 (some 32) rfl rfl HT_ (fun K hK => ?_); refine gs_ Tryz.func48 #[.string a0_1, .string a1_1] ?_; refine mo_ (r1_Mul.calls a0_1 a1_1 t137 _ A28.out) ?_; intro w36 hb; replace BK129 := kb_ BK129 hb; replace BK130 := kb_ BK130 hb; replace BK131 := kb_ BK131 hb; replace BK141 := kb_ BK141 hb; replace HB := bs_ HB hb; (try clear hb); refine hk_ hK (fun hHeld => ?_); clear hK K; refine nm_ ?_; exact norm_ pa_ (hJ4_9_10_15_20 (gb141) _ ⟨hHeld, (k_ BK129.out), (k_ BK130.out), (k_ BK131.out), (k_ BK141.out), GW141.out, GE141.out, NB129_141.out, NB141_129.out, NB130_141.out, NB141_130.out, NB131_141.out, NB141_131.out, (b_ HB.out)⟩)
       ·skip; rintro _ w35 ⟨hS_, h0_, h1_, h2_, h3_⟩; have n0_ : Aside0 (w35.heap[gb129]? = some (.cells #[.string a0_0, .string a0_1] 23 (0, 0))) := ⟨h0_⟩; have n1_ : Aside0 (w35.heap[gb130]? = some (.cells #[.string a1_0, .string a1_1] 23 (0, 0))) := ⟨h1_⟩; have n2_ : Aside0 (w35.heap[gb131]? = some (.cells #[.string (⟨#[]⟩ : ByteArray), .string (⟨#[]⟩ : ByteArray)] 23 (0, 0))) := ⟨h2_⟩; have n3_ : Aside0 (Below w.heap.size w w35) := ⟨h3_⟩; clear BK129; clear BK130; clear BK131; clear HB; clear h0_ h1_ h2_ h3_; have BK129 := n0_; have BK130 := n1_; have BK131 := n2_; have HB := n3_; clear n0_ n1_ n2_ n3_; have hHeld : w35.cell? ⟨gb129, 0, none⟩ = some (.string a0_0) ∧ w35.cell? ⟨gb129, 1, none⟩ = some (.string a0_1) ∧ w35.cell? ⟨gb130, 0, none⟩ = some (.string a1_0) ∧ w35.cell? ⟨gb130, 1, none⟩ = some (.string a1_1) := hS_; refine norm_ (a' := ?_) ?_ ?_; rotate_left
        ·simp only [putAll, Act.put, List.setIfInBounds_toArray, List.set_cons_zero, List.set_cons_succ]
         rfl
        refine two_ (i := 16) (j := 20) (Ni := some 33) (Nj := some 5) #[true, true, true, true, true, true, true, true, true, true, true, true, true, true, true, true, true, false, false, false, false, false, false] #[true, true, true, true, true, true, true, true, true, true, true, true, true, true, true, true, false, false, false, false, true, false, false] rfl rfl rfl rfl (two_of HT_.out (by kernel_rfl)) (by decide) (by decide) (fun K hK => ?_) (fun K hK => ?_)
        ·skip; refine gs_ Tryz.func35 #[.string t136, .string t137] ?_; refine mo_ (r3_Make.calls kj2 t136 t137 t138 t139 t140 _ A29.out) ?_; intro w36 hb; replace BK129 := kb_ BK129 hb; replace BK130 := kb_ BK130 hb; replace BK131 := kb_ BK131 hb; replace HB := bs_ HB hb; (try clear hb); refine hk_ hK (fun hHeld => ?_); clear hK K; refine nm_ ?_; refine pu_ 17 16 rfl rfl HT_ ?_; refine pu_ 18 34 rfl rfl HT_ ?_; refine pu_ 19 35 rfl rfl HT_ ?_; exact norm_ pa_ (hJ4_9_10_15_16 () _ ⟨hHeld, (k_ BK129.out), (k_ BK130.out), (k_ BK131.out), (b_ HB.out)⟩)
        ·skip; refine box_step ?hg (N := 5) ?hd (cs := #[.string (⟨#[]⟩ : ByteArray), .string (⟨#[]⟩ : ByteArray)]) (t := 23) ?hr ?_; (case hd => rfl); (case hg => rfl); (case hr => first | (go_simp; done) | (go_simp; rfl)); intro gb141 hg w36 hbox hb; have BK141 := Aside0.mk (hbox); have GW141 := ge_ HB hg; have GE141 := ge_ HB hg; have NB129_141 := nl_ BK129 hg; have NB141_129 := ng_ BK129 hg; have NB130_141 := nl_ BK130 hg; have NB141_130 := ng_ BK130 hg; have NB131_141 := nl_ BK131 hg; have NB141_131 := ng_ BK131 hg; replace BK129 := kb_ BK129 hb; replace BK130 := kb_ BK130 hb; replace BK131 := kb_ BK131 hb; replace HB := bs_ HB hb; clear hb hbox hg; refine hk_ hK (fun hHeld => ?_); clear hK K; refine nm_ ?_; exact norm_ pa_ (hJ4_9_10_15_20 (gb141) _ ⟨hHeld, (k_ BK129.out), (k_ BK130.out), (k_ BK131.out), (k_ BK141.out), GW141.out, GE141.out, NB129_141.out, NB141_129.out, NB130_141.out, NB141_130.out, NB131_141.out, NB141_131.out, (b_ HB.out)⟩)
      ·skip; rintro gb141 w36 ⟨hS_, h0_, h1_, h2_, h3_, h4_, h5_, h6_, h7_, h8_, h9_, h10_, h11_, h12_⟩; have n0_ : Aside0 (w36.heap[gb129]? = some (.cells #[.string a0_0, .string a0_1] 23 (0, 0))) := ⟨h0_⟩; have n1_ : Aside0 (w36.heap[gb130]? = some (.cells #[.string a1_0, .string a1_1] 23 (0, 0))) := ⟨h1_⟩; have n2_ : Aside0 (w36.heap[gb131]? = some (.cells #[.string (⟨#[]⟩ : ByteArray), .string (⟨#[]⟩ : ByteArray)] 23 (0, 0))) := ⟨h2_⟩; have n3_ : Aside0 (w36.heap[gb141]? = some (.cells #[.string (⟨#[]⟩ : ByteArray), .string (⟨#[]⟩ : ByteArray)] 23 (0, 0))) := ⟨h3_⟩; have n4_ : Aside0 (w.heap.size ≤ gb141) := ⟨h4_⟩; have n5_ : Aside0 (w.heap.size ≤ gb141) := ⟨h5_⟩; have n6_ : Aside0 (gb129 ≠ gb141) := ⟨h6_⟩; have n7_ : Aside0 (gb141 ≠ gb129) := ⟨h7_⟩; have n8_ : Aside0 (gb130 ≠ gb141) := ⟨h8_⟩; have n9_ : Aside0 (gb141 ≠ gb130) := ⟨h9_⟩; have n10_ : Aside0 (gb131 ≠ gb141) := ⟨h10_⟩; have n11_ : Aside0 (gb141 ≠ gb131) := ⟨h11_⟩; have n12_ : Aside0 (Below w.heap.size w w36) := ⟨h12_⟩; clear BK129; clear BK130; clear BK131; clear HB; clear h0_ h1_ h2_ h3_ h4_ h5_ h6_ h7_ h8_ h9_ h10_ h11_ h12_; have BK129 := n0_; have BK130 := n1_; have BK131 := n2_; have BK141 := n3_; have GW141 := n4_; have GE141 := n5_; have NB129_141 := n6_; have NB141_129 := n7_; have NB130_141 := n8_; have NB141_130 := n9_; have NB131_141 := n10_; have NB141_131 := n11_; have HB := n12_; clear n0_ n1_ n2_ n3_ n4_ n5_ n6_ n7_ n8_ n9_ n10_ n11_ n12_; have hHeld : w36.cell? ⟨gb129, 0, none⟩ = some (.string a0_0) ∧ w36.cell? ⟨gb129, 1, none⟩ = some (.string a0_1) ∧ w36.cell? ⟨gb130, 0, none⟩ = some (.string a1_0) ∧ w36.cell? ⟨gb130, 1, none⟩ = some (.string a1_1) := hS_; refine norm_ (a' := ?_) ?_ ?_; rotate_left
       ·simp only [putAll, Act.put, List.setIfInBounds_toArray, List.set_cons_zero, List.set_cons_succ]
        rfl
       refine on_ 16 (some 33) rfl rfl HT_ (fun K hK => ?_); refine gs_ Tryz.func35 #[.string t136, .string t137] ?_; refine mo_ (r3_Make.calls kj2 t136 t137 t138 t139 t140 _ A29.out) ?_; intro w37 hb; replace BK129 := kb_ BK129 hb; replace BK130 := kb_ BK130 hb; replace BK131 := kb_ BK131 hb; replace BK141 := kb_ BK141 hb; replace HB := bs_ HB hb; (try clear hb); refine hk_ hK (fun hHeld => ?_); clear hK K; refine nm_ ?_; refine pu_ 17 16 rfl rfl HT_ ?_; refine pu_ 18 34 rfl rfl HT_ ?_; refine pu_ 19 35 rfl rfl HT_ ?_; exact norm_ pa_ (hJ4_9_10_15_16_20 (gb141) _ ⟨hHeld, (k_ BK129.out), (k_ BK130.out), (k_ BK131.out), (k_ BK141.out), GW141.out, GE141.out, NB129_141.out, NB141_129.out, NB130_141.out, NB141_130.out, NB131_141.out, NB141_131.out, (b_ HB.out)⟩)
     ·skip; rintro _ w36 ⟨hS_, h0_, h1_, h2_, h3_⟩; have n0_ : Aside0 (w36.heap[gb129]? = some (.cells #[.string a0_0, .string a0_1] 23 (0, 0))) := ⟨h0_⟩; have n1_ : Aside0 (w36.heap[gb130]? = some (.cells #[.string a1_0, .string a1_1] 23 (0, 0))) := ⟨h1_⟩; have n2_ : Aside0 (w36.heap[gb131]? = some (.cells #[.string (⟨#[]⟩ : ByteArray), .string (⟨#[]⟩ : ByteArray)] 23 (0, 0))) := ⟨h2_⟩; have n3_ : Aside0 (Below w.heap.size w w36) := ⟨h3_⟩; clear BK129; clear BK130; clear BK131; clear HB; clear h0_ h1_ h2_ h3_; have BK129 := n0_; have BK130 := n1_; have BK131 := n2_; have HB := n3_; clear n0_ n1_ n2_ n3_; have hHeld : w36.cell? ⟨gb129, 0, none⟩ = some (.string a0_0) ∧ w36.cell? ⟨gb129, 1, none⟩ = some (.string a0_1) ∧ w36.cell? ⟨gb130, 0, none⟩ = some (.string a1_0) ∧ w36.cell? ⟨gb130, 1, none⟩ = some (.string a1_1) := hS_; refine norm_ (a' := ?_) ?_ ?_; rotate_left
      ·simp only [putAll, Act.put, List.setIfInBounds_toArray, List.set_cons_zero, List.set_cons_succ]
       rfl
      refine on_ 20 (some 5) rfl rfl HT_ (fun K hK => ?_); refine box_step ?hg (N := 5) ?hd (cs := #[.string (⟨#[]⟩ : ByteArray), .string (⟨#[]⟩ : ByteArray)]) (t := 23) ?hr ?_; (case hd => rfl); (case hg => rfl); (case hr => first | (go_simp; done) | (go_simp; rfl)); intro gb141 hg w37 hbox hb; have BK141 := Aside0.mk (hbox); have GW141 := ge_ HB hg; have GE141 := ge_ HB hg; have NB129_141 := nl_ BK129 hg; have NB141_129 := ng_ BK129 hg; have NB130_141 := nl_ BK130 hg; have NB141_130 := ng_ BK130 hg; have NB131_141 := nl_ BK131 hg; have NB141_131 := ng_ BK131 hg; replace BK129 := kb_ BK129 hb; replace BK130 := kb_ BK130 hb; replace BK131 := kb_ BK131 hb; replace HB := bs_ HB hb; clear hb hbox hg; refine hk_ hK (fun hHeld => ?_); clear hK K; refine nm_ ?_; exact norm_ pa_ (hJ4_9_10_15_16_20 (gb141) _ ⟨hHeld, (k_ BK129.out), (k_ BK130.out), (k_ BK131.out), (k_ BK141.out), GW141.out, GE141.out, NB129_141.out, NB141_129.out, NB130_141.out, NB141_130.out, NB131_141.out, NB141_131.out, (b_ HB.out)⟩)
    rintro gb141 w37 ⟨hS_, h0_, h1_, h2_, h3_, h4_, h5_, h6_, h7_, h8_, h9_, h10_, h11_, h12_⟩; have n0_ : Aside0 (w37.heap[gb129]? = some (.cells #[.string a0_0, .string a0_1] 23 (0, 0))) := ⟨h0_⟩; have n1_ : Aside0 (w37.heap[gb130]? = some (.cells #[.string a1_0, .string a1_1] 23 (0, 0))) := ⟨h1_⟩; have n2_ : Aside0 (w37.heap[gb131]? = some (.cells #[.string (⟨#[]⟩ : ByteArray), .string (⟨#[]⟩ : ByteArray)] 23 (0, 0))) := ⟨h2_⟩; have n3_ : Aside0 (w37.heap[gb141]? = some (.cells #[.string (⟨#[]⟩ : ByteArray), .string (⟨#[]⟩ : ByteArray)] 23 (0, 0))) := ⟨h3_⟩; have n4_ : Aside0 (w.heap.size ≤ gb141) := ⟨h4_⟩; have n5_ : Aside0 (w.heap.size ≤ gb141) := ⟨h5_⟩; have n6_ : Aside0 (gb129 ≠ gb141) := ⟨h6_⟩; have n7_ : Aside0 (gb141 ≠ gb129) := ⟨h7_⟩; have n8_ : Aside0 (gb130 ≠ gb141) := ⟨h8_⟩; have n9_ : Aside0 (gb141 ≠ gb130) := ⟨h9_⟩; have n10_ : Aside0 (gb131 ≠ gb141) := ⟨h10_⟩; have n11_ : Aside0 (gb141 ≠ gb131) := ⟨h11_⟩; have n12_ : Aside0 (Below w.heap.size w w37) := ⟨h12_⟩; clear BK129; clear BK130; clear BK131; clear HB; clear h0_ h1_ h2_ h3_ h4_ h5_ h6_ h7_ h8_ h9_ h10_ h11_ h12_; have BK129 := n0_; have BK130 := n1_; have BK131 := n2_; have BK141 := n3_; have GW141 := n4_; have GE141 := n5_; have NB129_141 := n6_; have NB141_129 := n7_; have NB130_141 := n8_; have NB141_130 := n9_; have NB131_141 := n10_; have NB141_131 := n11_; have HB := n12_; clear n0_ n1_ n2_ n3_ n4_ n5_ n6_ n7_ n8_ n9_ n10_ n11_ n12_; have hHeld : w37.cell? ⟨gb129, 0, none⟩ = some (.string a0_0) ∧ w37.cell? ⟨gb129, 1, none⟩ = some (.string a0_1) ∧ w37.cell? ⟨gb130, 0, none⟩ = some (.string a1_0) ∧ w37.cell? ⟨gb130, 1, none⟩ = some (.string a1_1) := hS_; refine norm_ (a' := ?_) ?_ ?_; rotate_left
    ·simp only [putAll, Act.put, List.setIfInBounds_toArray, List.set_cons_zero, List.set_cons_succ]
     rfl
    refine on_ 21 none rfl rfl HT_ (fun K hK => ?_); have hs38 := bc_ BK141 0 rfl; have hfs38 := blk_frozen BK141.out 0; have hns38_0 := NB129_141.out; have hns38_1 := NB130_141.out; have hns38_2 := NB131_141.out; have hms38_0 := NB141_129.out; have hms38_1 := NB141_130.out; have hms38_2 := NB141_131.out; have hs39 := bc_ BK141 1 rfl; have hfs39 := blk_frozen BK141.out 1; have hns39_0 := NB129_141.out; have hns39_1 := NB130_141.out; have hns39_2 := NB131_141.out; have hms39_0 := NB141_129.out; have hms39_1 := NB141_130.out; have hms39_2 := NB141_131.out; refine skip_ (w1 := ?_) (by rfl) rfl ?_ ?_; rotate_left
    ·go_simp
     rfl
    refine hf_ hK hHeld (fun hHeld => ?_); clear hK K; refine pu_ 22 6 rfl rfl HT_ ?_; refine done_ (done_of HT_.out (by kernel_rfl)) ?_; have hnb40 := NB141_129.out; have hnc40 := NB129_141.out; have hnb41 := NB141_130.out; have hnc41 := NB130_141.out; have hnb42 := NB141_131.out; have hnc42 := NB131_141.out; have hcz43_0 := bc_ BK141 0 rfl; have hcz43_1 := bc_ BK141 1 rfl; have hfz43_0 := blk_frozen BK141.out 0; have hfz43_1 := blk_frozen BK141.out 1; have hnb44 := NB131_129.out; have hnc44 := NB129_131.out; have hnb45 := NB131_130.out; have hnc45 := NB130_131.out; have hcz46_0 := bc_ BK131 0 rfl; have hcz46_1 := bc_ BK131 1 rfl; have hfz46_0 := blk_frozen BK131.out 0; have hfz46_1 := blk_frozen BK131.out 1
    try go_wp2
    refine bodyPost_ret (results_cell_row rfl _ _ gb131 23 #[.string t138, .string t139] (0, 0) _ rfl (by refine k_ ?_; refine blk_put (cs := #[.string t138, .string (⟨#[]⟩ : ByteArray)]) ?_ 1 _ rfl; refine k_ ?_; refine blk_put (cs := #[.string (⟨#[]⟩ : ByteArray), .string (⟨#[]⟩ : ByteArray)]) ?_ 0 _ rfl; refine k_ ?_; refine blk_far ?_ NB131_141.out _; refine k_ ?_; refine blk_far ?_ NB131_141.out _; refine k_ ?_; exact BK131.out) Tryz.underlying23 rfl (by kernel_rfl)) rfl ?_; exact ⟨er_, b_ HB.out⟩
end Go.Proofs.YtaldgaiaelbbaaaGreatDoor.Pz
end

section
namespace Go.Proofs.YtaldgaiaelbbaaaGreatDoor.Pz
def r3_Mul.j0 : Nat → Bool → ByteArray → ByteArray → ByteArray → ByteArray → Option (ByteArray × ByteArray)
 | 0, _, _, _, _, _ => none
 | k + 1, x14, x143000, x143001, x144000, x144001 => if x14 = true then (some ((⟨#[]⟩ : ByteArray), (⟨#[]⟩ : ByteArray))) else ((r2_Mul.f x143000 x144000).bind fun t147 => ((r1_Mul.f x143001 x144001).bind fun t148 => ((r3_Make.f k t147 t148).bind fun bt149 => (some (bt149.1, bt149.2.1)))))
def r3_Mul.f (k : Nat) (a0_0 : ByteArray) (a0_1 : ByteArray) (a1_0 : ByteArray) (a1_1 : ByteArray) : Option (ByteArray × ByteArray) := (r3_May.f a0_0 a0_1).bind fun t145 => (if t145 = true then ((r3_May.f a1_0 a1_1).bind fun t146 => (r3_Mul.j0 k (!t146) a0_0 a0_1 a1_0 a1_1)) else (r3_Mul.j0 k true a0_0 a0_1 a1_0 a1_1))
def r3_Mul.T3 : Bool × List (List Nat × List Nat) := (true, [([], []), ([0], [0]), ([], []), ([2], [2]), ([1, 3], [1, 3]), ([], []), ([5], [5]), ([], []), ([7], [7]), ([6, 8, 4], [6, 8]), ([4, 9, 9], [4, 9]), ([10], [10]), ([11], [11]), ([11], [11]), ([], []), ([14, 12, 10, 0, 1, 2, 3, 4, 5, 6, 7, 8, 9, 10, 11, 12, 14], [12, 14]), ([13, 15, 0, 1, 2, 3, 4, 5, 6, 7, 8, 9, 10, 11, 12, 13, 14, 15], [13])])
def r3_Mul.B3 : List Nat := [0, 1, 0, 4, 15, 0, 32, 0, 128, 511, 1023, 2047, 4095, 4095, 0, 24575, 65535]
theorem r3_Mul.tab3 : rtab .any (opsOf Tryz.f17 3) = r3_Mul.T3 := by kernel_rfl
theorem r3_Mul.bits3 : waitsOk r3_Mul.T3.2 r3_Mul.B3 = true := by kernel_rfl
set_option maxHeartbeats 8000000 in
set_option maxRecDepth 100000 in
theorem r3_Mul.calls (k : Nat) (a0_0 : ByteArray) (a0_1 : ByteArray) (a1_0 : ByteArray) (a1_1 : ByteArray) (r1 : ByteArray) (r2 : ByteArray) (w : World) (h : r3_Mul.f k a0_0 a0_1 a1_0 a1_1 = some (r1, r2)) :
  Calls Tryz.prog 17 #[.agg #[.string a0_0, .string a0_1], .agg #[.string a1_0, .string a1_1]] w fun e w' => e = .returned (.agg #[.string r1, .string r2]) ∧ Below w.heap.size w w' := by
 have hu23 := Tryz.underlying23; have HB := Aside0.mk (Below.refl w.heap.size w); have H := h; unfold r3_Mul.f at H; clear h; have HC3 := Aside0.mk H; clear H; go_enter Tryz.func17, Tryz.ntmps17
 go_upto_region 1 with (first | ((with_reducible refine gate_dst (N := 2) rfl ?_); refine be_ 2 #[.string a0_0, .string a0_1] 23 ?_; intro gb142 hg w4 hbox hb; have BK142 := Aside0.mk (hbox); have GW142 := ge_ HB hg; have GE142 := ge_ HB hg; replace HB := bs_ HB hb; clear hb hbox hg) | ((with_reducible refine gate_dst (N := 3) rfl ?_); refine be_ 3 #[.string a1_0, .string a1_1] 23 ?_; intro gb143 hg w5 hbox hb; have BK143 := Aside0.mk (hbox); have GW143 := ge_ HB hg; have GE143 := ge_ HB hg; have NB142_143 := nl_ BK142 hg; have NB143_142 := ng_ BK142 hg; replace BK142 := kb_ BK142 hb; replace HB := bs_ HB hb; clear hb hbox hg) | ((with_reducible refine gate_dst (N := 4) rfl ?_); refine be_ 4 #[.string (⟨#[]⟩ : ByteArray), .string (⟨#[]⟩ : ByteArray)] 23 ?_; intro gb144 hg w6 hbox hb; have BK144 := Aside0.mk (hbox); have GW144 := ge_ HB hg; have GE144 := ge_ HB hg; have NB142_144 := nl_ BK142 hg; have NB144_142 := ng_ BK142 hg; have NB143_144 := nl_ BK143 hg; have NB144_143 := ng_ BK143 hg; replace BK142 := kb_ BK142 hb; replace BK143 := kb_ BK143 hb; replace HB := bs_ HB hb; clear hb hbox hg))
 (try simp only [Act.put, List.setIfInBounds_toArray, List.set_cons_zero, List.set_cons_succ])
 go_cut [14] (fun v14 wc => ∃ (kq : Nat) (x14_2 : Bool), v14 = .bool x14_2 ∧ Aside0 (r3_Mul.j0 kq x14_2 a0_0 a0_1 a1_0 a1_1 = some (r1, r2)) ∧ Aside0 (kq ≤ k) ∧ Aside0 (wc.heap[gb142]? = some (.cells #[.string a0_0, .string a0_1] 23 (0, 0))) ∧ Aside0 (wc.heap[gb143]? = some (.cells #[.string a1_0, .string a1_1] 23 (0, 0))) ∧ Aside0 (wc.heap[gb144]? = some (.cells #[.string (⟨#[]⟩ : ByteArray), .string (⟨#[]⟩ : ByteArray)] 23 (0, 0))) ∧ Aside0 (Below w.heap.size w wc))
 case first =>
  have H := HC3.out; clear HC3; obtain ⟨t145, A7, H⟩ := bi_ H; by_cases c8 : t145 = true
  ·subst c8; rw [if_pos rfl] at H; obtain ⟨t146, A9, H⟩ := bi_ H; have H' := Aside0.mk H; clear H; have hnb10 := NB142_143.out; have hnc10 := NB143_142.out; have hnb11 := NB142_144.out; have hnc11 := NB144_142.out; have hcz12_0 := bc_ BK142 0 rfl; have hcz12_1 := bc_ BK142 1 rfl; have hfz12_0 := blk_frozen BK142.out 0; have hfz12_1 := blk_frozen BK142.out 1
   go_wp2_with (first | (refine gl_ 8 Tryz.func38 #[.agg #[.string a0_0, .string a0_1]] ?_; refine mo_ (r3_May.calls a0_0 a0_1 true _ A7.out) ?_; intro w13 hb; replace BK142 := kb_ BK142 hb; replace BK143 := kb_ BK143 hb; replace BK144 := kb_ BK144 hb; replace HB := bs_ HB hb; (try clear hb); (try clear hb2); (try clear hk); (try clear hi); have hnb14 := NB143_144.out; have hnc14 := NB144_143.out; have hcz15_0 := bc_ BK143 0 rfl; have hcz15_1 := bc_ BK143 1 rfl; have hfz15_0 := blk_frozen BK143.out 0; have hfz15_1 := blk_frozen BK143.out 1) | (go_at_call 38; (with_reducible refine (r3_May.calls a1_0 a1_1 t146 _ A9.out).mono ?_); rintro e w16 ⟨rfl, hb⟩; replace BK142 := kb_ BK142 hb; replace BK143 := kb_ BK143 hb; replace BK144 := kb_ BK144 hb; replace HB := bs_ HB hb; (try clear hb); (try clear hb2); (try clear hk); (try clear hi)))
   go_meet
   case rel => exact ⟨_, (!t146), rl_, H', ⟨by first | omega | exact Nat.le_refl _⟩, ⟨k_ BK142.out⟩, ⟨k_ BK143.out⟩, ⟨k_ BK144.out⟩, ⟨b_ HB.out⟩⟩
  ·replace c8 := Bool.eq_false_iff.mpr c8; subst c8; rw [if_neg nf_] at H; have H' := Aside0.mk H; clear H; have hnb17 := NB142_143.out; have hnc17 := NB143_142.out; have hnb18 := NB142_144.out; have hnc18 := NB144_142.out; have hcz19_0 := bc_ BK142 0 rfl; have hcz19_1 := bc_ BK142 1 rfl; have hfz19_0 := blk_frozen BK142.out 0; have hfz19_1 := blk_frozen BK142.out 1
   go_wp2_with (first | (refine gl_ 8 Tryz.func38 #[.agg #[.string a0_0, .string a0_1]] ?_; refine mo_ (r3_May.calls a0_0 a0_1 false _ A7.out) ?_; intro w20 hb; replace BK142 := kb_ BK142 hb; replace BK143 := kb_ BK143 hb; replace BK144 := kb_ BK144 hb; replace HB := bs_ HB hb; (try clear hb); (try clear hb2); (try clear hk); (try clear hi)))
   go_meet
   case rel => exact ⟨_, (true), rl_, H', ⟨by first | omega | exact Nat.le_refl _⟩, ⟨k_ BK142.out⟩, ⟨k_ BK143.out⟩, ⟨k_ BK144.out⟩, ⟨b_ HB.out⟩⟩
 case rest =>
  clear HC3; (try clear c1); (try clear p2); (try clear c3); (try clear c8); (try clear c10); (try clear c11); (try clear c14); (try clear c17); (try clear c18); (try clear hcz12_0); (try clear hcz12_1); (try clear hcz15_0); (try clear hcz15_1); (try clear hcz19_0); (try clear hcz19_1); (try clear hfz12_0); (try clear hfz12_1); (try clear hfz15_0); (try clear hfz15_1); (try clear hfz19_0); (try clear hfz19_1); obtain ⟨kq, x14_2, rfl, HA, HJ2, BK142, BK143, BK144, HB⟩ := hcut
  cases kq with
  | zero => exact absurd HA.out (by simp [r3_Mul.j0])
  | succ kj2 =>
   have H := HA.out; clear HA; simp only [r3_Mul.j0] at H; by_cases c21 : x14_2 = true
   ·subst c21; rw [if_pos rfl] at H; simp only [Option.some.injEq, Prod.mk.injEq] at H; obtain ⟨rfl, rfl⟩ := H; have hnb22 := NB144_142.out; have hnc22 := NB142_144.out; have hnb23 := NB144_143.out; have hnc23 := NB143_144.out; have hcz24_0 := bc_ BK144 0 rfl; have hcz24_1 := bc_ BK144 1 rfl; have hfz24_0 := blk_frozen BK144.out 0; have hfz24_1 := blk_frozen BK144.out 1; go_wp2; refine bodyPost_ret (results_cell_row rfl _ _ gb144 23 #[.string (⟨#[]⟩ : ByteArray), .string (⟨#[]⟩ : ByteArray)] (0, 0) _ rfl (rp_ BK144.out) Tryz.underlying23 rfl (by kernel_rfl)) rfl ?_; exact ⟨er_, b_ HB.out⟩
   ·replace c21 := Bool.eq_false_iff.mpr c21; subst c21; rw [if_neg nf_] at H; obtain ⟨t147, A25, H⟩ := bi_ H; obtain ⟨t148, A26, H⟩ := bi_ H; obtain ⟨⟨t149, t150, t151⟩, A27, H⟩ := bi_ H; (try dsimp only at H); simp only [Option.some.injEq, Prod.mk.injEq] at H; obtain ⟨rfl, rfl⟩ := H
    try go_wp2
    replace BK142 := Aside0.mk (blk_drew BK142.out); replace BK143 := Aside0.mk (blk_drew BK143.out); replace BK144 := Aside0.mk (blk_drew BK144.out); replace HB := Aside0.mk (below_drew1 HB.out); refine sa_ 17 (fun w' => w'.cell? ⟨gb142, 0, none⟩ = some (.string a0_0) ∧ w'.cell? ⟨gb142, 1, none⟩ = some (.string a0_1) ∧ w'.cell? ⟨gb143, 0, none⟩ = some (.string a1_0) ∧ w'.cell? ⟨gb143, 1, none⟩ = some (.string a1_1)) (fun hHeld => ?_); refine with_tabW r3_Mul.tab3 r3_Mul.bits3 (fun HT_ HW_ => ?_); generalize wc.drew = w28 at BK142 BK143 BK144 HB hHeld ⊢; refine pu_ 0 17 rfl rfl HT_ ?_; refine pu_ 2 19 rfl rfl HT_ ?_; refine pu_ 5 22 rfl rfl HT_ ?_; refine pu_ 7 24 rfl rfl HT_ ?_; refine t4_ 1 18 rfl rfl HT_ HW_ hHeld ?_; refine t4_ 3 20 rfl rfl HT_ HW_ hHeld ?_; refine t4_ 6 23 rfl rfl HT_ HW_ hHeld ?_; refine t4_ 8 25 rfl rfl HT_ HW_ hHeld ?_; refine join_ (σ := Nat) 2 #[true, true, true, true, true, true, true, true, true, true, true, true, true, true, true, false, false] (fun s_ => [(21, .string t147), (26, .string t148), (27, .tuple #[.agg #[.string t149, .string t150], .bool t151]), (5, .pointer (some ⟨s_, 0, none⟩)), (16, .tuple #[.agg #[.string t149, .string t150], .bool t151]), (28, .agg #[.string t149, .string t150]), (29, .bool t151)]) (fun s_ w' => (w'.cell? ⟨gb142, 0, none⟩ = some (.string a0_0) ∧ w'.cell? ⟨gb142, 1, none⟩ = some (.string a0_1) ∧ w'.cell? ⟨gb143, 0, none⟩ = some (.string a1_0) ∧ w'.cell? ⟨gb143, 1, none⟩ = some (.string a1_1)) ∧ (w'.heap[gb142]? = some (.cells #[.string a0_0, .string a0_1] 23 (0, 0))) ∧ (w'.heap[gb143]? = some (.cells #[.string a1_0, .string a1_1] 23 (0, 0))) ∧ (w'.heap[gb144]? = some (.cells #[.string (⟨#[]⟩ : ByteArray), .string (⟨#[]⟩ : ByteArray)] 23 (0, 0))) ∧ (w'.heap[s_]? = some (.cells #[.string (⟨#[]⟩ : ByteArray), .string (⟨#[]⟩ : ByteArray)] 23 (0, 0))) ∧ (w.heap.size ≤ s_) ∧ (w.heap.size ≤ s_) ∧ (gb142 ≠ s_) ∧ (s_ ≠ gb142) ∧ (gb143 ≠ s_) ∧ (s_ ≠ gb143) ∧ (gb144 ≠ s_) ∧ (s_ ≠ gb144) ∧ (Below w.heap.size w w')) ?_ ?_; rotate_left
    ·intro hCont; refine two_ (i := 4) (j := 14) (Ni := some 21) (Nj := some 5) #[true, true, true, true, true, true, true, true, true, false, false, false, false, false, false, false, false] #[true, true, true, true, false, true, true, true, true, false, false, false, false, false, true, false, false] rfl rfl rfl rfl (two_of HT_.out (by kernel_rfl)) (by decide) (by decide) (fun K hK => ?_) (fun K hK => ?_)
     ·skip; refine gs_ Tryz.func47 #[.string a0_0, .string a1_0] ?_; refine mo_ (r2_Mul.calls a0_0 a1_0 t147 _ A25.out) ?_; intro w29 hb; replace BK142 := kb_ BK142 hb; replace BK143 := kb_ BK143 hb; replace BK144 := kb_ BK144 hb; replace HB := bs_ HB hb; (try clear hb); refine hk_ hK (fun hHeld => ?_); clear hK K; refine nm_ ?_; refine two_ (i := 9) (j := 14) (Ni := some 26) (Nj := some 5) #[true, true, true, true, true, true, true, true, true, true, false, false, false, false, false, false, false] #[true, true, true, true, true, true, true, true, true, false, false, false, false, false, true, false, false] rfl rfl rfl rfl (two_of HT_.out (by kernel_rfl)) (by decide) (by decide) (fun K hK => ?_) (fun K hK => ?_)
      ·skip; refine gs_ Tryz.func48 #[.string a0_1, .string a1_1] ?_; refine mo_ (r1_Mul.calls a0_1 a1_1 t148 _ A26.out) ?_; intro w30 hb; replace BK142 := kb_ BK142 hb; replace BK143 := kb_ BK143 hb; replace BK144 := kb_ BK144 hb; replace HB := bs_ HB hb; (try clear hb); refine hk_ hK (fun hHeld => ?_); clear hK K; refine nm_ ?_; refine two_ (i := 10) (j := 14) (Ni := some 27) (Nj := some 5) #[true, true, true, true, true, true, true, true, true, true, true, false, false, false, false, false, false] #[true, true, true, true, true, true, true, true, true, true, false, false, false, false, true, false, false] rfl rfl rfl rfl (two_of HT_.out (by kernel_rfl)) (by decide) (by decide) (fun K hK => ?_) (fun K hK => ?_)
       ·skip; refine gs_ Tryz.func35 #[.string t147, .string t148] ?_; refine mo_ (r3_Make.calls kj2 t147 t148 t149 t150 t151 _ A27.out) ?_; intro w31 hb; replace BK142 := kb_ BK142 hb; replace BK143 := kb_ BK143 hb; replace BK144 := kb_ BK144 hb; replace HB := bs_ HB hb; (try clear hb); refine hk_ hK (fun hHeld => ?_); clear hK K; refine nm_ ?_; refine pu_ 11 16 rfl rfl HT_ ?_; refine pu_ 12 28 rfl rfl HT_ ?_; refine pu_ 13 29 rfl rfl HT_ ?_; refine on_ 14 (some 5) rfl rfl HT_ (fun K hK => ?_); refine box_step ?hg (N := 5) ?hd (cs := #[.string (⟨#[]⟩ : ByteArray), .string (⟨#[]⟩ : ByteArray)]) (t := 23) ?hr ?_; (case hd => rfl); (case hg => rfl); (case hr => first | (go_simp; done) | (go_simp; rfl)); intro gb152 hg w32 hbox hb; have BK152 := Aside0.mk (hbox); have GW152 := ge_ HB hg; have GE152 := ge_ HB hg; have NB142_152 := nl_ BK142 hg; have NB152_142 := ng_ BK142 hg; have NB143_152 := nl_ BK143 hg; have NB152_143 := ng_ BK143 hg; have NB144_152 := nl_ BK144 hg; have NB152_144 := ng_ BK144 hg; replace BK142 := kb_ BK142 hb; replace BK143 := kb_ BK143 hb; replace BK144 := kb_ BK144 hb; replace HB := bs_ HB hb; clear hb hbox hg; refine hk_ hK (fun hHeld => ?_); clear hK K; refine nm_ ?_; exact norm_ pa_ (hCont (gb152) _ ⟨hHeld, (k_ BK142.out), (k_ BK143.out), (k_ BK144.out), (k_ BK152.out), GW152.out, GE152.out, NB142_152.out, NB152_142.out, NB143_152.out, NB152_143.out, NB144_152.out, NB152_144.out, (b_ HB.out)⟩)
       ·skip; refine box_step ?hg (N := 5) ?hd (cs := #[.string (⟨#[]⟩ : ByteArray), .string (⟨#[]⟩ : ByteArray)]) (t := 23) ?hr ?_; (case hd => rfl); (case hg => rfl); (case hr => first | (go_simp; done) | (go_simp; rfl)); intro gb152 hg w31 hbox hb; have BK152 := Aside0.mk (hbox); have GW152 := ge_ HB hg; have GE152 := ge_ HB hg; have NB142_152 := nl_ BK142 hg; have NB152_142 := ng_ BK142 hg; have NB143_152 := nl_ BK143 hg; have NB152_143 := ng_ BK143 hg; have NB144_152 := nl_ BK144 hg; have NB152_144 := ng_ BK144 hg; replace BK142 := kb_ BK142 hb; replace BK143 := kb_ BK143 hb; replace BK144 := kb_ BK144 hb; replace HB := bs_ HB hb; clear hb hbox hg; refine hk_ hK (fun hHeld => ?_); clear hK K; refine nm_ ?_; refine on_ 10 (some 27) rfl rfl HT_ (fun K hK => ?_); refine gs_ Tryz.func35 #[.string t147, .string t148] ?_; refine mo_ (r3_Make.calls kj2 t147 t148 t149 t150 t151 _ A27.out) ?_; intro w32 hb; replace BK142 := kb_ BK142 hb; replace BK143 := kb_ BK143 hb; replace BK144 := kb_ BK144 hb; replace BK152 := kb_ BK152 hb; replace HB := bs_ HB hb; (try clear hb); refine hk_ hK (fun hHeld => ?_); clear hK K; refine nm_ ?_; refine pu_ 11 16 rfl rfl HT_ ?_; refine pu_ 12 28 rfl rfl HT_ ?_; refine pu_ 13 29 rfl rfl HT_ ?_; exact norm_ pa_ (hCont (gb152) _ ⟨hHeld, (k_ BK142.out), (k_ BK143.out), (k_ BK144.out), (k_ BK152.out), GW152.out, GE152.out, NB142_152.out, NB152_142.out, NB143_152.out, NB152_143.out, NB144_152.out, NB152_144.out, (b_ HB.out)⟩)
      ·skip; refine box_step ?hg (N := 5) ?hd (cs := #[.string (⟨#[]⟩ : ByteArray), .string (⟨#[]⟩ : ByteArray)]) (t := 23) ?hr ?_; (case hd => rfl); (case hg => rfl); (case hr => first | (go_simp; done) | (go_simp; rfl)); intro gb152 hg w30 hbox hb; have BK152 := Aside0.mk (hbox); have GW152 := ge_ HB hg; have GE152 := ge_ HB hg; have NB142_152 := nl_ BK142 hg; have NB152_142 := ng_ BK142 hg; have NB143_152 := nl_ BK143 hg; have NB152_143 := ng_ BK143 hg; have NB144_152 := nl_ BK144 hg; have NB152_144 := ng_ BK144 hg; replace BK142 := kb_ BK142 hb; replace BK143 := kb_ BK143 hb; replace BK144 := kb_ BK144 hb; replace HB := bs_ HB hb; clear hb hbox hg; refine hk_ hK (fun hHeld => ?_); clear hK K; refine nm_ ?_; refine on_ 9 (some 26) rfl rfl HT_ (fun K hK => ?_); refine gs_ Tryz.func48 #[.string a0_1, .string a1_1] ?_; refine mo_ (r1_Mul.calls a0_1 a1_1 t148 _ A26.out) ?_; intro w31 hb; replace BK142 := kb_ BK142 hb; replace BK143 := kb_ BK143 hb; replace BK144 := kb_ BK144 hb; replace BK152 := kb_ BK152 hb; replace HB := bs_ HB hb; (try clear hb); refine hk_ hK (fun hHeld => ?_); clear hK K; refine nm_ ?_; refine on_ 10 (some 27) rfl rfl HT_ (fun K hK => ?_); refine gs_ Tryz.func35 #[.string t147, .string t148] ?_; refine mo_ (r3_Make.calls kj2 t147 t148 t149 t150 t151 _ A27.out) ?_; intro w32 hb; replace BK142 := kb_ BK142 hb; replace BK143 := kb_ BK143 hb; replace BK144 := kb_ BK144 hb; replace BK152 := kb_ BK152 hb; replace HB := bs_ HB hb; (try clear hb); refine hk_ hK (fun hHeld => ?_); clear hK K; refine nm_ ?_; refine pu_ 11 16 rfl rfl HT_ ?_; refine pu_ 12 28 rfl rfl HT_ ?_; refine pu_ 13 29 rfl rfl HT_ ?_; exact norm_ pa_ (hCont (gb152) _ ⟨hHeld, (k_ BK142.out), (k_ BK143.out), (k_ BK144.out), (k_ BK152.out), GW152.out, GE152.out, NB142_152.out, NB152_142.out, NB143_152.out, NB152_143.out, NB144_152.out, NB152_144.out, (b_ HB.out)⟩)
     ·skip; refine box_step ?hg (N := 5) ?hd (cs := #[.string (⟨#[]⟩ : ByteArray), .string (⟨#[]⟩ : ByteArray)]) (t := 23) ?hr ?_; (case hd => rfl); (case hg => rfl); (case hr => first | (go_simp; done) | (go_simp; rfl)); intro gb152 hg w29 hbox hb; have BK152 := Aside0.mk (hbox); have GW152 := ge_ HB hg; have GE152 := ge_ HB hg; have NB142_152 := nl_ BK142 hg; have NB152_142 := ng_ BK142 hg; have NB143_152 := nl_ BK143 hg; have NB152_143 := ng_ BK143 hg; have NB144_152 := nl_ BK144 hg; have NB152_144 := ng_ BK144 hg; replace BK142 := kb_ BK142 hb; replace BK143 := kb_ BK143 hb; replace BK144 := kb_ BK144 hb; replace HB := bs_ HB hb; clear hb hbox hg; refine hk_ hK (fun hHeld => ?_); clear hK K; refine nm_ ?_; refine on_ 4 (some 21) rfl rfl HT_ (fun K hK => ?_); refine gs_ Tryz.func47 #[.string a0_0, .string a1_0] ?_; refine mo_ (r2_Mul.calls a0_0 a1_0 t147 _ A25.out) ?_; intro w30 hb; replace BK142 := kb_ BK142 hb; replace BK143 := kb_ BK143 hb; replace BK144 := kb_ BK144 hb; replace BK152 := kb_ BK152 hb; replace HB := bs_ HB hb; (try clear hb); refine hk_ hK (fun hHeld => ?_); clear hK K; refine nm_ ?_; refine on_ 9 (some 26) rfl rfl HT_ (fun K hK => ?_); refine gs_ Tryz.func48 #[.string a0_1, .string a1_1] ?_; refine mo_ (r1_Mul.calls a0_1 a1_1 t148 _ A26.out) ?_; intro w31 hb; replace BK142 := kb_ BK142 hb; replace BK143 := kb_ BK143 hb; replace BK144 := kb_ BK144 hb; replace BK152 := kb_ BK152 hb; replace HB := bs_ HB hb; (try clear hb); refine hk_ hK (fun hHeld => ?_); clear hK K; refine nm_ ?_; refine on_ 10 (some 27) rfl rfl HT_ (fun K hK => ?_); refine gs_ Tryz.func35 #[.string t147, .string t148] ?_; refine mo_ (r3_Make.calls kj2 t147 t148 t149 t150 t151 _ A27.out) ?_; intro w32 hb; replace BK142 := kb_ BK142 hb; replace BK143 := kb_ BK143 hb; replace BK144 := kb_ BK144 hb; replace BK152 := kb_ BK152 hb; replace HB := bs_ HB hb; (try clear hb); refine hk_ hK (fun hHeld => ?_); clear hK K; refine nm_ ?_; refine pu_ 11 16 rfl rfl HT_ ?_; refine pu_ 12 28 rfl rfl HT_ ?_; refine pu_ 13 29 rfl rfl HT_ ?_; exact norm_ pa_ (hCont (gb152) _ ⟨hHeld, (k_ BK142.out), (k_ BK143.out), (k_ BK144.out), (k_ BK152.out), GW152.out, GE152.out, NB142_152.out, NB152_142.out, NB143_152.out, NB152_143.out, NB144_152.out, NB152_144.out, (b_ HB.out)⟩)
    rintro gb152 w33 ⟨hS_, h0_, h1_, h2_, h3_, h4_, h5_, h6_, h7_, h8_, h9_, h10_, h11_, h12_⟩; have n0_ : Aside0 (w33.heap[gb142]? = some (.cells #[.string a0_0, .string a0_1] 23 (0, 0))) := ⟨h0_⟩; have n1_ : Aside0 (w33.heap[gb143]? = some (.cells #[.string a1_0, .string a1_1] 23 (0, 0))) := ⟨h1_⟩; have n2_ : Aside0 (w33.heap[gb144]? = some (.cells #[.string (⟨#[]⟩ : ByteArray), .string (⟨#[]⟩ : ByteArray)] 23 (0, 0))) := ⟨h2_⟩; have n3_ : Aside0 (w33.heap[gb152]? = some (.cells #[.string (⟨#[]⟩ : ByteArray), .string (⟨#[]⟩ : ByteArray)] 23 (0, 0))) := ⟨h3_⟩; have n4_ : Aside0 (w.heap.size ≤ gb152) := ⟨h4_⟩; have n5_ : Aside0 (w.heap.size ≤ gb152) := ⟨h5_⟩; have n6_ : Aside0 (gb142 ≠ gb152) := ⟨h6_⟩; have n7_ : Aside0 (gb152 ≠ gb142) := ⟨h7_⟩; have n8_ : Aside0 (gb143 ≠ gb152) := ⟨h8_⟩; have n9_ : Aside0 (gb152 ≠ gb143) := ⟨h9_⟩; have n10_ : Aside0 (gb144 ≠ gb152) := ⟨h10_⟩; have n11_ : Aside0 (gb152 ≠ gb144) := ⟨h11_⟩; have n12_ : Aside0 (Below w.heap.size w w33) := ⟨h12_⟩; clear BK142; clear BK143; clear BK144; clear HB; clear h0_ h1_ h2_ h3_ h4_ h5_ h6_ h7_ h8_ h9_ h10_ h11_ h12_; have BK142 := n0_; have BK143 := n1_; have BK144 := n2_; have BK152 := n3_; have GW152 := n4_; have GE152 := n5_; have NB142_152 := n6_; have NB152_142 := n7_; have NB143_152 := n8_; have NB152_143 := n9_; have NB144_152 := n10_; have NB152_144 := n11_; have HB := n12_; clear n0_ n1_ n2_ n3_ n4_ n5_ n6_ n7_ n8_ n9_ n10_ n11_ n12_; have hHeld : w33.cell? ⟨gb142, 0, none⟩ = some (.string a0_0) ∧ w33.cell? ⟨gb142, 1, none⟩ = some (.string a0_1) ∧ w33.cell? ⟨gb143, 0, none⟩ = some (.string a1_0) ∧ w33.cell? ⟨gb143, 1, none⟩ = some (.string a1_1) := hS_; refine norm_ (a' := ?_) ?_ ?_; rotate_left
    ·simp only [putAll, Act.put, List.setIfInBounds_toArray, List.set_cons_zero, List.set_cons_succ]
     rfl
    refine on_ 15 none rfl rfl HT_ (fun K hK => ?_); have hs34 := bc_ BK152 0 rfl; have hfs34 := blk_frozen BK152.out 0; have hns34_0 := NB142_152.out; have hns34_1 := NB143_152.out; have hns34_2 := NB144_152.out; have hms34_0 := NB152_142.out; have hms34_1 := NB152_143.out; have hms34_2 := NB152_144.out; have hs35 := bc_ BK152 1 rfl; have hfs35 := blk_frozen BK152.out 1; have hns35_0 := NB142_152.out; have hns35_1 := NB143_152.out; have hns35_2 := NB144_152.out; have hms35_0 := NB152_142.out; have hms35_1 := NB152_143.out; have hms35_2 := NB152_144.out; refine skip_ (w1 := ?_) (by rfl) rfl ?_ ?_; rotate_left
    ·go_simp
     rfl
    refine hf_ hK hHeld (fun hHeld => ?_); clear hK K; refine pu_ 16 6 rfl rfl HT_ ?_; refine done_ (done_of HT_.out (by kernel_rfl)) ?_; have hnb36 := NB152_142.out; have hnc36 := NB142_152.out; have hnb37 := NB152_143.out; have hnc37 := NB143_152.out; have hnb38 := NB152_144.out; have hnc38 := NB144_152.out; have hcz39_0 := bc_ BK152 0 rfl; have hcz39_1 := bc_ BK152 1 rfl; have hfz39_0 := blk_frozen BK152.out 0; have hfz39_1 := blk_frozen BK152.out 1; have hnb40 := NB144_142.out; have hnc40 := NB142_144.out; have hnb41 := NB144_143.out; have hnc41 := NB143_144.out; have hcz42_0 := bc_ BK144 0 rfl; have hcz42_1 := bc_ BK144 1 rfl; have hfz42_0 := blk_frozen BK144.out 0; have hfz42_1 := blk_frozen BK144.out 1
    try go_wp2
    refine bodyPost_ret (results_cell_row rfl _ _ gb144 23 #[.string t149, .string t150] (0, 0) _ rfl (by refine k_ ?_; refine blk_put (cs := #[.string t149, .string (⟨#[]⟩ : ByteArray)]) ?_ 1 _ rfl; refine k_ ?_; refine blk_put (cs := #[.string (⟨#[]⟩ : ByteArray), .string (⟨#[]⟩ : ByteArray)]) ?_ 0 _ rfl; refine k_ ?_; refine blk_far ?_ NB144_152.out _; refine k_ ?_; refine blk_far ?_ NB144_152.out _; refine k_ ?_; exact BK144.out) Tryz.underlying23 rfl (by kernel_rfl)) rfl ?_; exact ⟨er_, b_ HB.out⟩
end Go.Proofs.YtaldgaiaelbbaaaGreatDoor.Pz
end

section
namespace Go.Proofs.YtaldgaiaelbbaaaGreatDoor.Pz
def r3_Div.j0 : Nat → Bool → ByteArray → ByteArray → ByteArray → ByteArray → Option (ByteArray × ByteArray × Bool)
 | 0, _, _, _, _, _ => none
 | k + 1, x13, x154000, x154001, x155000, x155001 => if x13 = true then (some ((⟨#[]⟩ : ByteArray), (⟨#[]⟩ : ByteArray), false)) else ((r2_Mul.f x154000 x155001).bind fun t158 => ((r2_Mul.f x154001 x155000).bind fun t159 => ((r3_Make.f k t158 t159).bind fun bt160 => (some (bt160.1, bt160.2.1, bt160.2.2)))))
def r3_Div.f (k : Nat) (a0_0 : ByteArray) (a0_1 : ByteArray) (a1_0 : ByteArray) (a1_1 : ByteArray) : Option (ByteArray × ByteArray × Bool) := (r3_May.f a0_0 a0_1).bind fun t156 => (if t156 = true then ((r3_May.f a1_0 a1_1).bind fun t157 => (r3_Div.j0 k (!t157) a0_0 a0_1 a1_0 a1_1)) else (r3_Div.j0 k true a0_0 a0_1 a1_0 a1_1))
def r3_Div.T3 : Bool × List (List Nat × List Nat) := (true, [([], []), ([0], [0]), ([], []), ([2], [2]), ([1, 3], [1, 3]), ([], []), ([5], [5]), ([], []), ([7], [7]), ([6, 8, 4], [6, 8]), ([4, 9, 9], [4, 9]), ([10], [10]), ([10], [10]), ([11, 10, 0, 1, 2, 3, 4, 5, 6, 7, 8, 9, 10, 11, 12], [11]), ([12, 13, 0, 1, 2, 3, 4, 5, 6, 7, 8, 9, 10, 11, 12, 13], [12])])
def r3_Div.B3 : List Nat := [0, 1, 0, 4, 15, 0, 32, 0, 128, 511, 1023, 2047, 2047, 8191, 16383]
theorem r3_Div.tab3 : rtab .any (opsOf Tryz.f19 3) = r3_Div.T3 := by kernel_rfl
theorem r3_Div.bits3 : waitsOk r3_Div.T3.2 r3_Div.B3 = true := by kernel_rfl
set_option maxHeartbeats 8000000 in
set_option maxRecDepth 100000 in
theorem r3_Div.calls (k : Nat) (a0_0 : ByteArray) (a0_1 : ByteArray) (a1_0 : ByteArray) (a1_1 : ByteArray) (r1 : ByteArray) (r2 : ByteArray) (r3 : Bool) (w : World) (h : r3_Div.f k a0_0 a0_1 a1_0 a1_1 = some (r1, r2, r3)) :
  Calls Tryz.prog 19 #[.agg #[.string a0_0, .string a0_1], .agg #[.string a1_0, .string a1_1]] w fun e w' => e = .returned (.tuple #[.agg #[.string r1, .string r2], .bool r3]) ∧ Below w.heap.size w w' := by
 have hu23 := Tryz.underlying23; have HB := Aside0.mk (Below.refl w.heap.size w); have H := h; unfold r3_Div.f at H; clear h; have HC3 := Aside0.mk H; clear H; go_enter Tryz.func19, Tryz.ntmps19
 go_upto_region 1 with (first | ((with_reducible refine gate_dst (N := 2) rfl ?_); refine be_ 2 #[.string a0_0, .string a0_1] 23 ?_; intro gb153 hg w4 hbox hb; have BK153 := Aside0.mk (hbox); have GW153 := ge_ HB hg; have GE153 := ge_ HB hg; replace HB := bs_ HB hb; clear hb hbox hg) | ((with_reducible refine gate_dst (N := 3) rfl ?_); refine be_ 3 #[.string a1_0, .string a1_1] 23 ?_; intro gb154 hg w5 hbox hb; have BK154 := Aside0.mk (hbox); have GW154 := ge_ HB hg; have GE154 := ge_ HB hg; have NB153_154 := nl_ BK153 hg; have NB154_153 := ng_ BK153 hg; replace BK153 := kb_ BK153 hb; replace HB := bs_ HB hb; clear hb hbox hg) | ((with_reducible refine gate_dst (N := 4) rfl ?_); refine be_ 4 #[.string (⟨#[]⟩ : ByteArray), .string (⟨#[]⟩ : ByteArray)] 23 ?_; intro gb155 hg w6 hbox hb; have BK155 := Aside0.mk (hbox); have GW155 := ge_ HB hg; have GE155 := ge_ HB hg; have NB153_155 := nl_ BK153 hg; have NB155_153 := ng_ BK153 hg; have NB154_155 := nl_ BK154 hg; have NB155_154 := ng_ BK154 hg; replace BK153 := kb_ BK153 hb; replace BK154 := kb_ BK154 hb; replace HB := bs_ HB hb; clear hb hbox hg))
 (try simp only [Act.put, List.setIfInBounds_toArray, List.set_cons_zero, List.set_cons_succ])
 go_cut [13] (fun v13 wc => ∃ (kq : Nat) (x13_2 : Bool), v13 = .bool x13_2 ∧ Aside0 (r3_Div.j0 kq x13_2 a0_0 a0_1 a1_0 a1_1 = some (r1, r2, r3)) ∧ Aside0 (kq ≤ k) ∧ Aside0 (wc.heap[gb153]? = some (.cells #[.string a0_0, .string a0_1] 23 (0, 0))) ∧ Aside0 (wc.heap[gb154]? = some (.cells #[.string a1_0, .string a1_1] 23 (0, 0))) ∧ Aside0 (wc.heap[gb155]? = some (.cells #[.string (⟨#[]⟩ : ByteArray), .string (⟨#[]⟩ : ByteArray)] 23 (0, 0))) ∧ Aside0 (Below w.heap.size w wc))
 case first =>
  have H := HC3.out; clear HC3; obtain ⟨t156, A7, H⟩ := bi_ H; by_cases c8 : t156 = true
  ·subst c8; rw [if_pos rfl] at H; obtain ⟨t157, A9, H⟩ := bi_ H; have H' := Aside0.mk H; clear H; have hnb10 := NB153_154.out; have hnc10 := NB154_153.out; have hnb11 := NB153_155.out; have hnc11 := NB155_153.out; have hcz12_0 := bc_ BK153 0 rfl; have hcz12_1 := bc_ BK153 1 rfl; have hfz12_0 := blk_frozen BK153.out 0; have hfz12_1 := blk_frozen BK153.out 1
   go_wp2_with (first | (refine gl_ 7 Tryz.func38 #[.agg #[.string a0_0, .string a0_1]] ?_; refine mo_ (r3_May.calls a0_0 a0_1 true _ A7.out) ?_; intro w13 hb; replace BK153 := kb_ BK153 hb; replace BK154 := kb_ BK154 hb; replace BK155 := kb_ BK155 hb; replace HB := bs_ HB hb; (try clear hb); (try clear hb2); (try clear hk); (try clear hi); have hnb14 := NB154_155.out; have hnc14 := NB155_154.out; have hcz15_0 := bc_ BK154 0 rfl; have hcz15_1 := bc_ BK154 1 rfl; have hfz15_0 := blk_frozen BK154.out 0; have hfz15_1 := blk_frozen BK154.out 1) | (go_at_call 38; (with_reducible refine (r3_May.calls a1_0 a1_1 t157 _ A9.out).mono ?_); rintro e w16 ⟨rfl, hb⟩; replace BK153 := kb_ BK153 hb; replace BK154 := kb_ BK154 hb; replace BK155 := kb_ BK155 hb; replace HB := bs_ HB hb; (try clear hb); (try clear hb2); (try clear hk); (try clear hi)))
   go_meet
   case rel => exact ⟨_, (!t157), rl_, H', ⟨by first | omega | exact Nat.le_refl _⟩, ⟨k_ BK153.out⟩, ⟨k_ BK154.out⟩, ⟨k_ BK155.out⟩, ⟨b_ HB.out⟩⟩
  ·replace c8 := Bool.eq_false_iff.mpr c8; subst c8; rw [if_neg nf_] at H; have H' := Aside0.mk H; clear H; have hnb17 := NB153_154.out; have hnc17 := NB154_153.out; have hnb18 := NB153_155.out; have hnc18 := NB155_153.out; have hcz19_0 := bc_ BK153 0 rfl; have hcz19_1 := bc_ BK153 1 rfl; have hfz19_0 := blk_frozen BK153.out 0; have hfz19_1 := blk_frozen BK153.out 1
   go_wp2_with (first | (refine gl_ 7 Tryz.func38 #[.agg #[.string a0_0, .string a0_1]] ?_; refine mo_ (r3_May.calls a0_0 a0_1 false _ A7.out) ?_; intro w20 hb; replace BK153 := kb_ BK153 hb; replace BK154 := kb_ BK154 hb; replace BK155 := kb_ BK155 hb; replace HB := bs_ HB hb; (try clear hb); (try clear hb2); (try clear hk); (try clear hi)))
   go_meet
   case rel => exact ⟨_, (true), rl_, H', ⟨by first | omega | exact Nat.le_refl _⟩, ⟨k_ BK153.out⟩, ⟨k_ BK154.out⟩, ⟨k_ BK155.out⟩, ⟨b_ HB.out⟩⟩
 case rest =>
  clear HC3; (try clear c1); (try clear p2); (try clear c3); (try clear c8); (try clear c10); (try clear c11); (try clear c14); (try clear c17); (try clear c18); (try clear c19); (try clear hcz12_0); (try clear hcz12_1); (try clear hcz15_0); (try clear hcz15_1); (try clear hcz19_0); (try clear hcz19_1); (try clear hfz12_0); (try clear hfz12_1); (try clear hfz15_0); (try clear hfz15_1); (try clear hfz19_0); (try clear hfz19_1); obtain ⟨kq, x13_2, rfl, HA, HJ2, BK153, BK154, BK155, HB⟩ := hcut
  cases kq with
  | zero => exact absurd HA.out (by simp [r3_Div.j0])
  | succ kj2 =>
   have H := HA.out; clear HA; simp only [r3_Div.j0] at H; by_cases c21 : x13_2 = true
   ·subst c21; rw [if_pos rfl] at H; simp only [Option.some.injEq, Prod.mk.injEq] at H; obtain ⟨rfl, rfl, rfl⟩ := H; have hnb22 := NB155_153.out; have hnc22 := NB153_155.out; have hnb23 := NB155_154.out; have hnc23 := NB154_155.out; have hcz24_0 := bc_ BK155 0 rfl; have hcz24_1 := bc_ BK155 1 rfl; have hfz24_0 := blk_frozen BK155.out 0; have hfz24_1 := blk_frozen BK155.out 1; go_wp2; refine bodyPost_ret (results_ct rfl _ _ gb155 23 #[.string (⟨#[]⟩ : ByteArray), .string (⟨#[]⟩ : ByteArray)] (0, 0) _ rfl (rp_ BK155.out) Tryz.underlying23 rfl (by kernel_rfl)) rfl ?_; exact ⟨er_, b_ HB.out⟩
   ·replace c21 := Bool.eq_false_iff.mpr c21; subst c21; rw [if_neg nf_] at H; obtain ⟨t158, A25, H⟩ := bi_ H; obtain ⟨t159, A26, H⟩ := bi_ H; obtain ⟨⟨t160, t161, t162⟩, A27, H⟩ := bi_ H; (try dsimp only at H); simp only [Option.some.injEq, Prod.mk.injEq] at H; obtain ⟨rfl, rfl, rfl⟩ := H
    try go_wp2
    replace BK153 := Aside0.mk (blk_drew BK153.out); replace BK154 := Aside0.mk (blk_drew BK154.out); replace BK155 := Aside0.mk (blk_drew BK155.out); replace HB := Aside0.mk (below_drew1 HB.out); refine sa_ 15 (fun w' => w'.cell? ⟨gb153, 0, none⟩ = some (.string a0_0) ∧ w'.cell? ⟨gb153, 1, none⟩ = some (.string a0_1) ∧ w'.cell? ⟨gb154, 0, none⟩ = some (.string a1_0) ∧ w'.cell? ⟨gb154, 1, none⟩ = some (.string a1_1)) (fun hHeld => ?_); refine with_tabW r3_Div.tab3 r3_Div.bits3 (fun HT_ HW_ => ?_); generalize wc.drew = w28 at BK153 BK154 BK155 HB hHeld ⊢; refine pu_ 0 15 rfl rfl HT_ ?_; refine pu_ 2 17 rfl rfl HT_ ?_; refine pu_ 5 20 rfl rfl HT_ ?_; refine pu_ 7 22 rfl rfl HT_ ?_; refine t4_ 1 16 rfl rfl HT_ HW_ hHeld ?_; refine t4_ 3 18 rfl rfl HT_ HW_ hHeld ?_; refine t4_ 6 21 rfl rfl HT_ HW_ hHeld ?_; refine t4_ 8 23 rfl rfl HT_ HW_ hHeld ?_; refine on_ 4 (some 19) rfl rfl HT_ (fun K hK => ?_); refine gs_ Tryz.func47 #[.string a0_0, .string a1_1] ?_; refine mo_ (r2_Mul.calls a0_0 a1_1 t158 _ A25.out) ?_; intro w29 hb; replace BK153 := kb_ BK153 hb; replace BK154 := kb_ BK154 hb; replace BK155 := kb_ BK155 hb; replace HB := bs_ HB hb; (try clear hb); refine hk_ hK (fun hHeld => ?_); clear hK K; refine nm_ ?_; refine on_ 9 (some 24) rfl rfl HT_ (fun K hK => ?_); refine gs_ Tryz.func47 #[.string a0_1, .string a1_0] ?_; refine mo_ (r2_Mul.calls a0_1 a1_0 t159 _ A26.out) ?_; intro w30 hb; replace BK153 := kb_ BK153 hb; replace BK154 := kb_ BK154 hb; replace BK155 := kb_ BK155 hb; replace HB := bs_ HB hb; (try clear hb); refine hk_ hK (fun hHeld => ?_); clear hK K; refine nm_ ?_; refine on_ 10 (some 25) rfl rfl HT_ (fun K hK => ?_); refine gs_ Tryz.func35 #[.string t158, .string t159] ?_; refine mo_ (r3_Make.calls kj2 t158 t159 t160 t161 t162 _ A27.out) ?_; intro w31 hb; replace BK153 := kb_ BK153 hb; replace BK154 := kb_ BK154 hb; replace BK155 := kb_ BK155 hb; replace HB := bs_ HB hb; (try clear hb); refine hk_ hK (fun hHeld => ?_); clear hK K; refine nm_ ?_; refine pu_ 11 26 rfl rfl HT_ ?_; refine pu_ 12 27 rfl rfl HT_ ?_; refine on_ 13 none rfl rfl HT_ (fun K hK => ?_); have hs32 := bc_ BK155 0 rfl; have hfs32 := blk_frozen BK155.out 0; have hns32_0 := NB153_155.out; have hns32_1 := NB154_155.out; have hms32_0 := NB155_153.out; have hms32_1 := NB155_154.out; have hs33 := bc_ BK155 1 rfl; have hfs33 := blk_frozen BK155.out 1; have hns33_0 := NB153_155.out; have hns33_1 := NB154_155.out; have hms33_0 := NB155_153.out; have hms33_1 := NB155_154.out; refine skip_ (w1 := ?_) (by rfl) rfl ?_ ?_; rotate_left
    ·go_simp
     rfl
    refine hf_ hK hHeld (fun hHeld => ?_); clear hK K; refine pu_ 14 5 rfl rfl HT_ ?_; refine done_ (done_of HT_.out (by kernel_rfl)) ?_
    try go_wp2
    refine bodyPost_ret (results_ct rfl _ _ gb155 23 #[.string t160, .string t161] (0, 0) _ rfl (rp_ BK155.out) Tryz.underlying23 rfl (by kernel_rfl)) rfl ?_; exact ⟨er_, b_ HB.out⟩
def r3_Short.l0 : Nat → List (S23) → Int → Option (Bool)
 | 0, _, _ => none
 | k + 1, x0, x3 => if x3 < (x0.length : Int) then (if 0 ≤ x3 then (if (((rd_T23 x0 x3).f0).size : Int) > 100 then (some false) else (if (((rd_T23 x0 x3).f1).size : Int) > 100 then (some false) else (r3_Short.l0 k x0 (wrap64 (x3 + 1))))) else (none)) else (some true)
def r3_Short.f (k : Nat) (l0 : List (S23)) : Option (Bool) := r3_Short.l0 k l0 0
set_option maxHeartbeats 8000000 in
set_option maxRecDepth 100000 in
theorem r3_Short.calls (k : Nat) (A0 : Option Addr) (c0 : Nat) (l0 : List (S23)) (r : Bool) (w : World) (hr0 : Kd.C k23 w A0 l0.length l0) (hc0 : l0.length ≤ c0) (h : r3_Short.f k l0 = some r) :
  Calls Tryz.prog 8 #[.slice A0 l0.length c0] w fun e w' => e = .returned (.bool r) ∧ Drawn0 w w' := by
 have HR0 := Aside0.mk hr0; have HC0 := Aside0.mk hc0; clear hr0 hc0; have H := h; unfold r3_Short.f at H; clear h; have H' := Aside0.mk H; clear H; go_enter Tryz.func8, Tryz.ntmps8; go_wp2
 go_loopg [3] k (fun kq v3 w' => ∃ (x3_1 : Int), v3 = .int .i64 x3_1 ∧ Aside0 (r3_Short.l0 kq l0 x3_1 = some r) ∧ Aside0 (kq ≤ k) ∧ Drawn0 w w')
 case atStart => exact ⟨(0), rl_, H', ⟨Nat.le_refl _⟩, d0_⟩
 case round =>
  clear H'; obtain ⟨x3_1, rfl, HA, HK1, ⟨m1, rfl⟩⟩ := hrel
  cases gk with
  | zero => exact absurd HA.out (by simp [r3_Short.l0])
  | succ k1 =>
   have H := HA.out; clear HA; simp only [r3_Short.l0] at H; by_cases c2 : x3_1 < (l0.length : Int)
   ·rw [if_pos c2] at H; have c2b0 : decide (x3_1 < (l0.length : Int)) = true := decide_eq_true c2; clear c2; by_cases c3 : 0 ≤ x3_1
    ·rw [if_pos c3] at H; have c3b0 : decide (0 ≤ x3_1) = true := decide_eq_true c3; clear c3; by_cases c4 : (((rd_T23 l0 x3_1).f0).size : Int) > 100
     ·rw [if_pos c4] at H; have c4b0 : decide (100 < (((rd_T23 l0 x3_1).f0).size : Int)) = true := decide_eq_true c4; have c4b1 : decide (100 < ((rd_T23 l0 x3_1).f0).size) = true := decide_eq_true (by omega); clear c4; obtain rfl := Option.some.inj H; have p163 : 0 ≤ (x3_1 : Int) := of_decide_eq_true as_f; have q163 : x3_1 < (l0.length : Int) := of_decide_eq_true as_f; obtain ⟨ad163, e163, hx163_0, hx163_1⟩ := at_T23 HR0.out x3_1 p163 q163
      cases e163
      replace p163 := eq_true p163; replace q163 := eq_true q163; go_wp2
      go_ret
      exact ⟨by first | rfl | (simp; done) | (simp [*]; done), d0_⟩
     ·rw [if_neg c4] at H; have c4b0 : decide (100 < (((rd_T23 l0 x3_1).f0).size : Int)) = false := decide_eq_false c4; have c4b1 : decide (100 < ((rd_T23 l0 x3_1).f0).size) = false := decide_eq_false (by omega); clear c4; by_cases c5 : (((rd_T23 l0 x3_1).f1).size : Int) > 100
      ·rw [if_pos c5] at H; have c5b0 : decide (100 < (((rd_T23 l0 x3_1).f1).size : Int)) = true := decide_eq_true c5; have c5b1 : decide (100 < ((rd_T23 l0 x3_1).f1).size) = true := decide_eq_true (by omega); clear c5; obtain rfl := Option.some.inj H; have p163 : 0 ≤ (x3_1 : Int) := of_decide_eq_true as_f; have q163 : x3_1 < (l0.length : Int) := of_decide_eq_true as_f; obtain ⟨ad163, e163, hx163_0, hx163_1⟩ := at_T23 HR0.out x3_1 p163 q163
       cases e163
       replace p163 := eq_true p163; replace q163 := eq_true q163; have p164 : 0 ≤ (x3_1 : Int) := of_decide_eq_true as_f; have q164 : x3_1 < (l0.length : Int) := of_decide_eq_true as_f; obtain ⟨ad164, e164, hx164_0, hx164_1⟩ := at_T23 HR0.out x3_1 p164 q164; obtain rfl : ad163 = ad164 := (by injection e164); replace p164 := eq_true p164; replace q164 := eq_true q164; go_wp2
       go_ret
       exact ⟨by first | rfl | (simp; done) | (simp [*]; done), d0_⟩
      ·rw [if_neg c5] at H; have c5b0 : decide (100 < (((rd_T23 l0 x3_1).f1).size : Int)) = false := decide_eq_false c5; have c5b1 : decide (100 < ((rd_T23 l0 x3_1).f1).size) = false := decide_eq_false (by omega); clear c5; have H' := Aside0.mk H; clear H; have p163 : 0 ≤ (x3_1 : Int) := of_decide_eq_true as_f; have q163 : x3_1 < (l0.length : Int) := of_decide_eq_true as_f; obtain ⟨ad163, e163, hx163_0, hx163_1⟩ := at_T23 HR0.out x3_1 p163 q163
       cases e163
       replace p163 := eq_true p163; replace q163 := eq_true q163; have p164 : 0 ≤ (x3_1 : Int) := of_decide_eq_true as_f; have q164 : x3_1 < (l0.length : Int) := of_decide_eq_true as_f; obtain ⟨ad164, e164, hx164_0, hx164_1⟩ := at_T23 HR0.out x3_1 p164 q164; obtain rfl : ad163 = ad164 := (by injection e164); replace p164 := eq_true p164; replace q164 := eq_true q164; go_wp2
       go_roundg k1
       case measure => have := HK1.out; omega
       case rel => exact ⟨(wrap64 (x3_1 + 1)), rl_, H', ⟨by have := HK1.out; omega⟩, d0_⟩
    ·rw [if_neg c3] at H; exact absurd H (by simp)
   ·rw [if_neg c2] at H; have c2b0 : decide (x3_1 < (l0.length : Int)) = false := decide_eq_false c2; clear c2; obtain rfl := Option.some.inj H; go_wp2
    go_ret
    exact ⟨by first | rfl | (simp; done) | (simp [*]; done), d0_⟩
def r3_Good.l0 : Nat → List (S23) → Int → Option (Bool)
 | 0, _, _ => none
 | k + 1, x0, x3 => if x3 < (x0.length : Int) then (if 0 ≤ x3 then (if x3 ≤ (wrap64 (x3 + 1)) then (if (wrap64 (x3 + 1)) ≤ (x0.length : Int) then ((r3_Short.f k ((x0.take ((wrap64 (x3 + 1)) : Int).toNat).drop (x3 : Int).toNat)).bind fun t169 => (if t169 = true then ((r3_May.f ((rd_T23 x0 x3).f0) ((rd_T23 x0 x3).f1)).bind fun t171 => (if t171 = true then (r3_Good.l0 k x0 (wrap64 (x3 + 1))) else (some false))) else (some false))) else (none)) else (none)) else (none)) else (some true)
def r3_Good.f (k : Nat) (l0 : List (S23)) : Option (Bool) := r3_Good.l0 k l0 0
set_option maxHeartbeats 8000000 in
set_option maxRecDepth 100000 in
theorem r3_Good.calls (k : Nat) (A0 : Option Addr) (c0 : Nat) (l0 : List (S23)) (r : Bool) (w : World) (hr0 : Kd.C k23 w A0 l0.length l0) (hc0 : l0.length ≤ c0) (h : r3_Good.f k l0 = some r) :
  Calls Tryz.prog 16 #[.slice A0 l0.length c0] w fun e w' => e = .returned (.bool r) ∧ Below w.heap.size w w' := by
 have hu23 := Tryz.underlying23; have HR0 := Aside0.mk hr0; have HC0 := Aside0.mk hc0; clear hr0 hc0; have HB := Aside0.mk (Below.refl w.heap.size w); have H := h; unfold r3_Good.f at H; clear h; have H' := Aside0.mk H; clear H; go_enter Tryz.func16, Tryz.ntmps16; go_wp2
 go_loopg [3] k (fun kq v3 w' => ∃ (x3_1 : Int), v3 = .int .i64 x3_1 ∧ Aside0 (r3_Good.l0 kq l0 x3_1 = some r) ∧ Aside0 (kq ≤ k) ∧ Aside0 (Below w.heap.size w w'))
 case atStart => exact ⟨(0), rl_, H', ⟨Nat.le_refl _⟩, ⟨b_ HB.out⟩⟩
 case round =>
  clear H'; (try clear c1); obtain ⟨x3_1, rfl, HA, HK1, HB⟩ := hrel
  cases gk with
  | zero => exact absurd HA.out (by simp [r3_Good.l0])
  | succ k1 =>
   have H := HA.out; clear HA; simp only [r3_Good.l0] at H; by_cases c2 : x3_1 < (l0.length : Int)
   ·rw [if_pos c2] at H; have c2b0 : decide (x3_1 < (l0.length : Int)) = true := decide_eq_true c2; clear c2; by_cases c3 : 0 ≤ x3_1
    ·rw [if_pos c3] at H; have c3b0 := eq_true c3; have c3b1 : decide (0 ≤ x3_1) = true := decide_eq_true c3; clear c3; by_cases c4 : x3_1 ≤ (wrap64 (x3_1 + 1))
     ·rw [if_pos c4] at H; have c4b0 := eq_true c4; have c4b1 : decide (x3_1 ≤ (wrap64 (x3_1 + 1))) = true := decide_eq_true c4
      have c4b1w : decide (x3_1 ≤ (IntKind.i64.wrap (x3_1 + 1))) = true := by simp only [i64_w]; exact c4b1
      by_cases c5 : (wrap64 (x3_1 + 1)) ≤ (l0.length : Int)
      ·rw [if_pos c5] at H; have c5b0 := eq_true c5; have c5b1 : decide ((wrap64 (x3_1 + 1)) ≤ (l0.length : Int)) = true := decide_eq_true c5
       have c5b1w : decide ((IntKind.i64.wrap (x3_1 + 1)) ≤ (l0.length : Int)) = true := by simp only [i64_w]; exact c5b1
       obtain ⟨y165, hy165⟩ : ∃ y_ : List (S23), y_ = ((l0.take ((wrap64 (x3_1 + 1)) : Int).toNat).drop (x3_1 : Int).toNat) := ⟨_, rfl⟩
       replace H : ((r3_Short.f k1 y165).bind fun t169 => (if t169 = true then ((r3_May.f ((rd_T23 l0 x3_1).f0) ((rd_T23 l0 x3_1).f1)).bind fun t171 => (if t171 = true then (r3_Good.l0 k1 l0 (wrap64 (x3_1 + 1))) else (some false))) else (some false))) = some r := by first | (rw [hy165]; with_reducible exact H) | (have H2_ := (Option.bind_some _ _).symm.trans H; rw [hy165]; with_reducible exact H2_) | (have H2_ := (Option.bind_some _ _).symm.trans H; with_reducible exact H2_) | with_reducible exact H | (rw [hy165]; exact H) | exact H
       have Ny165 := Aside0.mk hy165; clear hy165; obtain ⟨t169, A6, H⟩ := bi_ H; by_cases c7 : t169 = true
       ·subst c7; rw [if_pos rfl] at H; obtain ⟨t171, A8, H⟩ := bi_ H; by_cases c9 : t171 = true
        ·subst c9; rw [if_pos rfl] at H; have H' := Aside0.mk H; clear H; have q10 : ((wrap64 (x3_1 + 1)) : Int) ≤ ((l0.length : Int) : Int) := of_decide_eq_true as_f; obtain ⟨i010, hi010, _, hsz10, _⟩ := info_parts info23; have hroom10 : l0.length ≤ c0 := HC0.out; have hC10 : Kd.C k23 _ A0 l0.length l0 := HR0.out; have ql10 : (x3_1 : Int) ≤ ((wrap64 (x3_1 + 1)) : Int) := of_decide_eq_true as_f; have q010 : (0 : Int) ≤ (x3_1 : Int) := of_decide_eq_true as_f; have hcut10 := cut_mid (P := Tryz.prog) 25 23 .i64 .i64 Tryz.underlying25 hi010 2 hsz10 A0 l0.length c0 x3_1 (wrap64 (x3_1 + 1)) q010 ql10 q10 hroom10; have hr10 := Kd.C_mid (lo := (x3_1 : Int).toNat) (hi := ((wrap64 (x3_1 + 1)) : Int).toNat) (c := c0) hC10 (by omega) (by omega) hroom10; obtain ⟨A10, hA10⟩ : ∃ A1, A1 = (if c0 = (x3_1 : Int).toNat then A0 else (A0 : Option Addr).map (·.add ((x3_1 : Int).toNat * 2))) := ⟨_, rfl⟩; obtain ⟨c10, hc10⟩ : ∃ c1, c1 = c0 - (x3_1 : Int).toNat := ⟨_, rfl⟩; have hy10 : y165.length = ((wrap64 (x3_1 + 1)) : Int).toNat - (x3_1 : Int).toNat := (by rw [Ny165.out, List.length_drop, List.length_take] <;> omega); rw [show ((l0).take ((wrap64 (x3_1 + 1)) : Int).toNat).drop (x3_1 : Int).toNat = y165 from Ny165.out.symm] at hr10; replace hr10 : Kd.C k23 _ A10 y165.length y165 := (by rw [hA10]; exact hr10); rw [← hy10, ← hA10, ← hc10] at hcut10; have HR168 := Aside0.mk hr10; have HC168 := Aside0.mk (show y165.length ≤ c10 from by rw [hy10, hc10]; exact Nat.sub_le_sub_right (Nat.le_trans (by omega) hroom10) _); clear hr10 hC10 hroom10 hi010 hsz10 hc10; have KY10 := Aside0.mk hy10; have KA10 := Aside0.mk hA10; clear hy10 hA10; replace q10 := eq_true q10
         go_wp2_with (first | (refine gl_ 15 Tryz.func8 #[.slice A10 y165.length c10] ?_; refine mo_ (r3_Short.calls k1 _ _ y165 true _ (c_ (Kd.C_below HR168.out HB.out)) (HC168.out) A6.out) ?_; rintro w' ⟨nd, rfl⟩; have p170 : 0 ≤ (x3_1 : Int) := of_decide_eq_true as_f; have q170 : x3_1 < (l0.length : Int) := of_decide_eq_true as_f; obtain ⟨ad170, e170, hx170_0, hx170_1⟩ := at_T23 HR0.out x3_1 p170 q170; cases e170; replace hx170_0 := (HB.out.cell (World.block_lt_of_cell? w _ hx170_0)).trans hx170_0; replace hx170_1 := (HB.out.cell (World.block_lt_of_cell? w _ hx170_1)).trans hx170_1; replace p170 := eq_true p170; replace q170 := eq_true q170) | (go_at_call 38; (with_reducible refine (r3_May.calls ((rd_T23 l0 x3_1).f0) ((rd_T23 l0 x3_1).f1) true _ A8.out).mono ?_); rintro e w11 ⟨rfl, hb⟩; replace HB := bs_ HB hb; (try clear hb); (try clear hb2); (try clear hk); (try clear hi)))
         go_roundg k1
         case measure => have := HK1.out; omega
         case rel => exact ⟨(wrap64 (x3_1 + 1)), rl_, H', ⟨by have := HK1.out; omega⟩, ⟨b_ HB.out⟩⟩
        ·replace c9 := Bool.eq_false_iff.mpr c9; subst c9; rw [if_neg nf_] at H; obtain rfl := Option.some.inj H; have q12 : ((wrap64 (x3_1 + 1)) : Int) ≤ ((l0.length : Int) : Int) := of_decide_eq_true as_f; obtain ⟨i012, hi012, _, hsz12, _⟩ := info_parts info23; have hroom12 : l0.length ≤ c0 := HC0.out; have hC12 : Kd.C k23 _ A0 l0.length l0 := HR0.out; have ql12 : (x3_1 : Int) ≤ ((wrap64 (x3_1 + 1)) : Int) := of_decide_eq_true as_f; have q012 : (0 : Int) ≤ (x3_1 : Int) := of_decide_eq_true as_f; have hcut12 := cut_mid (P := Tryz.prog) 25 23 .i64 .i64 Tryz.underlying25 hi012 2 hsz12 A0 l0.length c0 x3_1 (wrap64 (x3_1 + 1)) q012 ql12 q12 hroom12; have hr12 := Kd.C_mid (lo := (x3_1 : Int).toNat) (hi := ((wrap64 (x3_1 + 1)) : Int).toNat) (c := c0) hC12 (by omega) (by omega) hroom12; obtain ⟨A12, hA12⟩ : ∃ A1, A1 = (if c0 = (x3_1 : Int).toNat then A0 else (A0 : Option Addr).map (·.add ((x3_1 : Int).toNat * 2))) := ⟨_, rfl⟩; obtain ⟨c12, hc12⟩ : ∃ c1, c1 = c0 - (x3_1 : Int).toNat := ⟨_, rfl⟩; have hy12 : y165.length = ((wrap64 (x3_1 + 1)) : Int).toNat - (x3_1 : Int).toNat := (by rw [Ny165.out, List.length_drop, List.length_take] <;> omega); rw [show ((l0).take ((wrap64 (x3_1 + 1)) : Int).toNat).drop (x3_1 : Int).toNat = y165 from Ny165.out.symm] at hr12; replace hr12 : Kd.C k23 _ A12 y165.length y165 := (by rw [hA12]; exact hr12); rw [← hy12, ← hA12, ← hc12] at hcut12; have HR168 := Aside0.mk hr12; have HC168 := Aside0.mk (show y165.length ≤ c12 from by rw [hy12, hc12]; exact Nat.sub_le_sub_right (Nat.le_trans (by omega) hroom12) _); clear hr12 hC12 hroom12 hi012 hsz12 hc12; have KY12 := Aside0.mk hy12; have KA12 := Aside0.mk hA12; clear hy12 hA12; replace q12 := eq_true q12
         go_wp2_with (first | (refine gl_ 15 Tryz.func8 #[.slice A12 y165.length c12] ?_; refine mo_ (r3_Short.calls k1 _ _ y165 true _ (c_ (Kd.C_below HR168.out HB.out)) (HC168.out) A6.out) ?_; rintro w' ⟨nd, rfl⟩; have p170 : 0 ≤ (x3_1 : Int) := of_decide_eq_true as_f; have q170 : x3_1 < (l0.length : Int) := of_decide_eq_true as_f; obtain ⟨ad170, e170, hx170_0, hx170_1⟩ := at_T23 HR0.out x3_1 p170 q170; cases e170; replace hx170_0 := (HB.out.cell (World.block_lt_of_cell? w _ hx170_0)).trans hx170_0; replace hx170_1 := (HB.out.cell (World.block_lt_of_cell? w _ hx170_1)).trans hx170_1; replace p170 := eq_true p170; replace q170 := eq_true q170) | (go_at_call 38; (with_reducible refine (r3_May.calls ((rd_T23 l0 x3_1).f0) ((rd_T23 l0 x3_1).f1) false _ A8.out).mono ?_); rintro e w13 ⟨rfl, hb⟩; replace HB := bs_ HB hb; (try clear hb); (try clear hb2); (try clear hk); (try clear hi)))
         go_ret
         exact ⟨er_, b_ HB.out⟩
       ·replace c7 := Bool.eq_false_iff.mpr c7; subst c7; rw [if_neg nf_] at H; obtain rfl := Option.some.inj H; have q14 : ((wrap64 (x3_1 + 1)) : Int) ≤ ((l0.length : Int) : Int) := of_decide_eq_true as_f; obtain ⟨i014, hi014, _, hsz14, _⟩ := info_parts info23; have hroom14 : l0.length ≤ c0 := HC0.out; have hC14 : Kd.C k23 _ A0 l0.length l0 := HR0.out; have ql14 : (x3_1 : Int) ≤ ((wrap64 (x3_1 + 1)) : Int) := of_decide_eq_true as_f; have q014 : (0 : Int) ≤ (x3_1 : Int) := of_decide_eq_true as_f; have hcut14 := cut_mid (P := Tryz.prog) 25 23 .i64 .i64 Tryz.underlying25 hi014 2 hsz14 A0 l0.length c0 x3_1 (wrap64 (x3_1 + 1)) q014 ql14 q14 hroom14; have hr14 := Kd.C_mid (lo := (x3_1 : Int).toNat) (hi := ((wrap64 (x3_1 + 1)) : Int).toNat) (c := c0) hC14 (by omega) (by omega) hroom14; obtain ⟨A14, hA14⟩ : ∃ A1, A1 = (if c0 = (x3_1 : Int).toNat then A0 else (A0 : Option Addr).map (·.add ((x3_1 : Int).toNat * 2))) := ⟨_, rfl⟩; obtain ⟨c14, hc14⟩ : ∃ c1, c1 = c0 - (x3_1 : Int).toNat := ⟨_, rfl⟩; have hy14 : y165.length = ((wrap64 (x3_1 + 1)) : Int).toNat - (x3_1 : Int).toNat := (by rw [Ny165.out, List.length_drop, List.length_take] <;> omega); rw [show ((l0).take ((wrap64 (x3_1 + 1)) : Int).toNat).drop (x3_1 : Int).toNat = y165 from Ny165.out.symm] at hr14; replace hr14 : Kd.C k23 _ A14 y165.length y165 := (by rw [hA14]; exact hr14); rw [← hy14, ← hA14, ← hc14] at hcut14; have HR168 := Aside0.mk hr14; have HC168 := Aside0.mk (show y165.length ≤ c14 from by rw [hy14, hc14]; exact Nat.sub_le_sub_right (Nat.le_trans (by omega) hroom14) _); clear hr14 hC14 hroom14 hi014 hsz14 hc14; have KY14 := Aside0.mk hy14; have KA14 := Aside0.mk hA14; clear hy14 hA14; replace q14 := eq_true q14
        go_wp2_with (first | (refine gl_ 15 Tryz.func8 #[.slice A14 y165.length c14] ?_; refine mo_ (r3_Short.calls k1 _ _ y165 false _ (c_ (Kd.C_below HR168.out HB.out)) (HC168.out) A6.out) ?_; rintro w' ⟨nd, rfl⟩))
        go_ret
        exact ⟨er_, b_ HB.out⟩
      ·rw [if_neg c5] at H; exact absurd H (by simp)
     ·rw [if_neg c4] at H; exact absurd H (by simp)
    ·rw [if_neg c3] at H; exact absurd H (by simp)
   ·rw [if_neg c2] at H; have c2b0 : decide (x3_1 < (l0.length : Int)) = false := decide_eq_false c2; clear c2; obtain rfl := Option.some.inj H; go_wp2
    go_ret
    exact ⟨er_, b_ HB.out⟩
def r3_One.f (k : Nat) (a0 : Int) (a1 : Int) : Option (ByteArray × ByteArray) := (r2_Of.f a0).bind fun t173 => ((r2_Of.f a1).bind fun t174 => ((r3_Make.f k t173 t174).bind fun bt175 => (some (bt175.1, bt175.2.1))))
set_option maxHeartbeats 8000000 in
set_option maxRecDepth 100000 in
theorem r3_One.calls (k : Nat) (a0 : Int) (a1 : Int) (r1 : ByteArray) (r2 : ByteArray) (w : World) (h : r3_One.f k a0 a1 = some (r1, r2)) :
  Calls Tryz.prog 23 #[.int .i64 a0, .int .i64 a1] w fun e w' => e = .returned (.agg #[.string r1, .string r2]) ∧ Below w.heap.size w w' := by
 have hu23 := Tryz.underlying23; have HB := Aside0.mk (Below.refl w.heap.size w); have H := h; unfold r3_One.f at H; clear h; obtain ⟨t173, A3, H⟩ := bi_ H; obtain ⟨t174, A4, H⟩ := bi_ H; obtain ⟨⟨t175, t176, t177⟩, A5, H⟩ := bi_ H; (try dsimp only at H); simp only [Option.some.injEq, Prod.mk.injEq] at H; obtain ⟨rfl, rfl⟩ := H; go_enter Tryz.func23, Tryz.ntmps23
 go_wp2_with (first | ((with_reducible refine gate_dst (N := 4) rfl ?_); refine be_ 4 #[.string (⟨#[]⟩ : ByteArray), .string (⟨#[]⟩ : ByteArray)] 23 ?_; intro gb172 hg w6 hbox hb; have BK172 := Aside0.mk (hbox); have GW172 := ge_ HB hg; have GE172 := ge_ HB hg; replace HB := bs_ HB hb; clear hb hbox hg) | (refine gl_ 9 Tryz.func50 #[.int .i64 a0] ?_; refine mo_ (r2_Of.calls a0 t173 _ A3.out) ?_; intro w7 hb; replace BK172 := kb_ BK172 hb; replace HB := bs_ HB hb; (try clear hb); (try clear hb2); (try clear hk); (try clear hi)) | (refine gl_ 11 Tryz.func50 #[.int .i64 a1] ?_; refine mo_ (r2_Of.calls a1 t174 _ A4.out) ?_; intro w8 hb; replace BK172 := kb_ BK172 hb; replace HB := bs_ HB hb; (try clear hb); (try clear hb2); (try clear hk); (try clear hi)) | (refine gl_ 12 Tryz.func35 #[.string t173, .string t174] ?_; refine mo_ (r3_Make.calls k t173 t174 t175 t176 t177 _ A5.out) ?_; intro w9 hb; replace BK172 := kb_ BK172 hb; replace HB := bs_ HB hb; (try clear hb); (try clear hb2); (try clear hk); (try clear hi)) | ((with_reducible refine gate_dst (N := 5) rfl ?_); refine be_ 5 #[.string (⟨#[]⟩ : ByteArray), .string (⟨#[]⟩ : ByteArray)] 23 ?_; intro gb178 hg w10 hbox hb; have BK178 := Aside0.mk (hbox); have GW178 := ge_ HB hg; have GE178 := ge_ HB hg; have NB172_178 := nl_ BK172 hg; have NB178_172 := ng_ BK172 hg; replace BK172 := kb_ BK172 hb; replace HB := bs_ HB hb; clear hb hbox hg; have hnb11 := NB178_172.out; have hnc11 := NB172_178.out; have hcz12_0 := bc_ BK178 0 rfl; have hcz12_1 := bc_ BK178 1 rfl; have hfz12_0 := blk_frozen BK178.out 0; have hfz12_1 := blk_frozen BK178.out 1; have hcz13_0 := bc_ BK172 0 rfl; have hcz13_1 := bc_ BK172 1 rfl; have hfz13_0 := blk_frozen BK172.out 0; have hfz13_1 := blk_frozen BK172.out 1))
 refine bodyPost_ret (results_cell_row rfl _ _ gb172 23 #[.string t175, .string t176] (0, 0) _ rfl (by refine k_ ?_; refine blk_put (cs := #[.string t175, .string (⟨#[]⟩ : ByteArray)]) ?_ 1 _ rfl; refine k_ ?_; refine blk_put (cs := #[.string (⟨#[]⟩ : ByteArray), .string (⟨#[]⟩ : ByteArray)]) ?_ 0 _ rfl; refine k_ ?_; refine blk_far ?_ NB172_178.out _; refine k_ ?_; refine blk_far ?_ NB172_178.out _; refine k_ ?_; exact BK172.out) Tryz.underlying23 rfl (by kernel_rfl)) rfl ?_; exact ⟨er_, b_ HB.out⟩
end Go.Proofs.YtaldgaiaelbbaaaGreatDoor.Pz
end

section
namespace Go.Proofs.YtaldgaiaelbbaaaGreatDoor.Pz
end Go.Proofs.YtaldgaiaelbbaaaGreatDoor.Pz
end

section
namespace Go.Proofs.YtaldgaiaelbbaaaGreatDoor
theorem smr_int {x : Int} (h : szI x ≤ 20000) : smr (intB x) = true := decide_eq_true h
theorem smr2_int {x y : Int} (hx : szI x ≤ 20000) (hy : szI y ≤ 20000) : smr2 (intB x) (intB y) = true := by
 unfold smr2
 rw [smr_int hx, smr_int hy]
 rfl
theorem qAbs {x : Int} (hx : szI x ≤ 20000) : r2_Abs.f (intB x) = some (natB x.natAbs) := by
 unfold r2_Abs.f wabsS
 rw [if_pos (smr_int hx), if_pos (mayW_int x), numW_int]
theorem qNeg {x : Int} (hx : szI x ≤ 20000) : r2_Neg.f (intB x) = some (intB (-x)) := by
 unfold r2_Neg.f wnegS
 rw [if_pos (smr_int hx), if_pos (mayW_int x), numW_int]
theorem qSign {x : Int} (hx : szI x ≤ 20000) : r2_Sign.f (intB x) = some (Lib.compareInt x 0) := by
 unfold r2_Sign.f wsignS
 rw [if_pos (smr_int hx), if_pos (mayW_int x), numW_int]
theorem qAdd {x y : Int} (hx : szI x ≤ 20000) (hy : szI y ≤ 20000) : r2_Add.f (intB x) (intB y) = some (intB (x + y)) := by
 unfold r2_Add.f waddS
 rw [if_pos (smr2_int hx hy), if_pos (may2W_int' x y), numW_int, numW_int]
theorem qMul {x y : Int} (hx : szI x ≤ 20000) (hy : szI y ≤ 20000) : r2_Mul.f (intB x) (intB y) = some (intB (x * y)) := by
 unfold r2_Mul.f wmulS
 rw [if_pos (smr2_int hx hy), if_pos (may2W_int' x y), numW_int, numW_int]
theorem qMulN {x : Int} {n : Nat} (hx : szI x ≤ 20000) (hn : sz n ≤ 20000) : r2_Mul.f (intB x) (natB n) = some (intB (x * (n : Int))) := by
 rw [← intB_nat]
 exact qMul hx (by rw [szI_nat]; exact hn)
theorem qNMul {x : Int} {n : Nat} (hx : szI x ≤ 20000) (hn : sz n ≤ 20000) : r2_Mul.f (natB n) (intB x) = some (intB ((n : Int) * x)) := by
 rw [← intB_nat]
 exact qMul (by rw [szI_nat]; exact hn) hx
theorem qDiv {x y : Int} (hx : szI x ≤ 20000) (hy : szI y ≤ 20000) (h : y ≠ 0) : r2_Div.f (intB x) (intB y) = some (intB (x / y), intB (x % y), true) := by
 unfold r2_Div.f wdivS
 rw [if_pos (smr2_int hx hy), may2W_int', Bool.true_and, numW_int, numW_int, if_pos (decide_eq_true h)]
theorem rGcd {m n : Nat} (hm : sz m ≤ 50000) (hn : sz n ≤ 50000) : r1_Gcd.f (natB m) (natB n) = some (natB (Nat.gcd m n)) := by
 unfold r1_Gcd.f gcdS
 rw [if_pos (sm2_natB hm hn), if_pos (may2_natB m n), numB_natB, numB_natB]
theorem natB_beq_one' (m : Nat) : ((natB m).toList == ([49] : List UInt8)) = (m == 1) := by
 rw [Bool.eq_iff_iff, beq_iff_eq, beq_iff_eq, natB_toList_one]
theorem r3may_f {a b : ByteArray} (ha : a.size ≤ 20000) (hb : b.size ≤ 20000) : Pz.r3_May.f a b = some (mayR (a, b)) := by
 unfold Pz.r3_May.f mayR
 rw [rMay2 (by omega), Option.bind_some]
 by_cases h1 : mayW a = true
 ·rw [if_pos h1, rMay (by omega), Option.bind_some]
  by_cases h2 : mayB b = true
  ·obtain ⟨z, rfl⟩ := of_mayW h1
   obtain ⟨n, rfl, e2⟩ := of_may h2
   have s1 : szI z ≤ 20000 := ha
   have s2 : sz n ≤ 20000 := hb
   have s3 := le_szI z
   rw [if_pos h2, h1, h2, numW_int, numB_natB]
   by_cases h3 : n = 0
   ·rw [if_pos (natB_toList_zero.2 h3), h3]
    rfl
   ·rw [if_neg (fun e => h3 (natB_toList_zero.1 e)), qAbs (by omega), Option.bind_some, rGcd (by omega) (by omega), Option.bind_some, natB_beq_one', decide_eq_true h3]
    rfl
  ·rw [if_neg h2, h1, (Bool.not_eq_true _).mp h2]
   rfl
 ·rw [if_neg h1, (Bool.not_eq_true _).mp h1]
  rfl
theorem gcd_le_l' {x y : Int} (hy : y ≠ 0) : sz (Nat.gcd x.natAbs y.natAbs) ≤ szI y := by
 have h := sz_mono (Nat.gcd_le_right x.natAbs (show 0 < y.natAbs by omega))
 have := le_szI y
 omega
theorem mk_core {x y : Int} (hy : 0 < y) (hx : szI x ≤ 20000) (hs : szI y ≤ 20000) (k : Nat) : Pz.r3_Make.j1 (k + 1) (intB x) (intB y) = some ((rT (Rat.divInt x y)).1, (rT (Rat.divInt x y)).2, true) := by
 have s3 := le_szI x
 have s4 := le_szI y
 have s5 := gcd_le_l' (x := x) (show y ≠ 0 by omega)
 have hg : ((Nat.gcd x.natAbs y.natAbs : Nat) : Int) ≠ 0 := by
  have := Nat.gcd_pos_of_pos_right x.natAbs (show 0 < y.natAbs by omega)
  omega
 have h1 := red_num (x := x) (y := y) (by omega)
 have h2 := red_den (x := x) (y := y) (by omega)
 rw [if_neg (by omega)] at h1
 have e : intB y = natB y.natAbs := by rw [intB_nonneg (by omega)]; congr 1; omega
 have e' : (y.natAbs : Int) = y := by omega
 simp only [Pz.r3_Make.j1]
 rw [qAbs (by omega), Option.bind_some, e, rGcd (by omega) (by omega), Option.bind_some, ← e, ← intB_nat, qDiv (by omega) (by rw [szI_nat]; omega) hg, Option.bind_some, qDiv (by omega) (by rw [szI_nat]; omega) hg, Option.bind_some]
 rw [e'] at h2
 show some (intB _, intB _, true) = some (intB _, natB _, true)
 rw [h1, h2, intB_nat]
theorem mk_f {x y : Int} (hx : szI x ≤ 19000) (hs : szI y ≤ 19000) (k : Nat) : Pz.r3_Make.f (k + 2) (intB x) (intB y) = some (if y = 0 then (noB, noB, false) else ((rT (Rat.divInt x y)).1, (rT (Rat.divInt x y)).2, true)) := by
 unfold Pz.r3_Make.f
 rw [rMay2 (show szI x ≤ 50000 by omega), Option.bind_some, if_pos (mayW_int x), rMay2 (show szI y ≤ 50000 by omega), Option.bind_some, if_pos (mayW_int y), intB_beq_zero]
 show Pz.r3_Make.j0 (k + 1 + 1) _ _ _ = _
 simp only [Pz.r3_Make.j0]
 by_cases h0 : y = 0
 ·rw [if_pos (decide_eq_true h0), if_pos h0]
  rfl
 ·rw [if_neg (by rw [decide_eq_true_eq]; exact h0), if_neg h0, qSign (by omega), Option.bind_some]
  by_cases h : y < 0
  ·have n1 := szI_neg x
   have n2 := szI_neg y
   rw [if_pos (by rw [cmp_lt' h]; decide), qNeg (by omega), Option.bind_some, qNeg (by omega), Option.bind_some, mk_core (by omega) (by omega) (by omega), Rat.neg_divInt_neg]
  ·rw [if_neg (by rw [cmp_gt' (by omega)]; decide), mk_core (by omega) (by omega) (by omega)]
theorem mk_nf {x : Int} {n : Nat} (hy : n ≠ 0) (hx : szI x ≤ 19000) (hs : sz n ≤ 19000) (k : Nat) : Pz.r3_Make.f (k + 2) (intB x) (natB n) = some ((rT (Rat.divInt x (n : Int))).1, (rT (Rat.divInt x (n : Int))).2, true) := by
 rw [← intB_nat, mk_f hx (by rw [szI_nat]; exact hs), if_neg (by omega)]
theorem r3make_f {a b : ByteArray} (ha : a.size ≤ 19000) (hb : b.size ≤ 19000) (k : Nat) : Pz.r3_Make.f (k + 1) a b = some ((rmakeS a b).1.1, (rmakeS a b).1.2, (rmakeS a b).2) ∨ k = 0 := by
 by_cases hk : k = 0
 ·exact .inr hk
 obtain ⟨k, rfl⟩ : ∃ m, k = m + 1 := ⟨k - 1, by omega⟩
 refine .inl ?_
 by_cases h1 : mayW a = true
 ·by_cases h2 : mayW b = true
  ·obtain ⟨x, rfl⟩ := of_mayW h1
   obtain ⟨y, rfl⟩ := of_mayW h2
   rw [mk_f ha hb]
   unfold rmakeS
   rw [may2W_int', Bool.true_and, numW_int, numW_int]
   by_cases h3 : y = 0
   ·rw [if_pos h3, if_neg (by rw [h3]; decide)]
    rfl
   ·rw [if_neg h3, if_pos (decide_eq_true h3)]
  ·unfold Pz.r3_Make.f rmakeS
   rw [rMay2 (by omega), Option.bind_some, if_pos h1, rMay2 (by omega), Option.bind_some, if_neg h2, show may2W a b = false by unfold may2W; rw [h1, (Bool.not_eq_true _).mp h2]; rfl]
   rfl
 ·unfold Pz.r3_Make.f rmakeS
  rw [rMay2 (by omega), Option.bind_some, if_neg h1, show may2W a b = false by unfold may2W; rw [(Bool.not_eq_true _).mp h1]; rfl]
  rfl
theorem r3make_f2 {a b : ByteArray} (ha : a.size ≤ 19000) (hb : b.size ≤ 19000) (k : Nat) : Pz.r3_Make.f (k + 2) a b = some ((rmakeS a b).1.1, (rmakeS a b).1.2, (rmakeS a b).2) := (r3make_f ha hb (k + 1)).resolve_right (by omega)
theorem r3neg_f {x : BB} (ha : x.1.size ≤ 20000) (hb : x.2.size ≤ 20000) : Pz.r3_Neg.f x.1 x.2 = some (rnegS x) := by
 unfold Pz.r3_Neg.f rnegS
 rw [r3may_f ha hb, Option.bind_some]
 by_cases h : mayR x = true
 ·obtain ⟨q, rfl⟩ := of_mayR h
  have s1 : szI q.num ≤ 20000 := ha
  rw [if_pos h, if_pos h, ratR_rT]
  show ((r2_Neg.f (intB q.num)).bind fun t => some (t, natB q.den)) = some (intB (-q).num, natB (-q).den)
  rw [qNeg (by omega), Option.bind_some, Rat.neg_num, Rat.neg_den]
 ·rw [if_neg h, if_neg h]
  rfl
theorem sm_rT' {q : Rat} (h : smR (rT q) = true) : szI q.num ≤ 4000 ∧ sz q.den ≤ 4000 := smR_le h
theorem r3two {x y : BB} (hm : ¬ may2R x y = true) (h : mayR x = true) : mayR y = false := (Bool.not_eq_true _).mp (fun h2 => hm (by unfold may2R; rw [h, h2]; rfl))
theorem r3add_f {x y : BB} (hx : smR x = true) (hy : smR y = true) (k : Nat) : Pz.r3_Add.f (k + 3) x.1 x.2 y.1 y.2 = some (raddS x y) := by
 have h1 := smR_le hx
 have h2 := smR_le hy
 unfold Pz.r3_Add.f raddS
 rw [r3may_f (by omega) (by omega), Option.bind_some]
 rcases casesR x y with ⟨p, q, rfl, rfl⟩ | hm
 ·have h1 := sm_rT' hx
  have h2 := sm_rT' hy
  have s1 := szI_mul p.num (q.den : Int)
  have s2 := szI_mul q.num (p.den : Int)
  rw [szI_nat] at s1 s2
  have s3 := szI_add (p.num * (q.den : Int)) (q.num * (p.den : Int))
  have s4 := sz_mul p.den q.den
  rw [if_pos (mayR_rT p), r3may_f (by omega) (by omega), Option.bind_some, if_pos (may2R_rT p q), ratR_rT, ratR_rT, show mayR ((rT q).1, (rT q).2) = true from mayR_rT q]
  show Pz.r3_Add.j0 (k + 2 + 1) _ (intB p.num) (natB p.den) (intB q.num) (natB q.den) = _
  simp only [Pz.r3_Add.j0]
  rw [if_neg (by decide), qMulN (by omega) (by omega), Option.bind_some, qMulN (by omega) (by omega), Option.bind_some, qAdd (by omega) (by omega), Option.bind_some, rMul (by omega) (by omega), Option.bind_some, mk_nf (Nat.mul_ne_zero p.den_nz q.den_nz) (by omega) (by omega), Option.bind_some, Int.natCast_mul, add_parts]
 ·rw [if_neg hm]
  by_cases h : mayR x = true
  ·rw [if_pos h, r3may_f (by omega) (by omega), Option.bind_some, show mayR (y.1, y.2) = false from r3two hm h]
   show Pz.r3_Add.j0 (k + 2 + 1) _ _ _ _ _ = _
   simp only [Pz.r3_Add.j0]
   rfl
  ·rw [if_neg h]
   show Pz.r3_Add.j0 (k + 2 + 1) _ _ _ _ _ = _
   simp only [Pz.r3_Add.j0]
   rfl
theorem r3mul_f {x y : BB} (hx : smR x = true) (hy : smR y = true) (k : Nat) : Pz.r3_Mul.f (k + 3) x.1 x.2 y.1 y.2 = some (rmulS x y) := by
 have h1 := smR_le hx
 have h2 := smR_le hy
 unfold Pz.r3_Mul.f rmulS
 rw [r3may_f (by omega) (by omega), Option.bind_some]
 rcases casesR x y with ⟨p, q, rfl, rfl⟩ | hm
 ·have h1 := sm_rT' hx
  have h2 := sm_rT' hy
  have s1 := szI_mul p.num q.num
  have s4 := sz_mul p.den q.den
  rw [if_pos (mayR_rT p), r3may_f (by omega) (by omega), Option.bind_some, if_pos (may2R_rT p q), ratR_rT, ratR_rT, show mayR ((rT q).1, (rT q).2) = true from mayR_rT q]
  show Pz.r3_Mul.j0 (k + 2 + 1) _ (intB p.num) (natB p.den) (intB q.num) (natB q.den) = _
  simp only [Pz.r3_Mul.j0]
  rw [if_neg (by decide), qMul (by omega) (by omega), Option.bind_some, rMul (by omega) (by omega), Option.bind_some, mk_nf (Nat.mul_ne_zero p.den_nz q.den_nz) (by omega) (by omega), Option.bind_some, Int.natCast_mul, mul_parts]
 ·rw [if_neg hm]
  by_cases h : mayR x = true
  ·rw [if_pos h, r3may_f (by omega) (by omega), Option.bind_some, show mayR (y.1, y.2) = false from r3two hm h]
   show Pz.r3_Mul.j0 (k + 2 + 1) _ _ _ _ _ = _
   simp only [Pz.r3_Mul.j0]
   rfl
  ·rw [if_neg h]
   show Pz.r3_Mul.j0 (k + 2 + 1) _ _ _ _ _ = _
   simp only [Pz.r3_Mul.j0]
   rfl
theorem r3div_f {x y : BB} (hx : smR x = true) (hy : smR y = true) (k : Nat) : Pz.r3_Div.f (k + 3) x.1 x.2 y.1 y.2 = some ((rdivS x y).1.1, (rdivS x y).1.2, (rdivS x y).2) := by
 have h1 := smR_le hx
 have h2 := smR_le hy
 unfold Pz.r3_Div.f rdivS
 rw [r3may_f (by omega) (by omega), Option.bind_some]
 rcases casesR x y with ⟨p, q, rfl, rfl⟩ | hm
 ·have h1 := sm_rT' hx
  have h2 := sm_rT' hy
  have s1 := szI_mul p.num (q.den : Int)
  have s2 := szI_mul (p.den : Int) q.num
  rw [szI_nat] at s1 s2
  rw [if_pos (mayR_rT p), r3may_f (by omega) (by omega), Option.bind_some, may2R_rT, Bool.true_and, ratR_rT, ratR_rT, show mayR ((rT q).1, (rT q).2) = true from mayR_rT q]
  show Pz.r3_Div.j0 (k + 2 + 1) _ (intB p.num) (natB p.den) (intB q.num) (natB q.den) = _
  simp only [Pz.r3_Div.j0]
  rw [if_neg (by decide), qMulN (by omega) (by omega), Option.bind_some, qNMul (by omega) (by omega), Option.bind_some, mk_f (by omega) (by omega), Option.bind_some]
  by_cases h : q = 0
  ·subst h
   rw [if_pos (by rw [show (0 : Rat).num = 0 from rfl, Int.mul_zero]), if_neg (by decide)]
   rfl
  ·have hn := num_ne h
   rw [if_neg (Int.mul_ne_zero (den_ne p) hn), if_pos (decide_eq_true h), div_parts]
 ·rw [(Bool.not_eq_true _).mp hm]
  by_cases h : mayR x = true
  ·rw [if_pos h, r3may_f (by omega) (by omega), Option.bind_some, show mayR (y.1, y.2) = false from r3two hm h]
   show Pz.r3_Div.j0 (k + 2 + 1) _ _ _ _ _ = _
   simp only [Pz.r3_Div.j0]
   rfl
  ·rw [if_neg h]
   show Pz.r3_Div.j0 (k + 2 + 1) _ _ _ _ _ = _
   simp only [Pz.r3_Div.j0]
   rfl
theorem szI_64 {n : Int} (h0 : -9223372036854775808 ≤ n) (h1 : n ≤ 9223372036854775807) : szI n ≤ 21 := by
 have h := szI_le n
 have h2 : sz n.natAbs ≤ 20 := sz_le (by omega) (by omega)
 omega
theorem r3one_f (a b : Int) (h0 : -9223372036854775808 ≤ a) (h1 : a ≤ 9223372036854775807) (h2 : -9223372036854775808 ≤ b) (h3 : b ≤ 9223372036854775807) (k : Nat) : Pz.r3_One.f (k + 2) a b = some (if b = 0 then no2 else rT (Rat.divInt a b)) := by
 unfold Pz.r3_One.f r2_Of.f
 have s1 := szI_64 h0 h1
 have s2 := szI_64 h2 h3
 rw [if_pos ⟨h0, h1⟩, Option.bind_some, if_pos ⟨h2, h3⟩, Option.bind_some, mk_f (by omega) (by omega), Option.bind_some]
 by_cases h : b = 0
 ·rw [if_pos h, if_pos h]
  rfl
 ·rw [if_neg h, if_neg h]
def bbS (x : Pz.S23) : BB := (x.f0, x.f1)
def shortR (x : Pz.S23) : Bool := decide (x.f0.size ≤ 100) && decide (x.f1.size ≤ 100)
def goodR (x : Pz.S23) : Bool := shortR x && mayR (bbS x)
theorem r3short_loop (l : List Pz.S23) (hl : l.length ≤ 50000) : ∀ (d i k : Nat), i + d = l.length → d + 1 ≤ k → Pz.r3_Short.l0 k l (i : Int) = some ((l.drop i).all shortR)
 | 0, i, k, hi, hk => by
  obtain ⟨k, rfl⟩ : ∃ m, k = m + 1 := ⟨k - 1, by omega⟩
  simp only [Pz.r3_Short.l0]
  rw [if_neg (by omega), List.drop_of_length_le (by omega)]
  rfl
 | d + 1, i, k, hi, hk => by
  obtain ⟨k, rfl⟩ : ∃ m, k = m + 1 := ⟨k - 1, by omega⟩
  have hlt : i < l.length := by omega
  have e : Pz.rd_T23 l (i : Int) = l[i] := by
   unfold Pz.rd_T23
   rw [Int.toNat_natCast, List.getD_eq_getElem?_getD, List.getElem?_eq_getElem hlt]
   rfl
  simp only [Pz.r3_Short.l0]
  rw [if_pos (by omega), if_pos (by omega), e, List.drop_eq_getElem_cons hlt, List.all_cons, w64 (by omega) (by omega)]
  have ih := r3short_loop l hl d (i + 1) k (by omega) (by omega)
  unfold shortR at ih ⊢
  by_cases h1 : (l[i]).f0.size ≤ 100
  ·rw [if_neg (by omega), decide_eq_true h1]
   by_cases h2 : (l[i]).f1.size ≤ 100
   ·rw [if_neg (by omega), decide_eq_true h2]
    exact ih
   ·rw [if_pos (by omega), decide_eq_false h2]
    rfl
  ·rw [if_pos (by omega), decide_eq_false h1]
   rfl
theorem r3short_f (l : List Pz.S23) (hl : l.length ≤ 50000) (k : Nat) (hk : l.length + 1 ≤ k) : Pz.r3_Short.f k l = some (l.all shortR) := r3short_loop l hl l.length 0 k (by omega) hk
theorem r3good_loop (l : List Pz.S23) (hl : l.length ≤ 50000) : ∀ (d i k : Nat), i + d = l.length → d + 3 ≤ k → Pz.r3_Good.l0 k l (i : Int) = some ((l.drop i).all goodR)
 | 0, i, k, hi, hk => by
  obtain ⟨k, rfl⟩ : ∃ m, k = m + 1 := ⟨k - 1, by omega⟩
  simp only [Pz.r3_Good.l0]
  rw [if_neg (by omega), List.drop_of_length_le (by omega)]
  rfl
 | d + 1, i, k, hi, hk => by
  obtain ⟨k, rfl⟩ : ∃ m, k = m + 1 := ⟨k - 1, by omega⟩
  have hlt : i < l.length := by omega
  have e : Pz.rd_T23 l (i : Int) = l[i] := by
   unfold Pz.rd_T23
   rw [Int.toNat_natCast, List.getD_eq_getElem?_getD, List.getElem?_eq_getElem hlt]
   rfl
  have e2 : (l.take ((i : Int) + 1).toNat).drop ((i : Int)).toNat = [l[i]] := by
   have e3 : ((i : Int) + 1).toNat = i + 1 := by omega
   rw [e3, Int.toNat_natCast, List.take_add_one, List.getElem?_eq_getElem hlt, List.drop_append_of_le_length (by rw [List.length_take]; omega), List.drop_of_length_le (by rw [List.length_take]; omega)]
   rfl
  simp only [Pz.r3_Good.l0]
  rw [if_pos (by omega), if_pos (by omega), w64 (x := (i : Int) + 1) (by omega) (by omega), if_pos (by omega), if_pos (by omega), e2, r3short_f [l[i]] (by simp) k (by simp; omega), Option.bind_some, e, List.drop_eq_getElem_cons hlt, List.all_cons, List.all_cons, List.all_nil, Bool.and_true]
  have ih := r3good_loop l hl d (i + 1) k (by omega) (by omega)
  by_cases h1 : shortR l[i] = true
  ·have h1' := h1
   unfold shortR at h1'
   rw [Bool.and_eq_true, decide_eq_true_eq, decide_eq_true_eq] at h1'
   rw [if_pos h1, r3may_f (by omega) (by omega), Option.bind_some]
   by_cases h2 : mayR (l[i].f0, l[i].f1) = true
   ·have eg : goodR l[i] = true := by unfold goodR bbS; rw [h1, h2]; rfl
    rw [if_pos h2, eg, Bool.true_and]
    exact ih
   ·have eg : goodR l[i] = false := by unfold goodR bbS; rw [h1, (Bool.not_eq_true _).mp h2]; rfl
    rw [if_neg h2, eg]
    rfl
  ·have eg : goodR l[i] = false := by unfold goodR; rw [(Bool.not_eq_true _).mp h1]; rfl
   rw [if_neg h1, eg]
   rfl
theorem r3good_f (l : List Pz.S23) (hl : l.length ≤ 50000) (k : Nat) (hk : l.length + 3 ≤ k) : Pz.r3_Good.f k l = some (l.all goodR) := r3good_loop l hl l.length 0 k (by omega) hk
def r3_Short.f (l0 : List Pz.S23) : Option Bool := if l0.length ≤ 50000 then some (l0.all shortR) else none
theorem r3_Short.calls (A0 : Option Addr) (c0 : Nat) (l0 : List Pz.S23) (r : Bool) (w : World) (hr0 : Kd.C Pz.k23 w A0 l0.length l0) (hc0 : l0.length ≤ c0) (h : r3_Short.f l0 = some r) :
  Calls Tryz.prog 8 #[.slice A0 l0.length c0] w fun e w' => e = .returned (.bool r) ∧ Below w.heap.size w w' := by
 unfold r3_Short.f at h
 split at h
 ·rename_i hp
  rw [← r3short_f l0 hp _ (Nat.le_refl _)] at h
  exact (Pz.r3_Short.calls _ A0 c0 l0 r w hr0 hc0 h).mono fun e w' ⟨he, hw⟩ => ⟨he, drawn_below hw⟩
 ·cases h
def r3_Good.f (l0 : List Pz.S23) : Option Bool := if l0.length ≤ 50000 then some (l0.all goodR) else none
theorem r3_Good.calls (A0 : Option Addr) (c0 : Nat) (l0 : List Pz.S23) (r : Bool) (w : World) (hr0 : Kd.C Pz.k23 w A0 l0.length l0) (hc0 : l0.length ≤ c0) (h : r3_Good.f l0 = some r) :
  Calls Tryz.prog 16 #[.slice A0 l0.length c0] w fun e w' => e = .returned (.bool r) ∧ Below w.heap.size w w' := by
 unfold r3_Good.f at h
 split at h
 ·rename_i hp
  rw [← r3good_f l0 hp _ (Nat.le_refl _)] at h
  exact Pz.r3_Good.calls _ A0 c0 l0 r w hr0 hc0 h
 ·cases h
def r3_One.f (a0 a1 : Int) : Option BB := if (-9223372036854775808 ≤ a0 ∧ a0 ≤ 9223372036854775807) ∧ -9223372036854775808 ≤ a1 ∧ a1 ≤ 9223372036854775807 then some (if a1 = 0 then no2 else rT (Rat.divInt a0 a1)) else none
theorem r3_One.calls (a0 a1 : Int) (r1 r2 : ByteArray) (w : World) (h : r3_One.f a0 a1 = some (r1, r2)) :
  Calls Tryz.prog 23 #[.int .i64 a0, .int .i64 a1] w fun e w' => e = .returned (.agg #[.string r1, .string r2]) ∧ Below w.heap.size w w' := by
 unfold r3_One.f at h
 split at h
 ·rename_i hp
  rw [← r3one_f a0 a1 hp.1.1 hp.1.2 hp.2.1 hp.2.2 0] at h
  exact Pz.r3_One.calls _ a0 a1 r1 r2 w h
 ·cases h
end Go.Proofs.YtaldgaiaelbbaaaGreatDoor
end

section
namespace Go.Proofs.YtaldgaiaelbbaaaGreatDoor
def r3_May.f (a0_0 a0_1 : ByteArray) : Option (Bool) := if smR (a0_0, a0_1) = true then some (mayR (a0_0, a0_1)) else none
theorem r3_May.calls (a0_0 a0_1 : ByteArray) (r : Bool) (w : World) (h : r3_May.f a0_0 a0_1 = some r) :
  Calls Tryz.prog 38 #[.agg #[.string a0_0, .string a0_1]] w fun e w' => e = .returned (.bool r) ∧ Below w.heap.size w w' := by
 unfold r3_May.f at h
 split at h
 ·rename_i hp
  have hs := smR_le hp
  rw [← r3may_f (a := a0_0) (b := a0_1) (Nat.le_trans hs.1 (by decide)) (Nat.le_trans hs.2 (by decide))] at h
  exact Pz.r3_May.calls a0_0 a0_1 r w h
 ·cases h
def r3_Make.f (a0 a1 : ByteArray) : Option (ByteArray × ByteArray × Bool) := if smR (a0, a1) = true then some ((rmakeS a0 a1).1.1, (rmakeS a0 a1).1.2, (rmakeS a0 a1).2) else none
theorem r3_Make.calls (a0 a1 : ByteArray) (r1 : ByteArray) (r2 : ByteArray) (r3 : Bool) (w : World) (h : r3_Make.f a0 a1 = some (r1, r2, r3)) :
  Calls Tryz.prog 35 #[.string a0, .string a1] w fun e w' => e = .returned (.tuple #[.agg #[.string r1, .string r2], .bool r3]) ∧ Below w.heap.size w w' := by
 unfold r3_Make.f at h
 split at h
 ·rename_i hp
  have hs := smR_le hp
  rw [← r3make_f2 (a := a0) (b := a1) (Nat.le_trans hs.1 (by decide)) (Nat.le_trans hs.2 (by decide)) 0] at h
  exact Pz.r3_Make.calls _ a0 a1 r1 r2 r3 w h
 ·cases h
def r3_Neg.f (a0_0 a0_1 : ByteArray) : Option (ByteArray × ByteArray) := if smR (a0_0, a0_1) = true then some (rnegS (a0_0, a0_1)) else none
theorem r3_Neg.calls (a0_0 a0_1 : ByteArray) (r1 : ByteArray) (r2 : ByteArray) (w : World) (h : r3_Neg.f a0_0 a0_1 = some (r1, r2)) :
  Calls Tryz.prog 21 #[.agg #[.string a0_0, .string a0_1]] w fun e w' => e = .returned (.agg #[.string r1, .string r2]) ∧ Below w.heap.size w w' := by
 unfold r3_Neg.f at h
 split at h
 ·rename_i hp
  have hs := smR_le hp
  rw [← r3neg_f (x := (a0_0, a0_1)) (Nat.le_trans hs.1 (by decide)) (Nat.le_trans hs.2 (by decide))] at h
  exact Pz.r3_Neg.calls a0_0 a0_1 r1 r2 w h
 ·cases h
def r3_Add.f (a0_0 a0_1 a1_0 a1_1 : ByteArray) : Option (ByteArray × ByteArray) := if smR2 (a0_0, a0_1) (a1_0, a1_1) = true then some (raddS (a0_0, a0_1) (a1_0, a1_1)) else none
theorem r3_Add.calls (a0_0 a0_1 a1_0 a1_1 : ByteArray) (r1 : ByteArray) (r2 : ByteArray) (w : World) (h : r3_Add.f a0_0 a0_1 a1_0 a1_1 = some (r1, r2)) :
  Calls Tryz.prog 20 #[.agg #[.string a0_0, .string a0_1], .agg #[.string a1_0, .string a1_1]] w fun e w' => e = .returned (.agg #[.string r1, .string r2]) ∧ Below w.heap.size w w' := by
 unfold r3_Add.f at h
 split at h
 ·rename_i hp
  have hs := smR2_le hp
  rw [← r3add_f (x := (a0_0, a0_1)) (y := (a1_0, a1_1)) hs.1 hs.2.1 0] at h
  exact Pz.r3_Add.calls _ a0_0 a0_1 a1_0 a1_1 r1 r2 w h
 ·cases h
def r3_Mul.f (a0_0 a0_1 a1_0 a1_1 : ByteArray) : Option (ByteArray × ByteArray) := if smR2 (a0_0, a0_1) (a1_0, a1_1) = true then some (rmulS (a0_0, a0_1) (a1_0, a1_1)) else none
theorem r3_Mul.calls (a0_0 a0_1 a1_0 a1_1 : ByteArray) (r1 : ByteArray) (r2 : ByteArray) (w : World) (h : r3_Mul.f a0_0 a0_1 a1_0 a1_1 = some (r1, r2)) :
  Calls Tryz.prog 17 #[.agg #[.string a0_0, .string a0_1], .agg #[.string a1_0, .string a1_1]] w fun e w' => e = .returned (.agg #[.string r1, .string r2]) ∧ Below w.heap.size w w' := by
 unfold r3_Mul.f at h
 split at h
 ·rename_i hp
  have hs := smR2_le hp
  rw [← r3mul_f (x := (a0_0, a0_1)) (y := (a1_0, a1_1)) hs.1 hs.2.1 0] at h
  exact Pz.r3_Mul.calls _ a0_0 a0_1 a1_0 a1_1 r1 r2 w h
 ·cases h
def r3_Div.f (a0_0 a0_1 a1_0 a1_1 : ByteArray) : Option (ByteArray × ByteArray × Bool) := if smR2 (a0_0, a0_1) (a1_0, a1_1) = true then some ((rdivS (a0_0, a0_1) (a1_0, a1_1)).1.1, (rdivS (a0_0, a0_1) (a1_0, a1_1)).1.2, (rdivS (a0_0, a0_1) (a1_0, a1_1)).2) else none
theorem r3_Div.calls (a0_0 a0_1 a1_0 a1_1 : ByteArray) (r1 : ByteArray) (r2 : ByteArray) (r3 : Bool) (w : World) (h : r3_Div.f a0_0 a0_1 a1_0 a1_1 = some (r1, r2, r3)) :
  Calls Tryz.prog 19 #[.agg #[.string a0_0, .string a0_1], .agg #[.string a1_0, .string a1_1]] w fun e w' => e = .returned (.tuple #[.agg #[.string r1, .string r2], .bool r3]) ∧ Below w.heap.size w w' := by
 unfold r3_Div.f at h
 split at h
 ·rename_i hp
  have hs := smR2_le hp
  rw [← r3div_f (x := (a0_0, a0_1)) (y := (a1_0, a1_1)) hs.1 hs.2.1 0] at h
  exact Pz.r3_Div.calls _ a0_0 a0_1 a1_0 a1_1 r1 r2 r3 w h
 ·cases h
end Go.Proofs.YtaldgaiaelbbaaaGreatDoor
end

section
namespace Go.Proofs.YtaldgaiaelbbaaaGreatDoor
theorem smR_rT {q : Rat} (h : szR q ≤ 3999) : smR (rT q) = true := decide_eq_true ⟨Nat.le_trans (le_szR_num q) (by omega), Nat.le_trans (le_szR_den q) (by omega)⟩
theorem smR2_rT {p q : Rat} (hp : szR p ≤ 3999) (hq : szR q ≤ 3999) : smR2 (rT p) (rT q) = true := by
 unfold smR2
 rw [smR_rT hp, Bool.true_and]
 exact decide_eq_true ⟨Nat.le_trans (le_szR_num q) hq, Nat.le_trans (le_szR_den q) hq⟩
theorem hMake {x y : Int} (hx : szI x ≤ 4000) (hy : szI y ≤ 4000) (h : y ≠ 0) : rat_Make.f (intB x) (intB y) = some ((rT (Rat.divInt x y)).1, (rT (Rat.divInt x y)).2, true) := by
 unfold rat_Make.f rmakeS
 rw [if_pos (show smR (intB x, intB y) = true from decide_eq_true ⟨hx, hy⟩), may2W_int' x y, Bool.true_and, numW_int, numW_int, if_pos (decide_eq_true h)]
theorem rT_beq (p q : Rat) : ((rT p).1.toList == (rT q).1.toList && ((rT p).2.toList == (rT q).2.toList)) = decide (p = q) := by
 rw [Bool.eq_iff_iff, Bool.and_eq_true, beq_iff_eq, beq_iff_eq, toList_inj, toList_inj, decide_eq_true_eq, ← rT_inj, Prod.ext_iff]
theorem rT_bne (p q : Rat) : (!((rT p).1.toList == (rT q).1.toList) || (!((rT p).2.toList == (rT q).2.toList))) = !decide (p = q) := by
 rw [← rT_beq, Bool.not_and]
theorem goods2 {a b c d : ByteArray} : r3_Good.f [⟨a, b⟩, ⟨c, d⟩] = some (goodR ⟨a, b⟩ && goodR ⟨c, d⟩) := by
 unfold r3_Good.f
 rw [if_pos (by simp)]
 simp [List.all_cons]
theorem goods1 {a b : ByteArray} : r3_Good.f [⟨a, b⟩] = some (goodR ⟨a, b⟩) := by
 unfold r3_Good.f
 rw [if_pos (by simp)]
 simp [List.all_cons]
theorem of_good {a b : ByteArray} (h : goodR ⟨a, b⟩ = true) : ∃ q, a = (rT q).1 ∧ b = (rT q).2 ∧ szR q ≤ 200 := by
 unfold goodR bbS shortR at h
 rw [Bool.and_eq_true, Bool.and_eq_true, decide_eq_true_eq, decide_eq_true_eq] at h
 obtain ⟨⟨h1, h2⟩, h3⟩ := h
 obtain ⟨q, e, s⟩ := of_mayR' h3
 refine ⟨q, congrArg Prod.fst e, congrArg Prod.snd e, ?_⟩
 rw [s]
 have h1' : a.size ≤ 100 := h1
 have h2' : b.size ≤ 100 := h2
 show a.size + b.size ≤ 200
 omega
end Go.Proofs.YtaldgaiaelbbaaaGreatDoor
end

section
namespace Go.Proofs.YtaldgaiaelbbaaaGreatDoor
theorem r3of_f (n : Int) (h0 : -9223372036854775808 ≤ n) (h1 : n ≤ 9223372036854775807) : Pz.r3_Of.f n = some (rT (n : Rat)) := by
 unfold Pz.r3_Of.f r2_Of.f
 rw [if_pos ⟨h0, h1⟩, Option.bind_some, ← natB_one]
 rfl
def r3_Of.f (a0 : Int) : Option (ByteArray × ByteArray) := if -9223372036854775808 ≤ a0 ∧ a0 ≤ 9223372036854775807 then some (rT (a0 : Rat)) else none
theorem r3_Of.calls (a0 : Int) (r1 : ByteArray) (r2 : ByteArray) (w : World) (h : r3_Of.f a0 = some (r1, r2)) :
  Calls Tryz.prog 22 #[.int .i64 a0] w fun e w' => e = .returned (.agg #[.string r1, .string r2]) ∧ Below w.heap.size w w' := by
 unfold r3_Of.f at h
 split at h
 ·rename_i hp
  rw [← r3of_f a0 hp.1 hp.2] at h
  exact Pz.r3_Of.calls a0 r1 r2 w h
 ·cases h
end Go.Proofs.YtaldgaiaelbbaaaGreatDoor
end

section
namespace Go.Proofs.YtaldgaiaelbbaaaGreatDoor
theorem kAdd {p q : Rat} (hp : szR p ≤ 3999) (hq : szR q ≤ 3999) : r3_Add.f (rT p).1 (rT p).2 (rT q).1 (rT q).2 = some (rT (p + q)) := by
 unfold r3_Add.f raddS
 rw [if_pos (smR2_rT hp hq), if_pos (may2R_rT p q), ratR_rT, ratR_rT]
theorem kMul {p q : Rat} (hp : szR p ≤ 3999) (hq : szR q ≤ 3999) : r3_Mul.f (rT p).1 (rT p).2 (rT q).1 (rT q).2 = some (rT (p * q)) := by
 unfold r3_Mul.f rmulS
 rw [if_pos (smR2_rT hp hq), if_pos (may2R_rT p q), ratR_rT, ratR_rT]
theorem kDiv {p q : Rat} (hp : szR p ≤ 3999) (hq : szR q ≤ 3999) (h : q ≠ 0) : r3_Div.f (rT p).1 (rT p).2 (rT q).1 (rT q).2 = some ((rT (p / q)).1, (rT (p / q)).2, true) := by
 unfold r3_Div.f rdivS
 rw [if_pos (smR2_rT hp hq), may2R_rT p q, Bool.true_and, ratR_rT, ratR_rT, if_pos (decide_eq_true h)]
theorem kNeg {p : Rat} (hp : szR p ≤ 3999) : r3_Neg.f (rT p).1 (rT p).2 = some (rT (-p)) := by
 unfold r3_Neg.f rnegS
 rw [if_pos (smR_rT hp), if_pos (mayR_rT p), ratR_rT]
theorem kOf {n : Int} (h0 : -9223372036854775808 ≤ n) (h1 : n ≤ 9223372036854775807) : r3_Of.f n = some (rT (n : Rat)) := by
 unfold r3_Of.f
 rw [if_pos ⟨h0, h1⟩]
theorem kOne {a b : Int} (h0 : -9223372036854775808 ≤ a) (h1 : a ≤ 9223372036854775807) (h2 : -9223372036854775808 ≤ b) (h3 : b ≤ 9223372036854775807) (h : b ≠ 0) : r3_One.f a b = some (rT (Rat.divInt a b)) := by
 unfold r3_One.f
 rw [if_pos ⟨⟨h0, h1⟩, h2, h3⟩, if_neg h]
theorem rT_int' (w : Int) : (rT (w : Rat)).1 = intB w := by
 show intB ((w : Rat)).num = _
 rw [Rat.num_intCast]
end Go.Proofs.YtaldgaiaelbbaaaGreatDoor
end
