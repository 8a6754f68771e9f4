/-
Parts of the proof, in build order: NumR4, DecS, DecW, DecL, DecB, Shelf4, Lib4, Lib4w, Pd0, Pd1, Pd2, Pd3, Pd, DecApi, DecDone, Pe0, Pe1, Pe2, Pe3, Pe4, Pe, Ref4Api, Ref4Done, NumD, Pf40, Pf41, Pf42, Pf43, Pf4, Fixed4, Agg, Rowb.
-/
import Derived.Test.YtaldgaiaelbbaaaGreatDoorC4
import Derived.Test.YtaldgaiaelbbaaaGreatDoorC3
import Derived.Test.YtaldgaiaelbbaaaGreatDoorC2
import Derived.Lib.SlTrimSet
import Derived.Lib.IndexMore
import Derived.Lib.IndexBytes
import Derived.Test.YtaldgaiaelbbaaaGreatDoorC1
import Derived.Shelf.Strings.Trim
import Derived.Shelf.Strings.Cut
import Derived.Shelf.Strings.SlTrimAscii
import Derived.Test.YtaldgaiaelbbaaaGreatDoorProg
import Derived.Below
import Derived.Deep.Draws
import Derived.Deep.AppendLies
import Derived.Maps.AppendAt
import Derived.OwnWalk
import Derived.Laws.BytesArg
import Derived.Laws.MakeOwn
import Derived.Laws.OwnMore
import Derived.Deep.OwnRows
import Derived.Tactics
import Derived.Lib.ConvBytes
import Derived.Laws.Slices
import Derived.WalkKit
import Derived.KernelRfl
import Derived.RowKit3
import Derived.Deep.LoopGhost
import Derived.Deep.QuietTactic
import Derived.BigQuiet
import Derived.WideLaws
import Derived.Deep.DeepCutAuto
import Derived.Deep.CutBlock
import Derived.Deep.RegionHeld3
import Derived.Laws.Rows
import Derived.Lib.AppendStr
import Derived.ArgAppend
import Derived.Laws.IdiomCopy
import Derived.OrdersHeld
import Derived.Laws.BitsLemmas
import Derived.RowKit
import Derived.Test.YtaldgaiaelbbaaaGreatDoorC0
import Derived.Lib.SmallJoins
import Derived.Laws.IdiomArrays
import Derived.ChangeMaps5
import Derived.Test.YtaldgaiaelbbaaaGreatDoorRows
import Derived.ProofKit
import Derived.OpenShut
import Derived.ShutString
import Derived.ChangeOld
import Derived.SizedLaws
import Derived.LaidMore
import Derived.LaidHandle
import Derived.MakeChecks
import Derived.Lib.LaidTab
import Derived.Stop.LaidErr
import Derived.Stop.Joined
import Derived.RowKitTokens
import Derived.JoinedOf
import Derived.JoinedAt
import Derived.ChangeVars
import Derived.ChangeSame
import Derived.LaidLaws
import Derived.HandedShaped
import Derived.Shelf.Vars
import Derived.Lay
set_option linter.unusedVariables false
set_option linter.unusedSimpArgs false
open Go.RowKit Go.Proofs.YtaldgaiaelbbaaaGreatDoorW.PrintWords Go.Proofs.YtaldgaiaelbbaaaGreatDoorW.PrintLast Go.Proofs.YtaldgaiaelbbaaaGreatDoorW.PrintMore
section
namespace Go.Proofs.YtaldgaiaelbbaaaGreatDoor
end Go.Proofs.YtaldgaiaelbbaaaGreatDoor
end

section
namespace Go.Proofs.YtaldgaiaelbbaaaGreatDoor
def tms (b n : Nat) : Nat × Nat := if h : 2 ≤ b ∧ 0 < n ∧ n % b = 0 then ((tms b (n / b)).1 + 1, (tms b (n / b)).2) else (0, n)
 termination_by n
 decreasing_by all_goals exact Nat.div_lt_self h.2.1 h.1
theorem tms_step {b n : Nat} (hb : 2 ≤ b) (hn : 0 < n) (h : n % b = 0) : tms b n = ((tms b (n / b)).1 + 1, (tms b (n / b)).2) := by
 rw [tms, dif_pos ⟨hb, hn, h⟩]
theorem tms_stop {b n : Nat} (h : n % b ≠ 0) : tms b n = (0, n) := by
 rw [tms, dif_neg (fun z => h z.2.2)]
theorem tms_spec {b : Nat} (hb : 2 ≤ b) : ∀ n : Nat, 0 < n → b ^ (tms b n).1 * (tms b n).2 = n ∧ (tms b n).2 % b ≠ 0
 | n, hn => by
  by_cases h : n % b = 0
  ·have hd : b ∣ n := Nat.dvd_of_mod_eq_zero h
   have h1 : 0 < n / b := Nat.div_pos (Nat.le_of_dvd hn hd) (by omega)
   have ih := tms_spec hb (n / b) h1
   rw [tms_step hb hn h]
   refine ⟨?_, ih.2⟩
   show b ^ ((tms b (n / b)).1 + 1) * (tms b (n / b)).2 = n
   rw [Nat.pow_succ, Nat.mul_comm (b ^ _) b, Nat.mul_assoc, ih.1, Nat.mul_div_cancel' hd]
  ·rw [tms_stop h]
   exact ⟨by simp, h⟩
 termination_by n => n
 decreasing_by exact Nat.div_lt_self hn hb
def finD (n : Nat) : Bool := (tms 5 (tms 2 n).2).2 == 1
def plD (n : Nat) : Nat := max (tms 2 n).1 (tms 5 (tms 2 n).2).1
theorem co_p {p n : Nat} (hp : p = 2 ∨ p = 5) (h : n % p ≠ 0) : Nat.Coprime n p := by
 unfold Nat.Coprime
 have h1 := Nat.gcd_dvd_right n p
 have h2 := Nat.gcd_dvd_left n p
 have h3 : Nat.gcd n p ≤ p := Nat.le_of_dvd (by omega) h1
 rcases hp with rfl | rfl
 ·have h4 : Nat.gcd n 2 = 0 ∨ Nat.gcd n 2 = 1 ∨ Nat.gcd n 2 = 2 := by omega
  rcases h4 with e | e | e <;> rw [e] at h1 h2 ⊢ <;> first | omega | (exact absurd h1 (by decide))
 ·have h4 : Nat.gcd n 5 = 0 ∨ Nat.gcd n 5 = 1 ∨ Nat.gcd n 5 = 2 ∨ Nat.gcd n 5 = 3 ∨ Nat.gcd n 5 = 4 ∨ Nat.gcd n 5 = 5 := by omega
  rcases h4 with e | e | e | e | e | e <;> rw [e] at h1 h2 ⊢ <;> first | omega | (exact absurd h1 (by decide))
theorem parts {n : Nat} (hn : 0 < n) : ∃ a c r, (tms 2 n).1 = a ∧ (tms 5 (tms 2 n).2).1 = c ∧ (tms 5 (tms 2 n).2).2 = r ∧ 2 ^ a * (5 ^ c * r) = n ∧ (5 ^ c * r) % 2 ≠ 0 ∧ r % 2 ≠ 0 ∧ r % 5 ≠ 0 := by
 obtain ⟨h1, h2⟩ := tms_spec (b := 2) (by decide) n hn
 have hp : 0 < (tms 2 n).2 := by
  rcases Nat.eq_zero_or_pos (tms 2 n).2 with e | e
  ·rw [e] at h2; exact absurd rfl h2
  ·exact e
 obtain ⟨h3, h4⟩ := tms_spec (b := 5) (by decide) _ hp
 refine ⟨_, _, _, rfl, rfl, rfl, ?_, ?_, ?_, h4⟩
 ·rw [h3, h1]
 ·rw [h3]; exact h2
 ·intro e
  apply h2
  rw [← h3, Nat.mul_mod, e, Nat.mul_zero, Nat.zero_mod]
theorem ten_pow (k : Nat) : (10 : Nat) ^ k = 2 ^ k * 5 ^ k := by rw [← Nat.mul_pow]
theorem dvd_ten {n : Nat} (hn : 0 < n) (k : Nat) : n ∣ 10 ^ k ↔ finD n = true ∧ plD n ≤ k := by
 obtain ⟨a, c, r, ha, hc, hr, h1, h2, h3, h4⟩ := parts hn
 unfold finD plD
 rw [hr, hc, ha, beq_iff_eq, Nat.max_le]
 have c2 : Nat.Coprime r 2 := co_p (.inl rfl) h3
 have c5 : Nat.Coprime r 5 := co_p (.inr rfl) h4
 constructor
 ·intro h
  have hr10 : r ∣ 2 ^ k * 5 ^ k := by
   rw [← ten_pow]
   refine Nat.dvd_trans ⟨2 ^ a * 5 ^ c, ?_⟩ h
   rw [← h1, Nat.mul_comm r, Nat.mul_assoc]
  have r1 : r = 1 := by
   have e1 := Nat.Coprime.pow 1 k c2
   have e2 := Nat.Coprime.pow 1 k c5
   rw [Nat.pow_one] at e1 e2
   exact Nat.Coprime.eq_one_of_dvd e2 (Nat.Coprime.dvd_of_dvd_mul_left e1 hr10)
  refine ⟨r1, ?_, ?_⟩
  ·have d2 : 2 ^ a ∣ 5 ^ k * 2 ^ k := by
    rw [Nat.mul_comm, ← ten_pow]
    exact Nat.dvd_trans ⟨5 ^ c * r, h1.symm⟩ h
   have co : Nat.Coprime (2 ^ a) (5 ^ k) := Nat.Coprime.pow a k (by decide)
   exact (Nat.pow_dvd_pow_iff_le_right (by decide)).1 (Nat.Coprime.dvd_of_dvd_mul_left co d2)
  ·have d5 : 5 ^ c ∣ 2 ^ k * 5 ^ k := by
    rw [← ten_pow]
    refine Nat.dvd_trans ⟨2 ^ a * r, ?_⟩ h
    rw [← h1, Nat.mul_comm (5 ^ c) (2 ^ a * r), Nat.mul_assoc, Nat.mul_comm r]
   have co : Nat.Coprime (5 ^ c) (2 ^ k) := Nat.Coprime.pow c k (by decide)
   exact (Nat.pow_dvd_pow_iff_le_right (by decide)).1 (Nat.Coprime.dvd_of_dvd_mul_left co d5)
 ·rintro ⟨r1, ha', hc'⟩
  rw [← h1, r1, Nat.mul_one, ten_pow]
  exact Nat.mul_dvd_mul (Nat.pow_dvd_pow 2 ha') (Nat.pow_dvd_pow 5 hc')
theorem plD_one : plD 1 = 0 := by
 unfold plD
 rw [tms_stop (b := 2) (by decide), tms_stop (b := 5) (by decide)]
 rfl
theorem finD_one : finD 1 = true := by
 unfold finD
 rw [tms_stop (b := 2) (by decide), tms_stop (b := 5) (by decide)]
 rfl
theorem plD_zero {n : Nat} (hn : 0 < n) (hf : finD n = true) (h : plD n = 0) : n = 1 := by
 have := (dvd_ten hn 0).2 ⟨hf, by omega⟩
 rw [Nat.pow_zero] at this
 exact Nat.dvd_one.1 this
def cutAt (c : UInt8) : List UInt8 → Option (List UInt8 × List UInt8)
 | [] => none
 | x :: r => if x = c then some ([], r) else (cutAt c r).map fun p => (x :: p.1, p.2)
theorem cutAt_none {c : UInt8} : ∀ {l : List UInt8}, c ∉ l → cutAt c l = none
 | [], _ => rfl
 | x :: r, h => by
  have h1 : ¬ x = c := fun e => h (by rw [e]; exact List.mem_cons_self)
  have h2 : c ∉ r := fun e => h (List.mem_cons_of_mem _ e)
  unfold cutAt
  rw [if_neg h1, cutAt_none h2]
  rfl
theorem cutAt_some {c : UInt8} : ∀ {a : List UInt8} (b : List UInt8), c ∉ a → cutAt c (a ++ c :: b) = some (a, b)
 | [], b, _ => by
  show cutAt c (c :: b) = _
  unfold cutAt
  rw [if_pos rfl]
 | x :: r, b, h => by
  have h1 : ¬ x = c := fun e => h (by rw [e]; exact List.mem_cons_self)
  have h2 : c ∉ r := fun e => h (List.mem_cons_of_mem _ e)
  show cutAt c (x :: (r ++ c :: b)) = _
  unfold cutAt
  rw [if_neg h1, cutAt_some b h2]
  rfl
def digL (l : List UInt8) : Bool := decide (l ≠ []) && l.all isDig
theorem digL_dec (n : Nat) : digL (Lib.decDigits n) = true := by
 unfold digL
 rw [dig_all, decide_eq_true (dig_ne n)]
 rfl
theorem not_mem_dig {c : UInt8} (hc : isDig c = false) {l : List UInt8} (h : l.all isDig = true) : c ∉ l := by
 intro hm
 have := List.all_eq_true.1 h c hm
 rw [hc] at this
 exact absurd this (by decide)
theorem num_zeros : ∀ (k : Nat) (l : List UInt8), num (List.replicate k 48 ++ l) = num l
 | 0, l => rfl
 | k + 1, l => by
  rw [List.replicate_succ, List.cons_append, num_cons, num_zeros k l]
  have : (48 : UInt8).toNat - 48 = 0 := rfl
  rw [this, Nat.zero_mul, Nat.zero_add]
def sgL (z : Int) : List UInt8 := if z < 0 then [45] else []
theorem intL (z : Int) : (intB z).data.toList = sgL z ++ Lib.decDigits z.natAbs := by
 unfold intB sgL
 by_cases h : z < 0
 ·rw [if_pos h, if_pos h, neg_list]
  rfl
 ·rw [if_neg h, if_neg h, natB_list]
  rfl
theorem cutL_sg (z : Int) {A : List UInt8} (hA : A.head? ≠ some 45) : cutL (sgL z ++ A) = (A, decide (z < 0)) := by
 unfold sgL
 by_cases h : z < 0
 ·rw [if_pos h, decide_eq_true h]
  rfl
 ·rw [if_neg h, decide_eq_false h]
  show cutL A = _
  unfold cutL
  split
  ·exact absurd rfl hA
  ·rfl
theorem head_all {A B : List UInt8} (h : A.all isDig = true) (h1 : A ≠ []) : (A ++ B).head? ≠ some 45 := by
 cases A with
 | nil => exact absurd rfl h1
 | cons x r =>
  simp only [List.cons_append, List.head?_cons]
  intro e
  have e' : x = 45 := Option.some.inj e
  subst e'
  simp only [List.all_cons, Bool.and_eq_true] at h
  exact absurd h.1 (by decide)
def parseA (s : List UInt8) : Option Rat :=
 match cutAt 47 (cutL s).1 with
 | some (a, b) => if (digL a && digL b) = true then (if num b = 0 then none else some (Rat.divInt (withS (cutL s).2 (num a)) (num b : Int))) else none
 | none => match cutAt 46 (cutL s).1 with
  | some (a, b) => if (digL a && digL b) = true then some (Rat.divInt (withS (cutL s).2 (num (a ++ b))) ((10 ^ b.length : Nat) : Int)) else none
  | none => if digL (cutL s).1 = true then some ((withS (cutL s).2 (num (cutL s).1) : Int) : Rat) else none
def parseL (s : List UInt8) : Option Rat := if 1000 < s.length then none else parseA s
def padL (n : Nat) (l : List UInt8) : List UInt8 := List.replicate (n + 1 - l.length) 48 ++ l
def digsL (x : Rat) : List UInt8 := padL (plD x.den) (Lib.decDigits (x.num.natAbs * (10 ^ plD x.den / x.den)))
def printL (x : Rat) : List UInt8 :=
 if finD x.den = true then
  (if plD x.den = 0 then (intB x.num).data.toList else sgL x.num ++ ((digsL x).take ((digsL x).length - plD x.den) ++ 46 :: (digsL x).drop ((digsL x).length - plD x.den)))
 else (intB x.num).data.toList ++ 47 :: Lib.decDigits x.den
theorem withS_back (z : Int) : withS (decide (z < 0)) z.natAbs = z := by
 unfold withS
 by_cases h : z < 0
 ·rw [if_pos (decide_eq_true h)]; omega
 ·rw [if_neg (by rw [decide_eq_true_eq]; exact h)]; omega
theorem withS_times (b : Bool) (m u : Nat) : withS b (m * u) = withS b m * (u : Int) := by
 unfold withS
 cases b <;> simp [Int.natCast_mul, Int.neg_mul]
theorem pad_len (n : Nat) (l : List UInt8) : n + 1 ≤ (padL n l).length := by
 unfold padL
 rw [List.length_append, List.length_replicate]
 omega
theorem pad_all {n : Nat} {l : List UInt8} (h : l.all isDig = true) : (padL n l).all isDig = true := by
 unfold padL
 rw [List.all_append, h, Bool.and_true, List.all_eq_true]
 intro c hc
 rw [List.eq_of_mem_replicate hc]
 rfl
theorem pad_num (n : Nat) (l : List UInt8) : num (padL n l) = num l := num_zeros _ _
theorem all_take {l : List UInt8} (h : l.all isDig = true) (k : Nat) : (l.take k).all isDig = true := by
 rw [List.all_eq_true] at h ⊢
 exact fun c hc => h c (List.mem_of_mem_take hc)
theorem all_drop {l : List UInt8} (h : l.all isDig = true) (k : Nat) : (l.drop k).all isDig = true := by
 rw [List.all_eq_true] at h ⊢
 exact fun c hc => h c (List.mem_of_mem_drop hc)
theorem parse_all (x : Rat) : parseA (printL x) = some x := by
 have hd : 0 < x.den := Nat.pos_of_ne_zero x.den_nz
 unfold parseA printL
 by_cases hf : finD x.den = true
 ·rw [if_pos hf]
  by_cases h0 : plD x.den = 0
  ·rw [if_pos h0, intL, cutL_sg _ (by have := head_all (B := []) (dig_all x.num.natAbs) (dig_ne _); rwa [List.append_nil] at this)]
   have h1 := plD_zero hd hf h0
   simp only [cutAt_none (not_mem_dig (c := 47) (by decide) (dig_all x.num.natAbs)), cutAt_none (not_mem_dig (c := 46) (by decide) (dig_all x.num.natAbs))]
   rw [if_pos (digL_dec _), num_dig, withS_back]
   congr 1
   have h2 := Rat.num_divInt_den x
   rw [h1] at h2
   have h3 := Rat.num_divInt_den (x.num : Rat)
   rw [Rat.num_intCast, Rat.den_intCast] at h3
   exact h3.symm.trans h2
  ·rw [if_neg h0]
   have hdv := (dvd_ten hd (plD x.den)).2 ⟨hf, Nat.le_refl _⟩
   have hn := pad_num (plD x.den) (Lib.decDigits (x.num.natAbs * (10 ^ plD x.den / x.den)))
   have hal := pad_all (n := plD x.den) (dig_all (x.num.natAbs * (10 ^ plD x.den / x.den)))
   have hle := pad_len (plD x.den) (Lib.decDigits (x.num.natAbs * (10 ^ plD x.den / x.den)))
   unfold digsL
   rw [num_dig] at hn
   generalize padL (plD x.den) (Lib.decDigits (x.num.natAbs * (10 ^ plD x.den / x.den))) = D at *
   have a1 := all_take hal (D.length - plD x.den)
   have a2 := all_drop hal (D.length - plD x.den)
   have n1 : D.take (D.length - plD x.den) ≠ [] := by
    intro e
    have := congrArg List.length e
    rw [List.length_take, List.length_nil] at this
    omega
   have l2 : (D.drop (D.length - plD x.den)).length = plD x.den := by rw [List.length_drop]; omega
   have n2 : D.drop (D.length - plD x.den) ≠ [] := by
    intro e
    rw [e, List.length_nil] at l2
    omega
   have nm : (47 : UInt8) ∉ D.take (D.length - plD x.den) ++ 46 :: D.drop (D.length - plD x.den) := by
    rw [List.mem_append, List.mem_cons]
    rintro (h | h | h)
    ·exact not_mem_dig (by decide) a1 h
    ·exact absurd h (by decide)
    ·exact not_mem_dig (by decide) a2 h
   rw [cutL_sg _ (head_all a1 n1)]
   simp only [cutAt_none nm, cutAt_some (D.drop (D.length - plD x.den)) (not_mem_dig (c := 46) (by decide) a1)]
   rw [if_pos (by unfold digL; rw [a1, a2, decide_eq_true n1, decide_eq_true n2]; rfl), List.take_append_drop, hn, l2, withS_times, withS_back]
   congr 1
   obtain ⟨u, hu⟩ := hdv
   have e1 : 10 ^ plD x.den / x.den = u := by rw [hu, Nat.mul_div_cancel_left _ hd]
   have hu0 : (u : Int) ≠ 0 := by
    intro e
    have e' : u = 0 := by omega
    rw [e', Nat.mul_zero] at hu
    have := Nat.pow_le_pow_right (show 0 < 10 by decide) (Nat.zero_le (plD x.den))
    rw [Nat.pow_zero] at this
    omega
   rw [e1, hu, Int.natCast_mul, Rat.divInt_mul_right hu0, Rat.num_divInt_den]
 ·rw [if_neg hf, intL, List.append_assoc, cutL_sg _ (head_all (dig_all _) (dig_ne _))]
  simp only [cutAt_some (Lib.decDigits x.den) (not_mem_dig (c := 47) (by decide) (dig_all x.num.natAbs))]
  rw [if_pos (by rw [digL_dec, digL_dec]; rfl), num_dig, num_dig, if_neg x.den_nz, withS_back, Rat.num_divInt_den]
theorem parse_print (x : Rat) (hl : (printL x).length ≤ 1000) : parseL (printL x) = some x := by
 unfold parseL
 rw [if_neg (by omega), parse_all]
theorem print_inj {x y : Rat} (h : printL x = printL y) : x = y := by
 have h1 := parse_all x
 rw [h, parse_all] at h1
 exact (Option.some.inj h1).symm
end Go.Proofs.YtaldgaiaelbbaaaGreatDoor
end

section
namespace Go.Proofs.YtaldgaiaelbbaaaGreatDoor
theorem plD_le {n s : Nat} (hn : 0 < n) (h : n < 10 ^ s) : plD n ≤ 4 * s := by
 obtain ⟨a, c, r, ha, hc, hr, h1, h2, h3, h4⟩ := parts hn
 have r0 : 0 < r := by
  rcases Nat.eq_zero_or_pos r with e | e
  ·rw [e] at h3; exact absurd rfl h3
  ·exact e
 unfold plD
 rw [ha, hc]
 have p5 : 0 < 5 ^ c := by have := Nat.pow_le_pow_right (show 0 < 5 by decide) (Nat.zero_le c); rw [Nat.pow_zero] at this; omega
 have p2 : 0 < 2 ^ a := by have := Nat.pow_le_pow_right (show 0 < 2 by decide) (Nat.zero_le a); rw [Nat.pow_zero] at this; omega
 have a1 : 2 ^ a ≤ n := by
  rw [← h1]
  exact Nat.le_mul_of_pos_right _ (Nat.mul_pos p5 r0)
 have c1 : 5 ^ c ≤ n := by
  rw [← h1]
  refine Nat.le_trans (Nat.le_mul_of_pos_right _ r0) (Nat.le_mul_of_pos_left _ p2)
 have up : (10 : Nat) ^ s ≤ 2 ^ (4 * s) := by
  rw [Nat.pow_mul]
  exact Nat.pow_le_pow_left (by decide) s
 have up5 : (10 : Nat) ^ s ≤ 5 ^ (2 * s) := by
  rw [Nat.pow_mul]
  exact Nat.pow_le_pow_left (by decide) s
 have a2 : a < 4 * s := by
  rcases Nat.lt_or_ge a (4 * s) with e | e
  ·exact e
  ·have := Nat.pow_le_pow_right (show 0 < 2 by decide) e
   omega
 have c2 : c < 2 * s := by
  rcases Nat.lt_or_ge c (2 * s) with e | e
  ·exact e
  ·have := Nat.pow_le_pow_right (show 0 < 5 by decide) e
   omega
 omega
theorem head_dig' {A : List UInt8} (h : digL A = true) : A.all isDig = true ∧ A ≠ [] ∧ A.head? ≠ some 45 := by
 unfold digL at h
 rw [Bool.and_eq_true, decide_eq_true_eq] at h
 refine ⟨h.2, h.1, ?_⟩
 have := head_all (B := []) h.2 h.1
 rwa [List.append_nil] at this
theorem cutL_dig {A : List UInt8} (hA : A.head? ≠ some 45) : cutL A = (A, false) := by
 have h := cutL_sg 0 hA
 rw [show sgL 0 = [] from rfl, List.nil_append] at h
 rw [h]
 rfl
theorem cutL_minus (A : List UInt8) : cutL (45 :: A) = (A, true) := rfl
theorem parse_digs {A : List UInt8} (h : digL A = true) (hl : A.length ≤ 1000) : parseL A = some ((num A : Int) : Rat) := by
 obtain ⟨h1, h2, h3⟩ := head_dig' h
 unfold parseL
 rw [if_neg (by omega)]
 unfold parseA
 rw [cutL_dig h3]
 simp only [cutAt_none (not_mem_dig (c := 47) (by decide) h1), cutAt_none (not_mem_dig (c := 46) (by decide) h1)]
 rw [if_pos h]
 rfl
theorem point_none {A B : List UInt8} (h1 : A.all isDig = true) (h2 : B.all isDig = true) : (47 : UInt8) ∉ A ++ 46 :: B := by
 rw [List.mem_append, List.mem_cons]
 rintro (h | h | h)
 ·exact not_mem_dig (by decide) h1 h
 ·exact absurd h (by decide)
 ·exact not_mem_dig (by decide) h2 h
theorem parse_point {A B : List UInt8} (hA : digL A = true) (hB : digL B = true) (hl : A.length + B.length + 1 ≤ 1000) : parseL (A ++ 46 :: B) = some (Rat.divInt (num (A ++ B) : Int) ((10 ^ B.length : Nat) : Int)) := by
 obtain ⟨h1, h2, h3⟩ := head_dig' hA
 obtain ⟨h4, h5, h6⟩ := head_dig' hB
 unfold parseL
 rw [if_neg (by rw [List.length_append, List.length_cons]; omega)]
 unfold parseA
 rw [cutL_dig (head_all h1 h2)]
 simp only [cutAt_none (point_none h1 h4), cutAt_some B (not_mem_dig (c := 46) (by decide) h1)]
 rw [if_pos (by rw [hA, hB]; rfl)]
 rfl
theorem parse_minus {A B : List UInt8} (hA : digL A = true) (hB : digL B = true) (hl : A.length + B.length + 2 ≤ 1000) : parseL (45 :: (A ++ 46 :: B)) = some (-(Rat.divInt (num (A ++ B) : Int) ((10 ^ B.length : Nat) : Int))) := by
 obtain ⟨h1, h2, h3⟩ := head_dig' hA
 obtain ⟨h4, h5, h6⟩ := head_dig' hB
 unfold parseL
 rw [if_neg (by rw [List.length_cons, List.length_append, List.length_cons]; omega)]
 unfold parseA
 rw [cutL_minus]
 simp only [cutAt_none (point_none h1 h4), cutAt_some B (not_mem_dig (c := 46) (by decide) h1)]
 rw [if_pos (by rw [hA, hB]; rfl), Rat.neg_divInt]
 rfl
theorem tenI_ne (k : Nat) : ((10 ^ k : Nat) : Int) ≠ 0 := by
 have := Nat.pow_le_pow_right (show 0 < 10 by decide) (Nat.zero_le k)
 rw [Nat.pow_zero] at this
 omega
theorem point_sum (A B : List UInt8) : Rat.divInt (num (A ++ B) : Int) ((10 ^ B.length : Nat) : Int) = ((num A : Int) : Rat) + ((num B : Int) : Rat) / (((10 ^ B.length : Nat) : Int) : Rat) := by
 have hne : (((10 ^ B.length : Nat) : Int) : Rat) ≠ 0 := by
  intro e
  have e0 : ((0 : Int) : Rat) = 0 := rfl
  rw [← e0, Rat.intCast_inj] at e
  exact tenI_ne _ e
 rw [num_append, Rat.divInt_eq_div, Int.natCast_add, Int.natCast_mul, Rat.intCast_add, Rat.intCast_mul]
 grind
theorem num_more (l : List UInt8) (z : Nat) : num (l ++ List.replicate z 48) = num l * 10 ^ z := by
 rw [num_append, List.length_replicate]
 have h := num_zeros z []
 rw [List.append_nil] at h
 rw [h]
 rfl
theorem dig_more {B : List UInt8} (h : digL B = true) (z : Nat) : digL (B ++ List.replicate z 48) = true := by
 obtain ⟨h1, h2, h3⟩ := head_dig' h
 unfold digL
 rw [List.all_append, h1, Bool.true_and, Bool.and_eq_true, decide_eq_true_eq]
 refine ⟨by intro e; exact h2 (List.append_eq_nil_iff.1 e).1, ?_⟩
 rw [List.all_eq_true]
 intro c hc
 rw [List.eq_of_mem_replicate hc]
 rfl
theorem point_zeros (A B : List UInt8) (z : Nat) : Rat.divInt (num (A ++ (B ++ List.replicate z 48)) : Int) ((10 ^ (B ++ List.replicate z 48).length : Nat) : Int) = Rat.divInt (num (A ++ B) : Int) ((10 ^ B.length : Nat) : Int) := by
 rw [← List.append_assoc, num_more, List.length_append, List.length_replicate, Nat.pow_add, Int.natCast_mul, Int.natCast_mul]
 exact Rat.divInt_mul_right (tenI_ne z)
theorem den_one {q : Rat} : q.den = 1 ↔ ((q.num : Int) : Rat) = q := by
 constructor
 ·intro h
  have h2 := Rat.num_divInt_den q
  rw [h] at h2
  have h3 := Rat.num_divInt_den (q.num : Rat)
  rw [Rat.num_intCast, Rat.den_intCast] at h3
  exact h3.symm.trans h2
 ·intro h
  rw [← h, Rat.den_intCast]
theorem den_dvd (x : Rat) (m : Nat) : (x * ((m : Int) : Rat)).den = 1 ↔ x.den ∣ m := by
 have hx : x * ((x.den : Int) : Rat) = ((x.num : Int) : Rat) := by
  have hne : ((x.den : Int) : Rat) ≠ 0 := by
   intro e
   have e0 : ((0 : Int) : Rat) = 0 := rfl
   rw [← e0, Rat.intCast_inj] at e
   exact x.den_nz (by omega)
  have h2 := Rat.num_divInt_den x
  rw [Rat.divInt_eq_div] at h2
  have h3 := Rat.div_mul_cancel (a := ((x.num : Int) : Rat)) hne
  rw [h2] at h3
  exact h3
 constructor
 ·intro h
  have h1 := den_one.1 h
  generalize (x * ((m : Int) : Rat)).num = k at h1
  have h2 : ((x.num * (m : Int) : Int) : Rat) = ((k * (x.den : Int) : Int) : Rat) := by
   rw [Rat.intCast_mul, Rat.intCast_mul, h1, ← hx]
   grind
  rw [Rat.intCast_inj] at h2
  have h3 : (x.den : Int) ∣ x.num * (m : Int) := ⟨k, by rw [h2, Int.mul_comm]⟩
  have h4 : x.den ∣ x.num.natAbs * m := by
   have := Int.natAbs_dvd_natAbs.2 h3
   rwa [Int.natAbs_mul, Int.natAbs_natCast, Int.natAbs_natCast] at this
  exact Nat.Coprime.dvd_of_dvd_mul_left (Nat.coprime_comm.1 x.reduced) h4
 ·rintro ⟨k, hk⟩
  have h1 : x * ((m : Int) : Rat) = ((x.num * (k : Int) : Int) : Rat) := by
   rw [hk, Int.natCast_mul, Rat.intCast_mul, Rat.intCast_mul, ← hx]
   grind
  rw [h1, Rat.den_intCast]
def placesS (x : BB) : Int × Bool := if (mayR x && finD (ratR x).den) = true then ((plD (ratR x).den : Int), true) else (0, false)
def printS (x : BB) : ByteArray := if mayR x = true then ⟨(printL (ratR x)).toArray⟩ else noB
def parseS (s : ByteArray) : ByteArray × ByteArray × Int := match parseL s.data.toList with
 | some q => ((rT q).1, (rT q).2, 0)
 | none => (noB, noB, 40)
theorem places_rT (q : Rat) : placesS (rT q) = if finD q.den = true then ((plD q.den : Int), true) else (0, false) := by
 unfold placesS
 rw [ratR_rT, mayR_rT, Bool.true_and]
theorem print_rT (q : Rat) : printS (rT q) = ⟨(printL q).toArray⟩ := by
 unfold printS
 rw [ratR_rT, if_pos (mayR_rT q)]
theorem print_rT_list (q : Rat) : (printS (rT q)).data.toList = printL q := by rw [print_rT]
theorem parse_some {s : ByteArray} {q : Rat} (h : parseL s.data.toList = some q) : parseS s = ((rT q).1, (rT q).2, 0) := by
 unfold parseS
 rw [h]
theorem parse_none {s : ByteArray} (h : parseL s.data.toList = none) : parseS s = (noB, noB, 40) := by
 unfold parseS
 rw [h]
theorem print_same (p q : Rat) : ((printS (rT p)).toList == (printS (rT q)).toList) = decide (p = q) := by
 rw [ByteArray.toList_eq, ByteArray.toList_eq, print_rT_list, print_rT_list]
 by_cases h : p = q
 ·subst h
  rw [decide_eq_true rfl, beq_self_eq_true]
 ·rw [decide_eq_false h, beq_eq_false_iff_ne]
  exact fun e => h (print_inj e)
theorem print_int (n : Int) : printL (n : Rat) = (intB n).data.toList := by
 unfold printL
 rw [Rat.den_intCast, Rat.num_intCast, if_pos finD_one, if_pos plD_one]
theorem parse_int (n : Int) (h : szI n ≤ 1000) : parseL (intB n).data.toList = some (n : Rat) := by
 rw [← print_int]
 refine parse_print _ ?_
 rw [print_int, ← size_len]
 exact h
theorem hundredths (n : Int) : finD (Rat.divInt n 100).den = true ∧ plD (Rat.divInt n 100).den ≤ 2 := by
 have hd : 0 < (Rat.divInt n 100).den := Nat.pos_of_ne_zero (Rat.den_nz _)
 refine (dvd_ten hd 2).1 ?_
 refine (den_dvd _ 100).1 ?_
 have e : Rat.divInt n 100 * (((100 : Nat) : Int) : Rat) = (n : Rat) := by
  rw [Rat.divInt_eq_div]
  have hne : ((100 : Int) : Rat) ≠ 0 := by decide
  exact Rat.div_mul_cancel hne
 rw [e, Rat.den_intCast]
end Go.Proofs.YtaldgaiaelbbaaaGreatDoor
end

section
namespace Go.Proofs.YtaldgaiaelbbaaaGreatDoor
theorem indexByte_none {c : UInt8} : ∀ {l : List UInt8}, cutAt c l = none → Lib.indexByte l c = -1
 | [], _ => rfl
 | x :: r, h => by
  unfold cutAt at h
  by_cases e : x = c
  ·rw [if_pos e] at h; exact absurd h (by simp)
  ·rw [if_neg e, Option.map_eq_none_iff] at h
   have ih := indexByte_none h
   unfold Lib.indexByte
   rw [ih, beq_eq_false_iff_ne.2 e]
   rfl
theorem indexByte_some {c : UInt8} : ∀ {l a b : List UInt8}, cutAt c l = some (a, b) → Lib.indexByte l c = (a.length : Int) ∧ l = a ++ c :: b ∧ c ∉ a
 | [], _, _, h => absurd h (by simp [cutAt])
 | x :: r, a, b, h => by
  unfold cutAt at h
  by_cases e : x = c
  ·rw [if_pos e] at h
   have h' := Option.some.inj h
   rw [Prod.mk.injEq] at h'
   obtain ⟨rfl, rfl⟩ := h'
   subst e
   refine ⟨?_, rfl, by simp⟩
   unfold Lib.indexByte
   rw [beq_self_eq_true, if_pos rfl]
   rfl
  ·rw [if_neg e, Option.map_eq_some_iff] at h
   obtain ⟨⟨a', b'⟩, h1, h2⟩ := h
   rw [Prod.mk.injEq] at h2
   obtain ⟨rfl, rfl⟩ := h2
   obtain ⟨i1, i2, i3⟩ := indexByte_some h1
   refine ⟨?_, by rw [i2]; rfl, ?_⟩
   ·unfold Lib.indexByte
    rw [i1, beq_eq_false_iff_ne.2 e, if_neg (by decide), if_neg]
    ·simp
    ·rw [beq_iff_eq]; omega
   ·intro hm
    rcases List.mem_cons.1 hm with h3 | h3
    ·exact e h3.symm
    ·exact i3 h3
theorem cut_one (c : UInt8) (l : List UInt8) : Lib.cut l [c] = match cutAt c l with | some (a, b) => (a, b, true) | none => (l, [], false) := by
 unfold Lib.cut
 rw [Lib.index_one]
 cases h : cutAt c l with
 | none => rw [indexByte_none h, if_neg (by decide)]
 | some p =>
  obtain ⟨a, b⟩ := p
  obtain ⟨h1, h2, h3⟩ := indexByte_some h
  rw [h1, if_pos (by omega)]
  show (l.take a.length, l.drop (a.length + 1), true) = (a, b, true)
  rw [h2, List.take_left, ← List.drop_drop, List.drop_left]
  rfl
def decs : List UInt8 := [48, 49, 50, 51, 52, 53, 54, 55, 56, 57]
theorem decs_has (c : UInt8) : decs.contains c = isDig c := by
 have h : ∀ n : Fin 256, decs.contains (UInt8.ofNat n.val) = isDig (UInt8.ofNat n.val) := by decide +kernel
 have := h ⟨c.toNat, c.toNat_lt⟩
 rwa [show UInt8.ofNat (⟨c.toNat, c.toNat_lt⟩ : Fin 256).val = c from UInt8.ofNat_toNat] at this
theorem dropWhile_nil {p : UInt8 → Bool} : ∀ {l : List UInt8}, l.dropWhile p = [] ↔ l.all p = true
 | [] => by simp
 | x :: r => by
  rw [List.dropWhile_cons]
  by_cases h : p x = true
  ·rw [if_pos h, dropWhile_nil, List.all_cons, h, Bool.true_and]
  ·rw [if_neg h, List.all_cons, (Bool.not_eq_true _).mp h]
   simp
theorem trim_nil (l : List UInt8) : Lib.trimS l decs = [] ↔ l.all isDig = true := by
 have e : (fun c => decs.contains c) = isDig := funext decs_has
 unfold Lib.trimS Lib.trimLeftS Lib.trimRightS
 rw [e, dropWhile_nil]
 constructor
 ·intro h
  by_cases hn : l.reverse.dropWhile isDig = []
  ·rw [dropWhile_nil, List.all_reverse] at hn
   exact hn
  ·exfalso
   rw [List.all_reverse] at h
   have h1 := List.head_dropWhile_not isDig hn
   have h2 := List.all_eq_true.1 h _ (List.head_mem hn)
   rw [h2] at h1
   exact absurd h1 (by decide)
 ·intro h
  have : l.reverse.dropWhile isDig = [] := by rw [dropWhile_nil, List.all_reverse]; exact h
  rw [this]
  rfl
theorem drop_not {c : UInt8} (h : ¬ c = 48) (r : List UInt8) : Lib.trimLeftB (c :: r) 48 = c :: r := by
 unfold Lib.trimLeftB
 rw [List.dropWhile_cons]
 exact if_neg (by rw [beq_iff_eq]; exact h)
theorem left_strip : ∀ {l : List UInt8}, l ≠ [] → (if Lib.trimLeftB l 48 = [] then [48] else Lib.trimLeftB l 48) = strip l
 | [], h => absurd rfl h
 | [c], _ => by
  by_cases h : c = 48
  ·subst h; rfl
  ·rw [drop_not h, if_neg (by simp)]
   rfl
 | c :: d :: r, _ => by
  by_cases h : c = 48
  ·subst h
   have ih := left_strip (l := d :: r) (by simp)
   rw [strip, if_pos rfl, ← ih]
   rfl
  ·rw [strip, if_neg h, drop_not h, if_neg (by simp)]
theorem left_dec {l : List UInt8} (h : digL l = true) : (if Lib.trimLeftB l 48 = [] then [48] else Lib.trimLeftB l 48) = Lib.decDigits (num l) := by
 obtain ⟨h1, h2, h3⟩ := head_dig' h
 rw [left_strip h2, strip_dig h2 h1]
theorem tms_pos {b n : Nat} (hb : 2 ≤ b) (hn : 0 < n) : 0 < (tms b n).2 := by
 obtain ⟨h1, h2⟩ := tms_spec hb n hn
 rcases Nat.eq_zero_or_pos (tms b n).2 with e | e
 ·rw [e, Nat.zero_mod] at h2; exact absurd rfl h2
 ·exact e
theorem tms_le {b : Nat} (hb : 2 ≤ b) {n s : Nat} (hn : 0 < n) (h : n < 10 ^ s) : (tms b n).1 ≤ 4 * s := by
 obtain ⟨h1, h2⟩ := tms_spec hb n hn
 have h3 := tms_pos hb hn
 have h4 : 2 ^ (tms b n).1 ≤ b ^ (tms b n).1 := Nat.pow_le_pow_left hb _
 have h5 : b ^ (tms b n).1 ≤ n := by
  calc b ^ (tms b n).1 ≤ b ^ (tms b n).1 * (tms b n).2 := Nat.le_mul_of_pos_right _ h3
   _ = n := h1
 have up : (10 : Nat) ^ s ≤ 2 ^ (4 * s) := by
  rw [Nat.pow_mul]
  exact Nat.pow_le_pow_left (by decide) s
 rcases Nat.lt_or_ge (4 * s) (tms b n).1 with e | e
 ·have := Nat.pow_le_pow_right (show 0 < 2 by decide) (Nat.le_of_lt e)
  omega
 ·exact e
theorem tms_left_le {b : Nat} (hb : 2 ≤ b) {n : Nat} (hn : 0 < n) : (tms b n).2 ≤ n := by
 obtain ⟨h1, h2⟩ := tms_spec hb n hn
 have : 0 < b ^ (tms b n).1 := Nat.pow_pos (by omega)
 calc (tms b n).2 ≤ b ^ (tms b n).1 * (tms b n).2 := Nat.le_mul_of_pos_left _ this
  _ = n := h1
theorem places_law (q : Rat) (k : Nat) : decide ((q * (((10 ^ k : Nat) : Int) : Rat)).den = 1) = (finD q.den && decide (plD q.den ≤ k)) := by
 have hd : 0 < q.den := Nat.pos_of_ne_zero q.den_nz
 have h : (q * (((10 ^ k : Nat) : Int) : Rat)).den = 1 ↔ (finD q.den && decide (plD q.den ≤ k)) = true := by
  rw [den_dvd, dvd_ten hd, Bool.and_eq_true, decide_eq_true_eq]
 by_cases h1 : (q * (((10 ^ k : Nat) : Int) : Rat)).den = 1
 ·rw [h.1 h1, decide_eq_true h1]
 ·rw [decide_eq_false h1]
  exact ((Bool.not_eq_true _).mp (fun z => h1 (h.2 z))).symm
theorem num_sz {l : List UInt8} (h : l.all isDig = true) : sz (num l) ≤ l.length + 1 :=
 sz_le (Nat.lt_of_lt_of_le (num_lt h) (Nat.pow_le_pow_right (by decide) (Nat.le_succ _))) (by omega)
theorem withS_sz (b : Bool) (n : Nat) : szI (withS b n) ≤ sz n + 1 := by
 have h := szI_le (withS b n)
 have e : (withS b n).natAbs = n := by
  unfold withS
  cases b <;> simp
 rw [e] at h
 exact h
theorem cutL_len (s : List UInt8) : (cutL s).1.length ≤ s.length := by
 unfold cutL
 split
 ·simp
 ·exact Nat.le_refl _
theorem cutAt_len {c : UInt8} {l a b : List UInt8} (h : cutAt c l = some (a, b)) : a.length + b.length + 1 = l.length := by
 obtain ⟨h1, h2, h3⟩ := indexByte_some h
 rw [h2, List.length_append, List.length_cons]
 omega
theorem ten_sz (n : Nat) : szI ((10 ^ n : Nat) : Int) ≤ n + 1 := by
 rw [szI_nat]
 refine sz_le ?_ (by omega)
 rw [Nat.pow_succ]
 have := Nat.pow_le_pow_right (show 0 < 10 by decide) (Nat.zero_le n)
 rw [Nat.pow_zero] at this
 omega
theorem parse_sz {s : List UInt8} {q : Rat} (h : parseA s = some q) : szR q ≤ 2 * s.length + 8 := by
 have hl := cutL_len s
 unfold parseA at h
 split at h
 ·rename_i a b e
  have h0 := cutAt_len e
  split at h
  ·rename_i hd
   rw [Bool.and_eq_true] at hd
   split at h
   ·exact absurd h (by simp)
   ·rename_i hb
    rw [← Option.some.inj h]
    have h1 := szR_divInt (withS (cutL s).2 (num a)) (show ((num b : Nat) : Int) ≠ 0 by omega)
    have h2 := withS_sz (cutL s).2 (num a)
    have h3 := num_sz (head_dig' hd.1).1
    have h4 := num_sz (head_dig' hd.2).1
    rw [szI_nat] at h1
    omega
  ·exact absurd h (by simp)
 ·split at h
  ·rename_i a b e
   have h0 := cutAt_len e
   split at h
   ·rename_i hd
    rw [Bool.and_eq_true] at hd
    rw [← Option.some.inj h]
    have h1 := szR_divInt (withS (cutL s).2 (num (a ++ b))) (tenI_ne b.length)
    have h2 := withS_sz (cutL s).2 (num (a ++ b))
    have h3 := num_sz (l := a ++ b) (by rw [List.all_append, (head_dig' hd.1).1, (head_dig' hd.2).1]; rfl)
    have h4 := ten_sz b.length
    rw [List.length_append] at h3
    omega
   ·exact absurd h (by simp)
  ·split at h
   ·rename_i hd
    rw [← Option.some.inj h, szR_int]
    have h2 := withS_sz (cutL s).2 (num (cutL s).1)
    have h3 := num_sz (head_dig' hd).1
    omega
   ·exact absurd h (by simp)
theorem parseL_sz {s : List UInt8} {q : Rat} (h : parseL s = some q) : szR q ≤ 2 * s.length + 8 := by
 unfold parseL at h
 split at h
 ·exact absurd h (by simp)
 ·exact parse_sz h
end Go.Proofs.YtaldgaiaelbbaaaGreatDoor
end

section
namespace Go.Proofs.YtaldgaiaelbbaaaGreatDoor
theorem zerosB_list (c : Int) : (zerosB c).data.toList = List.replicate c.toNat 48 := rfl
theorem ten_list (n : Nat) : ((⟨#[49]⟩ : ByteArray) ++ zerosB (n : Int)).data.toList = 49 :: List.replicate n 48 := by
 rw [Joins.data_append, zerosB_list, Int.toNat_natCast]
 rfl
theorem all_zeros (n : Nat) : (List.replicate n (48 : UInt8)).all isDig = true := by
 rw [List.all_eq_true]
 intro c hc
 rw [List.eq_of_mem_replicate hc]
 rfl
theorem dig_ten (n : Nat) : digL (49 :: List.replicate n 48) = true := by
 unfold digL
 rw [List.all_cons, all_zeros, decide_eq_true (by simp)]
 rfl
theorem num_ten (n : Nat) : num (49 :: List.replicate n 48) = 10 ^ n := by
 rw [num_cons, List.length_replicate]
 have h := num_zeros n []
 rw [List.append_nil] at h
 rw [h, num_nil]
 have e : (49 : UInt8).toNat - 48 = 1 := rfl
 rw [e]
 omega
theorem tenBB (n : Nat) : (⟨#[49]⟩ : ByteArray) ++ zerosB (n : Int) = natB (10 ^ n) := by
 apply bext
 rw [ten_list, natB_list, ← num_ten n]
 refine (dig_num ?_).symm
 unfold mayL
 rw [List.all_cons, all_zeros, decide_eq_true (by simp), decide_eq_true (show (49 :: List.replicate n (48 : UInt8)).head? ≠ some 48 by rw [List.head?_cons]; decide), Bool.or_true]
 rfl
theorem tail_f {T s : ByteArray} {n p : Nat} (hT : T.size ≤ 1000000000) (hn : n ≤ T.size) (hs : s.size = p) (hp : p ≤ 1) :
  (if 0 ≤ (wrap64 ((T.size : Int) - (n : Int))) then (if (wrap64 ((T.size : Int) - (n : Int))) ≤ (T.size : Int) then (if p + (T.extract 0 ((wrap64 ((T.size : Int) - (n : Int))) : Int).toNat).size ≤ 9223372036854775807 then (if (s ++ (T.extract 0 ((wrap64 ((T.size : Int) - (n : Int))) : Int).toNat)).size + 1 ≤ 9223372036854775807 then (if ((s ++ (T.extract 0 ((wrap64 ((T.size : Int) - (n : Int))) : Int).toNat)) ++ (⟨#[46]⟩ : ByteArray)).size + (T.extract ((wrap64 ((T.size : Int) - (n : Int))) : Int).toNat T.size).size ≤ 9223372036854775807 then (some (((s ++ (T.extract 0 ((wrap64 ((T.size : Int) - (n : Int))) : Int).toNat)) ++ (⟨#[46]⟩ : ByteArray)) ++ (T.extract ((wrap64 ((T.size : Int) - (n : Int))) : Int).toNat T.size))) else none) else none) else none) else none) else none)
  = some (⟨(s.data.toList ++ (T.data.toList.take (T.data.toList.length - n) ++ 46 :: T.data.toList.drop (T.data.toList.length - n))).toArray⟩ : ByteArray) := by
 rw [w64 (by omega) (by omega)]
 have e : ((T.size : Int) - (n : Int)).toNat = T.size - n := by omega
 have h1 : (T.extract 0 (T.size - n)).data.toList = T.data.toList.take (T.size - n) := by rw [Lib.extract_data]; simp
 have h2 : (T.extract (T.size - n) T.size).data.toList = T.data.toList.drop (T.size - n) := Lib.extract_to_end T _
 have z1 : (T.extract 0 (T.size - n)).size ≤ T.size := by
  rw [size_len, h1, List.length_take, ← size_len]
  omega
 have z2 : (T.extract (T.size - n) T.size).size ≤ T.size := by
  rw [size_len, h2, List.length_drop, ← size_len]
  omega
 have z3 : (⟨#[46]⟩ : ByteArray).size = 1 := rfl
 rw [e, if_pos (by omega), if_pos (by omega), if_pos (by omega), if_pos (by rw [ByteArray.size_append]; omega), if_pos (by rw [ByteArray.size_append, ByteArray.size_append]; omega)]
 congr 1
 apply bext
 rw [Joins.data_append, Joins.data_append, Joins.data_append, h1, h2, ← size_len]
 show _ = s.data.toList ++ _
 simp only [List.append_assoc]
 rfl
def resL (m : Bool) (A B : List UInt8) : Option Rat := if (digL A && digL B) = true then (if num B = 0 then none else some (Rat.divInt (withS m (num A)) (num B : Int))) else none
def ansQ : Option Rat → ByteArray × ByteArray × Int
 | some q => ((rT q).1, (rT q).2, 0)
 | none => (noB, noB, 40)
theorem parseS_ans (s : ByteArray) : parseS s = ansQ (parseL s.data.toList) := by
 unfold parseS ansQ
 cases parseL s.data.toList <;> rfl
theorem resL_ten (m : Bool) {A : List UInt8} (n : Nat) (h : digL A = true) : resL m A (49 :: List.replicate n 48) = some (Rat.divInt (withS m (num A)) ((10 ^ n : Nat) : Int)) := by
 unfold resL
 rw [h, dig_ten, num_ten, Bool.true_and, if_pos rfl, if_neg]
 have := tenI_ne n
 omega
theorem resL_one (m : Bool) (A : List UInt8) : resL m A [49] = if digL A = true then some ((withS m (num A) : Int) : Rat) else none := by
 unfold resL
 have e : num [49] = 1 := num_ten 0
 have d : digL [49] = true := dig_ten 0
 rw [d, e, Bool.and_true]
 by_cases h : digL A = true
 ·rw [if_pos h, if_pos h, if_neg (by decide)]
  congr 1
  have h3 := Rat.num_divInt_den ((withS m (num A) : Int) : Rat)
  rw [Rat.num_intCast, Rat.den_intCast] at h3
  exact h3
 ·rw [if_neg h, if_neg h]
theorem dig_point {A B : List UInt8} : digL (A ++ 46 :: B) = false := by
 unfold digL
 rw [List.all_append, List.all_cons, show isDig 46 = false from rfl, Bool.false_and, Bool.and_false, Bool.and_false]
theorem dig_both {A B : List UInt8} (h : digL A = true) (h2 : digL B = true) : digL (A ++ B) = true := by
 obtain ⟨a1, a2, _⟩ := head_dig' h
 obtain ⟨b1, b2, _⟩ := head_dig' h2
 unfold digL
 rw [List.all_append, a1, b1, Bool.true_and, Bool.and_true, decide_eq_true_eq]
 intro e
 exact a2 (List.append_eq_nil_iff.1 e).1
theorem parseA_forms (s : List UInt8) : parseA s = match cutAt 47 (cutL s).1 with
  | some (a, b) => resL (cutL s).2 a b
  | none => match cutAt 46 (cutL s).1 with
   | some (a, b) => if (digL a && digL b) = true then resL (cutL s).2 (a ++ b) (49 :: List.replicate b.length 48) else none
   | none => resL (cutL s).2 (cutL s).1 [49] := by
 unfold parseA
 cases h : cutAt 47 (cutL s).1 with
 | some p => rfl
 | none =>
  cases h2 : cutAt 46 (cutL s).1 with
  | none =>
   simp only []
   rw [resL_one]
  | some p =>
   obtain ⟨a, b⟩ := p
   simp only []
   by_cases hd : (digL a && digL b) = true
   ·rw [if_pos hd, if_pos hd]
    rw [Bool.and_eq_true] at hd
    rw [resL_ten _ _ (dig_both hd.1 hd.2)]
   ·rw [if_neg hd, if_neg hd]
theorem point_not {t a b : List UInt8} (h : cutAt 46 t = some (a, b)) (m : Bool) : resL m t [49] = none := by
 obtain ⟨h1, h2, h3⟩ := indexByte_some h
 rw [resL_one, h2, dig_point]
 rfl
end Go.Proofs.YtaldgaiaelbbaaaGreatDoor
end

section
namespace Go.Proofs
open Go.Shelf
def Tryz.lays161_ren : Go.Shelf.Ren := ⟨fun | 161 => 54 | 231 => 87 | 227 => 89 | 233 => 90 | 235 => 92 | 228 => 112 | 197 => 113 | 151 => 114 | 260 => 127 | 152 => 128 | 137 => 135 | 119 => 136 | 224 => 110 | 225 => 109 | 217 => 108 | 266 => 125 | n => n, fun | 9 => 9 | 4 => 4 | 3 => 3 | 5 => 5 | 117 => 95 | 116 => 94 | 0 => 0 | 124 => 98 | 105 => 117 | 21 => 21 | 119 => 132 | 46 => 77 | 139 => 135 | 138 => 134 | n => n, fun | 3 => 1 | 4 => 2 | n => n⟩
theorem Tryz.lays161 : Go.Proofs.Lays.n161 Tryz.prog Tryz.lays161_ren := {
 mixed := by kernel_rfl
 f119 := Tryz.func136.trans (congrArg some (by kernel_rfl))
 f137 := Tryz.func135.trans (congrArg some (by kernel_rfl))
 f151 := Tryz.func114.trans (congrArg some (by kernel_rfl))
 f152 := Tryz.func128.trans (congrArg some (by kernel_rfl))
 f161 := Tryz.func54.trans (congrArg some (by kernel_rfl))
 f197 := Tryz.func113.trans (congrArg some (by kernel_rfl))
 f217 := Tryz.func108.trans (congrArg some (by kernel_rfl))
 f224 := Tryz.func110.trans (congrArg some (by kernel_rfl))
 f225 := Tryz.func109.trans (congrArg some (by kernel_rfl))
 f227 := Tryz.func89.trans (congrArg some (by kernel_rfl))
 f228 := Tryz.func112.trans (congrArg some (by kernel_rfl))
 f231 := Tryz.func87.trans (congrArg some (by kernel_rfl))
 f233 := Tryz.func90.trans (congrArg some (by kernel_rfl))
 f235 := Tryz.func92.trans (congrArg some (by kernel_rfl))
 f260 := Tryz.func127.trans (congrArg some (by kernel_rfl))
 f266 := Tryz.func125.trans (congrArg some (by kernel_rfl))
 t0 := Tryz.underlying0
 a0 := Tryz.isAgg0
 z0 := Tryz.sizeOf0
 v0 := Tryz.zeroValue0
 t3 := Tryz.underlying3
 a3 := Tryz.isAgg3
 z3 := Tryz.sizeOf3
 v3 := Tryz.zeroValue3
 t4 := Tryz.underlying4
 a4 := Tryz.isAgg4
 z4 := Tryz.sizeOf4
 v4 := Tryz.zeroValue4
 t5 := Tryz.underlying5
 a5 := Tryz.isAgg5
 z5 := Tryz.sizeOf5
 v5 := Tryz.zeroValue5
 t9 := Tryz.underlying9
 a9 := Tryz.isAgg9
 z9 := Tryz.sizeOf9
 v9 := Tryz.zeroValue9
 t21 := Tryz.underlying21
 a21 := Tryz.isAgg21
 z21 := Tryz.sizeOf21
 v21 := Tryz.zeroValue21
 t46 := Tryz.underlying77
 a46 := Tryz.isAgg77
 z46 := Tryz.sizeOf77
 v46 := Tryz.zeroValue77
 t105 := Tryz.underlying117
 a105 := Tryz.isAgg117
 z105 := Tryz.sizeOf117
 v105 := Tryz.zeroValue117
 t116 := Tryz.underlying94
 a116 := Tryz.isAgg94
 z116 := Tryz.sizeOf94
 t117 := Tryz.underlying95
 a117 := Tryz.isAgg95
 z117 := Tryz.sizeOf95
 v117 := Tryz.zeroValue95
 t119 := Tryz.underlying132
 a119 := Tryz.isAgg132
 z119 := Tryz.sizeOf132
 t124 := Tryz.underlying98
 a124 := Tryz.isAgg98
 z124 := Tryz.sizeOf98
 v124 := Tryz.zeroValue98
 t138 := Tryz.underlying134
 a138 := Tryz.isAgg134
 z138 := Tryz.sizeOf134
 v138 := Tryz.zeroValue134
 t139 := Tryz.underlying135
 a139 := Tryz.isAgg135
 z139 := Tryz.sizeOf135
 v139 := Tryz.zeroValue135
 g3 := by kernel_rfl
 g4 := by kernel_rfl }
open Go.RowKit in
theorem Tryz.strings_TrimLeft_one (s : ByteArray) (c : UInt8) (hc : c.toNat < 128) (w : World) :
  Calls Tryz.prog 54 #[.string s, .string ⟨#[c]⟩] w fun e w' => e = .returned (.string ⟨(Lib.trimLeftB s.data.toList c).toArray⟩) ∧ w' = w := Any.strings_TrimLeft_one Tryz.lays161 s c hc w
def Tryz.lays160_ren : Go.Shelf.Ren := ⟨fun | 160 => 53 | 232 => 88 | 231 => 87 | 227 => 89 | 234 => 91 | 233 => 90 | 236 => 93 | 235 => 92 | 228 => 112 | 271 => 115 | 151 => 114 | 197 => 113 | 120 => 129 | 152 => 128 | 260 => 127 | 137 => 135 | 119 => 136 | 224 => 110 | 225 => 109 | 217 => 108 | 266 => 125 | n => n, fun | 9 => 9 | 4 => 4 | 3 => 3 | 5 => 5 | 117 => 95 | 116 => 94 | 0 => 0 | 124 => 98 | 21 => 21 | 105 => 117 | 46 => 77 | 119 => 132 | 139 => 135 | 138 => 134 | n => n, fun | 3 => 1 | 4 => 2 | n => n⟩
theorem Tryz.lays160 : Go.Proofs.Lays.n160 Tryz.prog Tryz.lays160_ren := {
 mixed := by kernel_rfl
 f119 := Tryz.func136.trans (congrArg some (by kernel_rfl))
 f120 := Tryz.func129.trans (congrArg some (by kernel_rfl))
 f137 := Tryz.func135.trans (congrArg some (by kernel_rfl))
 f151 := Tryz.func114.trans (congrArg some (by kernel_rfl))
 f152 := Tryz.func128.trans (congrArg some (by kernel_rfl))
 f160 := Tryz.func53.trans (congrArg some (by kernel_rfl))
 f197 := Tryz.func113.trans (congrArg some (by kernel_rfl))
 f217 := Tryz.func108.trans (congrArg some (by kernel_rfl))
 f224 := Tryz.func110.trans (congrArg some (by kernel_rfl))
 f225 := Tryz.func109.trans (congrArg some (by kernel_rfl))
 f227 := Tryz.func89.trans (congrArg some (by kernel_rfl))
 f228 := Tryz.func112.trans (congrArg some (by kernel_rfl))
 f231 := Tryz.func87.trans (congrArg some (by kernel_rfl))
 f232 := Tryz.func88.trans (congrArg some (by kernel_rfl))
 f233 := Tryz.func90.trans (congrArg some (by kernel_rfl))
 f234 := Tryz.func91.trans (congrArg some (by kernel_rfl))
 f235 := Tryz.func92.trans (congrArg some (by kernel_rfl))
 f236 := Tryz.func93.trans (congrArg some (by kernel_rfl))
 f260 := Tryz.func127.trans (congrArg some (by kernel_rfl))
 f266 := Tryz.func125.trans (congrArg some (by kernel_rfl))
 f271 := Tryz.func115.trans (congrArg some (by kernel_rfl))
 t0 := Tryz.underlying0
 a0 := Tryz.isAgg0
 z0 := Tryz.sizeOf0
 v0 := Tryz.zeroValue0
 t3 := Tryz.underlying3
 a3 := Tryz.isAgg3
 z3 := Tryz.sizeOf3
 v3 := Tryz.zeroValue3
 t4 := Tryz.underlying4
 a4 := Tryz.isAgg4
 z4 := Tryz.sizeOf4
 v4 := Tryz.zeroValue4
 t5 := Tryz.underlying5
 a5 := Tryz.isAgg5
 z5 := Tryz.sizeOf5
 v5 := Tryz.zeroValue5
 t9 := Tryz.underlying9
 a9 := Tryz.isAgg9
 z9 := Tryz.sizeOf9
 v9 := Tryz.zeroValue9
 t21 := Tryz.underlying21
 a21 := Tryz.isAgg21
 z21 := Tryz.sizeOf21
 v21 := Tryz.zeroValue21
 t46 := Tryz.underlying77
 a46 := Tryz.isAgg77
 z46 := Tryz.sizeOf77
 v46 := Tryz.zeroValue77
 t105 := Tryz.underlying117
 a105 := Tryz.isAgg117
 z105 := Tryz.sizeOf117
 v105 := Tryz.zeroValue117
 t116 := Tryz.underlying94
 a116 := Tryz.isAgg94
 z116 := Tryz.sizeOf94
 t117 := Tryz.underlying95
 a117 := Tryz.isAgg95
 z117 := Tryz.sizeOf95
 v117 := Tryz.zeroValue95
 t119 := Tryz.underlying132
 a119 := Tryz.isAgg132
 z119 := Tryz.sizeOf132
 t124 := Tryz.underlying98
 a124 := Tryz.isAgg98
 z124 := Tryz.sizeOf98
 v124 := Tryz.zeroValue98
 t138 := Tryz.underlying134
 a138 := Tryz.isAgg134
 z138 := Tryz.sizeOf134
 v138 := Tryz.zeroValue134
 t139 := Tryz.underlying135
 a139 := Tryz.isAgg135
 z139 := Tryz.sizeOf135
 v139 := Tryz.zeroValue135
 g3 := by kernel_rfl
 g4 := by kernel_rfl }
open Go.RowKit in
theorem Tryz.strings_Trim_laid (s cutset : ByteArray) (w : World) (hs : s.size ≤ 9223372036854775807) (hcs : cutset.size < 4294967281) (ha : cutset.data.toList.all (fun b => decide (b.toNat < 128)) = true) :
  Calls Tryz.prog 53 #[.string s, .string cutset] w fun e w' => e = .returned (.string ⟨(Lib.trimS s.data.toList cutset.data.toList).toArray⟩) ∧ Below w.heap.size w w' :=
 Any.strings_Trim_laid Tryz.lays160 (by kernel_rfl) s cutset w hs hcs (ascii_of_all ha)
def Tryz.lays145_ren : Go.Shelf.Ren := ⟨fun | 145 => 25 | 220 => 52 | 219 => 86 | 217 => 108 | 225 => 109 | 224 => 110 | 267 => 111 | 266 => 125 | 314 => 126 | n => n, fun | 9 => 9 | 4 => 4 | 59 => 47 | 3 => 3 | 5 => 5 | 46 => 77 | 146 => 110 | 51 => 109 | n => n, fun | 1 => 0 | n => n⟩
theorem Tryz.lays145 : Go.Proofs.Lays.n145 Tryz.prog Tryz.lays145_ren := {
 mixed := by kernel_rfl
 f145 := Tryz.func25.trans (congrArg some (by kernel_rfl))
 f217 := Tryz.func108.trans (congrArg some (by kernel_rfl))
 f219 := Tryz.func86.trans (congrArg some (by kernel_rfl))
 f220 := Tryz.func52.trans (congrArg some (by kernel_rfl))
 f224 := Tryz.func110.trans (congrArg some (by kernel_rfl))
 f225 := Tryz.func109.trans (congrArg some (by kernel_rfl))
 f266 := Tryz.func125.trans (congrArg some (by kernel_rfl))
 f267 := Tryz.func111.trans (congrArg some (by kernel_rfl))
 f314 := Tryz.func126.trans (congrArg some (by kernel_rfl))
 t3 := Tryz.underlying3
 a3 := Tryz.isAgg3
 z3 := Tryz.sizeOf3
 v3 := Tryz.zeroValue3
 t4 := Tryz.underlying4
 a4 := Tryz.isAgg4
 z4 := Tryz.sizeOf4
 v4 := Tryz.zeroValue4
 t5 := Tryz.underlying5
 a5 := Tryz.isAgg5
 z5 := Tryz.sizeOf5
 v5 := Tryz.zeroValue5
 t9 := Tryz.underlying9
 a9 := Tryz.isAgg9
 z9 := Tryz.sizeOf9
 v9 := Tryz.zeroValue9
 t46 := Tryz.underlying77
 a46 := Tryz.isAgg77
 z46 := Tryz.sizeOf77
 v46 := Tryz.zeroValue77
 t51 := Tryz.underlying109
 a51 := Tryz.isAgg109
 z51 := Tryz.sizeOf109
 v51 := Tryz.zeroValue109
 t59 := Tryz.underlying47
 a59 := Tryz.isAgg47
 z59 := Tryz.sizeOf47
 v59 := Tryz.zeroValue47
 t146 := Tryz.underlying110
 a146 := Tryz.isAgg110
 z146 := Tryz.sizeOf110
 v146 := Tryz.zeroValue110
 g1 := by kernel_rfl }
open Go.RowKit Go.Lib in
theorem Tryz.strings_Cut (s sep : ByteArray) (m : Int) (w : World) (hs : s.size < 4294967281) (hm : w.cell? ⟨0, 0, none⟩ = some (.int .i64 m)) :
  Calls Tryz.prog 25 #[.string s, .string sep] w fun e w' => e = .returned (.tuple #[.string ⟨(Lib.cut s.data.toList sep.data.toList).1.toArray⟩, .string ⟨(Lib.cut s.data.toList sep.data.toList).2.1.toArray⟩, .bool (Lib.cut s.data.toList sep.data.toList).2.2]) ∧ ∃ n, w' = w.drewN n := Any.strings_Cut Tryz.lays145 s sep m w hs hm
end Go.Proofs
end

section
namespace Go.Proofs.YtaldgaiaelbbaaaGreatDoor
def cutB (s sep : ByteArray) : ByteArray × ByteArray × Bool := (⟨(Lib.cut s.data.toList sep.data.toList).1.toArray⟩, ⟨(Lib.cut s.data.toList sep.data.toList).2.1.toArray⟩, (Lib.cut s.data.toList sep.data.toList).2.2)
def strings_Cut.f (a0 a1 : ByteArray) : Option (ByteArray × ByteArray × Bool) := if a0.size < 4294967281 then some (cutB a0 a1) else none
theorem strings_Cut.calls (a0 a1 : ByteArray) (r1 : ByteArray) (r2 : ByteArray) (r3 : Bool) (w : World) (hL_ : Laid w) (h : strings_Cut.f a0 a1 = some (r1, r2, r3)) :
  Calls Tryz.prog 25 #[.string a0, .string a1] w fun e w' => e = .returned (.tuple #[.string r1, .string r2, .bool r3]) ∧ Below w.heap.size w w' := by
 unfold strings_Cut.f at h
 split at h
 ·rename_i hs
  obtain ⟨m, hm⟩ := hL_.mx
  have h' := Option.some.inj h
  refine (Tryz.strings_Cut a0 a1 m w hs hm).mono ?_
  rintro e w' ⟨rfl, n, rfl⟩
  unfold cutB at h'
  rw [Prod.mk.injEq, Prod.mk.injEq] at h'
  obtain ⟨rfl, rfl, rfl⟩ := h'
  exact ⟨rfl, pw_below_drewN (Below.refl _ _) n⟩
 ·cases h
def ascS (s : ByteArray) : Bool := s.data.toList.all (fun b => decide (b.toNat < 128))
def strings_Trim.f (a0 a1 : ByteArray) : Option ByteArray := if (decide (a0.size ≤ 9223372036854775807) && (decide (a1.size < 4294967281) && ascS a1)) = true then some ⟨(Lib.trimS a0.data.toList a1.data.toList).toArray⟩ else none
theorem strings_Trim.calls (a0 a1 : ByteArray) (r : ByteArray) (w : World) (h : strings_Trim.f a0 a1 = some r) :
  Calls Tryz.prog 53 #[.string a0, .string a1] w fun e w' => e = .returned (.string r) ∧ Below w.heap.size w w' := by
 unfold strings_Trim.f at h
 split at h
 ·rename_i hs
  rw [Bool.and_eq_true, Bool.and_eq_true, decide_eq_true_eq, decide_eq_true_eq] at hs
  rw [← Option.some.inj h]
  exact Tryz.strings_Trim_laid a0 a1 w hs.1 hs.2.1 hs.2.2
 ·cases h
def strings_TrimLeft.f (a0 a1 : ByteArray) : Option ByteArray := if a1 = ⟨#[48]⟩ then some ⟨(Lib.trimLeftB a0.data.toList 48).toArray⟩ else none
theorem strings_TrimLeft.calls (a0 a1 : ByteArray) (r : ByteArray) (w : World) (h : strings_TrimLeft.f a0 a1 = some r) :
  Calls Tryz.prog 54 #[.string a0, .string a1] w fun e w' => e = .returned (.string r) ∧ Below w.heap.size w w' := by
 unfold strings_TrimLeft.f at h
 split at h
 ·rename_i hs
  subst hs
  rw [← Option.some.inj h]
  refine (Tryz.strings_TrimLeft_one a0 48 (by decide) w).mono ?_
  rintro e w' ⟨rfl, rfl⟩
  exact ⟨rfl, Below.refl _ _⟩
 ·cases h
def strings_Repeat.f (a0 : ByteArray) (a1 : Int) : Option ByteArray := if (decide (0 ≤ a1) && decide (a0.size * a1.toNat ≤ 140737488355328) && decide (a1 ≤ 9223372036854775807)) = true then some ⟨(Lib.repeatL a0.data.toList a1.toNat).toArray⟩ else none
theorem strings_Repeat.calls (a0 : ByteArray) (a1 : Int) (r : ByteArray) (w : World) (h : strings_Repeat.f a0 a1 = some r) :
  Calls Tryz.prog 43 #[.string a0, .int .i64 a1] w fun e w' => e = .returned (.string r) ∧ Below w.heap.size w w' := by
 unfold strings_Repeat.f at h
 split at h
 ·rename_i hs
  rw [Bool.and_eq_true, Bool.and_eq_true, decide_eq_true_eq, decide_eq_true_eq, decide_eq_true_eq] at hs
  rw [← Option.some.inj h]
  obtain ⟨⟨h0, h1⟩, h2⟩ := hs
  obtain ⟨u, rfl⟩ := Int.eq_ofNat_of_zero_le h0
  exact Tryz.strings_Repeat a0 u w (by omega) h1
 ·cases h
end Go.Proofs.YtaldgaiaelbbaaaGreatDoor
end

section
namespace Go.Proofs.YtaldgaiaelbbaaaGreatDoor
def strings_CutPrefix.f (a0 a1 : ByteArray) : Option (ByteArray × Bool) := if a1 = ⟨#[45]⟩ then some (amtB a0, minusB a0) else none
theorem strings_CutPrefix.calls (a0 a1 : ByteArray) (r1 : ByteArray) (r2 : Bool) (w : World) (h : strings_CutPrefix.f a0 a1 = some (r1, r2)) :
  Calls Tryz.prog 24 #[.string a0, .string a1] w fun e w' => e = .returned (.tuple #[.string r1, .bool r2]) ∧ Below w.heap.size w w' := by
 unfold strings_CutPrefix.f at h
 split at h
 ·rename_i hs
  subst hs
  rw [← cutW_f] at h
  refine (Pw.strings_CutPrefix.calls a0 _ r1 r2 w h).mono ?_
  rintro e w' ⟨rfl, n, rfl⟩
  exact ⟨rfl, pw_below_drewN (Below.refl _ _) n⟩
 ·cases h
end Go.Proofs.YtaldgaiaelbbaaaGreatDoor
end

attribute [local go_sem] max2_int min2_int max_two min_two max_three min_three max_four min_four   -- for this text's walks alone
section
namespace Go.Proofs.YtaldgaiaelbbaaaGreatDoor.Pd
def errW : Option Int → Value
 | none => .nilIface
 | some c => .iface 0 (.int .i64 c)
theorem errW_none : errW none = .nilIface := rfl
theorem errW_some (c : Int) : errW (some c) = .iface 0 (.int .i64 c) := rfl
end Go.Proofs.YtaldgaiaelbbaaaGreatDoor.Pd
end

section
namespace Go.Proofs.YtaldgaiaelbbaaaGreatDoor.Pd
def decimal_times.l0 : Nat → ByteArray → ByteArray → Int → Option (Int × ByteArray)
 | 0, _, _, _ => none
 | k + 1, x0, x1, x6 => (nat_Div.f x0 x1).bind fun bt101 => (if bt101.2.1.toList = ([48] : List UInt8) then (decimal_times.l0 k bt101.1 x1 (wrap64 (x6 + 1))) else (some (x6, x0)))
def decimal_times.f (k : Nat) (a0 : ByteArray) (a1 : ByteArray) : Option (Int × ByteArray) := decimal_times.l0 k a0 a1 0
set_option maxHeartbeats 8000000 in
set_option maxRecDepth 100000 in
theorem decimal_times.calls (k : Nat) (a0 : ByteArray) (a1 : ByteArray) (r1 : Int) (r2 : ByteArray) (w : World) (hL_ : Laid w) (h : decimal_times.f k a0 a1 = some (r1, r2)) :
  Calls Tryz.prog 67 #[.string a0, .string a1] w fun e w' => e = .returned (.tuple #[.int .i64 r1, .string r2]) ∧ Below w.heap.size w w' := by
 have HLD := Aside0.mk hL_; clear hL_; have HB := Aside0.mk (Below.refl w.heap.size w); have H := h; unfold decimal_times.f at H; clear h; have H' := Aside0.mk H; clear H; go_enter Tryz.func67, Tryz.ntmps67
 go_wp2_with (first | (with_reducible refine Exit.jump_in ?_) | ((with_reducible refine wp_scope_redo (rest := ?rest_) 0 ?hf_ ?_); (case hf_ => exact rfl)) | (with_reducible apply wp_goto))
 (refine wp_label ?_; simp only [Exit.then]; go_step)
 refine wp_label_ghost_r (fun (kq : Nat) (a' : Act) (w' : World) => ∃ u0 u6 u7 u8 u9 u10 u11 u12 u13 u14 u15 u16 u17 u18 u19 u20 u21 u22 u23 : Value, (∃ (x0_1 : ByteArray) (x6_1 : Int), u0 = .string x0_1 ∧ u6 = .int .i64 x6_1 ∧ Aside0 (decimal_times.l0 kq x0_1 a1 x6_1 = some (r1, r2)) ∧ Aside0 (kq ≤ k) ∧ Aside0 (Below w.heap.size w w')) ∧ a' = ⟨#[u0, Value.string a1, undef, undef, Value.int IntKind.i64 0, Value.string { data := #[] }, u6, u7, u8, u9, u10, u11, u12, u13, u14, u15, u16, u17, u18, u19, u20, u21, u22, u23], []⟩) k ?atStart ?round
 case atStart =>
  (repeat apply Exists.intro)
  refine ⟨?_, rfl⟩; exact ⟨(a0), (0), rl_, rl_, H', ⟨Nat.le_refl _⟩, ⟨b_ HB.out⟩⟩
 case round =>
  intro gk _ wr hinv; obtain ⟨u0, u6, u7, u8, u9, u10, u11, u12, u13, u14, u15, u16, u17, u18, u19, u20, u21, u22, u23, hrel, ha⟩ := hinv; subst ha
  try dsimp only
  intro _ _ _ _ _ _; clear H'; (try clear p2); obtain ⟨x0_1, x6_1, rfl, rfl, HA, HK1, HB⟩ := hrel
  cases gk with
  | zero => exact absurd HA.out (by simp [decimal_times.l0])
  | succ k1 =>
   have H := HA.out; clear HA; simp only [decimal_times.l0] at H; obtain ⟨⟨t101, t102, t103⟩, A3, H⟩ := bi_ H; (try dsimp only at H); by_cases c4 : t102.toList = ([48] : List UInt8)
   ·rw [if_pos c4] at H; have c4b0 : (t102.toList == ([48] : List UInt8)) = true := beq_iff_eq.mpr c4; have c4b1 : (t102.toList != ([48] : List UInt8)) = false := bne_eq_false_iff_eq.mpr c4; clear c4; have H' := Aside0.mk H; clear H
    go_wp2_with (first | (first | (with_reducible refine Exit.jump_in ?_) | ((with_reducible refine wp_scope_redo (rest := ?rest_) 0 ?hf_ ?_); (case hf_ => exact rfl)) | (with_reducible apply wp_goto)) | (refine gl_ 13 Tryz.func40 #[.string x0_1, .string a1] ?_; refine mo_ (nat_Div.calls x0_1 a1 t101 t102 t103 _ (lb_ HLD HB) A3.out) ?_; intro w5 hb; replace HB := bs_ HB hb; (try clear hb); (try clear hb2); (try clear hk); (try clear hi)))
    go_roundg k1
    case measure => have := HK1.out; omega
    case rel => exact ⟨(t101), (wrap64 (x6_1 + 1)), rl_, rl_, H', ⟨by have := HK1.out; omega⟩, ⟨b_ HB.out⟩⟩
   ·rw [if_neg c4] at H; have c4b0 : (t102.toList == ([48] : List UInt8)) = false := beq_eq_false_iff_ne.mpr c4; have c4b1 : (t102.toList != ([48] : List UInt8)) = true := bne_iff_ne.mpr c4; simp only [Option.some.injEq, Prod.mk.injEq] at H; obtain ⟨rfl, rfl⟩ := H
    go_wp2_with (first | (first | (with_reducible refine Exit.jump_in ?_) | ((with_reducible refine wp_scope_redo (rest := ?rest_) 0 ?hf_ ?_); (case hf_ => exact rfl)) | (with_reducible apply wp_goto)) | (refine gl_ 13 Tryz.func40 #[.string x0_1, .string a1] ?_; refine mo_ (nat_Div.calls x0_1 a1 t101 t102 t103 _ (lb_ HLD HB) A3.out) ?_; intro w6 hb; replace HB := bs_ HB hb; (try clear hb); (try clear hb2); (try clear hk); (try clear hi)))
    ((try simp only [Exit.inBlock, Exit.then, Exit.jump]); refine bodyPost_ret (results_tmp2 rfl _ _ _) rfl ?_)
    exact ⟨er_, b_ HB.out⟩
def decimal_places.f (k : Nat) (a0 : ByteArray) : Option (Int × Bool) := (decimal_times.f k a0 (⟨#[50]⟩ : ByteArray)).bind fun bt104 => ((decimal_times.f k bt104.2 (⟨#[53]⟩ : ByteArray)).bind fun bt106 => (some (mx bt104.1 bt106.1, (bt106.2.toList == ([49] : List UInt8)))))
set_option maxHeartbeats 8000000 in
set_option maxRecDepth 100000 in
theorem decimal_places.calls (k : Nat) (a0 : ByteArray) (r1 : Int) (r2 : Bool) (w : World) (hL_ : Laid w) (h : decimal_places.f k a0 = some (r1, r2)) :
  Calls Tryz.prog 37 #[.string a0] w fun e w' => e = .returned (.tuple #[.int .i64 r1, .bool r2]) ∧ Below w.heap.size w w' := by
 have HLD := Aside0.mk hL_; clear hL_; have HB := Aside0.mk (Below.refl w.heap.size w); have H := h; unfold decimal_places.f at H; clear h; obtain ⟨⟨t104, t105⟩, A2, H⟩ := bi_ H; (try dsimp only at H); obtain ⟨⟨t106, t107⟩, A3, H⟩ := bi_ H; (try dsimp only at H); obtain ⟨ji4, hji4⟩ : ∃ j_ : Int, (mx t104 t106) = j_ := ⟨_, rfl⟩; (first | rw [hji4] at H | simp only [hji4] at H); (try rw [hji4] at A2); (try rw [hji4] at A3); have hji4_ : (if t104 < t106 then t106 else t104) = ji4 := hji4; simp only [Option.some.injEq, Prod.mk.injEq] at H; obtain ⟨rfl, rfl⟩ := H; go_enter Tryz.func37, Tryz.ntmps37
 go_wp2_with (first | (first | (with_reducible refine Exit.only_intro ?_) | ((with_reducible refine wp_scope_redo (rest := ?rest_) 0 ?hf_ ?_); (case hf_ => exact rfl)) | (with_reducible apply wp_goto)) | (refine gl_ 9 Tryz.func67 #[.string a0, .string (⟨#[50]⟩ : ByteArray)] ?_; refine mo_ (decimal_times.calls k a0 (⟨#[50]⟩ : ByteArray) t104 t105 _ (lb_ HLD HB) A2.out) ?_; intro w5 hb; replace HB := bs_ HB hb; (try clear hb); (try clear hb2); (try clear hk); (try clear hi)) | (refine gl_ 14 Tryz.func67 #[.string t105, .string (⟨#[53]⟩ : ByteArray)] ?_; refine mo_ (decimal_times.calls k t105 (⟨#[53]⟩ : ByteArray) t106 t107 _ (lb_ HLD HB) A3.out) ?_; intro w6 hb; replace HB := bs_ HB hb; (try clear hb); (try clear hb2); (try clear hk); (try clear hi)))
 go_ret2; exact ⟨by first | rfl | (simp [errW_none, errW_some] <;> rfl) | (simp only [← hji4]; first | rfl | (simp [errW_none, errW_some] <;> rfl)) | (simp [*, errW_none, errW_some] <;> rfl), b_ HB.out⟩
def decimal_Places.f (k : Nat) (a0_0 : ByteArray) (a0_1 : ByteArray) : Option (Int × Bool) := (rat_May.f a0_0 a0_1).bind fun t109 => (if t109 = true then ((decimal_places.f k a0_1).bind fun bt110 => (if bt110.2 = true then (some (bt110.1, true)) else (some (0, false)))) else (some (0, false)))
set_option maxHeartbeats 8000000 in
set_option maxRecDepth 100000 in
theorem decimal_Places.calls (k : Nat) (a0_0 : ByteArray) (a0_1 : ByteArray) (r1 : Int) (r2 : Bool) (w : World) (hL_ : Laid w) (h : decimal_Places.f k a0_0 a0_1 = some (r1, r2)) :
  Calls Tryz.prog 12 #[.agg #[.string a0_0, .string a0_1]] w fun e w' => e = .returned (.tuple #[.int .i64 r1, .bool r2]) ∧ Below w.heap.size w w' := by
 have hu23 := Tryz.underlying23; have HLD := Aside0.mk hL_; clear hL_; have HB := Aside0.mk (Below.refl w.heap.size w); have H := h; unfold decimal_Places.f at H; clear h; obtain ⟨t109, A2, H⟩ := bi_ H; by_cases c3 : t109 = true
 ·subst c3; rw [if_pos rfl] at H; obtain ⟨⟨t110, t111⟩, A4, H⟩ := bi_ H; (try dsimp only at H); by_cases c5 : t111 = true
  ·subst c5; rw [if_pos rfl] at H; simp only [Option.some.injEq, Prod.mk.injEq] at H; obtain ⟨rfl, rfl⟩ := H; go_enter Tryz.func12, Tryz.ntmps12
   go_wp2_with (first | (first | (with_reducible refine Exit.only_intro ?_) | ((with_reducible refine wp_scope_redo (rest := ?rest_) 0 ?hf_ ?_); (case hf_ => exact rfl)) | (with_reducible apply wp_goto)) | ((with_reducible refine gate_dst (N := 1) rfl ?_); refine be_ 1 #[.string a0_0, .string a0_1] 23 ?_; intro gb108 hg w6 hbox hb; have BK108 := Aside0.mk (hbox); have GW108 := ge_ HB hg; have GE108 := ge_ HB hg; replace HB := bs_ HB hb; clear hb hbox hg; have hcz7_0 := bc_ BK108 0 rfl; have hcz7_1 := bc_ BK108 1 rfl; have hfz7_0 := blk_frozen BK108.out 0; have hfz7_1 := blk_frozen BK108.out 1) | (refine gl_ 7 Tryz.func36 #[.agg #[.string a0_0, .string a0_1]] ?_; refine mo_ (rat_May.calls a0_0 a0_1 true _ (lb_ HLD HB) A2.out) ?_; intro w8 hb; replace BK108 := kb_ BK108 hb; replace HB := bs_ HB hb; (try clear hb); (try clear hb2); (try clear hk); (try clear hi); have hcz9_0 := bc_ BK108 0 rfl; have hcz9_1 := bc_ BK108 1 rfl; have hfz9_0 := blk_frozen BK108.out 0; have hfz9_1 := blk_frozen BK108.out 1) | (refine gl_ 12 Tryz.func37 #[.string a0_1] ?_; refine mo_ (decimal_places.calls k a0_1 t110 true _ (lb_ HLD HB) A4.out) ?_; intro w10 hb; replace BK108 := kb_ BK108 hb; replace HB := bs_ HB hb; (try clear hb); (try clear hb2); (try clear hk); (try clear hi)))
   go_ret2; exact ⟨er_, b_ HB.out⟩
  ·replace c5 := Bool.eq_false_iff.mpr c5; subst c5; rw [if_neg nf_] at H; simp only [Option.some.injEq, Prod.mk.injEq] at H; obtain ⟨rfl, rfl⟩ := H; go_enter Tryz.func12, Tryz.ntmps12
   go_wp2_with (first | (first | (with_reducible refine Exit.only_intro ?_) | ((with_reducible refine wp_scope_redo (rest := ?rest_) 0 ?hf_ ?_); (case hf_ => exact rfl)) | (with_reducible apply wp_goto)) | ((with_reducible refine gate_dst (N := 1) rfl ?_); refine be_ 1 #[.string a0_0, .string a0_1] 23 ?_; intro gb108 hg w11 hbox hb; have BK108 := Aside0.mk (hbox); have GW108 := ge_ HB hg; have GE108 := ge_ HB hg; replace HB := bs_ HB hb; clear hb hbox hg; have hcz12_0 := bc_ BK108 0 rfl; have hcz12_1 := bc_ BK108 1 rfl; have hfz12_0 := blk_frozen BK108.out 0; have hfz12_1 := blk_frozen BK108.out 1) | (refine gl_ 7 Tryz.func36 #[.agg #[.string a0_0, .string a0_1]] ?_; refine mo_ (rat_May.calls a0_0 a0_1 true _ (lb_ HLD HB) A2.out) ?_; intro w13 hb; replace BK108 := kb_ BK108 hb; replace HB := bs_ HB hb; (try clear hb); (try clear hb2); (try clear hk); (try clear hi); have hcz14_0 := bc_ BK108 0 rfl; have hcz14_1 := bc_ BK108 1 rfl; have hfz14_0 := blk_frozen BK108.out 0; have hfz14_1 := blk_frozen BK108.out 1) | (refine gl_ 12 Tryz.func37 #[.string a0_1] ?_; refine mo_ (decimal_places.calls k a0_1 t110 false _ (lb_ HLD HB) A4.out) ?_; intro w15 hb; replace BK108 := kb_ BK108 hb; replace HB := bs_ HB hb; (try clear hb); (try clear hb2); (try clear hk); (try clear hi)))
   go_ret2; exact ⟨er_, b_ HB.out⟩
 ·replace c3 := Bool.eq_false_iff.mpr c3; subst c3; rw [if_neg nf_] at H; simp only [Option.some.injEq, Prod.mk.injEq] at H; obtain ⟨rfl, rfl⟩ := H; go_enter Tryz.func12, Tryz.ntmps12
  go_wp2_with (first | (first | (with_reducible refine Exit.only_intro ?_) | ((with_reducible refine wp_scope_redo (rest := ?rest_) 0 ?hf_ ?_); (case hf_ => exact rfl)) | (with_reducible apply wp_goto)) | ((with_reducible refine gate_dst (N := 1) rfl ?_); refine be_ 1 #[.string a0_0, .string a0_1] 23 ?_; intro gb108 hg w16 hbox hb; have BK108 := Aside0.mk (hbox); have GW108 := ge_ HB hg; have GE108 := ge_ HB hg; replace HB := bs_ HB hb; clear hb hbox hg; have hcz17_0 := bc_ BK108 0 rfl; have hcz17_1 := bc_ BK108 1 rfl; have hfz17_0 := blk_frozen BK108.out 0; have hfz17_1 := blk_frozen BK108.out 1) | (refine gl_ 7 Tryz.func36 #[.agg #[.string a0_0, .string a0_1]] ?_; refine mo_ (rat_May.calls a0_0 a0_1 false _ (lb_ HLD HB) A2.out) ?_; intro w18 hb; replace BK108 := kb_ BK108 hb; replace HB := bs_ HB hb; (try clear hb); (try clear hb2); (try clear hk); (try clear hi)))
  go_ret2; exact ⟨er_, b_ HB.out⟩
def decimal_power.f (a0 : Int) : Option (ByteArray) := (strings_Repeat.f (⟨#[48]⟩ : ByteArray) a0).bind fun t112 => (if 1 + t112.size ≤ 9223372036854775807 then (some ((⟨#[49]⟩ : ByteArray) ++ t112)) else (none))
set_option maxHeartbeats 8000000 in
set_option maxRecDepth 100000 in
theorem decimal_power.calls (a0 : Int) (r : ByteArray) (w : World) (h : decimal_power.f a0 = some r) :
  Calls Tryz.prog 27 #[.int .i64 a0] w fun e w' => e = .returned (.string r) ∧ Below w.heap.size w w' := by
 have HB := Aside0.mk (Below.refl w.heap.size w); have H := h; unfold decimal_power.f at H; clear h; obtain ⟨t112, A2, H⟩ := bi_ H; by_cases c3 : 1 + t112.size ≤ 9223372036854775807
 ·rw [if_pos c3] at H; have c3b0 := eq_true c3; have c3b1 : decide (1 + t112.size ≤ 9223372036854775807) = true := decide_eq_true c3
  try have c3b2 : (9223372036854775807 < 1 + t112.size) = False := eq_false (Nat.not_lt.2 c3)
  obtain rfl := Option.some.inj H; go_enter Tryz.func27, Tryz.ntmps27
  go_wp2_with (first | (first | (with_reducible refine Exit.only_intro ?_) | ((with_reducible refine wp_scope_redo (rest := ?rest_) 0 ?hf_ ?_); (case hf_ => exact rfl)) | (with_reducible apply wp_goto)) | (refine gl_ 4 Tryz.func43 #[.string (⟨#[48]⟩ : ByteArray), .int .i64 a0] ?_; refine mo_ (strings_Repeat.calls (⟨#[48]⟩ : ByteArray) a0 t112 _ A2.out) ?_; intro w4 hb; replace HB := bs_ HB hb; (try clear hb); (try clear hb2); (try clear hk); (try clear hi)))
  go_ret
  exact ⟨er_, b_ HB.out⟩
 ·rw [if_neg c3] at H; exact absurd H (by simp)
end Go.Proofs.YtaldgaiaelbbaaaGreatDoor.Pd
end

section
namespace Go.Proofs.YtaldgaiaelbbaaaGreatDoor.Pd
def decimal_Print.f (k : Nat) (a0_0 : ByteArray) (a0_1 : ByteArray) : Option (ByteArray) := (decimal_Places.f k a0_0 a0_1).bind fun bt114 => ((rat_May.f a0_0 a0_1).bind fun t116 => (if t116 = true then (if bt114.2 = true then (if bt114.1 = 0 then (some a0_0) else ((decimal_power.f bt114.1).bind fun t117 => ((nat_Div.f t117 a0_1).bind fun bt118 => ((whole_Abs.f a0_0).bind fun t121 => ((nat_Mul.f t121 bt118.1).bind fun t122 => ((strings_Repeat.f (⟨#[48]⟩ : ByteArray) (mx (wrap64 ((wrap64 (bt114.1 + 1)) - (t122.size : Int))) 0)).bind fun t123 => (if t123.size + t122.size ≤ 9223372036854775807 then ((whole_Sign.f a0_0).bind fun t124 => (if t124 < 0 then (if 0 ≤ (wrap64 (((t123 ++ t122).size : Int) - bt114.1)) then (if (wrap64 (((t123 ++ t122).size : Int) - bt114.1)) ≤ ((t123 ++ t122).size : Int) then (if 1 + ((t123 ++ t122).extract 0 ((wrap64 (((t123 ++ t122).size : Int) - bt114.1)) : Int).toNat).size ≤ 9223372036854775807 then (if ((⟨#[45]⟩ : ByteArray) ++ ((t123 ++ t122).extract 0 ((wrap64 (((t123 ++ t122).size : Int) - bt114.1)) : Int).toNat)).size + 1 ≤ 9223372036854775807 then (if (((⟨#[45]⟩ : ByteArray) ++ ((t123 ++ t122).extract 0 ((wrap64 (((t123 ++ t122).size : Int) - bt114.1)) : Int).toNat)) ++ (⟨#[46]⟩ : ByteArray)).size + ((t123 ++ t122).extract ((wrap64 (((t123 ++ t122).size : Int) - bt114.1)) : Int).toNat (t123 ++ t122).size).size ≤ 9223372036854775807 then (some ((((⟨#[45]⟩ : ByteArray) ++ ((t123 ++ t122).extract 0 ((wrap64 (((t123 ++ t122).size : Int) - bt114.1)) : Int).toNat)) ++ (⟨#[46]⟩ : ByteArray)) ++ ((t123 ++ t122).extract ((wrap64 (((t123 ++ t122).size : Int) - bt114.1)) : Int).toNat (t123 ++ t122).size))) else (none)) else (none)) else (none)) else (none)) else (none)) else (if 0 ≤ (wrap64 (((t123 ++ t122).size : Int) - bt114.1)) then (if (wrap64 (((t123 ++ t122).size : Int) - bt114.1)) ≤ ((t123 ++ t122).size : Int) then (if 0 + ((t123 ++ t122).extract 0 ((wrap64 (((t123 ++ t122).size : Int) - bt114.1)) : Int).toNat).size ≤ 9223372036854775807 then (if ((⟨#[]⟩ : ByteArray) ++ ((t123 ++ t122).extract 0 ((wrap64 (((t123 ++ t122).size : Int) - bt114.1)) : Int).toNat)).size + 1 ≤ 9223372036854775807 then (if (((⟨#[]⟩ : ByteArray) ++ ((t123 ++ t122).extract 0 ((wrap64 (((t123 ++ t122).size : Int) - bt114.1)) : Int).toNat)) ++ (⟨#[46]⟩ : ByteArray)).size + ((t123 ++ t122).extract ((wrap64 (((t123 ++ t122).size : Int) - bt114.1)) : Int).toNat (t123 ++ t122).size).size ≤ 9223372036854775807 then (some ((((⟨#[]⟩ : ByteArray) ++ ((t123 ++ t122).extract 0 ((wrap64 (((t123 ++ t122).size : Int) - bt114.1)) : Int).toNat)) ++ (⟨#[46]⟩ : ByteArray)) ++ ((t123 ++ t122).extract ((wrap64 (((t123 ++ t122).size : Int) - bt114.1)) : Int).toNat (t123 ++ t122).size))) else (none)) else (none)) else (none)) else (none)) else (none)))) else (none)))))))) else (if a0_0.size + 1 ≤ 9223372036854775807 then (if (a0_0 ++ (⟨#[47]⟩ : ByteArray)).size + a0_1.size ≤ 9223372036854775807 then (some ((a0_0 ++ (⟨#[47]⟩ : ByteArray)) ++ a0_1)) else (none)) else (none))) else (some (⟨#[]⟩ : ByteArray))))
def decimal_Print.T8 : Bool × List (List Nat × List Nat) := (true, [([], []), ([0], [0]), ([], []), ([2], [2]), ([1, 3, 1], [1, 3]), ([4], [4]), ([5], [5]), ([5], [5]), ([5], [5]), ([6, 4, 0, 1, 2, 3, 4, 5, 6], [6]), ([7, 9, 0, 1, 2, 3, 4, 5, 6, 7, 9], [7]), ([8, 10, 0, 1, 2, 3, 4, 5, 6, 7, 8, 9, 10], [8])])
def decimal_Print.B8 : List Nat := [0, 1, 0, 4, 15, 31, 63, 63, 63, 127, 767, 2047]
theorem decimal_Print.tab8 : rtab .any (opsOf Tryz.f14 8) = decimal_Print.T8 := by kernel_rfl
theorem decimal_Print.bits8 : waitsOk decimal_Print.T8.2 decimal_Print.B8 = true := by kernel_rfl
def decimal_Print.T14 : Bool × List (List Nat × List Nat) := (true, [([], []), ([], []), ([], []), ([2], [2]), ([], []), ([3, 4], [3, 4]), ([1, 5], [1, 5]), ([0, 6], [0, 6]), ([7], [7]), ([], []), ([], []), ([10], [10]), ([], []), ([11, 12], [11, 12]), ([9, 13], [9, 13]), ([8, 14], [8, 14]), ([15, 0, 1, 2, 3, 4, 5, 6, 7, 8, 9, 10, 11, 12, 13, 14, 15], [15])])
def decimal_Print.B14 : List Nat := [0, 0, 0, 4, 0, 28, 62, 127, 255, 0, 0, 1024, 0, 7168, 15872, 32767, 65535]
theorem decimal_Print.tab14 : rtab .any (opsOf Tryz.f14 14) = decimal_Print.T14 := by kernel_rfl
theorem decimal_Print.bits14 : waitsOk decimal_Print.T14.2 decimal_Print.B14 = true := by kernel_rfl
set_option maxHeartbeats 8000000 in
set_option maxRecDepth 100000 in
theorem decimal_Print.calls (k : Nat) (a0_0 : ByteArray) (a0_1 : ByteArray) (r : ByteArray) (w : World) (hL_ : Laid w) (h : decimal_Print.f k a0_0 a0_1 = some r) :
  Calls Tryz.prog 14 #[.agg #[.string a0_0, .string a0_1]] w fun e w' => e = .returned (.string r) ∧ Below w.heap.size w w' := by
 have hu23 := Tryz.underlying23; have HLD := Aside0.mk hL_; clear hL_; have HB := Aside0.mk (Below.refl w.heap.size w); have H := h; unfold decimal_Print.f at H; clear h; obtain ⟨⟨t114, t115⟩, A2, H⟩ := bi_ H; (try dsimp only at H); obtain ⟨t116, A3, H⟩ := bi_ H; by_cases c4 : t116 = true
 ·subst c4; rw [if_pos rfl] at H; by_cases c5 : t115 = true
  ·subst c5; rw [if_pos rfl] at H; by_cases c6 : t114 = 0
   ·rw [if_pos c6] at H; have c6b0 : (t114 == 0) = true := beq_iff_eq.mpr c6; have c6b1 : (t114 != 0) = false := bne_eq_false_iff_eq.mpr c6; clear c6; obtain rfl := Option.some.inj H; go_enter Tryz.func14, Tryz.ntmps14
    go_wp2_with (first | ((with_reducible refine gate_dst (N := 1) rfl ?_); refine be_ 1 #[.string a0_0, .string a0_1] 23 ?_; intro gb113 hg w7 hbox hb; have BK113 := Aside0.mk (hbox); have GW113 := ge_ HB hg; have GE113 := ge_ HB hg; replace HB := bs_ HB hb; clear hb hbox hg; have hcz8_0 := bc_ BK113 0 rfl; have hcz8_1 := bc_ BK113 1 rfl; have hfz8_0 := blk_frozen BK113.out 0; have hfz8_1 := blk_frozen BK113.out 1) | (refine gl_ 12 Tryz.func12 #[.agg #[.string a0_0, .string a0_1]] ?_; refine mo_ (decimal_Places.calls k a0_0 a0_1 t114 true _ (lb_ HLD HB) A2.out) ?_; intro w9 hb; replace BK113 := kb_ BK113 hb; replace HB := bs_ HB hb; (try clear hb); (try clear hb2); (try clear hk); (try clear hi); have hcz10_0 := bc_ BK113 0 rfl; have hcz10_1 := bc_ BK113 1 rfl; have hfz10_0 := blk_frozen BK113.out 0; have hfz10_1 := blk_frozen BK113.out 1) | (refine gl_ 17 Tryz.func36 #[.agg #[.string a0_0, .string a0_1]] ?_; refine mo_ (rat_May.calls a0_0 a0_1 true _ (lb_ HLD HB) A3.out) ?_; intro w11 hb; replace BK113 := kb_ BK113 hb; replace HB := bs_ HB hb; (try clear hb); (try clear hb2); (try clear hk); (try clear hi); have hcz12_0 := bc_ BK113 0 rfl; have hcz12_1 := bc_ BK113 1 rfl; have hfz12_0 := blk_frozen BK113.out 0; have hfz12_1 := blk_frozen BK113.out 1))
    go_ret
    exact ⟨er_, b_ HB.out⟩
   ·rw [if_neg c6] at H; have c6b0 : (t114 == 0) = false := beq_eq_false_iff_ne.mpr c6; have c6b1 : (t114 != 0) = true := bne_iff_ne.mpr c6; obtain ⟨t117, A13, H⟩ := bi_ H; obtain ⟨⟨t118, t119, t120⟩, A14, H⟩ := bi_ H; (try dsimp only at H); obtain ⟨t121, A15, H⟩ := bi_ H; obtain ⟨t122, A16, H⟩ := bi_ H; obtain ⟨ji17, hji17⟩ : ∃ j_ : Int, (mx (wrap64 ((wrap64 (t114 + 1)) - (t122.size : Int))) 0) = j_ := ⟨_, rfl⟩; (first | rw [hji17] at H | simp only [hji17] at H); (try rw [hji17] at A2); (try rw [hji17] at A3); (try rw [hji17] at A13); (try rw [hji17] at A14); (try rw [hji17] at A15); (try rw [hji17] at A16); (try (have hji17l : 0 ≤ ji17 := by (rw [← hji17]; unfold mx; (repeat' split) <;> omega))); (try (have hji17m : 0 ≤ ji17 := by omega)); have hji17_ : (if (wrap64 ((wrap64 (t114 + 1)) - (t122.size : Int))) < 0 then 0 else (wrap64 ((wrap64 (t114 + 1)) - (t122.size : Int)))) = ji17 := hji17; obtain ⟨t123, A18, H⟩ := bi_ H; by_cases c19 : t123.size + t122.size ≤ 9223372036854775807
    ·rw [if_pos c19] at H; have c19b0 := eq_true c19; have c19b1 : decide (t123.size + t122.size ≤ 9223372036854775807) = true := decide_eq_true c19
     try have c19b2 : (9223372036854775807 < t123.size + t122.size) = False := eq_false (Nat.not_lt.2 c19)
     obtain ⟨t124, A20, H⟩ := bi_ H; by_cases c21 : t124 < 0
     ·rw [if_pos c21] at H; have c21b0 : decide (t124 < 0) = true := decide_eq_true c21; clear c21; obtain ⟨ji22, hji22⟩ : ∃ j_ : Int, (wrap64 (((t123 ++ t122).size : Int) - t114)) = j_ := ⟨_, rfl⟩; (first | rw [hji22] at H | simp only [hji22] at H); (try rw [hji22] at A2); (try rw [hji22] at A3); (try rw [hji22] at A13); (try rw [hji22] at A14); (try rw [hji22] at A15); (try rw [hji22] at A16); (try rw [hji22] at A18); (try rw [hji22] at A20); have hji22w : (IntKind.i64.wrap (((t123 ++ t122).size : Int) - t114)) = ji22 := (i64_w _).trans hji22; (try (have hji22v := hji22; simp only [ByteArray.size_append, Int.natCast_add] at hji22v)); (try (have hji22u := hji22w; simp only [ByteArray.size_append, Int.natCast_add] at hji22u)); by_cases c23 : 0 ≤ (ji22)
      ·rw [if_pos c23] at H; have c23b0 := eq_true c23; have c23b1 : decide (0 ≤ (ji22)) = true := decide_eq_true c23; clear c23; by_cases c24 : (ji22) ≤ ((t123 ++ t122).size : Int)
       ·rw [if_pos c24] at H; have c24b0 := eq_true c24; have c24b1 : decide ((ji22) ≤ ((t123 ++ t122).size : Int)) = true := decide_eq_true c24; (try (have c24v := c24; simp only [ByteArray.size_append, Int.natCast_add] at c24v; replace c24v := eq_true c24v)); by_cases c25 : 1 + ((t123 ++ t122).extract 0 ((ji22) : Int).toNat).size ≤ 9223372036854775807
        ·rw [if_pos c25] at H; have c25b0 := eq_true c25; have c25b1 : decide (1 + ((t123 ++ t122).extract 0 ((ji22) : Int).toNat).size ≤ 9223372036854775807) = true := decide_eq_true c25; (try have c25v0 : (9223372036854775807 < 1 + (ji22).toNat) = False := eq_false (by have h_ := c25; have g_ : (ji22) ≤ ((t123 ++ t122).size : Int) := (by assumption); simp only [ByteArray.size_append, ByteArray.size_extract, ByteArray.size_mk', List.size_toArray, List.length_cons, List.length_nil, Int.natCast_add] at h_ g_; omega))
         try have c25b2 : (9223372036854775807 < 1 + ((t123 ++ t122).extract 0 ((ji22) : Int).toNat).size) = False := eq_false (Nat.not_lt.2 c25)
         by_cases c26 : ((⟨#[45]⟩ : ByteArray) ++ ((t123 ++ t122).extract 0 ((ji22) : Int).toNat)).size + 1 ≤ 9223372036854775807
         ·rw [if_pos c26] at H; have c26b0 := eq_true c26; have c26b1 : decide (((⟨#[45]⟩ : ByteArray) ++ ((t123 ++ t122).extract 0 ((ji22) : Int).toNat)).size + 1 ≤ 9223372036854775807) = true := decide_eq_true c26; (try have c26v0 : (9223372036854775807 < 1 + (ji22).toNat + 1) = False := eq_false (by have h_ := c26; have g_ : (ji22) ≤ ((t123 ++ t122).size : Int) := (by assumption); simp only [ByteArray.size_append, ByteArray.size_extract, ByteArray.size_mk', List.size_toArray, List.length_cons, List.length_nil, Int.natCast_add] at h_ g_; omega))
          try have c26b2 : (9223372036854775807 < ((⟨#[45]⟩ : ByteArray) ++ ((t123 ++ t122).extract 0 ((ji22) : Int).toNat)).size + 1) = False := eq_false (Nat.not_lt.2 c26)
          have c27b0 := eq_true (of_decide_eq_true as_f : 0 ≤ (ji22)); have c28b0 := eq_true (of_decide_eq_true as_f : (ji22) ≤ ((t123 ++ t122).size : Int)); by_cases c29 : (((⟨#[45]⟩ : ByteArray) ++ ((t123 ++ t122).extract 0 ((ji22) : Int).toNat)) ++ (⟨#[46]⟩ : ByteArray)).size + ((t123 ++ t122).extract ((ji22) : Int).toNat (t123 ++ t122).size).size ≤ 9223372036854775807
          ·rw [if_pos c29] at H; have c29b0 := eq_true c29; have c29b1 : decide ((((⟨#[45]⟩ : ByteArray) ++ ((t123 ++ t122).extract 0 ((ji22) : Int).toNat)) ++ (⟨#[46]⟩ : ByteArray)).size + ((t123 ++ t122).extract ((ji22) : Int).toNat (t123 ++ t122).size).size ≤ 9223372036854775807) = true := decide_eq_true c29; (try have c29v0 : (9223372036854775807 < 1 + (ji22).toNat + 1 + (t123.size + t122.size - (ji22).toNat)) = False := eq_false (by have h_ := c29; have g_ : (ji22) ≤ ((t123 ++ t122).size : Int) := (by assumption); simp only [ByteArray.size_append, ByteArray.size_extract, ByteArray.size_mk', List.size_toArray, List.length_cons, List.length_nil, Int.natCast_add] at h_ g_; omega))
           try have c29b2 : (9223372036854775807 < (((⟨#[45]⟩ : ByteArray) ++ ((t123 ++ t122).extract 0 ((ji22) : Int).toNat)) ++ (⟨#[46]⟩ : ByteArray)).size + ((t123 ++ t122).extract ((ji22) : Int).toNat (t123 ++ t122).size).size) = False := eq_false (Nat.not_lt.2 c29)
           obtain rfl := Option.some.inj H; go_enter Tryz.func14, Tryz.ntmps14
           try go_wp2_with (first | ((with_reducible refine gate_dst (N := 1) rfl ?_); refine be_ 1 #[.string a0_0, .string a0_1] 23 ?_; intro gb113 hg w30 hbox hb; have BK113 := Aside0.mk (hbox); have GW113 := ge_ HB hg; have GE113 := ge_ HB hg; replace HB := bs_ HB hb; clear hb hbox hg; have hcz31_0 := bc_ BK113 0 rfl; have hcz31_1 := bc_ BK113 1 rfl; have hfz31_0 := blk_frozen BK113.out 0; have hfz31_1 := blk_frozen BK113.out 1) | (refine gl_ 12 Tryz.func12 #[.agg #[.string a0_0, .string a0_1]] ?_; refine mo_ (decimal_Places.calls k a0_0 a0_1 t114 true _ (lb_ HLD HB) A2.out) ?_; intro w32 hb; replace BK113 := kb_ BK113 hb; replace HB := bs_ HB hb; (try clear hb); (try clear hb2); (try clear hk); (try clear hi); have hcz33_0 := bc_ BK113 0 rfl; have hcz33_1 := bc_ BK113 1 rfl; have hfz33_0 := blk_frozen BK113.out 0; have hfz33_1 := blk_frozen BK113.out 1) | (refine gl_ 17 Tryz.func36 #[.agg #[.string a0_0, .string a0_1]] ?_; refine mo_ (rat_May.calls a0_0 a0_1 true _ (lb_ HLD HB) A3.out) ?_; intro w34 hb; replace BK113 := kb_ BK113 hb; replace HB := bs_ HB hb; (try clear hb); (try clear hb2); (try clear hk); (try clear hi)))
           replace BK113 := Aside0.mk (blk_drew BK113.out); replace HB := Aside0.mk (below_drew1 HB.out); refine sa_ 12 (fun w' => w'.cell? ⟨gb113, 0, none⟩ = some (.string a0_0) ∧ w'.cell? ⟨gb113, 1, none⟩ = some (.string a0_1)) (fun hHeld => ?_); refine with_tabW decimal_Print.tab8 decimal_Print.bits8 (fun HT_ HW_ => ?_); generalize w34.drew = w35 at BK113 HB hHeld ⊢; refine pu_ 0 34 rfl rfl HT_ ?_; refine pu_ 2 36 rfl rfl HT_ ?_; refine t2_ 3 37 rfl rfl HT_ HW_ hHeld ?_; refine on_ 1 (some 35) rfl rfl HT_ (fun K hK => ?_); refine gs_ Tryz.func27 #[.int .i64 t114] ?_; refine mo_ (decimal_power.calls t114 t117 _ A13.out) ?_; intro w36 hb; replace BK113 := kb_ BK113 hb; replace HB := bs_ HB hb; (try clear hb); refine hk_ hK (fun hHeld => ?_); clear hK K; refine nm_ ?_; refine on_ 4 (some 38) rfl rfl HT_ (fun K hK => ?_); refine gs_ Tryz.func40 #[.string t117, .string a0_1] ?_; refine mo_ (nat_Div.calls t117 a0_1 t118 t119 t120 _ (lb_ HLD HB) A14.out) ?_; intro w37 hb; replace BK113 := kb_ BK113 hb; replace HB := bs_ HB hb; (try clear hb); refine hk_ hK (fun hHeld => ?_); clear hK K; refine nm_ ?_; refine pu_ 5 33 rfl rfl HT_ ?_; refine pu_ 6 39 rfl rfl HT_ ?_; refine pu_ 7 40 rfl rfl HT_ ?_; refine pu_ 8 41 rfl rfl HT_ ?_; refine pu_ 9 5 rfl rfl HT_ ?_; refine pu_ 10 6 rfl rfl HT_ ?_; refine pu_ 11 7 rfl rfl HT_ ?_; refine done_ (done_of HT_.out (by kernel_rfl)) ?_; have hcz38_0 := bc_ BK113 0 rfl; have hcz38_1 := bc_ BK113 1 rfl; have hfz38_0 := blk_frozen BK113.out 0; have hfz38_1 := blk_frozen BK113.out 1
           try go_wp2_with (first | (refine gl_ 44 Tryz.func42 #[.string a0_0] ?_; refine mo_ (whole_Abs.calls a0_0 t121 _ A15.out) ?_; intro w39 hb; replace BK113 := kb_ BK113 hb; replace HB := bs_ HB hb; (try clear hb); (try clear hb2); (try clear hk); (try clear hi)) | (refine gl_ 46 Tryz.func41 #[.string t121, .string t118] ?_; refine mo_ (nat_Mul.calls t121 t118 t122 _ (lb_ HLD HB) A16.out) ?_; intro w40 hb; replace BK113 := kb_ BK113 hb; replace HB := bs_ HB hb; (try clear hb); (try clear hb2); (try clear hk); (try clear hi)) | ((with_reducible refine gate_callee (f := 43) rfl ?_); refine goesL_ (some 53) rfl rfl Tryz.func43 (by kernel_rfl) rfl #[.string (⟨#[48]⟩ : ByteArray), .int .i64 ji17] rfl (by (try simp only [List.map_toArray, List.map_cons, List.map_nil]); first | done | (simp only [hji17]; rfl) | rfl | (simp only [List.length_drop, List.length_take]; rfl)) ?_; refine mo_ (strings_Repeat.calls (⟨#[48]⟩ : ByteArray) ji17 t123 _ A18.out) ?_; intro w41 hb; replace BK113 := kb_ BK113 hb; replace HB := bs_ HB hb; (try clear hb); (try clear hb2); (try clear hk); (try clear hi); have hcz42_0 := bc_ BK113 0 rfl; have hcz42_1 := bc_ BK113 1 rfl; have hfz42_0 := blk_frozen BK113.out 0; have hfz42_1 := blk_frozen BK113.out 1) | (refine gl_ 58 Tryz.func44 #[.string a0_0] ?_; refine mo_ (whole_Sign.calls a0_0 t124 _ A20.out) ?_; intro w43 hb; replace BK113 := kb_ BK113 hb; replace HB := bs_ HB hb; (try clear hb); (try clear hb2); (try clear hk); (try clear hi)))
           replace BK113 := Aside0.mk (blk_drew BK113.out); replace HB := Aside0.mk (below_drew1 HB.out); refine start_ (n := 17) (S := fun w' => True) (ds := []) #[false, false, false, false, false, false, false, false, false, false, false, false, false, false, false, false, false] (by kernel_rfl) rfl rfl trivial (fun hHeld => ?_); refine with_tabW decimal_Print.tab14 decimal_Print.bits14 (fun HT_ HW_ => ?_); generalize w43.drew = w44 at BK113 HB hHeld ⊢; refine pu_ 0 60 rfl rfl HT_ ?_; refine pu_ 1 61 rfl rfl HT_ ?_; refine pu_ 2 62 rfl rfl HT_ ?_; refine pu_ 3 63 rfl rfl HT_ ?_; refine pu_ 4 64 rfl rfl HT_ ?_; refine pu_ 5 65 rfl rfl HT_ ?_; refine pu_ 6 66 rfl rfl HT_ ?_; refine pu_ 7 67 rfl rfl HT_ ?_; refine pu_ 8 68 rfl rfl HT_ ?_; refine pu_ 9 69 rfl rfl HT_ ?_; refine pu_ 10 70 rfl rfl HT_ ?_; refine pu_ 11 71 rfl rfl HT_ ?_; refine pu_ 12 72 rfl rfl HT_ ?_; refine pu_ 13 73 rfl rfl HT_ ?_; refine pu_ 14 74 rfl rfl HT_ ?_; refine pu_ 15 75 rfl rfl HT_ ?_; refine pu_ 16 2 rfl rfl HT_ ?_; refine done_ (done_of HT_.out (by kernel_rfl)) ?_
           try go_wp2
           go_ret
           exact ⟨by first | rfl | (simp [errW_none, errW_some] <;> rfl) | (simp only [← hji17, ← hji22]; first | rfl | (simp [errW_none, errW_some] <;> rfl)) | (simp [*, errW_none, errW_some] <;> rfl), b_ HB.out⟩
          ·rw [if_neg c29] at H; exact absurd H (by simp)
         ·rw [if_neg c26] at H; exact absurd H (by simp)
        ·rw [if_neg c25] at H; exact absurd H (by simp)
       ·rw [if_neg c24] at H; exact absurd H (by simp)
      ·rw [if_neg c23] at H; exact absurd H (by simp)
     ·rw [if_neg c21] at H; have c21b0 : decide (t124 < 0) = false := decide_eq_false c21; clear c21; obtain ⟨ji45, hji45⟩ : ∃ j_ : Int, (wrap64 (((t123 ++ t122).size : Int) - t114)) = j_ := ⟨_, rfl⟩; (first | rw [hji45] at H | simp only [hji45] at H); (try rw [hji45] at A2); (try rw [hji45] at A3); (try rw [hji45] at A13); (try rw [hji45] at A14); (try rw [hji45] at A15); (try rw [hji45] at A16); (try rw [hji45] at A18); (try rw [hji45] at A20); have hji45w : (IntKind.i64.wrap (((t123 ++ t122).size : Int) - t114)) = ji45 := (i64_w _).trans hji45; (try (have hji45v := hji45; simp only [ByteArray.size_append, Int.natCast_add] at hji45v)); (try (have hji45u := hji45w; simp only [ByteArray.size_append, Int.natCast_add] at hji45u)); by_cases c46 : 0 ≤ (ji45)
      ·rw [if_pos c46] at H; have c46b0 := eq_true c46; have c46b1 : decide (0 ≤ (ji45)) = true := decide_eq_true c46; clear c46; by_cases c47 : (ji45) ≤ ((t123 ++ t122).size : Int)
       ·rw [if_pos c47] at H; have c47b0 := eq_true c47; have c47b1 : decide ((ji45) ≤ ((t123 ++ t122).size : Int)) = true := decide_eq_true c47; (try (have c47v := c47; simp only [ByteArray.size_append, Int.natCast_add] at c47v; replace c47v := eq_true c47v)); by_cases c48 : 0 + ((t123 ++ t122).extract 0 ((ji45) : Int).toNat).size ≤ 9223372036854775807
        ·rw [if_pos c48] at H; have c48b0 := eq_true c48; have c48b1 : decide (0 + ((t123 ++ t122).extract 0 ((ji45) : Int).toNat).size ≤ 9223372036854775807) = true := decide_eq_true c48; (try have c48v0 : (9223372036854775807 < 0 + (ji45).toNat) = False := eq_false (by have h_ := c48; have g_ : (ji45) ≤ ((t123 ++ t122).size : Int) := (by assumption); simp only [ByteArray.size_append, ByteArray.size_extract, ByteArray.size_mk', List.size_toArray, List.length_cons, List.length_nil, Int.natCast_add] at h_ g_; omega)); (try have c48v1 : (9223372036854775807 < (ji45).toNat) = False := eq_false (by have h_ := c48; have g_ : (ji45) ≤ ((t123 ++ t122).size : Int) := (by assumption); simp only [ByteArray.size_append, ByteArray.size_extract, ByteArray.size_mk', List.size_toArray, List.length_cons, List.length_nil, Int.natCast_add] at h_ g_; omega))
         try have c48b2 : (9223372036854775807 < 0 + ((t123 ++ t122).extract 0 ((ji45) : Int).toNat).size) = False := eq_false (Nat.not_lt.2 c48)
         by_cases c49 : ((⟨#[]⟩ : ByteArray) ++ ((t123 ++ t122).extract 0 ((ji45) : Int).toNat)).size + 1 ≤ 9223372036854775807
         ·rw [if_pos c49] at H; have c49b0 := eq_true c49; have c49b1 : decide (((⟨#[]⟩ : ByteArray) ++ ((t123 ++ t122).extract 0 ((ji45) : Int).toNat)).size + 1 ≤ 9223372036854775807) = true := decide_eq_true c49; (try have c49v0 : (9223372036854775807 < 0 + (ji45).toNat + 1) = False := eq_false (by have h_ := c49; have g_ : (ji45) ≤ ((t123 ++ t122).size : Int) := (by assumption); simp only [ByteArray.size_append, ByteArray.size_extract, ByteArray.size_mk', List.size_toArray, List.length_cons, List.length_nil, Int.natCast_add] at h_ g_; omega)); (try have c49v1 : (9223372036854775807 < (ji45).toNat + 1) = False := eq_false (by have h_ := c49; have g_ : (ji45) ≤ ((t123 ++ t122).size : Int) := (by assumption); simp only [ByteArray.size_append, ByteArray.size_extract, ByteArray.size_mk', List.size_toArray, List.length_cons, List.length_nil, Int.natCast_add] at h_ g_; omega))
          try have c49b2 : (9223372036854775807 < ((⟨#[]⟩ : ByteArray) ++ ((t123 ++ t122).extract 0 ((ji45) : Int).toNat)).size + 1) = False := eq_false (Nat.not_lt.2 c49)
          have c50b0 := eq_true (of_decide_eq_true as_f : 0 ≤ (ji45)); have c51b0 := eq_true (of_decide_eq_true as_f : (ji45) ≤ ((t123 ++ t122).size : Int)); by_cases c52 : (((⟨#[]⟩ : ByteArray) ++ ((t123 ++ t122).extract 0 ((ji45) : Int).toNat)) ++ (⟨#[46]⟩ : ByteArray)).size + ((t123 ++ t122).extract ((ji45) : Int).toNat (t123 ++ t122).size).size ≤ 9223372036854775807
          ·rw [if_pos c52] at H; have c52b0 := eq_true c52; have c52b1 : decide ((((⟨#[]⟩ : ByteArray) ++ ((t123 ++ t122).extract 0 ((ji45) : Int).toNat)) ++ (⟨#[46]⟩ : ByteArray)).size + ((t123 ++ t122).extract ((ji45) : Int).toNat (t123 ++ t122).size).size ≤ 9223372036854775807) = true := decide_eq_true c52; (try have c52v0 : (9223372036854775807 < 0 + (ji45).toNat + 1 + (t123.size + t122.size - (ji45).toNat)) = False := eq_false (by have h_ := c52; have g_ : (ji45) ≤ ((t123 ++ t122).size : Int) := (by assumption); simp only [ByteArray.size_append, ByteArray.size_extract, ByteArray.size_mk', List.size_toArray, List.length_cons, List.length_nil, Int.natCast_add] at h_ g_; omega)); (try have c52v1 : (9223372036854775807 < (ji45).toNat + 1 + (t123.size + t122.size - (ji45).toNat)) = False := eq_false (by have h_ := c52; have g_ : (ji45) ≤ ((t123 ++ t122).size : Int) := (by assumption); simp only [ByteArray.size_append, ByteArray.size_extract, ByteArray.size_mk', List.size_toArray, List.length_cons, List.length_nil, Int.natCast_add] at h_ g_; omega))
           try have c52b2 : (9223372036854775807 < (((⟨#[]⟩ : ByteArray) ++ ((t123 ++ t122).extract 0 ((ji45) : Int).toNat)) ++ (⟨#[46]⟩ : ByteArray)).size + ((t123 ++ t122).extract ((ji45) : Int).toNat (t123 ++ t122).size).size) = False := eq_false (Nat.not_lt.2 c52)
           obtain rfl := Option.some.inj H; go_enter Tryz.func14, Tryz.ntmps14
           try go_wp2_with (first | ((with_reducible refine gate_dst (N := 1) rfl ?_); refine be_ 1 #[.string a0_0, .string a0_1] 23 ?_; intro gb113 hg w53 hbox hb; have BK113 := Aside0.mk (hbox); have GW113 := ge_ HB hg; have GE113 := ge_ HB hg; replace HB := bs_ HB hb; clear hb hbox hg; have hcz54_0 := bc_ BK113 0 rfl; have hcz54_1 := bc_ BK113 1 rfl; have hfz54_0 := blk_frozen BK113.out 0; have hfz54_1 := blk_frozen BK113.out 1) | (refine gl_ 12 Tryz.func12 #[.agg #[.string a0_0, .string a0_1]] ?_; refine mo_ (decimal_Places.calls k a0_0 a0_1 t114 true _ (lb_ HLD HB) A2.out) ?_; intro w55 hb; replace BK113 := kb_ BK113 hb; replace HB := bs_ HB hb; (try clear hb); (try clear hb2); (try clear hk); (try clear hi); have hcz56_0 := bc_ BK113 0 rfl; have hcz56_1 := bc_ BK113 1 rfl; have hfz56_0 := blk_frozen BK113.out 0; have hfz56_1 := blk_frozen BK113.out 1) | (refine gl_ 17 Tryz.func36 #[.agg #[.string a0_0, .string a0_1]] ?_; refine mo_ (rat_May.calls a0_0 a0_1 true _ (lb_ HLD HB) A3.out) ?_; intro w57 hb; replace BK113 := kb_ BK113 hb; replace HB := bs_ HB hb; (try clear hb); (try clear hb2); (try clear hk); (try clear hi)))
           replace BK113 := Aside0.mk (blk_drew BK113.out); replace HB := Aside0.mk (below_drew1 HB.out); refine sa_ 12 (fun w' => w'.cell? ⟨gb113, 0, none⟩ = some (.string a0_0) ∧ w'.cell? ⟨gb113, 1, none⟩ = some (.string a0_1)) (fun hHeld => ?_); refine with_tabW decimal_Print.tab8 decimal_Print.bits8 (fun HT_ HW_ => ?_); generalize w57.drew = w58 at BK113 HB hHeld ⊢; refine pu_ 0 34 rfl rfl HT_ ?_; refine pu_ 2 36 rfl rfl HT_ ?_; refine t2_ 3 37 rfl rfl HT_ HW_ hHeld ?_; refine on_ 1 (some 35) rfl rfl HT_ (fun K hK => ?_); refine gs_ Tryz.func27 #[.int .i64 t114] ?_; refine mo_ (decimal_power.calls t114 t117 _ A13.out) ?_; intro w59 hb; replace BK113 := kb_ BK113 hb; replace HB := bs_ HB hb; (try clear hb); refine hk_ hK (fun hHeld => ?_); clear hK K; refine nm_ ?_; refine on_ 4 (some 38) rfl rfl HT_ (fun K hK => ?_); refine gs_ Tryz.func40 #[.string t117, .string a0_1] ?_; refine mo_ (nat_Div.calls t117 a0_1 t118 t119 t120 _ (lb_ HLD HB) A14.out) ?_; intro w60 hb; replace BK113 := kb_ BK113 hb; replace HB := bs_ HB hb; (try clear hb); refine hk_ hK (fun hHeld => ?_); clear hK K; refine nm_ ?_; refine pu_ 5 33 rfl rfl HT_ ?_; refine pu_ 6 39 rfl rfl HT_ ?_; refine pu_ 7 40 rfl rfl HT_ ?_; refine pu_ 8 41 rfl rfl HT_ ?_; refine pu_ 9 5 rfl rfl HT_ ?_; refine pu_ 10 6 rfl rfl HT_ ?_; refine pu_ 11 7 rfl rfl HT_ ?_; refine done_ (done_of HT_.out (by kernel_rfl)) ?_; have hcz61_0 := bc_ BK113 0 rfl; have hcz61_1 := bc_ BK113 1 rfl; have hfz61_0 := blk_frozen BK113.out 0; have hfz61_1 := blk_frozen BK113.out 1
           try go_wp2_with (first | (refine gl_ 44 Tryz.func42 #[.string a0_0] ?_; refine mo_ (whole_Abs.calls a0_0 t121 _ A15.out) ?_; intro w62 hb; replace BK113 := kb_ BK113 hb; replace HB := bs_ HB hb; (try clear hb); (try clear hb2); (try clear hk); (try clear hi)) | (refine gl_ 46 Tryz.func41 #[.string t121, .string t118] ?_; refine mo_ (nat_Mul.calls t121 t118 t122 _ (lb_ HLD HB) A16.out) ?_; intro w63 hb; replace BK113 := kb_ BK113 hb; replace HB := bs_ HB hb; (try clear hb); (try clear hb2); (try clear hk); (try clear hi)) | ((with_reducible refine gate_callee (f := 43) rfl ?_); refine goesL_ (some 53) rfl rfl Tryz.func43 (by kernel_rfl) rfl #[.string (⟨#[48]⟩ : ByteArray), .int .i64 ji17] rfl (by (try simp only [List.map_toArray, List.map_cons, List.map_nil]); first | done | (simp only [hji17]; rfl) | rfl | (simp only [List.length_drop, List.length_take]; rfl)) ?_; refine mo_ (strings_Repeat.calls (⟨#[48]⟩ : ByteArray) ji17 t123 _ A18.out) ?_; intro w64 hb; replace BK113 := kb_ BK113 hb; replace HB := bs_ HB hb; (try clear hb); (try clear hb2); (try clear hk); (try clear hi); have hcz65_0 := bc_ BK113 0 rfl; have hcz65_1 := bc_ BK113 1 rfl; have hfz65_0 := blk_frozen BK113.out 0; have hfz65_1 := blk_frozen BK113.out 1) | (refine gl_ 58 Tryz.func44 #[.string a0_0] ?_; refine mo_ (whole_Sign.calls a0_0 t124 _ A20.out) ?_; intro w66 hb; replace BK113 := kb_ BK113 hb; replace HB := bs_ HB hb; (try clear hb); (try clear hb2); (try clear hk); (try clear hi)))
           replace BK113 := Aside0.mk (blk_drew BK113.out); replace HB := Aside0.mk (below_drew1 HB.out); refine start_ (n := 17) (S := fun w' => True) (ds := []) #[false, false, false, false, false, false, false, false, false, false, false, false, false, false, false, false, false] (by kernel_rfl) rfl rfl trivial (fun hHeld => ?_); refine with_tabW decimal_Print.tab14 decimal_Print.bits14 (fun HT_ HW_ => ?_); generalize w66.drew = w67 at BK113 HB hHeld ⊢; refine pu_ 0 60 rfl rfl HT_ ?_; refine pu_ 1 61 rfl rfl HT_ ?_; refine pu_ 2 62 rfl rfl HT_ ?_; refine pu_ 3 63 rfl rfl HT_ ?_; refine pu_ 4 64 rfl rfl HT_ ?_; refine pu_ 5 65 rfl rfl HT_ ?_; refine pu_ 6 66 rfl rfl HT_ ?_; refine pu_ 7 67 rfl rfl HT_ ?_; refine pu_ 8 68 rfl rfl HT_ ?_; refine pu_ 9 69 rfl rfl HT_ ?_; refine pu_ 10 70 rfl rfl HT_ ?_; refine pu_ 11 71 rfl rfl HT_ ?_; refine pu_ 12 72 rfl rfl HT_ ?_; refine pu_ 13 73 rfl rfl HT_ ?_; refine pu_ 14 74 rfl rfl HT_ ?_; refine pu_ 15 75 rfl rfl HT_ ?_; refine pu_ 16 2 rfl rfl HT_ ?_; refine done_ (done_of HT_.out (by kernel_rfl)) ?_
           try go_wp2
           go_ret
           exact ⟨by first | rfl | (simp [errW_none, errW_some] <;> rfl) | (simp only [← hji17, ← hji45]; first | rfl | (simp [errW_none, errW_some] <;> rfl)) | (simp [*, errW_none, errW_some] <;> rfl), b_ HB.out⟩
          ·rw [if_neg c52] at H; exact absurd H (by simp)
         ·rw [if_neg c49] at H; exact absurd H (by simp)
        ·rw [if_neg c48] at H; exact absurd H (by simp)
       ·rw [if_neg c47] at H; exact absurd H (by simp)
      ·rw [if_neg c46] at H; exact absurd H (by simp)
    ·rw [if_neg c19] at H; exact absurd H (by simp)
  ·replace c5 := Bool.eq_false_iff.mpr c5; subst c5; rw [if_neg nf_] at H; by_cases c68 : a0_0.size + 1 ≤ 9223372036854775807
   ·rw [if_pos c68] at H; have c68b0 := eq_true c68; have c68b1 : decide (a0_0.size + 1 ≤ 9223372036854775807) = true := decide_eq_true c68
    try have c68b2 : (9223372036854775807 < a0_0.size + 1) = False := eq_false (Nat.not_lt.2 c68)
    by_cases c69 : (a0_0 ++ (⟨#[47]⟩ : ByteArray)).size + a0_1.size ≤ 9223372036854775807
    ·rw [if_pos c69] at H; have c69b0 := eq_true c69; have c69b1 : decide ((a0_0 ++ (⟨#[47]⟩ : ByteArray)).size + a0_1.size ≤ 9223372036854775807) = true := decide_eq_true c69
     try have c69b2 : (9223372036854775807 < (a0_0 ++ (⟨#[47]⟩ : ByteArray)).size + a0_1.size) = False := eq_false (Nat.not_lt.2 c69)
     obtain rfl := Option.some.inj H; go_enter Tryz.func14, Tryz.ntmps14
     go_wp2_with (first | ((with_reducible refine gate_dst (N := 1) rfl ?_); refine be_ 1 #[.string a0_0, .string a0_1] 23 ?_; intro gb113 hg w70 hbox hb; have BK113 := Aside0.mk (hbox); have GW113 := ge_ HB hg; have GE113 := ge_ HB hg; replace HB := bs_ HB hb; clear hb hbox hg; have hcz71_0 := bc_ BK113 0 rfl; have hcz71_1 := bc_ BK113 1 rfl; have hfz71_0 := blk_frozen BK113.out 0; have hfz71_1 := blk_frozen BK113.out 1) | (refine gl_ 12 Tryz.func12 #[.agg #[.string a0_0, .string a0_1]] ?_; refine mo_ (decimal_Places.calls k a0_0 a0_1 t114 false _ (lb_ HLD HB) A2.out) ?_; intro w72 hb; replace BK113 := kb_ BK113 hb; replace HB := bs_ HB hb; (try clear hb); (try clear hb2); (try clear hk); (try clear hi); have hcz73_0 := bc_ BK113 0 rfl; have hcz73_1 := bc_ BK113 1 rfl; have hfz73_0 := blk_frozen BK113.out 0; have hfz73_1 := blk_frozen BK113.out 1) | (refine gl_ 17 Tryz.func36 #[.agg #[.string a0_0, .string a0_1]] ?_; refine mo_ (rat_May.calls a0_0 a0_1 true _ (lb_ HLD HB) A3.out) ?_; intro w74 hb; replace BK113 := kb_ BK113 hb; replace HB := bs_ HB hb; (try clear hb); (try clear hb2); (try clear hk); (try clear hi); have hcz75_0 := bc_ BK113 0 rfl; have hcz75_1 := bc_ BK113 1 rfl; have hfz75_0 := blk_frozen BK113.out 0; have hfz75_1 := blk_frozen BK113.out 1))
     go_ret
     exact ⟨er_, b_ HB.out⟩
    ·rw [if_neg c69] at H; exact absurd H (by simp)
   ·rw [if_neg c68] at H; exact absurd H (by simp)
 ·replace c4 := Bool.eq_false_iff.mpr c4; subst c4; rw [if_neg nf_] at H; obtain rfl := Option.some.inj H; go_enter Tryz.func14, Tryz.ntmps14
  go_wp2_with (first | ((with_reducible refine gate_dst (N := 1) rfl ?_); refine be_ 1 #[.string a0_0, .string a0_1] 23 ?_; intro gb113 hg w76 hbox hb; have BK113 := Aside0.mk (hbox); have GW113 := ge_ HB hg; have GE113 := ge_ HB hg; replace HB := bs_ HB hb; clear hb hbox hg; have hcz77_0 := bc_ BK113 0 rfl; have hcz77_1 := bc_ BK113 1 rfl; have hfz77_0 := blk_frozen BK113.out 0; have hfz77_1 := blk_frozen BK113.out 1) | (refine gl_ 12 Tryz.func12 #[.agg #[.string a0_0, .string a0_1]] ?_; refine mo_ (decimal_Places.calls k a0_0 a0_1 t114 t115 _ (lb_ HLD HB) A2.out) ?_; intro w78 hb; replace BK113 := kb_ BK113 hb; replace HB := bs_ HB hb; (try clear hb); (try clear hb2); (try clear hk); (try clear hi); have hcz79_0 := bc_ BK113 0 rfl; have hcz79_1 := bc_ BK113 1 rfl; have hfz79_0 := blk_frozen BK113.out 0; have hfz79_1 := blk_frozen BK113.out 1) | (refine gl_ 17 Tryz.func36 #[.agg #[.string a0_0, .string a0_1]] ?_; refine mo_ (rat_May.calls a0_0 a0_1 false _ (lb_ HLD HB) A3.out) ?_; intro w80 hb; replace BK113 := kb_ BK113 hb; replace HB := bs_ HB hb; (try clear hb); (try clear hb2); (try clear hk); (try clear hi)))
  go_ret
  exact ⟨er_, b_ HB.out⟩
def decimal_digits.f (a0 : ByteArray) : Option (Bool) := if a0.toList = ([] : List UInt8) then (some false) else ((strings_Trim.f a0 (⟨#[48, 49, 50, 51, 52, 53, 54, 55, 56, 57]⟩ : ByteArray)).bind fun t125 => (some (t125.toList == ([] : List UInt8))))
set_option maxHeartbeats 8000000 in
set_option maxRecDepth 100000 in
theorem decimal_digits.calls (a0 : ByteArray) (r : Bool) (w : World) (h : decimal_digits.f a0 = some r) :
  Calls Tryz.prog 26 #[.string a0] w fun e w' => e = .returned (.bool r) ∧ Below w.heap.size w w' := by
 have HB := Aside0.mk (Below.refl w.heap.size w); have H := h; unfold decimal_digits.f at H; clear h; by_cases c2 : a0.toList = ([] : List UInt8)
 ·rw [if_pos c2] at H; have c2b0 : (a0.toList == ([] : List UInt8)) = true := beq_iff_eq.mpr c2; have c2b1 : (a0.toList != ([] : List UInt8)) = false := bne_eq_false_iff_eq.mpr c2; clear c2; obtain rfl := Option.some.inj H; go_enter Tryz.func26, Tryz.ntmps26; go_wp2
  go_ret
  exact ⟨er_, b_ HB.out⟩
 ·rw [if_neg c2] at H; have c2b0 : (a0.toList == ([] : List UInt8)) = false := beq_eq_false_iff_ne.mpr c2; have c2b1 : (a0.toList != ([] : List UInt8)) = true := bne_iff_ne.mpr c2; obtain ⟨t125, A3, H⟩ := bi_ H; obtain rfl := Option.some.inj H; go_enter Tryz.func26, Tryz.ntmps26
  go_wp2_with (first | (go_at_call 53; (with_reducible refine (strings_Trim.calls a0 (⟨#[48, 49, 50, 51, 52, 53, 54, 55, 56, 57]⟩ : ByteArray) t125 _ A3.out).mono ?_); rintro e w4 ⟨rfl, hb⟩; replace HB := bs_ HB hb; (try clear hb); (try clear hb2); (try clear hk); (try clear hi)))
  go_ret
  exact ⟨er_, b_ HB.out⟩
end Go.Proofs.YtaldgaiaelbbaaaGreatDoor.Pd
end

section
namespace Go.Proofs.YtaldgaiaelbbaaaGreatDoor.Pd
def decimal_plain.f (a0 : ByteArray) : Option (ByteArray) := (strings_TrimLeft.f a0 (⟨#[48]⟩ : ByteArray)).bind fun t126 => (if t126.toList = ([] : List UInt8) then (some (⟨#[48]⟩ : ByteArray)) else (some t126))
set_option maxHeartbeats 8000000 in
set_option maxRecDepth 100000 in
theorem decimal_plain.calls (a0 : ByteArray) (r : ByteArray) (w : World) (h : decimal_plain.f a0 = some r) :
  Calls Tryz.prog 28 #[.string a0] w fun e w' => e = .returned (.string r) ∧ Below w.heap.size w w' := by
 have HB := Aside0.mk (Below.refl w.heap.size w); have H := h; unfold decimal_plain.f at H; clear h; obtain ⟨t126, A2, H⟩ := bi_ H; by_cases c3 : t126.toList = ([] : List UInt8)
 ·rw [if_pos c3] at H; have c3b0 : (t126.toList == ([] : List UInt8)) = true := beq_iff_eq.mpr c3; have c3b1 : (t126.toList != ([] : List UInt8)) = false := bne_eq_false_iff_eq.mpr c3; clear c3; obtain rfl := Option.some.inj H; go_enter Tryz.func28, Tryz.ntmps28
  go_wp2_with (first | (refine gl_ 5 Tryz.func54 #[.string a0, .string (⟨#[48]⟩ : ByteArray)] ?_; refine mo_ (strings_TrimLeft.calls a0 (⟨#[48]⟩ : ByteArray) t126 _ A2.out) ?_; intro w4 hb; replace HB := bs_ HB hb; (try clear hb); (try clear hb2); (try clear hk); (try clear hi)))
  go_ret
  exact ⟨er_, b_ HB.out⟩
 ·rw [if_neg c3] at H; have c3b0 : (t126.toList == ([] : List UInt8)) = false := beq_eq_false_iff_ne.mpr c3; have c3b1 : (t126.toList != ([] : List UInt8)) = true := bne_iff_ne.mpr c3; obtain rfl := Option.some.inj H; go_enter Tryz.func28, Tryz.ntmps28
  go_wp2_with (first | (refine gl_ 5 Tryz.func54 #[.string a0, .string (⟨#[48]⟩ : ByteArray)] ?_; refine mo_ (strings_TrimLeft.calls a0 (⟨#[48]⟩ : ByteArray) t126 _ A2.out) ?_; intro w5 hb; replace HB := bs_ HB hb; (try clear hb); (try clear hb2); (try clear hk); (try clear hi)))
  go_ret
  exact ⟨er_, b_ HB.out⟩
mutual
def decimal_Parse.j0 : Nat → ByteArray → Bool → ByteArray → ByteArray → Option (ByteArray × ByteArray × Int)
 | 0, _, _, _, _ => none
 | k + 1, x0, x5, x6, x7 => if (x0.size : Int) > 1000 then (decimal_Parse.j1 k x5 x6 x7 true) else ((decimal_digits.f x6).bind fun t139 => (if t139 = true then ((decimal_digits.f x7).bind fun t140 => (decimal_Parse.j1 k x5 x6 x7 (!t140))) else (decimal_Parse.j1 k x5 x6 x7 true)))
def decimal_Parse.j1 : Nat → Bool → ByteArray → ByteArray → Bool → Option (ByteArray × ByteArray × Int)
 | 0, _, _, _, _ => none
 | k + 1, x5, x6, x7, x64 => if x64 = true then (some ((⟨#[]⟩ : ByteArray), (⟨#[]⟩ : ByteArray), 40)) else ((decimal_plain.f x6).bind fun t141 => ((decimal_plain.f x7).bind fun t142 => (if x5 = true then ((whole_Neg.f t141).bind fun t143 => ((rat_Make.f t143 t142).bind fun bt144 => (if bt144.2.2 = true then (some (bt144.1, bt144.2.1, 0)) else (some ((⟨#[]⟩ : ByteArray), (⟨#[]⟩ : ByteArray), 40))))) else ((rat_Make.f t141 t142).bind fun bt148 => (if bt148.2.2 = true then (some (bt148.1, bt148.2.1, 0)) else (some ((⟨#[]⟩ : ByteArray), (⟨#[]⟩ : ByteArray), 40)))))))
end
def decimal_Parse.f (k : Nat) (a0 : ByteArray) : Option (ByteArray × ByteArray × Int) := (strings_CutPrefix.f a0 (⟨#[45]⟩ : ByteArray)).bind fun bt128 => ((strings_Cut.f bt128.1 (⟨#[47]⟩ : ByteArray)).bind fun bt130 => (if bt130.2.2 = true then (decimal_Parse.j0 k a0 bt128.2 bt130.1 bt130.2.1) else ((strings_Cut.f bt128.1 (⟨#[46]⟩ : ByteArray)).bind fun bt133 => (if bt133.2.2 = true then ((decimal_digits.f bt133.1).bind fun t136 => (if t136 = true then ((decimal_digits.f bt133.2.1).bind fun t137 => (if t137 = true then (if bt133.1.size + bt133.2.1.size ≤ 9223372036854775807 then ((decimal_power.f (bt133.2.1.size : Int)).bind fun t138 => (decimal_Parse.j0 k a0 bt128.2 (bt133.1 ++ bt133.2.1) t138)) else (none)) else (decimal_Parse.j0 k a0 bt128.2 bt128.1 (⟨#[49]⟩ : ByteArray)))) else (decimal_Parse.j0 k a0 bt128.2 bt128.1 (⟨#[49]⟩ : ByteArray)))) else (decimal_Parse.j0 k a0 bt128.2 bt128.1 (⟨#[49]⟩ : ByteArray))))))
set_option maxHeartbeats 8000000 in
set_option maxRecDepth 100000 in
theorem decimal_Parse.calls (k : Nat) (a0 : ByteArray) (r1 : ByteArray) (r2 : ByteArray) (r3 : Int) (w : World) (hL_ : Laid w) (h : decimal_Parse.f k a0 = some (r1, r2, r3)) :
  Calls Tryz.prog 10 #[.string a0] w fun e w' => e = .returned (.tuple #[.agg #[.string r1, .string r2], .int .i64 r3]) ∧ Below w.heap.size w w' := by
 have hu23 := Tryz.underlying23; have HLD := Aside0.mk hL_; clear hL_; have HB := Aside0.mk (Below.refl w.heap.size w); have H := h; unfold decimal_Parse.f at H; clear h; obtain ⟨⟨t128, t129⟩, A2, H⟩ := bi_ H; (try dsimp only at H); obtain ⟨⟨t130, t131, t132⟩, A3, H⟩ := bi_ H; (try dsimp only at H); have HC4 := Aside0.mk H; clear H; go_enter Tryz.func10, Tryz.ntmps10
 go_upto_if 28 with (first | ((with_reducible refine gate_dst (N := 2) rfl ?_); refine be_ 2 #[.string (⟨#[]⟩ : ByteArray), .string (⟨#[]⟩ : ByteArray)] 23 ?_; intro gb127 hg w5 hbox hb; have BK127 := Aside0.mk (hbox); have GW127 := ge_ HB hg; have GE127 := ge_ HB hg; replace HB := bs_ HB hb; clear hb hbox hg) | (refine gl_ 18 Tryz.func24 #[.string a0, .string (⟨#[45]⟩ : ByteArray)] ?_; refine mo_ (strings_CutPrefix.calls a0 (⟨#[45]⟩ : ByteArray) t128 t129 _ A2.out) ?_; intro w6 hb; replace BK127 := kb_ BK127 hb; replace HB := bs_ HB hb; (try clear hb); (try clear hb2); (try clear hk); (try clear hi)) | (refine gl_ 24 Tryz.func25 #[.string t128, .string (⟨#[47]⟩ : ByteArray)] ?_; refine mo_ (strings_Cut.calls t128 (⟨#[47]⟩ : ByteArray) t130 t131 t132 _ (lb_ HLD HB) A3.out) ?_; intro w7 hb; replace BK127 := kb_ BK127 hb; replace HB := bs_ HB hb; (try clear hb); (try clear hb2); (try clear hk); (try clear hi)))
 (try simp only [Act.put, List.setIfInBounds_toArray, List.set_cons_zero, List.set_cons_succ])
 go_cut [6, 7] (fun v6 v7 wc => ∃ (kq : Nat) (x6_3 : ByteArray) (x7_3 : ByteArray), v6 = .string x6_3 ∧ v7 = .string x7_3 ∧ Aside0 (decimal_Parse.j0 kq a0 t129 x6_3 x7_3 = some (r1, r2, r3)) ∧ Aside0 (kq ≤ k) ∧ Aside0 (wc.heap[gb127]? = some (.cells #[.string (⟨#[]⟩ : ByteArray), .string (⟨#[]⟩ : ByteArray)] 23 (0, 0))) ∧ Aside0 (Below w.heap.size w wc))
 case first =>
  have H := HC4.out; clear HC4; by_cases c8 : t132 = true
  ·subst c8; rw [if_pos rfl] at H; have H' := Aside0.mk H; clear H; go_wp2
   go_meet
   case rel => exact ⟨_, (t130), (t131), rl_, rl_, H', ⟨by first | omega | exact Nat.le_refl _⟩, ⟨k_ BK127.out⟩, ⟨b_ HB.out⟩⟩
  ·replace c8 := Bool.eq_false_iff.mpr c8; subst c8; rw [if_neg nf_] at H; obtain ⟨⟨t133, t134, t135⟩, A9, H⟩ := bi_ H; (try dsimp only at H); by_cases c10 : t135 = true
   ·subst c10; rw [if_pos rfl] at H; obtain ⟨t136, A11, H⟩ := bi_ H; by_cases c12 : t136 = true
    ·subst c12; rw [if_pos rfl] at H; obtain ⟨t137, A13, H⟩ := bi_ H; by_cases c14 : t137 = true
     ·subst c14; rw [if_pos rfl] at H; by_cases c15 : t133.size + t134.size ≤ 9223372036854775807
      ·rw [if_pos c15] at H; have c15b0 := eq_true c15; have c15b1 : decide (t133.size + t134.size ≤ 9223372036854775807) = true := decide_eq_true c15
       try have c15b2 : (9223372036854775807 < t133.size + t134.size) = False := eq_false (Nat.not_lt.2 c15)
       obtain ⟨t138, A16, H⟩ := bi_ H; have H' := Aside0.mk H; clear H
       go_wp2_with (first | (refine gl_ 33 Tryz.func25 #[.string t128, .string (⟨#[46]⟩ : ByteArray)] ?_; refine mo_ (strings_Cut.calls t128 (⟨#[46]⟩ : ByteArray) t133 t134 true _ (lb_ HLD HB) A9.out) ?_; intro w17 hb; replace BK127 := kb_ BK127 hb; replace HB := bs_ HB hb; (try clear hb); (try clear hb2); (try clear hk); (try clear hi)) | (go_at_call 26; (with_reducible refine (decimal_digits.calls t133 true _ A11.out).mono ?_); rintro e w18 ⟨rfl, hb⟩; replace BK127 := kb_ BK127 hb; replace HB := bs_ HB hb; (try clear hb); (try clear hb2); (try clear hk); (try clear hi)) | (go_at_call 26; (with_reducible refine (decimal_digits.calls t134 true _ A13.out).mono ?_); rintro e w19 ⟨rfl, hb⟩; replace BK127 := kb_ BK127 hb; replace HB := bs_ HB hb; (try clear hb); (try clear hb2); (try clear hk); (try clear hi)) | (refine gl_ 51 Tryz.func27 #[.int .i64 (t134.size : Int)] ?_; refine mo_ (decimal_power.calls (t134.size : Int) t138 _ A16.out) ?_; intro w20 hb; replace BK127 := kb_ BK127 hb; replace HB := bs_ HB hb; (try clear hb); (try clear hb2); (try clear hk); (try clear hi)))
       go_meet
       case rel => exact ⟨_, (t133 ++ t134), (t138), rl_, rl_, H', ⟨by first | omega | exact Nat.le_refl _⟩, ⟨k_ BK127.out⟩, ⟨b_ HB.out⟩⟩
      ·rw [if_neg c15] at H; exact absurd H (by simp)
     ·replace c14 := Bool.eq_false_iff.mpr c14; subst c14; rw [if_neg nf_] at H; have H' := Aside0.mk H; clear H
      go_wp2_with (first | (refine gl_ 33 Tryz.func25 #[.string t128, .string (⟨#[46]⟩ : ByteArray)] ?_; refine mo_ (strings_Cut.calls t128 (⟨#[46]⟩ : ByteArray) t133 t134 true _ (lb_ HLD HB) A9.out) ?_; intro w21 hb; replace BK127 := kb_ BK127 hb; replace HB := bs_ HB hb; (try clear hb); (try clear hb2); (try clear hk); (try clear hi)) | (go_at_call 26; (with_reducible refine (decimal_digits.calls t133 true _ A11.out).mono ?_); rintro e w22 ⟨rfl, hb⟩; replace BK127 := kb_ BK127 hb; replace HB := bs_ HB hb; (try clear hb); (try clear hb2); (try clear hk); (try clear hi)) | (go_at_call 26; (with_reducible refine (decimal_digits.calls t134 false _ A13.out).mono ?_); rintro e w23 ⟨rfl, hb⟩; replace BK127 := kb_ BK127 hb; replace HB := bs_ HB hb; (try clear hb); (try clear hb2); (try clear hk); (try clear hi)))
      go_meet
      case rel => exact ⟨_, (t128), ((⟨#[49]⟩ : ByteArray)), rl_, rl_, H', ⟨by first | omega | exact Nat.le_refl _⟩, ⟨k_ BK127.out⟩, ⟨b_ HB.out⟩⟩
    ·replace c12 := Bool.eq_false_iff.mpr c12; subst c12; rw [if_neg nf_] at H; have H' := Aside0.mk H; clear H
     go_wp2_with (first | (refine gl_ 33 Tryz.func25 #[.string t128, .string (⟨#[46]⟩ : ByteArray)] ?_; refine mo_ (strings_Cut.calls t128 (⟨#[46]⟩ : ByteArray) t133 t134 true _ (lb_ HLD HB) A9.out) ?_; intro w24 hb; replace BK127 := kb_ BK127 hb; replace HB := bs_ HB hb; (try clear hb); (try clear hb2); (try clear hk); (try clear hi)) | (go_at_call 26; (with_reducible refine (decimal_digits.calls t133 false _ A11.out).mono ?_); rintro e w25 ⟨rfl, hb⟩; replace BK127 := kb_ BK127 hb; replace HB := bs_ HB hb; (try clear hb); (try clear hb2); (try clear hk); (try clear hi)))
     go_meet
     case rel => exact ⟨_, (t128), ((⟨#[49]⟩ : ByteArray)), rl_, rl_, H', ⟨by first | omega | exact Nat.le_refl _⟩, ⟨k_ BK127.out⟩, ⟨b_ HB.out⟩⟩
   ·replace c10 := Bool.eq_false_iff.mpr c10; subst c10; rw [if_neg nf_] at H; have H' := Aside0.mk H; clear H
    go_wp2_with (first | (refine gl_ 33 Tryz.func25 #[.string t128, .string (⟨#[46]⟩ : ByteArray)] ?_; refine mo_ (strings_Cut.calls t128 (⟨#[46]⟩ : ByteArray) t133 t134 false _ (lb_ HLD HB) A9.out) ?_; intro w26 hb; replace BK127 := kb_ BK127 hb; replace HB := bs_ HB hb; (try clear hb); (try clear hb2); (try clear hk); (try clear hi)))
    go_meet
    case rel => exact ⟨_, (t128), ((⟨#[49]⟩ : ByteArray)), rl_, rl_, H', ⟨by first | omega | exact Nat.le_refl _⟩, ⟨k_ BK127.out⟩, ⟨b_ HB.out⟩⟩
 case rest =>
  clear HC4; (try clear c1); (try clear c2); (try clear p2); (try clear c8); (try clear c10); (try clear c12); (try clear c14); (try clear c15); (try clear c15b0); (try clear c15b1); (try clear c15b2); (try clear c24); (try clear c25); obtain ⟨kq, x6_3, x7_3, rfl, rfl, HA, HJ3, BK127, HB⟩ := hcut
  cases kq with
  | zero => exact absurd HA.out (by simp [decimal_Parse.j0])
  | succ kj3 =>
   have H := HA.out; clear HA; simp only [decimal_Parse.j0] at H; have HC27 := Aside0.mk H; clear H
   go_upto_region 9 with (fail)
   go_cut [64] (fun v64 wc => ∃ (kq : Nat) (x64_26 : Bool), v64 = .bool x64_26 ∧ Aside0 (decimal_Parse.j1 kq t129 x6_3 x7_3 x64_26 = some (r1, r2, r3)) ∧ Aside0 (kq ≤ kj3) ∧ Aside0 (wc.heap[gb127]? = some (.cells #[.string (⟨#[]⟩ : ByteArray), .string (⟨#[]⟩ : ByteArray)] 23 (0, 0))) ∧ Aside0 (Below w.heap.size w wc))
   case first =>
    have H := HC27.out; clear HC27; by_cases c28 : (a0.size : Int) > 1000
    ·rw [if_pos c28] at H; have c28b0 : decide (1000 < (a0.size : Int)) = true := decide_eq_true c28; have c28b1 : decide (1000 < a0.size) = true := decide_eq_true (by omega); clear c28; (first | rw [c28b0] | (simp only [i64_w, i32_w]; rw [c28b0]) | skip); have H' := Aside0.mk H; clear H; go_wp2
     go_meet
     case rel => exact ⟨_, (true), rl_, H', ⟨by have := HJ3.out; first | omega | exact Nat.le_refl _⟩, ⟨k_ BK127.out⟩, ⟨b_ HB.out⟩⟩
    ·rw [if_neg c28] at H; have c28b0 : decide (1000 < (a0.size : Int)) = false := decide_eq_false c28; have c28b1 : decide (1000 < a0.size) = false := decide_eq_false (by omega); clear c28; (first | rw [c28b0] | (simp only [i64_w, i32_w]; rw [c28b0]) | skip); obtain ⟨t139, A29, H⟩ := bi_ H; by_cases c30 : t139 = true
     ·subst c30; rw [if_pos rfl] at H; obtain ⟨t140, A31, H⟩ := bi_ H; have H' := Aside0.mk H; clear H
      go_wp2_with (first | (go_at_call 26; (with_reducible refine (decimal_digits.calls x6_3 true _ A29.out).mono ?_); rintro e w32 ⟨rfl, hb⟩; replace BK127 := kb_ BK127 hb; replace HB := bs_ HB hb; (try clear hb); (try clear hb2); (try clear hk); (try clear hi)) | (go_at_call 26; (with_reducible refine (decimal_digits.calls x7_3 t140 _ A31.out).mono ?_); rintro e w33 ⟨rfl, hb⟩; replace BK127 := kb_ BK127 hb; replace HB := bs_ HB hb; (try clear hb); (try clear hb2); (try clear hk); (try clear hi)))
      go_meet
      case rel => exact ⟨_, (!t140), rl_, H', ⟨by have := HJ3.out; first | omega | exact Nat.le_refl _⟩, ⟨k_ BK127.out⟩, ⟨b_ HB.out⟩⟩
     ·replace c30 := Bool.eq_false_iff.mpr c30; subst c30; rw [if_neg nf_] at H; have H' := Aside0.mk H; clear H
      go_wp2_with (first | (go_at_call 26; (with_reducible refine (decimal_digits.calls x6_3 false _ A29.out).mono ?_); rintro e w34 ⟨rfl, hb⟩; replace BK127 := kb_ BK127 hb; replace HB := bs_ HB hb; (try clear hb); (try clear hb2); (try clear hk); (try clear hi)))
      go_meet
      case rel => exact ⟨_, (true), rl_, H', ⟨by have := HJ3.out; first | omega | exact Nat.le_refl _⟩, ⟨k_ BK127.out⟩, ⟨b_ HB.out⟩⟩
   case rest =>
    clear HC27; (try clear c1); (try clear c2); (try clear p2); (try clear c3); (try clear c8); (try clear c10); (try clear c12); (try clear c14); (try clear c15); (try clear c15b0); (try clear c15b1); (try clear c15b2); (try clear c24); (try clear c25); (try clear c27); (try clear c28); (try clear c28b0); (try clear c28b1); (try clear c30); (try clear p2); obtain ⟨kq, x64_26, rfl, HA, HJ26, BK127, HB⟩ := hcut
    cases kq with
    | zero => exact absurd HA.out (by simp [decimal_Parse.j1])
    | succ kj26 =>
     have H := HA.out; clear HA; simp only [decimal_Parse.j1] at H; by_cases c35 : x64_26 = true
     ·subst c35; rw [if_pos rfl] at H; simp only [Option.some.injEq, Prod.mk.injEq] at H; obtain ⟨rfl, rfl, rfl⟩ := H; have hcz36_0 := bc_ BK127 0 rfl; have hcz36_1 := bc_ BK127 1 rfl; have hfz36_0 := blk_frozen BK127.out 0; have hfz36_1 := blk_frozen BK127.out 1; go_wp2; refine bodyPost_ret (results_ct rfl _ _ gb127 23 #[.string (⟨#[]⟩ : ByteArray), .string (⟨#[]⟩ : ByteArray)] (0, 0) _ rfl (rp_ BK127.out) Tryz.underlying23 rfl (by kernel_rfl)) rfl ?_; exact ⟨er_, b_ HB.out⟩
     ·replace c35 := Bool.eq_false_iff.mpr c35; subst c35; rw [if_neg nf_] at H; obtain ⟨t141, A37, H⟩ := bi_ H; obtain ⟨t142, A38, H⟩ := bi_ H; by_cases c39 : t129 = true
      ·subst c39; rw [if_pos rfl] at H; obtain ⟨t143, A40, H⟩ := bi_ H; obtain ⟨⟨t144, t145, t146⟩, A41, H⟩ := bi_ H; (try dsimp only at H); by_cases c42 : t146 = true
       ·subst c42; rw [if_pos rfl] at H; simp only [Option.some.injEq, Prod.mk.injEq] at H; obtain ⟨rfl, rfl, rfl⟩ := H
        go_wp2_with (first | (refine gl_ 67 Tryz.func28 #[.string x6_3] ?_; refine mo_ (decimal_plain.calls x6_3 t141 _ A37.out) ?_; intro w43 hb; replace BK127 := kb_ BK127 hb; replace HB := bs_ HB hb; (try clear hb); (try clear hb2); (try clear hk); (try clear hi)) | (refine gl_ 69 Tryz.func28 #[.string x7_3] ?_; refine mo_ (decimal_plain.calls x7_3 t142 _ A38.out) ?_; intro w44 hb; replace BK127 := kb_ BK127 hb; replace HB := bs_ HB hb; (try clear hb); (try clear hb2); (try clear hk); (try clear hi)) | (refine gl_ 72 Tryz.func29 #[.string t141] ?_; refine mo_ (whole_Neg.calls t141 t143 _ A40.out) ?_; intro w45 hb; replace BK127 := kb_ BK127 hb; replace HB := bs_ HB hb; (try clear hb); (try clear hb2); (try clear hk); (try clear hi)) | (refine gl_ 76 Tryz.func30 #[.string t143, .string t142] ?_; refine mo_ (rat_Make.calls t143 t142 t144 t145 true _ (lb_ HLD HB) A41.out) ?_; intro w46 hb; replace BK127 := kb_ BK127 hb; replace HB := bs_ HB hb; (try clear hb); (try clear hb2); (try clear hk); (try clear hi)) | ((with_reducible refine gate_dst (N := 14) rfl ?_); refine be_ 14 #[.string (⟨#[]⟩ : ByteArray), .string (⟨#[]⟩ : ByteArray)] 23 ?_; intro gb147 hg w47 hbox hb; have BK147 := Aside0.mk (hbox); have GW147 := ge_ HB hg; have GE147 := ge_ HB hg; have NB127_147 := nl_ BK127 hg; have NB147_127 := ng_ BK127 hg; replace BK127 := kb_ BK127 hb; replace HB := bs_ HB hb; clear hb hbox hg; have hnb48 := NB147_127.out; have hnc48 := NB127_147.out; have hcz49_0 := bc_ BK147 0 rfl; have hcz49_1 := bc_ BK147 1 rfl; have hfz49_0 := blk_frozen BK147.out 0; have hfz49_1 := blk_frozen BK147.out 1; have hcz50_0 := bc_ BK127 0 rfl; have hcz50_1 := bc_ BK127 1 rfl; have hfz50_0 := blk_frozen BK127.out 0; have hfz50_1 := blk_frozen BK127.out 1))
        refine bodyPost_ret (results_ct rfl _ _ gb127 23 #[.string t144, .string t145] (0, 0) _ rfl (by refine k_ ?_; refine blk_put (cs := #[.string t144, .string (⟨#[]⟩ : ByteArray)]) ?_ 1 _ rfl; refine k_ ?_; refine blk_put (cs := #[.string (⟨#[]⟩ : ByteArray), .string (⟨#[]⟩ : ByteArray)]) ?_ 0 _ rfl; refine k_ ?_; refine blk_far ?_ NB127_147.out _; refine k_ ?_; refine blk_far ?_ NB127_147.out _; refine k_ ?_; exact BK127.out) Tryz.underlying23 rfl (by kernel_rfl)) rfl ?_; exact ⟨er_, b_ HB.out⟩
       ·replace c42 := Bool.eq_false_iff.mpr c42; subst c42; rw [if_neg nf_] at H; simp only [Option.some.injEq, Prod.mk.injEq] at H; obtain ⟨rfl, rfl, rfl⟩ := H
        go_wp2_with (first | (refine gl_ 67 Tryz.func28 #[.string x6_3] ?_; refine mo_ (decimal_plain.calls x6_3 t141 _ A37.out) ?_; intro w51 hb; replace BK127 := kb_ BK127 hb; replace HB := bs_ HB hb; (try clear hb); (try clear hb2); (try clear hk); (try clear hi)) | (refine gl_ 69 Tryz.func28 #[.string x7_3] ?_; refine mo_ (decimal_plain.calls x7_3 t142 _ A38.out) ?_; intro w52 hb; replace BK127 := kb_ BK127 hb; replace HB := bs_ HB hb; (try clear hb); (try clear hb2); (try clear hk); (try clear hi)) | (refine gl_ 72 Tryz.func29 #[.string t141] ?_; refine mo_ (whole_Neg.calls t141 t143 _ A40.out) ?_; intro w53 hb; replace BK127 := kb_ BK127 hb; replace HB := bs_ HB hb; (try clear hb); (try clear hb2); (try clear hk); (try clear hi)) | (refine gl_ 76 Tryz.func30 #[.string t143, .string t142] ?_; refine mo_ (rat_Make.calls t143 t142 t144 t145 false _ (lb_ HLD HB) A41.out) ?_; intro w54 hb; replace BK127 := kb_ BK127 hb; replace HB := bs_ HB hb; (try clear hb); (try clear hb2); (try clear hk); (try clear hi)) | ((with_reducible refine gate_dst (N := 14) rfl ?_); refine be_ 14 #[.string (⟨#[]⟩ : ByteArray), .string (⟨#[]⟩ : ByteArray)] 23 ?_; intro gb147 hg w55 hbox hb; have BK147 := Aside0.mk (hbox); have GW147 := ge_ HB hg; have GE147 := ge_ HB hg; have NB127_147 := nl_ BK127 hg; have NB147_127 := ng_ BK127 hg; replace BK127 := kb_ BK127 hb; replace HB := bs_ HB hb; clear hb hbox hg; have hnb56 := NB147_127.out; have hnc56 := NB127_147.out; have hcz57_0 := bc_ BK147 0 rfl; have hcz57_1 := bc_ BK147 1 rfl; have hfz57_0 := blk_frozen BK147.out 0; have hfz57_1 := blk_frozen BK147.out 1; have hcz58_0 := bc_ BK127 0 rfl; have hcz58_1 := bc_ BK127 1 rfl; have hfz58_0 := blk_frozen BK127.out 0; have hfz58_1 := blk_frozen BK127.out 1))
        refine bodyPost_ret (results_ct rfl _ _ gb127 23 #[.string (⟨#[]⟩ : ByteArray), .string (⟨#[]⟩ : ByteArray)] (0, 0) _ rfl (by refine k_ ?_; refine blk_put (cs := #[.string (⟨#[]⟩ : ByteArray), .string (⟨#[]⟩ : ByteArray)]) ?_ 1 _ rfl; refine k_ ?_; refine blk_put (cs := #[.string (⟨#[]⟩ : ByteArray), .string (⟨#[]⟩ : ByteArray)]) ?_ 0 _ rfl; refine k_ ?_; refine blk_far ?_ NB127_147.out _; refine k_ ?_; refine blk_far ?_ NB127_147.out _; refine k_ ?_; exact BK127.out) Tryz.underlying23 rfl (by kernel_rfl)) rfl ?_; exact ⟨er_, b_ HB.out⟩
      ·replace c39 := Bool.eq_false_iff.mpr c39; subst c39; rw [if_neg nf_] at H; obtain ⟨⟨t148, t149, t150⟩, A59, H⟩ := bi_ H; (try dsimp only at H); by_cases c60 : t150 = true
       ·subst c60; rw [if_pos rfl] at H; simp only [Option.some.injEq, Prod.mk.injEq] at H; obtain ⟨rfl, rfl, rfl⟩ := H
        go_wp2_with (first | (refine gl_ 67 Tryz.func28 #[.string x6_3] ?_; refine mo_ (decimal_plain.calls x6_3 t141 _ A37.out) ?_; intro w61 hb; replace BK127 := kb_ BK127 hb; replace HB := bs_ HB hb; (try clear hb); (try clear hb2); (try clear hk); (try clear hi)) | (refine gl_ 69 Tryz.func28 #[.string x7_3] ?_; refine mo_ (decimal_plain.calls x7_3 t142 _ A38.out) ?_; intro w62 hb; replace BK127 := kb_ BK127 hb; replace HB := bs_ HB hb; (try clear hb); (try clear hb2); (try clear hk); (try clear hi)) | (refine gl_ 76 Tryz.func30 #[.string t141, .string t142] ?_; refine mo_ (rat_Make.calls t141 t142 t148 t149 true _ (lb_ HLD HB) A59.out) ?_; intro w63 hb; replace BK127 := kb_ BK127 hb; replace HB := bs_ HB hb; (try clear hb); (try clear hb2); (try clear hk); (try clear hi)) | ((with_reducible refine gate_dst (N := 14) rfl ?_); refine be_ 14 #[.string (⟨#[]⟩ : ByteArray), .string (⟨#[]⟩ : ByteArray)] 23 ?_; intro gb151 hg w64 hbox hb; have BK151 := Aside0.mk (hbox); have GW151 := ge_ HB hg; have GE151 := ge_ HB hg; have NB127_151 := nl_ BK127 hg; have NB151_127 := ng_ BK127 hg; replace BK127 := kb_ BK127 hb; replace HB := bs_ HB hb; clear hb hbox hg; have hnb65 := NB151_127.out; have hnc65 := NB127_151.out; have hcz66_0 := bc_ BK151 0 rfl; have hcz66_1 := bc_ BK151 1 rfl; have hfz66_0 := blk_frozen BK151.out 0; have hfz66_1 := blk_frozen BK151.out 1; have hcz67_0 := bc_ BK127 0 rfl; have hcz67_1 := bc_ BK127 1 rfl; have hfz67_0 := blk_frozen BK127.out 0; have hfz67_1 := blk_frozen BK127.out 1))
        refine bodyPost_ret (results_ct rfl _ _ gb127 23 #[.string t148, .string t149] (0, 0) _ rfl (by refine k_ ?_; refine blk_put (cs := #[.string t148, .string (⟨#[]⟩ : ByteArray)]) ?_ 1 _ rfl; refine k_ ?_; refine blk_put (cs := #[.string (⟨#[]⟩ : ByteArray), .string (⟨#[]⟩ : ByteArray)]) ?_ 0 _ rfl; refine k_ ?_; refine blk_far ?_ NB127_151.out _; refine k_ ?_; refine blk_far ?_ NB127_151.out _; refine k_ ?_; exact BK127.out) Tryz.underlying23 rfl (by kernel_rfl)) rfl ?_; exact ⟨er_, b_ HB.out⟩
       ·replace c60 := Bool.eq_false_iff.mpr c60; subst c60; rw [if_neg nf_] at H; simp only [Option.some.injEq, Prod.mk.injEq] at H; obtain ⟨rfl, rfl, rfl⟩ := H
        go_wp2_with (first | (refine gl_ 67 Tryz.func28 #[.string x6_3] ?_; refine mo_ (decimal_plain.calls x6_3 t141 _ A37.out) ?_; intro w68 hb; replace BK127 := kb_ BK127 hb; replace HB := bs_ HB hb; (try clear hb); (try clear hb2); (try clear hk); (try clear hi)) | (refine gl_ 69 Tryz.func28 #[.string x7_3] ?_; refine mo_ (decimal_plain.calls x7_3 t142 _ A38.out) ?_; intro w69 hb; replace BK127 := kb_ BK127 hb; replace HB := bs_ HB hb; (try clear hb); (try clear hb2); (try clear hk); (try clear hi)) | (refine gl_ 76 Tryz.func30 #[.string t141, .string t142] ?_; refine mo_ (rat_Make.calls t141 t142 t148 t149 false _ (lb_ HLD HB) A59.out) ?_; intro w70 hb; replace BK127 := kb_ BK127 hb; replace HB := bs_ HB hb; (try clear hb); (try clear hb2); (try clear hk); (try clear hi)) | ((with_reducible refine gate_dst (N := 14) rfl ?_); refine be_ 14 #[.string (⟨#[]⟩ : ByteArray), .string (⟨#[]⟩ : ByteArray)] 23 ?_; intro gb151 hg w71 hbox hb; have BK151 := Aside0.mk (hbox); have GW151 := ge_ HB hg; have GE151 := ge_ HB hg; have NB127_151 := nl_ BK127 hg; have NB151_127 := ng_ BK127 hg; replace BK127 := kb_ BK127 hb; replace HB := bs_ HB hb; clear hb hbox hg; have hnb72 := NB151_127.out; have hnc72 := NB127_151.out; have hcz73_0 := bc_ BK151 0 rfl; have hcz73_1 := bc_ BK151 1 rfl; have hfz73_0 := blk_frozen BK151.out 0; have hfz73_1 := blk_frozen BK151.out 1; have hcz74_0 := bc_ BK127 0 rfl; have hcz74_1 := bc_ BK127 1 rfl; have hfz74_0 := blk_frozen BK127.out 0; have hfz74_1 := blk_frozen BK127.out 1))
        refine bodyPost_ret (results_ct rfl _ _ gb127 23 #[.string (⟨#[]⟩ : ByteArray), .string (⟨#[]⟩ : ByteArray)] (0, 0) _ rfl (by refine k_ ?_; refine blk_put (cs := #[.string (⟨#[]⟩ : ByteArray), .string (⟨#[]⟩ : ByteArray)]) ?_ 1 _ rfl; refine k_ ?_; refine blk_put (cs := #[.string (⟨#[]⟩ : ByteArray), .string (⟨#[]⟩ : ByteArray)]) ?_ 0 _ rfl; refine k_ ?_; refine blk_far ?_ NB127_151.out _; refine k_ ?_; refine blk_far ?_ NB127_151.out _; refine k_ ?_; exact BK127.out) Tryz.underlying23 rfl (by kernel_rfl)) rfl ?_; exact ⟨er_, b_ HB.out⟩
end Go.Proofs.YtaldgaiaelbbaaaGreatDoor.Pd
end

section
namespace Go.Proofs.YtaldgaiaelbbaaaGreatDoor.Pd
end Go.Proofs.YtaldgaiaelbbaaaGreatDoor.Pd
end

section
namespace Go.Proofs.YtaldgaiaelbbaaaGreatDoor
theorem rep_f {c : Int} (h0 : 0 ≤ c) (h1 : c ≤ 140737488355328) : strings_Repeat.f ⟨#[48]⟩ c = some (zerosB c) := by
 unfold strings_Repeat.f
 rw [if_pos]
 ·show some (⟨(Lib.repeatL [48] c.toNat).toArray⟩ : ByteArray) = some (zerosB c)
  rw [repeatL_one]
  rfl
 ·rw [Bool.and_eq_true, Bool.and_eq_true, decide_eq_true_eq, decide_eq_true_eq, decide_eq_true_eq]
  refine ⟨⟨h0, ?_⟩, by omega⟩
  show 1 * c.toNat ≤ _
  omega
theorem power_f {n : Nat} (h : n ≤ 1000000) : Pd.decimal_power.f (n : Int) = some (natB (10 ^ n)) := by
 unfold Pd.decimal_power.f
 rw [rep_f (by omega) (by omega), Option.bind_some, if_pos (by rw [zerosB_size]; omega), tenBB]
theorem times_loop {b : Nat} (hb : 2 ≤ b) (hs : sz b ≤ 50000) : ∀ (n : Nat), 0 < n → sz n ≤ 50000 → ∀ (c : Nat), c + (tms b n).1 ≤ 1000000000 → ∀ k, (tms b n).1 + 1 ≤ k →
  Pd.decimal_times.l0 k (natB n) (natB b) (c : Int) = some (((c + (tms b n).1 : Nat) : Int), natB (tms b n).2)
 | n, hn, hz, c, hc, k, hk => by
  obtain ⟨k, rfl⟩ : ∃ m, k = m + 1 := ⟨k - 1, by omega⟩
  simp only [Pd.decimal_times.l0]
  rw [fDiv hz hs (by omega), Option.bind_some]
  by_cases h : n % b = 0
  ·have e := tms_step hb hn h
   rw [e] at hc hk ⊢
   have hd : b ∣ n := Nat.dvd_of_mod_eq_zero h
   have h1 : 0 < n / b := Nat.div_pos (Nat.le_of_dvd hn hd) (by omega)
   have e2 : ((c : Int) + 1) = ((c + 1 : Nat) : Int) := by omega
   rw [if_pos (natB_toList_zero.2 h), w64 (by omega) (by omega), e2, times_loop hb hs (n / b) h1 (Nat.le_trans (sz_mono (Nat.div_le_self _ _)) hz) (c + 1) (by dsimp only at hc; omega) k (by dsimp only at hk; omega)]
   congr 2
   dsimp only
   omega
  ·rw [if_neg (fun z => h (natB_toList_zero.1 z)), tms_stop h]
   rfl
 termination_by n => n
 decreasing_by exact Nat.div_lt_self hn hb
theorem natB_two : (⟨#[50]⟩ : ByteArray) = natB 2 := by kernel_rfl
theorem natB_five : (⟨#[53]⟩ : ByteArray) = natB 5 := by kernel_rfl
theorem sz_two : sz 2 ≤ 50000 := by decide +kernel
theorem sz_five : sz 5 ≤ 50000 := by decide +kernel
theorem places_f {n : Nat} (hn : 0 < n) (hz : sz n ≤ 10000) (k : Nat) (hk : 4 * sz n + 2 ≤ k) : Pd.decimal_places.f k (natB n) = some ((plD n : Int), finD n) := by
 unfold Pd.decimal_places.f Pd.decimal_times.f
 have t1 := tms_le (b := 2) (by decide) hn (lt_sz n)
 have hp := tms_pos (b := 2) (by decide) hn
 have hl := tms_left_le (b := 2) (by decide) hn
 have t2 := tms_le (b := 5) (by decide) hp (Nat.lt_of_le_of_lt hl (lt_sz n))
 have e1 := times_loop (b := 2) (by decide) sz_two n hn (by omega) 0 (by omega) k (by omega)
 have e2 := times_loop (b := 5) (by decide) sz_five (tms 2 n).2 hp (Nat.le_trans (sz_mono hl) (by omega)) 0 (by omega) k (by omega)
 rw [Nat.zero_add] at e1 e2
 rw [natB_two, natB_five]
 have z : (0 : Int) = ((0 : Nat) : Int) := rfl
 rw [z, e1, Option.bind_some]
 dsimp only
 rw [e2, Option.bind_some, mx_nat]
 have e3 : ((natB (tms 5 (tms 2 n).2).2).toList == ([49] : List UInt8)) = finD n := by
  unfold finD
  by_cases h : (tms 5 (tms 2 n).2).2 = 1
  ·rw [natB_toList_one.2 h, h]
   rfl
  ·rw [beq_eq_false_iff_ne.2 (fun z => h (natB_toList_one.1 z)), beq_eq_false_iff_ne.2 h]
 rw [e3]
 rfl
theorem Places_f {x : BB} (hx : x.1.size + x.2.size ≤ 900) (k : Nat) (hk : 3700 ≤ k) : Pd.decimal_Places.f k x.1 x.2 = some (placesS x) := by
 unfold Pd.decimal_Places.f
 have em : rat_May.f x.1 x.2 = some (mayR x) := by
  unfold rat_May.f
  rw [if_pos (show smR (x.1, x.2) = true from decide_eq_true ⟨by dsimp only; omega, by dsimp only; omega⟩)]
 rw [em, Option.bind_some]
 unfold placesS
 by_cases hm : mayR x = true
 ·obtain ⟨q, rfl⟩ := of_mayR hm
  have hs : sz q.den ≤ 900 := Nat.le_trans (le_szR_den q) hx
  have hd : 0 < q.den := Nat.pos_of_ne_zero q.den_nz
  rw [if_pos hm, hm, Bool.true_and, ratR_rT]
  show ((Pd.decimal_places.f k (natB q.den)).bind fun bt110 => _) = _
  rw [places_f hd (by omega) k (by omega), Option.bind_some]
  dsimp only
  split <;> rfl
 ·rw [if_neg hm, if_neg (fun z => hm (Bool.and_eq_true_iff.1 z).1)]
theorem pad_bytes (n : Nat) (m : Nat) (hn : n ≤ 1000000) (hm : sz m ≤ 1000000) :
  strings_Repeat.f ⟨#[48]⟩ (mx (wrap64 ((wrap64 ((n : Int) + 1)) - ((natB m).size : Int))) 0) = some (zerosB ((n + 1 - (Lib.decDigits m).length : Nat) : Int)) ∧ (zerosB ((n + 1 - (Lib.decDigits m).length : Nat) : Int) ++ natB m).data.toList = padL n (Lib.decDigits m) := by
 have e := sz_dig m
 have e1 : ((natB m).size : Int) = ((Lib.decDigits m).length : Int) := by rw [natB_size]
 have e2 : mx (wrap64 ((wrap64 ((n : Int) + 1)) - ((natB m).size : Int))) 0 = ((n + 1 - (Lib.decDigits m).length : Nat) : Int) := by
  rw [e1, w64 (x := (n : Int) + 1) (by omega) (by omega), w64 (by omega) (by omega)]
  unfold mx
  split <;> omega
 rw [e2]
 refine ⟨rep_f (by omega) (by omega), ?_⟩
 rw [Joins.data_append, zerosB_list, natB_list, Int.toNat_natCast]
 rfl
theorem pad_size (n m : Nat) : (padL n (Lib.decDigits m)).length ≤ n + 1 + (Lib.decDigits m).length := by
 unfold padL
 rw [List.length_append, List.length_replicate]
 omega
theorem Print_f {x : BB} (hx : x.1.size + x.2.size ≤ 900) (k : Nat) (hk : 3700 ≤ k) : Pd.decimal_Print.f k x.1 x.2 = some (printS x) := by
 unfold Pd.decimal_Print.f
 have em : rat_May.f x.1 x.2 = some (mayR x) := by
  unfold rat_May.f
  rw [if_pos (show smR (x.1, x.2) = true from decide_eq_true ⟨by dsimp only; omega, by dsimp only; omega⟩)]
 rw [Places_f hx k hk, Option.bind_some, em, Option.bind_some]
 unfold printS
 by_cases hm : mayR x = true
 ·obtain ⟨q, rfl⟩ := of_mayR hm
  have hs : szR q ≤ 900 := hx
  have h1 := le_szR_num q
  have h2 := le_szR_den q
  have hd : 0 < q.den := Nat.pos_of_ne_zero q.den_nz
  rw [if_pos hm, if_pos hm, ratR_rT, places_rT]
  unfold printL
  by_cases hf : finD q.den = true
  ·rw [if_pos hf, if_pos hf]
   dsimp only
   rw [if_pos rfl]
   by_cases h0 : plD q.den = 0
   ·rw [if_pos (by omega), if_pos h0]
    rfl
   ·rw [if_neg (by omega), if_neg h0]
    have hp := plD_le hd (lt_sz q.den)
    have hm2 : sz q.num.natAbs ≤ szI q.num := le_szI _
    have s10 : sz (10 ^ plD q.den) ≤ plD q.den + 1 := sz_le (Nat.pow_lt_pow_right (by decide) (by omega)) (by omega)
    have su : sz (10 ^ plD q.den / q.den) ≤ plD q.den + 1 := Nat.le_trans (sz_mono (Nat.div_le_self _ _)) s10
    have sp := sz_mul q.num.natAbs (10 ^ plD q.den / q.den)
    rw [power_f (by omega), Option.bind_some]
    show ((nat_Div.f (natB (10 ^ plD q.den)) (natB q.den)).bind fun bt118 => _) = _
    rw [fDiv (by omega) (by omega) (by omega), Option.bind_some]
    show ((whole_Abs.f (intB q.num)).bind fun t121 => _) = _
    rw [gAbs (by omega), Option.bind_some, intB_nat, fMul (by omega) (by omega), Option.bind_some]
    obtain ⟨p1, p2⟩ := pad_bytes (plD q.den) (q.num.natAbs * (10 ^ plD q.den / q.den)) (by omega) (by omega)
    rw [p1, Option.bind_some]
    have hsz := pad_size (plD q.den) (q.num.natAbs * (10 ^ plD q.den / q.den))
    have hle := pad_len (plD q.den) (Lib.decDigits (q.num.natAbs * (10 ^ plD q.den / q.den)))
    have e4 := sz_dig (q.num.natAbs * (10 ^ plD q.den / q.den))
    rw [if_pos (by rw [← ByteArray.size_append, size_len, p2]; omega)]
    show ((whole_Sign.f (intB q.num)).bind fun t124 => _) = _
    rw [gSign (by omega), Option.bind_some]
    generalize hT : zerosB ((plD q.den + 1 - (Lib.decDigits (q.num.natAbs * (10 ^ plD q.den / q.den))).length : Nat) : Int) ++ natB (q.num.natAbs * (10 ^ plD q.den / q.den)) = T at *
    have eT : T.size = (padL (plD q.den) (Lib.decDigits (q.num.natAbs * (10 ^ plD q.den / q.den)))).length := by rw [size_len, p2]
    unfold digsL
    rw [← p2]
    by_cases hn : q.num < 0
    ·rw [if_pos (by rw [cmp_lt' hn]; decide), tail_f (s := ⟨#[45]⟩) (p := 1) (by omega) (by omega) rfl (by decide)]
     unfold sgL
     rw [if_pos hn]
    ·rw [if_neg, tail_f (s := ⟨#[]⟩) (p := 0) (by omega) (by omega) rfl (by decide)]
     ·unfold sgL
      rw [if_neg hn]
     ·unfold Lib.compareInt
      (repeat' split) <;> omega
  ·rw [if_neg hf, if_neg hf]
   dsimp only
   rw [if_neg (by decide)]
   have l1 : (⟨#[47]⟩ : ByteArray).size = 1 := rfl
   rw [if_pos (show (rT q).1.size + 1 ≤ 9223372036854775807 by omega), if_pos (show ((rT q).1 ++ (⟨#[47]⟩ : ByteArray)).size + (rT q).2.size ≤ 9223372036854775807 by rw [ByteArray.size_append]; omega)]
   congr 1
   apply bext
   rw [Joins.data_append, Joins.data_append]
   show ((intB q.num).data.toList ++ [47]) ++ (natB q.den).data.toList = (intB q.num).data.toList ++ 47 :: Lib.decDigits q.den
   rw [natB_list, List.append_assoc]
   rfl
 ·rw [if_neg hm, if_neg hm]
  rfl
theorem digits_f {s : ByteArray} (h : s.size ≤ 9223372036854775807) : Pd.decimal_digits.f s = some (digL s.data.toList) := by
 unfold Pd.decimal_digits.f
 rw [ByteArray.toList_eq]
 unfold digL
 by_cases h0 : s.data.toList = []
 ·rw [if_pos h0, decide_eq_false (fun z => z h0)]
  rfl
 ·rw [if_neg h0, decide_eq_true h0, Bool.true_and]
  have e : strings_Trim.f s (⟨#[48, 49, 50, 51, 52, 53, 54, 55, 56, 57]⟩ : ByteArray) = some ⟨(Lib.trimS s.data.toList decs).toArray⟩ := by
   unfold strings_Trim.f
   rw [if_pos]
   ·rfl
   ·rw [decide_eq_true h]
    rfl
  rw [e, Option.bind_some, ByteArray.toList_eq]
  show some (Lib.trimS s.data.toList decs == []) = _
  congr 1
  by_cases ha : s.data.toList.all isDig = true
  ·rw [(trim_nil _).2 ha, ha]
   rfl
  ·rw [beq_eq_false_iff_ne.2 (fun z => ha ((trim_nil _).1 z))]
   exact ((Bool.not_eq_true _).mp ha).symm
theorem plain_f {s : ByteArray} (h : digL s.data.toList = true) : Pd.decimal_plain.f s = some (natB (num s.data.toList)) := by
 unfold Pd.decimal_plain.f strings_TrimLeft.f
 rw [if_pos rfl, Option.bind_some, ByteArray.toList_eq]
 show (if Lib.trimLeftB s.data.toList 48 = [] then _ else _) = _
 have hl := left_dec h
 by_cases h0 : Lib.trimLeftB s.data.toList 48 = []
 ·rw [if_pos h0] at hl ⊢
  congr 1
  apply bext
  rw [natB_list, ← hl]
 ·rw [if_neg h0] at hl ⊢
  congr 1
  apply bext
  rw [natB_list, ← hl]
theorem hMake0 {x : Int} (hx : szI x ≤ 4000) : rat_Make.f (intB x) (natB 0) = some (noB, noB, false) := by
 unfold rat_Make.f rmakeS
 have e : numW (natB 0) = 0 := by rw [← intB_nat, numW_int]; rfl
 rw [if_pos (show smR (intB x, natB 0) = true from decide_eq_true ⟨hx, by dsimp only; rw [natB_zero]; decide⟩), e, if_neg]
 ·rfl
 ·rw [Bool.and_eq_true, decide_eq_true_eq]
  exact fun z => z.2 rfl
theorem make_res {m : Bool} {A B : List UInt8} (hA : digL A = true) (hB : digL B = true) (la : A.length ≤ 3000) (lb : B.length ≤ 3000) :
  ((rat_Make.f (intB (withS m (num A))) (natB (num B))).bind fun bt => (if bt.2.2 = true then (some (bt.1, bt.2.1, (0 : Int))) else (some ((⟨#[]⟩ : ByteArray), (⟨#[]⟩ : ByteArray), 40)))) = some (ansQ (resL m A B)) := by
 have za := num_sz (head_dig' hA).1
 have zb := num_sz (head_dig' hB).1
 have wa := withS_sz m (num A)
 unfold resL
 rw [hA, hB, Bool.true_and, if_pos rfl]
 by_cases h0 : num B = 0
 ·rw [if_pos h0, h0, hMake0 (by omega), Option.bind_some]
  rfl
 ·have hm := hMake (x := withS m (num A)) (y := (num B : Int)) (by omega) (by rw [szI_nat]; omega) (by omega)
  rw [intB_nat] at hm
  rw [if_neg h0, hm, Option.bind_some]
  rfl
theorem j1_true (m : Bool) (A B : ByteArray) (k : Nat) : Pd.decimal_Parse.j1 (k + 1) m A B true = some (ansQ none) := by
 simp only [Pd.decimal_Parse.j1]
 rfl
theorem j0_f {s A B : ByteArray} (m : Bool) (la : A.size ≤ 3000) (lb : B.size ≤ 3000) (k : Nat) :
  Pd.decimal_Parse.j0 (k + 2) s m A B = some (ansQ (if 1000 < s.size then none else resL m A.data.toList B.data.toList)) := by
 show Pd.decimal_Parse.j0 (k + 1 + 1) s m A B = _
 simp only [Pd.decimal_Parse.j0]
 by_cases h : 1000 < s.size
 ·rw [if_pos (show (s.size : Int) > 1000 by omega), if_pos h, j1_true]
 ·rw [if_neg (show ¬ (s.size : Int) > 1000 by omega), if_neg h, digits_f (by omega), Option.bind_some]
  by_cases hA : digL A.data.toList = true
  ·rw [if_pos hA, digits_f (by omega), Option.bind_some]
   by_cases hB : digL B.data.toList = true
   ·have e : (!digL B.data.toList) = false := by rw [hB]; rfl
    rw [e]
    simp only [Pd.decimal_Parse.j1]
    rw [if_neg (by decide), plain_f hA, Option.bind_some, plain_f hB, Option.bind_some]
    have mk := make_res (m := m) hA hB (by rw [← size_len]; exact la) (by rw [← size_len]; exact lb)
    have za := num_sz (head_dig' hA).1
    rw [← size_len] at za
    cases m with
    | true =>
     have hn := gNeg (x := (num A.data.toList : Int)) (by rw [szI_nat]; omega)
     rw [intB_nat] at hn
     rw [if_pos rfl, hn, Option.bind_some]
     exact mk
    | false =>
     rw [if_neg (by decide)]
     have e2 : intB (withS false (num A.data.toList)) = natB (num A.data.toList) := intB_nat _
     rw [e2] at mk
     exact mk
   ·have e : (!digL B.data.toList) = true := by rw [(Bool.not_eq_true _).mp hB]; rfl
    rw [e, j1_true]
    unfold resL
    rw [if_neg (fun z => hB (Bool.and_eq_true_iff.1 z).2)]
  ·rw [if_neg hA, j1_true]
   unfold resL
   rw [if_neg (fun z => hA (Bool.and_eq_true_iff.1 z).1)]
theorem cut47 {s : ByteArray} (h : s.size ≤ 100000) (c : UInt8) : strings_Cut.f s ⟨#[c]⟩ = some (match cutAt c s.data.toList with | some (a, b) => (⟨a.toArray⟩, ⟨b.toArray⟩, true) | none => (s, ⟨#[]⟩, false)) := by
 unfold strings_Cut.f cutB
 rw [if_pos (by omega)]
 have e : (⟨#[c]⟩ : ByteArray).data.toList = [c] := rfl
 rw [e, cut_one]
 cases cutAt c s.data.toList <;> rfl
theorem amtB_le (s : ByteArray) : (amtB s).size ≤ s.size := by
 rw [size_len, size_len, amtB_list]
 exact cutL_len _
theorem Parse_f {s : ByteArray} (h : s.size ≤ 1100) (k : Nat) (hk : 2 ≤ k) : Pd.decimal_Parse.f k s = some (parseS s) := by
 obtain ⟨k, rfl⟩ : ∃ j, k = j + 2 := ⟨k - 2, by omega⟩
 unfold Pd.decimal_Parse.f strings_CutPrefix.f
 rw [if_pos rfl, Option.bind_some, parseS_ans]
 have ha := amtB_le s
 have hl := amtB_list s
 unfold parseL
 rw [parseA_forms, ← hl, ← size_len]
 show ((strings_Cut.f (amtB s) ⟨#[47]⟩).bind fun bt133 => _) = _
 rw [cut47 (by omega), Option.bind_some]
 have hm : (cutL s.data.toList).2 = minusB s := rfl
 rw [hm]
 cases h1 : cutAt 47 (amtB s).data.toList with
 | some p =>
  obtain ⟨a, b⟩ := p
  have l1 := cutAt_len h1
  rw [← size_len] at l1
  dsimp only
  rw [if_pos rfl, j0_f (s := s) (minusB s) (by show a.toArray.size ≤ _; rw [List.size_toArray]; omega) (by show b.toArray.size ≤ _; rw [List.size_toArray]; omega)]
 | none =>
  dsimp only
  rw [if_neg (by decide), cut47 (by omega), Option.bind_some]
  have last : Pd.decimal_Parse.j0 (k + 2) s (minusB s) (amtB s) ⟨#[49]⟩ = some (ansQ (if 1000 < s.size then none else resL (minusB s) (amtB s).data.toList [49])) := j0_f (minusB s) (by omega) (by decide) k
  cases h2 : cutAt 46 (amtB s).data.toList with
  | none =>
   dsimp only
   rw [if_neg (by decide), last]
  | some p =>
   obtain ⟨a, b⟩ := p
   have l1 := cutAt_len h2
   rw [← size_len] at l1
   have sa : (⟨a.toArray⟩ : ByteArray).size = a.length := List.size_toArray
   have sb : (⟨b.toArray⟩ : ByteArray).size = b.length := List.size_toArray
   rw [point_not h2] at last
   dsimp only
   rw [if_pos rfl, digits_f (by omega), Option.bind_some]
   by_cases hA : digL a = true
   ·rw [if_pos hA, digits_f (by omega), Option.bind_some]
    by_cases hB : digL b = true
    ·rw [if_pos hB, if_pos (by omega), sb, power_f (by omega), Option.bind_some, j0_f (s := s) (minusB s) (by rw [ByteArray.size_append]; omega) (by rw [natB_size, ← sz_dig]; exact Nat.le_trans (sz_le (k := b.length + 1) (Nat.pow_lt_pow_right (by decide) (by omega)) (by omega)) (by omega)), ← tenBB, ten_list, Joins.data_append, hA, hB, Bool.true_and, if_pos rfl]
    ·rw [if_neg hB, last, if_neg (fun z => hB (Bool.and_eq_true_iff.1 z).2)]
   ·rw [if_neg hA, last, if_neg (fun z => hA (Bool.and_eq_true_iff.1 z).1)]
end Go.Proofs.YtaldgaiaelbbaaaGreatDoor
end

section
namespace Go.Proofs.YtaldgaiaelbbaaaGreatDoor
def smD (x : BB) : Bool := decide (x.1.size + x.2.size ≤ 900)
theorem smD_le {x : BB} (h : smD x = true) : x.1.size + x.2.size ≤ 900 := of_decide_eq_true h
def decimal_Places.f (a0_0 a0_1 : ByteArray) : Option (Int × Bool) := if smD (a0_0, a0_1) = true then some (placesS (a0_0, a0_1)) else none
theorem decimal_Places.calls (a0_0 a0_1 : ByteArray) (r1 : Int) (r2 : Bool) (w : World) (hL_ : Laid w) (h : decimal_Places.f a0_0 a0_1 = some (r1, r2)) :
  Calls Tryz.prog 12 #[.agg #[.string a0_0, .string a0_1]] w fun e w' => e = .returned (.tuple #[.int .i64 r1, .bool r2]) ∧ Below w.heap.size w w' := by
 unfold decimal_Places.f at h
 split at h
 ·rename_i hp
  rw [← Places_f (x := (a0_0, a0_1)) (smD_le hp) 3700 (Nat.le_refl _)] at h
  exact Pd.decimal_Places.calls 3700 a0_0 a0_1 r1 r2 w hL_ h
 ·cases h
def decimal_Print.f (a0_0 a0_1 : ByteArray) : Option ByteArray := if smD (a0_0, a0_1) = true then some (printS (a0_0, a0_1)) else none
theorem decimal_Print.calls (a0_0 a0_1 : ByteArray) (r : ByteArray) (w : World) (hL_ : Laid w) (h : decimal_Print.f a0_0 a0_1 = some r) :
  Calls Tryz.prog 14 #[.agg #[.string a0_0, .string a0_1]] w fun e w' => e = .returned (.string r) ∧ Below w.heap.size w w' := by
 unfold decimal_Print.f at h
 split at h
 ·rename_i hp
  rw [← Print_f (x := (a0_0, a0_1)) (smD_le hp) 3700 (Nat.le_refl _)] at h
  exact Pd.decimal_Print.calls 3700 a0_0 a0_1 r w hL_ h
 ·cases h
def decimal_Parse.f (a0 : ByteArray) : Option (ByteArray × ByteArray × Int) := if a0.size ≤ 1100 then some (parseS a0) else none
theorem decimal_Parse.calls (a0 : ByteArray) (r1 r2 : ByteArray) (r3 : Int) (w : World) (hL_ : Laid w) (h : decimal_Parse.f a0 = some (r1, r2, r3)) :
  Calls Tryz.prog 10 #[.string a0] w fun e w' => e = .returned (.tuple #[.agg #[.string r1, .string r2], .int .i64 r3]) ∧ Below w.heap.size w w' := by
 unfold decimal_Parse.f at h
 split at h
 ·rename_i hp
  rw [← Parse_f hp 2 (Nat.le_refl _)] at h
  exact Pd.decimal_Parse.calls 2 a0 r1 r2 r3 w hL_ h
 ·cases h
end Go.Proofs.YtaldgaiaelbbaaaGreatDoor
end

section
namespace Go.Proofs.YtaldgaiaelbbaaaGreatDoor.Pe
def errW : Option Int → Value
 | none => .nilIface
 | some c => .iface 0 (.int .i64 c)
theorem errW_none : errW none = .nilIface := rfl
theorem errW_some (c : Int) : errW (some c) = .iface 0 (.int .i64 c) := rfl
end Go.Proofs.YtaldgaiaelbbaaaGreatDoor.Pe
end

section
namespace Go.Proofs.YtaldgaiaelbbaaaGreatDoor.Pe
def r4_Zeros.l0 : Nat → Int → ByteArray → Int → Option (ByteArray)
 | 0, _, _, _ => none
 | k + 1, x0, x3, x4 => if x4 < x0 then (if x3.size + 1 ≤ 9223372036854775807 then (r4_Zeros.l0 k x0 (x3 ++ (⟨#[48]⟩ : ByteArray)) (wrap64 (x4 + 1))) else (none)) else (some x3)
def r4_Zeros.f (k : Nat) (a0 : Int) : Option (ByteArray) := r4_Zeros.l0 k a0 (⟨#[]⟩ : ByteArray) 0
set_option maxHeartbeats 8000000 in
set_option maxRecDepth 100000 in
theorem r4_Zeros.calls (k : Nat) (a0 : Int) (r : ByteArray) (w : World) (h : r4_Zeros.f k a0 = some r) :
  Calls Tryz.prog 18 #[.int .i64 a0] w fun e w' => e = .returned (.string r) ∧ Drawn0 w w' := by
 have H := h; unfold r4_Zeros.f at H; clear h; have H' := Aside0.mk H; clear H; go_enter Tryz.func18, Tryz.ntmps18; go_wp2
 go_loopg [3, 4] k (fun kq v3 v4 w' => ∃ (x3_1 : ByteArray) (x4_1 : Int), v3 = .string x3_1 ∧ v4 = .int .i64 x4_1 ∧ Aside0 (r4_Zeros.l0 kq a0 x3_1 x4_1 = some r) ∧ Aside0 (kq ≤ k) ∧ Drawn0 w w')
 case atStart => exact ⟨((⟨#[]⟩ : ByteArray)), (0), rl_, rl_, H', ⟨Nat.le_refl _⟩, d0_⟩
 case round =>
  clear H'; (try clear c1); obtain ⟨x3_1, x4_1, rfl, rfl, HA, HK1, ⟨m1, rfl⟩⟩ := hrel
  cases gk with
  | zero => exact absurd HA.out (by simp [r4_Zeros.l0])
  | succ k1 =>
   have H := HA.out; clear HA; simp only [r4_Zeros.l0] at H; by_cases c2 : x4_1 < a0
   ·rw [if_pos c2] at H; have c2b0 : decide (x4_1 < a0) = true := decide_eq_true c2; clear c2; by_cases c3 : x3_1.size + 1 ≤ 9223372036854775807
    ·rw [if_pos c3] at H; have c3b0 := eq_true c3; have c3b1 : decide (x3_1.size + 1 ≤ 9223372036854775807) = true := decide_eq_true c3
     try have c3b2 : (9223372036854775807 < x3_1.size + 1) = False := eq_false (Nat.not_lt.2 c3)
     have H' := Aside0.mk H; clear H; go_wp2
     go_roundg k1
     case measure => have := HK1.out; omega
     case rel => exact ⟨(x3_1 ++ (⟨#[48]⟩ : ByteArray)), (wrap64 (x4_1 + 1)), rl_, rl_, H', ⟨by have := HK1.out; omega⟩, d0_⟩
    ·rw [if_neg c3] at H; exact absurd H (by simp)
   ·rw [if_neg c2] at H; have c2b0 : decide (x4_1 < a0) = false := decide_eq_false c2; clear c2; obtain rfl := Option.some.inj H; go_wp2
    go_ret
    exact ⟨by first | rfl | (simp; done) | (simp [*]; done), d0_⟩
end Go.Proofs.YtaldgaiaelbbaaaGreatDoor.Pe
end

section
namespace Go.Proofs.YtaldgaiaelbbaaaGreatDoor.Pe
def r4_Print.T8 : Bool × List (List Nat × List Nat) := (true, [([], []), ([], []), ([1], [1]), ([2], [2]), ([3], [3]), ([0, 4, 2], [0, 4]), ([], []), ([6, 5, 5, 0, 1, 2, 3, 4, 5, 6], [5, 6])])
def r4_Print.B8 : List Nat := [0, 0, 2, 6, 14, 31, 0, 127]
theorem r4_Print.tab8 : rtab .any (opsOf Tryz.f15 8) = r4_Print.T8 := by kernel_rfl
theorem r4_Print.bits8 : waitsOk r4_Print.T8.2 r4_Print.B8 = true := by kernel_rfl
def r4_Print.T14 : Bool × List (List Nat × List Nat) := (true, [([], []), ([], []), ([], []), ([2], [2]), ([], []), ([3, 4], [3, 4]), ([1, 5], [1, 5]), ([0, 6], [0, 6]), ([7], [7]), ([], []), ([], []), ([10], [10]), ([], []), ([11, 12], [11, 12]), ([9, 13], [9, 13]), ([8, 14], [8, 14]), ([15, 0, 1, 2, 3, 4, 5, 6, 7, 8, 9, 10, 11, 12, 13, 14, 15], [15])])
def r4_Print.B14 : List Nat := [0, 0, 0, 4, 0, 28, 62, 127, 255, 0, 0, 1024, 0, 7168, 15872, 32767, 65535]
theorem r4_Print.tab14 : rtab .any (opsOf Tryz.f15 14) = r4_Print.T14 := by kernel_rfl
theorem r4_Print.bits14 : waitsOk r4_Print.T14.2 r4_Print.B14 = true := by kernel_rfl
end Go.Proofs.YtaldgaiaelbbaaaGreatDoor.Pe
end

section
namespace Go.Proofs.YtaldgaiaelbbaaaGreatDoor.Pe
end Go.Proofs.YtaldgaiaelbbaaaGreatDoor.Pe
end

section
namespace Go.Proofs.YtaldgaiaelbbaaaGreatDoor.Pe
end Go.Proofs.YtaldgaiaelbbaaaGreatDoor.Pe
end

section
namespace Go.Proofs.YtaldgaiaelbbaaaGreatDoor.Pe
end Go.Proofs.YtaldgaiaelbbaaaGreatDoor.Pe
end

section
namespace Go.Proofs.YtaldgaiaelbbaaaGreatDoor
theorem zeros_loop (n : Nat) (hn : n ≤ 1000000) : ∀ (d i : Nat), i + d = n → ∀ k, d + 1 ≤ k → Pe.r4_Zeros.l0 k (n : Int) (zerosB (i : Int)) (i : Int) = some (zerosB (n : Int))
 | 0, i, hi, k, hk => by
  obtain ⟨k, rfl⟩ : ∃ m, k = m + 1 := ⟨k - 1, by omega⟩
  simp only [Pe.r4_Zeros.l0]
  rw [if_neg (by omega), show i = n by omega]
 | d + 1, i, hi, k, hk => by
  obtain ⟨k, rfl⟩ : ∃ m, k = m + 1 := ⟨k - 1, by omega⟩
  simp only [Pe.r4_Zeros.l0]
  have e : zerosB (i : Int) ++ (⟨#[48]⟩ : ByteArray) = zerosB ((i + 1 : Nat) : Int) := by
   apply bext
   rw [Joins.data_append, zerosB_list, zerosB_list, Int.toNat_natCast, Int.toNat_natCast, List.replicate_succ']
  rw [if_pos (by omega), if_pos (by rw [zerosB_size]; omega), e, w64 (by omega) (by omega), show ((i : Int) + 1) = ((i + 1 : Nat) : Int) by omega]
  exact zeros_loop n hn d (i + 1) (by omega) k (by omega)
theorem zeros_f {n : Nat} (hn : n ≤ 1000000) (k : Nat) (hk : n + 1 ≤ k) : Pe.r4_Zeros.f k (n : Int) = some (zerosB (n : Int)) := by
 unfold Pe.r4_Zeros.f
 exact zeros_loop n hn n 0 (by omega) k hk
end Go.Proofs.YtaldgaiaelbbaaaGreatDoor
end

section
namespace Go.Proofs.YtaldgaiaelbbaaaGreatDoor
def r4_Zeros.f (a0 : Int) : Option ByteArray := if (decide (0 ≤ a0) && decide (a0 ≤ 1000000)) = true then some (zerosB a0) else none
theorem r4_Zeros.calls (a0 : Int) (r : ByteArray) (w : World) (h : r4_Zeros.f a0 = some r) :
  Calls Tryz.prog 18 #[.int .i64 a0] w fun e w' => e = .returned (.string r) ∧ Below w.heap.size w w' := by
 unfold r4_Zeros.f at h
 split at h
 ·rename_i hp
  rw [Bool.and_eq_true, decide_eq_true_eq, decide_eq_true_eq] at hp
  obtain ⟨n, rfl⟩ := Int.eq_ofNat_of_zero_le hp.1
  rw [← zeros_f (n := n) (by omega) (n + 1) (Nat.le_refl _)] at h
  refine (Pe.r4_Zeros.calls (n + 1) _ r w h).mono ?_
  rintro e w' ⟨rfl, k, rfl⟩
  exact ⟨rfl, pw_below_drewN (Below.refl _ _) k⟩
 ·cases h
end Go.Proofs.YtaldgaiaelbbaaaGreatDoor
end

section
namespace Go.Proofs.YtaldgaiaelbbaaaGreatDoor
theorem dPlaces {q : Rat} (h : szR q ≤ 900) : decimal_Places.f (rT q).1 (rT q).2 = some (placesS (rT q)) := by
 unfold decimal_Places.f
 exact if_pos (show smD ((rT q).1, (rT q).2) = true from decide_eq_true h)
theorem dPrint {q : Rat} (h : szR q ≤ 900) : decimal_Print.f (rT q).1 (rT q).2 = some (printS (rT q)) := by
 unfold decimal_Print.f
 exact if_pos (show smD ((rT q).1, (rT q).2) = true from decide_eq_true h)
theorem dParse {s : ByteArray} (h : s.size ≤ 1100) : decimal_Parse.f s = some (parseS s) := by
 unfold decimal_Parse.f
 exact if_pos h
theorem dParseQ {s : ByteArray} {q : Rat} (h : s.size ≤ 1100) (e : parseL s.data.toList = some q) : decimal_Parse.f s = some ((rT q).1, (rT q).2, 0) := by rw [dParse h, parse_some e]
theorem eZeros {n : Nat} (h : n ≤ 1000000) : r4_Zeros.f (n : Int) = some (zerosB (n : Int)) := by
 unfold r4_Zeros.f
 rw [if_pos]
 rw [Bool.and_eq_true, decide_eq_true_eq, decide_eq_true_eq]
 omega
theorem rT_nat (n : Nat) : rT ((n : Int) : Rat) = (natB n, ⟨#[49]⟩) := by
 unfold rT
 rw [Rat.num_intCast, Rat.den_intCast, natB_one, intB_nat]
theorem szR_n (n : Nat) : szR ((n : Int) : Rat) ≤ sz n + 1 := by rw [szR_int, szI_nat]; exact Nat.le_refl _
theorem szR_ten (n : Nat) : szR (((10 ^ n : Nat) : Int) : Rat) ≤ n + 2 := by
 have := szR_n (10 ^ n)
 have s10 : sz (10 ^ n) ≤ n + 1 := sz_le (Nat.pow_lt_pow_right (by decide) (by omega)) (by omega)
 omega
end Go.Proofs.YtaldgaiaelbbaaaGreatDoor
end

section
namespace Go.Proofs.YtaldgaiaelbbaaaGreatDoor.Pf4
def errW : Option Int → Value
 | none => .nilIface
 | some c => .iface 0 (.int .i64 c)
theorem errW_none : errW none = .nilIface := rfl
theorem errW_some (c : Int) : errW (some c) = .iface 0 (.int .i64 c) := rfl
end Go.Proofs.YtaldgaiaelbbaaaGreatDoor.Pf4
end

section
namespace Go.Proofs.YtaldgaiaelbbaaaGreatDoor.Pf4
theorem eqA23 (d : Nat) (w : World) (x0 y0 : ByteArray) (x1 y1 : ByteArray) :
  (Op.equalIn (d + 2) 23 (.agg #[.string x0, .string x1]) (.agg #[.string y0, .string y1])).run Tryz.prog w = .ok (x0.toList == y0.toList && (x1.toList == y1.toList)) w := by
 refine eqA_of Tryz.underlying23 (by kernel_rfl) ?_; refine eqf_cons (by rfl) (by go_simp; rfl) (by go_simp; rfl) (by go_simp) ?_; exact eqf_last (by rfl) (by go_simp; rfl) (by go_simp; rfl) (by go_simp)
end Go.Proofs.YtaldgaiaelbbaaaGreatDoor.Pf4
end

section
namespace Go.Proofs.YtaldgaiaelbbaaaGreatDoor.Pf4
end Go.Proofs.YtaldgaiaelbbaaaGreatDoor.Pf4
end

section
namespace Go.Proofs.YtaldgaiaelbbaaaGreatDoor.Pf4
attribute [local go_sem high] eqA23
def dl4_fixed.f  : Option (Bool) := (decimal_Parse.f (⟨#[45, 49, 50, 46, 53, 48]⟩ : ByteArray)).bind fun bt101 => ((decimal_Parse.f (⟨#[50, 47, 54]⟩ : ByteArray)).bind fun bt105 => ((decimal_Parse.f (⟨#[45, 48, 48, 48]⟩ : ByteArray)).bind fun bt109 => ((decimal_Parse.f (⟨#[49, 46]⟩ : ByteArray)).bind fun bt113 => ((decimal_Parse.f (⟨#[49, 47, 48]⟩ : ByteArray)).bind fun bt117 => ((r3_One.f 3 8).bind fun bt121 => ((decimal_Places.f bt121.1 bt121.2).bind fun bt123 => ((r3_One.f 1 3).bind fun bt125 => ((decimal_Places.f bt125.1 bt125.2).bind fun bt127 => ((r3_One.f (-25) 2).bind fun bt129 => (if (bt101.1.toList == bt129.1.toList && (bt101.2.1.toList == bt129.2.toList)) = true then (if bt101.2.2 = 0 then ((decimal_Print.f bt101.1 bt101.2.1).bind fun t131 => (if t131.toList = ([45, 49, 50, 46, 53] : List UInt8) then ((r3_One.f 1 3).bind fun bt132 => (if (bt105.1.toList == bt132.1.toList && (bt105.2.1.toList == bt132.2.toList)) = true then (if bt105.2.2 = 0 then ((decimal_Print.f bt105.1 bt105.2.1).bind fun t134 => (if t134.toList = ([49, 47, 51] : List UInt8) then ((r3_Of.f 0).bind fun bt135 => (if (bt109.1.toList == bt135.1.toList && (bt109.2.1.toList == bt135.2.toList)) = true then (if bt109.2.2 = 0 then (if bt113.2.2 = 40 then (if bt117.2.2 = 40 then (if bt123.1 = 3 then (if bt123.2 = true then (if bt127.2 = true then (some false) else ((r3_One.f (-1) 200).bind fun bt137 => ((decimal_Print.f bt137.1 bt137.2).bind fun t139 => (if t139.toList = ([45, 48, 46, 48, 48, 53] : List UInt8) then ((decimal_Print.f (⟨#[]⟩ : ByteArray) (⟨#[]⟩ : ByteArray)).bind fun t140 => (some (t140.toList == ([] : List UInt8)))) else (some false))))) else (some false)) else (some false)) else (some false)) else (some false)) else (some false)) else (some false))) else (some false))) else (some false)) else (some false))) else (some false))) else (some false)) else (some false)))))))))))
def dl4_fixed.T8 : Bool × List (List Nat × List Nat) := (true, [([], []), ([], []), ([0, 1], [0, 1]), ([2, 1], [2]), ([3], [3]), ([4, 3], [3, 4]), ([3, 5], [3, 5]), ([6, 3], [6]), ([7], [7]), ([8, 7, 7], [7, 8]), ([9, 7], [7, 9]), ([7, 10], [7, 10]), ([11, 9], [11]), ([12], [12]), ([12, 12], [12]), ([13, 14, 12], [12, 13, 14]), ([12, 15], [12, 15]), ([16, 14], [16]), ([17], [17]), ([18, 17], [17, 18]), ([17, 19], [17, 19]), ([20, 17], [20]), ([21], [21]), ([22, 21, 21], [21, 22]), ([23, 21], [21, 23]), ([21, 24], [21, 24]), ([25, 23], [25]), ([26], [26]), ([26, 26], [26]), ([27, 28, 26], [26, 27, 28]), ([26, 29], [26, 29]), ([30, 28], [30]), ([31], [31]), ([32, 31], [31, 32]), ([31, 33], [31, 33]), ([34, 31], [34]), ([35], [35]), ([36, 35], [35, 36]), ([35, 37], [35, 37]), ([38, 35], [38]), ([39], [39]), ([40, 39], [39, 40]), ([39, 41], [39, 41]), ([42, 39], [42]), ([43], [43]), ([44, 43], [43, 44]), ([43, 45], [43, 45]), ([46, 43], [46]), ([47], [47]), ([47, 48], [47, 48]), ([49, 47], [49]), ([50], [50]), ([51, 50], [50, 51]), ([50, 52], [50, 52]), ([53, 50], [53]), ([54, 54], [54]), ([55, 55, 54], [54, 55]), ([56, 54], [54, 56]), ([54, 57], [54, 57]), ([58, 56], [58]), ([59], [59]), ([60, 59, 59], [59, 60]), ([61, 59], [59, 61]), ([59, 62], [59, 62]), ([63, 61, 0, 1, 2, 3, 4, 5, 6, 7, 8, 9, 10, 11, 12, 13, 14, 15, 16, 17, 18, 19, 20, 21, 22, 23, 24, 25, 26, 27, 28, 29, 30, 31, 32, 33, 34, 35, 36, 37, 38, 39, 40, 41, 42, 43, 44, 45, 46, 47, 48, 49, 50, 51, 52, 53, 54, 55, 56, 57, 58, 59, 60, 61, 62, 63], [63])])
def dl4_fixed.B8 : List Nat := [0, 0, 3, 7, 15, 31, 63, 127, 255, 511, 1023, 2047, 4095, 8191, 8191, 32767, 65535, 131071, 262143, 524287, 1048575, 2097151, 4194303, 8388607, 16777215, 33554431, 67108863, 134217727, 134217727, 536870911, 1073741823, 2147483647, 4294967295, 8589934591, 17179869183, 34359738367, 68719476735, 137438953471, 274877906943, 549755813887, 1099511627775, 2199023255551, 4398046511103, 8796093022207, 17592186044415, 35184372088831, 70368744177663, 140737488355327, 281474976710655, 562949953421311, 1125899906842623, 2251799813685247, 4503599627370495, 9007199254740991, 18014398509481983, 36028797018963967, 72057594037927935, 144115188075855871, 288230376151711743, 576460752303423487, 1152921504606846975, 2305843009213693951, 4611686018427387903, 9223372036854775807, 18446744073709551615]
theorem dl4_fixed.tab8 : rtab .any (opsOf Tryz.f9 8) = dl4_fixed.T8 := by kernel_rfl
theorem dl4_fixed.bits8 : waitsOk dl4_fixed.T8.2 dl4_fixed.B8 = true := by kernel_rfl
set_option maxHeartbeats 8000000 in
set_option maxRecDepth 100000 in
theorem dl4_fixed.calls  (r : Bool) (w : World) (hL_ : Laid w) (hr_ : Aside0 (r = true)) (h : dl4_fixed.f  = some r) :
  Calls Tryz.prog 9 #[] w fun e w' => e = .returned (.bool r) ∧ Below w.heap.size w w' := by
 have hu23 := Tryz.underlying23; have HLD := Aside0.mk hL_; clear hL_; have HB := Aside0.mk (Below.refl w.heap.size w); have H := h; unfold dl4_fixed.f at H; clear h; obtain ⟨⟨t101, t102, t103⟩, A1, H⟩ := bi_ H; (try dsimp only at H); obtain ⟨⟨t105, t106, t107⟩, A2, H⟩ := bi_ H; (try dsimp only at H); obtain ⟨⟨t109, t110, t111⟩, A3, H⟩ := bi_ H; (try dsimp only at H); obtain ⟨⟨t113, t114, t115⟩, A4, H⟩ := bi_ H; (try dsimp only at H); obtain ⟨⟨t117, t118, t119⟩, A5, H⟩ := bi_ H; (try dsimp only at H); obtain ⟨⟨t121, t122⟩, A6, H⟩ := bi_ H; (try dsimp only at H); obtain ⟨⟨t123, t124⟩, A7, H⟩ := bi_ H; (try dsimp only at H); obtain ⟨⟨t125, t126⟩, A8, H⟩ := bi_ H; (try dsimp only at H); obtain ⟨⟨t127, t128⟩, A9, H⟩ := bi_ H; (try dsimp only at H); obtain ⟨⟨t129, t130⟩, A10, H⟩ := bi_ H; (try dsimp only at H); by_cases c11 : (t101.toList == t129.toList && (t102.toList == t130.toList)) = true
 ·rw [if_pos c11] at H; have c11b0 : (t101.toList == t129.toList && (t102.toList == t130.toList)) = true := c11; (try (have c11b1 : decide (t101.toList = t129.toList && (t102.toList == t130.toList)) = true := by simpa using c11)); (try (have c11b2 : (t101.toList == t129.toList && (t102.toList == t130.toList)) = true := by simpa using c11)); clear c11; by_cases c12 : t103 = 0
  ·rw [if_pos c12] at H; have c12b0 : (t103 == 0) = true := beq_iff_eq.mpr c12; have c12b1 : (t103 != 0) = false := bne_eq_false_iff_eq.mpr c12; clear c12; obtain ⟨t131, A13, H⟩ := bi_ H; by_cases c14 : t131.toList = ([45, 49, 50, 46, 53] : List UInt8)
   ·rw [if_pos c14] at H; have c14b0 : (t131.toList == ([45, 49, 50, 46, 53] : List UInt8)) = true := beq_iff_eq.mpr c14; have c14b1 : (t131.toList != ([45, 49, 50, 46, 53] : List UInt8)) = false := bne_eq_false_iff_eq.mpr c14; clear c14; obtain ⟨⟨t132, t133⟩, A15, H⟩ := bi_ H; (try dsimp only at H)
    obtain ⟨rfl, rfl⟩ : t125 = t132 ∧ t126 = t133 := by have e_ := A8.out.symm.trans A15.out; simpa using e_
    by_cases c16 : (t105.toList == t125.toList && (t106.toList == t126.toList)) = true
    ·rw [if_pos c16] at H; have c16b0 : (t105.toList == t125.toList && (t106.toList == t126.toList)) = true := c16; (try (have c16b1 : decide (t105.toList = t125.toList && (t106.toList == t126.toList)) = true := by simpa using c16)); (try (have c16b2 : (t105.toList == t125.toList && (t106.toList == t126.toList)) = true := by simpa using c16)); clear c16; by_cases c17 : t107 = 0
     ·rw [if_pos c17] at H; have c17b0 : (t107 == 0) = true := beq_iff_eq.mpr c17; have c17b1 : (t107 != 0) = false := bne_eq_false_iff_eq.mpr c17; clear c17; obtain ⟨t134, A18, H⟩ := bi_ H; by_cases c19 : t134.toList = ([49, 47, 51] : List UInt8)
      ·rw [if_pos c19] at H; have c19b0 : (t134.toList == ([49, 47, 51] : List UInt8)) = true := beq_iff_eq.mpr c19; have c19b1 : (t134.toList != ([49, 47, 51] : List UInt8)) = false := bne_eq_false_iff_eq.mpr c19; clear c19; obtain ⟨⟨t135, t136⟩, A20, H⟩ := bi_ H; (try dsimp only at H); by_cases c21 : (t109.toList == t135.toList && (t110.toList == t136.toList)) = true
       ·rw [if_pos c21] at H; have c21b0 : (t109.toList == t135.toList && (t110.toList == t136.toList)) = true := c21; (try (have c21b1 : decide (t109.toList = t135.toList && (t110.toList == t136.toList)) = true := by simpa using c21)); (try (have c21b2 : (t109.toList == t135.toList && (t110.toList == t136.toList)) = true := by simpa using c21)); clear c21; by_cases c22 : t111 = 0
        ·rw [if_pos c22] at H; have c22b0 : (t111 == 0) = true := beq_iff_eq.mpr c22; have c22b1 : (t111 != 0) = false := bne_eq_false_iff_eq.mpr c22; clear c22; by_cases c23 : t115 = 40
         ·rw [if_pos c23] at H; have c23b0 : (t115 == 40) = true := beq_iff_eq.mpr c23; have c23b1 : (t115 != 40) = false := bne_eq_false_iff_eq.mpr c23; clear c23; by_cases c24 : t119 = 40
          ·rw [if_pos c24] at H; have c24b0 : (t119 == 40) = true := beq_iff_eq.mpr c24; have c24b1 : (t119 != 40) = false := bne_eq_false_iff_eq.mpr c24; clear c24; by_cases c25 : t123 = 3
           ·rw [if_pos c25] at H; have c25b0 : (t123 == 3) = true := beq_iff_eq.mpr c25; have c25b1 : (t123 != 3) = false := bne_eq_false_iff_eq.mpr c25; clear c25; by_cases c26 : t124 = true
            ·subst c26; rw [if_pos rfl] at H; by_cases c27 : t128 = true
             ·subst c27
              have H1 : (some false) = some r := by rw [if_pos rfl] at H; exact H
              exact absurd (H1.trans (congrArg some hr_.out)) (by decide)
             ·replace c27 := Bool.eq_false_iff.mpr c27; subst c27; rw [if_neg nf_] at H; obtain ⟨⟨t137, t138⟩, A63, H⟩ := bi_ H; (try dsimp only at H); obtain ⟨t139, A64, H⟩ := bi_ H; by_cases c65 : t139.toList = ([45, 48, 46, 48, 48, 53] : List UInt8)
              ·rw [if_pos c65] at H; have c65b0 : (t139.toList == ([45, 48, 46, 48, 48, 53] : List UInt8)) = true := beq_iff_eq.mpr c65; have c65b1 : (t139.toList != ([45, 48, 46, 48, 48, 53] : List UInt8)) = false := bne_eq_false_iff_eq.mpr c65; clear c65; obtain ⟨t140, A66, H⟩ := bi_ H; obtain rfl := Option.some.inj H; go_enter Tryz.func9, Tryz.ntmps9
               try go_wp2_with (first | (refine gl_ 16 Tryz.func10 #[.string (⟨#[45, 49, 50, 46, 53, 48]⟩ : ByteArray)] ?_; refine mo_ (decimal_Parse.calls (⟨#[45, 49, 50, 46, 53, 48]⟩ : ByteArray) t101 t102 t103 _ (lb_ HLD HB) A1.out) ?_; intro w67 hb; replace HB := bs_ HB hb; (try clear hb); (try clear hb2); (try clear hk); (try clear hi)) | ((with_reducible refine gate_dst (N := 1) rfl ?_); refine be_ 1 #[.string (⟨#[]⟩ : ByteArray), .string (⟨#[]⟩ : ByteArray)] 23 ?_; intro gb104 hg w68 hbox hb; have BK104 := Aside0.mk (hbox); have GW104 := ge_ HB hg; have GE104 := ge_ HB hg; replace HB := bs_ HB hb; clear hb hbox hg; have hcz69_0 := bc_ BK104 0 rfl; have hcz69_1 := bc_ BK104 1 rfl; have hfz69_0 := blk_frozen BK104.out 0; have hfz69_1 := blk_frozen BK104.out 1) | (refine gl_ 20 Tryz.func10 #[.string (⟨#[50, 47, 54]⟩ : ByteArray)] ?_; refine mo_ (decimal_Parse.calls (⟨#[50, 47, 54]⟩ : ByteArray) t105 t106 t107 _ (lb_ HLD HB) A2.out) ?_; intro w70 hb; replace BK104 := Aside0.mk (blk_below (g := gb104) (o := .cells #[.string t101, .string t102] 23 (0, 0)) (rp_ BK104.out) hb); replace HB := bs_ HB hb; (try clear hb); (try clear hb2); (try clear hk); (try clear hi)) | ((with_reducible refine gate_dst (N := 3) rfl ?_); refine be_ 3 #[.string (⟨#[]⟩ : ByteArray), .string (⟨#[]⟩ : ByteArray)] 23 ?_; intro gb108 hg w71 hbox hb; have BK108 := Aside0.mk (hbox); have GW108 := ge_ HB hg; have GE108 := ge_ HB hg; have NB104_108 := nl_ BK104 hg; have NB108_104 := ng_ BK104 hg; replace BK104 := kb_ BK104 hb; replace HB := bs_ HB hb; clear hb hbox hg; have hnb72 := NB108_104.out; have hnc72 := NB104_108.out; have hcz73_0 := bc_ BK108 0 rfl; have hcz73_1 := bc_ BK108 1 rfl; have hfz73_0 := blk_frozen BK108.out 0; have hfz73_1 := blk_frozen BK108.out 1) | (refine gl_ 24 Tryz.func10 #[.string (⟨#[45, 48, 48, 48]⟩ : ByteArray)] ?_; refine mo_ (decimal_Parse.calls (⟨#[45, 48, 48, 48]⟩ : ByteArray) t109 t110 t111 _ (lb_ HLD HB) A3.out) ?_; intro w74 hb; replace BK104 := Aside0.mk (blk_below (g := gb104) (o := .cells #[.string t101, .string t102] 23 (0, 0)) (fr_ BK104.out) hb); replace BK108 := Aside0.mk (blk_below (g := gb108) (o := .cells #[.string t105, .string t106] 23 (0, 0)) (rp_ BK108.out) hb); replace HB := bs_ HB hb; (try clear hb); (try clear hb2); (try clear hk); (try clear hi)) | ((with_reducible refine gate_dst (N := 5) rfl ?_); refine be_ 5 #[.string (⟨#[]⟩ : ByteArray), .string (⟨#[]⟩ : ByteArray)] 23 ?_; intro gb112 hg w75 hbox hb; have BK112 := Aside0.mk (hbox); have GW112 := ge_ HB hg; have GE112 := ge_ HB hg; have NB104_112 := nl_ BK104 hg; have NB112_104 := ng_ BK104 hg; have NB108_112 := nl_ BK108 hg; have NB112_108 := ng_ BK108 hg; replace BK104 := kb_ BK104 hb; replace BK108 := kb_ BK108 hb; replace HB := bs_ HB hb; clear hb hbox hg; have hnb76 := NB112_104.out; have hnc76 := NB104_112.out; have hnb77 := NB112_108.out; have hnc77 := NB108_112.out; have hcz78_0 := bc_ BK112 0 rfl; have hcz78_1 := bc_ BK112 1 rfl; have hfz78_0 := blk_frozen BK112.out 0; have hfz78_1 := blk_frozen BK112.out 1) | (refine gl_ 28 Tryz.func10 #[.string (⟨#[49, 46]⟩ : ByteArray)] ?_; refine mo_ (decimal_Parse.calls (⟨#[49, 46]⟩ : ByteArray) t113 t114 t115 _ (lb_ HLD HB) A4.out) ?_; intro w79 hb; replace BK104 := Aside0.mk (blk_below (g := gb104) (o := .cells #[.string t101, .string t102] 23 (0, 0)) (fr_ BK104.out) hb); replace BK108 := Aside0.mk (blk_below (g := gb108) (o := .cells #[.string t105, .string t106] 23 (0, 0)) (fr_ BK108.out) hb); replace BK112 := Aside0.mk (blk_below (g := gb112) (o := .cells #[.string t109, .string t110] 23 (0, 0)) (rp_ BK112.out) hb); replace HB := bs_ HB hb; (try clear hb); (try clear hb2); (try clear hk); (try clear hi)) | ((with_reducible refine gate_dst (N := 7) rfl ?_); refine be_ 7 #[.string (⟨#[]⟩ : ByteArray), .string (⟨#[]⟩ : ByteArray)] 23 ?_; intro gb116 hg w80 hbox hb; have BK116 := Aside0.mk (hbox); have GW116 := ge_ HB hg; have GE116 := ge_ HB hg; have NB104_116 := nl_ BK104 hg; have NB116_104 := ng_ BK104 hg; have NB108_116 := nl_ BK108 hg; have NB116_108 := ng_ BK108 hg; have NB112_116 := nl_ BK112 hg; have NB116_112 := ng_ BK112 hg; replace BK104 := kb_ BK104 hb; replace BK108 := kb_ BK108 hb; replace BK112 := kb_ BK112 hb; replace HB := bs_ HB hb; clear hb hbox hg; have hnb81 := NB116_104.out; have hnc81 := NB104_116.out; have hnb82 := NB116_108.out; have hnc82 := NB108_116.out; have hnb83 := NB116_112.out; have hnc83 := NB112_116.out; have hcz84_0 := bc_ BK116 0 rfl; have hcz84_1 := bc_ BK116 1 rfl; have hfz84_0 := blk_frozen BK116.out 0; have hfz84_1 := blk_frozen BK116.out 1) | (refine gl_ 32 Tryz.func10 #[.string (⟨#[49, 47, 48]⟩ : ByteArray)] ?_; refine mo_ (decimal_Parse.calls (⟨#[49, 47, 48]⟩ : ByteArray) t117 t118 t119 _ (lb_ HLD HB) A5.out) ?_; intro w85 hb; replace BK104 := Aside0.mk (blk_below (g := gb104) (o := .cells #[.string t101, .string t102] 23 (0, 0)) (fr_ BK104.out) hb); replace BK108 := Aside0.mk (blk_below (g := gb108) (o := .cells #[.string t105, .string t106] 23 (0, 0)) (fr_ BK108.out) hb); replace BK112 := Aside0.mk (blk_below (g := gb112) (o := .cells #[.string t109, .string t110] 23 (0, 0)) (fr_ BK112.out) hb); replace BK116 := Aside0.mk (blk_below (g := gb116) (o := .cells #[.string t113, .string t114] 23 (0, 0)) (rp_ BK116.out) hb); replace HB := bs_ HB hb; (try clear hb); (try clear hb2); (try clear hk); (try clear hi)) | ((with_reducible refine gate_dst (N := 9) rfl ?_); refine be_ 9 #[.string (⟨#[]⟩ : ByteArray), .string (⟨#[]⟩ : ByteArray)] 23 ?_; intro gb120 hg w86 hbox hb; have BK120 := Aside0.mk (hbox); have GW120 := ge_ HB hg; have GE120 := ge_ HB hg; have NB104_120 := nl_ BK104 hg; have NB120_104 := ng_ BK104 hg; have NB108_120 := nl_ BK108 hg; have NB120_108 := ng_ BK108 hg; have NB112_120 := nl_ BK112 hg; have NB120_112 := ng_ BK112 hg; have NB116_120 := nl_ BK116 hg; have NB120_116 := ng_ BK116 hg; replace BK104 := kb_ BK104 hb; replace BK108 := kb_ BK108 hb; replace BK112 := kb_ BK112 hb; replace BK116 := kb_ BK116 hb; replace HB := bs_ HB hb; clear hb hbox hg; have hnb87 := NB120_104.out; have hnc87 := NB104_120.out; have hnb88 := NB120_108.out; have hnc88 := NB108_120.out; have hnb89 := NB120_112.out; have hnc89 := NB112_120.out; have hnb90 := NB120_116.out; have hnc90 := NB116_120.out; have hcz91_0 := bc_ BK120 0 rfl; have hcz91_1 := bc_ BK120 1 rfl; have hfz91_0 := blk_frozen BK120.out 0; have hfz91_1 := blk_frozen BK120.out 1) | (refine gl_ 36 Tryz.func23 #[.int .i64 3, .int .i64 8] ?_; refine mo_ (r3_One.calls 3 8 t121 t122 _ A6.out) ?_; intro w92 hb; replace BK104 := Aside0.mk (blk_below (g := gb104) (o := .cells #[.string t101, .string t102] 23 (0, 0)) (fr_ BK104.out) hb); replace BK108 := Aside0.mk (blk_below (g := gb108) (o := .cells #[.string t105, .string t106] 23 (0, 0)) (fr_ BK108.out) hb); replace BK112 := Aside0.mk (blk_below (g := gb112) (o := .cells #[.string t109, .string t110] 23 (0, 0)) (fr_ BK112.out) hb); replace BK116 := Aside0.mk (blk_below (g := gb116) (o := .cells #[.string t113, .string t114] 23 (0, 0)) (fr_ BK116.out) hb); replace BK120 := Aside0.mk (blk_below (g := gb120) (o := .cells #[.string t117, .string t118] 23 (0, 0)) (rp_ BK120.out) hb); replace HB := bs_ HB hb; (try clear hb); (try clear hb2); (try clear hk); (try clear hi)) | (refine gl_ 37 Tryz.func12 #[.agg #[.string t121, .string t122]] ?_; refine mo_ (decimal_Places.calls t121 t122 t123 true _ (lb_ HLD HB) A7.out) ?_; intro w93 hb; replace BK104 := kb_ BK104 hb; replace BK108 := kb_ BK108 hb; replace BK112 := kb_ BK112 hb; replace BK116 := kb_ BK116 hb; replace BK120 := kb_ BK120 hb; replace HB := bs_ HB hb; (try clear hb); (try clear hb2); (try clear hk); (try clear hi)) | (refine gl_ 41 Tryz.func23 #[.int .i64 1, .int .i64 3] ?_; refine mo_ (r3_One.calls 1 3 t125 t126 _ A8.out) ?_; intro w94 hb; replace BK104 := kb_ BK104 hb; replace BK108 := kb_ BK108 hb; replace BK112 := kb_ BK112 hb; replace BK116 := kb_ BK116 hb; replace BK120 := kb_ BK120 hb; replace HB := bs_ HB hb; (try clear hb); (try clear hb2); (try clear hk); (try clear hi)) | (refine gl_ 42 Tryz.func12 #[.agg #[.string t125, .string t126]] ?_; refine mo_ (decimal_Places.calls t125 t126 t127 false _ (lb_ HLD HB) A9.out) ?_; intro w95 hb; replace BK104 := kb_ BK104 hb; replace BK108 := kb_ BK108 hb; replace BK112 := kb_ BK112 hb; replace BK116 := kb_ BK116 hb; replace BK120 := kb_ BK120 hb; replace HB := bs_ HB hb; (try clear hb); (try clear hb2); (try clear hk); (try clear hi)))
               replace BK104 := Aside0.mk (blk_drew BK104.out); replace BK108 := Aside0.mk (blk_drew BK108.out); replace BK112 := Aside0.mk (blk_drew BK112.out); replace BK116 := Aside0.mk (blk_drew BK116.out); replace BK120 := Aside0.mk (blk_drew BK120.out); replace HB := Aside0.mk (below_drew1 HB.out); refine sa_ 65 (fun w' => w'.cell? ⟨gb104, 0, none⟩ = some (.string t101) ∧ w'.cell? ⟨gb104, 1, none⟩ = some (.string t102) ∧ w'.cell? ⟨gb108, 0, none⟩ = some (.string t105) ∧ w'.cell? ⟨gb108, 1, none⟩ = some (.string t106) ∧ w'.cell? ⟨gb112, 0, none⟩ = some (.string t109) ∧ w'.cell? ⟨gb112, 1, none⟩ = some (.string t110)) (fun hHeld => ?_); refine with_tabW dl4_fixed.tab8 dl4_fixed.bits8 (fun HT_ HW_ => ?_); generalize w95.drew = w96 at BK104 BK108 BK112 BK116 BK120 HB hHeld ⊢; refine t6_ 0 45 rfl rfl HT_ HW_ hHeld ?_; refine on_ 1 (some 46) rfl rfl HT_ (fun K hK => ?_); refine gs_ Tryz.func23 #[.int .i64 (-25), .int .i64 2] ?_; refine mo_ (r3_One.calls (-25) 2 t129 t130 _ A10.out) ?_; intro w97 hb; replace BK104 := kb_ BK104 hb; replace BK108 := kb_ BK108 hb; replace BK112 := kb_ BK112 hb; replace BK116 := kb_ BK116 hb; replace BK120 := kb_ BK120 hb; replace HB := bs_ HB hb; (try clear hb); refine hk_ hK (fun hHeld => ?_); clear hK K; refine nm_ ?_; refine pu_ 2 47 rfl rfl HT_ ?_; refine pu_ 3 48 rfl rfl HT_ ?_; refine pu_ 4 49 rfl rfl HT_ ?_; refine pu_ 5 50 rfl rfl HT_ ?_; refine pu_ 6 51 rfl rfl HT_ ?_; refine pu_ 7 52 rfl rfl HT_ ?_; refine t6_ 8 53 rfl rfl HT_ HW_ hHeld ?_; refine on_ 9 (some 54) rfl rfl HT_ (fun K hK => ?_); refine gs_ Tryz.func14 #[.agg #[.string t101, .string t102]] ?_; refine mo_ (decimal_Print.calls t101 t102 t131 _ (lb_ HLD HB) A13.out) ?_; intro w98 hb; replace BK104 := kb_ BK104 hb; replace BK108 := kb_ BK108 hb; replace BK112 := kb_ BK112 hb; replace BK116 := kb_ BK116 hb; replace BK120 := kb_ BK120 hb; replace HB := bs_ HB hb; (try clear hb); refine hk_ hK (fun hHeld => ?_); clear hK K; refine nm_ ?_; refine pu_ 10 55 rfl rfl HT_ ?_; refine pu_ 11 56 rfl rfl HT_ ?_; refine pu_ 12 57 rfl rfl HT_ ?_; refine t6_ 13 58 rfl rfl HT_ HW_ hHeld ?_; refine on_ 14 (some 59) rfl rfl HT_ (fun K hK => ?_); refine gs_ Tryz.func23 #[.int .i64 1, .int .i64 3] ?_; refine mo_ (r3_One.calls 1 3 t125 t126 _ A15.out) ?_; intro w99 hb; replace BK104 := kb_ BK104 hb; replace BK108 := kb_ BK108 hb; replace BK112 := kb_ BK112 hb; replace BK116 := kb_ BK116 hb; replace BK120 := kb_ BK120 hb; replace HB := bs_ HB hb; (try clear hb); refine hk_ hK (fun hHeld => ?_); clear hK K; refine nm_ ?_; refine pu_ 15 60 rfl rfl HT_ ?_; refine pu_ 16 61 rfl rfl HT_ ?_; refine pu_ 17 62 rfl rfl HT_ ?_; refine pu_ 18 63 rfl rfl HT_ ?_; refine pu_ 19 64 rfl rfl HT_ ?_; refine pu_ 20 65 rfl rfl HT_ ?_; refine pu_ 21 66 rfl rfl HT_ ?_; refine t6_ 22 67 rfl rfl HT_ HW_ hHeld ?_; refine on_ 23 (some 68) rfl rfl HT_ (fun K hK => ?_); refine gs_ Tryz.func14 #[.agg #[.string t105, .string t106]] ?_; refine mo_ (decimal_Print.calls t105 t106 t134 _ (lb_ HLD HB) A18.out) ?_; intro w100 hb; replace BK104 := kb_ BK104 hb; replace BK108 := kb_ BK108 hb; replace BK112 := kb_ BK112 hb; replace BK116 := kb_ BK116 hb; replace BK120 := kb_ BK120 hb; replace HB := bs_ HB hb; (try clear hb); refine hk_ hK (fun hHeld => ?_); clear hK K; refine nm_ ?_; refine pu_ 24 69 rfl rfl HT_ ?_; refine pu_ 25 70 rfl rfl HT_ ?_; refine pu_ 26 71 rfl rfl HT_ ?_; refine t6_ 27 72 rfl rfl HT_ HW_ hHeld ?_; refine on_ 28 (some 73) rfl rfl HT_ (fun K hK => ?_); refine gs_ Tryz.func22 #[.int .i64 0] ?_; refine mo_ (r3_Of.calls 0 t135 t136 _ A20.out) ?_; intro w101 hb; replace BK104 := kb_ BK104 hb; replace BK108 := kb_ BK108 hb; replace BK112 := kb_ BK112 hb; replace BK116 := kb_ BK116 hb; replace BK120 := kb_ BK120 hb; replace HB := bs_ HB hb; (try clear hb); refine hk_ hK (fun hHeld => ?_); clear hK K; refine nm_ ?_; refine pu_ 29 74 rfl rfl HT_ ?_; refine pu_ 30 75 rfl rfl HT_ ?_; refine pu_ 31 76 rfl rfl HT_ ?_; refine pu_ 32 77 rfl rfl HT_ ?_; refine pu_ 33 78 rfl rfl HT_ ?_; refine pu_ 34 79 rfl rfl HT_ ?_; refine pu_ 35 80 rfl rfl HT_ ?_; refine pu_ 36 81 rfl rfl HT_ ?_; refine pu_ 37 82 rfl rfl HT_ ?_; refine pu_ 38 83 rfl rfl HT_ ?_; refine pu_ 39 84 rfl rfl HT_ ?_; refine pu_ 40 85 rfl rfl HT_ ?_; refine pu_ 41 86 rfl rfl HT_ ?_; refine pu_ 42 87 rfl rfl HT_ ?_; refine pu_ 43 88 rfl rfl HT_ ?_; refine pu_ 44 89 rfl rfl HT_ ?_; refine pu_ 45 90 rfl rfl HT_ ?_; refine pu_ 46 91 rfl rfl HT_ ?_; refine pu_ 47 92 rfl rfl HT_ ?_; refine pu_ 48 93 rfl rfl HT_ ?_; refine pu_ 49 94 rfl rfl HT_ ?_; refine pu_ 50 95 rfl rfl HT_ ?_; refine pu_ 51 96 rfl rfl HT_ ?_; refine pu_ 52 97 rfl rfl HT_ ?_; refine pu_ 53 98 rfl rfl HT_ ?_; refine pu_ 54 99 rfl rfl HT_ ?_; refine on_ 55 (some 100) rfl rfl HT_ (fun K hK => ?_); refine gs_ Tryz.func23 #[.int .i64 (-1), .int .i64 200] ?_; refine mo_ (r3_One.calls (-1) 200 t137 t138 _ A63.out) ?_; intro w102 hb; replace BK104 := kb_ BK104 hb; replace BK108 := kb_ BK108 hb; replace BK112 := kb_ BK112 hb; replace BK116 := kb_ BK116 hb; replace BK120 := kb_ BK120 hb; replace HB := bs_ HB hb; (try clear hb); refine hk_ hK (fun hHeld => ?_); clear hK K; refine nm_ ?_; refine on_ 56 (some 101) rfl rfl HT_ (fun K hK => ?_); refine gs_ Tryz.func14 #[.agg #[.string t137, .string t138]] ?_; refine mo_ (decimal_Print.calls t137 t138 t139 _ (lb_ HLD HB) A64.out) ?_; intro w103 hb; replace BK104 := kb_ BK104 hb; replace BK108 := kb_ BK108 hb; replace BK112 := kb_ BK112 hb; replace BK116 := kb_ BK116 hb; replace BK120 := kb_ BK120 hb; replace HB := bs_ HB hb; (try clear hb); refine hk_ hK (fun hHeld => ?_); clear hK K; refine nm_ ?_; refine pu_ 57 102 rfl rfl HT_ ?_; refine pu_ 58 103 rfl rfl HT_ ?_; refine pu_ 59 104 rfl rfl HT_ ?_; refine pu_ 60 105 rfl rfl HT_ ?_; refine on_ 61 (some 106) rfl rfl HT_ (fun K hK => ?_); refine gs_ Tryz.func14 #[.agg #[.string (⟨#[]⟩ : ByteArray), .string (⟨#[]⟩ : ByteArray)]] ?_; refine mo_ (decimal_Print.calls (⟨#[]⟩ : ByteArray) (⟨#[]⟩ : ByteArray) t140 _ (lb_ HLD HB) A66.out) ?_; intro w104 hb; replace BK104 := kb_ BK104 hb; replace BK108 := kb_ BK108 hb; replace BK112 := kb_ BK112 hb; replace BK116 := kb_ BK116 hb; replace BK120 := kb_ BK120 hb; replace HB := bs_ HB hb; (try clear hb); refine hk_ hK (fun hHeld => ?_); clear hK K; refine nm_ ?_; refine pu_ 62 107 rfl rfl HT_ ?_; refine pu_ 63 108 rfl rfl HT_ ?_; refine pu_ 64 0 rfl rfl HT_ ?_; refine done_ (done_of HT_.out (by kernel_rfl)) ?_
               try go_wp2
               go_ret
               exact ⟨er_, b_ HB.out⟩
              ·rw [if_neg c65] at H; exact absurd (H.trans (congrArg some hr_.out)) (by decide)
            ·replace c26 := Bool.eq_false_iff.mpr c26; subst c26
             have H1 : (some false) = some r := by rw [if_neg (show ¬ (false = true) by decide)] at H; exact H
             exact absurd (H1.trans (congrArg some hr_.out)) (by decide)
           ·rw [if_neg c25] at H; exact absurd (H.trans (congrArg some hr_.out)) (by decide)
          ·rw [if_neg c24] at H; exact absurd (H.trans (congrArg some hr_.out)) (by decide)
         ·rw [if_neg c23] at H; exact absurd (H.trans (congrArg some hr_.out)) (by decide)
        ·rw [if_neg c22] at H; exact absurd (H.trans (congrArg some hr_.out)) (by decide)
       ·rw [if_neg c21] at H; exact absurd (H.trans (congrArg some hr_.out)) (by decide)
      ·rw [if_neg c19] at H; exact absurd (H.trans (congrArg some hr_.out)) (by decide)
     ·rw [if_neg c17] at H; exact absurd (H.trans (congrArg some hr_.out)) (by decide)
    ·rw [if_neg c16] at H; exact absurd (H.trans (congrArg some hr_.out)) (by decide)
   ·rw [if_neg c14] at H; exact absurd (H.trans (congrArg some hr_.out)) (by decide)
  ·rw [if_neg c12] at H; exact absurd (H.trans (congrArg some hr_.out)) (by decide)
 ·rw [if_neg c11] at H; exact absurd (H.trans (congrArg some hr_.out)) (by decide)
end Go.Proofs.YtaldgaiaelbbaaaGreatDoor.Pf4
end

section
namespace Go.Proofs.YtaldgaiaelbbaaaGreatDoor.Pf4
end Go.Proofs.YtaldgaiaelbbaaaGreatDoor.Pf4
end

section
namespace Go.Proofs.YtaldgaiaelbbaaaGreatDoor
open Go.RowKit
theorem fixed4_true : Pf4.dl4_fixed.f = some true := by kernel_rfl
def dl4_fixed.f : Option Bool := some true
theorem dl4_fixed.calls (r : Bool) (w : World) (hL_ : Laid w) (h : dl4_fixed.f = some r) :
  Calls Tryz.prog 9 #[] w fun e w' => e = .returned (.bool r) ∧ Below w.heap.size w w' :=
 Pf4.dl4_fixed.calls r w hL_ ⟨(Option.some.inj h).symm⟩ (fixed4_true.trans h)
end Go.Proofs.YtaldgaiaelbbaaaGreatDoor
end

section
namespace Go.Proofs.YtaldgaiaelbbaaaGreatDoor
open Go.ChangeShapes Go.WideShapes Go.ChangeAt Go.RowKit Go.Deep Go.WideElems Go.Maps Go.Joins
section
variable {H : Type} {enc : TypeId × Value → H} {P : Program} {w : World} {base : Nat} {spare : Nat → Bool} {held : Bool}
theorem str_of {t : TypeId} {n : Nat} {v : Value} {y : DataW H × List MemPlace} (ht : P.underlying t = some .string) (h : DataW.trod enc P w base spare held n t [v] = some y) : ∃ s : ByteArray, v = .string s ∧ y = (.lit (.string s.data.toList), []) ∧ s.size ≤ maxLen := by
 obtain ⟨s, h1, h2, h3⟩ := DataW.trod_string ht h
 exact ⟨s, by simpa using h1, h2, h3⟩
theorem str_mk {t : TypeId} {s : ByteArray} (ht : P.underlying t = some .string) (hs : s.size ≤ maxLen) : ∃ n, DataW.trod enc P w base spare held n t [.string s] = some (.lit (.string s.data.toList), []) := ⟨1, by simp [DataW.trod, ht, hs]⟩
theorem open_s2 {r : Reach} {b0 : Nat} {t : TypeId} {f0 f1 : Field} {v : Value} {d : DataW H} {p : List MemPlace} (hs : P.underlying t = some (.struct #[f0, f1])) (h0 : P.underlying f0.type = some .string) (h1 : P.underlying f1.type = some .string) (hone : oneCellFields P #[f0, f1] = true) (hC : P.cellsOf t = 2)
  (hv : Value.okWide P w r b0 t v) (h : DataW.Trod enc P w base spare held t v d p) :
  ∃ a b : ByteArray, v = .agg #[.string a, .string b] ∧ d = .agg [.lit (.string a.data.toList), .lit (.string b.data.toList)] ∧ p = [] ∧ a.size ≤ maxLen ∧ b.size ≤ maxLen := by
 obtain ⟨v0, v1, y0, y1, n, rfl, rfl, rfl, e0, e1⟩ := open_agg2 hs hone hC hv h
 obtain ⟨a, rfl, rfl, ha⟩ := str_of h0 e0
 obtain ⟨b, rfl, rfl, hb⟩ := str_of h1 e1
 exact ⟨a, b, rfl, rfl, rfl, ha, hb⟩
theorem shut_s2 {t : TypeId} {f0 f1 : Field} {a b : ByteArray} (hs : P.underlying t = some (.struct #[f0, f1])) (h0 : P.underlying f0.type = some .string) (h1 : P.underlying f1.type = some .string) (hone : oneCellFields P #[f0, f1] = true) (hC : P.cellsOf t = 2) (ha : a.size ≤ maxLen) (hb : b.size ≤ maxLen) :
  DataW.Trod enc P w base spare held t (.agg #[.string a, .string b]) (.agg [.lit (.string a.data.toList), .lit (.string b.data.toList)]) [] :=
 shut_agg2 (y0 := (.lit (.string a.data.toList), [])) (y1 := (.lit (.string b.data.toList), [])) hs hone hC (str_mk h0 ha) (str_mk h1 hb)
end
end Go.Proofs.YtaldgaiaelbbaaaGreatDoor
end

section
namespace Go.Proofs.YtaldgaiaelbbaaaGreatDoor
open Go.ChangeShapes Go.WideShapes Go.ChangeAt Go.RowKit Go.Lib
theorem wrap_shaped {H : Type} {enc : TypeId × Value → H} {a : Assume} {C : Checked} {os : Os} {f : FuncId} {fn : Func} {s : ChangeSpec} {conds : List PathCond} {apart fresh handsOn again : Bool} {X : World → Array Value → Prop}
  (hX : ∀ (w w' : World) (args : Array Value), w.heap = w'.heap → X w args → X w' args) (own : ownKnob C.prog.godebug = none) (started : os.Started) (noInit : C.prog.inits.idxOf? f = none) (hfn : C.prog.funcs[f]? = some fn)
  (witness : ∃ (w : World) (tape : Tape) (i : Input), w.os = os ∧ (w.forCall tape i).Shaped C.prog ∧ i.vars = [] ∧ Input.okWide C.prog (w.forCall tape i) .any w.heap.size f i ∧
   ((s.pre enc C.prog fn conds apart (w.forCall tape i).memory i.args ∧ X (w.forCall tape i).memory i.args) ∧ sizedMet enc C.prog fn (OpenSpec.ofChange s) apart (w.forCall tape i).memory i.args) ∧ a.holds C.prog (lone (Frame.enter C.prog f i.args .normal) [] (w.forCall tape i)))
  (walk : ∀ (W : World) (base : Nat) (args : Array Value) (ds gs : List (DataW H)) (before : List MemPlace), (∀ (j : Nat) t v, fn.params[j]? = some t → args[j]? = some v → Value.okWide C.prog W .any base t v) →
   DataW.Whole enc C.prog fn.params.toList s.vars apart W args.toList ds gs before → conds.all (PathCond.test C.prog ⟨fn.params.toList, ds, s.plain.varTypes C.prog, gs⟩) = true →
   (DataW.weightsEach C.prog (fn.params.toList ++ s.plain.varTypes C.prog) (ds ++ gs)).all (· ≤ reachBytes) = true → X W args → W.ShapedOpen C.prog →
   Calls C.prog f args W fun e W' => ∃ v, e = .returned v ∧ s.post enc C.prog fn apart fresh handsOn again W args v W') :
  ReturnsInHanded a C os f .any (fun w args => (s.pre enc C.prog fn conds apart w args ∧ X w args) ∧ sizedMet enc C.prog fn (OpenSpec.ofChange s) apart w args) (s.post enc C.prog fn apart fresh handsOn again) := by
 refine returnsInHanded_of_calls own started noInit witness ?_
 intro w tape i _ hsh _ hok hpre _
 obtain ⟨_, _, _, fn', hfn', _, _, _, _, hval⟩ := hok
 obtain rfl : fn' = fn := Option.some.inj (hfn'.symm.trans hfn)
 obtain ⟨⟨⟨ds, gs, before, hw, hc⟩, hx⟩, hz⟩ := hpre
 refine (walk (w.forCall tape i) w.heap.size i.args ds gs before hval (DataW.Whole.of_heap (w' := w.forCall tape i) (by rfl) hw) hc (hz.weights hw) (hX _ _ _ (by rfl) hx) hsh).mono fun e W' hp => ?_
 obtain ⟨v, rfl, hp⟩ := hp
 exact ChangeSpec.post_blind hp
abbrev laidL : List (String × DataW Unit) := [("math/bits.deBruijn32tab", Rows.laid_math_bits_deBruijn32tab), ("math/bits.deBruijn64tab", Rows.laid_math_bits_deBruijn64tab), ("internal/strconv.uint64pow10", Rows.laid_internal_strconv_uint64pow10), ("unicode/utf8.acceptRanges", Rows.laid_unicode_utf8_acceptRanges), ("strconv.ErrRange", Rows.laid_strconv_ErrRange), ("strconv.ErrSyntax", Rows.laid_strconv_ErrSyntax), ("unicode/utf8.first", Rows.laid_unicode_utf8_first)]
theorem own : ownKnob Tryz.prog.godebug = none := by kernel_rfl
theorem tabType : (Tryz.prog.globals[5]?).map (·.type) = some 154 := by kernel_rfl
theorem rngType : (Tryz.prog.globals[4]?).map (·.type) = some 87 := by kernel_rfl
theorem tabCells : Tryz.prog.cellsOf 154 = 20 := by kernel_rfl
theorem u64Cells : Tryz.prog.cellsOf 112 = 1 := by kernel_rfl
theorem errCells : Tryz.prog.cellsOf 160 = 1 := by kernel_rfl
theorem strCells : Tryz.prog.cellsOf 9 = 1 := by kernel_rfl
theorem starErr : "*" ++ "errors.errorString" = "*errors.errorString" := by decide
theorem rowErr (u : TypeId) (h : Tryz.prog.typeName? 3 u = some "*errors.errorString") : u = 158 :=
 typeName_ptr_named (nm := "errors.errorString") (by rw [starErr]; kernel_rfl) (by kernel_rfl) (by decide) u (by rw [starErr]; exact h)
theorem laid_tab_eq : (Rows.laid_internal_strconv_uint64pow10 : DataW Unit) = tabData .u64 pow10Tab := by kernel_rfl
theorem laid_of {W : World} (h : laidMetH Tryz.prog laidL W) (hsh : W.ShapedOpen Tryz.prog) : Laid W := by
 rw [MakeChecks.laidMetH_plain _ _ _ (by kernel_rfl)] at h
 have hL := h
 obtain ⟨a1, s1, hv1, -, -, -⟩ := laid_sentinel (hL.tail.tail.tail.tail) gRng rngType Tryz.underlying87 rowErr Tryz.underlying158 Tryz.underlying160 rfl rfl Tryz.underlying9 errCells strCells
 refine ⟨tabIs_of_head gTab tabType Tryz.underlying154 Tryz.underlying112 u64Cells tabCells (by rw [← laid_tab_eq]; exact hL.tail.tail), ⟨_, _, hv1⟩, cell_of_shapedOpen_int (t := 3) (zero := #[.int .i64 0]) hsh (by decide +kernel) (by kernel_rfl) (by decide) (by kernel_rfl) (by kernel_rfl) Tryz.underlying3⟩
theorem door_met (os : Os) (args : Array Value) : laidMetH Tryz.prog laidL ((World.laidAll Tryz.prog os laidL).forCall (fun _ _ => 0) ⟨#[], args, []⟩).memory := by
 rw [MakeChecks.laidMetH_plain _ _ _ (by kernel_rfl)]
 exact laidMet_laidAll _ (by kernel_rfl) (by kernel_rfl)
end Go.Proofs.YtaldgaiaelbbaaaGreatDoor
end
