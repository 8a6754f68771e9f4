/-
Parts of the proof, in build order: DivLaw, DivLaw2, DivLaw3, ReadLaw, Show, NatHands, Itoa, Pr0, Pr1, Pr, NatApi, Ten, Pq0, Pq1, Pq, TenMay, NatDone, RefMay, RefShort, Num, PuCom, Int, WholeS, Pw0.
-/
import Derived.Test.YtmkmldkfaehefaaDoorC3
import Derived.Lib.PathFns
import Derived.Test.YtmkmldkfaehefaaDoorC1
import Derived.Test.YtmkmldkfaehefaaDoorProg
import Derived.Below
import Derived.Deep.Draws
import Derived.Deep.AppendLies
import Derived.Maps.AppendAt
import Derived.OwnWalk
import Derived.Laws.BytesArg
import Derived.Laws.MakeOwn
import Derived.Laws.OwnMore
import Derived.Deep.OwnRows
import Derived.Tactics
import Derived.Lib.ConvBytes
import Derived.Laws.Slices
import Derived.WalkKit
import Derived.KernelRfl
import Derived.RowKit3
import Derived.Deep.LoopGhost
import Derived.Deep.QuietTactic
import Derived.BigQuiet
import Derived.WideLaws
import Derived.Deep.DeepCutAuto
import Derived.Deep.CutBlock
import Derived.Deep.RegionHeld3
import Derived.Laws.Rows
import Derived.Lib.AppendStr
import Derived.ArgAppend
import Derived.Laws.IdiomCopy
import Derived.OrdersHeld
import Derived.Laws.BitsLemmas
import Derived.RowKit
import Derived.Test.YtmkmldkfaehefaaDoorC0
import Derived.Lib.SmallJoins
import Derived.Lib.Strings
import Derived.Lib.IndexBytes
section
set_option linter.unusedVariables false
namespace Go.Proofs.YtmkmldkfaehefaaDoor
open Go.RowKit Go.Proofs.YtmkmldkfaehefaaDoor.Pt Go.Proofs.YtmkmldkfaehefaaDoorW.PrintWords Go.Proofs.YtmkmldkfaehefaaDoorW.PrintLast Go.Proofs.YtmkmldkfaehefaaDoorW.PrintMore

theorem val_low {u : List Int} {J : Nat} (h : ∀ i, J ≤ i → limb u i = 0) : val u = val (u.take J) := by
  have key : ∀ d, val (u.take (J + d)) = val (u.take J) := by
    intro d
    induction d with
    | zero => rfl
    | succ d ih => rw [show J + (d + 1) = (J + d) + 1 by omega, val_take_succ, ih, h (J + d) (by omega)]; omega
  have h2 := key u.length
  rw [List.take_of_length_le (by omega)] at h2
  exact h2
theorem low_lt {u : List Int} {J : Nat} (ho : Ok u) (h : ∀ i, J ≤ i → limb u i = 0) : val u < 10000 ^ J := by
  rw [val_low h]
  have h1 := (val_bounds (ok_take ho J)).2
  have h2 := pow_mono' (a := (u.take J).length) (b := J) (by rw [List.length_take]; omega)
  omega
theorem high_zero {u : List Int} {J : Nat} (ho : Ok u) (h : val u < 10000 ^ J) (i : Nat) (hi : J ≤ i) : limb u i = 0 := by
  have h1 := limb_val ho i
  have h2 := pow_mono' hi
  have h3 := limb_ok ho i
  rcases Int.lt_or_le 0 (limb u i) with hp | hp
  · have := Int.mul_le_mul_of_nonneg_left (show 1 ≤ limb u i by omega) (Int.le_of_lt (pow_pos' i))
    omega
  · omega

/-- One digit of the quotient is taken away. -/
theorem j3_step {u v out scale : List Int} {j n L need : Nat} {t q : Int} {R : Option (List Int × List Int)} (hu : Ok u) (hv : Ok v) (hn : v.length = n) (hul : u.length = L) (hL : L ≤ 1000000000) (hj : j + n + 1 ≤ L) (hjo : j < out.length)
    (hlow : val u < 10000 ^ (j + n + 1)) (ht1 : t * val v * 10000 ^ j ≤ val u) (ht2 : val u < (t + 1) * val v * 10000 ^ j) (hVS : val v * 10000 ^ j ≤ 10000 ^ (j + n + 1)) (hVp : 0 < val v)
    (hq1 : t ≤ q) (hq2 : q ≤ t + 1) (hq3 : 0 ≤ q) (hq4 : q ≤ 9999)
    (H : ∀ (u' : List Int) (k : Nat), need ≤ k → Ok u' → u'.length = L → val u' = val u - t * val v * 10000 ^ j → nat_div.l0 k scale u' v (n : Int) (out.set j t) ((j : Int) - 1) = R)
    (k : Nat) (hk : need + n + 3 ≤ k) : nat_div.j3 k scale u v (n : Int) out (j : Int) q = R := by
  obtain ⟨k, rfl⟩ : ∃ m, k = m + 1 := ⟨k - 1, by omega⟩
  simp only [nat_div.j3]
  obtain ⟨u1, c1, e1, ho1, hl1, hc1, hc2, hs1, hv1⟩ := take_tells (u := u) (v := v) (q := q) (at_ := j) hu hv ⟨hq3, by omega⟩ (by omega) (by omega) k (by omega)
  rw [e1]
  simp only [Option.bind_some]
  have hz0 := high_zero hu hlow
  rw [hn] at hs1 hv1
  have hz1 : ∀ i, j + n + 1 ≤ i → limb u1 i = 0 := fun i hi => (hs1 i hi).trans (hz0 i hi)
  have hlt1 := low_lt ho1 hz1
  have hge1 := (val_bounds ho1).1
  have g1 : (0 : Int) ≤ (j : Int) := by omega
  have g2 : (j : Int) < (out.length : Int) := by omega
  have hS := pow_pos' j
  have hdist : ∀ z : Int, (z + 1) * val v * 10000 ^ j = z * val v * 10000 ^ j + val v * 10000 ^ j := by intro z; grind
  have hneg : -q * val v * 10000 ^ j = -(q * val v * 10000 ^ j) := by grind
  have hmon : ∀ x y : Int, x ≤ y → x * val v * 10000 ^ j ≤ y * val v * 10000 ^ j := fun x y h => Int.mul_le_mul_of_nonneg_right (Int.mul_le_mul_of_nonneg_right h (Int.le_of_lt hVp)) (Int.le_of_lt hS)
  rw [w64 (x := (j : Int) - 1) (by omega) (by omega)]
  by_cases hc : c1 < 0
  · rw [if_pos hc]
    obtain ⟨u2, c3, e2, ho2, hl2, hc3, hc4, hs2, hv2⟩ := give_tells (u := u1) (v := v) (at_ := j) ho1 hv (by omega) (by omega) k (by omega)
    rw [e2]
    simp only [Option.bind_some]
    rw [if_pos g1, if_pos g2, Int.toNat_natCast, w64 (x := q - 1) (by omega) (by omega)]
    rw [hn] at hs2 hv2
    have hz2 : ∀ i, j + n + 1 ≤ i → limb u2 i = 0 := fun i hi => (hs2 i hi).trans (hz1 i hi)
    have hlt2 := low_lt ho2 hz2
    have hge2 := (val_bounds ho2).1
    have hP := pow_pos' (j + n + 1)
    generalize (10000 : Int) ^ (j + n + 1) = P at *
    have hcP : c1 * P ≤ -1 * P := Int.mul_le_mul_of_nonneg_right (by omega) (Int.le_of_lt hP)
    have hqt : q = t + 1 := by
      rcases (by omega : q = t ∨ q = t + 1) with rfl | h
      · exfalso; omega
      · exact h
    subst hqt
    have hd := hdist t
    have hfin : val u2 = val u - t * val v * 10000 ^ j := by
      have hcc : (c1 + c3) * P = c1 * P + c3 * P := by grind
      have hz : c1 + c3 = 0 := by
        rcases (by omega : c1 + c3 ≤ -1 ∨ c1 + c3 = 0 ∨ 1 ≤ c1 + c3) with h | h | h
        · have := Int.mul_le_mul_of_nonneg_right h (Int.le_of_lt hP)
          exfalso; omega
        · exact h
        · have := Int.mul_le_mul_of_nonneg_right h (Int.le_of_lt hP)
          exfalso; omega
      rw [hz, Int.zero_mul] at hcc
      omega
    rw [show t + 1 - 1 = t by omega]
    exact H u2 k (by omega) ho2 (by omega) hfin
  · rw [if_neg hc, if_pos g1, if_pos g2, Int.toNat_natCast]
    obtain rfl : c1 = 0 := by omega
    rw [Int.zero_mul, Int.add_zero] at hv1
    have hqt : q = t := by
      rcases (by omega : q = t ∨ q = t + 1) with h | rfl
      · exact h
      · have hd := hdist t
        exfalso; omega
    subst hqt
    exact H u1 k (by omega) ho1 (by omega) (by omega)

/-- The guess is mended until it is the digit, or one more. -/
theorem inner_loop {u v out scale : List Int} {j m L need : Nat} {t v1 v2 u1 u2 u3 : Int} {R : Option (List Int × List Int)} (hn : v.length = m + 2) (hul : u.length = L) (hL : L ≤ 1000000000) (hj : j + (m + 2) + 1 ≤ L)
    (hv1 : limb v (m + 1) = v1) (hv2 : limb v m = v2) (hu1 : limb u (j + m) = u1) (bv1 : 5000 ≤ v1 ∧ v1 < 10000) (bv2 : 0 ≤ v2 ∧ v2 < 10000) (bu1 : 0 ≤ u1 ∧ u1 < 10000) (bu2 : 0 ≤ u2 ∧ u2 < 10000) (bu3 : 0 ≤ u3 ∧ u3 ≤ v1)
    (ht0 : 0 ≤ t) (ht9 : t ≤ 9999) (hup : t * (v2 + 10000 * v1) ≤ u1 + 10000 * (u2 + 10000 * u3)) (hlo : ∀ q : Int, 0 ≤ q → q ≤ 9999 → q * (v2 + 10000 * v1) ≤ u1 + 10000 * (u2 + 10000 * u3) → q ≤ t + 1)
    (H : ∀ (q : Int) (k : Nat), need ≤ k → t ≤ q → q ≤ t + 1 → 0 ≤ q → q ≤ 9999 → nat_div.j3 k scale u v ((m + 2 : Nat) : Int) out (j : Int) q = R) :
    ∀ (r : Nat) (q rest : Int) (k : Nat), 2 * r + 2 + need ≤ k → 10000 ≤ rest + 5000 * r → 0 ≤ rest → rest < 10000 → t ≤ q → q ≤ 20000 → q * v1 + rest = u2 + 10000 * u3 → nat_div.l1 k scale u v ((m + 2 : Nat) : Int) out (j : Int) q rest = R
  | 0, q, rest, k, hk, hr, hr0, hr1, hq0, hq1, he => by omega
  | r + 1, q, rest, k, hk, hr, hr0, hr1, hq0, hq1, he => by
    obtain ⟨k, rfl⟩ : ∃ m, k = m + 2 := ⟨k - 2, by omega⟩
    have hqv1 : q * v1 = u2 + 10000 * u3 - rest := by omega
    have hqW : q * (v2 + 10000 * v1) = q * v2 + 10000 * (q * v1) := by grind
    have hqv20 : 0 ≤ q * v2 := Int.mul_nonneg (by omega) bv2.1
    have hqv21 : q * v2 ≤ 20000 * 9999 := Int.mul_le_mul hq1 (by omega) bv2.1 (by omega)
    have down : (10000 ≤ q ∨ rest * 10000 + u1 < q * v2) → nat_div.j2 (k + 1) scale u v ((m + 2 : Nat) : Int) out (j : Int) q rest true = R := by
      intro hc
      simp only [nat_div.j2]
      have e1 : wrap64 (((m + 2 : Nat) : Int) - 1) = ((m + 1 : Nat) : Int) := by rw [w64 (by omega) (by omega)]; omega
      rw [e1]
      clear e1
      have g1 : (0 : Int) ≤ ((m + 1 : Nat) : Int) := by omega
      have g2 : ((m + 1 : Nat) : Int) < (v.length : Int) := by omega
      rw [if_pos trivial]
      rw [if_pos g1]
      rw [if_pos g2]
      rw [rd_limb, hv1, w64 (x := rest + v1) (by omega) (by omega), w64 (x := q - 1) (by omega) (by omega)]
      have htq : t ≤ q - 1 := by
        rcases hc with hc | hc
        · omega
        · have h1 : t * (v2 + 10000 * v1) < q * (v2 + 10000 * v1) := by omega
          have := Int.lt_of_mul_lt_mul_right h1 (by omega)
          omega
      have hq1v : (q - 1) * v1 = q * v1 - v1 := by grind
      by_cases hrr : rest + v1 < 10000
      · rw [if_pos hrr]
        exact inner_loop hn hul hL hj hv1 hv2 hu1 bv1 bv2 bu1 bu2 bu3 ht0 ht9 hup hlo H r (q - 1) (rest + v1) k (by omega) (by omega) (by omega) hrr htq (by omega) (by omega)
      · rw [if_neg hrr]
        have hq9 : q - 1 ≤ 9999 := by
          have h1 : (q - 1) * v1 < 10000 * v1 := by omega
          have := Int.lt_of_mul_lt_mul_right h1 (by omega)
          omega
        have hw : (q - 1) * v2 ≤ 9999 * 9999 := Int.mul_le_mul hq9 (by omega) bv2.1 (by omega)
        have hW : (q - 1) * (v2 + 10000 * v1) = (q - 1) * v2 + 10000 * ((q - 1) * v1) := by grind
        exact H (q - 1) k (by omega) htq (hlo _ (by omega) hq9 (by omega)) (by omega) hq9
    show nat_div.l1 (k + 1 + 1) scale u v ((m + 2 : Nat) : Int) out (j : Int) q rest = R
    simp only [nat_div.l1]
    by_cases hb : q ≥ 10000
    · rw [if_pos hb]
      exact down (.inl hb)
    · rw [if_neg hb]
      have e1 : wrap64 (((m + 2 : Nat) : Int) - 2) = ((m : Nat) : Int) := by rw [w64 (by omega) (by omega)]; omega
      rw [e1]
      clear e1
      have e2 : wrap64 ((j : Int) + ((m + 2 : Nat) : Int)) = ((j + m + 2 : Nat) : Int) := by rw [w64 (by omega) (by omega)]; omega
      rw [e2]
      clear e2
      have e3 : wrap64 (((j + m + 2 : Nat) : Int) - 2) = ((j + m : Nat) : Int) := by rw [w64 (by omega) (by omega)]; omega
      rw [e3]
      clear e3
      have g1 : (0 : Int) ≤ ((m : Nat) : Int) := by omega
      have g2 : ((m : Nat) : Int) < (v.length : Int) := by omega
      have g3 : (0 : Int) ≤ ((j + m : Nat) : Int) := by omega
      have g4 : ((j + m : Nat) : Int) < (u.length : Int) := by omega
      rw [if_pos g1]
      rw [if_pos g2]
      rw [if_pos g3]
      rw [if_pos g4]
      rw [rd_limb, rd_limb, hv2, hu1, w64 (x := q * v2) (by omega) (by omega), w64 (x := rest * 10000) (by omega) (by omega), w64 (x := rest * 10000 + u1) (by omega) (by omega)]
      by_cases hc : q * v2 > rest * 10000 + u1
      · rw [decide_eq_true hc]
        exact down (.inr (by omega))
      · rw [decide_eq_false hc]
        simp only [nat_div.j2]
        rw [if_neg (by decide)]
        exact H q k (by omega) hq0 (hlo q (by omega) (by omega) (by omega)) (by omega) (by omega)
end Go.Proofs.YtmkmldkfaehefaaDoor

end

section
set_option linter.unusedVariables false
namespace Go.Proofs.YtmkmldkfaehefaaDoor
open Go.RowKit Go.Proofs.YtmkmldkfaehefaaDoor.Pt Go.Proofs.YtmkmldkfaehefaaDoorW.PrintWords Go.Proofs.YtmkmldkfaehefaaDoorW.PrintLast Go.Proofs.YtmkmldkfaehefaaDoorW.PrintMore

theorem w64n {a : Int} {b : Nat} (h : a = b) (hb : b < 4611686018427387904) : wrap64 a = (b : Int) := by rw [h, w64 (by omega) (by omega)]

/-- What is so at the head of the loop: j digits are still to come. -/
structure DivInv (u v out : List Int) (j L m : Nat) (U0 : Int) : Prop where
  ou : Ok u
  oo : Ok out
  ul : u.length = L
  ol : out.length = L - (m + 2)
  jl : j ≤ L - (m + 2)
  low : val u < val v * 10000 ^ j
  sum : val u + val v * val out = U0
  zero : ∀ i, i < j → limb out i = 0

theorem div_round {v scale : List Int} {L m : Nat} {U0 : Int} {R : Option (List Int × List Int)} (hv : Ok v) (hn : v.length = m + 2) (hL : L ≤ 1000000000) (hmL : m + 2 ≤ L) (htop : 5000 ≤ limb v (m + 1)) {need : Nat} {u out : List Int} {j : Nat} (inv : DivInv u v out (j + 1) L m U0)
    (H : ∀ (u' out' : List Int) (k : Nat), need ≤ k → DivInv u' v out' j L m U0 → nat_div.l0 k scale u' v ((m + 2 : Nat) : Int) out' ((j : Int) - 1) = R)
    (k : Nat) (hk : need + (m + 2) + 3 + 7 ≤ k) : nat_div.l0 k scale u v ((m + 2 : Nat) : Int) out (j : Int) = R := by
  obtain ⟨ou, oo, ul, ol, jl, low, sum, zero⟩ := inv
  obtain ⟨k, rfl⟩ : ∃ m, k = m + 1 := ⟨k - 1, by omega⟩
  -- the numbers
  have hvb := val_bounds hv
  rw [hn] at hvb
  have bv1 := limb_ok hv (m + 1)
  have bv2 := limb_ok hv m
  have bu1 := limb_ok ou (j + m)
  have bu2 := limb_ok ou (j + m + 1)
  have bu3 := limb_ok ou (j + m + 2)
  have hVdec : val v = val (v.take m) + 10000 ^ m * (limb v m + 10000 * limb v (m + 1)) := by
    have h1 := val_take_succ v m
    have h2 := val_take_succ v (m + 1)
    rw [List.take_of_length_le (by omega : v.length ≤ m + 1 + 1), h1, Int.pow_succ] at h2
    rw [h2]
    grind
  have hVl := val_bounds (ok_take hv m)
  have hVlen : (v.take m).length = m := by rw [List.length_take]; omega
  rw [hVlen] at hVl
  have hQ := pow_pos' m
  have hS := pow_pos' j
  have hlowP : val u < 10000 ^ (j + (m + 2) + 1) := by
    have h1 : val v * 10000 ^ (j + 1) < 10000 ^ (m + 2) * 10000 ^ (j + 1) := Int.mul_lt_mul_of_pos_right hvb.2 (pow_pos' _)
    rw [← Int.pow_add, show m + 2 + (j + 1) = j + (m + 2) + 1 by omega] at h1
    omega
  have hz := high_zero ou hlowP
  have hUdec : val u = val (u.take (j + m)) + 10000 ^ j * 10000 ^ m * (limb u (j + m) + 10000 * (limb u (j + m + 1) + 10000 * limb u (j + m + 2))) := by
    rw [val_low (J := j + m + 2 + 1) (fun i hi => hz i (by omega)), val_take_succ, val_take_succ, val_take_succ]
    have e1 : (10000 : Int) ^ (j + m + 1) = 10000 ^ j * 10000 ^ m * 10000 := by rw [Int.pow_succ, Int.pow_add]
    have e2 : (10000 : Int) ^ (j + m + 2) = 10000 ^ j * 10000 ^ m * 10000 * 10000 := by rw [show j + m + 2 = j + m + 1 + 1 by omega, Int.pow_succ, e1]
    have e0 : (10000 : Int) ^ (j + m) = 10000 ^ j * 10000 ^ m := Int.pow_add _ _ _
    rw [e1, e2, e0]
    grind
  have hUl := val_bounds (ok_take ou (j + m))
  have hUlen : (10000 : Int) ^ (u.take (j + m)).length ≤ 10000 ^ j * 10000 ^ m := by
    rw [← Int.pow_add]
    exact pow_mono' (by rw [List.length_take]; omega)
  have hV0 : 0 < val v := by
    have h1 : 10000 ^ m * 1 ≤ 10000 ^ m * (limb v m + 10000 * limb v (m + 1)) := Int.mul_le_mul_of_nonneg_left (by omega) (Int.le_of_lt hQ)
    omega
  have hVS : val v * 10000 ^ j ≤ 10000 ^ (j + (m + 2) + 1) := by
    have h1 : val v * 10000 ^ j ≤ 10000 ^ (m + 2) * 10000 ^ j := Int.mul_le_mul_of_nonneg_right (by omega) (Int.le_of_lt hS)
    rw [← Int.pow_add] at h1
    have h2 := pow_mono' (a := m + 2 + j) (b := j + (m + 2) + 1) (by omega)
    omega
  obtain ⟨t, ht⟩ : ∃ t, val u / (val v * 10000 ^ j) = t := ⟨_, rfl⟩
  have hVSp : 0 < val v * 10000 ^ j := Int.mul_pos hV0 hS
  have hub := val_bounds ou
  have ht0 : 0 ≤ t := by rw [← ht]; exact Int.ediv_nonneg hub.1 (Int.le_of_lt hVSp)
  have hdm := Int.mul_ediv_add_emod (val u) (val v * 10000 ^ j)
  have hm0 := Int.emod_nonneg (val u) (show val v * 10000 ^ j ≠ 0 by omega)
  have hm1 := Int.emod_lt_of_pos (val u) hVSp
  rw [ht] at hdm
  have ht1 : t * val v * 10000 ^ j ≤ val u := by
    have e : t * val v * 10000 ^ j = val v * 10000 ^ j * t := by grind
    omega
  have ht2 : val u < (t + 1) * val v * 10000 ^ j := by
    have e : (t + 1) * val v * 10000 ^ j = val v * 10000 ^ j * t + val v * 10000 ^ j := by grind
    omega
  have ht9 : t ≤ 9999 := by
    have h1 : val v * 10000 ^ j * t < val v * 10000 ^ j * 10000 := by
      rw [Int.pow_succ] at low
      have e : val v * (10000 ^ j * 10000) = val v * 10000 ^ j * 10000 := by grind
      omega
    have := Int.lt_of_mul_lt_mul_left h1 (Int.le_of_lt hVSp)
    omega
  clear hdm hm0 hm1 ht
  have lowS : val u < val v * 10000 ^ j * 10000 := by
    rw [Int.pow_succ] at low
    have e : val v * (10000 ^ j * 10000) = val v * 10000 ^ j * 10000 := by grind
    omega
  -- one round
  have hjo : j < out.length := by omega
  have hstep : ∀ (u' : List Int) (k' : Nat), need ≤ k' → Ok u' → u'.length = L → val u' = val u - t * val v * 10000 ^ j → nat_div.l0 k' scale u' v ((m + 2 : Nat) : Int) (out.set j t) ((j : Int) - 1) = R := by
    intro u' k' hk' ho' hl' hv'
    refine H u' (out.set j t) k' hk' ⟨ho', ok_set oo j ht0 (by omega), hl', by simp [ol], by omega, ?_, ?_, ?_⟩
    · have e : (t + 1) * val v * 10000 ^ j = t * val v * 10000 ^ j + val v * 10000 ^ j := by grind
      omega
    · rw [hv', val_set hjo, zero j (by omega), ← sum]
      grind
    · intro i hi
      rw [limb_set _ _ _ _ hjo, if_neg (by omega)]
      exact zero i (by omega)
  have hUlow : 10000 ^ j * 10000 ^ m * (limb u (j + m) + 10000 * (limb u (j + m + 1) + 10000 * limb u (j + m + 2))) ≤ val u := by omega
  have hUhigh : val u < 10000 ^ j * 10000 ^ m * (limb u (j + m) + 10000 * (limb u (j + m + 1) + 10000 * limb u (j + m + 2)) + 1) := by rw [Int.mul_add, Int.mul_one]; omega
  have hVlow : 10000 ^ m * (limb v m + 10000 * limb v (m + 1)) ≤ val v := by omega
  have hVhigh : val v ≤ 10000 ^ m * (limb v m + 10000 * limb v (m + 1)) + 10000 ^ m := by omega
  have hup := kn_upper hS hQ ht0 ht1 hUhigh hVlow
  have hlo : ∀ q : Int, 0 ≤ q → q ≤ 9999 → q * (limb v m + 10000 * limb v (m + 1)) ≤ limb u (j + m) + 10000 * (limb u (j + m + 1) + 10000 * limb u (j + m + 2)) → q ≤ t + 1 := fun q h1 h2 h3 => kn_lower hS hQ hV0 h1 (by omega) ht2 hUlow hVlow hVhigh h3
  have htop3 := kn_top hS hQ lowS hUlow hVhigh bu2.1 bu1.1 bv2.2
  have h3 : ∀ (q : Int) (k' : Nat), need + (m + 2) + 3 ≤ k' → t ≤ q → q ≤ t + 1 → 0 ≤ q → q ≤ 9999 → nat_div.j3 k' scale u v ((m + 2 : Nat) : Int) out (j : Int) q = R :=
    fun q k' hk' h1 h2 h3 h4 => j3_step (n := m + 2) (need := need) ou hv hn ul hL (by omega) hjo hlowP ht1 ht2 hVS hV0 h1 h2 h3 h4 hstep k' hk'
  have hin := inner_loop (scale := scale) (out := out) (need := need + (m + 2) + 3) (R := R) hn ul hL (by omega) rfl rfl rfl ⟨htop, bv1.2⟩ bv2 bu1 bu2 ⟨bu3.1, htop3⟩ ht0 ht9 hup hlo h3
  clear hUlow hUhigh hVlow hVhigh hlo htop3 h3 hstep hUdec hVdec hUl hUlen hVl hVlen lowS low hVS hlowP ht1 ht2 hub hVSp hz hvb hV0 hS hQ sum zero H
  have htq : t * limb v (m + 1) ≤ limb u (j + m + 1) + 10000 * limb u (j + m + 2) := by
    have e : t * (limb v m + 10000 * limb v (m + 1)) = t * limb v m + 10000 * (t * limb v (m + 1)) := by grind
    have h1 : 0 ≤ t * limb v m := Int.mul_nonneg ht0 bv2.1
    omega
  clear hup
  simp only [nat_div.l0]
  have g0 : (j : Int) ≥ 0 := by omega
  rw [if_pos g0]
  rw [w64n (a := (j : Int) + ((m + 2 : Nat) : Int)) (b := j + m + 2) (by omega) (by omega)]
  rw [w64n (a := ((j + m + 2 : Nat) : Int) - 1) (b := j + m + 1) (by omega) (by omega)]
  rw [w64n (a := ((m + 2 : Nat) : Int) - 1) (b := m + 1) (by omega) (by omega)]
  have g1 : (0 : Int) ≤ ((j + m + 2 : Nat) : Int) := by omega
  have g2 : ((j + m + 2 : Nat) : Int) < (u.length : Int) := by omega
  have g3 : (0 : Int) ≤ ((j + m + 1 : Nat) : Int) := by omega
  have g4 : ((j + m + 1 : Nat) : Int) < (u.length : Int) := by omega
  have g5 : (0 : Int) ≤ ((m + 1 : Nat) : Int) := by omega
  have g6 : ((m + 1 : Nat) : Int) < (v.length : Int) := by omega
  rw [if_pos g1]
  rw [if_pos g2]
  rw [if_pos g3]
  rw [if_pos g4]
  rw [if_pos g5]
  rw [if_pos g6]
  rw [rd_limb, rd_limb, rd_limb]
  generalize limb v (m + 1) = v1 at *
  generalize limb u (j + m + 2) = u3 at *
  generalize limb u (j + m + 1) = u2 at *
  have g7 : ¬ v1 = 0 := by omega
  rw [if_neg g7, w64 (x := u3 * 10000) (by omega) (by omega), w64 (x := u3 * 10000 + u2) (by omega) (by omega)]
  have hh0 : 0 ≤ u3 * 10000 + u2 := by omega
  rw [Int.tmod_eq_emod_of_nonneg hh0, Int.tdiv_eq_ediv_of_nonneg hh0]
  have hdm := Int.mul_ediv_add_emod (u3 * 10000 + u2) v1
  have hm0 := Int.emod_nonneg (u3 * 10000 + u2) (show v1 ≠ 0 by omega)
  have hm1 := Int.emod_lt_of_pos (u3 * 10000 + u2) (show 0 < v1 by omega)
  have hq0 : t ≤ (u3 * 10000 + u2) / v1 := by
    apply Int.le_ediv_of_mul_le (by omega)
    omega
  have hq1 : (u3 * 10000 + u2) / v1 ≤ 20000 := by
    have h1 : (u3 * 10000 + u2) / v1 < 20001 := by
      apply Int.ediv_lt_of_lt_mul (by omega)
      omega
    omega
  generalize (u3 * 10000 + u2) / v1 = q at *
  generalize (u3 * 10000 + u2) % v1 = rest at *
  rw [w64 (x := q) (by omega) (by omega)]
  refine hin 2 q rest k (by omega) (by omega) hm0 (by omega) hq0 hq1 ?_
  have e : v1 * q = q * v1 := Int.mul_comm _ _
  omega
end Go.Proofs.YtmkmldkfaehefaaDoor

end

section
set_option linter.unusedVariables false
namespace Go.Proofs.YtmkmldkfaehefaaDoor
open Go.RowKit Go.Proofs.YtmkmldkfaehefaaDoor.Pt Go.Proofs.YtmkmldkfaehefaaDoorW.PrintWords Go.Proofs.YtmkmldkfaehefaaDoorW.PrintLast Go.Proofs.YtmkmldkfaehefaaDoorW.PrintMore

theorem trim_same0 : ∀ (k : Nat) (l : List Int), Pt.nat_limbs_trim.l0 k l = Pn.nat_limbs_trim.l0 k l
  | 0, _ => rfl
  | k + 1, l => by simp only [Pt.nat_limbs_trim.l0, Pn.nat_limbs_trim.l0, trim_same0 k]
theorem trim_same (k : Nat) (l : List Int) : Pt.nat_limbs_trim.f k l = Pn.nat_limbs_trim.f k l := trim_same0 k l
theorem lim_nat {z : Int} (h : 0 ≤ z) : val (lim z.toNat) = z := by rw [val_lim]; omega
theorem short_tells {z s : Int} (hz : 0 ≤ z) (hs0 : 0 < s) (hs1 : s ≤ 10000) (hl : (lim z.toNat).length ≤ 17592186044416) : nat_short.f (lim z.toNat) s = some (lim (z / s).toNat, lim (z % s).toNat) := by
  unfold nat_short.f
  have h := short_law (ok_lim z.toNat) hs0 hs1
  rw [lim_nat hz] at h
  rw [if_pos ⟨limbsOk_of (ok_lim _), hl, hs0, hs1⟩, h.1, h.2]

theorem div_outer {v : List Int} {s : Int} {L m : Nat} {U0 : Int} (hv : Ok v) (hn : v.length = m + 2) (hL : L ≤ 1000000000) (hmL : m + 2 ≤ L) (htop : 5000 ≤ limb v (m + 1)) (hs0 : 0 < s) (hs1 : s ≤ 10000) :
    ∀ (j : Nat) (u out : List Int) (k : Nat), j * (m + 12) + L + 2 ≤ k → DivInv u v out j L m U0 → nat_div.l0 k [s] u v ((m + 2 : Nat) : Int) out ((j : Int) - 1) = some (lim (U0 / val v).toNat, lim (U0 % val v / s).toNat)
  | 0, u, out, k, hk, ⟨ou, oo, ul, ol, jl, low, sum, zero⟩ => by
    obtain ⟨k, rfl⟩ : ∃ m, k = m + 1 := ⟨k - 1, by omega⟩
    simp only [nat_div.l0]
    have g0 : ¬ ((0 : Nat) : Int) - 1 ≥ 0 := by omega
    rw [if_neg g0, trim_same, trim_same, trim_lim ou (by omega) (by omega), trim_lim oo (by omega) (by omega)]
    simp only [Option.bind_some]
    have g1 : (0 : Int) < (([s] : List Int).length : Int) := by simp
    have hb := val_bounds ou
    have hob := val_bounds oo
    have hrd : rd [s] 0 = s := rfl
    have hlen : (lim (val u).toNat).length ≤ 17592186044416 := by
      have : (lim (val u).toNat).length ≤ u.length := lim_len (by rw [Int.toNat_of_nonneg hb.1]; exact hb.2)
      omega
    rw [if_pos g1, hrd, short_tells hb.1 hs0 hs1 hlen]
    simp only [Option.bind_some]
    rw [Int.pow_zero, Int.mul_one] at low
    have e1 : U0 / val v = val out := by
      rw [← sum, Int.add_mul_ediv_left _ _ (by omega), Int.ediv_eq_zero_of_lt hb.1 low, Int.zero_add]
    have e2 : U0 % val v = val u := by
      rw [← sum, Int.add_mul_emod_self_left, Int.emod_eq_of_lt hb.1 low]
    rw [e1, e2]
  | j + 1, u, out, k, hk, inv => by
    rw [Nat.add_mul] at hk
    rw [show ((j + 1 : Nat) : Int) - 1 = (j : Int) by omega]
    exact div_round hv hn hL hmL htop inv (need := j * (m + 12) + L + 2) (fun u' out' k' hk' inv' => div_outer hv hn hL hmL htop hs0 hs1 j u' out' k' hk' inv') k (by omega)

theorem scale_top {t : Nat} (h0 : 1 ≤ t) (h1 : t < 10000) : 5000 ≤ t * (10000 / (t + 1)) := by
  have hd := Nat.div_add_mod 10000 (t + 1)
  have hr := Nat.mod_lt 10000 (show 0 < t + 1 by omega)
  generalize 10000 / (t + 1) = q at *
  generalize 10000 % (t + 1) = r at *
  have e : (t + 1) * q = t * q + q := by grind
  by_cases h5 : 5000 ≤ t
  · rcases Nat.eq_zero_or_pos q with rfl | hq
    · omega
    · have := Nat.mul_le_mul_left t hq
      omega
  · have hq2 : 2 ≤ q := by
      rcases (by omega : q = 0 ∨ q = 1 ∨ 2 ≤ q) with rfl | rfl | h
      · omega
      · omega
      · exact h
    obtain ⟨x, rfl⟩ : ∃ x, q = x + 2 := ⟨q - 2, by omega⟩
    obtain ⟨y, rfl⟩ : ∃ y, t = y + 1 := ⟨t - 1, by omega⟩
    have e2 : (y + 1) * (x + 2) = y * x + 2 * y + x + 2 := by grind
    have h3 : 0 ≤ y * x := Nat.zero_le _
    omega
theorem mul_same (k : Nat) (a b : List Int) : Pm.nat_mul.f k a b = Pn.nat_mul.f k a b := rfl

theorem div_tells (a b : Nat) (hb : 0 < b) (hla : (lim a).length ≤ 50000000) (hlb : (lim b).length ≤ 50000000) (k : Nat)
    (hk : ((lim a).length + 10) * ((lim b).length + 20) + ((lim a).length + 10) * 20 ≤ k) : nat_div.f k (lim a) (lim b) = some (lim (a / b), lim (a % b)) := by
  unfold nat_div.f nat_compare.f
  rw [Option.bind_some, cmpL_lim]
  by_cases hlt : a < b
  · rw [cmp_lt' (by omega), if_pos (by decide), Nat.div_eq_of_lt hlt, Nat.mod_eq_of_lt hlt, lim_zero]
  · have g0 : ¬ Lib.compareInt (a : Int) (b : Int) < 0 := by
      unfold Lib.compareInt
      rw [if_neg (by omega)]
      split <;> omega
    rw [if_neg g0]
    obtain ⟨r, x, hbx, hx0⟩ := lim_top (show b ≠ 0 by omega)
    have hob := ok_lim b
    have hvb := val_lim b
    rw [hbx] at hob hvb
    have hx := (ok_cons.1 (ok_append.1 hob).2).1
    have hr := val_bounds (ok_append.1 hob).1
    rw [val_snoc] at hvb
    have hlenb : (lim b).length = r.length + 1 := by rw [hbx]; simp
    have hlim : ∀ i : Nat, i = r.length → rd (lim b) (i : Int) = x := by
      rintro i rfl
      rw [rd_limb, hbx]
      simp [limb]
    by_cases h1 : ((lim b).length : Int) = 1
    · have g1 : (0 : Int) < ((lim b).length : Int) := by omega
      have hr0 : r = [] := List.length_eq_zero_iff.1 (by omega)
      subst hr0
      have hbv : x = b := by simpa [val] using hvb
      have := hlim 0 rfl
      rw [if_pos h1, if_pos g1]
      have hrd : rd (lim b) 0 = (b : Int) := by rw [← hbv]; exact this
      have hz : (0 : Int) ≤ (a : Int) := by omega
      have ha : lim (a : Int).toNat = lim a := by rw [Int.toNat_natCast]
      rw [hrd, ← ha, short_tells hz (by omega) (by omega) (by rw [ha]; omega)]
      rw [Option.bind_some]
      have e1 : ((a : Int) / (b : Int)).toNat = a / b := by rw [← Int.natCast_ediv, Int.toNat_natCast]
      have e2 : ((a : Int) % (b : Int)).toNat = a % b := by rw [← Int.natCast_emod, Int.toNat_natCast]
      rw [e1, e2]
    · rw [if_neg h1]
      obtain ⟨m, hm⟩ : ∃ m, r.length = m + 1 := ⟨r.length - 1, by omega⟩
      have hn : (lim b).length = m + 2 := by omega
      rw [w64n (a := ((lim b).length : Int) - 1) (b := m + 1) (by omega) (by omega)]
      have g1 : (0 : Int) ≤ ((m + 1 : Nat) : Int) := by omega
      have g2 : ((m + 1 : Nat) : Int) < ((lim b).length : Int) := by omega
      rw [if_pos g1]
      rw [if_pos g2]
      rw [hlim (m + 1) (by omega), w64 (x := x + 1) (by omega) (by omega)]
      have g3 : ¬ x + 1 = 0 := by omega
      rw [if_neg g3, Option.bind_some]
      have hsx := scale_top (t := x.toNat) (by omega) (by omega)
      have hsd : Int.tdiv 10000 (x + 1) = 10000 / (x + 1) := Int.tdiv_eq_ediv_of_nonneg (by decide)
      have hs0 : 1 ≤ (10000 : Int) / (x + 1) := Int.le_ediv_of_mul_le (by omega) (by omega)
      have hs1 : (10000 : Int) / (x + 1) ≤ 10000 := Int.ediv_le_self _ (by decide)
      have hs2 : (10000 : Int) / (x + 1) * (x + 1) ≤ 10000 := Int.ediv_mul_le _ (by omega)
      have hs3 : (5000 : Int) ≤ x * (10000 / (x + 1)) := by
        have e : ((x.toNat * (10000 / (x.toNat + 1)) : Nat) : Int) = x * (10000 / (x + 1)) := by
          rw [Int.natCast_mul, Int.natCast_ediv]
          have ex : (x.toNat : Int) = x := by omega
          rw [show ((x.toNat + 1 : Nat) : Int) = x + 1 by omega, ex]
          rfl
        omega
      rw [hsd, w64 (x := 10000 / (x + 1)) (by omega) (by omega)]
      generalize hs : (10000 : Int) / (x + 1) = s at *
      have hs9 : s ≤ 5000 := by
        have := Int.mul_le_mul_of_nonneg_left (show (2 : Int) ≤ x + 1 by omega) (show 0 ≤ s by omega)
        omega
      have oks : Ok [s] := ok_cons.2 ⟨⟨by omega, by omega⟩, ok_nil⟩
      have vals : val [s] = s := by simp [val]
      have hkA : (lim a).length * (1 + 4) + (lim a).length + 1 + 3 ≤ k := by
        have := Nat.mul_le_mul_left ((lim a).length + 10) (show 20 ≤ (lim b).length + 20 by omega)
        omega
      have hlen_le : (lim b).length ≤ (lim a).length := by
        rcases Nat.lt_or_ge (lim a).length (lim b).length with h | h
        · exfalso
          have h2 := lim_high a
          have h3 := lim_low (show b ≠ 0 by omega)
          have := pow_mono' (a := (lim a).length) (b := (lim b).length - 1) (by omega)
          omega
        · exact h
      have hkB : (lim b).length * (1 + 4) + (lim b).length + 1 + 3 ≤ k := by omega
      rw [mul_same, mul_same, mul_tells (ok_lim a) oks (by omega) (by simp) k (by simpa using hkA), mul_tells (ok_lim b) oks (by omega) (by simp) k (by simpa using hkB)]
      rw [Option.bind_some, Option.bind_some]
      rw [val_lim, val_lim, vals]
      -- the scaled numbers
      have hA0 : 0 ≤ (a : Int) * s := Int.mul_nonneg (by omega) (by omega)
      have hB0 : 0 ≤ (b : Int) * s := Int.mul_nonneg (by omega) (by omega)
      have hAlen : (lim ((a : Int) * s).toNat).length ≤ (lim a).length + 1 := by
        apply lim_len
        rw [Int.toNat_of_nonneg hA0, Int.pow_succ]
        have h2 := lim_high a
        have h3 : (a : Int) * s ≤ 10000 ^ (lim a).length * s := Int.mul_le_mul_of_nonneg_right (by omega) (by omega)
        have h4 : (10000 : Int) ^ (lim a).length * s < 10000 ^ (lim a).length * 10000 := Int.mul_lt_mul_of_pos_left (by omega) (pow_pos' _)
        omega
      have hBhi : (b : Int) * s < 10000 ^ (m + 2) := by
        have h2 : (b : Int) + 1 ≤ 10000 ^ (m + 1) * (x + 1) := by
          rw [← hvb, hm, Int.mul_add, Int.mul_one]
          rw [hm] at hr
          omega
        have h3 : ((b : Int) + 1) * s ≤ 10000 ^ (m + 1) * (x + 1) * s := Int.mul_le_mul_of_nonneg_right h2 (by omega)
        have h4 : (10000 : Int) ^ (m + 1) * (s * (x + 1)) ≤ 10000 ^ (m + 1) * 10000 := Int.mul_le_mul_of_nonneg_left hs2 (Int.le_of_lt (pow_pos' _))
        have e1 : (10000 : Int) ^ (m + 1) * (x + 1) * s = 10000 ^ (m + 1) * (s * (x + 1)) := by grind
        have e2 : ((b : Int) + 1) * s = b * s + s := by grind
        rw [Int.pow_succ 10000 (m + 1)]
        omega
      have hBlo : (10000 : Int) ^ (m + 1) * (x * s) ≤ b * s := by
        have h2 : 10000 ^ (m + 1) * x ≤ (b : Int) := by rw [← hvb, hm]; omega
        have h3 := Int.mul_le_mul_of_nonneg_right h2 (show 0 ≤ s by omega)
        have e : (10000 : Int) ^ (m + 1) * x * s = 10000 ^ (m + 1) * (x * s) := by grind
        omega
      have hvOk := ok_lim ((b : Int) * s).toNat
      have hvVal : val (lim ((b : Int) * s).toNat) = b * s := lim_nat hB0
      have hvLen : (lim ((b : Int) * s).toNat).length = m + 2 := by
        have h2 : (lim ((b : Int) * s).toNat).length ≤ m + 2 := lim_len (by rw [Int.toNat_of_nonneg hB0]; exact hBhi)
        rcases Nat.lt_or_ge (lim ((b : Int) * s).toNat).length (m + 2) with h | h
        · exfalso
          have h3 := (val_bounds hvOk).2
          rw [hvVal] at h3
          have h4 := pow_mono' (a := (lim ((b : Int) * s).toNat).length) (b := m + 1) (by omega)
          have h5 : (10000 : Int) ^ (m + 1) * 1 ≤ 10000 ^ (m + 1) * (x * s) := Int.mul_le_mul_of_nonneg_left (by omega) (Int.le_of_lt (pow_pos' _))
          omega
        · omega
      have htop : 5000 ≤ limb (lim ((b : Int) * s).toNat) (m + 1) := by
        have h2 := val_take_succ (lim ((b : Int) * s).toNat) (m + 1)
        rw [List.take_of_length_le (by omega), hvVal] at h2
        have h3 := (val_bounds (ok_take hvOk (m + 1))).2
        rw [List.length_take, hvLen, Nat.min_eq_left (by omega)] at h3
        have h4 : (10000 : Int) ^ (m + 1) * (x * s) < 10000 ^ (m + 1) * (limb (lim ((b : Int) * s).toNat) (m + 1) + 1) := by rw [Int.mul_add, Int.mul_one]; omega
        have := Int.lt_of_mul_lt_mul_left h4 (Int.le_of_lt (pow_pos' _))
        omega
      have hABlen : m + 2 ≤ (lim ((a : Int) * s).toNat).length := by
        rcases Nat.lt_or_ge (lim ((a : Int) * s).toNat).length (m + 2) with h | h
        · exfalso
          have h3 := (val_bounds (ok_lim ((a : Int) * s).toNat)).2
          rw [lim_nat hA0] at h3
          have h4 := pow_mono' (a := (lim ((a : Int) * s).toNat).length) (b := m + 1) (by omega)
          have h5 : (10000 : Int) ^ (m + 1) * 1 ≤ 10000 ^ (m + 1) * (x * s) := Int.mul_le_mul_of_nonneg_left (by omega) (Int.le_of_lt (pow_pos' _))
          have h6 : (b : Int) * s ≤ a * s := Int.mul_le_mul_of_nonneg_right (by omega) (by omega)
          omega
        · exact h
      have hAval := lim_nat hA0
      have hAok := ok_lim ((a : Int) * s).toNat
      have hAhi := (val_bounds hAok).2
      rw [hAval] at hAhi
      generalize lim ((a : Int) * s).toNat = A at *
      generalize lim ((b : Int) * s).toNat = B at *
      have g4 : A.length + ([0, 0] : List Int).length < 17592186044416 := by simp only [List.length_cons, List.length_nil]; omega
      rw [if_pos g4, Option.bind_some, Option.bind_some]
      have hAL : (A ++ [0, 0]).length = A.length + 2 := by simp
      rw [hAL, hvLen]
      rw [w64n (a := ((A.length + 2 : Nat) : Int) - ((m + 2 : Nat) : Int)) (b := A.length - m) (by omega) (by omega)]
      have g5 : (0 : Int) ≤ ((A.length - m : Nat) : Int) := by omega
      have g6 : ((A.length - m : Nat) : Int).toNat ≤ 35184372088832 := by omega
      rw [if_pos g5]
      rw [if_pos g6]
      rw [w64 (x := ((A.length - m : Nat) : Int) - 1) (by omega) (by omega), Int.toNat_natCast]
      have hkk : (A.length - m) * (m + 12) + (A.length + 2) + 2 ≤ k := by
        have h2 := Nat.mul_le_mul (show A.length - m ≤ (lim a).length + 10 by omega) (show m + 12 ≤ (lim b).length + 20 by omega)
        omega
      have hfin := div_outer (s := s) (L := A.length + 2) (m := m) (U0 := a * s) hvOk hvLen (by omega) (by omega) htop (by omega) (by omega) (A.length - m) (A ++ [0, 0]) (List.replicate (A.length - m) 0) k hkk
        ⟨ok_append.2 ⟨hAok, ok_cons.2 ⟨by omega, ok_cons.2 ⟨by omega, ok_nil⟩⟩⟩, ok_replicate _, hAL, by simp, by omega, ?_, ?_, ?_⟩
      · rw [hfin, hvVal]
        have e1 : (a : Int) * s / (b * s) = ((a / b : Nat) : Int) := by
          rw [Int.mul_ediv_mul_of_pos_left _ _ (by omega), Int.natCast_ediv]
        have e2 : (a : Int) * s % (b * s) / s = ((a % b : Nat) : Int) := by
          rw [Int.mul_comm (a : Int) s, Int.mul_comm (b : Int) s, Int.mul_emod_mul_of_pos _ _ (by omega), Int.mul_ediv_cancel_left _ (by omega), Int.natCast_emod]
        rw [e1, e2, Int.toNat_natCast, Int.toNat_natCast]
      · rw [val_append, hAval, hvVal]
        have ez : val [0, 0] = 0 := rfl
        rw [ez, Int.mul_zero, Int.add_zero]
        have h2 : (10000 : Int) ^ (m + 1) * 1 ≤ b * s := by
          have h5 : (10000 : Int) ^ (m + 1) * 1 ≤ 10000 ^ (m + 1) * (x * s) := Int.mul_le_mul_of_nonneg_left (by omega) (Int.le_of_lt (pow_pos' _))
          omega
        have h3 := Int.mul_le_mul_of_nonneg_right h2 (Int.le_of_lt (pow_pos' (A.length - m)))
        rw [Int.mul_one, ← Int.pow_add] at h3
        have h4 := pow_mono' (a := A.length) (b := m + 1 + (A.length - m)) (by omega)
        omega
      · rw [val_append, hAval, val_replicate]
        have ez : val [0, 0] = 0 := rfl
        rw [ez]
        omega
      · intro i hi
        simp only [limb, List.getD_eq_getElem?_getD, List.getElem?_replicate]
        split <;> rfl
end Go.Proofs.YtmkmldkfaehefaaDoor

end

section
set_option linter.unusedVariables false
namespace Go.Proofs.YtmkmldkfaehefaaDoor
open Go.RowKit Go.Proofs.YtmkmldkfaehefaaDoor.Pn Go.Proofs.YtmkmldkfaehefaaDoorW.PrintWords Go.Proofs.YtmkmldkfaehefaaDoorW.PrintLast Go.Proofs.YtmkmldkfaehefaaDoorW.PrintMore

theorem size_len (s : ByteArray) : s.size = s.data.toList.length := (Array.length_toList (xs := s.data)).symm
theorem bt_get (s : ByteArray) (i : Nat) (h : i < s.size) : ∃ c : UInt8, s.data.toList[i]? = some c ∧ bt s (i : Int) = c.toNat := by
  have hl : i < s.data.toList.length := by rw [← size_len]; exact h
  refine ⟨s.data.toList[i]'hl, List.getElem?_eq_getElem hl, ?_⟩
  unfold bt
  rw [dif_pos (by rw [Int.toNat_natCast]; exact h)]
  rfl

theorem may_loop (s : ByteArray) (hs : s.size ≤ 4611686018427387904) : ∀ (d i : Nat), i + d = s.size → ∀ k, d + 1 ≤ k → nat_May.l0 k s (s.size : Int) (i : Int) = some ((s.data.toList.drop i).all isDig)
  | 0, i, hi, k, hk => by
    obtain ⟨k, rfl⟩ : ∃ m, k = m + 1 := ⟨k - 1, by omega⟩
    simp only [nat_May.l0]
    rw [if_neg (by omega), List.drop_of_length_le (by rw [← size_len]; omega)]
    rfl
  | d + 1, i, hi, k, hk => by
    obtain ⟨k, rfl⟩ : ∃ m, k = m + 1 := ⟨k - 1, by omega⟩
    simp only [nat_May.l0]
    have g1 : (i : Int) < (s.size : Int) := by omega
    rw [if_pos g1, if_pos (by omega), if_pos g1]
    obtain ⟨c, hc, hb⟩ := bt_get s i (by omega)
    have hil : i < s.data.toList.length := by rw [← size_len]; omega
    have hcc : s.data.toList[i] = c := by
      rw [List.getElem?_eq_getElem hil] at hc
      exact Option.some.inj hc
    rw [hb, List.drop_eq_getElem_cons hil, hcc, List.all_cons, w64 (by omega) (by omega)]
    by_cases h1 : (c.toNat : Int) < 48
    · rw [if_pos h1]
      have : isDig c = false := by simp [isDig]; omega
      rw [this]; rfl
    · rw [if_neg h1]
      by_cases h2 : (c.toNat : Int) > 57
      · rw [if_pos h2]
        have : isDig c = false := by simp [isDig]; omega
        rw [this]; rfl
      · rw [if_neg h2]
        have : isDig c = true := by simp [isDig]; omega
        rw [this, Bool.true_and]
        have := may_loop s hs d (i + 1) (by omega) k (by omega)
        rw [show ((i : Int) + 1) = ((i + 1 : Nat) : Int) by omega]
        exact this
theorem may_tells (s : ByteArray) (hs : s.size ≤ 4611686018427387904) (k : Nat) (hk : s.size + 2 ≤ k) : nat_May.f k s = some (mayL s.data.toList) := by
  obtain ⟨k, rfl⟩ : ∃ m, k = m + 1 := ⟨k - 1, by omega⟩
  unfold nat_May.f
  rw [ByteArray.toList_eq]
  by_cases h0 : s.data.toList = []
  · rw [if_pos h0]
    simp only [nat_May.j0, if_true]
    rw [h0]
    rfl
  · have hpos : 0 < s.size := by
      rw [size_len]
      exact List.length_pos_iff.2 h0
    have g1 : (0 : Int) < (s.size : Int) := by omega
    rw [if_neg h0, if_pos g1]
    obtain ⟨c, hc, hb⟩ := bt_get s 0 hpos
    have hb' : bt s 0 = (c.toNat : Int) := hb
    have hhead : s.data.toList.head? = some c := by rw [← hc, List.head?_eq_getElem?]
    have hl := may_loop s hs s.size 0 (by omega) k (by omega)
    rw [List.drop_zero] at hl
    have hl' : nat_May.l0 k s (s.size : Int) 0 = some (s.data.toList.all isDig) := hl
    rw [hb']
    have hc48 : (c.toNat : Int) = 48 ↔ c = 48 := by
      constructor
      · intro h
        exact UInt8.toNat_inj.1 (by rw [show (48 : UInt8).toNat = 48 from rfl]; omega)
      · rintro rfl; rfl
    by_cases h1 : (c.toNat : Int) = 48
    · rw [if_pos h1]
      simp only [nat_May.j0]
      by_cases h2 : s.data.toList = [48]
      · rw [h2]
        rw [if_neg (by decide), hl', h2]
        rfl
      · have e : (s.data.toList != [48]) = true := by rw [bne_iff_ne]; exact h2
        rw [if_pos e]
        unfold mayL
        have : s.data.toList.head? = some 48 := by rw [hhead, hc48.1 h1]
        simp [h2, this]
    · rw [if_neg h1]
      simp only [nat_May.j0]
      rw [if_neg (by decide), hl']
      unfold mayL
      have : s.data.toList.head? ≠ some 48 := by rw [hhead]; intro e; exact h1 (hc48.2 (Option.some.inj e))
      simp [h0, this]

theorem atoi_f (s : ByteArray) (h1 : s.data.toList ≠ []) (h : s.data.toList.all isDig = true) (hn : s.size ≤ 4) : strconv_Atoi.f s = some ((num s.data.toList : Int), none) := by
  unfold strconv_Atoi.f
  have hlt := num_lt h
  have hle : 10 ^ s.data.toList.length ≤ 10 ^ 4 := Nat.pow_le_pow_right (by omega) (by rw [← size_len]; exact hn)
  rw [if_pos (by omega), atoi_digits h1 h, if_pos (by omega)]
theorem read_loop (N : Nat) : ∀ (m : Nat) (s : ByteArray), s.size = m → m ≤ 1000000000 → ∀ (out : List Int) (k : Nat), 2 * m + out.length + 3 ≤ k → out.length + m ≤ 1000000000 → Ok out → s.data.toList.all isDig = true →
    val out + 10000 ^ out.length * (num s.data.toList : Int) = N → nat_read.l0 k s out = some (lim N)
  | m, s, hs, hm, out, k, hk, hol, ho, hd, hv => by
    obtain ⟨k, rfl⟩ : ∃ m, k = m + 1 := ⟨k - 1, by omega⟩
    simp only [nat_read.l0]
    by_cases h0 : m = 0
    · have g1 : ¬ (s.size : Int) > 0 := by omega
      rw [if_neg g1, trim_lim ho (by omega) (by omega)]
      have hnil : s.data.toList = [] := by
        apply List.length_eq_zero_iff.1
        rw [← size_len]; omega
      rw [hnil, num_nil] at hv
      simp only [Int.natCast_zero, Int.mul_zero, Int.add_zero] at hv
      rw [hv]
      rfl
    · have g1 : (s.size : Int) > 0 := by omega
      have hmx : mx (wrap64 ((s.size : Int) - 4)) 0 = ((s.size - 4 : Nat) : Int) := by
        rw [w64 (by omega) (by omega)]
        unfold mx
        split <;> omega
      rw [if_pos g1, hmx]
      clear hmx
      have g2 : (0 : Int) ≤ ((s.size - 4 : Nat) : Int) := by omega
      have g3 : ((s.size - 4 : Nat) : Int) ≤ (s.size : Int) := by omega
      rw [if_pos g2, if_pos g3, Int.toNat_natCast]
      have hsz : (s.extract (s.size - 4) s.size).size = s.size - (s.size - 4) := by simp [ByteArray.size_extract]
      have hl1 : (s.extract (s.size - 4) s.size).data.toList = s.data.toList.drop (s.size - 4) := by
        rw [Lib.Pa.extract_drop s _ _ rfl]
      have hl2 : (s.extract 0 (s.size - 4)).data.toList = s.data.toList.take (s.size - 4) := Lib.Pa.extract_upto_list s _
      have hall : (s.data.toList.take (s.size - 4)).all isDig = true ∧ (s.data.toList.drop (s.size - 4)).all isDig = true := by
        rw [← Bool.and_eq_true, ← List.all_append, List.take_append_drop]
        exact hd
      have hne : s.data.toList.drop (s.size - 4) ≠ [] := by
        intro e
        have := congrArg List.length e
        rw [List.length_drop, ← size_len] at this
        simp at this
        omega
      rw [atoi_f _ (by rw [hl1]; exact hne) (by rw [hl1]; exact hall.2) (by omega)]
      simp only [Option.bind_some]
      have g4 : out.length < 17592186044416 := by omega
      rw [if_pos g4, hl1]
      have hnum := num_append (s.data.toList.take (s.size - 4)) (s.data.toList.drop (s.size - 4))
      rw [List.take_append_drop] at hnum
      have hlen : (s.data.toList.drop (s.size - 4)).length = s.size - (s.size - 4) := by rw [List.length_drop, ← size_len]
      have hlt := num_lt hall.2
      have hle : 10 ^ (s.data.toList.drop (s.size - 4)).length ≤ 10 ^ 4 := Nat.pow_le_pow_right (by omega) (by omega)
      have hkey : num s.data.toList = num (s.data.toList.take (s.size - 4)) * 10000 + num (s.data.toList.drop (s.size - 4)) := by
        rw [hnum, hlen]
        by_cases h4 : 4 ≤ s.size
        · rw [show s.size - (s.size - 4) = 4 by omega]
        · rw [show s.size - 4 = 0 by omega, List.take_zero, num_nil, Nat.zero_mul, Nat.zero_mul]
      have hes : (s.extract 0 (s.size - 4)).size = s.size - 4 := by rw [size_len, hl2, List.length_take, ← size_len]; omega
      refine read_loop N (s.size - 4) (s.extract 0 (s.size - 4)) hes (by omega) _ k (by rw [List.length_append]; simp only [List.length_cons, List.length_nil]; omega) (by rw [List.length_append]; simp only [List.length_cons, List.length_nil]; omega) (ok_snoc ho (by omega) (by omega)) (by rw [hl2]; exact hall.1) ?_
      rw [hl2, val_snoc, List.length_append, ← hv, hkey]
      simp only [List.length_cons, List.length_nil, Nat.zero_add, Int.pow_succ]
      generalize (10000 : Int) ^ out.length = p
      generalize num (s.data.toList.take (s.size - 4)) = a
      generalize num (s.data.toList.drop (s.size - 4)) = b
      generalize val out = v
      simp only [Int.natCast_add, Int.natCast_mul]
      grind
  termination_by m => m
  decreasing_by omega
theorem read_tells (s : ByteArray) (hs : s.size ≤ 400000000) (h : mayL s.data.toList = true) (k : Nat) (hk : 2 * s.size + 3 ≤ k) : nat_read.f k s = some (lim (num s.data.toList)) := by
  unfold nat_read.f
  refine read_loop _ s.size s rfl (by omega) [] k (by simp; omega) (by simp; omega) ok_nil (mayL_all h) (by simp [val])
end Go.Proofs.YtmkmldkfaehefaaDoor

end

section
set_option linter.unusedVariables false
namespace Go.Proofs.YtmkmldkfaehefaaDoor
open Go.Lib (decDigits)

/-- Four digits. -/
def pad4 (x : Int) : List UInt8 := List.replicate (4 - (Lib.itoa x).length) 48 ++ Lib.itoa x
def textR : List Int → List UInt8
  | [] => []
  | [x] => Lib.itoa x
  | x :: y :: r => textR (y :: r) ++ pad4 x
theorem upto_cons (n : Nat) : upto (n + 1) (n + 1) = (upto n n).map (· + 1) ++ [0] := by
  simp only [upto, List.map_map]
  rw [List.range_succ, List.map_append]
  congr 1
  · refine List.map_congr_left fun j hj => ?_
    have := List.mem_range.1 hj
    simp; omega
  · simp
theorem textL_R {l : List Int} (h : l ≠ []) : textL l = textR l := by
  unfold textL
  induction l with
  | nil => exact absurd rfl h
  | cons x r ih =>
    rw [if_neg (by simp), List.length_cons, upto_cons, List.flatMap_append]
    cases r with
    | nil => simp [upto, textR, piece, limb]
    | cons y r =>
      have ih' := ih (by simp)
      rw [if_neg (by simp)] at ih'
      rw [textR, ← ih', List.flatMap_map]
      congr 1
      · apply congrArg List.flatten
        refine List.map_congr_left fun i hi => ?_
        have e : limb (x :: y :: r) (i + 1) = limb (y :: r) i := by simp [limb]
        simp only [piece, e]
        simp
      · simp [piece, limb, pad4]
theorem dig4 {m : Nat} (h : m < 10000) : pad4 (m : Int) = [UInt8.ofNat (48 + m / 1000), UInt8.ofNat (48 + m / 100 % 10), UInt8.ofNat (48 + m / 10 % 10), UInt8.ofNat (48 + m % 10)] := by
  unfold pad4
  rw [Lib.itoa_nonneg]
  have z : (48 : UInt8) = UInt8.ofNat (48 + 0) := rfl
  by_cases h1 : m < 10
  · rw [dig_small h1, show m / 1000 = 0 by omega, show m / 100 % 10 = 0 by omega, show m / 10 % 10 = 0 by omega, show m % 10 = m by omega]
    rfl
  · rw [dig_big h1]
    by_cases h2 : m / 10 < 10
    · rw [dig_small h2, show m / 1000 = 0 by omega, show m / 100 % 10 = 0 by omega, show m / 10 % 10 = m / 10 by omega]
      rfl
    · rw [dig_big h2]
      by_cases h3 : m / 10 / 10 < 10
      · rw [dig_small h3, show m / 1000 = 0 by omega, show m / 100 % 10 = m / 10 / 10 by omega]
        rfl
      · rw [dig_big h3, dig_small (by omega : m / 10 / 10 / 10 < 10), show m / 1000 = m / 10 / 10 / 10 by omega, show m / 100 % 10 = m / 10 / 10 % 10 by omega]
        rfl
theorem dig_four {n : Nat} (h : 10000 ≤ n) : decDigits n = decDigits (n / 10000) ++ pad4 ((n % 10000 : Nat) : Int) := by
  rw [dig4 (by omega), dig_big (by omega : ¬ n < 10), dig_big (by omega : ¬ n / 10 < 10), dig_big (by omega : ¬ n / 10 / 10 < 10), dig_big (by omega : ¬ n / 10 / 10 / 10 < 10)]
  rw [show n / 10 / 10 / 10 / 10 = n / 10000 by omega, show n / 10 / 10 / 10 % 10 = n % 10000 / 1000 by omega, show n / 10 / 10 % 10 = n % 10000 / 100 % 10 by omega, show n / 10 % 10 = n % 10000 / 10 % 10 by omega, show n % 10 = n % 10000 % 10 by omega]
  simp
theorem textR_lim {n : Nat} (h : n ≠ 0) : textR (lim n) = decDigits n := by
  induction n using Nat.strongRecOn with
  | _ n ih =>
    rw [lim_pos h]
    by_cases h1 : n < 10000
    · rw [show n / 10000 = 0 by omega, lim_zero, textR, Lib.itoa_nonneg, Nat.mod_eq_of_lt h1]
    · have h2 : n / 10000 ≠ 0 := by omega
      have h3 := ih (n / 10000) (by omega) h2
      rw [dig_four (by omega), ← h3]
      obtain ⟨x, r, e⟩ : ∃ x r, lim (n / 10000) = x :: r := ⟨_, _, lim_pos h2⟩
      rw [e, textR]
theorem textL_lim (n : Nat) : textL (lim n) = decDigits n := by
  by_cases h : n = 0
  · subst h; rw [lim_zero, dig_small (by omega)]; rfl
  · rw [textL_R (fun e => h (lim_nil.1 e)), textR_lim h]
end Go.Proofs.YtmkmldkfaehefaaDoor

end

section
set_option linter.unusedVariables false
namespace Go.Proofs.YtmkmldkfaehefaaDoor
open Go.RowKit Go.Proofs.YtmkmldkfaehefaaDoorW.PrintWords Go.Proofs.YtmkmldkfaehefaaDoorW.PrintLast Go.Proofs.YtmkmldkfaehefaaDoorW.PrintMore

def mayB (s : ByteArray) : Bool := mayL s.data.toList
def numB (s : ByteArray) : Nat := num s.data.toList
def natB (n : Nat) : ByteArray := ⟨(Lib.decDigits n).toArray⟩
/-- How long a text may be here. -/
def sm (s : ByteArray) : Bool := decide (s.size ≤ 50000)
def lm (l : List Int) : Bool := decide (l.length ≤ 50000)
def canon (l : List Int) : Bool := decide (l = lim (val l).toNat)

theorem natB_list (n : Nat) : (natB n).data.toList = Lib.decDigits n := rfl
theorem mayB_natB (n : Nat) : mayB (natB n) = true := may_dig n
theorem numB_natB (n : Nat) : numB (natB n) = n := num_dig n
theorem natB_numB {s : ByteArray} (h : mayB s = true) : natB (numB s) = s := by
  unfold natB numB
  rw [dig_num h]
theorem lm_le {l : List Int} (h : lm l = true) : l.length ≤ 50000 := of_decide_eq_true h
theorem sm_le {s : ByteArray} (h : sm s = true) : s.size ≤ 50000 := of_decide_eq_true h
theorem ok_of {l : List Int} (h : limbsOk l = true) : Ok l := by
  intro x hx
  have := List.all_eq_true.1 h x hx
  simp at this
  exact this
theorem canon_eq {l : List Int} (h : canon l = true) : l = lim (val l).toNat := of_decide_eq_true h
theorem canon_lim (n : Nat) : canon (lim n) = true := by
  unfold canon
  rw [val_lim, Int.toNat_natCast]
  exact decide_eq_true rfl
theorem limbsOk_lim (n : Nat) : limbsOk (lim n) = true := limbsOk_of (ok_lim n)

def nat_May.f (a0 : ByteArray) : Option Bool := if sm a0 = true then some (mayB a0) else none
theorem nat_May.calls (a0 : ByteArray) (r : Bool) (w : World) (h : nat_May.f a0 = some r) :
    Calls Tryd.prog 37 #[.string a0] w fun e w' => e = .returned (.bool r) ∧ Below w.heap.size w w' := by
  unfold nat_May.f at h
  split at h
  · rename_i hp
    obtain rfl := Option.some.inj h
    have hs := sm_le hp
    refine (Pn.nat_May.calls (a0.size + 2) a0 _ w (may_tells a0 (by omega) _ (by omega))).mono ?_
    rintro e w' ⟨rfl, n, rfl⟩
    exact ⟨rfl, pw_below_drewN (Below.refl _ _) n⟩
  · cases h

def nat_read.f (a0 : ByteArray) : Option (List Int) := if (sm a0 && mayB a0) = true then some (lim (numB a0)) else none
theorem nat_read.calls (a0 : ByteArray) (r : List Int) (w : World) (h : nat_read.f a0 = some r) :
    Calls Tryd.prog 42 #[.string a0] w fun e w' => ∃ v0_ : Value, e = .returned (v0_) ∧ Kd.V (Kd.int .i64) 3 w' w.heap.size (fun k_ => (w.heap.size ≤ k_)) v0_ r ∧ Below w.heap.size w w' := by
  unfold nat_read.f at h
  split at h
  · rename_i hp
    obtain rfl := Option.some.inj h
    rw [Bool.and_eq_true] at hp
    have hs := sm_le hp.1
    exact Pn.nat_read.calls (2 * a0.size + 3) a0 _ w (read_tells a0 (by omega) hp.2 _ (Nat.le_refl _))
  · cases h

def nat_add.f (l0 l1 : List Int) (a2 : Int) : Option (List Int) := if (limbsOk l0 && limbsOk l1 && lm l0 && lm l1 && (decide (a2 = 1) || decide (a2 = -1)) && decide (0 ≤ val l0 + a2 * val l1)) = true then some (lim (val l0 + a2 * val l1).toNat) else none
theorem nat_add.calls (A0 : Option Addr) (c0 : Nat) (l0 : List Int) (A1 : Option Addr) (c1 : Nat) (l1 : List Int) (a2 : Int) (r : List Int) (w : World) (hr0 : Kd.C (Kd.int .i64) w A0 l0.length l0) (hc0 : l0.length ≤ c0) (hr1 : Kd.C (Kd.int .i64) w A1 l1.length l1) (hc1 : l1.length ≤ c1) (h : nat_add.f l0 l1 a2 = some r) :
    Calls Tryd.prog 39 #[.slice A0 l0.length c0, .slice A1 l1.length c1, .int .i64 a2] w fun e w' => ∃ v0_ : Value, e = .returned (v0_) ∧ Kd.V (Kd.int .i64) 3 w' w.heap.size (fun k_ => (w.heap.size ≤ k_)) v0_ r ∧ Below w.heap.size w w' := by
  unfold nat_add.f at h
  split at h
  · rename_i hp
    obtain rfl := Option.some.inj h
    simp only [Bool.and_eq_true, Bool.or_eq_true, decide_eq_true_eq] at hp
    obtain ⟨⟨⟨⟨⟨h1, h2⟩, h3⟩, h4⟩, h5⟩, h6⟩ := hp
    have h3' := lm_le h3
    have h4' := lm_le h4
    obtain ⟨k, hk⟩ : ∃ k : Nat, 300000000 ≤ k := ⟨_, Nat.le_refl _⟩
    exact Pn.nat_add.calls k A0 c0 l0 A1 c1 l1 a2 _ w hr0 hc0 hr1 hc1 (add_tells h5 (ok_of h1) (ok_of h2) (by omega) (by omega) h6 k hk)
  · cases h

def nat_mul.f (l0 l1 : List Int) : Option (List Int) := if (limbsOk l0 && limbsOk l1 && lm l0 && lm l1) = true then some (lim (val l0 * val l1).toNat) else none
theorem nat_mul.calls (A0 : Option Addr) (c0 : Nat) (l0 : List Int) (A1 : Option Addr) (c1 : Nat) (l1 : List Int) (r : List Int) (w : World) (hr0 : Kd.C (Kd.int .i64) w A0 l0.length l0) (hc0 : l0.length ≤ c0) (hr1 : Kd.C (Kd.int .i64) w A1 l1.length l1) (hc1 : l1.length ≤ c1) (h : nat_mul.f l0 l1 = some r) :
    Calls Tryd.prog 34 #[.slice A0 l0.length c0, .slice A1 l1.length c1] w fun e w' => ∃ v0_ : Value, e = .returned (v0_) ∧ Kd.V (Kd.int .i64) 3 w' w.heap.size (fun k_ => (w.heap.size ≤ k_)) v0_ r ∧ Below w.heap.size w w' := by
  unfold nat_mul.f at h
  split at h
  · rename_i hp
    obtain rfl := Option.some.inj h
    simp only [Bool.and_eq_true] at hp
    obtain ⟨⟨⟨h1, h2⟩, h3⟩, h4⟩ := hp
    have h3' := lm_le h3
    have h4' := lm_le h4
    exact Pn.nat_mul.calls _ A0 c0 l0 A1 c1 l1 _ w hr0 hc0 hr1 hc1 (mul_tells (ok_of h1) (ok_of h2) (by omega) (by omega) _ (Nat.le_refl _))
  · cases h

def nat_div.f (l0 l1 : List Int) : Option (List Int × List Int) := if (canon l0 && canon l1 && lm l0 && lm l1 && decide (val l1 ≠ 0)) = true then some (lim ((val l0).toNat / (val l1).toNat), lim ((val l0).toNat % (val l1).toNat)) else none
theorem nat_div.calls (P0_ : Nat → Prop) (A0 : Option Addr) (c0 : Nat) (l0 : List Int) (A1 : Option Addr) (c1 : Nat) (l1 : List Int) (r1 r2 : List Int) (w : World) (hs0 : Kd.V (Kd.int .i64) 3 w w.heap.size (fun k_ => P0_ k_) (.slice A0 l0.length c0) l0) (hr1 : Kd.C (Kd.int .i64) w A1 l1.length l1) (hc1 : l1.length ≤ c1) (h : nat_div.f l0 l1 = some (r1, r2)) :
    Calls Tryd.prog 38 #[.slice A0 l0.length c0, .slice A1 l1.length c1] w fun e w' => ∃ v0_ v1_ : Value, e = .returned (.tuple #[v0_, v1_]) ∧ Kd.V (Kd.int .i64) 3 w' w.heap.size (fun k_ => (P0_ k_ ∨ w.heap.size ≤ k_)) v0_ r1 ∧ Kd.V (Kd.int .i64) 3 w' w.heap.size (fun k_ => (P0_ k_ ∨ w.heap.size ≤ k_)) v1_ r2 ∧ Below w.heap.size w w' := by
  unfold nat_div.f at h
  split at h
  · rename_i hp
    simp only [Bool.and_eq_true, decide_eq_true_eq] at hp
    obtain ⟨⟨⟨⟨h1, h2⟩, h3⟩, h4⟩, h5⟩ := hp
    have h3' := lm_le h3
    have h4' := lm_le h4
    have e0 := canon_eq h1
    have e1 := canon_eq h2
    have h6 : 0 < (val l1).toNat := by
      rcases Nat.eq_zero_or_pos (val l1).toNat with e | e
      · rw [e, lim_zero] at e1
        rw [e1] at h5
        exact absurd rfl h5
      · exact e
    have ht := div_tells (val l0).toNat (val l1).toNat h6 (by rw [← e0]; omega) (by rw [← e1]; omega) _ (Nat.le_refl _)
    rw [← e0, ← e1] at ht
    rw [← ht] at h
    exact Pt.nat_div.calls _ P0_ A0 c0 l0 A1 c1 l1 r1 r2 w hs0 hr1 hc1 h
  · cases h
end Go.Proofs.YtmkmldkfaehefaaDoor

end

section
set_option linter.unusedVariables false
namespace Go.Proofs.YtmkmldkfaehefaaDoor
open Go.RowKit Go.Proofs.YtmkmldkfaehefaaDoorW.PrintWords Go.Proofs.YtmkmldkfaehefaaDoorW.PrintLast Go.Proofs.YtmkmldkfaehefaaDoorW.PrintMore

def strconv_Itoa.f (a0 : Int) : Option ByteArray := if -9223372036854775808 ≤ a0 ∧ a0 ≤ 9223372036854775807 then some (itoaB a0) else none
theorem strconv_Itoa.calls (a0 : Int) (r : ByteArray) (w : World) (hL_ : Laid w) (h : strconv_Itoa.f a0 = some r) :
    Calls Tryd.prog 32 #[.int .i64 a0] w fun e w' => e = .returned (.string r) ∧ Below w.heap.size w w' := by
  unfold strconv_Itoa.f at h
  split at h
  · rename_i hp
    obtain rfl := Option.some.inj h
    exact itoaB_calls a0 hp.1 hp.2 w hL_
  · cases h
end Go.Proofs.YtmkmldkfaehefaaDoor

end

-- Written by wip/pp.py of this place (over the kit's print) out of the translation.
section
namespace Go.Proofs.YtmkmldkfaehefaaDoor.Pr
open Go.RowKit Go.Proofs.YtmkmldkfaehefaaDoorW.PrintWords Go.Proofs.YtmkmldkfaehefaaDoorW.PrintLast Go.Proofs.YtmkmldkfaehefaaDoorW.PrintMore
attribute [local go_sem] max2_int min2_int max_two min_two max_three min_three max_four min_four   -- for this text's walks alone
set_option linter.unusedVariables false
set_option linter.unusedSimpArgs false

def errW : Option Int → Value
 | none => .nilIface
 | some c => .iface 0 (.int .i64 c)
theorem errW_none : errW none = .nilIface := rfl
theorem errW_some (c : Int) : errW (some c) = .iface 0 (.int .i64 c) := rfl

-- the values' own types

end Go.Proofs.YtmkmldkfaehefaaDoor.Pr

end

-- Written by wip/pp.py of this place (over the kit's print) out of the translation.
section
namespace Go.Proofs.YtmkmldkfaehefaaDoor.Pr
open Go.RowKit Go.Proofs.YtmkmldkfaehefaaDoorW.PrintWords Go.Proofs.YtmkmldkfaehefaaDoorW.PrintLast Go.Proofs.YtmkmldkfaehefaaDoorW.PrintMore
attribute [local go_sem] max2_int min2_int max_two min_two max_three min_three max_four min_four   -- for this text's walks alone
set_option linter.unusedVariables false
set_option linter.unusedSimpArgs false

-- walked by hand: function 37 (nat_May)

-- walked by hand: function 42 (nat_read)

def nat_both.j0 : Nat → ByteArray → ByteArray → Bool → Option (List Int × List Int × Bool)
 | 0, _, _, _ => none
 | k + 1, x0, x1, x14 => if x14 = true then (some (([] : List Int), ([] : List Int), false)) else ((nat_read.f x0).bind fun t103 => ((nat_read.f x1).bind fun t106 => (some (t103, t106, true))))
def nat_both.f (k : Nat) (a0 : ByteArray) (a1 : ByteArray) : Option (List Int × List Int × Bool) := (nat_May.f a0).bind fun t101 => (if t101 = true then ((nat_May.f a1).bind fun t102 => (nat_both.j0 k a0 a1 (!t102))) else (nat_both.j0 k a0 a1 true))
set_option maxHeartbeats 8000000 in
set_option maxRecDepth 100000 in
theorem nat_both.calls (k : Nat) (a0 : ByteArray) (a1 : ByteArray) (r1 : List Int) (r2 : List Int) (r3 : Bool) (w : World) (h : nat_both.f k a0 a1 = some (r1, r2, r3)) :
  Calls Tryd.prog 33 #[.string a0, .string a1] w fun e w' => ∃ v0_ v1_ : Value, e = .returned (.tuple #[v0_, v1_, .bool r3]) ∧ Kd.V (Kd.int .i64) 3 w' w.heap.size (fun k_ => (w.heap.size ≤ k_)) v0_ r1 ∧ Kd.V (Kd.int .i64) 3 w' w.heap.size (fun k_ => (w.heap.size ≤ k_)) v1_ r2 ∧ Below w.heap.size w w' := by
 have HB := Aside0.mk (Below.refl w.heap.size w)
 have H : ((nat_May.f a0).bind fun t101 => (if t101 = true then ((nat_May.f a1).bind fun t102 => (nat_both.j0 k a0 a1 (!t102))) else (nat_both.j0 k a0 a1 true))) = some (r1, r2, r3) := h
 clear h
 have HC3 := Aside0.mk H
 clear H
 go_enter Tryd.func33, Tryd.ntmps33
 go_upto_region 1 with (fail)
 go_cut [14] (fun v14 wc => ∃ (kq : Nat) (x14_2 : Bool), v14 = .bool x14_2 ∧ Aside0 (nat_both.j0 kq a0 a1 x14_2 = some (r1, r2, r3)) ∧ Aside0 (kq ≤ k) ∧ Aside0 (Below w.heap.size w wc))
 case first =>
  have H := HC3.out
  clear HC3
  replace H := Option.bind_eq_some_iff.mp H
  obtain ⟨t101, A40, H⟩ := H
  replace H : (if t101 = true then ((nat_May.f a1).bind fun t102 => (nat_both.j0 k a0 a1 (!t102))) else (nat_both.j0 k a0 a1 true)) = some (r1, r2, r3) := H
  have A4 := Aside0.mk A40
  clear A40
  by_cases c5 : t101 = true
  ·subst c5
   have H1 : ((nat_May.f a1).bind fun t102 => (nat_both.j0 k a0 a1 (!t102))) = some (r1, r2, r3) := by rw [if_pos rfl] at H; exact H
   clear H
   have H := H1
   clear H1
   replace H := Option.bind_eq_some_iff.mp H
   obtain ⟨t102, A60, H⟩ := H
   replace H : (nat_both.j0 k a0 a1 (!t102)) = some (r1, r2, r3) := H
   have A6 := Aside0.mk A60
   clear A60
   have H' := Aside0.mk H
   clear H
   go_wp2_with (first | ((with_reducible refine gate_callee (f := 37) rfl ?_); refine goesL_ (some 8) rfl rfl Tryd.func37 (by kernel_rfl) rfl #[.string a0] rfl (by (try simp only [List.map_toArray, List.map_cons, List.map_nil]); first | done | rfl | (simp only [List.length_drop, List.length_take]; rfl)) ?_; (with_reducible refine (nat_May.calls a0 true _ A4.out).mono ?_); rintro e w7 ⟨rfl, hb⟩; refine ⟨_, rfl, ?_⟩; have n0_ := Aside0.mk (below_step (by repeat (first | (with_reducible first | exact HB.out | apply below_alloc | apply pw_below_drewN | apply below_drew1) | exact HB.out)) hb); clear HB; have HB := n0_; clear n0_; (try clear hb); (try clear hb2); (try clear hk); (try clear hi)) | (go_at_call 37; (with_reducible refine (nat_May.calls a1 t102 _ A6.out).mono ?_); rintro e w8 ⟨rfl, hb⟩; have n0_ := Aside0.mk (below_step (by repeat (first | (with_reducible first | exact HB.out | apply below_alloc | apply pw_below_drewN | apply below_drew1) | exact HB.out)) hb); clear HB; have HB := n0_; clear n0_; (try clear hb); (try clear hb2); (try clear hk); (try clear hi)))
   go_meet
   case rel => exact ⟨_, (!t102), (by first | rfl | (simp; done) | (simp [*]; done)), H', ⟨by first | omega | exact Nat.le_refl _⟩, ⟨by repeat (first | (with_reducible first | exact HB.out | apply below_alloc | apply pw_below_drewN | apply below_drew1) | exact HB.out)⟩⟩
  ·replace c5 := Bool.eq_false_iff.mpr c5
   subst c5
   have H1 : (nat_both.j0 k a0 a1 true) = some (r1, r2, r3) := by rw [if_neg (show ¬ (false = true) by decide)] at H; exact H
   clear H
   have H := H1
   clear H1
   have H' := Aside0.mk H
   clear H
   go_wp2_with (first | ((with_reducible refine gate_callee (f := 37) rfl ?_); refine goesL_ (some 8) rfl rfl Tryd.func37 (by kernel_rfl) rfl #[.string a0] rfl (by (try simp only [List.map_toArray, List.map_cons, List.map_nil]); first | done | rfl | (simp only [List.length_drop, List.length_take]; rfl)) ?_; (with_reducible refine (nat_May.calls a0 false _ A4.out).mono ?_); rintro e w9 ⟨rfl, hb⟩; refine ⟨_, rfl, ?_⟩; have n0_ := Aside0.mk (below_step (by repeat (first | (with_reducible first | exact HB.out | apply below_alloc | apply pw_below_drewN | apply below_drew1) | exact HB.out)) hb); clear HB; have HB := n0_; clear n0_; (try clear hb); (try clear hb2); (try clear hk); (try clear hi)))
   go_meet
   case rel => exact ⟨_, (true), (by first | rfl | (simp; done) | (simp [*]; done)), H', ⟨by first | omega | exact Nat.le_refl _⟩, ⟨by repeat (first | (with_reducible first | exact HB.out | apply below_alloc | apply pw_below_drewN | apply below_drew1) | exact HB.out)⟩⟩
 case rest =>
  clear HC3
  try clear p2
  try clear c3
  try clear c5
  obtain ⟨kq, x14_2, rfl, HA, HJ2, HB⟩ := hcut
  cases kq with
  | zero => exact absurd HA.out (by simp [nat_both.j0])
  | succ kj2 =>
   have H := HA.out
   clear HA
   simp only [nat_both.j0] at H
   by_cases c10 : x14_2 = true
   ·subst c10
    have H1 : (some (([] : List Int), ([] : List Int), false)) = some (r1, r2, r3) := by rw [if_pos rfl] at H; exact H
    clear H
    have H := H1
    clear H1
    simp only [Option.some.injEq, Prod.mk.injEq] at H
    obtain ⟨rfl, rfl, rfl⟩ := H
    go_wp2
    go_ret3
    exact ⟨(.slice none 0 0), (.slice none 0 0), by first | rfl | (simp [errW_none, errW_some] <;> rfl) | (simp [*, errW_none, errW_some] <;> rfl), Kd.V_nil _ _ _ _ _, Kd.V_nil _ _ _ _ _, by repeat (first | (with_reducible first | exact HB.out | apply below_alloc | apply pw_below_drewN | apply below_drew1) | exact HB.out)⟩
   ·replace c10 := Bool.eq_false_iff.mpr c10
    subst c10
    have H1 : ((nat_read.f a0).bind fun t103 => ((nat_read.f a1).bind fun t106 => (some (t103, t106, true)))) = some (r1, r2, r3) := by rw [if_neg (show ¬ (false = true) by decide)] at H; exact H
    clear H
    have H := H1
    clear H1
    replace H := Option.bind_eq_some_iff.mp H
    obtain ⟨t103, A110, H⟩ := H
    replace H : ((nat_read.f a1).bind fun t106 => (some (t103, t106, true))) = some (r1, r2, r3) := H
    have A11 := Aside0.mk A110
    clear A110
    replace H := Option.bind_eq_some_iff.mp H
    obtain ⟨t106, A120, H⟩ := H
    replace H : (some (t103, t106, true)) = some (r1, r2, r3) := H
    have A12 := Aside0.mk A120
    clear A120
    simp only [Option.some.injEq, Prod.mk.injEq] at H
    obtain ⟨rfl, rfl, rfl⟩ := H
    go_wp2_with (first | ((with_reducible refine gate_callee (f := 42) rfl ?_); refine goesL_ (some 16) rfl rfl Tryd.func42 (by kernel_rfl) rfl #[.string a0] rfl (by (try simp only [List.map_toArray, List.map_cons, List.map_nil]); first | done | rfl | (simp only [List.length_drop, List.length_take]; rfl)) ?_; (with_reducible refine (nat_read.calls a0 t103 _ A11.out).mono ?_); rintro e w13 ⟨v104, rfl, ho0, hb⟩; refine ⟨_, rfl, ?_⟩; have n0_ := Aside0.mk (Kd.V_lower (Kd.V_mono (ok' := fun k_ => (w.heap.size ≤ k_)) ho0 (fun k_ hk_ => (Nat.le_trans (below_size (by repeat (first | (with_reducible first | exact HB.out | apply below_alloc | apply pw_below_drewN | apply below_drew1) | exact HB.out))) hk_))) (below_size (by repeat (first | (with_reducible first | exact HB.out | apply below_alloc | apply pw_below_drewN | apply below_drew1) | exact HB.out)))); have n1_ := Aside0.mk (below_step (by repeat (first | (with_reducible first | exact HB.out | apply below_alloc | apply pw_below_drewN | apply below_drew1) | exact HB.out)) hb); clear HB; have HO105 := n0_; have HB := n1_; clear n0_ n1_; (try clear hb); (try clear hb2); (try clear hk); (try clear hi); (try clear ho0)) | ((with_reducible refine gate_callee (f := 42) rfl ?_); refine goesL_ (some 18) rfl rfl Tryd.func42 (by kernel_rfl) rfl #[.string a1] rfl (by (try simp only [List.map_toArray, List.map_cons, List.map_nil]); first | done | rfl | (simp only [List.length_drop, List.length_take]; rfl)) ?_; (with_reducible refine (nat_read.calls a1 t106 _ A12.out).mono ?_); rintro e w14 ⟨v107, rfl, ho0, hb⟩; refine ⟨_, rfl, ?_⟩; have n0_ := Aside0.mk (Kd.V_below (by (with_reducible repeat (first | apply Kd.V_alloc | apply Kd.V_drewN | apply Kd.V_drew)); exact HO105.out) hb); have n1_ := Aside0.mk (Kd.V_lower (Kd.V_mono (ok' := fun k_ => (w.heap.size ≤ k_)) ho0 (fun k_ hk_ => (Nat.le_trans (below_size (by repeat (first | (with_reducible first | exact HB.out | apply below_alloc | apply pw_below_drewN | apply below_drew1) | exact HB.out))) hk_))) (below_size (by repeat (first | (with_reducible first | exact HB.out | apply below_alloc | apply pw_below_drewN | apply below_drew1) | exact HB.out)))); have n2_ := Aside0.mk (below_step (by repeat (first | (with_reducible first | exact HB.out | apply below_alloc | apply pw_below_drewN | apply below_drew1) | exact HB.out)) hb); clear HO105; clear HB; have HO105 := n0_; have HO108 := n1_; have HB := n2_; clear n0_ n1_ n2_; (try clear hb); (try clear hb2); (try clear hk); (try clear hi); (try clear ho0)))
    go_ret3
    exact ⟨_, _, by first | rfl | (simp [errW_none, errW_some] <;> rfl) | (simp [*, errW_none, errW_some] <;> rfl), by (with_reducible repeat (first | apply Kd.V_alloc | apply Kd.V_drewN | apply Kd.V_drew)); exact HO105.out, by (with_reducible repeat (first | apply Kd.V_alloc | apply Kd.V_drewN | apply Kd.V_drew)); exact HO108.out, by repeat (first | (with_reducible first | exact HB.out | apply below_alloc | apply pw_below_drewN | apply below_drew1) | exact HB.out)⟩

-- walked by hand: function 40 (nat_compare)

def nat_Cmp.f (k : Nat) (a0 : ByteArray) (a1 : ByteArray) : Option (Int) := (nat_both.f k a0 a1).bind fun bt109 => (if bt109.2.2 = true then ((nat_compare.f bt109.1 bt109.2.1).bind fun t116 => (some t116)) else (some 0))
set_option maxHeartbeats 8000000 in
set_option maxRecDepth 100000 in
theorem nat_Cmp.calls (k : Nat) (a0 : ByteArray) (a1 : ByteArray) (r : Int) (w : World) (h : nat_Cmp.f k a0 a1 = some r) :
  Calls Tryd.prog 31 #[.string a0, .string a1] w fun e w' => e = .returned (.int .i64 r) ∧ Below w.heap.size w w' := by
 have HB := Aside0.mk (Below.refl w.heap.size w)
 have H : ((nat_both.f k a0 a1).bind fun bt109 => (if bt109.2.2 = true then ((nat_compare.f bt109.1 bt109.2.1).bind fun t116 => (some t116)) else (some 0))) = some r := h
 clear h
 replace H := Option.bind_eq_some_iff.mp H
 obtain ⟨⟨t109, t112, t115⟩, A30, H⟩ := H
 replace H : (if t115 = true then ((nat_compare.f t109 t112).bind fun t116 => (some t116)) else (some 0)) = some r := H
 have A3 := Aside0.mk A30
 clear A30
 by_cases c4 : t115 = true
 ·subst c4
  have H1 : ((nat_compare.f t109 t112).bind fun t116 => (some t116)) = some r := by rw [if_pos rfl] at H; exact H
  clear H
  have H := H1
  clear H1
  replace H := Option.bind_eq_some_iff.mp H
  obtain ⟨t116, A50, H⟩ := H
  replace H : (some t116) = some r := H
  have A5 := Aside0.mk A50
  clear A50
  obtain rfl := Option.some.inj H
  go_enter Tryd.func31, Tryd.ntmps31
  go_wp2_with (first | ((with_reducible refine gate_callee (f := 33) rfl ?_); refine goesL_ (some 11) rfl rfl Tryd.func33 (by kernel_rfl) rfl #[.string a0, .string a1] rfl (by (try simp only [List.map_toArray, List.map_cons, List.map_nil]); first | done | rfl | (simp only [List.length_drop, List.length_take]; rfl)) ?_; (with_reducible refine (nat_both.calls k a0 a1 t109 t112 true _ A3.out).mono ?_); rintro e w6 ⟨v110, v113, rfl, ho0, ho1, hb⟩; refine ⟨_, rfl, ?_⟩; have n0_ := Aside0.mk (Kd.V_lower (Kd.V_mono (ok' := fun k_ => True) ho0 (fun k_ hk_ => trivial)) (below_size (by repeat (first | (with_reducible first | exact HB.out | apply below_alloc | apply pw_below_drewN | apply below_drew1) | exact HB.out)))); have n1_ := Aside0.mk (Kd.V_lower (Kd.V_mono (ok' := fun k_ => True) ho1 (fun k_ hk_ => trivial)) (below_size (by repeat (first | (with_reducible first | exact HB.out | apply below_alloc | apply pw_below_drewN | apply below_drew1) | exact HB.out)))); have n2_ := Aside0.mk (below_step (by repeat (first | (with_reducible first | exact HB.out | apply below_alloc | apply pw_below_drewN | apply below_drew1) | exact HB.out)) hb); clear HB; have HO111 := n0_; have HO114 := n1_; have HB := n2_; clear n0_ n1_ n2_; (try clear hb); (try clear hb2); (try clear hk); (try clear hi); (try clear ho0); (try clear ho1); obtain ⟨Ao7, co7, eo7⟩ := Kd.V_slice HO111.out; subst eo7; obtain ⟨Ao8, co8, eo8⟩ := Kd.V_slice HO114.out; subst eo8) | ((with_reducible refine gate_callee (f := 40) rfl ?_); refine goesL_ (some 19) rfl rfl Tryd.func40 (by kernel_rfl) rfl #[.slice Ao7 t109.length co7, .slice Ao8 t112.length co8] rfl (by (try simp only [List.map_toArray, List.map_cons, List.map_nil]); first | done | rfl | (simp only [List.length_drop, List.length_take]; rfl)) ?_; (with_reducible refine (nat_compare.calls _ _ t109 _ _ t112 t116 _ ?side1 ?side2 ?side3 ?side4 A5.out).mono ?_); (case side1 => repeat (first | exact (Kd.V_reads' HO111.out).2.2 | (with_reducible refine Kd.C_alloc ?_ _) | (with_reducible refine Kd.C_drewN ?_ _) | (with_reducible refine Kd.C_drew ?_))); (case side2 => exact (Kd.V_reads' HO111.out).2.1); (case side3 => repeat (first | exact (Kd.V_reads' HO114.out).2.2 | (with_reducible refine Kd.C_alloc ?_ _) | (with_reducible refine Kd.C_drewN ?_ _) | (with_reducible refine Kd.C_drew ?_))); (case side4 => exact (Kd.V_reads' HO114.out).2.1); rintro e w9 ⟨rfl, hb⟩; refine ⟨_, rfl, ?_⟩; have n0_ := Aside0.mk (Kd.V_below (by (with_reducible repeat (first | apply Kd.V_alloc | apply Kd.V_drewN | apply Kd.V_drew)); exact HO111.out) hb); have n1_ := Aside0.mk (Kd.V_below (by (with_reducible repeat (first | apply Kd.V_alloc | apply Kd.V_drewN | apply Kd.V_drew)); exact HO114.out) hb); have n2_ := Aside0.mk (below_step (by repeat (first | (with_reducible first | exact HB.out | apply below_alloc | apply pw_below_drewN | apply below_drew1) | exact HB.out)) hb); clear HO111; clear HO114; clear HB; have HO111 := n0_; have HO114 := n1_; have HB := n2_; clear n0_ n1_ n2_; (try clear hb); (try clear hb2); (try clear hk); (try clear hi)))
  go_ret
  exact ⟨by first | rfl | (simp [errW_none, errW_some] <;> rfl) | (simp [*, errW_none, errW_some] <;> rfl), by repeat (first | (with_reducible first | exact HB.out | apply below_alloc | apply pw_below_drewN | apply below_drew1) | exact HB.out)⟩
 ·replace c4 := Bool.eq_false_iff.mpr c4
  subst c4
  have H1 : (some 0) = some r := by rw [if_neg (show ¬ (false = true) by decide)] at H; exact H
  clear H
  have H := H1
  clear H1
  obtain rfl := Option.some.inj H
  go_enter Tryd.func31, Tryd.ntmps31
  go_wp2_with (first | ((with_reducible refine gate_callee (f := 33) rfl ?_); refine goesL_ (some 11) rfl rfl Tryd.func33 (by kernel_rfl) rfl #[.string a0, .string a1] rfl (by (try simp only [List.map_toArray, List.map_cons, List.map_nil]); first | done | rfl | (simp only [List.length_drop, List.length_take]; rfl)) ?_; (with_reducible refine (nat_both.calls k a0 a1 t109 t112 false _ A3.out).mono ?_); rintro e w10 ⟨v110, v113, rfl, ho0, ho1, hb⟩; refine ⟨_, rfl, ?_⟩; have n0_ := Aside0.mk (Kd.V_lower (Kd.V_mono (ok' := fun k_ => True) ho0 (fun k_ hk_ => trivial)) (below_size (by repeat (first | (with_reducible first | exact HB.out | apply below_alloc | apply pw_below_drewN | apply below_drew1) | exact HB.out)))); have n1_ := Aside0.mk (Kd.V_lower (Kd.V_mono (ok' := fun k_ => True) ho1 (fun k_ hk_ => trivial)) (below_size (by repeat (first | (with_reducible first | exact HB.out | apply below_alloc | apply pw_below_drewN | apply below_drew1) | exact HB.out)))); have n2_ := Aside0.mk (below_step (by repeat (first | (with_reducible first | exact HB.out | apply below_alloc | apply pw_below_drewN | apply below_drew1) | exact HB.out)) hb); clear HB; have HO111 := n0_; have HO114 := n1_; have HB := n2_; clear n0_ n1_ n2_; (try clear hb); (try clear hb2); (try clear hk); (try clear hi); (try clear ho0); (try clear ho1)))
  go_ret
  exact ⟨by first | rfl | (simp [errW_none, errW_some] <;> rfl) | (simp [*, errW_none, errW_some] <;> rfl), by repeat (first | (with_reducible first | exact HB.out | apply below_alloc | apply pw_below_drewN | apply below_drew1) | exact HB.out)⟩

-- walked by hand: function 35 (nat_limbs_text)

-- walked by hand: function 39 (nat_add)

def nat_Add.f (k : Nat) (a0 : ByteArray) (a1 : ByteArray) : Option (ByteArray) := (nat_both.f k a0 a1).bind fun bt117 => (if bt117.2.2 = true then ((nat_add.f bt117.1 bt117.2.1 1).bind fun t124 => ((nat_limbs_text.f t124).bind fun t127 => (some t127))) else (some (⟨#[]⟩ : ByteArray)))
set_option maxHeartbeats 8000000 in
set_option maxRecDepth 100000 in
theorem nat_Add.calls (k : Nat) (a0 : ByteArray) (a1 : ByteArray) (r : ByteArray) (w : World) (hL_ : Laid w) (h : nat_Add.f k a0 a1 = some r) :
  Calls Tryd.prog 29 #[.string a0, .string a1] w fun e w' => e = .returned (.string r) ∧ Below w.heap.size w w' := by
 have HLD := Aside0.mk hL_
 clear hL_
 have HB := Aside0.mk (Below.refl w.heap.size w)
 have H : ((nat_both.f k a0 a1).bind fun bt117 => (if bt117.2.2 = true then ((nat_add.f bt117.1 bt117.2.1 1).bind fun t124 => ((nat_limbs_text.f t124).bind fun t127 => (some t127))) else (some (⟨#[]⟩ : ByteArray)))) = some r := h
 clear h
 replace H := Option.bind_eq_some_iff.mp H
 obtain ⟨⟨t117, t120, t123⟩, A30, H⟩ := H
 replace H : (if t123 = true then ((nat_add.f t117 t120 1).bind fun t124 => ((nat_limbs_text.f t124).bind fun t127 => (some t127))) else (some (⟨#[]⟩ : ByteArray))) = some r := H
 have A3 := Aside0.mk A30
 clear A30
 by_cases c4 : t123 = true
 ·subst c4
  have H1 : ((nat_add.f t117 t120 1).bind fun t124 => ((nat_limbs_text.f t124).bind fun t127 => (some t127))) = some r := by rw [if_pos rfl] at H; exact H
  clear H
  have H := H1
  clear H1
  replace H := Option.bind_eq_some_iff.mp H
  obtain ⟨t124, A50, H⟩ := H
  replace H : ((nat_limbs_text.f t124).bind fun t127 => (some t127)) = some r := H
  have A5 := Aside0.mk A50
  clear A50
  replace H := Option.bind_eq_some_iff.mp H
  obtain ⟨t127, A60, H⟩ := H
  replace H : (some t127) = some r := H
  have A6 := Aside0.mk A60
  clear A60
  obtain rfl := Option.some.inj H
  go_enter Tryd.func29, Tryd.ntmps29
  go_wp2_with (first | ((with_reducible refine gate_callee (f := 33) rfl ?_); refine goesL_ (some 11) rfl rfl Tryd.func33 (by kernel_rfl) rfl #[.string a0, .string a1] rfl (by (try simp only [List.map_toArray, List.map_cons, List.map_nil]); first | done | rfl | (simp only [List.length_drop, List.length_take]; rfl)) ?_; (with_reducible refine (nat_both.calls k a0 a1 t117 t120 true _ A3.out).mono ?_); rintro e w7 ⟨v118, v121, rfl, ho0, ho1, hb⟩; refine ⟨_, rfl, ?_⟩; have n0_ := Aside0.mk (Kd.V_lower (Kd.V_mono (ok' := fun k_ => True) ho0 (fun k_ hk_ => trivial)) (below_size (by repeat (first | (with_reducible first | exact HB.out | apply below_alloc | apply pw_below_drewN | apply below_drew1) | exact HB.out)))); have n1_ := Aside0.mk (Kd.V_lower (Kd.V_mono (ok' := fun k_ => True) ho1 (fun k_ hk_ => trivial)) (below_size (by repeat (first | (with_reducible first | exact HB.out | apply below_alloc | apply pw_below_drewN | apply below_drew1) | exact HB.out)))); have n2_ := Aside0.mk (below_step (by repeat (first | (with_reducible first | exact HB.out | apply below_alloc | apply pw_below_drewN | apply below_drew1) | exact HB.out)) hb); clear HB; have HO119 := n0_; have HO122 := n1_; have HB := n2_; clear n0_ n1_ n2_; (try clear hb); (try clear hb2); (try clear hk); (try clear hi); (try clear ho0); (try clear ho1); obtain ⟨Ao8, co8, eo8⟩ := Kd.V_slice HO119.out; subst eo8; obtain ⟨Ao9, co9, eo9⟩ := Kd.V_slice HO122.out; subst eo9) | ((with_reducible refine gate_callee (f := 39) rfl ?_); refine goesL_ (some 19) rfl rfl Tryd.func39 (by kernel_rfl) rfl #[.slice Ao8 t117.length co8, .slice Ao9 t120.length co9, .int .i64 1] rfl (by (try simp only [List.map_toArray, List.map_cons, List.map_nil]); first | done | rfl | (simp only [List.length_drop, List.length_take]; rfl)) ?_; (with_reducible refine (nat_add.calls _ _ t117 _ _ t120 1 t124 _ ?side1 ?side2 ?side3 ?side4 A5.out).mono ?_); (case side1 => repeat (first | exact (Kd.V_reads' HO119.out).2.2 | (with_reducible refine Kd.C_alloc ?_ _) | (with_reducible refine Kd.C_drewN ?_ _) | (with_reducible refine Kd.C_drew ?_))); (case side2 => exact (Kd.V_reads' HO119.out).2.1); (case side3 => repeat (first | exact (Kd.V_reads' HO122.out).2.2 | (with_reducible refine Kd.C_alloc ?_ _) | (with_reducible refine Kd.C_drewN ?_ _) | (with_reducible refine Kd.C_drew ?_))); (case side4 => exact (Kd.V_reads' HO122.out).2.1); rintro e w10 ⟨v125, rfl, ho0, hb⟩; refine ⟨_, rfl, ?_⟩; have n0_ := Aside0.mk (Kd.V_below (by (with_reducible repeat (first | apply Kd.V_alloc | apply Kd.V_drewN | apply Kd.V_drew)); exact HO119.out) hb); have n1_ := Aside0.mk (Kd.V_below (by (with_reducible repeat (first | apply Kd.V_alloc | apply Kd.V_drewN | apply Kd.V_drew)); exact HO122.out) hb); have n2_ := Aside0.mk (Kd.V_lower (Kd.V_mono (ok' := fun k_ => True) ho0 (fun k_ hk_ => trivial)) (below_size (by repeat (first | (with_reducible first | exact HB.out | apply below_alloc | apply pw_below_drewN | apply below_drew1) | exact HB.out)))); have n3_ := Aside0.mk (below_step (by repeat (first | (with_reducible first | exact HB.out | apply below_alloc | apply pw_below_drewN | apply below_drew1) | exact HB.out)) hb); clear HO119; clear HO122; clear HB; have HO119 := n0_; have HO122 := n1_; have HO126 := n2_; have HB := n3_; clear n0_ n1_ n2_ n3_; (try clear hb); (try clear hb2); (try clear hk); (try clear hi); (try clear ho0); obtain ⟨Ao11, co11, eo11⟩ := Kd.V_slice HO126.out; subst eo11) | ((with_reducible refine gate_callee (f := 35) rfl ?_); refine goesL_ (some 20) rfl rfl Tryd.func35 (by kernel_rfl) rfl #[.slice Ao11 t124.length co11] rfl (by (try simp only [List.map_toArray, List.map_cons, List.map_nil]); first | done | rfl | (simp only [List.length_drop, List.length_take]; rfl)) ?_; (with_reducible refine (nat_limbs_text.calls _ _ t124 t127 _ ?side1 ?side2 ?side3 A6.out).mono ?_); (case side1 => repeat (first | exact (Kd.V_reads' HO126.out).2.2 | (with_reducible refine Kd.C_alloc ?_ _) | (with_reducible refine Kd.C_drewN ?_ _) | (with_reducible refine Kd.C_drew ?_))); (case side2 => exact (Kd.V_reads' HO126.out).2.1); (case side3 => exact Laid.below HLD.out (by repeat (first | (with_reducible first | exact HB.out | apply below_alloc | apply pw_below_drewN | apply below_drew1) | exact HB.out))); rintro e w12 ⟨rfl, hb⟩; refine ⟨_, rfl, ?_⟩; have n0_ := Aside0.mk (Kd.V_below (by (with_reducible repeat (first | apply Kd.V_alloc | apply Kd.V_drewN | apply Kd.V_drew)); exact HO119.out) hb); have n1_ := Aside0.mk (Kd.V_below (by (with_reducible repeat (first | apply Kd.V_alloc | apply Kd.V_drewN | apply Kd.V_drew)); exact HO122.out) hb); have n2_ := Aside0.mk (Kd.V_below (by (with_reducible repeat (first | apply Kd.V_alloc | apply Kd.V_drewN | apply Kd.V_drew)); exact HO126.out) hb); have n3_ := Aside0.mk (below_step (by repeat (first | (with_reducible first | exact HB.out | apply below_alloc | apply pw_below_drewN | apply below_drew1) | exact HB.out)) hb); clear HO119; clear HO122; clear HO126; clear HB; have HO119 := n0_; have HO122 := n1_; have HO126 := n2_; have HB := n3_; clear n0_ n1_ n2_ n3_; (try clear hb); (try clear hb2); (try clear hk); (try clear hi)))
  go_ret
  exact ⟨by first | rfl | (simp [errW_none, errW_some] <;> rfl) | (simp [*, errW_none, errW_some] <;> rfl), by repeat (first | (with_reducible first | exact HB.out | apply below_alloc | apply pw_below_drewN | apply below_drew1) | exact HB.out)⟩
 ·replace c4 := Bool.eq_false_iff.mpr c4
  subst c4
  have H1 : (some (⟨#[]⟩ : ByteArray)) = some r := by rw [if_neg (show ¬ (false = true) by decide)] at H; exact H
  clear H
  have H := H1
  clear H1
  obtain rfl := Option.some.inj H
  go_enter Tryd.func29, Tryd.ntmps29
  go_wp2_with (first | ((with_reducible refine gate_callee (f := 33) rfl ?_); refine goesL_ (some 11) rfl rfl Tryd.func33 (by kernel_rfl) rfl #[.string a0, .string a1] rfl (by (try simp only [List.map_toArray, List.map_cons, List.map_nil]); first | done | rfl | (simp only [List.length_drop, List.length_take]; rfl)) ?_; (with_reducible refine (nat_both.calls k a0 a1 t117 t120 false _ A3.out).mono ?_); rintro e w13 ⟨v118, v121, rfl, ho0, ho1, hb⟩; refine ⟨_, rfl, ?_⟩; have n0_ := Aside0.mk (Kd.V_lower (Kd.V_mono (ok' := fun k_ => True) ho0 (fun k_ hk_ => trivial)) (below_size (by repeat (first | (with_reducible first | exact HB.out | apply below_alloc | apply pw_below_drewN | apply below_drew1) | exact HB.out)))); have n1_ := Aside0.mk (Kd.V_lower (Kd.V_mono (ok' := fun k_ => True) ho1 (fun k_ hk_ => trivial)) (below_size (by repeat (first | (with_reducible first | exact HB.out | apply below_alloc | apply pw_below_drewN | apply below_drew1) | exact HB.out)))); have n2_ := Aside0.mk (below_step (by repeat (first | (with_reducible first | exact HB.out | apply below_alloc | apply pw_below_drewN | apply below_drew1) | exact HB.out)) hb); clear HB; have HO119 := n0_; have HO122 := n1_; have HB := n2_; clear n0_ n1_ n2_; (try clear hb); (try clear hb2); (try clear hk); (try clear hi); (try clear ho0); (try clear ho1)))
  go_ret
  exact ⟨by first | rfl | (simp [errW_none, errW_some] <;> rfl) | (simp [*, errW_none, errW_some] <;> rfl), by repeat (first | (with_reducible first | exact HB.out | apply below_alloc | apply pw_below_drewN | apply below_drew1) | exact HB.out)⟩

def nat_Sub.j0 : Nat → List Int → List Int → Bool → Option (ByteArray × Bool)
 | 0, _, _, _ => none
 | k + 1, x6, x7, x23 => if x23 = true then (some ((⟨#[]⟩ : ByteArray), false)) else ((nat_add.f x6 x7 (-1)).bind fun t136 => ((nat_limbs_text.f t136).bind fun t139 => (some (t139, true))))
def nat_Sub.f (k : Nat) (a0 : ByteArray) (a1 : ByteArray) : Option (ByteArray × Bool) := (nat_both.f k a0 a1).bind fun bt128 => (if bt128.2.2 = true then ((nat_compare.f bt128.1 bt128.2.1).bind fun t135 => (nat_Sub.j0 k bt128.1 bt128.2.1 (decide (t135 < 0)))) else (nat_Sub.j0 k bt128.1 bt128.2.1 true))
set_option maxHeartbeats 8000000 in
set_option maxRecDepth 100000 in
theorem nat_Sub.calls (k : Nat) (a0 : ByteArray) (a1 : ByteArray) (r1 : ByteArray) (r2 : Bool) (w : World) (hL_ : Laid w) (h : nat_Sub.f k a0 a1 = some (r1, r2)) :
  Calls Tryd.prog 30 #[.string a0, .string a1] w fun e w' => e = .returned (.tuple #[.string r1, .bool r2]) ∧ Below w.heap.size w w' := by
 have HLD := Aside0.mk hL_
 clear hL_
 have HB := Aside0.mk (Below.refl w.heap.size w)
 have H : ((nat_both.f k a0 a1).bind fun bt128 => (if bt128.2.2 = true then ((nat_compare.f bt128.1 bt128.2.1).bind fun t135 => (nat_Sub.j0 k bt128.1 bt128.2.1 (decide (t135 < 0)))) else (nat_Sub.j0 k bt128.1 bt128.2.1 true))) = some (r1, r2) := h
 clear h
 replace H := Option.bind_eq_some_iff.mp H
 obtain ⟨⟨t128, t131, t134⟩, A30, H⟩ := H
 replace H : (if t134 = true then ((nat_compare.f t128 t131).bind fun t135 => (nat_Sub.j0 k t128 t131 (decide (t135 < 0)))) else (nat_Sub.j0 k t128 t131 true)) = some (r1, r2) := H
 have A3 := Aside0.mk A30
 clear A30
 have HC4 := Aside0.mk H
 clear H
 go_enter Tryd.func30, Tryd.ntmps30
 go_upto_region 2 with (first | ((with_reducible refine gate_callee (f := 33) rfl ?_); refine goesL_ (some 12) rfl rfl Tryd.func33 (by kernel_rfl) rfl #[.string a0, .string a1] rfl (by (try simp only [List.map_toArray, List.map_cons, List.map_nil]); first | done | rfl | (simp only [List.length_drop, List.length_take]; rfl)) ?_; (with_reducible refine (nat_both.calls k a0 a1 t128 t131 t134 _ A3.out).mono ?_); rintro e w5 ⟨v129, v132, rfl, ho0, ho1, hb⟩; refine ⟨_, rfl, ?_⟩; have n0_ := Aside0.mk (Kd.V_lower (Kd.V_mono (ok' := fun k_ => True) ho0 (fun k_ hk_ => trivial)) (below_size (by repeat (first | (with_reducible first | exact HB.out | apply below_alloc | apply pw_below_drewN | apply below_drew1) | exact HB.out)))); have n1_ := Aside0.mk (Kd.V_lower (Kd.V_mono (ok' := fun k_ => True) ho1 (fun k_ hk_ => trivial)) (below_size (by repeat (first | (with_reducible first | exact HB.out | apply below_alloc | apply pw_below_drewN | apply below_drew1) | exact HB.out)))); have n2_ := Aside0.mk (below_step (by repeat (first | (with_reducible first | exact HB.out | apply below_alloc | apply pw_below_drewN | apply below_drew1) | exact HB.out)) hb); clear HB; have HO130 := n0_; have HO133 := n1_; have HB := n2_; clear n0_ n1_ n2_; (try clear hb); (try clear hb2); (try clear hk); (try clear hi); (try clear ho0); (try clear ho1)))
 (try simp only [Act.put, List.setIfInBounds_toArray, List.set_cons_zero, List.set_cons_succ])
 go_cut [23] (fun v23 wc => ∃ (kq : Nat) (x23_3 : Bool), v23 = .bool x23_3 ∧ Aside0 (nat_Sub.j0 kq t128 t131 x23_3 = some (r1, r2)) ∧ Aside0 (kq ≤ k) ∧ Aside0 (Kd.V (Kd.int .i64) 3 wc w.heap.size (fun _ => True) v129 t128) ∧ Aside0 (Kd.V (Kd.int .i64) 3 wc w.heap.size (fun _ => True) v132 t131) ∧ Aside0 (Below w.heap.size w wc))
 case first =>
  have H := HC4.out
  clear HC4
  by_cases c6 : t134 = true
  ·subst c6
   have H1 : ((nat_compare.f t128 t131).bind fun t135 => (nat_Sub.j0 k t128 t131 (decide (t135 < 0)))) = some (r1, r2) := by rw [if_pos rfl] at H; exact H
   clear H
   have H := H1
   clear H1
   replace H := Option.bind_eq_some_iff.mp H
   obtain ⟨t135, A70, H⟩ := H
   replace H : (nat_Sub.j0 k t128 t131 (decide (t135 < 0))) = some (r1, r2) := H
   have A7 := Aside0.mk A70
   clear A70
   have H' := Aside0.mk H
   clear H
   obtain ⟨Ao8, co8, eo8⟩ := Kd.V_slice HO130.out
   subst eo8
   obtain ⟨Ao9, co9, eo9⟩ := Kd.V_slice HO133.out
   subst eo9
   go_wp2_with (first | (go_at_call 40; (with_reducible refine (nat_compare.calls _ _ t128 _ _ t131 t135 _ ?side1 ?side2 ?side3 ?side4 A7.out).mono ?_); (case side1 => repeat (first | exact (Kd.V_reads' HO130.out).2.2 | (with_reducible refine Kd.C_alloc ?_ _) | (with_reducible refine Kd.C_drewN ?_ _) | (with_reducible refine Kd.C_drew ?_))); (case side2 => exact (Kd.V_reads' HO130.out).2.1); (case side3 => repeat (first | exact (Kd.V_reads' HO133.out).2.2 | (with_reducible refine Kd.C_alloc ?_ _) | (with_reducible refine Kd.C_drewN ?_ _) | (with_reducible refine Kd.C_drew ?_))); (case side4 => exact (Kd.V_reads' HO133.out).2.1); rintro e w10 ⟨rfl, hb⟩; have n0_ := Aside0.mk (Kd.V_below (by (with_reducible repeat (first | apply Kd.V_alloc | apply Kd.V_drewN | apply Kd.V_drew)); exact HO130.out) hb); have n1_ := Aside0.mk (Kd.V_below (by (with_reducible repeat (first | apply Kd.V_alloc | apply Kd.V_drewN | apply Kd.V_drew)); exact HO133.out) hb); have n2_ := Aside0.mk (below_step (by repeat (first | (with_reducible first | exact HB.out | apply below_alloc | apply pw_below_drewN | apply below_drew1) | exact HB.out)) hb); clear HO130; clear HO133; clear HB; have HO130 := n0_; have HO133 := n1_; have HB := n2_; clear n0_ n1_ n2_; (try clear hb); (try clear hb2); (try clear hk); (try clear hi)))
   go_meet
   case rel => exact ⟨_, (decide (t135 < 0)), (by first | rfl | (simp; done) | (simp [*]; done)), H', ⟨by first | omega | exact Nat.le_refl _⟩, ⟨by (with_reducible repeat (first | apply Kd.V_alloc | apply Kd.V_drewN | apply Kd.V_drew)); exact HO130.out⟩, ⟨by (with_reducible repeat (first | apply Kd.V_alloc | apply Kd.V_drewN | apply Kd.V_drew)); exact HO133.out⟩, ⟨by repeat (first | (with_reducible first | exact HB.out | apply below_alloc | apply pw_below_drewN | apply below_drew1) | exact HB.out)⟩⟩
  ·replace c6 := Bool.eq_false_iff.mpr c6
   subst c6
   have H1 : (nat_Sub.j0 k t128 t131 true) = some (r1, r2) := by rw [if_neg (show ¬ (false = true) by decide)] at H; exact H
   clear H
   have H := H1
   clear H1
   have H' := Aside0.mk H
   clear H
   go_wp2
   go_meet
   case rel => exact ⟨_, (true), (by first | rfl | (simp; done) | (simp [*]; done)), H', ⟨by first | omega | exact Nat.le_refl _⟩, ⟨by (with_reducible repeat (first | apply Kd.V_alloc | apply Kd.V_drewN | apply Kd.V_drew)); exact HO130.out⟩, ⟨by (with_reducible repeat (first | apply Kd.V_alloc | apply Kd.V_drewN | apply Kd.V_drew)); exact HO133.out⟩, ⟨by repeat (first | (with_reducible first | exact HB.out | apply below_alloc | apply pw_below_drewN | apply below_drew1) | exact HB.out)⟩⟩
 case rest =>
  clear HC4
  try clear p2
  try clear c3
  try clear c6
  obtain ⟨kq, x23_3, rfl, HA, HJ3, HO_6, HO_7, HB⟩ := hcut
  cases kq with
  | zero => exact absurd HA.out (by simp [nat_Sub.j0])
  | succ kj3 =>
   have H := HA.out
   clear HA
   simp only [nat_Sub.j0] at H
   by_cases c11 : x23_3 = true
   ·subst c11
    have H1 : (some ((⟨#[]⟩ : ByteArray), false)) = some (r1, r2) := by rw [if_pos rfl] at H; exact H
    clear H
    have H := H1
    clear H1
    simp only [Option.some.injEq, Prod.mk.injEq] at H
    obtain ⟨rfl, rfl⟩ := H
    go_wp2
    go_ret2
    exact ⟨by first | rfl | (simp [errW_none, errW_some] <;> rfl) | (simp [*, errW_none, errW_some] <;> rfl), by repeat (first | (with_reducible first | exact HB.out | apply below_alloc | apply pw_below_drewN | apply below_drew1) | exact HB.out)⟩
   ·replace c11 := Bool.eq_false_iff.mpr c11
    subst c11
    have H1 : ((nat_add.f t128 t131 (-1)).bind fun t136 => ((nat_limbs_text.f t136).bind fun t139 => (some (t139, true)))) = some (r1, r2) := by rw [if_neg (show ¬ (false = true) by decide)] at H; exact H
    clear H
    have H := H1
    clear H1
    replace H := Option.bind_eq_some_iff.mp H
    obtain ⟨t136, A120, H⟩ := H
    replace H : ((nat_limbs_text.f t136).bind fun t139 => (some (t139, true))) = some (r1, r2) := H
    have A12 := Aside0.mk A120
    clear A120
    replace H := Option.bind_eq_some_iff.mp H
    obtain ⟨t139, A130, H⟩ := H
    replace H : (some (t139, true)) = some (r1, r2) := H
    have A13 := Aside0.mk A130
    clear A130
    simp only [Option.some.injEq, Prod.mk.injEq] at H
    obtain ⟨rfl, rfl⟩ := H
    obtain ⟨Ao14, co14, eo14⟩ := Kd.V_slice HO_6.out
    subst eo14
    obtain ⟨Ao15, co15, eo15⟩ := Kd.V_slice HO_7.out
    subst eo15
    go_wp2_with (first | ((with_reducible refine gate_callee (f := 39) rfl ?_); refine goesL_ (some 26) rfl rfl Tryd.func39 (by kernel_rfl) rfl #[.slice Ao14 t128.length co14, .slice Ao15 t131.length co15, .int .i64 (-1)] rfl (by (try simp only [List.map_toArray, List.map_cons, List.map_nil]); first | done | rfl | (simp only [List.length_drop, List.length_take]; rfl)) ?_; (with_reducible refine (nat_add.calls _ _ t128 _ _ t131 (-1) t136 _ ?side1 ?side2 ?side3 ?side4 A12.out).mono ?_); (case side1 => repeat (first | exact (Kd.V_reads' HO_6.out).2.2 | (with_reducible refine Kd.C_alloc ?_ _) | (with_reducible refine Kd.C_drewN ?_ _) | (with_reducible refine Kd.C_drew ?_))); (case side2 => exact (Kd.V_reads' HO_6.out).2.1); (case side3 => repeat (first | exact (Kd.V_reads' HO_7.out).2.2 | (with_reducible refine Kd.C_alloc ?_ _) | (with_reducible refine Kd.C_drewN ?_ _) | (with_reducible refine Kd.C_drew ?_))); (case side4 => exact (Kd.V_reads' HO_7.out).2.1); rintro e w16 ⟨v137, rfl, ho0, hb⟩; refine ⟨_, rfl, ?_⟩; have n0_ := Aside0.mk (Kd.V_below (by (with_reducible repeat (first | apply Kd.V_alloc | apply Kd.V_drewN | apply Kd.V_drew)); exact HO_6.out) hb); have n1_ := Aside0.mk (Kd.V_below (by (with_reducible repeat (first | apply Kd.V_alloc | apply Kd.V_drewN | apply Kd.V_drew)); exact HO_7.out) hb); have n2_ := Aside0.mk (Kd.V_lower (Kd.V_mono (ok' := fun k_ => True) ho0 (fun k_ hk_ => trivial)) (below_size (by repeat (first | (with_reducible first | exact HB.out | apply below_alloc | apply pw_below_drewN | apply below_drew1) | exact HB.out)))); have n3_ := Aside0.mk (below_step (by repeat (first | (with_reducible first | exact HB.out | apply below_alloc | apply pw_below_drewN | apply below_drew1) | exact HB.out)) hb); clear HO_6; clear HO_7; clear HB; have HO_6 := n0_; have HO_7 := n1_; have HO138 := n2_; have HB := n3_; clear n0_ n1_ n2_ n3_; (try clear hb); (try clear hb2); (try clear hk); (try clear hi); (try clear ho0); obtain ⟨Ao17, co17, eo17⟩ := Kd.V_slice HO138.out; subst eo17) | ((with_reducible refine gate_callee (f := 35) rfl ?_); refine goesL_ (some 27) rfl rfl Tryd.func35 (by kernel_rfl) rfl #[.slice Ao17 t136.length co17] rfl (by (try simp only [List.map_toArray, List.map_cons, List.map_nil]); first | done | rfl | (simp only [List.length_drop, List.length_take]; rfl)) ?_; (with_reducible refine (nat_limbs_text.calls _ _ t136 t139 _ ?side1 ?side2 ?side3 A13.out).mono ?_); (case side1 => repeat (first | exact (Kd.V_reads' HO138.out).2.2 | (with_reducible refine Kd.C_alloc ?_ _) | (with_reducible refine Kd.C_drewN ?_ _) | (with_reducible refine Kd.C_drew ?_))); (case side2 => exact (Kd.V_reads' HO138.out).2.1); (case side3 => exact Laid.below HLD.out (by repeat (first | (with_reducible first | exact HB.out | apply below_alloc | apply pw_below_drewN | apply below_drew1) | exact HB.out))); rintro e w18 ⟨rfl, hb⟩; refine ⟨_, rfl, ?_⟩; have n0_ := Aside0.mk (Kd.V_below (by (with_reducible repeat (first | apply Kd.V_alloc | apply Kd.V_drewN | apply Kd.V_drew)); exact HO_6.out) hb); have n1_ := Aside0.mk (Kd.V_below (by (with_reducible repeat (first | apply Kd.V_alloc | apply Kd.V_drewN | apply Kd.V_drew)); exact HO_7.out) hb); have n2_ := Aside0.mk (Kd.V_below (by (with_reducible repeat (first | apply Kd.V_alloc | apply Kd.V_drewN | apply Kd.V_drew)); exact HO138.out) hb); have n3_ := Aside0.mk (below_step (by repeat (first | (with_reducible first | exact HB.out | apply below_alloc | apply pw_below_drewN | apply below_drew1) | exact HB.out)) hb); clear HO_6; clear HO_7; clear HO138; clear HB; have HO_6 := n0_; have HO_7 := n1_; have HO138 := n2_; have HB := n3_; clear n0_ n1_ n2_ n3_; (try clear hb); (try clear hb2); (try clear hk); (try clear hi)))
    go_ret2
    exact ⟨by first | rfl | (simp [errW_none, errW_some] <;> rfl) | (simp [*, errW_none, errW_some] <;> rfl), by repeat (first | (with_reducible first | exact HB.out | apply below_alloc | apply pw_below_drewN | apply below_drew1) | exact HB.out)⟩

-- walked by hand: function 34 (nat_mul)

def nat_Mul.f (k : Nat) (a0 : ByteArray) (a1 : ByteArray) : Option (ByteArray) := (nat_both.f k a0 a1).bind fun bt140 => (if bt140.2.2 = true then ((nat_mul.f bt140.1 bt140.2.1).bind fun t147 => ((nat_limbs_text.f t147).bind fun t150 => (some t150))) else (some (⟨#[]⟩ : ByteArray)))
set_option maxHeartbeats 8000000 in
set_option maxRecDepth 100000 in
theorem nat_Mul.calls (k : Nat) (a0 : ByteArray) (a1 : ByteArray) (r : ByteArray) (w : World) (hL_ : Laid w) (h : nat_Mul.f k a0 a1 = some r) :
  Calls Tryd.prog 26 #[.string a0, .string a1] w fun e w' => e = .returned (.string r) ∧ Below w.heap.size w w' := by
 have HLD := Aside0.mk hL_
 clear hL_
 have HB := Aside0.mk (Below.refl w.heap.size w)
 have H : ((nat_both.f k a0 a1).bind fun bt140 => (if bt140.2.2 = true then ((nat_mul.f bt140.1 bt140.2.1).bind fun t147 => ((nat_limbs_text.f t147).bind fun t150 => (some t150))) else (some (⟨#[]⟩ : ByteArray)))) = some r := h
 clear h
 replace H := Option.bind_eq_some_iff.mp H
 obtain ⟨⟨t140, t143, t146⟩, A30, H⟩ := H
 replace H : (if t146 = true then ((nat_mul.f t140 t143).bind fun t147 => ((nat_limbs_text.f t147).bind fun t150 => (some t150))) else (some (⟨#[]⟩ : ByteArray))) = some r := H
 have A3 := Aside0.mk A30
 clear A30
 by_cases c4 : t146 = true
 ·subst c4
  have H1 : ((nat_mul.f t140 t143).bind fun t147 => ((nat_limbs_text.f t147).bind fun t150 => (some t150))) = some r := by rw [if_pos rfl] at H; exact H
  clear H
  have H := H1
  clear H1
  replace H := Option.bind_eq_some_iff.mp H
  obtain ⟨t147, A50, H⟩ := H
  replace H : ((nat_limbs_text.f t147).bind fun t150 => (some t150)) = some r := H
  have A5 := Aside0.mk A50
  clear A50
  replace H := Option.bind_eq_some_iff.mp H
  obtain ⟨t150, A60, H⟩ := H
  replace H : (some t150) = some r := H
  have A6 := Aside0.mk A60
  clear A60
  obtain rfl := Option.some.inj H
  go_enter Tryd.func26, Tryd.ntmps26
  go_wp2_with (first | ((with_reducible refine gate_callee (f := 33) rfl ?_); refine goesL_ (some 11) rfl rfl Tryd.func33 (by kernel_rfl) rfl #[.string a0, .string a1] rfl (by (try simp only [List.map_toArray, List.map_cons, List.map_nil]); first | done | rfl | (simp only [List.length_drop, List.length_take]; rfl)) ?_; (with_reducible refine (nat_both.calls k a0 a1 t140 t143 true _ A3.out).mono ?_); rintro e w7 ⟨v141, v144, rfl, ho0, ho1, hb⟩; refine ⟨_, rfl, ?_⟩; have n0_ := Aside0.mk (Kd.V_lower (Kd.V_mono (ok' := fun k_ => True) ho0 (fun k_ hk_ => trivial)) (below_size (by repeat (first | (with_reducible first | exact HB.out | apply below_alloc | apply pw_below_drewN | apply below_drew1) | exact HB.out)))); have n1_ := Aside0.mk (Kd.V_lower (Kd.V_mono (ok' := fun k_ => True) ho1 (fun k_ hk_ => trivial)) (below_size (by repeat (first | (with_reducible first | exact HB.out | apply below_alloc | apply pw_below_drewN | apply below_drew1) | exact HB.out)))); have n2_ := Aside0.mk (below_step (by repeat (first | (with_reducible first | exact HB.out | apply below_alloc | apply pw_below_drewN | apply below_drew1) | exact HB.out)) hb); clear HB; have HO142 := n0_; have HO145 := n1_; have HB := n2_; clear n0_ n1_ n2_; (try clear hb); (try clear hb2); (try clear hk); (try clear hi); (try clear ho0); (try clear ho1); obtain ⟨Ao8, co8, eo8⟩ := Kd.V_slice HO142.out; subst eo8; obtain ⟨Ao9, co9, eo9⟩ := Kd.V_slice HO145.out; subst eo9) | ((with_reducible refine gate_callee (f := 34) rfl ?_); refine goesL_ (some 19) rfl rfl Tryd.func34 (by kernel_rfl) rfl #[.slice Ao8 t140.length co8, .slice Ao9 t143.length co9] rfl (by (try simp only [List.map_toArray, List.map_cons, List.map_nil]); first | done | rfl | (simp only [List.length_drop, List.length_take]; rfl)) ?_; (with_reducible refine (nat_mul.calls _ _ t140 _ _ t143 t147 _ ?side1 ?side2 ?side3 ?side4 A5.out).mono ?_); (case side1 => repeat (first | exact (Kd.V_reads' HO142.out).2.2 | (with_reducible refine Kd.C_alloc ?_ _) | (with_reducible refine Kd.C_drewN ?_ _) | (with_reducible refine Kd.C_drew ?_))); (case side2 => exact (Kd.V_reads' HO142.out).2.1); (case side3 => repeat (first | exact (Kd.V_reads' HO145.out).2.2 | (with_reducible refine Kd.C_alloc ?_ _) | (with_reducible refine Kd.C_drewN ?_ _) | (with_reducible refine Kd.C_drew ?_))); (case side4 => exact (Kd.V_reads' HO145.out).2.1); rintro e w10 ⟨v148, rfl, ho0, hb⟩; refine ⟨_, rfl, ?_⟩; have n0_ := Aside0.mk (Kd.V_below (by (with_reducible repeat (first | apply Kd.V_alloc | apply Kd.V_drewN | apply Kd.V_drew)); exact HO142.out) hb); have n1_ := Aside0.mk (Kd.V_below (by (with_reducible repeat (first | apply Kd.V_alloc | apply Kd.V_drewN | apply Kd.V_drew)); exact HO145.out) hb); have n2_ := Aside0.mk (Kd.V_lower (Kd.V_mono (ok' := fun k_ => True) ho0 (fun k_ hk_ => trivial)) (below_size (by repeat (first | (with_reducible first | exact HB.out | apply below_alloc | apply pw_below_drewN | apply below_drew1) | exact HB.out)))); have n3_ := Aside0.mk (below_step (by repeat (first | (with_reducible first | exact HB.out | apply below_alloc | apply pw_below_drewN | apply below_drew1) | exact HB.out)) hb); clear HO142; clear HO145; clear HB; have HO142 := n0_; have HO145 := n1_; have HO149 := n2_; have HB := n3_; clear n0_ n1_ n2_ n3_; (try clear hb); (try clear hb2); (try clear hk); (try clear hi); (try clear ho0); obtain ⟨Ao11, co11, eo11⟩ := Kd.V_slice HO149.out; subst eo11) | ((with_reducible refine gate_callee (f := 35) rfl ?_); refine goesL_ (some 20) rfl rfl Tryd.func35 (by kernel_rfl) rfl #[.slice Ao11 t147.length co11] rfl (by (try simp only [List.map_toArray, List.map_cons, List.map_nil]); first | done | rfl | (simp only [List.length_drop, List.length_take]; rfl)) ?_; (with_reducible refine (nat_limbs_text.calls _ _ t147 t150 _ ?side1 ?side2 ?side3 A6.out).mono ?_); (case side1 => repeat (first | exact (Kd.V_reads' HO149.out).2.2 | (with_reducible refine Kd.C_alloc ?_ _) | (with_reducible refine Kd.C_drewN ?_ _) | (with_reducible refine Kd.C_drew ?_))); (case side2 => exact (Kd.V_reads' HO149.out).2.1); (case side3 => exact Laid.below HLD.out (by repeat (first | (with_reducible first | exact HB.out | apply below_alloc | apply pw_below_drewN | apply below_drew1) | exact HB.out))); rintro e w12 ⟨rfl, hb⟩; refine ⟨_, rfl, ?_⟩; have n0_ := Aside0.mk (Kd.V_below (by (with_reducible repeat (first | apply Kd.V_alloc | apply Kd.V_drewN | apply Kd.V_drew)); exact HO142.out) hb); have n1_ := Aside0.mk (Kd.V_below (by (with_reducible repeat (first | apply Kd.V_alloc | apply Kd.V_drewN | apply Kd.V_drew)); exact HO145.out) hb); have n2_ := Aside0.mk (Kd.V_below (by (with_reducible repeat (first | apply Kd.V_alloc | apply Kd.V_drewN | apply Kd.V_drew)); exact HO149.out) hb); have n3_ := Aside0.mk (below_step (by repeat (first | (with_reducible first | exact HB.out | apply below_alloc | apply pw_below_drewN | apply below_drew1) | exact HB.out)) hb); clear HO142; clear HO145; clear HO149; clear HB; have HO142 := n0_; have HO145 := n1_; have HO149 := n2_; have HB := n3_; clear n0_ n1_ n2_ n3_; (try clear hb); (try clear hb2); (try clear hk); (try clear hi)))
  go_ret
  exact ⟨by first | rfl | (simp [errW_none, errW_some] <;> rfl) | (simp [*, errW_none, errW_some] <;> rfl), by repeat (first | (with_reducible first | exact HB.out | apply below_alloc | apply pw_below_drewN | apply below_drew1) | exact HB.out)⟩
 ·replace c4 := Bool.eq_false_iff.mpr c4
  subst c4
  have H1 : (some (⟨#[]⟩ : ByteArray)) = some r := by rw [if_neg (show ¬ (false = true) by decide)] at H; exact H
  clear H
  have H := H1
  clear H1
  obtain rfl := Option.some.inj H
  go_enter Tryd.func26, Tryd.ntmps26
  go_wp2_with (first | ((with_reducible refine gate_callee (f := 33) rfl ?_); refine goesL_ (some 11) rfl rfl Tryd.func33 (by kernel_rfl) rfl #[.string a0, .string a1] rfl (by (try simp only [List.map_toArray, List.map_cons, List.map_nil]); first | done | rfl | (simp only [List.length_drop, List.length_take]; rfl)) ?_; (with_reducible refine (nat_both.calls k a0 a1 t140 t143 false _ A3.out).mono ?_); rintro e w13 ⟨v141, v144, rfl, ho0, ho1, hb⟩; refine ⟨_, rfl, ?_⟩; have n0_ := Aside0.mk (Kd.V_lower (Kd.V_mono (ok' := fun k_ => True) ho0 (fun k_ hk_ => trivial)) (below_size (by repeat (first | (with_reducible first | exact HB.out | apply below_alloc | apply pw_below_drewN | apply below_drew1) | exact HB.out)))); have n1_ := Aside0.mk (Kd.V_lower (Kd.V_mono (ok' := fun k_ => True) ho1 (fun k_ hk_ => trivial)) (below_size (by repeat (first | (with_reducible first | exact HB.out | apply below_alloc | apply pw_below_drewN | apply below_drew1) | exact HB.out)))); have n2_ := Aside0.mk (below_step (by repeat (first | (with_reducible first | exact HB.out | apply below_alloc | apply pw_below_drewN | apply below_drew1) | exact HB.out)) hb); clear HB; have HO142 := n0_; have HO145 := n1_; have HB := n2_; clear n0_ n1_ n2_; (try clear hb); (try clear hb2); (try clear hk); (try clear hi); (try clear ho0); (try clear ho1)))
  go_ret
  exact ⟨by first | rfl | (simp [errW_none, errW_some] <;> rfl) | (simp [*, errW_none, errW_some] <;> rfl), by repeat (first | (with_reducible first | exact HB.out | apply below_alloc | apply pw_below_drewN | apply below_drew1) | exact HB.out)⟩

-- walked by hand: function 38 (nat_div)

def nat_Div.j0 : Nat → List Int → List Int → Bool → Option (ByteArray × ByteArray × Bool)
 | 0, _, _, _ => none
 | k + 1, x7, x8, x25 => if x25 = true then (some ((⟨#[]⟩ : ByteArray), (⟨#[]⟩ : ByteArray), false)) else ((nat_div.f x7 x8).bind fun bt158 => ((nat_limbs_text.f bt158.1).bind fun t164 => ((nat_limbs_text.f bt158.2).bind fun t165 => (some (t164, t165, true)))))
def nat_Div.f (k : Nat) (a0 : ByteArray) (a1 : ByteArray) : Option (ByteArray × ByteArray × Bool) := (nat_both.f k a0 a1).bind fun bt151 => (if bt151.2.2 = true then (nat_Div.j0 k bt151.1 bt151.2.1 ((bt151.2.1.length : Int) == 0)) else (nat_Div.j0 k bt151.1 bt151.2.1 true))
set_option maxHeartbeats 8000000 in
set_option maxRecDepth 100000 in
theorem nat_Div.calls (k : Nat) (a0 : ByteArray) (a1 : ByteArray) (r1 : ByteArray) (r2 : ByteArray) (r3 : Bool) (w : World) (hL_ : Laid w) (h : nat_Div.f k a0 a1 = some (r1, r2, r3)) :
  Calls Tryd.prog 28 #[.string a0, .string a1] w fun e w' => e = .returned (.tuple #[.string r1, .string r2, .bool r3]) ∧ Below w.heap.size w w' := by
 have HLD := Aside0.mk hL_
 clear hL_
 have HB := Aside0.mk (Below.refl w.heap.size w)
 have H : ((nat_both.f k a0 a1).bind fun bt151 => (if bt151.2.2 = true then (nat_Div.j0 k bt151.1 bt151.2.1 ((bt151.2.1.length : Int) == 0)) else (nat_Div.j0 k bt151.1 bt151.2.1 true))) = some (r1, r2, r3) := h
 clear h
 replace H := Option.bind_eq_some_iff.mp H
 obtain ⟨⟨t151, t154, t157⟩, A30, H⟩ := H
 replace H : (if t157 = true then (nat_Div.j0 k t151 t154 ((t154.length : Int) == 0)) else (nat_Div.j0 k t151 t154 true)) = some (r1, r2, r3) := H
 have A3 := Aside0.mk A30
 clear A30
 have HC4 := Aside0.mk H
 clear H
 go_enter Tryd.func28, Tryd.ntmps28
 go_upto_region 2 with (first | ((with_reducible refine gate_callee (f := 33) rfl ?_); refine goesL_ (some 15) rfl rfl Tryd.func33 (by kernel_rfl) rfl #[.string a0, .string a1] rfl (by (try simp only [List.map_toArray, List.map_cons, List.map_nil]); first | done | rfl | (simp only [List.length_drop, List.length_take]; rfl)) ?_; (with_reducible refine (nat_both.calls k a0 a1 t151 t154 t157 _ A3.out).mono ?_); rintro e w5 ⟨v152, v155, rfl, ho0, ho1, hb⟩; refine ⟨_, rfl, ?_⟩; have n0_ := Aside0.mk (Kd.V_lower (Kd.V_mono (ok' := fun k_ => True) ho0 (fun k_ hk_ => trivial)) (below_size (by repeat (first | (with_reducible first | exact HB.out | apply below_alloc | apply pw_below_drewN | apply below_drew1) | exact HB.out)))); have n1_ := Aside0.mk (Kd.V_lower (Kd.V_mono (ok' := fun k_ => True) ho1 (fun k_ hk_ => trivial)) (below_size (by repeat (first | (with_reducible first | exact HB.out | apply below_alloc | apply pw_below_drewN | apply below_drew1) | exact HB.out)))); have n2_ := Aside0.mk (below_step (by repeat (first | (with_reducible first | exact HB.out | apply below_alloc | apply pw_below_drewN | apply below_drew1) | exact HB.out)) hb); clear HB; have HO153 := n0_; have HO156 := n1_; have HB := n2_; clear n0_ n1_ n2_; (try clear hb); (try clear hb2); (try clear hk); (try clear hi); (try clear ho0); (try clear ho1)))
 (try simp only [Act.put, List.setIfInBounds_toArray, List.set_cons_zero, List.set_cons_succ])
 go_cut [25] (fun v25 wc => ∃ (kq : Nat) (x25_3 : Bool), v25 = .bool x25_3 ∧ Aside0 (nat_Div.j0 kq t151 t154 x25_3 = some (r1, r2, r3)) ∧ Aside0 (kq ≤ k) ∧ Aside0 (Kd.V (Kd.int .i64) 3 wc w.heap.size (fun _ => True) v152 t151) ∧ Aside0 (Kd.V (Kd.int .i64) 3 wc w.heap.size (fun _ => True) v155 t154) ∧ Aside0 (Below w.heap.size w wc))
 case first =>
  have H := HC4.out
  clear HC4
  by_cases c6 : t157 = true
  ·subst c6
   have H1 : (nat_Div.j0 k t151 t154 ((t154.length : Int) == 0)) = some (r1, r2, r3) := by rw [if_pos rfl] at H; exact H
   clear H
   have H := H1
   clear H1
   have H' := Aside0.mk H
   clear H
   obtain ⟨Ao7, co7, eo7⟩ := Kd.V_slice HO156.out
   subst eo7
   go_wp2
   go_meet
   case rel => exact ⟨_, (((t154.length : Int) == 0)), (by first | rfl | (simp; done) | (simp [*]; done)), H', ⟨by first | omega | exact Nat.le_refl _⟩, ⟨by (with_reducible repeat (first | apply Kd.V_alloc | apply Kd.V_drewN | apply Kd.V_drew)); exact HO153.out⟩, ⟨by (with_reducible repeat (first | apply Kd.V_alloc | apply Kd.V_drewN | apply Kd.V_drew)); exact HO156.out⟩, ⟨by repeat (first | (with_reducible first | exact HB.out | apply below_alloc | apply pw_below_drewN | apply below_drew1) | exact HB.out)⟩⟩
  ·replace c6 := Bool.eq_false_iff.mpr c6
   subst c6
   have H1 : (nat_Div.j0 k t151 t154 true) = some (r1, r2, r3) := by rw [if_neg (show ¬ (false = true) by decide)] at H; exact H
   clear H
   have H := H1
   clear H1
   have H' := Aside0.mk H
   clear H
   go_wp2
   go_meet
   case rel => exact ⟨_, (true), (by first | rfl | (simp; done) | (simp [*]; done)), H', ⟨by first | omega | exact Nat.le_refl _⟩, ⟨by (with_reducible repeat (first | apply Kd.V_alloc | apply Kd.V_drewN | apply Kd.V_drew)); exact HO153.out⟩, ⟨by (with_reducible repeat (first | apply Kd.V_alloc | apply Kd.V_drewN | apply Kd.V_drew)); exact HO156.out⟩, ⟨by repeat (first | (with_reducible first | exact HB.out | apply below_alloc | apply pw_below_drewN | apply below_drew1) | exact HB.out)⟩⟩
 case rest =>
  clear HC4
  try clear c2
  try clear p2
  try clear c3
  try clear c6
  obtain ⟨kq, x25_3, rfl, HA, HJ3, HO_7, HO_8, HB⟩ := hcut
  cases kq with
  | zero => exact absurd HA.out (by simp [nat_Div.j0])
  | succ kj3 =>
   have H := HA.out
   clear HA
   simp only [nat_Div.j0] at H
   by_cases c8 : x25_3 = true
   ·subst c8
    have H1 : (some ((⟨#[]⟩ : ByteArray), (⟨#[]⟩ : ByteArray), false)) = some (r1, r2, r3) := by rw [if_pos rfl] at H; exact H
    clear H
    have H := H1
    clear H1
    simp only [Option.some.injEq, Prod.mk.injEq] at H
    obtain ⟨rfl, rfl, rfl⟩ := H
    go_wp2
    go_ret3
    exact ⟨by first | rfl | (simp [errW_none, errW_some] <;> rfl) | (simp [*, errW_none, errW_some] <;> rfl), by repeat (first | (with_reducible first | exact HB.out | apply below_alloc | apply pw_below_drewN | apply below_drew1) | exact HB.out)⟩
   ·replace c8 := Bool.eq_false_iff.mpr c8
    subst c8
    have H1 : ((nat_div.f t151 t154).bind fun bt158 => ((nat_limbs_text.f bt158.1).bind fun t164 => ((nat_limbs_text.f bt158.2).bind fun t165 => (some (t164, t165, true))))) = some (r1, r2, r3) := by rw [if_neg (show ¬ (false = true) by decide)] at H; exact H
    clear H
    have H := H1
    clear H1
    replace H := Option.bind_eq_some_iff.mp H
    obtain ⟨⟨t158, t161⟩, A90, H⟩ := H
    replace H : ((nat_limbs_text.f t158).bind fun t164 => ((nat_limbs_text.f t161).bind fun t165 => (some (t164, t165, true)))) = some (r1, r2, r3) := H
    have A9 := Aside0.mk A90
    clear A90
    replace H := Option.bind_eq_some_iff.mp H
    obtain ⟨t164, A100, H⟩ := H
    replace H : ((nat_limbs_text.f t161).bind fun t165 => (some (t164, t165, true))) = some (r1, r2, r3) := H
    have A10 := Aside0.mk A100
    clear A100
    replace H := Option.bind_eq_some_iff.mp H
    obtain ⟨t165, A110, H⟩ := H
    replace H : (some (t164, t165, true)) = some (r1, r2, r3) := H
    have A11 := Aside0.mk A110
    clear A110
    simp only [Option.some.injEq, Prod.mk.injEq] at H
    obtain ⟨rfl, rfl, rfl⟩ := H
    obtain ⟨Ao12, co12, eo12⟩ := Kd.V_slice HO_7.out
    subst eo12
    obtain ⟨Ao13, co13, eo13⟩ := Kd.V_slice HO_8.out
    subst eo13
    go_wp2_with (first | ((with_reducible refine gate_callee (f := 38) rfl ?_); refine goesL_ (some 29) rfl rfl Tryd.func38 (by kernel_rfl) rfl #[.slice Ao12 t151.length co12, .slice Ao13 t154.length co13] rfl (by (try simp only [List.map_toArray, List.map_cons, List.map_nil]); first | done | rfl | (simp only [List.length_drop, List.length_take]; rfl)) ?_; (with_reducible refine (nat_div.calls (fun k_ => True) _ _ t151 _ _ t154 t158 t161 _ ?side1 ?side2 ?side3 A9.out).mono ?_); (case side1 => exact HO_7.out); (case side2 => repeat (first | exact (Kd.V_reads' HO_8.out).2.2 | (with_reducible refine Kd.C_alloc ?_ _) | (with_reducible refine Kd.C_drewN ?_ _) | (with_reducible refine Kd.C_drew ?_))); (case side3 => exact (Kd.V_reads' HO_8.out).2.1); rintro e w14 ⟨v159, v162, rfl, ho0, ho1, hb⟩; refine ⟨_, rfl, ?_⟩; have n0_ := Aside0.mk (Kd.V_below (by (with_reducible repeat (first | apply Kd.V_alloc | apply Kd.V_drewN | apply Kd.V_drew)); exact HO_7.out) hb); have n1_ := Aside0.mk (Kd.V_below (by (with_reducible repeat (first | apply Kd.V_alloc | apply Kd.V_drewN | apply Kd.V_drew)); exact HO_8.out) hb); have n2_ := Aside0.mk (Kd.V_lower (Kd.V_mono (ok' := fun k_ => True) ho0 (fun k_ hk_ => trivial)) (below_size (by repeat (first | (with_reducible first | exact HB.out | apply below_alloc | apply pw_below_drewN | apply below_drew1) | exact HB.out)))); have n3_ := Aside0.mk (Kd.V_lower (Kd.V_mono (ok' := fun k_ => True) ho1 (fun k_ hk_ => trivial)) (below_size (by repeat (first | (with_reducible first | exact HB.out | apply below_alloc | apply pw_below_drewN | apply below_drew1) | exact HB.out)))); have n4_ := Aside0.mk (below_step (by repeat (first | (with_reducible first | exact HB.out | apply below_alloc | apply pw_below_drewN | apply below_drew1) | exact HB.out)) hb); clear HO_7; clear HO_8; clear HB; have HO_7 := n0_; have HO_8 := n1_; have HO160 := n2_; have HO163 := n3_; have HB := n4_; clear n0_ n1_ n2_ n3_ n4_; (try clear hb); (try clear hb2); (try clear hk); (try clear hi); (try clear ho0); (try clear ho1); obtain ⟨Ao15, co15, eo15⟩ := Kd.V_slice HO160.out; subst eo15) | ((with_reducible refine gate_callee (f := 35) rfl ?_); refine goesL_ (some 33) rfl rfl Tryd.func35 (by kernel_rfl) rfl #[.slice Ao15 t158.length co15] rfl (by (try simp only [List.map_toArray, List.map_cons, List.map_nil]); first | done | rfl | (simp only [List.length_drop, List.length_take]; rfl)) ?_; (with_reducible refine (nat_limbs_text.calls _ _ t158 t164 _ ?side1 ?side2 ?side3 A10.out).mono ?_); (case side1 => repeat (first | exact (Kd.V_reads' HO160.out).2.2 | (with_reducible refine Kd.C_alloc ?_ _) | (with_reducible refine Kd.C_drewN ?_ _) | (with_reducible refine Kd.C_drew ?_))); (case side2 => exact (Kd.V_reads' HO160.out).2.1); (case side3 => exact Laid.below HLD.out (by repeat (first | (with_reducible first | exact HB.out | apply below_alloc | apply pw_below_drewN | apply below_drew1) | exact HB.out))); rintro e w16 ⟨rfl, hb⟩; refine ⟨_, rfl, ?_⟩; have n0_ := Aside0.mk (Kd.V_below (by (with_reducible repeat (first | apply Kd.V_alloc | apply Kd.V_drewN | apply Kd.V_drew)); exact HO_7.out) hb); have n1_ := Aside0.mk (Kd.V_below (by (with_reducible repeat (first | apply Kd.V_alloc | apply Kd.V_drewN | apply Kd.V_drew)); exact HO_8.out) hb); have n2_ := Aside0.mk (Kd.V_below (by (with_reducible repeat (first | apply Kd.V_alloc | apply Kd.V_drewN | apply Kd.V_drew)); exact HO160.out) hb); have n3_ := Aside0.mk (Kd.V_below (by (with_reducible repeat (first | apply Kd.V_alloc | apply Kd.V_drewN | apply Kd.V_drew)); exact HO163.out) hb); have n4_ := Aside0.mk (below_step (by repeat (first | (with_reducible first | exact HB.out | apply below_alloc | apply pw_below_drewN | apply below_drew1) | exact HB.out)) hb); clear HO_7; clear HO_8; clear HO160; clear HO163; clear HB; have HO_7 := n0_; have HO_8 := n1_; have HO160 := n2_; have HO163 := n3_; have HB := n4_; clear n0_ n1_ n2_ n3_ n4_; (try clear hb); (try clear hb2); (try clear hk); (try clear hi); obtain ⟨Ao17, co17, eo17⟩ := Kd.V_slice HO163.out; subst eo17) | ((with_reducible refine gate_callee (f := 35) rfl ?_); refine goesL_ (some 35) rfl rfl Tryd.func35 (by kernel_rfl) rfl #[.slice Ao17 t161.length co17] rfl (by (try simp only [List.map_toArray, List.map_cons, List.map_nil]); first | done | rfl | (simp only [List.length_drop, List.length_take]; rfl)) ?_; (with_reducible refine (nat_limbs_text.calls _ _ t161 t165 _ ?side1 ?side2 ?side3 A11.out).mono ?_); (case side1 => repeat (first | exact (Kd.V_reads' HO163.out).2.2 | (with_reducible refine Kd.C_alloc ?_ _) | (with_reducible refine Kd.C_drewN ?_ _) | (with_reducible refine Kd.C_drew ?_))); (case side2 => exact (Kd.V_reads' HO163.out).2.1); (case side3 => exact Laid.below HLD.out (by repeat (first | (with_reducible first | exact HB.out | apply below_alloc | apply pw_below_drewN | apply below_drew1) | exact HB.out))); rintro e w18 ⟨rfl, hb⟩; refine ⟨_, rfl, ?_⟩; have n0_ := Aside0.mk (Kd.V_below (by (with_reducible repeat (first | apply Kd.V_alloc | apply Kd.V_drewN | apply Kd.V_drew)); exact HO_7.out) hb); have n1_ := Aside0.mk (Kd.V_below (by (with_reducible repeat (first | apply Kd.V_alloc | apply Kd.V_drewN | apply Kd.V_drew)); exact HO_8.out) hb); have n2_ := Aside0.mk (Kd.V_below (by (with_reducible repeat (first | apply Kd.V_alloc | apply Kd.V_drewN | apply Kd.V_drew)); exact HO160.out) hb); have n3_ := Aside0.mk (Kd.V_below (by (with_reducible repeat (first | apply Kd.V_alloc | apply Kd.V_drewN | apply Kd.V_drew)); exact HO163.out) hb); have n4_ := Aside0.mk (below_step (by repeat (first | (with_reducible first | exact HB.out | apply below_alloc | apply pw_below_drewN | apply below_drew1) | exact HB.out)) hb); clear HO_7; clear HO_8; clear HO160; clear HO163; clear HB; have HO_7 := n0_; have HO_8 := n1_; have HO160 := n2_; have HO163 := n3_; have HB := n4_; clear n0_ n1_ n2_ n3_ n4_; (try clear hb); (try clear hb2); (try clear hk); (try clear hi)))
    go_ret3
    exact ⟨by first | rfl | (simp [errW_none, errW_some] <;> rfl) | (simp [*, errW_none, errW_some] <;> rfl), by repeat (first | (with_reducible first | exact HB.out | apply below_alloc | apply pw_below_drewN | apply below_drew1) | exact HB.out)⟩

end Go.Proofs.YtmkmldkfaehefaaDoor.Pr

end

-- Written by wip/pp.py of this place (over the kit's print) out of the translation.
section
namespace Go.Proofs.YtmkmldkfaehefaaDoor.Pr
open Go.RowKit Go.Proofs.YtmkmldkfaehefaaDoorW.PrintWords Go.Proofs.YtmkmldkfaehefaaDoorW.PrintLast Go.Proofs.YtmkmldkfaehefaaDoorW.PrintMore
attribute [local go_sem] max2_int min2_int max_two min_two max_three min_three max_four min_four   -- for this text's walks alone
set_option linter.unusedVariables false
set_option linter.unusedSimpArgs false

end Go.Proofs.YtmkmldkfaehefaaDoor.Pr

end

section
set_option linter.unusedVariables false
namespace Go.Proofs.YtmkmldkfaehefaaDoor
open Go.RowKit Go.Proofs.YtmkmldkfaehefaaDoorW.PrintWords Go.Proofs.YtmkmldkfaehefaaDoorW.PrintLast Go.Proofs.YtmkmldkfaehefaaDoorW.PrintMore

/-- The empty text. -/
def noB : ByteArray := ⟨#[]⟩
def may2 (a b : ByteArray) : Bool := mayB a && mayB b
def sm2 (a b : ByteArray) : Bool := sm a && sm b
def addS (a b : ByteArray) : ByteArray := if may2 a b = true then natB (numB a + numB b) else noB
def subS (a b : ByteArray) : ByteArray × Bool := if (may2 a b && decide (numB b ≤ numB a)) = true then (natB (numB a - numB b), true) else (noB, false)
def mulS (a b : ByteArray) : ByteArray := if may2 a b = true then natB (numB a * numB b) else noB
def divS (a b : ByteArray) : ByteArray × ByteArray × Bool := if (may2 a b && decide (numB b ≠ 0)) = true then (natB (numB a / numB b), natB (numB a % numB b), true) else (noB, noB, false)
def cmpS (a b : ByteArray) : Int := if may2 a b = true then Lib.compareInt (numB a) (numB b) else 0

theorem lim_sm {a : ByteArray} (h : sm a = true) (hm : mayB a = true) : (lim (numB a)).length ≤ 50000 := by
  have h1 := num_lt (mayL_all hm)
  have h2 := sm_le h
  rw [size_len] at h2
  refine Nat.le_trans (lim_len (k := a.data.toList.length) ?_) h2
  have h3 : (10 : Nat) ^ a.data.toList.length ≤ 10000 ^ a.data.toList.length := Nat.pow_le_pow_left (by omega) _
  have h4 : numB a < 10000 ^ a.data.toList.length := Nat.lt_of_lt_of_le h1 h3
  have h5 := Int.ofNat_lt.2 h4
  rw [Int.natCast_pow] at h5
  exact h5
theorem text_natB {n : Nat} (h : (lim n).length ≤ 17592186044416) : nat_limbs_text.f (lim n) = some (natB n) := by
  unfold nat_limbs_text.f natB
  rw [if_pos ⟨limbsOk_lim n, h⟩, textL_lim]
theorem lim_add_len (m n : Nat) : (lim (m + n)).length ≤ (lim m).length + (lim n).length + 1 := by
  apply lim_len
  have h1 := lim_high m
  have h2 := lim_high n
  have h3 := pow_mono' (a := (lim m).length) (b := (lim m).length + (lim n).length) (by omega)
  have h4 := pow_mono' (a := (lim n).length) (b := (lim m).length + (lim n).length) (by omega)
  rw [Int.pow_succ]
  omega
theorem lim_mul_len (m n : Nat) : (lim (m * n)).length ≤ (lim m).length + (lim n).length := by
  apply lim_len
  have h1 := lim_high m
  have h2 := lim_high n
  rw [Int.natCast_mul, Int.pow_add]
  have h3 : (m : Int) * n ≤ m * 10000 ^ (lim n).length := Int.mul_le_mul_of_nonneg_left (by omega) (by omega)
  have h4 : (m : Int) * 10000 ^ (lim n).length < 10000 ^ (lim m).length * 10000 ^ (lim n).length := Int.mul_lt_mul_of_pos_right h1 (pow_pos' _)
  omega
theorem lim_le_len {m n : Nat} (h : m ≤ n) : (lim m).length ≤ (lim n).length := by
  apply lim_len
  have h1 := lim_high n
  omega

theorem may_f {a : ByteArray} (h : sm a = true) : nat_May.f a = some (mayB a) := by
  unfold nat_May.f
  rw [if_pos h]
theorem read_f {a : ByteArray} (h : sm a = true) (hm : mayB a = true) : nat_read.f a = some (lim (numB a)) := by
  unfold nat_read.f
  rw [if_pos (by rw [h, hm]; rfl)]
theorem both_f {a b : ByteArray} (ha : sm a = true) (hb : sm b = true) (k : Nat) : Pr.nat_both.f (k + 1) a b = some (if may2 a b = true then (lim (numB a), lim (numB b), true) else ([], [], false)) := by
  unfold Pr.nat_both.f may2
  rw [may_f ha, may_f hb]
  cases h1 : mayB a <;> cases h2 : mayB b
  · rfl
  · rfl
  · rfl
  · simp only [Option.bind_some, if_true, Pr.nat_both.j0, read_f ha h1, read_f hb h2, Bool.not_true, Bool.and_self, if_false, Bool.false_eq_true]

theorem cmp_f {a b : ByteArray} (ha : sm a = true) (hb : sm b = true) (k : Nat) : Pr.nat_Cmp.f (k + 1) a b = some (cmpS a b) := by
  unfold Pr.nat_Cmp.f cmpS
  rw [both_f ha hb, Option.bind_some]
  by_cases h : may2 a b = true
  · rw [if_pos h, if_pos rfl, if_pos h]
    unfold nat_compare.f
    rw [cmpL_lim]
    rfl
  · rw [if_neg h, if_neg (by decide), if_neg h]
theorem lmlim {a : ByteArray} (h : sm a = true) (hm : mayB a = true) : lm (lim (numB a)) = true := decide_eq_true (lim_sm h hm)
theorem may2_and {a b : ByteArray} (h : may2 a b = true) : mayB a = true ∧ mayB b = true := by
  unfold may2 at h
  rwa [Bool.and_eq_true] at h
theorem add_f {a b : ByteArray} (ha : sm a = true) (hb : sm b = true) (k : Nat) : Pr.nat_Add.f (k + 1) a b = some (addS a b) := by
  unfold Pr.nat_Add.f addS
  rw [both_f ha hb, Option.bind_some]
  by_cases h : may2 a b = true
  · obtain ⟨h1, h2⟩ := may2_and h
    rw [if_pos h, if_pos rfl, if_pos h]
    have h3 := lim_sm ha h1
    have h4 := lim_sm hb h2
    have h5 := lim_add_len (numB a) (numB b)
    have e : (val (lim (numB a)) + 1 * val (lim (numB b))).toNat = numB a + numB b := by rw [val_lim, val_lim]; omega
    have hz : 0 ≤ val (lim (numB a)) + 1 * val (lim (numB b)) := by rw [val_lim, val_lim]; omega
    unfold nat_add.f
    rw [if_pos (by rw [limbsOk_lim, limbsOk_lim, lmlim ha h1, lmlim hb h2, decide_eq_true hz]; rfl), e, Option.bind_some, text_natB (by omega)]
    rfl
  · rw [if_neg h, if_neg (by decide), if_neg h]
    rfl
theorem mul_f {a b : ByteArray} (ha : sm a = true) (hb : sm b = true) (k : Nat) : Pr.nat_Mul.f (k + 1) a b = some (mulS a b) := by
  unfold Pr.nat_Mul.f mulS
  rw [both_f ha hb, Option.bind_some]
  by_cases h : may2 a b = true
  · obtain ⟨h1, h2⟩ := may2_and h
    rw [if_pos h, if_pos rfl, if_pos h]
    have h3 := lim_sm ha h1
    have h4 := lim_sm hb h2
    have h5 := lim_mul_len (numB a) (numB b)
    have e : (val (lim (numB a)) * val (lim (numB b))).toNat = numB a * numB b := by rw [val_lim, val_lim, ← Int.natCast_mul, Int.toNat_natCast]
    unfold nat_mul.f
    rw [if_pos (by rw [limbsOk_lim, limbsOk_lim, lmlim ha h1, lmlim hb h2]; rfl), e, Option.bind_some, text_natB (by omega)]
    rfl
  · rw [if_neg h, if_neg (by decide), if_neg h]
    rfl
theorem cmpI_neg (m n : Nat) : Lib.compareInt (m : Int) (n : Int) < 0 ↔ ¬ n ≤ m := by
  unfold Lib.compareInt
  split
  · constructor
    · intro _; omega
    · intro _; decide
  · split
    · constructor
      · intro h; exact absurd h (by decide)
      · intro h; omega
    · constructor
      · intro h; exact absurd h (by decide)
      · intro h; omega
theorem sub_f {a b : ByteArray} (ha : sm a = true) (hb : sm b = true) (k : Nat) : Pr.nat_Sub.f (k + 1) a b = some (subS a b) := by
  unfold Pr.nat_Sub.f subS
  rw [both_f ha hb, Option.bind_some]
  by_cases h : may2 a b = true
  · obtain ⟨h1, h2⟩ := may2_and h
    rw [if_pos h, if_pos rfl, h]
    unfold nat_compare.f
    rw [cmpL_lim, Option.bind_some]
    simp only [Pr.nat_Sub.j0]
    by_cases hc : numB b ≤ numB a
    · rw [if_neg (by rw [decide_eq_true_eq, cmpI_neg]; omega), if_pos (by rw [decide_eq_true hc]; rfl)]
      have h3 := lim_sm ha h1
      have h5 := lim_le_len (show numB a - numB b ≤ numB a by omega)
      have e : (val (lim (numB a)) + -1 * val (lim (numB b))).toNat = numB a - numB b := by rw [val_lim, val_lim]; omega
      have hz : 0 ≤ val (lim (numB a)) + -1 * val (lim (numB b)) := by rw [val_lim, val_lim]; omega
      unfold nat_add.f
      rw [if_pos (by rw [limbsOk_lim, limbsOk_lim, lmlim ha h1, lmlim hb h2, decide_eq_true hz]; rfl), e, Option.bind_some, text_natB (by omega)]
      rfl
    · rw [if_pos (by rw [decide_eq_true_eq, cmpI_neg]; omega), if_neg (by rw [decide_eq_false hc]; decide)]
      rfl
  · rw [if_neg h, if_neg (by decide), (Bool.not_eq_true _).mp h]
    rfl
theorem lim_zero_len (n : Nat) : ((lim n).length : Int) = 0 ↔ n = 0 := by
  rw [Int.natCast_eq_zero, List.length_eq_zero_iff, lim_nil]
theorem divL_f {m n : Nat} (hm : (lim m).length ≤ 50000) (hn : (lim n).length ≤ 50000) (h : n ≠ 0) : nat_div.f (lim m) (lim n) = some (lim (m / n), lim (m % n)) := by
  unfold nat_div.f
  rw [val_lim, val_lim, Int.toNat_natCast, Int.toNat_natCast, if_pos (by rw [canon_lim, canon_lim, show lm (lim m) = true from decide_eq_true hm, show lm (lim n) = true from decide_eq_true hn, decide_eq_true (by omega : (n : Int) ≠ 0)]; rfl)]
theorem div_f {a b : ByteArray} (ha : sm a = true) (hb : sm b = true) (k : Nat) : Pr.nat_Div.f (k + 1) a b = some (divS a b) := by
  unfold Pr.nat_Div.f divS
  rw [both_f ha hb, Option.bind_some]
  by_cases h : may2 a b = true
  · obtain ⟨h1, h2⟩ := may2_and h
    rw [if_pos h, if_pos rfl, h]
    simp only [Pr.nat_Div.j0]
    by_cases hc : numB b = 0
    · rw [if_pos (by rw [beq_iff_eq, lim_zero_len]; exact hc), if_neg (by rw [hc]; decide)]
      rfl
    · rw [if_neg (by rw [beq_iff_eq, lim_zero_len]; exact hc), if_pos (by rw [decide_eq_true hc]; rfl)]
      have h3 := lim_sm ha h1
      have h4 := lim_sm hb h2
      have h5 := lim_le_len (Nat.div_le_self (numB a) (numB b))
      have h6 := lim_le_len (Nat.mod_le (numB a) (numB b))
      rw [divL_f h3 h4 hc, Option.bind_some, text_natB (by omega)]
      simp only [Option.bind_some]
      rw [text_natB (by omega)]
      rfl
  · rw [if_neg h, if_neg (by decide), (Bool.not_eq_true _).mp h]
    rfl
end Go.Proofs.YtmkmldkfaehefaaDoor

end

section
set_option linter.unusedVariables false
namespace Go.Proofs.YtmkmldkfaehefaaDoor
open Go.RowKit Go.Proofs.YtmkmldkfaehefaaDoorW.PrintWords Go.Proofs.YtmkmldkfaehefaaDoorW.PrintLast Go.Proofs.YtmkmldkfaehefaaDoorW.PrintMore

theorem bext {a b : ByteArray} (h : a.data.toList = b.data.toList) : a = b := by
  obtain ⟨⟨a⟩⟩ := a
  obtain ⟨⟨b⟩⟩ := b
  congr 2

def mayEnd (l : List UInt8) : Bool := decide (l ≠ []) && (decide (l = [48]) || decide (l.head? ≠ some 48))
theorem mayL_split (l : List UInt8) : mayL l = (l.all isDig && mayEnd l) := by
  unfold mayL mayEnd
  cases decide (l ≠ []) <;> cases l.all isDig <;> rfl
theorem may_pos {a : ByteArray} (h : mayB a = true) : 0 < a.size := by
  rw [size_len]
  exact List.length_pos_iff.2 (mayL_ne h)
theorem numB_inj {a b : ByteArray} (ha : mayB a = true) (hb : mayB b = true) (h : numB a = numB b) : a = b := bext (num_inj ha hb h)

theorem may2_eq {a b : ByteArray} (h1 : mayB a = true) (h2 : mayB b = true) : may2 a b = true := by unfold may2; rw [h1, h2]; rfl
theorem natB_size (n : Nat) : (natB n).size = (Lib.decDigits n).length := by rw [size_len, natB_list]
theorem dig_len_le {n k : Nat} (h : n < 10 ^ k) (hk : 1 ≤ k) : (Lib.decDigits n).length ≤ k := by
  by_cases h0 : n = 0
  · subst h0
    rw [dig_small (by omega)]
    simpa using hk
  · have h1 := num_pos (dig_all n) (dig_ne n) (dig_head h0)
    rw [num_dig] at h1
    have h2 : 10 ^ ((Lib.decDigits n).length - 1) < 10 ^ k := by omega
    have := (Nat.pow_lt_pow_iff_right (by omega : 1 < 10)).1 h2
    omega
theorem list48 {b : ByteArray} (hb : mayB b = true) : (b.data.toList = [48] ↔ numB b = 0) := by
  constructor
  · intro h
    unfold numB
    rw [h]
    rfl
  · intro h
    have : b = natB 0 := numB_inj hb (mayB_natB 0) (by rw [h, numB_natB])
    rw [this, natB_list, dig_small (by omega)]
    rfl
def shortT (s : ByteArray) : Bool := decide (s.size ≤ 200)
end Go.Proofs.YtmkmldkfaehefaaDoor

end

-- Written by wip/pp.py of this place (over the kit's print) out of the translation.
section
namespace Go.Proofs.YtmkmldkfaehefaaDoor.Pq
open Go.RowKit Go.Proofs.YtmkmldkfaehefaaDoorW.PrintWords Go.Proofs.YtmkmldkfaehefaaDoorW.PrintLast Go.Proofs.YtmkmldkfaehefaaDoorW.PrintMore
attribute [local go_sem] max2_int min2_int max_two min_two max_three min_three max_four min_four   -- for this text's walks alone
set_option linter.unusedVariables false
set_option linter.unusedSimpArgs false

def errW : Option Int → Value
 | none => .nilIface
 | some c => .iface 0 (.int .i64 c)
theorem errW_none : errW none = .nilIface := rfl
theorem errW_some (c : Int) : errW (some c) = .iface 0 (.int .i64 c) := rfl

-- the values' own types

end Go.Proofs.YtmkmldkfaehefaaDoor.Pq

end

-- Written by wip/pp.py of this place (over the kit's print) out of the translation.
section
namespace Go.Proofs.YtmkmldkfaehefaaDoor.Pq
open Go.RowKit Go.Proofs.YtmkmldkfaehefaaDoorW.PrintWords Go.Proofs.YtmkmldkfaehefaaDoorW.PrintLast Go.Proofs.YtmkmldkfaehefaaDoorW.PrintMore
attribute [local go_sem] max2_int min2_int max_two min_two max_three min_three max_four min_four   -- for this text's walks alone
set_option linter.unusedVariables false
set_option linter.unusedSimpArgs false

def debentureref01_May.l0 : Nat → ByteArray → Int → Option (Bool)
 | 0, _, _ => none
 | k + 1, x0, x3 => if x3 < (x0.size : Int) then (if 0 ≤ x3 then (if (bt x0 x3) < 48 then (some false) else (if (bt x0 x3) > 57 then (some false) else (debentureref01_May.l0 k x0 (wrap64 (x3 + 1))))) else (none)) else (if (x0.size : Int) > 0 then (if x0.toList = ([48] : List UInt8) then (some true) else (if 0 < (x0.size : Int) then (some ((bt x0 0) != 48)) else (none))) else (some false))
def debentureref01_May.f (k : Nat) (a0 : ByteArray) : Option (Bool) := debentureref01_May.l0 k a0 0
set_option maxHeartbeats 8000000 in
set_option maxRecDepth 100000 in
theorem debentureref01_May.calls (k : Nat) (a0 : ByteArray) (r : Bool) (w : World) (h : debentureref01_May.f k a0 = some r) :
  Calls Tryd.prog 22 #[.string a0] w fun e w' => e = .returned (.bool r) ∧ Drawn0 w w' := by
 have H : (debentureref01_May.l0 k a0 0) = some r := h
 clear h
 have H' := Aside0.mk H
 clear H
 go_enter Tryd.func22, Tryd.ntmps22
 go_wp2
 go_loopg [3] k (fun kq v3 w' => ∃ (x3_1 : Int), v3 = .int .i64 x3_1 ∧ Aside0 (debentureref01_May.l0 kq a0 x3_1 = some r) ∧ Aside0 (kq ≤ k) ∧ Drawn0 w w')
 case atStart => exact ⟨(0), (by first | rfl | (simp; done) | (simp [*]; done)), H', ⟨Nat.le_refl _⟩, by repeat (first | exact Drawn0.refl _ | apply Drawn0.step)⟩
 case round =>
  clear H'
  obtain ⟨x3_1, rfl, HA, HK1, ⟨m1, rfl⟩⟩ := hrel
  cases gk with
  | zero => exact absurd HA.out (by simp [debentureref01_May.l0])
  | succ k1 =>
   have H := HA.out
   clear HA
   simp only [debentureref01_May.l0] at H
   by_cases c2 : x3_1 < (a0.size : Int)
   ·rw [if_pos c2] at H
    have c2b0 : decide (x3_1 < (a0.size : Int)) = true := decide_eq_true c2
    clear c2
    by_cases c3 : 0 ≤ x3_1
    ·rw [if_pos c3] at H
     have c3b0 : decide (0 ≤ x3_1) = true := decide_eq_true c3
     clear c3
     by_cases c5 : (bt a0 x3_1) < 48
     ·rw [if_pos c5] at H
      have c5b0 : decide ((bt a0 x3_1) < 48) = true := decide_eq_true c5
      clear c5
      obtain rfl := Option.some.inj H
      have p4 : 0 ≤ (x3_1 : Int) := of_decide_eq_true (by first | (with_reducible assumption) | assumption)
      have q4 : x3_1 < (a0.size : Int) := of_decide_eq_true (by first | (with_reducible assumption) | assumption)
      have hx4 := bt_at a0 x3_1
      replace p4 := eq_true p4
      replace q4 := eq_true q4
      go_wp2
      go_ret
      exact ⟨by first | rfl | (simp; done) | (simp [*]; done), by repeat (first | exact Drawn0.refl _ | apply Drawn0.step)⟩
     ·rw [if_neg c5] at H
      have c5b0 : decide ((bt a0 x3_1) < 48) = false := decide_eq_false c5
      clear c5
      by_cases c7 : (bt a0 x3_1) > 57
      ·rw [if_pos c7] at H
       have c7b0 : decide (57 < (bt a0 x3_1)) = true := decide_eq_true c7
       clear c7
       obtain rfl := Option.some.inj H
       have p4 : 0 ≤ (x3_1 : Int) := of_decide_eq_true (by first | (with_reducible assumption) | assumption)
       have q4 : x3_1 < (a0.size : Int) := of_decide_eq_true (by first | (with_reducible assumption) | assumption)
       have hx4 := bt_at a0 x3_1
       replace p4 := eq_true p4
       replace q4 := eq_true q4
       have p6 : 0 ≤ (x3_1 : Int) := of_decide_eq_true (by first | (with_reducible assumption) | assumption)
       have q6 : x3_1 < (a0.size : Int) := of_decide_eq_true (by first | (with_reducible assumption) | assumption)
       have hx6 := bt_at a0 x3_1
       replace p6 := eq_true p6
       replace q6 := eq_true q6
       go_wp2
       go_ret
       exact ⟨by first | rfl | (simp; done) | (simp [*]; done), by repeat (first | exact Drawn0.refl _ | apply Drawn0.step)⟩
      ·rw [if_neg c7] at H
       have c7b0 : decide (57 < (bt a0 x3_1)) = false := decide_eq_false c7
       clear c7
       have H' := Aside0.mk H
       clear H
       have p4 : 0 ≤ (x3_1 : Int) := of_decide_eq_true (by first | (with_reducible assumption) | assumption)
       have q4 : x3_1 < (a0.size : Int) := of_decide_eq_true (by first | (with_reducible assumption) | assumption)
       have hx4 := bt_at a0 x3_1
       replace p4 := eq_true p4
       replace q4 := eq_true q4
       have p6 : 0 ≤ (x3_1 : Int) := of_decide_eq_true (by first | (with_reducible assumption) | assumption)
       have q6 : x3_1 < (a0.size : Int) := of_decide_eq_true (by first | (with_reducible assumption) | assumption)
       have hx6 := bt_at a0 x3_1
       replace p6 := eq_true p6
       replace q6 := eq_true q6
       go_wp2
       go_roundg k1
       case measure => have := HK1.out; omega
       case rel => exact ⟨(wrap64 (x3_1 + 1)), (by first | rfl | (simp; done) | (simp [*]; done)), H', ⟨by have := HK1.out; omega⟩, by repeat (first | exact Drawn0.refl _ | apply Drawn0.step)⟩
    ·rw [if_neg c3] at H
     exact absurd H (by simp)
   ·rw [if_neg c2] at H
    have c2b0 : decide (x3_1 < (a0.size : Int)) = false := decide_eq_false c2
    clear c2
    by_cases c8 : (a0.size : Int) > 0
    ·rw [if_pos c8] at H
     have c8b0 : decide (0 < (a0.size : Int)) = true := decide_eq_true c8
     have c8b1 : decide (0 < a0.size) = true := decide_eq_true (by omega)
     clear c8
     by_cases c9 : a0.toList = ([48] : List UInt8)
     ·rw [if_pos c9] at H
      have c9b0 : (a0.toList == ([48] : List UInt8)) = true := beq_iff_eq.mpr c9
      have c9b1 : (a0.toList != ([48] : List UInt8)) = false := bne_eq_false_iff_eq.mpr c9
      clear c9
      obtain rfl := Option.some.inj H
      go_wp2
      go_ret
      exact ⟨by first | rfl | (simp; done) | (simp [*]; done), by repeat (first | exact Drawn0.refl _ | apply Drawn0.step)⟩
     ·rw [if_neg c9] at H
      have c9b0 : (a0.toList == ([48] : List UInt8)) = false := beq_eq_false_iff_ne.mpr c9
      have c9b1 : (a0.toList != ([48] : List UInt8)) = true := bne_iff_ne.mpr c9
      by_cases c10 : 0 < (a0.size : Int)
      ·rw [if_pos c10] at H
       have c10b0 : decide (0 < (a0.size : Int)) = true := decide_eq_true c10
       have c10b1 : decide (0 < a0.size) = true := decide_eq_true (by omega)
       clear c10
       obtain rfl := Option.some.inj H
       have p11 : 0 ≤ (0 : Int) := (by omega)
       have q11 : 0 < a0.size := (by have : (0 : Int) < (a0.size : Int) := of_decide_eq_true (by first | (with_reducible assumption) | assumption); omega)
       have hx11 : ∀ h : 0 < a0.size, ((a0[0]'h).toNat : Int) = bt a0 0 := bt_at a0 0
       clear p11
       have qi11 : (0 < (a0.size : Int)) = True := eq_true (of_decide_eq_true (by first | (with_reducible assumption) | assumption))
       replace q11 := eq_true q11
       go_wp2
       go_ret
       exact ⟨by first | rfl | (simp; done) | (simp [*]; done), by repeat (first | exact Drawn0.refl _ | apply Drawn0.step)⟩
      ·rw [if_neg c10] at H
       exact absurd H (by simp)
    ·rw [if_neg c8] at H
     have c8b0 : decide (0 < (a0.size : Int)) = false := decide_eq_false c8
     have c8b1 : decide (0 < a0.size) = false := decide_eq_false (by omega)
     clear c8
     obtain rfl := Option.some.inj H
     go_wp2
     go_ret
     exact ⟨by first | rfl | (simp; done) | (simp [*]; done), by repeat (first | exact Drawn0.refl _ | apply Drawn0.step)⟩

def debentureref01_Short.l0 : Nat → List ByteArray → Int → Option (Bool)
 | 0, _, _ => none
 | k + 1, x0, x3 => if x3 < (x0.length : Int) then (if 0 ≤ x3 then (if ((rdOf ByteArray.empty x0 x3).size : Int) > 200 then (some false) else (debentureref01_Short.l0 k x0 (wrap64 (x3 + 1)))) else (none)) else (some true)
def debentureref01_Short.f (k : Nat) (l0 : List ByteArray) : Option (Bool) := debentureref01_Short.l0 k l0 0
set_option maxHeartbeats 8000000 in
set_option maxRecDepth 100000 in
theorem debentureref01_Short.calls (k : Nat) (A0 : Option Addr) (c0 : Nat) (l0 : List ByteArray) (r : Bool) (w : World) (hr0 : Kd.C Kd.string w A0 l0.length l0) (hc0 : l0.length ≤ c0) (h : debentureref01_Short.f k l0 = some r) :
  Calls Tryd.prog 9 #[.slice A0 l0.length c0] w fun e w' => e = .returned (.bool r) ∧ Drawn0 w w' := by
 have HR0 := Aside0.mk hr0
 have HC0 := Aside0.mk hc0
 clear hr0 hc0
 have H : (debentureref01_Short.l0 k l0 0) = some r := h
 clear h
 have H' := Aside0.mk H
 clear H
 go_enter Tryd.func9, Tryd.ntmps9
 go_wp2
 go_loopg [3] k (fun kq v3 w' => ∃ (x3_1 : Int), v3 = .int .i64 x3_1 ∧ Aside0 (debentureref01_Short.l0 kq l0 x3_1 = some r) ∧ Aside0 (kq ≤ k) ∧ Drawn0 w w')
 case atStart => exact ⟨(0), (by first | rfl | (simp; done) | (simp [*]; done)), H', ⟨Nat.le_refl _⟩, by repeat (first | exact Drawn0.refl _ | apply Drawn0.step)⟩
 case round =>
  clear H'
  obtain ⟨x3_1, rfl, HA, HK1, ⟨m1, rfl⟩⟩ := hrel
  cases gk with
  | zero => exact absurd HA.out (by simp [debentureref01_Short.l0])
  | succ k1 =>
   have H := HA.out
   clear HA
   simp only [debentureref01_Short.l0] at H
   by_cases c2 : x3_1 < (l0.length : Int)
   ·rw [if_pos c2] at H
    have c2b0 : decide (x3_1 < (l0.length : Int)) = true := decide_eq_true c2
    clear c2
    by_cases c3 : 0 ≤ x3_1
    ·rw [if_pos c3] at H
     have c3b0 : decide (0 ≤ x3_1) = true := decide_eq_true c3
     clear c3
     by_cases c4 : ((rdOf ByteArray.empty l0 x3_1).size : Int) > 200
     ·rw [if_pos c4] at H
      have c4b0 : decide (200 < ((rdOf ByteArray.empty l0 x3_1).size : Int)) = true := decide_eq_true c4
      have c4b1 : decide (200 < (rdOf ByteArray.empty l0 x3_1).size) = true := decide_eq_true (by omega)
      clear c4
      obtain rfl := Option.some.inj H
      have p101 : 0 ≤ (x3_1 : Int) := of_decide_eq_true (by first | (with_reducible assumption) | assumption)
      have q101 : x3_1 < (l0.length : Int) := of_decide_eq_true (by first | (with_reducible assumption) | assumption)
      obtain ⟨ad101, e101, hx101_0⟩ := Kd.at_string HR0.out x3_1 p101 q101
      cases e101
      replace p101 := eq_true p101
      replace q101 := eq_true q101
      go_wp2
      go_ret
      exact ⟨by first | rfl | (simp; done) | (simp [*]; done), by repeat (first | exact Drawn0.refl _ | apply Drawn0.step)⟩
     ·rw [if_neg c4] at H
      have c4b0 : decide (200 < ((rdOf ByteArray.empty l0 x3_1).size : Int)) = false := decide_eq_false c4
      have c4b1 : decide (200 < (rdOf ByteArray.empty l0 x3_1).size) = false := decide_eq_false (by omega)
      clear c4
      have H' := Aside0.mk H
      clear H
      have p101 : 0 ≤ (x3_1 : Int) := of_decide_eq_true (by first | (with_reducible assumption) | assumption)
      have q101 : x3_1 < (l0.length : Int) := of_decide_eq_true (by first | (with_reducible assumption) | assumption)
      obtain ⟨ad101, e101, hx101_0⟩ := Kd.at_string HR0.out x3_1 p101 q101
      cases e101
      replace p101 := eq_true p101
      replace q101 := eq_true q101
      go_wp2
      go_roundg k1
      case measure => have := HK1.out; omega
      case rel => exact ⟨(wrap64 (x3_1 + 1)), (by first | rfl | (simp; done) | (simp [*]; done)), H', ⟨by have := HK1.out; omega⟩, by repeat (first | exact Drawn0.refl _ | apply Drawn0.step)⟩
    ·rw [if_neg c3] at H
     exact absurd H (by simp)
   ·rw [if_neg c2] at H
    have c2b0 : decide (x3_1 < (l0.length : Int)) = false := decide_eq_false c2
    clear c2
    obtain rfl := Option.some.inj H
    go_wp2
    go_ret
    exact ⟨by first | rfl | (simp; done) | (simp [*]; done), by repeat (first | exact Drawn0.refl _ | apply Drawn0.step)⟩

end Go.Proofs.YtmkmldkfaehefaaDoor.Pq

end

-- Written by wip/pp.py of this place (over the kit's print) out of the translation.
section
namespace Go.Proofs.YtmkmldkfaehefaaDoor.Pq
open Go.RowKit Go.Proofs.YtmkmldkfaehefaaDoorW.PrintWords Go.Proofs.YtmkmldkfaehefaaDoorW.PrintLast Go.Proofs.YtmkmldkfaehefaaDoorW.PrintMore
attribute [local go_sem] max2_int min2_int max_two min_two max_three min_three max_four min_four   -- for this text's walks alone
set_option linter.unusedVariables false
set_option linter.unusedSimpArgs false

end Go.Proofs.YtmkmldkfaehefaaDoor.Pq

end

section
set_option linter.unusedVariables false
namespace Go.Proofs.YtmkmldkfaehefaaDoor
open Go.RowKit Go.Proofs.YtmkmldkfaehefaaDoorW.PrintWords Go.Proofs.YtmkmldkfaehefaaDoorW.PrintLast Go.Proofs.YtmkmldkfaehefaaDoorW.PrintMore

theorem rmay_end (s : ByteArray) : (if (s.size : Int) > 0 then (if s.toList = ([48] : List UInt8) then (some true) else (if 0 < (s.size : Int) then (some ((bt s 0) != 48)) else (none))) else (some false)) = some (mayEnd s.data.toList) := by
  rw [ByteArray.toList_eq]
  unfold mayEnd
  by_cases h : (s.size : Int) > 0
  · have hne : s.data.toList ≠ [] := by
      intro e
      have := congrArg List.length e
      rw [← size_len, List.length_nil] at this
      omega
    rw [if_pos h, decide_eq_true hne]
    by_cases h1 : s.data.toList = [48]
    · rw [if_pos h1, decide_eq_true h1]; rfl
    · rw [if_neg h1, if_pos h, decide_eq_false h1]
      obtain ⟨c, hc, hb⟩ := bt_get s 0 (by omega)
      have hb' : bt s 0 = (c.toNat : Int) := hb
      have hhead : s.data.toList.head? = some c := by rw [← hc, List.head?_eq_getElem?]
      rw [hb', hhead]
      by_cases h2 : c = 48
      · subst h2; rfl
      · have h3 : (c.toNat : Int) ≠ 48 := by
          intro e
          exact h2 (UInt8.toNat_inj.1 (by rw [show (48 : UInt8).toNat = 48 from rfl]; omega))
        have h4 : (some c ≠ some (48 : UInt8)) := by intro e; exact h2 (Option.some.inj e)
        rw [decide_eq_true h4, bne_iff_ne.2 h3]
        rfl
  · have hne : s.data.toList = [] := by
      apply List.length_eq_zero_iff.1
      rw [← size_len]; omega
    rw [if_neg h, hne]
    rfl
theorem rmay_loop (s : ByteArray) (hs : s.size ≤ 4611686018427387904) : ∀ (d i : Nat), i + d = s.size → ∀ k, d + 1 ≤ k → Pq.debentureref01_May.l0 k s (i : Int) = some ((s.data.toList.drop i).all isDig && mayEnd s.data.toList)
  | 0, i, hi, k, hk => by
    obtain ⟨k, rfl⟩ : ∃ m, k = m + 1 := ⟨k - 1, by omega⟩
    simp only [Pq.debentureref01_May.l0]
    rw [if_neg (by omega), rmay_end, List.drop_of_length_le (by rw [← size_len]; omega)]
    rfl
  | d + 1, i, hi, k, hk => by
    obtain ⟨k, rfl⟩ : ∃ m, k = m + 1 := ⟨k - 1, by omega⟩
    simp only [Pq.debentureref01_May.l0]
    have g1 : (i : Int) < (s.size : Int) := by omega
    rw [if_pos g1, if_pos (by omega)]
    obtain ⟨c, hc, hb⟩ := bt_get s i (by omega)
    have hil : i < s.data.toList.length := by rw [← size_len]; omega
    have hcc : s.data.toList[i] = c := by
      rw [List.getElem?_eq_getElem hil] at hc
      exact Option.some.inj hc
    rw [hb, List.drop_eq_getElem_cons hil, hcc, List.all_cons, w64 (by omega) (by omega)]
    by_cases h1 : (c.toNat : Int) < 48
    · rw [if_pos h1]
      have : isDig c = false := by simp [isDig]; omega
      rw [this]; rfl
    · rw [if_neg h1]
      by_cases h2 : (c.toNat : Int) > 57
      · rw [if_pos h2]
        have : isDig c = false := by simp [isDig]; omega
        rw [this]; rfl
      · rw [if_neg h2]
        have : isDig c = true := by simp [isDig]; omega
        rw [this, Bool.true_and]
        have := rmay_loop s hs d (i + 1) (by omega) k (by omega)
        rw [show ((i : Int) + 1) = ((i + 1 : Nat) : Int) by omega]
        exact this
theorem rmay_f (s : ByteArray) (hs : s.size ≤ 4611686018427387904) (k : Nat) (hk : s.size + 1 ≤ k) : Pq.debentureref01_May.f k s = some (mayB s) := by
  unfold Pq.debentureref01_May.f mayB
  rw [mayL_split]
  have := rmay_loop s hs s.size 0 (by omega) k (by omega)
  rw [List.drop_zero] at this
  exact this

end Go.Proofs.YtmkmldkfaehefaaDoor

end

section
set_option linter.unusedVariables false
namespace Go.Proofs.YtmkmldkfaehefaaDoor
open Go.RowKit Go.Proofs.YtmkmldkfaehefaaDoorW.PrintWords Go.Proofs.YtmkmldkfaehefaaDoorW.PrintLast Go.Proofs.YtmkmldkfaehefaaDoorW.PrintMore

theorem and2 {a b : ByteArray} (h : sm2 a b = true) : sm a = true ∧ sm b = true := by
  unfold sm2 at h
  rwa [Bool.and_eq_true] at h
def nat_Cmp.f (a0 a1 : ByteArray) : Option Int := if sm2 a0 a1 = true then some (cmpS a0 a1) else none
theorem nat_Cmp.calls (a0 a1 : ByteArray) (r : Int) (w : World) (h : nat_Cmp.f a0 a1 = some r) :
    Calls Tryd.prog 31 #[.string a0, .string a1] w fun e w' => e = .returned (.int .i64 r) ∧ Below w.heap.size w w' := by
  unfold nat_Cmp.f at h
  split at h
  · rename_i hp
    rw [← cmp_f (and2 hp).1 (and2 hp).2 0] at h
    exact Pr.nat_Cmp.calls _ a0 a1 r w h
  · cases h
def nat_Add.f (a0 a1 : ByteArray) : Option ByteArray := if sm2 a0 a1 = true then some (addS a0 a1) else none
theorem nat_Add.calls (a0 a1 : ByteArray) (r : ByteArray) (w : World) (hL_ : Laid w) (h : nat_Add.f a0 a1 = some r) :
    Calls Tryd.prog 29 #[.string a0, .string a1] w fun e w' => e = .returned (.string r) ∧ Below w.heap.size w w' := by
  unfold nat_Add.f at h
  split at h
  · rename_i hp
    rw [← add_f (and2 hp).1 (and2 hp).2 0] at h
    exact Pr.nat_Add.calls _ a0 a1 r w hL_ h
  · cases h
def nat_Sub.f (a0 a1 : ByteArray) : Option (ByteArray × Bool) := if sm2 a0 a1 = true then some (subS a0 a1) else none
theorem nat_Sub.calls (a0 a1 : ByteArray) (r1 : ByteArray) (r2 : Bool) (w : World) (hL_ : Laid w) (h : nat_Sub.f a0 a1 = some (r1, r2)) :
    Calls Tryd.prog 30 #[.string a0, .string a1] w fun e w' => e = .returned (.tuple #[.string r1, .bool r2]) ∧ Below w.heap.size w w' := by
  unfold nat_Sub.f at h
  split at h
  · rename_i hp
    rw [← sub_f (and2 hp).1 (and2 hp).2 0] at h
    exact Pr.nat_Sub.calls _ a0 a1 r1 r2 w hL_ h
  · cases h
def nat_Mul.f (a0 a1 : ByteArray) : Option ByteArray := if sm2 a0 a1 = true then some (mulS a0 a1) else none
theorem nat_Mul.calls (a0 a1 : ByteArray) (r : ByteArray) (w : World) (hL_ : Laid w) (h : nat_Mul.f a0 a1 = some r) :
    Calls Tryd.prog 26 #[.string a0, .string a1] w fun e w' => e = .returned (.string r) ∧ Below w.heap.size w w' := by
  unfold nat_Mul.f at h
  split at h
  · rename_i hp
    rw [← mul_f (and2 hp).1 (and2 hp).2 0] at h
    exact Pr.nat_Mul.calls _ a0 a1 r w hL_ h
  · cases h
def nat_Div.f (a0 a1 : ByteArray) : Option (ByteArray × ByteArray × Bool) := if sm2 a0 a1 = true then some (divS a0 a1) else none
theorem nat_Div.calls (a0 a1 : ByteArray) (r1 r2 : ByteArray) (r3 : Bool) (w : World) (hL_ : Laid w) (h : nat_Div.f a0 a1 = some (r1, r2, r3)) :
    Calls Tryd.prog 28 #[.string a0, .string a1] w fun e w' => e = .returned (.tuple #[.string r1, .string r2, .bool r3]) ∧ Below w.heap.size w w' := by
  unfold nat_Div.f at h
  split at h
  · rename_i hp
    rw [← div_f (and2 hp).1 (and2 hp).2 0] at h
    exact Pr.nat_Div.calls _ a0 a1 r1 r2 r3 w hL_ h
  · cases h
end Go.Proofs.YtmkmldkfaehefaaDoor

end

section
set_option linter.unusedVariables false
namespace Go.Proofs.YtmkmldkfaehefaaDoor
open Go.RowKit Go.Proofs.YtmkmldkfaehefaaDoorW.PrintWords Go.Proofs.YtmkmldkfaehefaaDoorW.PrintLast Go.Proofs.YtmkmldkfaehefaaDoorW.PrintMore

theorem drawn_below {w w' : World} (h : Drawn0 w w') : Below w.heap.size w w' := by
  obtain ⟨n, rfl⟩ := h
  exact pw_below_drewN (Below.refl _ _) n

def debentureref01_May.f (a0 : ByteArray) : Option Bool := if sm a0 = true then some (mayB a0) else none
theorem debentureref01_May.calls (a0 : ByteArray) (r : Bool) (w : World) (h : debentureref01_May.f a0 = some r) :
    Calls Tryd.prog 22 #[.string a0] w fun e w' => e = .returned (.bool r) ∧ Below w.heap.size w w' := by
  unfold debentureref01_May.f at h
  split at h
  · rename_i hp
    have hs := sm_le hp
    rw [← rmay_f a0 (by omega) _ (Nat.le_refl _)] at h
    exact (Pq.debentureref01_May.calls _ a0 r w h).mono fun e w' ⟨he, hw⟩ => ⟨he, drawn_below hw⟩
  · cases h
end Go.Proofs.YtmkmldkfaehefaaDoor

end

section
set_option linter.unusedVariables false
namespace Go.Proofs.YtmkmldkfaehefaaDoor
open Go.RowKit Go.Proofs.YtmkmldkfaehefaaDoorW.PrintWords Go.Proofs.YtmkmldkfaehefaaDoorW.PrintLast Go.Proofs.YtmkmldkfaehefaaDoorW.PrintMore

theorem rshort_loop (l : List ByteArray) (hl : l.length ≤ 4611686018427387904) : ∀ (d i : Nat), i + d = l.length → ∀ k, d + 1 ≤ k → Pq.debentureref01_Short.l0 k l (i : Int) = some ((l.drop i).all shortT)
  | 0, i, hi, k, hk => by
    obtain ⟨k, rfl⟩ : ∃ m, k = m + 1 := ⟨k - 1, by omega⟩
    simp only [Pq.debentureref01_Short.l0]
    rw [if_neg (by omega), List.drop_of_length_le (by omega)]
    rfl
  | d + 1, i, hi, k, hk => by
    obtain ⟨k, rfl⟩ : ∃ m, k = m + 1 := ⟨k - 1, by omega⟩
    simp only [Pq.debentureref01_Short.l0]
    have hil : i < l.length := by omega
    have e : rdOf ByteArray.empty l (i : Int) = l[i] := by
      unfold rdOf
      rw [Int.toNat_natCast, List.getD_eq_getElem?_getD, List.getElem?_eq_getElem hil]
      rfl
    rw [if_pos (by omega), if_pos (by omega), e, List.drop_eq_getElem_cons hil, List.all_cons, w64 (by omega) (by omega)]
    by_cases h : l[i].size ≤ 200
    · have h2 : shortT l[i] = true := decide_eq_true h
      rw [if_neg (by omega), h2, Bool.true_and, show ((i : Int) + 1) = ((i + 1 : Nat) : Int) by omega, rshort_loop l hl d (i + 1) (by omega) k (by omega)]
    · have h2 : shortT l[i] = false := decide_eq_false h
      rw [if_pos (by omega), h2, Bool.false_and]
theorem rshort_f (l : List ByteArray) (hl : l.length ≤ 4611686018427387904) (k : Nat) (hk : l.length + 1 ≤ k) : Pq.debentureref01_Short.f k l = some (l.all shortT) := by
  unfold Pq.debentureref01_Short.f
  have := rshort_loop l hl l.length 0 (by omega) k hk
  rw [List.drop_zero] at this
  exact this
def debentureref01_Short.f (l0 : List ByteArray) : Option Bool := if l0.length ≤ 50000 then some (l0.all shortT) else none
theorem debentureref01_Short.calls (A0 : Option Addr) (c0 : Nat) (l0 : List ByteArray) (r : Bool) (w : World) (hr0 : Kd.C Kd.string w A0 l0.length l0) (hc0 : l0.length ≤ c0) (h : debentureref01_Short.f l0 = some r) :
    Calls Tryd.prog 9 #[.slice A0 l0.length c0] w fun e w' => e = .returned (.bool r) ∧ Below w.heap.size w w' := by
  unfold debentureref01_Short.f at h
  split at h
  · rename_i hp
    rw [← rshort_f l0 (by omega) _ (Nat.le_refl _)] at h
    exact (Pq.debentureref01_Short.calls _ A0 c0 l0 r w hr0 hc0 h).mono fun e w' ⟨he, hw⟩ => ⟨he, drawn_below hw⟩
  · cases h
end Go.Proofs.YtmkmldkfaehefaaDoor

end

section
set_option linter.unusedVariables false
namespace Go.Proofs.YtmkmldkfaehefaaDoor
open Go.RowKit Go.Proofs.YtmkmldkfaehefaaDoorW.PrintWords Go.Proofs.YtmkmldkfaehefaaDoorW.PrintLast Go.Proofs.YtmkmldkfaehefaaDoorW.PrintMore

/-- How long a natural's text is. -/
def sz (n : Nat) : Nat := (natB n).size
theorem sz_dig (n : Nat) : sz n = (Lib.decDigits n).length := natB_size n
theorem sz_pos (n : Nat) : 1 ≤ sz n := may_pos (mayB_natB n)
theorem lt_sz (n : Nat) : n < 10 ^ sz n := by
  have h := num_lt (dig_all n)
  rw [num_dig, ← sz_dig] at h
  exact h
theorem sz_le {n k : Nat} (h : n < 10 ^ k) (hk : 1 ≤ k) : sz n ≤ k := by
  rw [sz_dig]
  exact dig_len_le h hk
theorem sz_mono {m n : Nat} (h : m ≤ n) : sz m ≤ sz n := sz_le (Nat.lt_of_le_of_lt h (lt_sz n)) (sz_pos n)
theorem ten_mono {a b : Nat} (h : a ≤ b) : (10 : Nat) ^ a ≤ 10 ^ b := Nat.pow_le_pow_right (by omega) h
theorem sz_add (m n : Nat) : sz (m + n) ≤ sz m + sz n := by
  have h1 := lt_sz m
  have h2 := lt_sz n
  have h3 := sz_pos m
  have h4 := sz_pos n
  apply sz_le _ (by omega)
  have h5 := ten_mono (a := sz m) (b := sz m + sz n - 1) (by omega)
  have h6 := ten_mono (a := sz n) (b := sz m + sz n - 1) (by omega)
  obtain ⟨k, hk⟩ : ∃ k, sz m + sz n = k + 1 := ⟨sz m + sz n - 1, by omega⟩
  rw [hk, Nat.add_sub_cancel] at h5 h6
  rw [hk, Nat.pow_succ]
  omega
theorem sz_mul (m n : Nat) : sz (m * n) ≤ sz m + sz n := by
  have h1 := lt_sz m
  have h2 := lt_sz n
  apply sz_le _ (by have := sz_pos m; omega)
  rw [Nat.pow_add]
  exact Nat.mul_lt_mul'' h1 h2
/-- Short enough for the contracts. -/
theorem sm_natB {n : Nat} (h : sz n ≤ 50000) : sm (natB n) = true := decide_eq_true h
theorem sm2_natB {m n : Nat} (hm : sz m ≤ 50000) (hn : sz n ≤ 50000) : sm2 (natB m) (natB n) = true := by unfold sm2; rw [sm_natB hm, sm_natB hn]; rfl
theorem may2_natB (m n : Nat) : may2 (natB m) (natB n) = true := may2_eq (mayB_natB m) (mayB_natB n)
theorem natB_inj {m n : Nat} : natB m = natB n ↔ m = n := ⟨fun h => by rw [← numB_natB m, h, numB_natB], fun h => by rw [h]⟩
theorem toList_inj {a b : ByteArray} : a.toList = b.toList ↔ a = b := by
  rw [ByteArray.toList_eq, ByteArray.toList_eq]
  exact ⟨bext, fun h => by rw [h]⟩
theorem natB_toList_inj {m n : Nat} : (natB m).toList = (natB n).toList ↔ m = n := by rw [toList_inj, natB_inj]
theorem natB_toList_zero {m : Nat} : (natB m).toList = [48] ↔ m = 0 := by
  rw [ByteArray.toList_eq]
  have := list48 (mayB_natB m)
  rw [numB_natB] at this
  exact this
theorem natB_beq_zero (m : Nat) : ((natB m).toList == ([48] : List UInt8)) = decide (m = 0) := by
  rw [Bool.eq_iff_iff, beq_iff_eq, natB_toList_zero, decide_eq_true_eq]
theorem natB_one : natB 1 = ⟨#[49]⟩ := bext (by rw [natB_list, dig_small (by omega)]; rfl)
theorem natB_toList_one {m : Nat} : (natB m).toList = [49] ↔ m = 1 := by
  have h : (natB 1).toList = [49] := by rw [ByteArray.toList_eq, natB_list, dig_small (by omega)]; rfl
  rw [← h]
  exact natB_toList_inj

theorem rMay {a : ByteArray} (h : a.size ≤ 50000) : debentureref01_May.f a = some (mayB a) := by
  unfold debentureref01_May.f
  rw [if_pos (show sm a = true from decide_eq_true h)]
theorem fAdd {m n : Nat} (hm : sz m ≤ 50000) (hn : sz n ≤ 50000) : nat_Add.f (natB m) (natB n) = some (natB (m + n)) := by
  unfold nat_Add.f addS
  rw [if_pos (sm2_natB hm hn), if_pos (may2_natB m n), numB_natB, numB_natB]
theorem fMul {m n : Nat} (hm : sz m ≤ 50000) (hn : sz n ≤ 50000) : nat_Mul.f (natB m) (natB n) = some (natB (m * n)) := by
  unfold nat_Mul.f mulS
  rw [if_pos (sm2_natB hm hn), if_pos (may2_natB m n), numB_natB, numB_natB]
theorem fCmp {m n : Nat} (hm : sz m ≤ 50000) (hn : sz n ≤ 50000) : nat_Cmp.f (natB m) (natB n) = some (Lib.compareInt (m : Int) (n : Int)) := by
  unfold nat_Cmp.f cmpS
  rw [if_pos (sm2_natB hm hn), if_pos (may2_natB m n), numB_natB, numB_natB]
theorem fSub {m n : Nat} (hm : sz m ≤ 50000) (hn : sz n ≤ 50000) : nat_Sub.f (natB m) (natB n) = some (if n ≤ m then (natB (m - n), true) else (noB, false)) := by
  unfold nat_Sub.f subS
  rw [if_pos (sm2_natB hm hn), may2_natB, numB_natB, numB_natB, Bool.true_and]
  by_cases h : n ≤ m
  · rw [if_pos (decide_eq_true h), if_pos h]
  · rw [if_neg (by rw [decide_eq_true_eq]; exact h), if_neg h]
theorem fDiv {m n : Nat} (hm : sz m ≤ 50000) (hn : sz n ≤ 50000) (h : n ≠ 0) : nat_Div.f (natB m) (natB n) = some (natB (m / n), natB (m % n), true) := by
  unfold nat_Div.f divS
  rw [if_pos (sm2_natB hm hn), may2_natB, numB_natB, numB_natB, Bool.true_and, if_pos (decide_eq_true h)]
theorem rShort {l : List ByteArray} (h : l.length ≤ 50000) : debentureref01_Short.f l = some (l.all shortT) := by
  unfold debentureref01_Short.f
  rw [if_pos h]
theorem shortT_le {a : ByteArray} (h : shortT a = true) : a.size ≤ 200 := of_decide_eq_true h
end Go.Proofs.YtmkmldkfaehefaaDoor

end

section
set_option linter.unusedVariables false
namespace Go.Proofs.YtmkmldkfaehefaaDoor
open Go.RowKit Go.Proofs.YtmkmldkfaehefaaDoorW.PrintWords Go.Proofs.YtmkmldkfaehefaaDoorW.PrintLast Go.Proofs.YtmkmldkfaehefaaDoorW.PrintMore

theorem shorts3 {a b c : ByteArray} : debentureref01_Short.f [a, b, c] = some (shortT a && (shortT b && shortT c)) := by
  rw [rShort (by simp)]
  simp [List.all_cons]
theorem shorts2 {a b : ByteArray} : debentureref01_Short.f [a, b] = some (shortT a && shortT b) := by
  rw [rShort (by simp)]
  simp [List.all_cons]

end Go.Proofs.YtmkmldkfaehefaaDoor

end

section
set_option linter.unusedVariables false
namespace Go.Proofs.YtmkmldkfaehefaaDoor
open Go.RowKit Go.Proofs.YtmkmldkfaehefaaDoorW.PrintWords Go.Proofs.YtmkmldkfaehefaaDoorW.PrintLast Go.Proofs.YtmkmldkfaehefaaDoorW.PrintMore

/-- A whole number's text. -/
def intB (z : Int) : ByteArray := if z < 0 then ⟨#[45]⟩ ++ natB z.natAbs else natB z.natAbs
/-- A text without its sign; whether it has one. -/
def cutL (l : List UInt8) : List UInt8 × Bool := match l with
  | 45 :: r => (r, true)
  | l => (l, false)
def amtB (s : ByteArray) : ByteArray := ⟨(cutL s.data.toList).1.toArray⟩
def minusB (s : ByteArray) : Bool := (cutL s.data.toList).2
def mayW (s : ByteArray) : Bool := mayB (amtB s) && (!minusB s || decide (numB (amtB s) ≠ 0))
def numW (s : ByteArray) : Int := if minusB s = true then -(numB (amtB s) : Int) else (numB (amtB s) : Int)

theorem amtB_list (s : ByteArray) : (amtB s).data.toList = (cutL s.data.toList).1 := rfl
theorem head_dig {l : List UInt8} (h : l.all isDig = true) : cutL l = (l, false) := by
  unfold cutL
  split
  · rename_i r
    simp only [List.all_cons, Bool.and_eq_true] at h
    exact absurd h.1 (by decide)
  · rfl
theorem amtB_nat (n : Nat) : amtB (natB n) = natB n := by
  apply bext
  rw [amtB_list, natB_list, head_dig (dig_all n)]
theorem minusB_nat (n : Nat) : minusB (natB n) = false := by
  unfold minusB
  rw [natB_list, head_dig (dig_all n)]
theorem neg_list (n : Nat) : ((⟨#[45]⟩ : ByteArray) ++ natB n).data.toList = 45 :: Lib.decDigits n := by
  rw [Joins.data_append, natB_list]
  rfl
theorem amtB_neg (n : Nat) : amtB (⟨#[45]⟩ ++ natB n) = natB n := by
  apply bext
  rw [amtB_list, neg_list, natB_list]
  rfl
theorem minusB_neg (n : Nat) : minusB (⟨#[45]⟩ ++ natB n) = true := by
  unfold minusB
  rw [neg_list]
  rfl
theorem amtB_int (z : Int) : amtB (intB z) = natB z.natAbs := by
  unfold intB
  split
  · exact amtB_neg _
  · exact amtB_nat _
theorem minusB_int (z : Int) : minusB (intB z) = decide (z < 0) := by
  unfold intB
  split
  · rename_i h
    rw [minusB_neg, decide_eq_true h]
  · rename_i h
    rw [minusB_nat, decide_eq_false h]
theorem mayW_int (z : Int) : mayW (intB z) = true := by
  unfold mayW
  rw [amtB_int, minusB_int, mayB_natB, numB_natB, Bool.true_and]
  by_cases h : z < 0
  · rw [decide_eq_true h, decide_eq_true (by omega : z.natAbs ≠ 0)]
    rfl
  · rw [decide_eq_false h]
    rfl
theorem numW_int (z : Int) : numW (intB z) = z := by
  unfold numW
  rw [amtB_int, minusB_int, numB_natB]
  by_cases h : z < 0
  · rw [if_pos (decide_eq_true h)]
    omega
  · rw [if_neg (by rw [decide_eq_true_eq]; exact h)]
    omega
theorem cut_back (l : List UInt8) : l = if (cutL l).2 = true then 45 :: (cutL l).1 else (cutL l).1 := by
  unfold cutL
  split <;> rfl
theorem intB_num {s : ByteArray} (h : mayW s = true) : intB (numW s) = s := by
  unfold mayW at h
  rw [Bool.and_eq_true] at h
  have hc := cut_back s.data.toList
  have hb := natB_numB h.1
  apply bext
  unfold intB numW
  cases hm : minusB s with
  | true =>
    have h2 := h.2
    rw [hm] at h2
    simp only [Bool.not_true, Bool.false_or, decide_eq_true_eq] at h2
    rw [if_pos rfl, if_pos (by omega), Int.natAbs_neg, Int.natAbs_natCast, hb, Joins.data_append, amtB_list]
    unfold minusB at hm
    rw [if_pos hm] at hc
    rw [hc]
    rfl
  | false =>
    simp only [Bool.false_eq_true, if_false]
    rw [if_neg (by omega), Int.natAbs_natCast, hb, amtB_list]
    unfold minusB at hm
    rw [hm, if_neg (by decide)] at hc
    exact hc.symm
theorem of_mayW {a : ByteArray} (h : mayW a = true) : ∃ z, a = intB z := ⟨numW a, (intB_num h).symm⟩
theorem intB_inj {x y : Int} : intB x = intB y ↔ x = y := ⟨fun h => by rw [← numW_int x, h, numW_int], fun h => by rw [h]⟩
theorem intB_toList_inj {x y : Int} : (intB x).toList = (intB y).toList ↔ x = y := by rw [toList_inj, intB_inj]
theorem intB_nat (n : Nat) : intB (n : Int) = natB n := by
  unfold intB
  rw [if_neg (by omega), Int.natAbs_natCast]
/-- How long a whole number's text is. -/
def szI (z : Int) : Nat := (intB z).size
theorem szI_le (z : Int) : szI z ≤ sz z.natAbs + 1 := by
  unfold szI intB
  split
  · rw [ByteArray.size_append]
    show 1 + sz _ ≤ _
    omega
  · show sz _ ≤ _
    omega
theorem le_szI (z : Int) : sz z.natAbs ≤ szI z := by
  unfold szI intB
  split
  · rw [ByteArray.size_append]
    show sz _ ≤ 1 + sz _
    omega
  · exact Nat.le_refl _
end Go.Proofs.YtmkmldkfaehefaaDoor

end

section
set_option linter.unusedVariables false
namespace Go.Proofs.YtmkmldkfaehefaaDoor
open Go.RowKit Go.Proofs.YtmkmldkfaehefaaDoorW.PrintWords Go.Proofs.YtmkmldkfaehefaaDoorW.PrintLast Go.Proofs.YtmkmldkfaehefaaDoorW.PrintMore

def may2W (a b : ByteArray) : Bool := mayW a && mayW b
def waddS (a b : ByteArray) : ByteArray := if may2W a b = true then intB (numW a + numW b) else noB
def wsubS (a b : ByteArray) : ByteArray := if may2W a b = true then intB (numW a - numW b) else noB
def wmulS (a b : ByteArray) : ByteArray := if may2W a b = true then intB (numW a * numW b) else noB
def wdivS (a b : ByteArray) : ByteArray × ByteArray × Bool := if (may2W a b && decide (numW b ≠ 0)) = true then (intB (numW a / numW b), intB (numW a % numW b), true) else (noB, noB, false)
def wcmpS (a b : ByteArray) : Int := if may2W a b = true then Lib.compareInt (numW a) (numW b) else 0
def wsignS (a : ByteArray) : Int := if mayW a = true then Lib.compareInt (numW a) 0 else 0
def wabsS (a : ByteArray) : ByteArray := if mayW a = true then natB (numW a).natAbs else noB
def wnegS (a : ByteArray) : ByteArray := if mayW a = true then intB (-numW a) else noB

/-- A natural with a sign. -/
def withS (minus : Bool) (n : Nat) : Int := if minus = true then -(n : Int) else n
theorem withS_text (minus : Bool) (n : Nat) : (if minus = true then (if n = 0 then natB n else (⟨#[45]⟩ : ByteArray) ++ natB n) else natB n) = intB (withS minus n) := by
  cases minus with
  | true =>
    unfold withS intB
    simp only [if_true]
    by_cases h : n = 0
    · subst h
      rw [if_pos rfl, if_neg (by omega)]
      rfl
    · rw [if_neg h, if_pos (by omega), Int.natAbs_neg, Int.natAbs_natCast]
  | false =>
    unfold withS
    simp only [Bool.false_eq_true, if_false]
    exact (intB_nat n).symm
theorem ediv_pos {x : Int} {b q r : Int} (hb : 0 < b) (h1 : r + b * q = x) (h2 : 0 ≤ r) (h3 : r < b) : x / b = q ∧ x % b = r := (Int.ediv_emod_unique hb).2 ⟨h1, h2, h3⟩
/-- Division with a rest from 0 on, told by amounts. -/
theorem divW {m n : Nat} (hn : n ≠ 0) (a b : Bool) (ha : a = true → m ≠ 0) :
    (withS a m / withS b n = if a = true ∧ m % n ≠ 0 then withS (a != b) (m / n + 1) else withS (a != b) (m / n)) ∧
    (withS a m % withS b n = if a = true ∧ m % n ≠ 0 then ((n - m % n : Nat) : Int) else ((m % n : Nat) : Int)) := by
  have hdm := Nat.div_add_mod m n
  have hlt := Nat.mod_lt m (show 0 < n by omega)
  have hc : (n : Int) * ((m / n : Nat) : Int) + ((m % n : Nat) : Int) = (m : Int) := by
    rw [← Int.natCast_mul, ← Int.natCast_add, hdm]
  generalize m / n = q at *
  generalize m % n = r at *
  have hbase : (withS a m / (n : Int) = if a = true ∧ r ≠ 0 then -((q + 1 : Nat) : Int) else withS a q) ∧ (withS a m % (n : Int) = if a = true ∧ r ≠ 0 then ((n - r : Nat) : Int) else (r : Int)) := by
    cases a with
    | false =>
      simp only [Bool.false_eq_true, false_and, if_false, withS]
      exact ediv_pos (by omega) (by omega) (by omega) (by omega)
    | true =>
      by_cases hr : r = 0
      · subst hr
        simp only [ne_eq, not_true_eq_false, and_false, if_false, withS, if_true]
        exact ediv_pos (by omega) (by rw [Int.mul_neg]; omega) (by omega) (by omega)
      · rw [if_pos ⟨rfl, hr⟩, if_pos ⟨rfl, hr⟩]
        simp only [withS, if_true]
        refine ediv_pos (by omega) ?_ (by omega) (by omega)
        rw [Int.mul_neg, Int.natCast_add, Int.mul_add]
        omega
  cases b with
  | false =>
    have e : withS false n = (n : Int) := rfl
    rw [e, hbase.1, hbase.2]
    refine ⟨?_, rfl⟩
    cases a with
    | false => rfl
    | true => rfl
  | true =>
    have e : withS true n = -(n : Int) := rfl
    rw [e, Int.ediv_neg, Int.emod_neg, hbase.1, hbase.2]
    refine ⟨?_, rfl⟩
    cases a with
    | false =>
      simp only [Bool.false_eq_true, false_and, if_false, withS]
      rfl
    | true =>
      by_cases hr : r = 0
      · subst hr
        simp only [ne_eq, not_true_eq_false, and_false, if_false, withS, if_true, Int.neg_neg]
        rfl
      · rw [if_pos ⟨rfl, hr⟩, if_pos ⟨rfl, hr⟩, Int.neg_neg]
        rfl
end Go.Proofs.YtmkmldkfaehefaaDoor

end

-- Written by wip/pp.py of this place (over the kit's print) out of the translation.
section
namespace Go.Proofs.YtmkmldkfaehefaaDoor.Pw
open Go.RowKit Go.Proofs.YtmkmldkfaehefaaDoorW.PrintWords Go.Proofs.YtmkmldkfaehefaaDoorW.PrintLast Go.Proofs.YtmkmldkfaehefaaDoorW.PrintMore
attribute [local go_sem] max2_int min2_int max_two min_two max_three min_three max_four min_four   -- for this text's walks alone
set_option linter.unusedVariables false
set_option linter.unusedSimpArgs false

def errW : Option Int → Value
 | none => .nilIface
 | some c => .iface 0 (.int .i64 c)
theorem errW_none : errW none = .nilIface := rfl
theorem errW_some (c : Int) : errW (some c) = .iface 0 (.int .i64 c) := rfl

-- the values' own types

end Go.Proofs.YtmkmldkfaehefaaDoor.Pw

end
