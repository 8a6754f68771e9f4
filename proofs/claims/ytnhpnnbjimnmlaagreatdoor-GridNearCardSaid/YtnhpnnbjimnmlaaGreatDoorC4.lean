/-
Parts of the proof, in build order: RefDiv, RefDone, Px0, Px1, Px2, Px, Ref2May, PuCom, NumW, RatW, GcdS, NatGcd, NumGcd, Py0, Py1, Py2, Py3, Py4, Py, RatApi, RatDone, Ref2Done, RefGcd, Pz0, Pz1, Pz2.
-/
import Derived.Test.YtnhpnnbjimnmlaaGreatDoorC3
import Derived.Test.YtnhpnnbjimnmlaaGreatDoorProg
import Derived.Below
import Derived.Deep.Draws
import Derived.Deep.AppendLies
import Derived.Maps.AppendAt
import Derived.OwnWalk
import Derived.Laws.BytesArg
import Derived.Laws.MakeOwn
import Derived.Laws.OwnMore
import Derived.Deep.OwnRows
import Derived.Tactics
import Derived.Lib.ConvBytes
import Derived.Laws.Slices
import Derived.WalkKit
import Derived.KernelRfl
import Derived.RowKit3
import Derived.Deep.LoopGhost
import Derived.Deep.QuietTactic
import Derived.BigQuiet
import Derived.WideLaws
import Derived.Deep.DeepCutAuto
import Derived.Deep.CutBlock
import Derived.Deep.RegionHeld3
import Derived.Laws.Rows
import Derived.Lib.AppendStr
import Derived.ArgAppend
import Derived.Laws.IdiomCopy
import Derived.OrdersHeld
import Derived.Laws.BitsLemmas
import Derived.RowKit
import Derived.Test.YtnhpnnbjimnmlaaGreatDoorC0
import Derived.Test.YtnhpnnbjimnmlaaGreatDoorC1
import Derived.Test.YtnhpnnbjimnmlaaGreatDoorC2
set_option linter.unusedVariables false
set_option linter.unusedSimpArgs false
open Go.RowKit Go.Proofs.YtnhpnnbjimnmlaaGreatDoorW.PrintWords Go.Proofs.YtnhpnnbjimnmlaaGreatDoorW.PrintLast Go.Proofs.YtnhpnnbjimnmlaaGreatDoorW.PrintMore
section
namespace Go.Proofs.YtnhpnnbjimnmlaaGreatDoor
def tenB : ByteArray := ⟨#[48, 49, 50, 51, 52, 53, 54, 55, 56, 57]⟩
theorem ten_cut {d : Nat} (h : d < 10) : (tenB.extract d (d + 1)).data.toList = [UInt8.ofNat (48 + d)] := by
 rcases (by omega : d = 0 ∨ d = 1 ∨ d = 2 ∨ d = 3 ∨ d = 4 ∨ d = 5 ∨ d = 6 ∨ d = 7 ∨ d = 8 ∨ d = 9) with rfl | rfl | rfl | rfl | rfl | rfl | rfl | rfl | rfl | rfl <;> rfl
theorem ten_cut_size {d : Nat} (h : d < 10) : (tenB.extract d (d + 1)).size = 1 := by rw [size_len, ten_cut h]; rfl
theorem rof_loop : ∀ (n : Nat) (s : ByteArray) (k : Nat), n + 1 ≤ k → n ≤ 9223372036854775807 → s.size + n / 2 ≤ 5000000000000000000 → Pq.r1_Of.l0 k (n : Int) s = some ⟨(Lib.decDigits n ++ s.data.toList).toArray⟩
 | n, s, k, hk, hn, hs => by
  obtain ⟨k, rfl⟩ : ∃ m, k = m + 1 := ⟨k - 1, by omega⟩
  simp only [Pq.r1_Of.l0]
  by_cases h : n < 10
  ·rw [if_neg (by omega), if_pos (by omega), w64 (x := (n : Int) + 1) (by omega) (by omega), if_pos (by omega), if_pos (by omega)]
   have e : ((n : Int) + 1).toNat = n + 1 := by omega
   rw [e, Int.toNat_natCast]
   have h1 := ten_cut_size h
   unfold tenB at h1
   rw [if_pos (by rw [h1]; omega)]
   congr 1
   apply bmk
   rw [Joins.data_append, dig_small h]
   have h2 := ten_cut h
   unfold tenB at h2
   rw [h2]
  ·rw [if_pos (by omega), Int.tmod_eq_emod_of_nonneg (by omega), Int.tdiv_eq_ediv_of_nonneg (by omega)]
   have e1 : (n : Int) % 10 = ((n % 10 : Nat) : Int) := by omega
   have e2 : (n : Int) / 10 = ((n / 10 : Nat) : Int) := by omega
   rw [e1, e2]
   clear e1 e2
   obtain ⟨d, hd⟩ : ∃ d, n % 10 = d := ⟨_, rfl⟩
   have hd10 : d < 10 := by omega
   obtain ⟨q, hq⟩ : ∃ q, n / 10 = q := ⟨_, rfl⟩
   have hq1 : q + 1 ≤ n := by omega
   have hq2 : q < n := by omega
   have hq3 : q / 2 + 1 ≤ n / 2 := by omega
   rw [hd, hq]
   have HD := Lib.hid hd
   have HQ := Lib.hid hq
   clear hd hq
   rw [if_pos (by omega), w64 (x := (d : Int) + 1) (by omega) (by omega), if_pos (by omega), if_pos (by omega)]
   have e : ((d : Int) + 1).toNat = d + 1 := by omega
   rw [e, Int.toNat_natCast]
   have h1 := ten_cut_size hd10
   unfold tenB at h1
   rw [if_pos (by rw [h1]; omega), w64 (x := (q : Int)) (by omega) (by omega)]
   have hsz : (((⟨#[48, 49, 50, 51, 52, 53, 54, 55, 56, 57]⟩ : ByteArray).extract d (d + 1)) ++ s).size = s.size + 1 := by rw [ByteArray.size_append, h1]; omega
   rw [rof_loop q _ k (by omega) (by omega) (by rw [hsz]; omega)]
   congr 1
   rw [dig_big h, HD.out, HQ.out, Joins.data_append]
   have h2 := ten_cut hd10
   unfold tenB at h2
   rw [h2, List.append_assoc]
 termination_by n => n
 decreasing_by exact hq2
theorem rof_f (n : Int) (h1 : n ≤ 9223372036854775807) (k : Nat) (hk : n.toNat + 1 ≤ k) : Pq.r1_Of.f k n = some (ofS n) := by
 unfold Pq.r1_Of.f ofS
 by_cases h : n < 0
 ·rw [if_pos h, if_pos h]
  rfl
 ·rw [if_neg h, if_neg h]
  obtain ⟨m, rfl⟩ := Int.eq_ofNat_of_zero_le (show 0 ≤ n by omega)
  rw [Int.toNat_natCast] at hk ⊢
  have h0 : (⟨#[]⟩ : ByteArray).size = 0 := rfl
  rw [rof_loop m _ k hk (by omega) (by rw [h0]; omega)]
  unfold natB
  simp
theorem push_f {R : Nat} {c : UInt8} (hc : isDig c = true) (t : ByteArray) (ht : t.data.toList = [c]) (k : Nat) (hsz : (natB R).size ≤ 1000000000) (hk : (natB R).size + 2 ≤ k) : Pq.r1_trim.f k (natB R ++ t) = some (natB (R * 10 + (c.toNat - 48))) := by
 have hl : (natB R ++ t).data.toList = Lib.decDigits R ++ [c] := by rw [Joins.data_append, natB_list, ht]
 have hs : (natB R ++ t).size = (natB R).size + 1 := by
  rw [size_len, hl, List.length_append, natB_size]
  rfl
 have h1 := trim_f (natB R ++ t) (by omega) k (by omega) (by rw [hl]; simp) (by rw [hl, List.all_append, dig_all]; simp [hc])
 rw [h1]
 unfold numB
 rw [hl, num_snoc, num_dig]
theorem rdiv_inner {a b q : ByteArray} {i : Nat} {N : Nat} (hN : N ≤ 50000) (hb : mayB b = true) (hbs : b.size ≤ N) (hB : 0 < numB b) (hqs : q.size ≤ N) {R0 : Nat} (hR0 : R0 < 10 * numB b) {need : Nat} {X : Option (ByteArray × ByteArray × Bool)} (hi : i ≤ N)
  (H : ∀ (k : Nat), need ≤ k → Pq.r1_Div.l0 k a b (q ++ tenB.extract (R0 / numB b) (R0 / numB b + 1)) (natB (R0 % numB b)) ((i + 1 : Nat) : Int) = X) :
  ∀ (e R d : Nat), R / numB b = e → R = R0 - d * numB b → d * numB b ≤ R0 → ∀ k, need + e + 1 ≤ k → 2 * N + 20 ≤ need → Pq.r1_Div.l1 k a b q (natB R) (i : Int) (d : Int) = X
 | 0, R, d, he, hR, hd, k, hk, hneed => by
  obtain ⟨k, rfl⟩ : ∃ m, k = m + 1 := ⟨k - 1, by omega⟩
  have hlt : R < numB b := by
   rcases Nat.lt_or_ge R (numB b) with h | h
   ·exact h
   ·have := Nat.div_pos h hB
    omega
  have hsz := natB_le hb (Nat.le_of_lt hlt)
  simp only [Pq.r1_Div.l1]
  rw [rcmp_f (N := N) (by omega) (by omega) hbs _ (by omega), Option.bind_some]
  have hc : cmpS (natB R) b = -1 := by
   unfold cmpS
   rw [if_pos (may2_eq (mayB_natB R) hb), numB_natB, cmpI_lt hlt]
  have hd10 : d < 10 := by
   have h1 : d * numB b < 10 * numB b := by omega
   exact Nat.lt_of_mul_lt_mul_right h1
  have hq : R0 / numB b = d := by
   have e1 : R0 = R + numB b * d := by rw [Nat.mul_comm (numB b) d]; omega
   rw [e1, Nat.add_mul_div_left _ _ hB, Nat.div_eq_of_lt hlt, Nat.zero_add]
  have hr : R0 % numB b = R := by
   have e1 : R0 = R + numB b * d := by rw [Nat.mul_comm (numB b) d]; omega
   rw [e1, Nat.add_mul_mod_self_left, Nat.mod_eq_of_lt hlt]
  rw [hq, hr] at H
  have h1 := ten_cut_size hd10
  rw [hc, if_neg (by decide), if_pos (by omega), w64 (x := (d : Int) + 1) (by omega) (by omega), if_pos (by omega), if_pos (by omega)]
  have e : ((d : Int) + 1).toNat = d + 1 := by omega
  rw [e, Int.toNat_natCast]
  have h1' := h1
  unfold tenB at h1'
  rw [if_pos (by rw [h1']; omega), w64 (x := (i : Int) + 1) (by omega) (by omega), show ((i : Int) + 1) = ((i + 1 : Nat) : Int) by omega]
  exact H k (by omega)
 | e + 1, R, d, he, hR, hd, k, hk, hneed => by
  obtain ⟨k, rfl⟩ : ∃ m, k = m + 1 := ⟨k - 1, by omega⟩
  have hge : numB b ≤ R := by
   rcases Nat.lt_or_ge R (numB b) with h | h
   ·rw [Nat.div_eq_of_lt h] at he
    omega
   ·exact h
  have hsz : (natB R).size ≤ N + 1 := by
   rw [natB_size]
   have h1 := num_lt (may_all hb)
   rw [← size_len] at h1
   have h2 : (10 : Nat) ^ b.size ≤ 10 ^ N := Nat.pow_le_pow_right (by omega) hbs
   apply dig_len_le _ (by omega)
   rw [Nat.pow_succ]
   unfold numB at hR0
   omega
  simp only [Pq.r1_Div.l1]
  rw [rcmp_f (N := N + 1) (by omega) hsz (by omega) _ (by omega), Option.bind_some]
  have hc : ¬ cmpS (natB R) b < 0 := by
   unfold cmpS
   rw [if_pos (may2_eq (mayB_natB R) hb), numB_natB, cmpI_neg]
   omega
  have hs : subS (natB R) b = (natB (R - numB b), true) := by
   unfold subS
   rw [numB_natB, if_pos (by rw [may2_eq (mayB_natB R) hb, decide_eq_true hge]; rfl)]
  rw [if_pos (by omega), rsub_f (N := N + 1) (by omega) hsz (by omega) _ (by omega), Option.bind_some, hs]
  have hd10 : d < 10 := by
   have h1 : d * numB b < 10 * numB b := by omega
   exact Nat.lt_of_mul_lt_mul_right h1
  rw [w64 (x := (d : Int) + 1) (by omega) (by omega), show ((d : Int) + 1) = ((d + 1 : Nat) : Int) by omega]
  have e1 : (d + 1) * numB b = d * numB b + numB b := by rw [Nat.add_mul, Nat.one_mul]
  refine rdiv_inner hN hb hbs hB hqs hR0 hi H e (R - numB b) (d + 1) ?_ (by omega) (by omega) k (by omega) hneed
  have e2 : R = (R - numB b) + numB b := by omega
  rw [e2, Nat.add_div_right _ hB] at he
  omega
theorem rdiv_loop {a b : ByteArray} {N : Nat} (hN : N ≤ 50000) (ha : mayB a = true) (hb : mayB b = true) (has : a.size ≤ N) (hbs : b.size ≤ N) (hB : 0 < numB b) :
  ∀ (e i : Nat), i + e = a.size → ∀ (q : ByteArray) (R k : Nat), e * 20 + 2 * N + 30 ≤ k → q.size = i → q.data.toList.all isDig = true → R < numB b → num q.data.toList * numB b + R = num (a.data.toList.take i) →
   Pq.r1_Div.l0 k a b q (natB R) (i : Int) = some (natB (numB a / numB b), natB (numB a % numB b), true)
 | 0, i, hi, q, R, k, hk, hq, hqd, hR, hv => by
  obtain ⟨k, rfl⟩ : ∃ m, k = m + 1 := ⟨k - 1, by omega⟩
  simp only [Pq.r1_Div.l0]
  have hpos := may_pos ha
  rw [if_neg (by omega), trim_f q (by omega) k (by omega) (by intro h; have := congrArg List.length h; rw [← size_len, List.length_nil] at this; omega) hqd, Option.bind_some]
  rw [List.take_of_length_le (by rw [← size_len]; omega)] at hv
  have e1 : numB a = R + numB b * numB q := by unfold numB at hv ⊢; rw [← hv, Nat.mul_comm (num b.data.toList)]; omega
  rw [e1, Nat.add_mul_div_left _ _ hB, Nat.div_eq_of_lt hR, Nat.zero_add, Nat.add_mul_mod_self_left, Nat.mod_eq_of_lt hR]
 | e + 1, i, hi, q, R, k, hk, hq, hqd, hR, hv => by
  obtain ⟨k, rfl⟩ : ∃ m, k = m + 1 := ⟨k - 1, by omega⟩
  obtain ⟨c, hc, _⟩ := bt_get a i (by omega)
  have hcd := List.all_eq_true.1 (may_all ha) c (List.mem_of_getElem? hc)
  have hcb := isDig_bounds hcd
  have hil : i < a.data.toList.length := by rw [← size_len]; omega
  have hcc : a.data.toList[i] = c := by
   rw [List.getElem?_eq_getElem hil] at hc
   exact Option.some.inj hc
  have hx : (a.extract i (i + 1)).data.toList = [c] := by
   rw [Lib.extract_data, List.drop_eq_getElem_cons hil, hcc, Nat.add_sub_cancel_left]
   rfl
  have hxs : (a.extract i (i + 1)).size = 1 := by rw [size_len, hx]; rfl
  have hsz := natB_le hb (Nat.le_of_lt hR)
  simp only [Pq.r1_Div.l0]
  rw [if_pos (by omega), if_pos (by omega), w64 (x := (i : Int) + 1) (by omega) (by omega), if_pos (by omega), if_pos (by omega)]
  have e0 : ((i : Int) + 1).toNat = i + 1 := by omega
  rw [e0, Int.toNat_natCast, if_pos (by rw [hxs]; omega), push_f hcd _ hx k (by omega) (by omega), Option.bind_some]
  have hR0 : R * 10 + (c.toNat - 48) < 10 * numB b := by omega
  have hdm := Nat.div_add_mod (R * 10 + (c.toNat - 48)) (numB b)
  have hml := Nat.mod_lt (R * 10 + (c.toNat - 48)) hB
  have hd10 : (R * 10 + (c.toNat - 48)) / numB b < 10 := Nat.div_lt_of_lt_mul (by rw [Nat.mul_comm (numB b)]; exact hR0)
  have hnum : num (a.data.toList.take (i + 1)) = num (a.data.toList.take i) * 10 + (c.toNat - 48) := by
   rw [List.take_succ_eq_append_getElem hil, hcc, num_snoc]
  obtain ⟨R0, hR0e⟩ : ∃ z, R * 10 + (c.toNat - 48) = z := ⟨_, rfl⟩
  rw [hR0e] at hR0 hdm hml hd10 ⊢
  have hcut := ten_cut hd10
  have hcuts := ten_cut_size hd10
  have hdig : isDig (UInt8.ofNat (48 + R0 / numB b)) = true := isDig_ofNat hd10
  have hdn := ofNat_dig hd10
  refine rdiv_inner (N := N) (need := e * 20 + 2 * N + 30) hN hb hbs hB (by omega) hR0 (by omega) ?_ (R0 / numB b) R0 0 rfl (by omega) (by omega) k (by omega) (by omega)
  intro k' hk'
  refine rdiv_loop hN ha hb has hbs hB e (i + 1) (by omega) _ _ k' hk' ?_ ?_ hml ?_
  ·rw [ByteArray.size_append, hcuts, hq]
  ·rw [Joins.data_append, hcut, List.all_append, hqd, List.all_cons, hdig]
   rfl
  ·rw [Joins.data_append, hcut, num_snoc, hnum, ← hv, hdn]
   rw [Nat.add_sub_cancel_left]
   generalize R0 / numB b = d at *
   generalize R0 % numB b = r at *
   generalize num q.data.toList = Q at *
   generalize numB b = B at *
   have e3 : (Q * 10 + d) * B = Q * B * 10 + B * d := by grind
   omega
theorem rdiv_f {a b : ByteArray} {N : Nat} (hN : N ≤ 50000) (ha : a.size ≤ N) (hb : b.size ≤ N) (k : Nat) (hk : 22 * N + 40 ≤ k) : Pq.r1_Div.f k a b = some (divS a b) := by
 obtain ⟨k, rfl⟩ : ∃ m, k = m + 1 := ⟨k - 1, by omega⟩
 unfold Pq.r1_Div.f
 rw [rmay_f a (by omega) _ (by omega), Option.bind_some]
 by_cases h1 : mayB a = true
 ·rw [if_pos h1, rmay_f b (by omega) _ (by omega), Option.bind_some]
  by_cases h2 : mayB b = true
  ·rw [if_pos h2]
   simp only [Pq.r1_Div.j0]
   unfold divS
   rw [may2_eq h1 h2, ByteArray.toList_eq]
   by_cases hc : numB b = 0
   ·rw [if_pos (by rw [beq_iff_eq, list48 h2]; exact hc), if_neg (by rw [hc]; decide)]
    rfl
   ·rw [if_neg (by rw [beq_iff_eq, list48 h2]; exact hc), if_pos (by rw [decide_eq_true hc]; rfl)]
    have e0 : (⟨#[48]⟩ : ByteArray) = natB 0 := by
     apply bext
     rw [natB_list, dig_small (by omega)]
     rfl
    rw [e0]
    exact rdiv_loop hN h1 h2 ha hb (by omega) a.size 0 (by omega) _ 0 k (by omega) rfl rfl (by omega) (by simp [num])
  ·rw [if_neg h2]
   unfold divS
   rw [(Bool.not_eq_true _).mp (may2_no2 (a := a) h2)]
   rfl
 ·rw [if_neg h1]
  unfold divS
  rw [(Bool.not_eq_true _).mp (may2_no1 (b := b) h1)]
  rfl
end Go.Proofs.YtnhpnnbjimnmlaaGreatDoor
end

section
namespace Go.Proofs.YtnhpnnbjimnmlaaGreatDoor
def r1_Of.f (a0 : Int) : Option ByteArray := if -9223372036854775808 ≤ a0 ∧ a0 ≤ 9223372036854775807 then some (ofS a0) else none
theorem r1_Of.calls (a0 : Int) (r : ByteArray) (w : World) (h : r1_Of.f a0 = some r) :
  Calls Tryz.prog 63 #[.int .i64 a0] w fun e w' => e = .returned (.string r) ∧ Below w.heap.size w w' := by
 unfold r1_Of.f at h
 split at h
 ·rename_i hp
  rw [← rof_f a0 hp.2 _ (Nat.le_refl _)] at h
  exact (Pq.r1_Of.calls _ a0 r w h).mono fun e w' ⟨he, hw⟩ => ⟨he, drawn_below hw⟩
 ·cases h
def r1_Cmp.f (a0 a1 : ByteArray) : Option Int := if sm2 a0 a1 = true then some (cmpS a0 a1) else none
theorem r1_Cmp.calls (a0 a1 : ByteArray) (r : Int) (w : World) (h : r1_Cmp.f a0 a1 = some r) :
  Calls Tryz.prog 49 #[.string a0, .string a1] w fun e w' => e = .returned (.int .i64 r) ∧ Below w.heap.size w w' := by
 unfold r1_Cmp.f at h
 split at h
 ·rename_i hp
  rw [← rcmp_f (N := 50000) (by omega) (sm_le (and2 hp).1) (sm_le (and2 hp).2) _ (Nat.le_refl _)] at h
  exact (Pq.r1_Cmp.calls _ a0 a1 r w h).mono fun e w' ⟨he, hw⟩ => ⟨he, drawn_below hw⟩
 ·cases h
def r1_Add.f (a0 a1 : ByteArray) : Option ByteArray := if sm2 a0 a1 = true then some (addS a0 a1) else none
theorem r1_Add.calls (a0 a1 : ByteArray) (r : ByteArray) (w : World) (h : r1_Add.f a0 a1 = some r) :
  Calls Tryz.prog 48 #[.string a0, .string a1] w fun e w' => e = .returned (.string r) ∧ Below w.heap.size w w' := by
 unfold r1_Add.f at h
 split at h
 ·rename_i hp
  rw [← radd_f (N := 50000) (by omega) (sm_le (and2 hp).1) (sm_le (and2 hp).2) _ (Nat.le_refl _)] at h
  exact Pq.r1_Add.calls _ a0 a1 r w h
 ·cases h
def r1_Sub.f (a0 a1 : ByteArray) : Option (ByteArray × Bool) := if sm2 a0 a1 = true then some (subS a0 a1) else none
theorem r1_Sub.calls (a0 a1 : ByteArray) (r1 : ByteArray) (r2 : Bool) (w : World) (h : r1_Sub.f a0 a1 = some (r1, r2)) :
  Calls Tryz.prog 50 #[.string a0, .string a1] w fun e w' => e = .returned (.tuple #[.string r1, .bool r2]) ∧ Below w.heap.size w w' := by
 unfold r1_Sub.f at h
 split at h
 ·rename_i hp
  rw [← rsub_f (N := 50000) (by omega) (sm_le (and2 hp).1) (sm_le (and2 hp).2) _ (Nat.le_refl _)] at h
  exact Pq.r1_Sub.calls _ a0 a1 r1 r2 w h
 ·cases h
def r1_Mul.f (a0 a1 : ByteArray) : Option ByteArray := if sm2 a0 a1 = true then some (mulS a0 a1) else none
theorem r1_Mul.calls (a0 a1 : ByteArray) (r : ByteArray) (w : World) (h : r1_Mul.f a0 a1 = some r) :
  Calls Tryz.prog 32 #[.string a0, .string a1] w fun e w' => e = .returned (.string r) ∧ Below w.heap.size w w' := by
 unfold r1_Mul.f at h
 split at h
 ·rename_i hp
  rw [← rmul_f (sm_le (and2 hp).1) (sm_le (and2 hp).2) _ (Nat.le_refl _)] at h
  exact Pq.r1_Mul.calls _ a0 a1 r w h
 ·cases h
def r1_Div.f (a0 a1 : ByteArray) : Option (ByteArray × ByteArray × Bool) := if sm2 a0 a1 = true then some (divS a0 a1) else none
theorem r1_Div.calls (a0 a1 : ByteArray) (r1 r2 : ByteArray) (r3 : Bool) (w : World) (h : r1_Div.f a0 a1 = some (r1, r2, r3)) :
  Calls Tryz.prog 47 #[.string a0, .string a1] w fun e w' => e = .returned (.tuple #[.string r1, .string r2, .bool r3]) ∧ Below w.heap.size w w' := by
 unfold r1_Div.f at h
 split at h
 ·rename_i hp
  rw [← rdiv_f (N := 50000) (by omega) (sm_le (and2 hp).1) (sm_le (and2 hp).2) _ (Nat.le_refl _)] at h
  exact Pq.r1_Div.calls _ a0 a1 r1 r2 r3 w h
 ·cases h
end Go.Proofs.YtnhpnnbjimnmlaaGreatDoor
end

attribute [local go_sem] max2_int min2_int max_two min_two max_three min_three max_four min_four   -- for this text's walks alone
section
namespace Go.Proofs.YtnhpnnbjimnmlaaGreatDoor.Px
def errW : Option Int → Value
 | none => .nilIface
 | some c => .iface 0 (.int .i64 c)
theorem errW_none : errW none = .nilIface := rfl
theorem errW_some (c : Int) : errW (some c) = .iface 0 (.int .i64 c) := rfl
end Go.Proofs.YtnhpnnbjimnmlaaGreatDoor.Px
end

section
namespace Go.Proofs.YtnhpnnbjimnmlaaGreatDoor.Px
def r2_amount.f (a0 : ByteArray) : Option (ByteArray × Bool) := if (a0.size : Int) > 0 then (if 0 < (a0.size : Int) then (if (bt a0 0) = 45 then (if 1 ≤ (a0.size : Int) then (some (a0.extract 1 a0.size, true)) else (none)) else (some (a0, false))) else (none)) else (some (a0, false))
set_option maxHeartbeats 8000000 in
set_option maxRecDepth 100000 in
theorem r2_amount.calls (a0 : ByteArray) (r1 : ByteArray) (r2 : Bool) (w : World) (h : r2_amount.f a0 = some (r1, r2)) :
  Calls Tryz.prog 38 #[.string a0] w fun e w' => e = .returned (.tuple #[.string r1, .bool r2]) ∧ Drawn0 w w' := by
 have H := h; unfold r2_amount.f at H; clear h; by_cases c2 : (a0.size : Int) > 0
 ·rw [if_pos c2] at H; have c2b0 : decide (0 < (a0.size : Int)) = true := decide_eq_true c2; have c2b1 : decide (0 < a0.size) = true := decide_eq_true (by omega); clear c2; by_cases c3 : 0 < (a0.size : Int)
  ·rw [if_pos c3] at H; have c3b0 : decide (0 < (a0.size : Int)) = true := decide_eq_true c3; have c3b1 : decide (0 < a0.size) = true := decide_eq_true (by omega); clear c3; by_cases c5 : (bt a0 0) = 45
   ·rw [if_pos c5] at H; have c5b0 : ((bt a0 0) == 45) = true := beq_iff_eq.mpr c5; have c5b1 : ((bt a0 0) != 45) = false := bne_eq_false_iff_eq.mpr c5; clear c5; by_cases c6 : 1 ≤ (a0.size : Int)
    ·rw [if_pos c6] at H; have c6b0 := eq_true c6; have c6b1 : decide (1 ≤ (a0.size : Int)) = true := decide_eq_true c6; clear c6; simp only [Option.some.injEq, Prod.mk.injEq] at H; obtain ⟨rfl, rfl⟩ := H; have p4 : 0 ≤ (0 : Int) := (by omega); have q4 : 0 < a0.size := (by have : (0 : Int) < (a0.size : Int) := of_decide_eq_true as_f; omega); have hx4 : ∀ h : 0 < a0.size, ((a0[0]'h).toNat : Int) = bt a0 0 := bt_at a0 0; clear p4; have qi4 : (0 < (a0.size : Int)) = True := eq_true (of_decide_eq_true as_f); replace q4 := eq_true q4; go_enter Tryz.func38, Tryz.ntmps38; go_wp2; go_ret2; exact ⟨by first | rfl | (simp; done) | (simp [*]; done), d0_⟩
    ·rw [if_neg c6] at H; exact absurd H (by simp)
   ·rw [if_neg c5] at H; have c5b0 : ((bt a0 0) == 45) = false := beq_eq_false_iff_ne.mpr c5; have c5b1 : ((bt a0 0) != 45) = true := bne_iff_ne.mpr c5; simp only [Option.some.injEq, Prod.mk.injEq] at H; obtain ⟨rfl, rfl⟩ := H; have p4 : 0 ≤ (0 : Int) := (by omega); have q4 : 0 < a0.size := (by have : (0 : Int) < (a0.size : Int) := of_decide_eq_true as_f; omega); have hx4 : ∀ h : 0 < a0.size, ((a0[0]'h).toNat : Int) = bt a0 0 := bt_at a0 0; clear p4; have qi4 : (0 < (a0.size : Int)) = True := eq_true (of_decide_eq_true as_f); replace q4 := eq_true q4; go_enter Tryz.func38, Tryz.ntmps38; go_wp2; go_ret2; exact ⟨by first | rfl | (simp; done) | (simp [*]; done), d0_⟩
  ·rw [if_neg c3] at H; exact absurd H (by simp)
 ·rw [if_neg c2] at H; have c2b0 : decide (0 < (a0.size : Int)) = false := decide_eq_false c2; have c2b1 : decide (0 < a0.size) = false := decide_eq_false (by omega); clear c2; simp only [Option.some.injEq, Prod.mk.injEq] at H; obtain ⟨rfl, rfl⟩ := H; go_enter Tryz.func38, Tryz.ntmps38; go_wp2; go_ret2; exact ⟨by first | rfl | (simp; done) | (simp [*]; done), d0_⟩
def r2_May.f (a0 : ByteArray) : Option (Bool) := (r2_amount.f a0).bind fun bt101 => ((r1_May.f bt101.1).bind fun t103 => (if t103 = true then (if bt101.2 = true then (some (bt101.1.toList != ([48] : List UInt8))) else (some true)) else (some false)))
set_option maxHeartbeats 8000000 in
set_option maxRecDepth 100000 in
theorem r2_May.calls (a0 : ByteArray) (r : Bool) (w : World) (h : r2_May.f a0 = some r) :
  Calls Tryz.prog 27 #[.string a0] w fun e w' => e = .returned (.bool r) ∧ Below w.heap.size w w' := by
 have HB := Aside0.mk (Below.refl w.heap.size w); have H := h; unfold r2_May.f at H; clear h; obtain ⟨⟨t101, t102⟩, A2, H⟩ := bi_ H; (try dsimp only at H); obtain ⟨t103, A3, H⟩ := bi_ H; by_cases c4 : t103 = true
 ·subst c4; rw [if_pos rfl] at H; by_cases c5 : t102 = true
  ·subst c5; rw [if_pos rfl] at H; obtain rfl := Option.some.inj H; go_enter Tryz.func27, Tryz.ntmps27
   go_wp2_with (first | (refine gl_ 7 Tryz.func38 #[.string a0] ?_; refine mo_ (r2_amount.calls a0 t101 true _ A2.out) ?_; rintro w' ⟨nd, rfl⟩) | (refine gl_ 11 Tryz.func28 #[.string t101] ?_; refine mo_ (r1_May.calls t101 true _ A3.out) ?_; intro w6 hb; replace HB := bs_ HB hb; (try clear hb); (try clear hb2); (try clear hk); (try clear hi)))
   go_ret
   exact ⟨er_, b_ HB.out⟩
  ·replace c5 := Bool.eq_false_iff.mpr c5; subst c5; rw [if_neg nf_] at H; obtain rfl := Option.some.inj H; go_enter Tryz.func27, Tryz.ntmps27
   go_wp2_with (first | (refine gl_ 7 Tryz.func38 #[.string a0] ?_; refine mo_ (r2_amount.calls a0 t101 false _ A2.out) ?_; rintro w' ⟨nd, rfl⟩) | (refine gl_ 11 Tryz.func28 #[.string t101] ?_; refine mo_ (r1_May.calls t101 true _ A3.out) ?_; intro w7 hb; replace HB := bs_ HB hb; (try clear hb); (try clear hb2); (try clear hk); (try clear hi)))
   go_ret
   exact ⟨er_, b_ HB.out⟩
 ·replace c4 := Bool.eq_false_iff.mpr c4; subst c4; rw [if_neg nf_] at H; obtain rfl := Option.some.inj H; go_enter Tryz.func27, Tryz.ntmps27
  go_wp2_with (first | (refine gl_ 7 Tryz.func38 #[.string a0] ?_; refine mo_ (r2_amount.calls a0 t101 t102 _ A2.out) ?_; rintro w' ⟨nd, rfl⟩) | (refine gl_ 11 Tryz.func28 #[.string t101] ?_; refine mo_ (r1_May.calls t101 false _ A3.out) ?_; intro w8 hb; replace HB := bs_ HB hb; (try clear hb); (try clear hb2); (try clear hk); (try clear hi)))
  go_ret
  exact ⟨er_, b_ HB.out⟩
def r2_Of.f (a0 : Int) : Option (ByteArray) := if a0 < 0 then ((r1_Of.f (wrap64 (-(wrap64 (a0 + 1))))).bind fun t104 => ((r1_Add.f t104 (⟨#[49]⟩ : ByteArray)).bind fun t105 => (if 1 + t105.size ≤ 9223372036854775807 then (some ((⟨#[45]⟩ : ByteArray) ++ t105)) else (none)))) else ((r1_Of.f a0).bind fun t106 => (some t106))
set_option maxHeartbeats 8000000 in
set_option maxRecDepth 100000 in
theorem r2_Of.calls (a0 : Int) (r : ByteArray) (w : World) (h : r2_Of.f a0 = some r) :
  Calls Tryz.prog 37 #[.int .i64 a0] w fun e w' => e = .returned (.string r) ∧ Below w.heap.size w w' := by
 have HB := Aside0.mk (Below.refl w.heap.size w); have H := h; unfold r2_Of.f at H; clear h; by_cases c2 : a0 < 0
 ·rw [if_pos c2] at H; have c2b0 : decide (a0 < 0) = true := decide_eq_true c2; clear c2; obtain ⟨t104, A3, H⟩ := bi_ H; obtain ⟨t105, A4, H⟩ := bi_ H; by_cases c5 : 1 + t105.size ≤ 9223372036854775807
  ·rw [if_pos c5] at H; have c5b0 := eq_true c5; have c5b1 : decide (1 + t105.size ≤ 9223372036854775807) = true := decide_eq_true c5
   try have c5b2 : (9223372036854775807 < 1 + t105.size) = False := eq_false (Nat.not_lt.2 c5)
   obtain rfl := Option.some.inj H; go_enter Tryz.func37, Tryz.ntmps37
   go_wp2_with (first | (refine gl_ 8 Tryz.func63 #[.int .i64 (wrap64 (-(wrap64 (a0 + 1))))] ?_; refine mo_ (r1_Of.calls (wrap64 (-(wrap64 (a0 + 1)))) t104 _ A3.out) ?_; intro w6 hb; replace HB := bs_ HB hb; (try clear hb); (try clear hb2); (try clear hk); (try clear hi)) | (refine gl_ 9 Tryz.func48 #[.string t104, .string (⟨#[49]⟩ : ByteArray)] ?_; refine mo_ (r1_Add.calls t104 (⟨#[49]⟩ : ByteArray) t105 _ A4.out) ?_; intro w7 hb; replace HB := bs_ HB hb; (try clear hb); (try clear hb2); (try clear hk); (try clear hi)))
   go_ret
   exact ⟨er_, b_ HB.out⟩
  ·rw [if_neg c5] at H; exact absurd H (by simp)
 ·rw [if_neg c2] at H; have c2b0 : decide (a0 < 0) = false := decide_eq_false c2; clear c2; obtain ⟨t106, A8, H⟩ := bi_ H; obtain rfl := Option.some.inj H; go_enter Tryz.func37, Tryz.ntmps37
  go_wp2_with (first | (refine gl_ 12 Tryz.func63 #[.int .i64 a0] ?_; refine mo_ (r1_Of.calls a0 t106 _ A8.out) ?_; intro w9 hb; replace HB := bs_ HB hb; (try clear hb); (try clear hb2); (try clear hk); (try clear hi)))
  go_ret
  exact ⟨er_, b_ HB.out⟩
def r2_Sign.j0 : Nat → Bool → Bool → Option (Int)
 | 0, _, _ => none
 | k + 1, x4, x16 => if x16 = true then (some 0) else (if x4 = true then (some (-1)) else (some 1))
def r2_Sign.f (k : Nat) (a0 : ByteArray) : Option (Int) := (r2_amount.f a0).bind fun bt107 => ((r2_May.f a0).bind fun t109 => (if t109 = true then (r2_Sign.j0 k bt107.2 (bt107.1.toList == ([48] : List UInt8))) else (r2_Sign.j0 k bt107.2 true)))
set_option maxHeartbeats 8000000 in
set_option maxRecDepth 100000 in
theorem r2_Sign.calls (k : Nat) (a0 : ByteArray) (r : Int) (w : World) (h : r2_Sign.f k a0 = some r) :
  Calls Tryz.prog 19 #[.string a0] w fun e w' => e = .returned (.int .i64 r) ∧ Below w.heap.size w w' := by
 have HB := Aside0.mk (Below.refl w.heap.size w); have H := h; unfold r2_Sign.f at H; clear h; obtain ⟨⟨t107, t108⟩, A2, H⟩ := bi_ H; (try dsimp only at H); have HC3 := Aside0.mk H; clear H; go_enter Tryz.func19, Tryz.ntmps19
 go_upto_region 2 with (first | (refine gl_ 7 Tryz.func38 #[.string a0] ?_; refine mo_ (r2_amount.calls a0 t107 t108 _ A2.out) ?_; rintro w' ⟨nd, rfl⟩))
 (try simp only [Act.put, List.setIfInBounds_toArray, List.set_cons_zero, List.set_cons_succ])
 go_cut [16] (fun v16 wc => ∃ (kq : Nat) (x16_2 : Bool), v16 = .bool x16_2 ∧ Aside0 (r2_Sign.j0 kq t108 x16_2 = some r) ∧ Aside0 (kq ≤ k) ∧ Aside0 (Below w.heap.size w wc))
 case first =>
  have H := HC3.out; clear HC3; obtain ⟨t109, A4, H⟩ := bi_ H; by_cases c5 : t109 = true
  ·subst c5; rw [if_pos rfl] at H; have H' := Aside0.mk H; clear H
   go_wp2_with (first | (refine gl_ 11 Tryz.func27 #[.string a0] ?_; refine mo_ (r2_May.calls a0 true _ A4.out) ?_; intro w6 hb; replace HB := bs_ HB hb; (try clear hb); (try clear hb2); (try clear hk); (try clear hi)))
   go_meet
   case rel => exact ⟨_, ((t107.toList == ([48] : List UInt8))), rl_, H', ⟨by first | omega | exact Nat.le_refl _⟩, ⟨b_ HB.out⟩⟩
  ·replace c5 := Bool.eq_false_iff.mpr c5; subst c5; rw [if_neg nf_] at H; have H' := Aside0.mk H; clear H
   go_wp2_with (first | (refine gl_ 11 Tryz.func27 #[.string a0] ?_; refine mo_ (r2_May.calls a0 false _ A4.out) ?_; intro w7 hb; replace HB := bs_ HB hb; (try clear hb); (try clear hb2); (try clear hk); (try clear hi)))
   go_meet
   case rel => exact ⟨_, (true), rl_, H', ⟨by first | omega | exact Nat.le_refl _⟩, ⟨b_ HB.out⟩⟩
 case rest =>
  clear HC3; (try clear c1); (try clear c2); (try clear p2); (try clear c3); (try clear c5); obtain ⟨kq, x16_2, rfl, HA, HJ2, HB⟩ := hcut
  cases kq with
  | zero => exact absurd HA.out (by simp [r2_Sign.j0])
  | succ kj2 =>
   have H := HA.out; clear HA; simp only [r2_Sign.j0] at H; by_cases c8 : x16_2 = true
   ·subst c8; rw [if_pos rfl] at H; obtain rfl := Option.some.inj H; go_wp2
    go_ret
    exact ⟨er_, b_ HB.out⟩
   ·replace c8 := Bool.eq_false_iff.mpr c8; subst c8; rw [if_neg nf_] at H; by_cases c9 : t108 = true
    ·subst c9; rw [if_pos rfl] at H; obtain rfl := Option.some.inj H; go_wp2
     go_ret
     exact ⟨er_, b_ HB.out⟩
    ·replace c9 := Bool.eq_false_iff.mpr c9; subst c9; rw [if_neg nf_] at H; obtain rfl := Option.some.inj H; go_wp2
     go_ret
     exact ⟨er_, b_ HB.out⟩
def r2_Abs.f (a0 : ByteArray) : Option (ByteArray) := (r2_May.f a0).bind fun t110 => (if t110 = true then ((r2_amount.f a0).bind fun bt111 => (some bt111.1)) else (some (⟨#[]⟩ : ByteArray)))
set_option maxHeartbeats 8000000 in
set_option maxRecDepth 100000 in
theorem r2_Abs.calls (a0 : ByteArray) (r : ByteArray) (w : World) (h : r2_Abs.f a0 = some r) :
  Calls Tryz.prog 30 #[.string a0] w fun e w' => e = .returned (.string r) ∧ Below w.heap.size w w' := by
 have HB := Aside0.mk (Below.refl w.heap.size w); have H := h; unfold r2_Abs.f at H; clear h; obtain ⟨t110, A2, H⟩ := bi_ H; by_cases c3 : t110 = true
 ·subst c3; rw [if_pos rfl] at H; obtain ⟨⟨t111, t112⟩, A4, H⟩ := bi_ H; (try dsimp only at H); obtain rfl := Option.some.inj H; go_enter Tryz.func30, Tryz.ntmps30
  go_wp2_with (first | (refine gl_ 6 Tryz.func27 #[.string a0] ?_; refine mo_ (r2_May.calls a0 true _ A2.out) ?_; intro w5 hb; replace HB := bs_ HB hb; (try clear hb); (try clear hb2); (try clear hk); (try clear hi)) | (refine gl_ 10 Tryz.func38 #[.string a0] ?_; refine mo_ (r2_amount.calls a0 t111 t112 _ A4.out) ?_; rintro w' ⟨nd, rfl⟩))
  go_ret
  exact ⟨er_, b_ HB.out⟩
 ·replace c3 := Bool.eq_false_iff.mpr c3; subst c3; rw [if_neg nf_] at H; obtain rfl := Option.some.inj H; go_enter Tryz.func30, Tryz.ntmps30
  go_wp2_with (first | (refine gl_ 6 Tryz.func27 #[.string a0] ?_; refine mo_ (r2_May.calls a0 false _ A2.out) ?_; intro w6 hb; replace HB := bs_ HB hb; (try clear hb); (try clear hb2); (try clear hk); (try clear hi)))
  go_ret
  exact ⟨er_, b_ HB.out⟩
def r2_with.f (a0 : ByteArray) (a1 : Bool) : Option (ByteArray) := if a1 = true then (if a0.toList = ([48] : List UInt8) then (some a0) else (if 1 + a0.size ≤ 9223372036854775807 then (some ((⟨#[45]⟩ : ByteArray) ++ a0)) else (none))) else (some a0)
set_option maxHeartbeats 8000000 in
set_option maxRecDepth 100000 in
theorem r2_with.calls (a0 : ByteArray) (a1 : Bool) (r : ByteArray) (w : World) (h : r2_with.f a0 a1 = some r) :
  Calls Tryz.prog 46 #[.string a0, .bool a1] w fun e w' => e = .returned (.string r) ∧ Drawn0 w w' := by
 have H := h; unfold r2_with.f at H; clear h; by_cases c3 : a1 = true
 ·subst c3; rw [if_pos rfl] at H; by_cases c4 : a0.toList = ([48] : List UInt8)
  ·rw [if_pos c4] at H; have c4b0 : (a0.toList == ([48] : List UInt8)) = true := beq_iff_eq.mpr c4; have c4b1 : (a0.toList != ([48] : List UInt8)) = false := bne_eq_false_iff_eq.mpr c4; clear c4; obtain rfl := Option.some.inj H; go_enter Tryz.func46, Tryz.ntmps46; go_wp2
   go_ret
   exact ⟨by first | rfl | (simp; done) | (simp [*]; done), d0_⟩
  ·rw [if_neg c4] at H; have c4b0 : (a0.toList == ([48] : List UInt8)) = false := beq_eq_false_iff_ne.mpr c4; have c4b1 : (a0.toList != ([48] : List UInt8)) = true := bne_iff_ne.mpr c4; by_cases c5 : 1 + a0.size ≤ 9223372036854775807
   ·rw [if_pos c5] at H; have c5b0 := eq_true c5; have c5b1 : decide (1 + a0.size ≤ 9223372036854775807) = true := decide_eq_true c5
    try have c5b2 : (9223372036854775807 < 1 + a0.size) = False := eq_false (Nat.not_lt.2 c5)
    obtain rfl := Option.some.inj H; go_enter Tryz.func46, Tryz.ntmps46; go_wp2
    go_ret
    exact ⟨by first | rfl | (simp; done) | (simp [*]; done), d0_⟩
   ·rw [if_neg c5] at H; exact absurd H (by simp)
 ·replace c3 := Bool.eq_false_iff.mpr c3; subst c3; rw [if_neg nf_] at H; obtain rfl := Option.some.inj H; go_enter Tryz.func46, Tryz.ntmps46; go_wp2
  go_ret
  exact ⟨by first | rfl | (simp; done) | (simp [*]; done), d0_⟩
def r2_Neg.f (a0 : ByteArray) : Option (ByteArray) := (r2_May.f a0).bind fun t113 => (if t113 = true then ((r2_amount.f a0).bind fun bt114 => ((r2_with.f bt114.1 (!bt114.2)).bind fun t116 => (some t116))) else (some (⟨#[]⟩ : ByteArray)))
set_option maxHeartbeats 8000000 in
set_option maxRecDepth 100000 in
theorem r2_Neg.calls (a0 : ByteArray) (r : ByteArray) (w : World) (h : r2_Neg.f a0 = some r) :
  Calls Tryz.prog 26 #[.string a0] w fun e w' => e = .returned (.string r) ∧ Below w.heap.size w w' := by
 have HB := Aside0.mk (Below.refl w.heap.size w); have H := h; unfold r2_Neg.f at H; clear h; obtain ⟨t113, A2, H⟩ := bi_ H; by_cases c3 : t113 = true
 ·subst c3; rw [if_pos rfl] at H; obtain ⟨⟨t114, t115⟩, A4, H⟩ := bi_ H; (try dsimp only at H); obtain ⟨t116, A5, H⟩ := bi_ H; obtain rfl := Option.some.inj H; go_enter Tryz.func26, Tryz.ntmps26
  go_wp2_with (first | (refine gl_ 6 Tryz.func27 #[.string a0] ?_; refine mo_ (r2_May.calls a0 true _ A2.out) ?_; intro w6 hb; replace HB := bs_ HB hb; (try clear hb); (try clear hb2); (try clear hk); (try clear hi)) | (refine gl_ 10 Tryz.func38 #[.string a0] ?_; refine mo_ (r2_amount.calls a0 t114 t115 _ A4.out) ?_; rintro w' ⟨nd, rfl⟩) | (refine gl_ 16 Tryz.func46 #[.string t114, .bool (!t115)] ?_; refine mo_ (r2_with.calls t114 (!t115) t116 _ A5.out) ?_; rintro w' ⟨nd, rfl⟩))
  go_ret
  exact ⟨er_, b_ HB.out⟩
 ·replace c3 := Bool.eq_false_iff.mpr c3; subst c3; rw [if_neg nf_] at H; obtain rfl := Option.some.inj H; go_enter Tryz.func26, Tryz.ntmps26
  go_wp2_with (first | (refine gl_ 6 Tryz.func27 #[.string a0] ?_; refine mo_ (r2_May.calls a0 false _ A2.out) ?_; intro w7 hb; replace HB := bs_ HB hb; (try clear hb); (try clear hb2); (try clear hk); (try clear hi)))
  go_ret
  exact ⟨er_, b_ HB.out⟩
def r2_Add.j0 : Nat → ByteArray → ByteArray → Bool → Option (ByteArray)
 | 0, _, _, _ => none
 | k + 1, x0, x1, x20 => if x20 = true then (some (⟨#[]⟩ : ByteArray)) else ((r2_amount.f x0).bind fun bt119 => ((r2_amount.f x1).bind fun bt121 => (if (bt119.2 == bt121.2) = true then ((r1_Add.f bt119.1 bt121.1).bind fun t123 => ((r2_with.f t123 bt119.2).bind fun t124 => (some t124))) else ((r1_Cmp.f bt119.1 bt121.1).bind fun t125 => (if t125 ≥ 0 then ((r1_Sub.f bt119.1 bt121.1).bind fun bt126 => ((r2_with.f bt126.1 bt119.2).bind fun t128 => (some t128))) else ((r1_Sub.f bt121.1 bt119.1).bind fun bt129 => ((r2_with.f bt129.1 bt121.2).bind fun t131 => (some t131))))))))
def r2_Add.f (k : Nat) (a0 : ByteArray) (a1 : ByteArray) : Option (ByteArray) := (r2_May.f a0).bind fun t117 => (if t117 = true then ((r2_May.f a1).bind fun t118 => (r2_Add.j0 k a0 a1 (!t118))) else (r2_Add.j0 k a0 a1 true))
set_option maxHeartbeats 8000000 in
set_option maxRecDepth 100000 in
theorem r2_Add.calls (k : Nat) (a0 : ByteArray) (a1 : ByteArray) (r : ByteArray) (w : World) (h : r2_Add.f k a0 a1 = some r) :
  Calls Tryz.prog 31 #[.string a0, .string a1] w fun e w' => e = .returned (.string r) ∧ Below w.heap.size w w' := by
 have HB := Aside0.mk (Below.refl w.heap.size w); have H := h; unfold r2_Add.f at H; clear h; have HC3 := Aside0.mk H; clear H; go_enter Tryz.func31, Tryz.ntmps31
 go_upto_region 1 with (fail)
 go_cut [20] (fun v20 wc => ∃ (kq : Nat) (x20_2 : Bool), v20 = .bool x20_2 ∧ Aside0 (r2_Add.j0 kq a0 a1 x20_2 = some r) ∧ Aside0 (kq ≤ k) ∧ Aside0 (Below w.heap.size w wc))
 case first =>
  have H := HC3.out; clear HC3; obtain ⟨t117, A4, H⟩ := bi_ H; by_cases c5 : t117 = true
  ·subst c5; rw [if_pos rfl] at H; obtain ⟨t118, A6, H⟩ := bi_ H; have H' := Aside0.mk H; clear H
   go_wp2_with (first | (refine gl_ 14 Tryz.func27 #[.string a0] ?_; refine mo_ (r2_May.calls a0 true _ A4.out) ?_; intro w7 hb; replace HB := bs_ HB hb; (try clear hb); (try clear hb2); (try clear hk); (try clear hi)) | (go_at_call 27; (with_reducible refine (r2_May.calls a1 t118 _ A6.out).mono ?_); rintro e w8 ⟨rfl, hb⟩; replace HB := bs_ HB hb; (try clear hb); (try clear hb2); (try clear hk); (try clear hi)))
   go_meet
   case rel => exact ⟨_, (!t118), rl_, H', ⟨by first | omega | exact Nat.le_refl _⟩, ⟨b_ HB.out⟩⟩
  ·replace c5 := Bool.eq_false_iff.mpr c5; subst c5; rw [if_neg nf_] at H; have H' := Aside0.mk H; clear H
   go_wp2_with (first | (refine gl_ 14 Tryz.func27 #[.string a0] ?_; refine mo_ (r2_May.calls a0 false _ A4.out) ?_; intro w9 hb; replace HB := bs_ HB hb; (try clear hb); (try clear hb2); (try clear hk); (try clear hi)))
   go_meet
   case rel => exact ⟨_, (true), rl_, H', ⟨by first | omega | exact Nat.le_refl _⟩, ⟨b_ HB.out⟩⟩
 case rest =>
  clear HC3; (try clear c2); (try clear p2); (try clear c3); (try clear c5); obtain ⟨kq, x20_2, rfl, HA, HJ2, HB⟩ := hcut
  cases kq with
  | zero => exact absurd HA.out (by simp [r2_Add.j0])
  | succ kj2 =>
   have H := HA.out; clear HA; simp only [r2_Add.j0] at H; by_cases c10 : x20_2 = true
   ·subst c10; rw [if_pos rfl] at H; obtain rfl := Option.some.inj H; go_wp2
    go_ret
    exact ⟨er_, b_ HB.out⟩
   ·replace c10 := Bool.eq_false_iff.mpr c10; subst c10; rw [if_neg nf_] at H; obtain ⟨⟨t119, t120⟩, A11, H⟩ := bi_ H; (try dsimp only at H); obtain ⟨⟨t121, t122⟩, A12, H⟩ := bi_ H; (try dsimp only at H); by_cases c13 : (t120 == t122) = true
    ·rw [if_pos c13] at H; have c13b0 : (t120 == t122) = true := c13; (try (have c13b1 : decide (t120 = t122) = true := by simpa using c13)); (try (have c13b2 : (t120 == t122) = true := by simpa using c13)); clear c13; obtain ⟨t123, A14, H⟩ := bi_ H; obtain ⟨t124, A15, H⟩ := bi_ H; obtain rfl := Option.some.inj H
     go_wp2_with (first | (refine gl_ 23 Tryz.func38 #[.string a0] ?_; refine mo_ (r2_amount.calls a0 t119 t120 _ A11.out) ?_; rintro w' ⟨nd, rfl⟩) | (refine gl_ 28 Tryz.func38 #[.string a1] ?_; refine mo_ (r2_amount.calls a1 t121 t122 _ A12.out) ?_; rintro w' ⟨nd, rfl⟩) | (refine gl_ 36 Tryz.func48 #[.string t119, .string t121] ?_; refine mo_ (r1_Add.calls t119 t121 t123 _ A14.out) ?_; intro w16 hb; replace HB := bs_ HB hb; (try clear hb); (try clear hb2); (try clear hk); (try clear hi)) | (refine gl_ 38 Tryz.func46 #[.string t123, .bool t120] ?_; refine mo_ (r2_with.calls t123 t120 t124 _ A15.out) ?_; rintro w' ⟨nd, rfl⟩))
     go_ret
     exact ⟨er_, b_ HB.out⟩
    ·rw [if_neg c13] at H
     have c13b0 : (t120 == t122) = false := by simpa using c13
     (try (have c13b1 : decide (t120 = t122) = false := by simpa using c13)); (try (have c13b2 : (t120 == t122) = false := by simpa using c13)); (try (have c13b3 : ¬ (t120 = t122) := by simpa using c13)); clear c13; obtain ⟨t125, A17, H⟩ := bi_ H; by_cases c18 : t125 ≥ 0
     ·rw [if_pos c18] at H; have c18b0 : decide (0 ≤ t125) = true := decide_eq_true c18; clear c18; obtain ⟨⟨t126, t127⟩, A19, H⟩ := bi_ H; (try dsimp only at H); obtain ⟨t128, A20, H⟩ := bi_ H; obtain rfl := Option.some.inj H
      go_wp2_with (first | (refine gl_ 23 Tryz.func38 #[.string a0] ?_; refine mo_ (r2_amount.calls a0 t119 t120 _ A11.out) ?_; rintro w' ⟨nd, rfl⟩) | (refine gl_ 28 Tryz.func38 #[.string a1] ?_; refine mo_ (r2_amount.calls a1 t121 t122 _ A12.out) ?_; rintro w' ⟨nd, rfl⟩) | (refine gl_ 41 Tryz.func49 #[.string t119, .string t121] ?_; refine mo_ (r1_Cmp.calls t119 t121 t125 _ A17.out) ?_; intro w21 hb; replace HB := bs_ HB hb; (try clear hb); (try clear hb2); (try clear hk); (try clear hi)) | (refine gl_ 46 Tryz.func50 #[.string t119, .string t121] ?_; refine mo_ (r1_Sub.calls t119 t121 t126 t127 _ A19.out) ?_; intro w22 hb; replace HB := bs_ HB hb; (try clear hb); (try clear hb2); (try clear hk); (try clear hi)) | (refine gl_ 51 Tryz.func46 #[.string t126, .bool t120] ?_; refine mo_ (r2_with.calls t126 t120 t128 _ A20.out) ?_; rintro w' ⟨nd, rfl⟩))
      go_ret
      exact ⟨er_, b_ HB.out⟩
     ·rw [if_neg c18] at H; have c18b0 : decide (0 ≤ t125) = false := decide_eq_false c18; clear c18; obtain ⟨⟨t129, t130⟩, A23, H⟩ := bi_ H; (try dsimp only at H); obtain ⟨t131, A24, H⟩ := bi_ H; obtain rfl := Option.some.inj H
      go_wp2_with (first | (refine gl_ 23 Tryz.func38 #[.string a0] ?_; refine mo_ (r2_amount.calls a0 t119 t120 _ A11.out) ?_; rintro w' ⟨nd, rfl⟩) | (refine gl_ 28 Tryz.func38 #[.string a1] ?_; refine mo_ (r2_amount.calls a1 t121 t122 _ A12.out) ?_; rintro w' ⟨nd, rfl⟩) | (refine gl_ 41 Tryz.func49 #[.string t119, .string t121] ?_; refine mo_ (r1_Cmp.calls t119 t121 t125 _ A17.out) ?_; intro w25 hb; replace HB := bs_ HB hb; (try clear hb); (try clear hb2); (try clear hk); (try clear hi)) | (refine gl_ 55 Tryz.func50 #[.string t121, .string t119] ?_; refine mo_ (r1_Sub.calls t121 t119 t129 t130 _ A23.out) ?_; intro w26 hb; replace HB := bs_ HB hb; (try clear hb); (try clear hb2); (try clear hk); (try clear hi)) | (refine gl_ 60 Tryz.func46 #[.string t129, .bool t122] ?_; refine mo_ (r2_with.calls t129 t122 t131 _ A24.out) ?_; rintro w' ⟨nd, rfl⟩))
      go_ret
      exact ⟨er_, b_ HB.out⟩
def r2_Mul.j0 : Nat → ByteArray → ByteArray → Bool → Option (ByteArray)
 | 0, _, _, _ => none
 | k + 1, x0, x1, x16 => if x16 = true then (some (⟨#[]⟩ : ByteArray)) else ((r2_amount.f x0).bind fun bt134 => ((r2_amount.f x1).bind fun bt136 => ((r1_Mul.f bt134.1 bt136.1).bind fun t138 => ((r2_with.f t138 (bt134.2 != bt136.2)).bind fun t139 => (some t139)))))
def r2_Mul.f (k : Nat) (a0 : ByteArray) (a1 : ByteArray) : Option (ByteArray) := (r2_May.f a0).bind fun t132 => (if t132 = true then ((r2_May.f a1).bind fun t133 => (r2_Mul.j0 k a0 a1 (!t133))) else (r2_Mul.j0 k a0 a1 true))
set_option maxHeartbeats 8000000 in
set_option maxRecDepth 100000 in
theorem r2_Mul.calls (k : Nat) (a0 : ByteArray) (a1 : ByteArray) (r : ByteArray) (w : World) (h : r2_Mul.f k a0 a1 = some r) :
  Calls Tryz.prog 25 #[.string a0, .string a1] w fun e w' => e = .returned (.string r) ∧ Below w.heap.size w w' := by
 have HB := Aside0.mk (Below.refl w.heap.size w); have H := h; unfold r2_Mul.f at H; clear h; have HC3 := Aside0.mk H; clear H; go_enter Tryz.func25, Tryz.ntmps25
 go_upto_region 1 with (fail)
 go_cut [16] (fun v16 wc => ∃ (kq : Nat) (x16_2 : Bool), v16 = .bool x16_2 ∧ Aside0 (r2_Mul.j0 kq a0 a1 x16_2 = some r) ∧ Aside0 (kq ≤ k) ∧ Aside0 (Below w.heap.size w wc))
 case first =>
  have H := HC3.out; clear HC3; obtain ⟨t132, A4, H⟩ := bi_ H; by_cases c5 : t132 = true
  ·subst c5; rw [if_pos rfl] at H; obtain ⟨t133, A6, H⟩ := bi_ H; have H' := Aside0.mk H; clear H
   go_wp2_with (first | (refine gl_ 10 Tryz.func27 #[.string a0] ?_; refine mo_ (r2_May.calls a0 true _ A4.out) ?_; intro w7 hb; replace HB := bs_ HB hb; (try clear hb); (try clear hb2); (try clear hk); (try clear hi)) | (go_at_call 27; (with_reducible refine (r2_May.calls a1 t133 _ A6.out).mono ?_); rintro e w8 ⟨rfl, hb⟩; replace HB := bs_ HB hb; (try clear hb); (try clear hb2); (try clear hk); (try clear hi)))
   go_meet
   case rel => exact ⟨_, (!t133), rl_, H', ⟨by first | omega | exact Nat.le_refl _⟩, ⟨b_ HB.out⟩⟩
  ·replace c5 := Bool.eq_false_iff.mpr c5; subst c5; rw [if_neg nf_] at H; have H' := Aside0.mk H; clear H
   go_wp2_with (first | (refine gl_ 10 Tryz.func27 #[.string a0] ?_; refine mo_ (r2_May.calls a0 false _ A4.out) ?_; intro w9 hb; replace HB := bs_ HB hb; (try clear hb); (try clear hb2); (try clear hk); (try clear hi)))
   go_meet
   case rel => exact ⟨_, (true), rl_, H', ⟨by first | omega | exact Nat.le_refl _⟩, ⟨b_ HB.out⟩⟩
 case rest =>
  clear HC3; (try clear c2); (try clear p2); (try clear c5); obtain ⟨kq, x16_2, rfl, HA, HJ2, HB⟩ := hcut
  cases kq with
  | zero => exact absurd HA.out (by simp [r2_Mul.j0])
  | succ kj2 =>
   have H := HA.out; clear HA; simp only [r2_Mul.j0] at H; by_cases c10 : x16_2 = true
   ·subst c10; rw [if_pos rfl] at H; obtain rfl := Option.some.inj H; go_wp2
    go_ret
    exact ⟨er_, b_ HB.out⟩
   ·replace c10 := Bool.eq_false_iff.mpr c10; subst c10; rw [if_neg nf_] at H; obtain ⟨⟨t134, t135⟩, A11, H⟩ := bi_ H; (try dsimp only at H); obtain ⟨⟨t136, t137⟩, A12, H⟩ := bi_ H; (try dsimp only at H); obtain ⟨t138, A13, H⟩ := bi_ H; obtain ⟨t139, A14, H⟩ := bi_ H; obtain rfl := Option.some.inj H
    go_wp2_with (first | (refine gl_ 19 Tryz.func38 #[.string a0] ?_; refine mo_ (r2_amount.calls a0 t134 t135 _ A11.out) ?_; rintro w' ⟨nd, rfl⟩) | (refine gl_ 24 Tryz.func38 #[.string a1] ?_; refine mo_ (r2_amount.calls a1 t136 t137 _ A12.out) ?_; rintro w' ⟨nd, rfl⟩) | (refine gl_ 29 Tryz.func32 #[.string t134, .string t136] ?_; refine mo_ (r1_Mul.calls t134 t136 t138 _ A13.out) ?_; intro w15 hb; replace HB := bs_ HB hb; (try clear hb); (try clear hb2); (try clear hk); (try clear hi)) | (refine gl_ 33 Tryz.func46 #[.string t138, .bool (t135 != t137)] ?_; refine mo_ (r2_with.calls t138 (t135 != t137) t139 _ A14.out) ?_; rintro w' ⟨nd, rfl⟩))
    go_ret
    exact ⟨er_, b_ HB.out⟩
end Go.Proofs.YtnhpnnbjimnmlaaGreatDoor.Px
end

section
namespace Go.Proofs.YtnhpnnbjimnmlaaGreatDoor.Px
mutual
def r2_Div.j0 : Nat → ByteArray → ByteArray → Bool → Option (ByteArray × ByteArray × Bool)
 | 0, _, _, _ => none
 | k + 1, x0, x1, x27 => if x27 = true then (some ((⟨#[]⟩ : ByteArray), (⟨#[]⟩ : ByteArray), false)) else ((r2_amount.f x0).bind fun bt142 => ((r2_amount.f x1).bind fun bt144 => ((r1_Div.f bt142.1 bt144.1).bind fun bt146 => (if bt142.2 = true then (r2_Div.j1 k bt142.2 bt144.1 bt144.2 bt146.1 bt146.2.1 (bt146.2.1.toList != ([48] : List UInt8))) else (r2_Div.j1 k bt142.2 bt144.1 bt144.2 bt146.1 bt146.2.1 false)))))
def r2_Div.j1 : Nat → Bool → ByteArray → Bool → ByteArray → ByteArray → Bool → Option (ByteArray × ByteArray × Bool)
 | 0, _, _, _, _, _, _ => none
 | k + 1, x8, x9, x10, x11, x12, x49 => if x49 = true then ((r1_Add.f x11 (⟨#[49]⟩ : ByteArray)).bind fun t149 => ((r1_Sub.f x9 x12).bind fun bt150 => ((r2_with.f t149 (x8 != x10)).bind fun t152 => (some (t152, bt150.1, true))))) else ((r2_with.f x11 (x8 != x10)).bind fun t153 => (some (t153, x12, true)))
end
def r2_Div.f (k : Nat) (a0 : ByteArray) (a1 : ByteArray) : Option (ByteArray × ByteArray × Bool) := (r2_May.f a0).bind fun t140 => (if t140 = true then ((r2_May.f a1).bind fun t141 => (if t141 = true then (r2_Div.j0 k a0 a1 (a1.toList == ([48] : List UInt8))) else (r2_Div.j0 k a0 a1 true))) else (r2_Div.j0 k a0 a1 true))
set_option maxHeartbeats 8000000 in
set_option maxRecDepth 100000 in
theorem r2_Div.calls (k : Nat) (a0 : ByteArray) (a1 : ByteArray) (r1 : ByteArray) (r2 : ByteArray) (r3 : Bool) (w : World) (h : r2_Div.f k a0 a1 = some (r1, r2, r3)) :
  Calls Tryz.prog 45 #[.string a0, .string a1] w fun e w' => e = .returned (.tuple #[.string r1, .string r2, .bool r3]) ∧ Below w.heap.size w w' := by
 have HB := Aside0.mk (Below.refl w.heap.size w); have H := h; unfold r2_Div.f at H; clear h; have HC3 := Aside0.mk H; clear H; go_enter Tryz.func45, Tryz.ntmps45
 go_upto_region 1 with (fail)
 go_cut [27] (fun v27 wc => ∃ (kq : Nat) (x27_2 : Bool), v27 = .bool x27_2 ∧ Aside0 (r2_Div.j0 kq a0 a1 x27_2 = some (r1, r2, r3)) ∧ Aside0 (kq ≤ k) ∧ Aside0 (Below w.heap.size w wc))
 case first =>
  have H := HC3.out; clear HC3; obtain ⟨t140, A4, H⟩ := bi_ H; by_cases c5 : t140 = true
  ·subst c5; rw [if_pos rfl] at H; obtain ⟨t141, A6, H⟩ := bi_ H; by_cases c7 : t141 = true
   ·subst c7; rw [if_pos rfl] at H; have H' := Aside0.mk H; clear H
    go_wp2_with (first | (refine gl_ 17 Tryz.func27 #[.string a0] ?_; refine mo_ (r2_May.calls a0 true _ A4.out) ?_; intro w8 hb; replace HB := bs_ HB hb; (try clear hb); (try clear hb2); (try clear hk); (try clear hi)) | (go_at_call 27; (with_reducible refine (r2_May.calls a1 true _ A6.out).mono ?_); rintro e w9 ⟨rfl, hb⟩; replace HB := bs_ HB hb; (try clear hb); (try clear hb2); (try clear hk); (try clear hi)))
    go_meet
    case rel => exact ⟨_, ((a1.toList == ([48] : List UInt8))), rl_, H', ⟨by first | omega | exact Nat.le_refl _⟩, ⟨b_ HB.out⟩⟩
   ·replace c7 := Bool.eq_false_iff.mpr c7; subst c7; rw [if_neg nf_] at H; have H' := Aside0.mk H; clear H
    go_wp2_with (first | (refine gl_ 17 Tryz.func27 #[.string a0] ?_; refine mo_ (r2_May.calls a0 true _ A4.out) ?_; intro w10 hb; replace HB := bs_ HB hb; (try clear hb); (try clear hb2); (try clear hk); (try clear hi)) | (go_at_call 27; (with_reducible refine (r2_May.calls a1 false _ A6.out).mono ?_); rintro e w11 ⟨rfl, hb⟩; replace HB := bs_ HB hb; (try clear hb); (try clear hb2); (try clear hk); (try clear hi)))
    go_meet
    case rel => exact ⟨_, (true), rl_, H', ⟨by first | omega | exact Nat.le_refl _⟩, ⟨b_ HB.out⟩⟩
  ·replace c5 := Bool.eq_false_iff.mpr c5; subst c5; rw [if_neg nf_] at H; have H' := Aside0.mk H; clear H
   go_wp2_with (first | (refine gl_ 17 Tryz.func27 #[.string a0] ?_; refine mo_ (r2_May.calls a0 false _ A4.out) ?_; intro w12 hb; replace HB := bs_ HB hb; (try clear hb); (try clear hb2); (try clear hk); (try clear hi)))
   go_meet
   case rel => exact ⟨_, (true), rl_, H', ⟨by first | omega | exact Nat.le_refl _⟩, ⟨b_ HB.out⟩⟩
 case rest =>
  clear HC3; (try clear c2); (try clear p2); (try clear c4); (try clear c5); (try clear c7); obtain ⟨kq, x27_2, rfl, HA, HJ2, HB⟩ := hcut
  cases kq with
  | zero => exact absurd HA.out (by simp [r2_Div.j0])
  | succ kj2 =>
   have H := HA.out; clear HA; simp only [r2_Div.j0] at H; by_cases c13 : x27_2 = true
   ·subst c13; rw [if_pos rfl] at H; simp only [Option.some.injEq, Prod.mk.injEq] at H; obtain ⟨rfl, rfl, rfl⟩ := H; go_wp2
    go_ret3
    exact ⟨er_, b_ HB.out⟩
   ·replace c13 := Bool.eq_false_iff.mpr c13; subst c13; rw [if_neg nf_] at H; obtain ⟨⟨t142, t143⟩, A14, H⟩ := bi_ H; (try dsimp only at H); obtain ⟨⟨t144, t145⟩, A15, H⟩ := bi_ H; (try dsimp only at H); obtain ⟨⟨t146, t147, t148⟩, A16, H⟩ := bi_ H; (try dsimp only at H); have HC17 := Aside0.mk H; clear H
    go_upto_region 6 with (first | (refine gl_ 30 Tryz.func38 #[.string a0] ?_; refine mo_ (r2_amount.calls a0 t142 t143 _ A14.out) ?_; rintro w' ⟨nd, rfl⟩) | (refine gl_ 35 Tryz.func38 #[.string a1] ?_; refine mo_ (r2_amount.calls a1 t144 t145 _ A15.out) ?_; rintro w' ⟨nd, rfl⟩) | (refine gl_ 41 Tryz.func47 #[.string t142, .string t144] ?_; refine mo_ (r1_Div.calls t142 t144 t146 t147 t148 _ A16.out) ?_; intro w18 hb; replace HB := bs_ HB hb; (try clear hb); (try clear hb2); (try clear hk); (try clear hi)))
    (try simp only [Act.put, List.setIfInBounds_toArray, List.set_cons_zero, List.set_cons_succ])
    go_cut [49] (fun v49 wc => ∃ (kq : Nat) (x49_16 : Bool), v49 = .bool x49_16 ∧ Aside0 (r2_Div.j1 kq t143 t144 t145 t146 t147 x49_16 = some (r1, r2, r3)) ∧ Aside0 (kq ≤ kj2) ∧ Aside0 (Below w.heap.size w wc))
    case first =>
     have H := HC17.out; clear HC17; by_cases c19 : t143 = true
     ·subst c19; rw [if_pos rfl] at H; have H' := Aside0.mk H; clear H; go_wp2
      go_meet
      case rel => exact ⟨_, ((t147.toList != ([48] : List UInt8))), rl_, H', ⟨by have := HJ2.out; first | omega | exact Nat.le_refl _⟩, ⟨b_ HB.out⟩⟩
     ·replace c19 := Bool.eq_false_iff.mpr c19; subst c19; rw [if_neg nf_] at H; have H' := Aside0.mk H; clear H; go_wp2
      go_meet
      case rel => exact ⟨_, (false), rl_, H', ⟨by have := HJ2.out; first | omega | exact Nat.le_refl _⟩, ⟨b_ HB.out⟩⟩
    case rest =>
     clear HC17; (try clear c1); (try clear c2); (try clear p2); (try clear c3); (try clear c4); (try clear c5); (try clear c7); (try clear c13); (try clear c19); (try clear p2); obtain ⟨kq, x49_16, rfl, HA, HJ16, HB⟩ := hcut
     cases kq with
     | zero => exact absurd HA.out (by simp [r2_Div.j1])
     | succ kj16 =>
      have H := HA.out; clear HA; simp only [r2_Div.j1] at H; by_cases c20 : x49_16 = true
      ·subst c20; rw [if_pos rfl] at H; obtain ⟨t149, A21, H⟩ := bi_ H; obtain ⟨⟨t150, t151⟩, A22, H⟩ := bi_ H; (try dsimp only at H); obtain ⟨t152, A23, H⟩ := bi_ H; simp only [Option.some.injEq, Prod.mk.injEq] at H; obtain ⟨rfl, rfl, rfl⟩ := H
       go_wp2_with (first | (refine gl_ 51 Tryz.func48 #[.string t146, .string (⟨#[49]⟩ : ByteArray)] ?_; refine mo_ (r1_Add.calls t146 (⟨#[49]⟩ : ByteArray) t149 _ A21.out) ?_; intro w24 hb; replace HB := bs_ HB hb; (try clear hb); (try clear hb2); (try clear hk); (try clear hi)) | (refine gl_ 55 Tryz.func50 #[.string t144, .string t147] ?_; refine mo_ (r1_Sub.calls t144 t147 t150 t151 _ A22.out) ?_; intro w25 hb; replace HB := bs_ HB hb; (try clear hb); (try clear hb2); (try clear hk); (try clear hi)) | (refine gl_ 63 Tryz.func46 #[.string t149, .bool (t143 != t145)] ?_; refine mo_ (r2_with.calls t149 (t143 != t145) t152 _ A23.out) ?_; rintro w' ⟨nd, rfl⟩))
       go_ret3
       exact ⟨er_, b_ HB.out⟩
      ·replace c20 := Bool.eq_false_iff.mpr c20; subst c20; rw [if_neg nf_] at H; obtain ⟨t153, A26, H⟩ := bi_ H; simp only [Option.some.injEq, Prod.mk.injEq] at H; obtain ⟨rfl, rfl, rfl⟩ := H
       go_wp2_with (first | (refine gl_ 63 Tryz.func46 #[.string t146, .bool (t143 != t145)] ?_; refine mo_ (r2_with.calls t146 (t143 != t145) t153 _ A26.out) ?_; rintro w' ⟨nd, rfl⟩))
       go_ret3
       exact ⟨er_, b_ HB.out⟩
end Go.Proofs.YtnhpnnbjimnmlaaGreatDoor.Px
end

section
namespace Go.Proofs.YtnhpnnbjimnmlaaGreatDoor.Px
end Go.Proofs.YtnhpnnbjimnmlaaGreatDoor.Px
end

section
namespace Go.Proofs.YtnhpnnbjimnmlaaGreatDoor
theorem amount_f (a : ByteArray) : Px.r2_amount.f a = some (amtB a, minusB a) := by
 unfold Px.r2_amount.f amtB minusB
 have hs := size_len a
 cases hl : a.data.toList with
 | nil =>
  rw [hl, List.length_nil] at hs
  rw [if_neg (by omega)]
  simp only [cutL]
  congr 2
  apply bext
  rw [hl]
 | cons c r =>
  rw [hl, List.length_cons] at hs
  obtain ⟨c', hc, hb⟩ := bt_get a 0 (by omega)
  have hcc : c' = c := by
   rw [hl] at hc
   exact (Option.some.inj hc).symm
  subst hcc
  have hb' : bt a 0 = (c'.toNat : Int) := hb
  rw [if_pos (by omega), if_pos (by omega), hb']
  by_cases h : c' = 45
  ·subst h
   rw [if_pos (by decide), if_pos (by omega)]
   simp only [cutL]
   congr 2
   apply bext
   rw [Lib.extract_to_end, hl]
   rfl
  ·have hn : ¬ (c'.toNat : Int) = 45 := by
    intro e
    exact h (UInt8.toNat_inj.1 (by rw [show (45 : UInt8).toNat = 45 from rfl]; omega))
   have e : cutL (c' :: r) = (c' :: r, false) := by
    unfold cutL
    split
    ·rename_i h'
     injection h' with h' _
     exact absurd h' h
    ·rfl
   rw [if_neg hn, e]
   congr 2
   apply bext
   rw [hl]
theorem amtB_size' (a : ByteArray) : (amtB a).size ≤ a.size := by
 rw [size_len, size_len, amtB_list]
 unfold cutL
 split
 ·rename_i h; rw [h]; simp
 ·exact Nat.le_refl _
theorem r2may_f {a : ByteArray} (h : a.size ≤ 50000) : Px.r2_May.f a = some (mayW a) := by
 unfold Px.r2_May.f mayW
 have hs := amtB_size' a
 rw [amount_f, Option.bind_some, rMay (a := amtB a) (by omega), Option.bind_some]
 cases hm : mayB (amtB a) with
 | false => rfl
 | true =>
  simp only [if_true, Bool.true_and]
  cases hn : minusB a with
  | false => rfl
  | true =>
   simp only [if_true, Bool.not_true, Bool.false_or]
   congr 1
   have h48 := list48 hm
   rw [← ByteArray.toList_eq] at h48
   rw [Bool.eq_iff_iff, bne_iff_ne, decide_eq_true_eq]
   exact not_congr h48
def r2_May.f (a0 : ByteArray) : Option Bool := if sm a0 = true then some (mayW a0) else none
theorem r2_May.calls (a0 : ByteArray) (r : Bool) (w : World) (h : r2_May.f a0 = some r) :
  Calls Tryz.prog 27 #[.string a0] w fun e w' => e = .returned (.bool r) ∧ Below w.heap.size w w' := by
 unfold r2_May.f at h
 split at h
 ·rename_i hp
  rw [← r2may_f (sm_le hp)] at h
  exact Px.r2_May.calls a0 r w h
 ·cases h
end Go.Proofs.YtnhpnnbjimnmlaaGreatDoor
end

section
namespace Go.Proofs.YtnhpnnbjimnmlaaGreatDoor
end Go.Proofs.YtnhpnnbjimnmlaaGreatDoor
end

section
namespace Go.Proofs.YtnhpnnbjimnmlaaGreatDoor
theorem emod_abs (x : Int) {y : Int} (h : y ≠ 0) : x % y < (y.natAbs : Int) := by
 rcases (by omega : y < 0 ∨ 0 < y) with hy | hy
 ·have e : x % y = x % (-y) := (Int.emod_neg x y).symm
  rw [e]
  have := Int.emod_lt_of_pos x (show 0 < -y by omega)
  omega
 ·have := Int.emod_lt_of_pos x hy
  omega
theorem szI_add (x y : Int) : szI (x + y) ≤ szI x + szI y + 1 := by
 have h1 := szI_le (x + y)
 have h2 := sz_mono (show (x + y).natAbs ≤ x.natAbs + y.natAbs by omega)
 have h3 := sz_add x.natAbs y.natAbs
 have h4 := le_szI x
 have h5 := le_szI y
 omega
theorem szI_neg (x : Int) : szI (-x) ≤ szI x + 1 := by
 have h1 := szI_le (-x)
 have h4 := le_szI x
 rw [Int.natAbs_neg] at h1
 omega
theorem szI_mul (x y : Int) : szI (x * y) ≤ szI x + szI y + 1 := by
 have h1 := szI_le (x * y)
 rw [Int.natAbs_mul] at h1
 have h3 := sz_mul x.natAbs y.natAbs
 have h4 := le_szI x
 have h5 := le_szI y
 omega
theorem szI_mod (x : Int) {y : Int} (h : y ≠ 0) : szI (x % y) ≤ szI y + 1 := by
 have h0 := Int.emod_nonneg x h
 have h1 := emod_abs x h
 have h2 := szI_le (x % y)
 have h3 := sz_mono (show (x % y).natAbs ≤ y.natAbs by omega)
 have h4 := le_szI y
 omega
theorem szI_div (x y : Int) : szI (x / y) ≤ szI x + 3 := by
 have h1 := szI_le (x / y)
 have h2 : (x / y).natAbs ≤ x.natAbs + 1 := by
  have := Int.natAbs_ediv_le_natAbs x y
  omega
 have h3 := sz_mono h2
 have h4 := sz_add x.natAbs 1
 have h5 := le_szI x
 have h6 : sz 1 ≤ 1 := sz_le (by omega) (by omega)
 omega
theorem smw2_int {x y : Int} (hx : szI x ≤ 49990) (hy : szI y ≤ 49990) : smw2 (intB x) (intB y) = true := by
 unfold smw2
 rw [show smw (intB x) = true from decide_eq_true hx, show smw (intB y) = true from decide_eq_true hy]
 rfl
theorem smw_int {x : Int} (hx : szI x ≤ 49990) : smw (intB x) = true := decide_eq_true hx
theorem gAdd {x y : Int} (hx : szI x ≤ 49990) (hy : szI y ≤ 49990) : whole_Add.f (intB x) (intB y) = some (intB (x + y)) := by
 unfold whole_Add.f waddS
 rw [if_pos (smw2_int hx hy), if_pos (may2W_int x y), numW_int, numW_int]
theorem gMul {x y : Int} (hx : szI x ≤ 49990) (hy : szI y ≤ 49990) : whole_Mul.f (intB x) (intB y) = some (intB (x * y)) := by
 unfold whole_Mul.f wmulS
 rw [if_pos (smw2_int hx hy), if_pos (may2W_int x y), numW_int, numW_int]
theorem gDiv {x y : Int} (hx : szI x ≤ 49990) (hy : szI y ≤ 49990) (h : y ≠ 0) : whole_Div.f (intB x) (intB y) = some (intB (x / y), intB (x % y), true) := by
 unfold whole_Div.f wdivS
 rw [if_pos (smw2_int hx hy), may2W_int, Bool.true_and, numW_int, numW_int, if_pos (decide_eq_true h)]
theorem gCmp {x y : Int} (hx : szI x ≤ 49990) (hy : szI y ≤ 49990) : whole_Cmp.f (intB x) (intB y) = some (Lib.compareInt x y) := by
 unfold whole_Cmp.f wcmpS
 rw [if_pos (smw2_int hx hy), if_pos (may2W_int x y), numW_int, numW_int]
theorem gNeg {x : Int} (hx : szI x ≤ 49990) : whole_Neg.f (intB x) = some (intB (-x)) := by
 unfold whole_Neg.f wnegS
 rw [if_pos (smw_int hx), if_pos (mayW_int x), numW_int]
theorem gSign {x : Int} (hx : szI x ≤ 49990) : whole_Sign.f (intB x) = some (Lib.compareInt x 0) := by
 unfold whole_Sign.f wsignS
 rw [if_pos (smw_int hx), if_pos (mayW_int x), numW_int]
theorem gAbs {x : Int} (hx : szI x ≤ 49990) : whole_Abs.f (intB x) = some (intB (x.natAbs : Int)) := by
 unfold whole_Abs.f wabsS
 rw [if_pos (smw_int hx), if_pos (mayW_int x), numW_int, intB_nat]
theorem gOf {n : Int} (h0 : -9223372036854775808 ≤ n) (h1 : n ≤ 9223372036854775807) : whole_Of.f n = some (intB n) := by
 unfold whole_Of.f
 rw [if_pos ⟨h0, h1⟩]
theorem rMay2 {a : ByteArray} (h : a.size ≤ 50000) : r2_May.f a = some (mayW a) := by
 unfold r2_May.f
 rw [if_pos (show sm a = true from decide_eq_true h)]
theorem intB_toList_zero {z : Int} : (intB z).toList = [48] ↔ z = 0 := by
 have h : (intB 0).toList = [48] := by
  have e : intB 0 = natB 0 := intB_nat 0
  rw [e, ByteArray.toList_eq, natB_list, dig_small (by omega)]
  rfl
 rw [← h]
 exact intB_toList_inj
theorem intB_beq (x y : Int) : ((intB x).toList == (intB y).toList) = decide (x = y) := by
 rw [Bool.eq_iff_iff, beq_iff_eq, intB_toList_inj, decide_eq_true_eq]
theorem intB_beq_zero (x : Int) : ((intB x).toList == ([48] : List UInt8)) = decide (x = 0) := by
 rw [Bool.eq_iff_iff, beq_iff_eq, intB_toList_zero, decide_eq_true_eq]
end Go.Proofs.YtnhpnnbjimnmlaaGreatDoor
end

section
namespace Go.Proofs.YtnhpnnbjimnmlaaGreatDoor
abbrev BB := ByteArray × ByteArray
def no2 : BB := (noB, noB)
def may2R (x y : BB) : Bool := mayR x && mayR y
def rmakeS (a b : ByteArray) : BB × Bool := if (may2W a b && decide (numW b ≠ 0)) = true then (rT (Rat.divInt (numW a) (numW b)), true) else (no2, false)
def rsignS (x : BB) : Int := if mayR x = true then cmpQ (ratR x) 0 else 0
def rnegS (x : BB) : BB := if mayR x = true then rT (-ratR x) else no2
def rcmpS (x y : BB) : Int := if may2R x y = true then cmpQ (ratR x) (ratR y) else 0
def raddS (x y : BB) : BB := if may2R x y = true then rT (ratR x + ratR y) else no2
def rsubS (x y : BB) : BB := if may2R x y = true then rT (ratR x - ratR y) else no2
def rmulS (x y : BB) : BB := if may2R x y = true then rT (ratR x * ratR y) else no2
def rdivS (x y : BB) : BB × Bool := if (may2R x y && decide (ratR y ≠ 0)) = true then (rT (ratR x / ratR y), true) else (no2, false)
def rsplitS (x : BB) : ByteArray × BB := if mayR x = true then (intB (ratR x).floor, rT (ratR x - ((ratR x).floor : Rat))) else (noB, no2)
def szR (q : Rat) : Nat := szI q.num + sz q.den
theorem le_szR_num (q : Rat) : szI q.num ≤ szR q := Nat.le_add_right _ _
theorem le_szR_den (q : Rat) : sz q.den ≤ szR q := Nat.le_add_left _ _
theorem szI_nat (n : Nat) : szI (n : Int) = sz n := by unfold szI sz; rw [intB_nat]
theorem sz_den_le (x : Int) {y : Int} (hy : y ≠ 0) : sz (Rat.divInt x y).den ≤ szI y := by
 have h : ((Rat.divInt x y).den : Int) ≤ (y.natAbs : Int) := by
  rw [← red_den hy]
  exact Int.ediv_le_self _ (Int.natCast_nonneg _)
 have h1 := sz_mono (show (Rat.divInt x y).den ≤ y.natAbs by omega)
 have h2 := le_szI y
 omega
theorem sz_num_le (x : Int) {y : Int} (hy : y ≠ 0) : szI (Rat.divInt x y).num ≤ szI x + 1 := by
 have h : (Rat.divInt x y).num.natAbs ≤ x.natAbs := by
  rw [← red_num hy]
  have e := Int.natAbs_ediv_le_natAbs (if y < 0 then -x else x) ((Nat.gcd x.natAbs y.natAbs : Nat) : Int)
  have e2 : (if y < 0 then -x else x).natAbs = x.natAbs := by split <;> omega
  have h3 : Int.natAbs ((if y < 0 then -x else x) / ((Nat.gcd x.natAbs y.natAbs : Nat) : Int)) = (if y < 0 then -x else x).natAbs / Nat.gcd x.natAbs y.natAbs := by
   have hd : ((Nat.gcd x.natAbs y.natAbs : Nat) : Int) ∣ (if y < 0 then -x else x) := by
    rw [Int.ofNat_dvd_left, e2]
    exact Nat.gcd_dvd_left _ _
   rw [Int.natAbs_ediv_of_dvd hd, Int.natAbs_natCast]
  rw [h3, e2]
  exact Nat.div_le_self _ _
 have h1 := sz_mono h
 have h2 := le_szI x
 have h3 := szI_le (Rat.divInt x y).num
 omega
theorem szR_divInt (x : Int) {y : Int} (hy : y ≠ 0) : szR (Rat.divInt x y) ≤ szI x + szI y + 1 := by
 have h1 := sz_den_le x hy
 have h2 := sz_num_le x hy
 unfold szR
 omega
theorem den_ne (q : Rat) : (q.den : Int) ≠ 0 := by have := q.den_nz; omega
theorem szR_add (x y : Rat) : szR (x + y) ≤ 2 * szR x + 2 * szR y + 10 := by
 have h := szR_divInt (x.num * (y.den : Int) + y.num * (x.den : Int)) (Int.mul_ne_zero (den_ne x) (den_ne y))
 rw [add_parts] at h
 have h1 := szI_add (x.num * (y.den : Int)) (y.num * (x.den : Int))
 have h2 := szI_mul x.num (y.den : Int)
 have h3 := szI_mul y.num (x.den : Int)
 have h4 := szI_mul (x.den : Int) (y.den : Int)
 rw [szI_nat] at h2 h3 h4
 rw [szI_nat] at h4
 unfold szR at h ⊢
 omega
theorem szR_mul (x y : Rat) : szR (x * y) ≤ szR x + szR y + 10 := by
 have h := szR_divInt (x.num * y.num) (Int.mul_ne_zero (den_ne x) (den_ne y))
 rw [mul_parts] at h
 have h2 := szI_mul x.num y.num
 have h4 := szI_mul (x.den : Int) (y.den : Int)
 rw [szI_nat, szI_nat] at h4
 unfold szR at h ⊢
 omega
theorem num_ne {y : Rat} (h : y ≠ 0) : y.num ≠ 0 := fun e => h (Rat.num_eq_zero.1 e)
theorem szR_div (x : Rat) {y : Rat} (hy : y ≠ 0) : szR (x / y) ≤ szR x + szR y + 10 := by
 have h := szR_divInt (x.num * (y.den : Int)) (Int.mul_ne_zero (den_ne x) (num_ne hy))
 rw [div_parts] at h
 have h2 := szI_mul x.num (y.den : Int)
 have h4 := szI_mul (x.den : Int) y.num
 rw [szI_nat] at h2 h4
 unfold szR at h ⊢
 omega
theorem szR_neg (x : Rat) : szR (-x) ≤ szR x + 1 := by
 have h := szI_neg x.num
 unfold szR
 rw [Rat.neg_num, Rat.neg_den]
 omega
theorem szR_sub (x y : Rat) : szR (x - y) ≤ 2 * szR x + 2 * szR y + 12 := by
 rw [Rat.sub_eq_add_neg]
 have h := szR_add x (-y)
 have h1 := szR_neg y
 omega
theorem szI_floor (x : Rat) : szI x.floor ≤ szR x + 3 := by
 rw [Rat.floor_def]
 have := szI_div x.num (x.den : Int)
 have := le_szR_num x
 omega
theorem szR_int (n : Int) : szR (n : Rat) = szI n + 1 := by
 unfold szR
 rw [Rat.num_intCast, Rat.den_intCast]
 have : sz 1 = 1 := Nat.le_antisymm (sz_le (by omega) (by omega)) (sz_pos 1)
 rw [this]
theorem szR_frac (x : Rat) : szR (x - (x.floor : Rat)) ≤ 2 * szR x + 3 := by
 rw [← split_parts x]
 have h := szR_divInt (x.num % (x.den : Int)) (den_ne x)
 have h1 := szI_mod x.num (den_ne x)
 rw [szI_nat] at h h1
 have h3 := le_szR_den x
 omega
theorem of_mayR' {x : BB} (h : mayR x = true) : ∃ q, x = rT q ∧ szR q = x.1.size + x.2.size := by
 obtain ⟨q, rfl⟩ := of_mayR h
 exact ⟨q, rfl, rfl⟩
theorem casesR (x y : BB) : (∃ p q, x = rT p ∧ y = rT q) ∨ ¬ may2R x y = true := by
 by_cases h : may2R x y = true
 ·have h' := h
  unfold may2R at h'
  rw [Bool.and_eq_true] at h'
  obtain ⟨p, hp⟩ := of_mayR h'.1
  obtain ⟨q, hq⟩ := of_mayR h'.2
  exact .inl ⟨p, q, hp, hq⟩
 ·exact .inr h
theorem may2R_rT (p q : Rat) : may2R (rT p) (rT q) = true := by unfold may2R; rw [mayR_rT, mayR_rT]; rfl
def smR (x : BB) : Bool := decide (x.1.size ≤ 4000 ∧ x.2.size ≤ 4000)
theorem smR_le {x : BB} (h : smR x = true) : x.1.size ≤ 4000 ∧ x.2.size ≤ 4000 := of_decide_eq_true h
def smR2 (x y : BB) : Bool := smR x && decide (y.1.size ≤ 3999 ∧ y.2.size ≤ 3999)
theorem smR2_le {x y : BB} (h : smR2 x y = true) : smR x = true ∧ smR y = true ∧ (y.1.size ≤ 3999 ∧ y.2.size ≤ 4000) := by
 unfold smR2 at h
 rw [Bool.and_eq_true, decide_eq_true_eq] at h
 exact ⟨h.1, decide_eq_true (by omega), by omega⟩
end Go.Proofs.YtnhpnnbjimnmlaaGreatDoor
end

section
namespace Go.Proofs.YtnhpnnbjimnmlaaGreatDoor
def gcdS (a b : ByteArray) : ByteArray := if may2 a b = true then natB (Nat.gcd (numB a) (numB b)) else noB
end Go.Proofs.YtnhpnnbjimnmlaaGreatDoor
end

section
namespace Go.Proofs.YtnhpnnbjimnmlaaGreatDoor
theorem gcd_loop : ∀ (n m k : Nat), (lim m).length ≤ 50000 → (lim n).length ≤ 50000 → n + 1 ≤ k → Pr.nat_Gcd.l0 k (lim m) (lim n) = some (natB (Nat.gcd m n))
 | n, m, k, hm, hn, hk => by
  obtain ⟨k, rfl⟩ : ∃ j, k = j + 1 := ⟨k - 1, by omega⟩
  simp only [Pr.nat_Gcd.l0]
  by_cases h : n = 0
  ·subst h
   rw [lim_zero, if_neg (by decide), text_natB (by omega), Nat.gcd_zero_right]
   rfl
  ·have h1 : ((lim n).length : Int) > 0 := by
    have : ((lim n).length : Int) ≠ 0 := fun e => h ((lim_zero_len n).1 e)
    omega
   rw [if_pos h1, divL_f hm hn h, Option.bind_some]
   have h2 := Nat.mod_lt m (show 0 < n by omega)
   have := gcd_loop (m % n) n k hn (Nat.le_trans (lim_le_len (Nat.mod_le m n)) hm) (by omega)
   rw [this, Nat.gcd_comm m n, Nat.gcd_rec n m, Nat.gcd_comm]
 termination_by n => n
 decreasing_by exact Nat.mod_lt m (by omega)
theorem gcd_f {a b : ByteArray} (ha : sm a = true) (hb : sm b = true) (k : Nat) (hk : numB b + 1 ≤ k) : Pr.nat_Gcd.f k a b = some (gcdS a b) := by
 obtain ⟨k, rfl⟩ : ∃ j, k = j + 1 := ⟨k - 1, by omega⟩
 unfold Pr.nat_Gcd.f gcdS
 rw [both_f ha hb, Option.bind_some]
 by_cases h : may2 a b = true
 ·obtain ⟨h1, h2⟩ := may2_and h
  rw [if_pos h, if_pos rfl, if_pos h]
  exact gcd_loop (numB b) (numB a) (k + 1) (lim_sm ha h1) (lim_sm hb h2) hk
 ·rw [if_neg h, if_neg (by decide), if_neg h]
  rfl
def nat_Gcd.f (a0 a1 : ByteArray) : Option ByteArray := if sm2 a0 a1 = true then some (gcdS a0 a1) else none
theorem nat_Gcd.calls (a0 a1 : ByteArray) (r : ByteArray) (w : World) (hL_ : Laid w) (h : nat_Gcd.f a0 a1 = some r) :
  Calls Tryz.prog 54 #[.string a0, .string a1] w fun e w' => e = .returned (.string r) ∧ Below w.heap.size w w' := by
 unfold nat_Gcd.f at h
 split at h
 ·rename_i hp
  rw [← gcd_f (and2 hp).1 (and2 hp).2 _ (Nat.le_refl _)] at h
  exact Pr.nat_Gcd.calls _ a0 a1 r w hL_ h
 ·cases h
end Go.Proofs.YtnhpnnbjimnmlaaGreatDoor
end

section
namespace Go.Proofs.YtnhpnnbjimnmlaaGreatDoor
theorem fGcd {m n : Nat} (hm : sz m ≤ 50000) (hn : sz n ≤ 50000) : nat_Gcd.f (natB m) (natB n) = some (natB (Nat.gcd m n)) := by
 unfold nat_Gcd.f gcdS
 rw [if_pos (sm2_natB hm hn), if_pos (may2_natB m n), numB_natB, numB_natB]
end Go.Proofs.YtnhpnnbjimnmlaaGreatDoor
end

section
namespace Go.Proofs.YtnhpnnbjimnmlaaGreatDoor.Py
def errW : Option Int → Value
 | none => .nilIface
 | some c => .iface 0 (.int .i64 c)
theorem errW_none : errW none = .nilIface := rfl
theorem errW_some (c : Int) : errW (some c) = .iface 0 (.int .i64 c) := rfl
end Go.Proofs.YtnhpnnbjimnmlaaGreatDoor.Py
end

section
namespace Go.Proofs.YtnhpnnbjimnmlaaGreatDoor.Py
def rat_May.f (a0_0 : ByteArray) (a0_1 : ByteArray) : Option (Bool) := (whole_May.f a0_0).bind fun t102 => (if t102 = true then ((nat_May.f a0_1).bind fun t103 => (if t103 = true then (if a0_1.toList = ([48] : List UInt8) then (some false) else ((whole_Abs.f a0_0).bind fun t104 => ((nat_Gcd.f t104 a0_1).bind fun t105 => (some (t105.toList == ([49] : List UInt8)))))) else (some false))) else (some false))
def rat_May.T1 : Bool × List (List Nat × List Nat) := (true, [([], []), ([0], [0]), ([1], [1]), ([2, 2], [2]), ([3], [3]), ([4, 3], [3, 4]), ([5, 3, 3], [3, 5]), ([3, 6], [3, 6]), ([7, 6], [7]), ([8], [8]), ([9, 8], [8, 9]), ([10, 8], [8, 10]), ([8, 11], [8, 11]), ([12, 8], [12]), ([13], [13]), ([14, 13], [13, 14]), ([15, 13, 13], [13, 15]), ([13], [13]), ([17, 13], [13, 17]), ([16, 18, 16, 13], [13, 16, 18]), ([19, 13], [13, 19]), ([13, 20], [13, 20]), ([21, 19, 0, 1, 2, 3, 4, 5, 6, 7, 8, 9, 10, 11, 12, 13, 14, 15, 16, 17, 18, 19, 20, 21], [21])])
def rat_May.B1 : List Nat := [0, 1, 3, 7, 15, 31, 63, 127, 255, 511, 1023, 2047, 4095, 8191, 16383, 32767, 65535, 16383, 147455, 524287, 1048575, 2097151, 4194303]
theorem rat_May.tab1 : rtab .any (opsOf Tryz.f33 1) = rat_May.T1 := by kernel_rfl
theorem rat_May.bits1 : waitsOk rat_May.T1.2 rat_May.B1 = true := by kernel_rfl
set_option maxHeartbeats 8000000 in
set_option maxRecDepth 100000 in
theorem rat_May.calls (a0_0 : ByteArray) (a0_1 : ByteArray) (r : Bool) (w : World) (hL_ : Laid w) (h : rat_May.f a0_0 a0_1 = some r) :
  Calls Tryz.prog 33 #[.agg #[.string a0_0, .string a0_1]] w fun e w' => e = .returned (.bool r) ∧ Below w.heap.size w w' := by
 have hu23 := Tryz.underlying23; have HLD := Aside0.mk hL_; clear hL_; have HB := Aside0.mk (Below.refl w.heap.size w); have H := h; unfold rat_May.f at H; clear h; obtain ⟨t102, A2, H⟩ := bi_ H; by_cases c3 : t102 = true
 ·subst c3; rw [if_pos rfl] at H; obtain ⟨t103, A4, H⟩ := bi_ H; by_cases c5 : t103 = true
  ·subst c5; rw [if_pos rfl] at H; by_cases c6 : a0_1.toList = ([48] : List UInt8)
   ·rw [if_pos c6] at H; have c6b0 : (a0_1.toList == ([48] : List UInt8)) = true := beq_iff_eq.mpr c6; have c6b1 : (a0_1.toList != ([48] : List UInt8)) = false := bne_eq_false_iff_eq.mpr c6; clear c6; obtain rfl := Option.some.inj H; go_enter Tryz.func33, Tryz.ntmps33
    try go_wp2_with (first | ((with_reducible refine gate_dst (N := 1) rfl ?_); refine be_ 1 #[.string a0_0, .string a0_1] 23 ?_; intro gb101 hg w7 hbox hb; have BK101 := Aside0.mk (hbox); have GW101 := ge_ HB hg; have GE101 := ge_ HB hg; replace HB := bs_ HB hb; clear hb hbox hg))
    replace BK101 := Aside0.mk (blk_drew BK101.out); replace HB := Aside0.mk (below_drew1 HB.out); refine sa_ 23 (fun w' => w'.cell? ⟨gb101, 0, none⟩ = some (.string a0_0) ∧ w'.cell? ⟨gb101, 1, none⟩ = some (.string a0_1)) (fun hHeld => ?_); refine with_tabW rat_May.tab1 rat_May.bits1 (fun HT_ HW_ => ?_); generalize w7.drew = w8 at BK101 HB hHeld ⊢; refine pu_ 0 3 rfl rfl HT_ ?_; refine t2_ 1 4 rfl rfl HT_ HW_ hHeld ?_; refine on_ 2 (some 5) rfl rfl HT_ (fun K hK => ?_); refine gs_ Tryz.func43 #[.string a0_0] ?_; refine mo_ (whole_May.calls a0_0 true _ A2.out) ?_; intro w9 hb; replace BK101 := kb_ BK101 hb; replace HB := bs_ HB hb; (try clear hb); refine hk_ hK (fun hHeld => ?_); clear hK K; refine nm_ ?_; refine pu_ 3 6 rfl rfl HT_ ?_; refine pu_ 4 7 rfl rfl HT_ ?_; refine t2_ 5 8 rfl rfl HT_ HW_ hHeld ?_; refine on_ 6 (some 9) rfl rfl HT_ (fun K hK => ?_); refine gs_ Tryz.func53 #[.string a0_1] ?_; refine mo_ (nat_May.calls a0_1 true _ A4.out) ?_; intro w10 hb; replace BK101 := kb_ BK101 hb; replace HB := bs_ HB hb; (try clear hb); refine hk_ hK (fun hHeld => ?_); clear hK K; refine nm_ ?_; refine pu_ 7 10 rfl rfl HT_ ?_; refine pu_ 8 11 rfl rfl HT_ ?_; refine pu_ 9 12 rfl rfl HT_ ?_; refine t2_ 10 13 rfl rfl HT_ HW_ hHeld ?_; refine pu_ 11 14 rfl rfl HT_ ?_; refine pu_ 12 15 rfl rfl HT_ ?_; refine pu_ 13 16 rfl rfl HT_ ?_; refine pv_ 14 17 rfl rfl HT_ ?_; refine pv_ 15 18 rfl rfl HT_ ?_; refine pv_ 16 19 rfl rfl HT_ ?_; refine pv_ 17 20 rfl rfl HT_ ?_; refine pv_ 18 21 rfl rfl HT_ ?_; refine pv_ 19 22 rfl rfl HT_ ?_; refine pv_ 20 23 rfl rfl HT_ ?_; refine pu_ 21 24 rfl rfl HT_ ?_; refine pu_ 22 2 rfl rfl HT_ ?_; refine done_ (done_of HT_.out (by kernel_rfl)) ?_
    try go_wp2
    go_ret
    exact ⟨er_, b_ HB.out⟩
   ·rw [if_neg c6] at H; have c6b0 : (a0_1.toList == ([48] : List UInt8)) = false := beq_eq_false_iff_ne.mpr c6; have c6b1 : (a0_1.toList != ([48] : List UInt8)) = true := bne_iff_ne.mpr c6; obtain ⟨t104, A11, H⟩ := bi_ H; obtain ⟨t105, A12, H⟩ := bi_ H; obtain rfl := Option.some.inj H; go_enter Tryz.func33, Tryz.ntmps33
    try go_wp2_with (first | ((with_reducible refine gate_dst (N := 1) rfl ?_); refine be_ 1 #[.string a0_0, .string a0_1] 23 ?_; intro gb101 hg w13 hbox hb; have BK101 := Aside0.mk (hbox); have GW101 := ge_ HB hg; have GE101 := ge_ HB hg; replace HB := bs_ HB hb; clear hb hbox hg))
    replace BK101 := Aside0.mk (blk_drew BK101.out); replace HB := Aside0.mk (below_drew1 HB.out); refine sa_ 23 (fun w' => w'.cell? ⟨gb101, 0, none⟩ = some (.string a0_0) ∧ w'.cell? ⟨gb101, 1, none⟩ = some (.string a0_1)) (fun hHeld => ?_); refine with_tabW rat_May.tab1 rat_May.bits1 (fun HT_ HW_ => ?_); generalize w13.drew = w14 at BK101 HB hHeld ⊢; refine pu_ 0 3 rfl rfl HT_ ?_; refine t2_ 1 4 rfl rfl HT_ HW_ hHeld ?_; refine on_ 2 (some 5) rfl rfl HT_ (fun K hK => ?_); refine gs_ Tryz.func43 #[.string a0_0] ?_; refine mo_ (whole_May.calls a0_0 true _ A2.out) ?_; intro w15 hb; replace BK101 := kb_ BK101 hb; replace HB := bs_ HB hb; (try clear hb); refine hk_ hK (fun hHeld => ?_); clear hK K; refine nm_ ?_; refine pu_ 3 6 rfl rfl HT_ ?_; refine pu_ 4 7 rfl rfl HT_ ?_; refine t2_ 5 8 rfl rfl HT_ HW_ hHeld ?_; refine on_ 6 (some 9) rfl rfl HT_ (fun K hK => ?_); refine gs_ Tryz.func53 #[.string a0_1] ?_; refine mo_ (nat_May.calls a0_1 true _ A4.out) ?_; intro w16 hb; replace BK101 := kb_ BK101 hb; replace HB := bs_ HB hb; (try clear hb); refine hk_ hK (fun hHeld => ?_); clear hK K; refine nm_ ?_; refine pu_ 7 10 rfl rfl HT_ ?_; refine pu_ 8 11 rfl rfl HT_ ?_; refine pu_ 9 12 rfl rfl HT_ ?_; refine t2_ 10 13 rfl rfl HT_ HW_ hHeld ?_; refine pu_ 11 14 rfl rfl HT_ ?_; refine pu_ 12 15 rfl rfl HT_ ?_; refine pu_ 13 16 rfl rfl HT_ ?_; refine pu_ 14 17 rfl rfl HT_ ?_; refine pu_ 17 20 rfl rfl HT_ ?_; refine t2_ 15 18 rfl rfl HT_ HW_ hHeld ?_; refine t2_ 18 21 rfl rfl HT_ HW_ hHeld ?_; refine on_ 16 (some 19) rfl rfl HT_ (fun K hK => ?_); refine gs_ Tryz.func55 #[.string a0_0] ?_; refine mo_ (whole_Abs.calls a0_0 t104 _ A11.out) ?_; intro w17 hb; replace BK101 := kb_ BK101 hb; replace HB := bs_ HB hb; (try clear hb); refine hk_ hK (fun hHeld => ?_); clear hK K; refine nm_ ?_; refine on_ 19 (some 22) rfl rfl HT_ (fun K hK => ?_); refine gs_ Tryz.func54 #[.string t104, .string a0_1] ?_; refine mo_ (nat_Gcd.calls t104 a0_1 t105 _ (lb_ HLD HB) A12.out) ?_; intro w18 hb; replace BK101 := kb_ BK101 hb; replace HB := bs_ HB hb; (try clear hb); refine hk_ hK (fun hHeld => ?_); clear hK K; refine nm_ ?_; refine pu_ 20 23 rfl rfl HT_ ?_; refine pu_ 21 24 rfl rfl HT_ ?_; refine pu_ 22 2 rfl rfl HT_ ?_; refine done_ (done_of HT_.out (by kernel_rfl)) ?_
    try go_wp2
    go_ret
    exact ⟨er_, b_ HB.out⟩
  ·replace c5 := Bool.eq_false_iff.mpr c5; subst c5; rw [if_neg nf_] at H; obtain rfl := Option.some.inj H; go_enter Tryz.func33, Tryz.ntmps33
   try go_wp2_with (first | ((with_reducible refine gate_dst (N := 1) rfl ?_); refine be_ 1 #[.string a0_0, .string a0_1] 23 ?_; intro gb101 hg w19 hbox hb; have BK101 := Aside0.mk (hbox); have GW101 := ge_ HB hg; have GE101 := ge_ HB hg; replace HB := bs_ HB hb; clear hb hbox hg))
   replace BK101 := Aside0.mk (blk_drew BK101.out); replace HB := Aside0.mk (below_drew1 HB.out); refine sa_ 23 (fun w' => w'.cell? ⟨gb101, 0, none⟩ = some (.string a0_0) ∧ w'.cell? ⟨gb101, 1, none⟩ = some (.string a0_1)) (fun hHeld => ?_); refine with_tabW rat_May.tab1 rat_May.bits1 (fun HT_ HW_ => ?_); generalize w19.drew = w20 at BK101 HB hHeld ⊢; refine pu_ 0 3 rfl rfl HT_ ?_; refine t2_ 1 4 rfl rfl HT_ HW_ hHeld ?_; refine on_ 2 (some 5) rfl rfl HT_ (fun K hK => ?_); refine gs_ Tryz.func43 #[.string a0_0] ?_; refine mo_ (whole_May.calls a0_0 true _ A2.out) ?_; intro w21 hb; replace BK101 := kb_ BK101 hb; replace HB := bs_ HB hb; (try clear hb); refine hk_ hK (fun hHeld => ?_); clear hK K; refine nm_ ?_; refine pu_ 3 6 rfl rfl HT_ ?_; refine pu_ 4 7 rfl rfl HT_ ?_; refine t2_ 5 8 rfl rfl HT_ HW_ hHeld ?_; refine on_ 6 (some 9) rfl rfl HT_ (fun K hK => ?_); refine gs_ Tryz.func53 #[.string a0_1] ?_; refine mo_ (nat_May.calls a0_1 false _ A4.out) ?_; intro w22 hb; replace BK101 := kb_ BK101 hb; replace HB := bs_ HB hb; (try clear hb); refine hk_ hK (fun hHeld => ?_); clear hK K; refine nm_ ?_; refine pu_ 7 10 rfl rfl HT_ ?_; refine pu_ 8 11 rfl rfl HT_ ?_; refine pv_ 9 12 rfl rfl HT_ ?_; refine pv_ 10 13 rfl rfl HT_ ?_; refine pv_ 11 14 rfl rfl HT_ ?_; refine pu_ 12 15 rfl rfl HT_ ?_; refine pu_ 13 16 rfl rfl HT_ ?_; refine pv_ 14 17 rfl rfl HT_ ?_; refine pv_ 15 18 rfl rfl HT_ ?_; refine pv_ 16 19 rfl rfl HT_ ?_; refine pv_ 17 20 rfl rfl HT_ ?_; refine pv_ 18 21 rfl rfl HT_ ?_; refine pv_ 19 22 rfl rfl HT_ ?_; refine pv_ 20 23 rfl rfl HT_ ?_; refine pu_ 21 24 rfl rfl HT_ ?_; refine pu_ 22 2 rfl rfl HT_ ?_; refine done_ (done_of HT_.out (by kernel_rfl)) ?_
   try go_wp2
   go_ret
   exact ⟨er_, b_ HB.out⟩
 ·replace c3 := Bool.eq_false_iff.mpr c3; subst c3; rw [if_neg nf_] at H; obtain rfl := Option.some.inj H; go_enter Tryz.func33, Tryz.ntmps33
  try go_wp2_with (first | ((with_reducible refine gate_dst (N := 1) rfl ?_); refine be_ 1 #[.string a0_0, .string a0_1] 23 ?_; intro gb101 hg w23 hbox hb; have BK101 := Aside0.mk (hbox); have GW101 := ge_ HB hg; have GE101 := ge_ HB hg; replace HB := bs_ HB hb; clear hb hbox hg))
  replace BK101 := Aside0.mk (blk_drew BK101.out); replace HB := Aside0.mk (below_drew1 HB.out); refine sa_ 23 (fun w' => w'.cell? ⟨gb101, 0, none⟩ = some (.string a0_0) ∧ w'.cell? ⟨gb101, 1, none⟩ = some (.string a0_1)) (fun hHeld => ?_); refine with_tabW rat_May.tab1 rat_May.bits1 (fun HT_ HW_ => ?_); generalize w23.drew = w24 at BK101 HB hHeld ⊢; refine pu_ 0 3 rfl rfl HT_ ?_; refine t2_ 1 4 rfl rfl HT_ HW_ hHeld ?_; refine on_ 2 (some 5) rfl rfl HT_ (fun K hK => ?_); refine gs_ Tryz.func43 #[.string a0_0] ?_; refine mo_ (whole_May.calls a0_0 false _ A2.out) ?_; intro w25 hb; replace BK101 := kb_ BK101 hb; replace HB := bs_ HB hb; (try clear hb); refine hk_ hK (fun hHeld => ?_); clear hK K; refine nm_ ?_; refine pu_ 3 6 rfl rfl HT_ ?_; refine pv_ 4 7 rfl rfl HT_ ?_; refine pv_ 5 8 rfl rfl HT_ ?_; refine pv_ 6 9 rfl rfl HT_ ?_; refine pu_ 7 10 rfl rfl HT_ ?_; refine pu_ 8 11 rfl rfl HT_ ?_; refine pv_ 9 12 rfl rfl HT_ ?_; refine pv_ 10 13 rfl rfl HT_ ?_; refine pv_ 11 14 rfl rfl HT_ ?_; refine pu_ 12 15 rfl rfl HT_ ?_; refine pu_ 13 16 rfl rfl HT_ ?_; refine pv_ 14 17 rfl rfl HT_ ?_; refine pv_ 15 18 rfl rfl HT_ ?_; refine pv_ 16 19 rfl rfl HT_ ?_; refine pv_ 17 20 rfl rfl HT_ ?_; refine pv_ 18 21 rfl rfl HT_ ?_; refine pv_ 19 22 rfl rfl HT_ ?_; refine pv_ 20 23 rfl rfl HT_ ?_; refine pu_ 21 24 rfl rfl HT_ ?_; refine pu_ 22 2 rfl rfl HT_ ?_; refine done_ (done_of HT_.out (by kernel_rfl)) ?_
  try go_wp2
  go_ret
  exact ⟨er_, b_ HB.out⟩
end Go.Proofs.YtnhpnnbjimnmlaaGreatDoor.Py
end

section
namespace Go.Proofs.YtnhpnnbjimnmlaaGreatDoor.Py
def rat_reduced.j0 : Nat → ByteArray → ByteArray → Option (ByteArray × ByteArray)
 | 0, _, _ => none
 | k + 1, x0, x1 => (whole_Abs.f x0).bind fun t110 => ((nat_Gcd.f t110 x1).bind fun t111 => ((whole_Div.f x0 t111).bind fun bt112 => ((whole_Div.f x1 t111).bind fun bt115 => (some (bt112.1, bt115.1)))))
def rat_reduced.f (k : Nat) (a0 : ByteArray) (a1 : ByteArray) : Option (ByteArray × ByteArray) := (whole_Sign.f a1).bind fun t107 => (if t107 < 0 then ((whole_Neg.f a0).bind fun t108 => ((whole_Neg.f a1).bind fun t109 => (rat_reduced.j0 k t108 t109))) else (rat_reduced.j0 k a0 a1))
set_option maxHeartbeats 8000000 in
set_option maxRecDepth 100000 in
theorem rat_reduced.calls (k : Nat) (a0 : ByteArray) (a1 : ByteArray) (r1 : ByteArray) (r2 : ByteArray) (w : World) (hL_ : Laid w) (h : rat_reduced.f k a0 a1 = some (r1, r2)) :
  Calls Tryz.prog 41 #[.string a0, .string a1] w fun e w' => e = .returned (.agg #[.string r1, .string r2]) ∧ Below w.heap.size w w' := by
 have hu23 := Tryz.underlying23; have HLD := Aside0.mk hL_; clear hL_; have HB := Aside0.mk (Below.refl w.heap.size w); have H := h; unfold rat_reduced.f at H; clear h; obtain ⟨t107, A3, H⟩ := bi_ H; have HC4 := Aside0.mk H; clear H; go_enter Tryz.func41, Tryz.ntmps41
 go_upto_if 8 with (first | ((with_reducible refine gate_dst (N := 4) rfl ?_); refine be_ 4 #[.string (⟨#[]⟩ : ByteArray), .string (⟨#[]⟩ : ByteArray)] 23 ?_; intro gb106 hg w5 hbox hb; have BK106 := Aside0.mk (hbox); have GW106 := ge_ HB hg; have GE106 := ge_ HB hg; replace HB := bs_ HB hb; clear hb hbox hg) | (refine gl_ 7 Tryz.func39 #[.string a1] ?_; refine mo_ (whole_Sign.calls a1 t107 _ A3.out) ?_; intro w6 hb; replace BK106 := kb_ BK106 hb; replace HB := bs_ HB hb; (try clear hb); (try clear hb2); (try clear hk); (try clear hi)))
 (try simp only [Act.put, List.setIfInBounds_toArray, List.set_cons_zero, List.set_cons_succ])
 go_cut [0, 1] (fun v0 v1 wc => ∃ (kq : Nat) (x0_3 : ByteArray) (x1_3 : ByteArray), v0 = .string x0_3 ∧ v1 = .string x1_3 ∧ Aside0 (rat_reduced.j0 kq x0_3 x1_3 = some (r1, r2)) ∧ Aside0 (kq ≤ k) ∧ Aside0 (wc.heap[gb106]? = some (.cells #[.string (⟨#[]⟩ : ByteArray), .string (⟨#[]⟩ : ByteArray)] 23 (0, 0))) ∧ Aside0 (Below w.heap.size w wc))
 case first =>
  have H := HC4.out; clear HC4; by_cases c7 : t107 < 0
  ·rw [if_pos c7] at H; have c7b0 : decide (t107 < 0) = true := decide_eq_true c7; clear c7; (first | rw [c7b0] | (simp only [i64_w, i32_w]; rw [c7b0]) | skip); obtain ⟨t108, A8, H⟩ := bi_ H; obtain ⟨t109, A9, H⟩ := bi_ H; have H' := Aside0.mk H; clear H
   go_wp2_with (first | (refine gl_ 10 Tryz.func65 #[.string a0] ?_; refine mo_ (whole_Neg.calls a0 t108 _ A8.out) ?_; intro w10 hb; replace BK106 := kb_ BK106 hb; replace HB := bs_ HB hb; (try clear hb); (try clear hb2); (try clear hk); (try clear hi)) | (refine gl_ 12 Tryz.func65 #[.string a1] ?_; refine mo_ (whole_Neg.calls a1 t109 _ A9.out) ?_; intro w11 hb; replace BK106 := kb_ BK106 hb; replace HB := bs_ HB hb; (try clear hb); (try clear hb2); (try clear hk); (try clear hi)))
   go_meet
   case rel => exact ⟨_, (t108), (t109), rl_, rl_, H', ⟨by first | omega | exact Nat.le_refl _⟩, ⟨k_ BK106.out⟩, ⟨b_ HB.out⟩⟩
  ·rw [if_neg c7] at H; have c7b0 : decide (t107 < 0) = false := decide_eq_false c7; clear c7; (first | rw [c7b0] | (simp only [i64_w, i32_w]; rw [c7b0]) | skip); have H' := Aside0.mk H; clear H; go_wp2
   go_meet
   case rel => exact ⟨_, (a0), (a1), rl_, rl_, H', ⟨by first | omega | exact Nat.le_refl _⟩, ⟨k_ BK106.out⟩, ⟨b_ HB.out⟩⟩
 case rest =>
  clear HC4; (try clear p2); (try clear c3); (try clear c4); (try clear c6); (try clear c7); (try clear c7b0); obtain ⟨kq, x0_3, x1_3, rfl, rfl, HA, HJ3, BK106, HB⟩ := hcut
  cases kq with
  | zero => exact absurd HA.out (by simp [rat_reduced.j0])
  | succ kj3 =>
   have H := HA.out; clear HA; simp only [rat_reduced.j0] at H; obtain ⟨t110, A12, H⟩ := bi_ H; obtain ⟨t111, A13, H⟩ := bi_ H; obtain ⟨⟨t112, t113, t114⟩, A14, H⟩ := bi_ H; (try dsimp only at H); obtain ⟨⟨t115, t116, t117⟩, A15, H⟩ := bi_ H; (try dsimp only at H); simp only [Option.some.injEq, Prod.mk.injEq] at H; obtain ⟨rfl, rfl⟩ := H
   go_wp2_with (first | (refine gl_ 14 Tryz.func55 #[.string x0_3] ?_; refine mo_ (whole_Abs.calls x0_3 t110 _ A12.out) ?_; intro w16 hb; replace BK106 := kb_ BK106 hb; replace HB := bs_ HB hb; (try clear hb); (try clear hb2); (try clear hk); (try clear hi)) | (refine gl_ 16 Tryz.func54 #[.string t110, .string x1_3] ?_; refine mo_ (nat_Gcd.calls t110 x1_3 t111 _ (lb_ HLD HB) A13.out) ?_; intro w17 hb; replace BK106 := kb_ BK106 hb; replace HB := bs_ HB hb; (try clear hb); (try clear hb2); (try clear hk); (try clear hi)) | (refine gl_ 20 Tryz.func56 #[.string x0_3, .string t111] ?_; refine mo_ (whole_Div.calls x0_3 t111 t112 t113 t114 _ (lb_ HLD HB) A14.out) ?_; intro w18 hb; replace BK106 := kb_ BK106 hb; replace HB := bs_ HB hb; (try clear hb); (try clear hb2); (try clear hk); (try clear hi)) | (refine gl_ 27 Tryz.func56 #[.string x1_3, .string t111] ?_; refine mo_ (whole_Div.calls x1_3 t111 t115 t116 t117 _ (lb_ HLD HB) A15.out) ?_; intro w19 hb; replace BK106 := kb_ BK106 hb; replace HB := bs_ HB hb; (try clear hb); (try clear hb2); (try clear hk); (try clear hi); have hcz20_0 := bc_ BK106 0 rfl; have hcz20_1 := bc_ BK106 1 rfl; have hfz20_0 := blk_frozen BK106.out 0; have hfz20_1 := blk_frozen BK106.out 1))
   refine bodyPost_ret (results_cell_row rfl _ _ gb106 23 #[.string t112, .string t115] (0, 0) _ rfl (rp_ BK106.out) Tryz.underlying23 rfl (by kernel_rfl)) rfl ?_; exact ⟨er_, b_ HB.out⟩
def rat_Make.f (k : Nat) (a0 : ByteArray) (a1 : ByteArray) : Option (ByteArray × ByteArray × Bool) := (whole_May.f a0).bind fun t119 => (if t119 = true then ((whole_May.f a1).bind fun t120 => (if t120 = true then (if a1.toList = ([48] : List UInt8) then (some ((⟨#[]⟩ : ByteArray), (⟨#[]⟩ : ByteArray), false)) else ((rat_reduced.f k a0 a1).bind fun bt121 => (some (bt121.1, bt121.2, true)))) else (some ((⟨#[]⟩ : ByteArray), (⟨#[]⟩ : ByteArray), false)))) else (some ((⟨#[]⟩ : ByteArray), (⟨#[]⟩ : ByteArray), false)))
set_option maxHeartbeats 8000000 in
set_option maxRecDepth 100000 in
theorem rat_Make.calls (k : Nat) (a0 : ByteArray) (a1 : ByteArray) (r1 : ByteArray) (r2 : ByteArray) (r3 : Bool) (w : World) (hL_ : Laid w) (h : rat_Make.f k a0 a1 = some (r1, r2, r3)) :
  Calls Tryz.prog 22 #[.string a0, .string a1] w fun e w' => e = .returned (.tuple #[.agg #[.string r1, .string r2], .bool r3]) ∧ Below w.heap.size w w' := by
 have hu23 := Tryz.underlying23; have HLD := Aside0.mk hL_; clear hL_; have HB := Aside0.mk (Below.refl w.heap.size w); have H := h; unfold rat_Make.f at H; clear h; obtain ⟨t119, A3, H⟩ := bi_ H; by_cases c4 : t119 = true
 ·subst c4; rw [if_pos rfl] at H; obtain ⟨t120, A5, H⟩ := bi_ H; by_cases c6 : t120 = true
  ·subst c6; rw [if_pos rfl] at H; by_cases c7 : a1.toList = ([48] : List UInt8)
   ·rw [if_pos c7] at H; have c7b0 : (a1.toList == ([48] : List UInt8)) = true := beq_iff_eq.mpr c7; have c7b1 : (a1.toList != ([48] : List UInt8)) = false := bne_eq_false_iff_eq.mpr c7; clear c7; simp only [Option.some.injEq, Prod.mk.injEq] at H; obtain ⟨rfl, rfl, rfl⟩ := H; go_enter Tryz.func22, Tryz.ntmps22
    go_wp2_with (first | ((with_reducible refine gate_dst (N := 4) rfl ?_); refine be_ 4 #[.string (⟨#[]⟩ : ByteArray), .string (⟨#[]⟩ : ByteArray)] 23 ?_; intro gb118 hg w8 hbox hb; have BK118 := Aside0.mk (hbox); have GW118 := ge_ HB hg; have GE118 := ge_ HB hg; replace HB := bs_ HB hb; clear hb hbox hg) | (refine gl_ 7 Tryz.func43 #[.string a0] ?_; refine mo_ (whole_May.calls a0 true _ A3.out) ?_; intro w9 hb; replace BK118 := kb_ BK118 hb; replace HB := bs_ HB hb; (try clear hb); (try clear hb2); (try clear hk); (try clear hi)) | (go_at_call 43; (with_reducible refine (whole_May.calls a1 true _ A5.out).mono ?_); rintro e w10 ⟨rfl, hb⟩; replace BK118 := kb_ BK118 hb; replace HB := bs_ HB hb; (try clear hb); (try clear hb2); (try clear hk); (try clear hi); have hcz11_0 := bc_ BK118 0 rfl; have hcz11_1 := bc_ BK118 1 rfl; have hfz11_0 := blk_frozen BK118.out 0; have hfz11_1 := blk_frozen BK118.out 1))
    refine bodyPost_ret (results_ct rfl _ _ gb118 23 #[.string (⟨#[]⟩ : ByteArray), .string (⟨#[]⟩ : ByteArray)] (0, 0) _ rfl (rp_ BK118.out) Tryz.underlying23 rfl (by kernel_rfl)) rfl ?_; exact ⟨er_, b_ HB.out⟩
   ·rw [if_neg c7] at H; have c7b0 : (a1.toList == ([48] : List UInt8)) = false := beq_eq_false_iff_ne.mpr c7; have c7b1 : (a1.toList != ([48] : List UInt8)) = true := bne_iff_ne.mpr c7; obtain ⟨⟨t121, t122⟩, A12, H⟩ := bi_ H; (try dsimp only at H); simp only [Option.some.injEq, Prod.mk.injEq] at H; obtain ⟨rfl, rfl, rfl⟩ := H; go_enter Tryz.func22, Tryz.ntmps22
    go_wp2_with (first | ((with_reducible refine gate_dst (N := 4) rfl ?_); refine be_ 4 #[.string (⟨#[]⟩ : ByteArray), .string (⟨#[]⟩ : ByteArray)] 23 ?_; intro gb118 hg w13 hbox hb; have BK118 := Aside0.mk (hbox); have GW118 := ge_ HB hg; have GE118 := ge_ HB hg; replace HB := bs_ HB hb; clear hb hbox hg) | (refine gl_ 7 Tryz.func43 #[.string a0] ?_; refine mo_ (whole_May.calls a0 true _ A3.out) ?_; intro w14 hb; replace BK118 := kb_ BK118 hb; replace HB := bs_ HB hb; (try clear hb); (try clear hb2); (try clear hk); (try clear hi)) | (go_at_call 43; (with_reducible refine (whole_May.calls a1 true _ A5.out).mono ?_); rintro e w15 ⟨rfl, hb⟩; replace BK118 := kb_ BK118 hb; replace HB := bs_ HB hb; (try clear hb); (try clear hb2); (try clear hk); (try clear hi)) | (refine gl_ 21 Tryz.func41 #[.string a0, .string a1] ?_; refine mo_ (rat_reduced.calls k a0 a1 t121 t122 _ (lb_ HLD HB) A12.out) ?_; intro w16 hb; replace BK118 := kb_ BK118 hb; replace HB := bs_ HB hb; (try clear hb); (try clear hb2); (try clear hk); (try clear hi); have hcz17_0 := bc_ BK118 0 rfl; have hcz17_1 := bc_ BK118 1 rfl; have hfz17_0 := blk_frozen BK118.out 0; have hfz17_1 := blk_frozen BK118.out 1))
    refine bodyPost_ret (results_ct rfl _ _ gb118 23 #[.string t121, .string t122] (0, 0) _ rfl (rp_ BK118.out) Tryz.underlying23 rfl (by kernel_rfl)) rfl ?_; exact ⟨er_, b_ HB.out⟩
  ·replace c6 := Bool.eq_false_iff.mpr c6; subst c6; rw [if_neg nf_] at H; simp only [Option.some.injEq, Prod.mk.injEq] at H; obtain ⟨rfl, rfl, rfl⟩ := H; go_enter Tryz.func22, Tryz.ntmps22
   go_wp2_with (first | ((with_reducible refine gate_dst (N := 4) rfl ?_); refine be_ 4 #[.string (⟨#[]⟩ : ByteArray), .string (⟨#[]⟩ : ByteArray)] 23 ?_; intro gb118 hg w18 hbox hb; have BK118 := Aside0.mk (hbox); have GW118 := ge_ HB hg; have GE118 := ge_ HB hg; replace HB := bs_ HB hb; clear hb hbox hg) | (refine gl_ 7 Tryz.func43 #[.string a0] ?_; refine mo_ (whole_May.calls a0 true _ A3.out) ?_; intro w19 hb; replace BK118 := kb_ BK118 hb; replace HB := bs_ HB hb; (try clear hb); (try clear hb2); (try clear hk); (try clear hi)) | (go_at_call 43; (with_reducible refine (whole_May.calls a1 false _ A5.out).mono ?_); rintro e w20 ⟨rfl, hb⟩; replace BK118 := kb_ BK118 hb; replace HB := bs_ HB hb; (try clear hb); (try clear hb2); (try clear hk); (try clear hi); have hcz21_0 := bc_ BK118 0 rfl; have hcz21_1 := bc_ BK118 1 rfl; have hfz21_0 := blk_frozen BK118.out 0; have hfz21_1 := blk_frozen BK118.out 1))
   refine bodyPost_ret (results_ct rfl _ _ gb118 23 #[.string (⟨#[]⟩ : ByteArray), .string (⟨#[]⟩ : ByteArray)] (0, 0) _ rfl (rp_ BK118.out) Tryz.underlying23 rfl (by kernel_rfl)) rfl ?_; exact ⟨er_, b_ HB.out⟩
 ·replace c4 := Bool.eq_false_iff.mpr c4; subst c4; rw [if_neg nf_] at H; simp only [Option.some.injEq, Prod.mk.injEq] at H; obtain ⟨rfl, rfl, rfl⟩ := H; go_enter Tryz.func22, Tryz.ntmps22
  go_wp2_with (first | ((with_reducible refine gate_dst (N := 4) rfl ?_); refine be_ 4 #[.string (⟨#[]⟩ : ByteArray), .string (⟨#[]⟩ : ByteArray)] 23 ?_; intro gb118 hg w22 hbox hb; have BK118 := Aside0.mk (hbox); have GW118 := ge_ HB hg; have GE118 := ge_ HB hg; replace HB := bs_ HB hb; clear hb hbox hg) | (refine gl_ 7 Tryz.func43 #[.string a0] ?_; refine mo_ (whole_May.calls a0 false _ A3.out) ?_; intro w23 hb; replace BK118 := kb_ BK118 hb; replace HB := bs_ HB hb; (try clear hb); (try clear hb2); (try clear hk); (try clear hi); have hcz24_0 := bc_ BK118 0 rfl; have hcz24_1 := bc_ BK118 1 rfl; have hfz24_0 := blk_frozen BK118.out 0; have hfz24_1 := blk_frozen BK118.out 1))
  refine bodyPost_ret (results_ct rfl _ _ gb118 23 #[.string (⟨#[]⟩ : ByteArray), .string (⟨#[]⟩ : ByteArray)] (0, 0) _ rfl (rp_ BK118.out) Tryz.underlying23 rfl (by kernel_rfl)) rfl ?_; exact ⟨er_, b_ HB.out⟩
def rat_Of.f (a0 : Int) : Option (ByteArray × ByteArray) := (whole_Of.f a0).bind fun t124 => (some (t124, (⟨#[49]⟩ : ByteArray)))
set_option maxHeartbeats 8000000 in
set_option maxRecDepth 100000 in
theorem rat_Of.calls (a0 : Int) (r1 : ByteArray) (r2 : ByteArray) (w : World) (hL_ : Laid w) (h : rat_Of.f a0 = some (r1, r2)) :
  Calls Tryz.prog 59 #[.int .i64 a0] w fun e w' => e = .returned (.agg #[.string r1, .string r2]) ∧ Below w.heap.size w w' := by
 have hu23 := Tryz.underlying23; have HLD := Aside0.mk hL_; clear hL_; have HB := Aside0.mk (Below.refl w.heap.size w); have H := h; unfold rat_Of.f at H; clear h; obtain ⟨t124, A2, H⟩ := bi_ H; simp only [Option.some.injEq, Prod.mk.injEq] at H; obtain ⟨rfl, rfl⟩ := H; go_enter Tryz.func59, Tryz.ntmps59
 go_wp2_with (first | ((with_reducible refine gate_dst (N := 2) rfl ?_); refine be_ 2 #[.string (⟨#[]⟩ : ByteArray), .string (⟨#[]⟩ : ByteArray)] 23 ?_; intro gb123 hg w3 hbox hb; have BK123 := Aside0.mk (hbox); have GW123 := ge_ HB hg; have GE123 := ge_ HB hg; replace HB := bs_ HB hb; clear hb hbox hg) | (refine gl_ 4 Tryz.func74 #[.int .i64 a0] ?_; refine mo_ (whole_Of.calls a0 t124 _ (lb_ HLD HB) A2.out) ?_; intro w4 hb; replace BK123 := kb_ BK123 hb; replace HB := bs_ HB hb; (try clear hb); (try clear hb2); (try clear hk); (try clear hi); have hcz5_0 := bc_ BK123 0 rfl; have hcz5_1 := bc_ BK123 1 rfl; have hfz5_0 := blk_frozen BK123.out 0; have hfz5_1 := blk_frozen BK123.out 1))
 refine bodyPost_ret (results_cell_row rfl _ _ gb123 23 #[.string t124, .string (⟨#[49]⟩ : ByteArray)] (0, 0) _ rfl (rp_ BK123.out) Tryz.underlying23 rfl (by kernel_rfl)) rfl ?_; exact ⟨er_, b_ HB.out⟩
def rat_Sign.f (a0_0 : ByteArray) (a0_1 : ByteArray) : Option (Int) := (rat_May.f a0_0 a0_1).bind fun t126 => (if t126 = true then ((whole_Sign.f a0_0).bind fun t127 => (some t127)) else (some 0))
set_option maxHeartbeats 8000000 in
set_option maxRecDepth 100000 in
theorem rat_Sign.calls (a0_0 : ByteArray) (a0_1 : ByteArray) (r : Int) (w : World) (hL_ : Laid w) (h : rat_Sign.f a0_0 a0_1 = some r) :
  Calls Tryz.prog 20 #[.agg #[.string a0_0, .string a0_1]] w fun e w' => e = .returned (.int .i64 r) ∧ Below w.heap.size w w' := by
 have hu23 := Tryz.underlying23; have HLD := Aside0.mk hL_; clear hL_; have HB := Aside0.mk (Below.refl w.heap.size w); have H := h; unfold rat_Sign.f at H; clear h; obtain ⟨t126, A2, H⟩ := bi_ H; by_cases c3 : t126 = true
 ·subst c3; rw [if_pos rfl] at H; obtain ⟨t127, A4, H⟩ := bi_ H; obtain rfl := Option.some.inj H; go_enter Tryz.func20, Tryz.ntmps20
  go_wp2_with (first | ((with_reducible refine gate_dst (N := 1) rfl ?_); refine be_ 1 #[.string a0_0, .string a0_1] 23 ?_; intro gb125 hg w5 hbox hb; have BK125 := Aside0.mk (hbox); have GW125 := ge_ HB hg; have GE125 := ge_ HB hg; replace HB := bs_ HB hb; clear hb hbox hg; have hcz6_0 := bc_ BK125 0 rfl; have hcz6_1 := bc_ BK125 1 rfl; have hfz6_0 := blk_frozen BK125.out 0; have hfz6_1 := blk_frozen BK125.out 1) | (refine gl_ 4 Tryz.func33 #[.agg #[.string a0_0, .string a0_1]] ?_; refine mo_ (rat_May.calls a0_0 a0_1 true _ (lb_ HLD HB) A2.out) ?_; intro w7 hb; replace BK125 := kb_ BK125 hb; replace HB := bs_ HB hb; (try clear hb); (try clear hb2); (try clear hk); (try clear hi); have hcz8_0 := bc_ BK125 0 rfl; have hcz8_1 := bc_ BK125 1 rfl; have hfz8_0 := blk_frozen BK125.out 0; have hfz8_1 := blk_frozen BK125.out 1) | (refine gl_ 8 Tryz.func39 #[.string a0_0] ?_; refine mo_ (whole_Sign.calls a0_0 t127 _ A4.out) ?_; intro w9 hb; replace BK125 := kb_ BK125 hb; replace HB := bs_ HB hb; (try clear hb); (try clear hb2); (try clear hk); (try clear hi)))
  go_ret
  exact ⟨er_, b_ HB.out⟩
 ·replace c3 := Bool.eq_false_iff.mpr c3; subst c3; rw [if_neg nf_] at H; obtain rfl := Option.some.inj H; go_enter Tryz.func20, Tryz.ntmps20
  go_wp2_with (first | ((with_reducible refine gate_dst (N := 1) rfl ?_); refine be_ 1 #[.string a0_0, .string a0_1] 23 ?_; intro gb125 hg w10 hbox hb; have BK125 := Aside0.mk (hbox); have GW125 := ge_ HB hg; have GE125 := ge_ HB hg; replace HB := bs_ HB hb; clear hb hbox hg; have hcz11_0 := bc_ BK125 0 rfl; have hcz11_1 := bc_ BK125 1 rfl; have hfz11_0 := blk_frozen BK125.out 0; have hfz11_1 := blk_frozen BK125.out 1) | (refine gl_ 4 Tryz.func33 #[.agg #[.string a0_0, .string a0_1]] ?_; refine mo_ (rat_May.calls a0_0 a0_1 false _ (lb_ HLD HB) A2.out) ?_; intro w12 hb; replace BK125 := kb_ BK125 hb; replace HB := bs_ HB hb; (try clear hb); (try clear hb2); (try clear hk); (try clear hi)))
  go_ret
  exact ⟨er_, b_ HB.out⟩
def rat_both.f (a0_0 : ByteArray) (a0_1 : ByteArray) (a1_0 : ByteArray) (a1_1 : ByteArray) : Option (Bool) := (rat_May.f a0_0 a0_1).bind fun t130 => (if t130 = true then ((rat_May.f a1_0 a1_1).bind fun t131 => (some t131)) else (some false))
set_option maxHeartbeats 8000000 in
set_option maxRecDepth 100000 in
theorem rat_both.calls (a0_0 : ByteArray) (a0_1 : ByteArray) (a1_0 : ByteArray) (a1_1 : ByteArray) (r : Bool) (w : World) (hL_ : Laid w) (h : rat_both.f a0_0 a0_1 a1_0 a1_1 = some r) :
  Calls Tryz.prog 40 #[.agg #[.string a0_0, .string a0_1], .agg #[.string a1_0, .string a1_1]] w fun e w' => e = .returned (.bool r) ∧ Below w.heap.size w w' := by
 have hu23 := Tryz.underlying23; have HLD := Aside0.mk hL_; clear hL_; have HB := Aside0.mk (Below.refl w.heap.size w); have H := h; unfold rat_both.f at H; clear h; obtain ⟨t130, A3, H⟩ := bi_ H; by_cases c4 : t130 = true
 ·subst c4; rw [if_pos rfl] at H; obtain ⟨t131, A5, H⟩ := bi_ H; obtain rfl := Option.some.inj H; go_enter Tryz.func40, Tryz.ntmps40
  go_wp2_with (first | ((with_reducible refine gate_dst (N := 2) rfl ?_); refine be_ 2 #[.string a0_0, .string a0_1] 23 ?_; intro gb128 hg w6 hbox hb; have BK128 := Aside0.mk (hbox); have GW128 := ge_ HB hg; have GE128 := ge_ HB hg; replace HB := bs_ HB hb; clear hb hbox hg) | ((with_reducible refine gate_dst (N := 3) rfl ?_); refine be_ 3 #[.string a1_0, .string a1_1] 23 ?_; intro gb129 hg w7 hbox hb; have BK129 := Aside0.mk (hbox); have GW129 := ge_ HB hg; have GE129 := ge_ HB hg; have NB128_129 := nl_ BK128 hg; have NB129_128 := ng_ BK128 hg; replace BK128 := kb_ BK128 hb; replace HB := bs_ HB hb; clear hb hbox hg; have hnb8 := NB128_129.out; have hnc8 := NB129_128.out; have hcz9_0 := bc_ BK128 0 rfl; have hcz9_1 := bc_ BK128 1 rfl; have hfz9_0 := blk_frozen BK128.out 0; have hfz9_1 := blk_frozen BK128.out 1) | (refine gl_ 6 Tryz.func33 #[.agg #[.string a0_0, .string a0_1]] ?_; refine mo_ (rat_May.calls a0_0 a0_1 true _ (lb_ HLD HB) A3.out) ?_; intro w10 hb; replace BK128 := kb_ BK128 hb; replace BK129 := kb_ BK129 hb; replace HB := bs_ HB hb; (try clear hb); (try clear hb2); (try clear hk); (try clear hi); have hcz11_0 := bc_ BK129 0 rfl; have hcz11_1 := bc_ BK129 1 rfl; have hfz11_0 := blk_frozen BK129.out 0; have hfz11_1 := blk_frozen BK129.out 1) | (go_at_call 33; (with_reducible refine (rat_May.calls a1_0 a1_1 t131 _ ?side1 A5.out).mono ?_); (case side1 => exact lb_ HLD HB); rintro e w12 ⟨rfl, hb⟩; replace BK128 := kb_ BK128 hb; replace BK129 := kb_ BK129 hb; replace HB := bs_ HB hb; (try clear hb); (try clear hb2); (try clear hk); (try clear hi)))
  go_ret
  exact ⟨er_, b_ HB.out⟩
 ·replace c4 := Bool.eq_false_iff.mpr c4; subst c4; rw [if_neg nf_] at H; obtain rfl := Option.some.inj H; go_enter Tryz.func40, Tryz.ntmps40
  go_wp2_with (first | ((with_reducible refine gate_dst (N := 2) rfl ?_); refine be_ 2 #[.string a0_0, .string a0_1] 23 ?_; intro gb128 hg w13 hbox hb; have BK128 := Aside0.mk (hbox); have GW128 := ge_ HB hg; have GE128 := ge_ HB hg; replace HB := bs_ HB hb; clear hb hbox hg) | ((with_reducible refine gate_dst (N := 3) rfl ?_); refine be_ 3 #[.string a1_0, .string a1_1] 23 ?_; intro gb129 hg w14 hbox hb; have BK129 := Aside0.mk (hbox); have GW129 := ge_ HB hg; have GE129 := ge_ HB hg; have NB128_129 := nl_ BK128 hg; have NB129_128 := ng_ BK128 hg; replace BK128 := kb_ BK128 hb; replace HB := bs_ HB hb; clear hb hbox hg; have hnb15 := NB128_129.out; have hnc15 := NB129_128.out; have hcz16_0 := bc_ BK128 0 rfl; have hcz16_1 := bc_ BK128 1 rfl; have hfz16_0 := blk_frozen BK128.out 0; have hfz16_1 := blk_frozen BK128.out 1) | (refine gl_ 6 Tryz.func33 #[.agg #[.string a0_0, .string a0_1]] ?_; refine mo_ (rat_May.calls a0_0 a0_1 false _ (lb_ HLD HB) A3.out) ?_; intro w17 hb; replace BK128 := kb_ BK128 hb; replace BK129 := kb_ BK129 hb; replace HB := bs_ HB hb; (try clear hb); (try clear hb2); (try clear hk); (try clear hi)))
  go_ret
  exact ⟨er_, b_ HB.out⟩
def rat_Cmp.f (a0_0 : ByteArray) (a0_1 : ByteArray) (a1_0 : ByteArray) (a1_1 : ByteArray) : Option (Int) := (rat_both.f a0_0 a0_1 a1_0 a1_1).bind fun t134 => (if t134 = true then ((whole_Mul.f a0_0 a1_1).bind fun t135 => ((whole_Mul.f a1_0 a0_1).bind fun t136 => ((whole_Cmp.f t135 t136).bind fun t137 => (some t137)))) else (some 0))
def rat_Cmp.T3 : Bool × List (List Nat × List Nat) := (true, [([], []), ([0], [0]), ([], []), ([2], [2]), ([1, 3], [1, 3]), ([], []), ([5], [5]), ([], []), ([7], [7]), ([6, 8, 4], [6, 8]), ([4, 9, 9], [4, 9]), ([10, 10, 0, 1, 2, 3, 4, 5, 6, 7, 8, 9, 10], [10])])
def rat_Cmp.B3 : List Nat := [0, 1, 0, 4, 15, 0, 32, 0, 128, 511, 1023, 2047]
theorem rat_Cmp.tab3 : rtab .any (opsOf Tryz.f57 3) = rat_Cmp.T3 := by kernel_rfl
theorem rat_Cmp.bits3 : waitsOk rat_Cmp.T3.2 rat_Cmp.B3 = true := by kernel_rfl
set_option maxHeartbeats 8000000 in
set_option maxRecDepth 100000 in
theorem rat_Cmp.calls (a0_0 : ByteArray) (a0_1 : ByteArray) (a1_0 : ByteArray) (a1_1 : ByteArray) (r : Int) (w : World) (hL_ : Laid w) (h : rat_Cmp.f a0_0 a0_1 a1_0 a1_1 = some r) :
  Calls Tryz.prog 57 #[.agg #[.string a0_0, .string a0_1], .agg #[.string a1_0, .string a1_1]] w fun e w' => e = .returned (.int .i64 r) ∧ Below w.heap.size w w' := by
 have hu23 := Tryz.underlying23; have HLD := Aside0.mk hL_; clear hL_; have HB := Aside0.mk (Below.refl w.heap.size w); have H := h; unfold rat_Cmp.f at H; clear h; obtain ⟨t134, A3, H⟩ := bi_ H; by_cases c4 : t134 = true
 ·subst c4; rw [if_pos rfl] at H; obtain ⟨t135, A5, H⟩ := bi_ H; obtain ⟨t136, A6, H⟩ := bi_ H; obtain ⟨t137, A7, H⟩ := bi_ H; obtain rfl := Option.some.inj H; go_enter Tryz.func57, Tryz.ntmps57
  try go_wp2_with (first | ((with_reducible refine gate_dst (N := 2) rfl ?_); refine be_ 2 #[.string a0_0, .string a0_1] 23 ?_; intro gb132 hg w8 hbox hb; have BK132 := Aside0.mk (hbox); have GW132 := ge_ HB hg; have GE132 := ge_ HB hg; replace HB := bs_ HB hb; clear hb hbox hg) | ((with_reducible refine gate_dst (N := 3) rfl ?_); refine be_ 3 #[.string a1_0, .string a1_1] 23 ?_; intro gb133 hg w9 hbox hb; have BK133 := Aside0.mk (hbox); have GW133 := ge_ HB hg; have GE133 := ge_ HB hg; have NB132_133 := nl_ BK132 hg; have NB133_132 := ng_ BK132 hg; replace BK132 := kb_ BK132 hb; replace HB := bs_ HB hb; clear hb hbox hg; have hnb10 := NB132_133.out; have hnc10 := NB133_132.out; have hcz11_0 := bc_ BK132 0 rfl; have hcz11_1 := bc_ BK132 1 rfl; have hfz11_0 := blk_frozen BK132.out 0; have hfz11_1 := blk_frozen BK132.out 1; have hcz12_0 := bc_ BK133 0 rfl; have hcz12_1 := bc_ BK133 1 rfl; have hfz12_0 := blk_frozen BK133.out 0; have hfz12_1 := blk_frozen BK133.out 1) | (refine gl_ 7 Tryz.func40 #[.agg #[.string a0_0, .string a0_1], .agg #[.string a1_0, .string a1_1]] ?_; refine mo_ (rat_both.calls a0_0 a0_1 a1_0 a1_1 true _ (lb_ HLD HB) A3.out) ?_; intro w13 hb; replace BK132 := kb_ BK132 hb; replace BK133 := kb_ BK133 hb; replace HB := bs_ HB hb; (try clear hb); (try clear hb2); (try clear hk); (try clear hi)))
  replace BK132 := Aside0.mk (blk_drew BK132.out); replace BK133 := Aside0.mk (blk_drew BK133.out); replace HB := Aside0.mk (below_drew1 HB.out); refine sa_ 12 (fun w' => w'.cell? ⟨gb132, 0, none⟩ = some (.string a0_0) ∧ w'.cell? ⟨gb132, 1, none⟩ = some (.string a0_1) ∧ w'.cell? ⟨gb133, 0, none⟩ = some (.string a1_0) ∧ w'.cell? ⟨gb133, 1, none⟩ = some (.string a1_1)) (fun hHeld => ?_); refine with_tabW rat_Cmp.tab3 rat_Cmp.bits3 (fun HT_ HW_ => ?_); generalize w13.drew = w14 at BK132 BK133 HB hHeld ⊢; refine pu_ 0 9 rfl rfl HT_ ?_; refine pu_ 2 11 rfl rfl HT_ ?_; refine pu_ 5 14 rfl rfl HT_ ?_; refine pu_ 7 16 rfl rfl HT_ ?_; refine t4_ 1 10 rfl rfl HT_ HW_ hHeld ?_; refine t4_ 3 12 rfl rfl HT_ HW_ hHeld ?_; refine t4_ 6 15 rfl rfl HT_ HW_ hHeld ?_; refine t4_ 8 17 rfl rfl HT_ HW_ hHeld ?_; refine on_ 4 (some 13) rfl rfl HT_ (fun K hK => ?_); refine gs_ Tryz.func42 #[.string a0_0, .string a1_1] ?_; refine mo_ (whole_Mul.calls a0_0 a1_1 t135 _ (lb_ HLD HB) A5.out) ?_; intro w15 hb; replace BK132 := kb_ BK132 hb; replace BK133 := kb_ BK133 hb; replace HB := bs_ HB hb; (try clear hb); refine hk_ hK (fun hHeld => ?_); clear hK K; refine nm_ ?_; refine on_ 9 (some 18) rfl rfl HT_ (fun K hK => ?_); refine gs_ Tryz.func42 #[.string a1_0, .string a0_1] ?_; refine mo_ (whole_Mul.calls a1_0 a0_1 t136 _ (lb_ HLD HB) A6.out) ?_; intro w16 hb; replace BK132 := kb_ BK132 hb; replace BK133 := kb_ BK133 hb; replace HB := bs_ HB hb; (try clear hb); refine hk_ hK (fun hHeld => ?_); clear hK K; refine nm_ ?_; refine on_ 10 (some 19) rfl rfl HT_ (fun K hK => ?_); refine gs_ Tryz.func73 #[.string t135, .string t136] ?_; refine mo_ (whole_Cmp.calls t135 t136 t137 _ A7.out) ?_; intro w17 hb; replace BK132 := kb_ BK132 hb; replace BK133 := kb_ BK133 hb; replace HB := bs_ HB hb; (try clear hb); refine hk_ hK (fun hHeld => ?_); clear hK K; refine nm_ ?_; refine pu_ 11 4 rfl rfl HT_ ?_; refine done_ (done_of HT_.out (by kernel_rfl)) ?_
  try go_wp2
  go_ret
  exact ⟨er_, b_ HB.out⟩
 ·replace c4 := Bool.eq_false_iff.mpr c4; subst c4; rw [if_neg nf_] at H; obtain rfl := Option.some.inj H; go_enter Tryz.func57, Tryz.ntmps57
  go_wp2_with (first | ((with_reducible refine gate_dst (N := 2) rfl ?_); refine be_ 2 #[.string a0_0, .string a0_1] 23 ?_; intro gb132 hg w18 hbox hb; have BK132 := Aside0.mk (hbox); have GW132 := ge_ HB hg; have GE132 := ge_ HB hg; replace HB := bs_ HB hb; clear hb hbox hg) | ((with_reducible refine gate_dst (N := 3) rfl ?_); refine be_ 3 #[.string a1_0, .string a1_1] 23 ?_; intro gb133 hg w19 hbox hb; have BK133 := Aside0.mk (hbox); have GW133 := ge_ HB hg; have GE133 := ge_ HB hg; have NB132_133 := nl_ BK132 hg; have NB133_132 := ng_ BK132 hg; replace BK132 := kb_ BK132 hb; replace HB := bs_ HB hb; clear hb hbox hg; have hnb20 := NB132_133.out; have hnc20 := NB133_132.out; have hcz21_0 := bc_ BK132 0 rfl; have hcz21_1 := bc_ BK132 1 rfl; have hfz21_0 := blk_frozen BK132.out 0; have hfz21_1 := blk_frozen BK132.out 1; have hcz22_0 := bc_ BK133 0 rfl; have hcz22_1 := bc_ BK133 1 rfl; have hfz22_0 := blk_frozen BK133.out 0; have hfz22_1 := blk_frozen BK133.out 1) | (refine gl_ 7 Tryz.func40 #[.agg #[.string a0_0, .string a0_1], .agg #[.string a1_0, .string a1_1]] ?_; refine mo_ (rat_both.calls a0_0 a0_1 a1_0 a1_1 false _ (lb_ HLD HB) A3.out) ?_; intro w23 hb; replace BK132 := kb_ BK132 hb; replace BK133 := kb_ BK133 hb; replace HB := bs_ HB hb; (try clear hb); (try clear hb2); (try clear hk); (try clear hi)))
  go_ret
  exact ⟨er_, b_ HB.out⟩
end Go.Proofs.YtnhpnnbjimnmlaaGreatDoor.Py
end

section
namespace Go.Proofs.YtnhpnnbjimnmlaaGreatDoor.Py
def rat_Add.f (k : Nat) (a0_0 : ByteArray) (a0_1 : ByteArray) (a1_0 : ByteArray) (a1_1 : ByteArray) : Option (ByteArray × ByteArray) := (rat_both.f a0_0 a0_1 a1_0 a1_1).bind fun t141 => (if t141 = true then ((whole_Mul.f a0_0 a1_1).bind fun t142 => ((whole_Mul.f a1_0 a0_1).bind fun t143 => ((whole_Add.f t142 t143).bind fun t144 => ((nat_Mul.f a0_1 a1_1).bind fun t145 => ((rat_reduced.f k t144 t145).bind fun bt146 => (some (bt146.1, bt146.2))))))) else (some ((⟨#[]⟩ : ByteArray), (⟨#[]⟩ : ByteArray))))
def rat_Add.T3 : Bool × List (List Nat × List Nat) := (true, [([], []), ([0], [0]), ([], []), ([2], [2]), ([1, 3], [1, 3]), ([], []), ([5], [5]), ([], []), ([7], [7]), ([6, 8, 4], [6, 8]), ([4, 9, 9], [4, 9]), ([], []), ([11], [11]), ([], []), ([13], [13]), ([12, 14, 10], [12, 14]), ([10, 15, 15], [10, 15]), ([16, 16, 0, 1, 2, 3, 4, 5, 6, 7, 8, 9, 10, 11, 12, 13, 14, 15, 16], [16])])
def rat_Add.B3 : List Nat := [0, 1, 0, 4, 15, 0, 32, 0, 128, 511, 1023, 0, 2048, 0, 8192, 32767, 65535, 131071]
theorem rat_Add.tab3 : rtab .any (opsOf Tryz.f58 3) = rat_Add.T3 := by kernel_rfl
theorem rat_Add.bits3 : waitsOk rat_Add.T3.2 rat_Add.B3 = true := by kernel_rfl
set_option maxHeartbeats 8000000 in
set_option maxRecDepth 100000 in
theorem rat_Add.calls (k : Nat) (a0_0 : ByteArray) (a0_1 : ByteArray) (a1_0 : ByteArray) (a1_1 : ByteArray) (r1 : ByteArray) (r2 : ByteArray) (w : World) (hL_ : Laid w) (h : rat_Add.f k a0_0 a0_1 a1_0 a1_1 = some (r1, r2)) :
  Calls Tryz.prog 58 #[.agg #[.string a0_0, .string a0_1], .agg #[.string a1_0, .string a1_1]] w fun e w' => e = .returned (.agg #[.string r1, .string r2]) ∧ Below w.heap.size w w' := by
 have hu23 := Tryz.underlying23; have HLD := Aside0.mk hL_; clear hL_; have HB := Aside0.mk (Below.refl w.heap.size w); have H := h; unfold rat_Add.f at H; clear h; obtain ⟨t141, A3, H⟩ := bi_ H; by_cases c4 : t141 = true
 ·subst c4; rw [if_pos rfl] at H; obtain ⟨t142, A5, H⟩ := bi_ H; obtain ⟨t143, A6, H⟩ := bi_ H; obtain ⟨t144, A7, H⟩ := bi_ H; obtain ⟨t145, A8, H⟩ := bi_ H; obtain ⟨⟨t146, t147⟩, A9, H⟩ := bi_ H; (try dsimp only at H); simp only [Option.some.injEq, Prod.mk.injEq] at H; obtain ⟨rfl, rfl⟩ := H; go_enter Tryz.func58, Tryz.ntmps58
  try go_wp2_with (first | ((with_reducible refine gate_dst (N := 2) rfl ?_); refine be_ 2 #[.string a0_0, .string a0_1] 23 ?_; intro gb138 hg w10 hbox hb; have BK138 := Aside0.mk (hbox); have GW138 := ge_ HB hg; have GE138 := ge_ HB hg; replace HB := bs_ HB hb; clear hb hbox hg) | ((with_reducible refine gate_dst (N := 3) rfl ?_); refine be_ 3 #[.string a1_0, .string a1_1] 23 ?_; intro gb139 hg w11 hbox hb; have BK139 := Aside0.mk (hbox); have GW139 := ge_ HB hg; have GE139 := ge_ HB hg; have NB138_139 := nl_ BK138 hg; have NB139_138 := ng_ BK138 hg; replace BK138 := kb_ BK138 hb; replace HB := bs_ HB hb; clear hb hbox hg) | ((with_reducible refine gate_dst (N := 4) rfl ?_); refine be_ 4 #[.string (⟨#[]⟩ : ByteArray), .string (⟨#[]⟩ : ByteArray)] 23 ?_; intro gb140 hg w12 hbox hb; have BK140 := Aside0.mk (hbox); have GW140 := ge_ HB hg; have GE140 := ge_ HB hg; have NB138_140 := nl_ BK138 hg; have NB140_138 := ng_ BK138 hg; have NB139_140 := nl_ BK139 hg; have NB140_139 := ng_ BK139 hg; replace BK138 := kb_ BK138 hb; replace BK139 := kb_ BK139 hb; replace HB := bs_ HB hb; clear hb hbox hg; have hnb13 := NB138_139.out; have hnc13 := NB139_138.out; have hnb14 := NB138_140.out; have hnc14 := NB140_138.out; have hcz15_0 := bc_ BK138 0 rfl; have hcz15_1 := bc_ BK138 1 rfl; have hfz15_0 := blk_frozen BK138.out 0; have hfz15_1 := blk_frozen BK138.out 1; have hnb16 := NB139_140.out; have hnc16 := NB140_139.out; have hcz17_0 := bc_ BK139 0 rfl; have hcz17_1 := bc_ BK139 1 rfl; have hfz17_0 := blk_frozen BK139.out 0; have hfz17_1 := blk_frozen BK139.out 1) | (refine gl_ 7 Tryz.func40 #[.agg #[.string a0_0, .string a0_1], .agg #[.string a1_0, .string a1_1]] ?_; refine mo_ (rat_both.calls a0_0 a0_1 a1_0 a1_1 true _ (lb_ HLD HB) A3.out) ?_; intro w18 hb; replace BK138 := kb_ BK138 hb; replace BK139 := kb_ BK139 hb; replace BK140 := kb_ BK140 hb; replace HB := bs_ HB hb; (try clear hb); (try clear hb2); (try clear hk); (try clear hi)))
  replace BK138 := Aside0.mk (blk_drew BK138.out); replace BK139 := Aside0.mk (blk_drew BK139.out); replace BK140 := Aside0.mk (blk_drew BK140.out); replace HB := Aside0.mk (below_drew1 HB.out); refine sa_ 18 (fun w' => w'.cell? ⟨gb138, 0, none⟩ = some (.string a0_0) ∧ w'.cell? ⟨gb138, 1, none⟩ = some (.string a0_1) ∧ w'.cell? ⟨gb139, 0, none⟩ = some (.string a1_0) ∧ w'.cell? ⟨gb139, 1, none⟩ = some (.string a1_1)) (fun hHeld => ?_); refine with_tabW rat_Add.tab3 rat_Add.bits3 (fun HT_ HW_ => ?_); generalize w18.drew = w19 at BK138 BK139 BK140 HB hHeld ⊢; refine pu_ 0 10 rfl rfl HT_ ?_; refine pu_ 2 12 rfl rfl HT_ ?_; refine pu_ 5 15 rfl rfl HT_ ?_; refine pu_ 7 17 rfl rfl HT_ ?_; refine pu_ 11 21 rfl rfl HT_ ?_; refine pu_ 13 23 rfl rfl HT_ ?_; refine t4_ 1 11 rfl rfl HT_ HW_ hHeld ?_; refine t4_ 3 13 rfl rfl HT_ HW_ hHeld ?_; refine t4_ 6 16 rfl rfl HT_ HW_ hHeld ?_; refine t4_ 8 18 rfl rfl HT_ HW_ hHeld ?_; refine t4_ 12 22 rfl rfl HT_ HW_ hHeld ?_; refine t4_ 14 24 rfl rfl HT_ HW_ hHeld ?_; refine on_ 4 (some 14) rfl rfl HT_ (fun K hK => ?_); refine gs_ Tryz.func42 #[.string a0_0, .string a1_1] ?_; refine mo_ (whole_Mul.calls a0_0 a1_1 t142 _ (lb_ HLD HB) A5.out) ?_; intro w20 hb; replace BK138 := kb_ BK138 hb; replace BK139 := kb_ BK139 hb; replace BK140 := kb_ BK140 hb; replace HB := bs_ HB hb; (try clear hb); refine hk_ hK (fun hHeld => ?_); clear hK K; refine nm_ ?_; refine on_ 9 (some 19) rfl rfl HT_ (fun K hK => ?_); refine gs_ Tryz.func42 #[.string a1_0, .string a0_1] ?_; refine mo_ (whole_Mul.calls a1_0 a0_1 t143 _ (lb_ HLD HB) A6.out) ?_; intro w21 hb; replace BK138 := kb_ BK138 hb; replace BK139 := kb_ BK139 hb; replace BK140 := kb_ BK140 hb; replace HB := bs_ HB hb; (try clear hb); refine hk_ hK (fun hHeld => ?_); clear hK K; refine nm_ ?_; refine on_ 10 (some 20) rfl rfl HT_ (fun K hK => ?_); refine gs_ Tryz.func36 #[.string t142, .string t143] ?_; refine mo_ (whole_Add.calls t142 t143 t144 _ (lb_ HLD HB) A7.out) ?_; intro w22 hb; replace BK138 := kb_ BK138 hb; replace BK139 := kb_ BK139 hb; replace BK140 := kb_ BK140 hb; replace HB := bs_ HB hb; (try clear hb); refine hk_ hK (fun hHeld => ?_); clear hK K; refine nm_ ?_; refine on_ 15 (some 25) rfl rfl HT_ (fun K hK => ?_); refine gs_ Tryz.func44 #[.string a0_1, .string a1_1] ?_; refine mo_ (nat_Mul.calls a0_1 a1_1 t145 _ (lb_ HLD HB) A8.out) ?_; intro w23 hb; replace BK138 := kb_ BK138 hb; replace BK139 := kb_ BK139 hb; replace BK140 := kb_ BK140 hb; replace HB := bs_ HB hb; (try clear hb); refine hk_ hK (fun hHeld => ?_); clear hK K; refine nm_ ?_; refine on_ 16 (some 26) rfl rfl HT_ (fun K hK => ?_); refine gs_ Tryz.func41 #[.string t144, .string t145] ?_; refine mo_ (rat_reduced.calls k t144 t145 t146 t147 _ (lb_ HLD HB) A9.out) ?_; intro w24 hb; replace BK138 := kb_ BK138 hb; replace BK139 := kb_ BK139 hb; replace BK140 := kb_ BK140 hb; replace HB := bs_ HB hb; (try clear hb); refine hk_ hK (fun hHeld => ?_); clear hK K; refine nm_ ?_; refine on_ 17 none rfl rfl HT_ (fun K hK => ?_); have hs25 := bc_ BK140 0 rfl; have hfs25 := blk_frozen BK140.out 0; have hns25_0 := NB138_140.out; have hns25_1 := NB139_140.out; have hms25_0 := NB140_138.out; have hms25_1 := NB140_139.out; have hs26 := bc_ BK140 1 rfl; have hfs26 := blk_frozen BK140.out 1; have hns26_0 := NB138_140.out; have hns26_1 := NB139_140.out; have hms26_0 := NB140_138.out; have hms26_1 := NB140_139.out; refine skip_ (w1 := ?_) (by rfl) rfl ?_ ?_; rotate_left
  ·go_simp
   rfl
  refine hf_ hK hHeld (fun hHeld => ?_); clear hK K; refine done_ (done_of HT_.out (by kernel_rfl)) ?_
  try go_wp2
  refine bodyPost_ret (results_cell_row rfl _ _ gb140 23 #[.string t146, .string t147] (0, 0) _ rfl (rp_ BK140.out) Tryz.underlying23 rfl (by kernel_rfl)) rfl ?_; exact ⟨er_, b_ HB.out⟩
 ·replace c4 := Bool.eq_false_iff.mpr c4; subst c4; rw [if_neg nf_] at H; simp only [Option.some.injEq, Prod.mk.injEq] at H; obtain ⟨rfl, rfl⟩ := H; go_enter Tryz.func58, Tryz.ntmps58
  go_wp2_with (first | ((with_reducible refine gate_dst (N := 2) rfl ?_); refine be_ 2 #[.string a0_0, .string a0_1] 23 ?_; intro gb138 hg w27 hbox hb; have BK138 := Aside0.mk (hbox); have GW138 := ge_ HB hg; have GE138 := ge_ HB hg; replace HB := bs_ HB hb; clear hb hbox hg) | ((with_reducible refine gate_dst (N := 3) rfl ?_); refine be_ 3 #[.string a1_0, .string a1_1] 23 ?_; intro gb139 hg w28 hbox hb; have BK139 := Aside0.mk (hbox); have GW139 := ge_ HB hg; have GE139 := ge_ HB hg; have NB138_139 := nl_ BK138 hg; have NB139_138 := ng_ BK138 hg; replace BK138 := kb_ BK138 hb; replace HB := bs_ HB hb; clear hb hbox hg) | ((with_reducible refine gate_dst (N := 4) rfl ?_); refine be_ 4 #[.string (⟨#[]⟩ : ByteArray), .string (⟨#[]⟩ : ByteArray)] 23 ?_; intro gb140 hg w29 hbox hb; have BK140 := Aside0.mk (hbox); have GW140 := ge_ HB hg; have GE140 := ge_ HB hg; have NB138_140 := nl_ BK138 hg; have NB140_138 := ng_ BK138 hg; have NB139_140 := nl_ BK139 hg; have NB140_139 := ng_ BK139 hg; replace BK138 := kb_ BK138 hb; replace BK139 := kb_ BK139 hb; replace HB := bs_ HB hb; clear hb hbox hg; have hnb30 := NB138_139.out; have hnc30 := NB139_138.out; have hnb31 := NB138_140.out; have hnc31 := NB140_138.out; have hcz32_0 := bc_ BK138 0 rfl; have hcz32_1 := bc_ BK138 1 rfl; have hfz32_0 := blk_frozen BK138.out 0; have hfz32_1 := blk_frozen BK138.out 1; have hnb33 := NB139_140.out; have hnc33 := NB140_139.out; have hcz34_0 := bc_ BK139 0 rfl; have hcz34_1 := bc_ BK139 1 rfl; have hfz34_0 := blk_frozen BK139.out 0; have hfz34_1 := blk_frozen BK139.out 1) | (refine gl_ 7 Tryz.func40 #[.agg #[.string a0_0, .string a0_1], .agg #[.string a1_0, .string a1_1]] ?_; refine mo_ (rat_both.calls a0_0 a0_1 a1_0 a1_1 false _ (lb_ HLD HB) A3.out) ?_; intro w35 hb; replace BK138 := kb_ BK138 hb; replace BK139 := kb_ BK139 hb; replace BK140 := kb_ BK140 hb; replace HB := bs_ HB hb; (try clear hb); (try clear hb2); (try clear hk); (try clear hi); have hcz36_0 := bc_ BK140 0 rfl; have hcz36_1 := bc_ BK140 1 rfl; have hfz36_0 := blk_frozen BK140.out 0; have hfz36_1 := blk_frozen BK140.out 1))
  refine bodyPost_ret (results_cell_row rfl _ _ gb140 23 #[.string (⟨#[]⟩ : ByteArray), .string (⟨#[]⟩ : ByteArray)] (0, 0) _ rfl (rp_ BK140.out) Tryz.underlying23 rfl (by kernel_rfl)) rfl ?_; exact ⟨er_, b_ HB.out⟩
def rat_Mul.f (k : Nat) (a0_0 : ByteArray) (a0_1 : ByteArray) (a1_0 : ByteArray) (a1_1 : ByteArray) : Option (ByteArray × ByteArray) := (rat_both.f a0_0 a0_1 a1_0 a1_1).bind fun t151 => (if t151 = true then ((whole_Mul.f a0_0 a1_0).bind fun t152 => ((nat_Mul.f a0_1 a1_1).bind fun t153 => ((rat_reduced.f k t152 t153).bind fun bt154 => (some (bt154.1, bt154.2))))) else (some ((⟨#[]⟩ : ByteArray), (⟨#[]⟩ : ByteArray))))
def rat_Mul.T3 : Bool × List (List Nat × List Nat) := (true, [([], []), ([0], [0]), ([], []), ([2], [2]), ([1, 3], [1, 3]), ([], []), ([5], [5]), ([], []), ([7], [7]), ([6, 8, 4], [6, 8]), ([4, 9, 9], [4, 9]), ([10, 10, 0, 1, 2, 3, 4, 5, 6, 7, 8, 9, 10], [10])])
def rat_Mul.B3 : List Nat := [0, 1, 0, 4, 15, 0, 32, 0, 128, 511, 1023, 2047]
theorem rat_Mul.tab3 : rtab .any (opsOf Tryz.f23 3) = rat_Mul.T3 := by kernel_rfl
theorem rat_Mul.bits3 : waitsOk rat_Mul.T3.2 rat_Mul.B3 = true := by kernel_rfl
set_option maxHeartbeats 8000000 in
set_option maxRecDepth 100000 in
theorem rat_Mul.calls (k : Nat) (a0_0 : ByteArray) (a0_1 : ByteArray) (a1_0 : ByteArray) (a1_1 : ByteArray) (r1 : ByteArray) (r2 : ByteArray) (w : World) (hL_ : Laid w) (h : rat_Mul.f k a0_0 a0_1 a1_0 a1_1 = some (r1, r2)) :
  Calls Tryz.prog 23 #[.agg #[.string a0_0, .string a0_1], .agg #[.string a1_0, .string a1_1]] w fun e w' => e = .returned (.agg #[.string r1, .string r2]) ∧ Below w.heap.size w w' := by
 have hu23 := Tryz.underlying23; have HLD := Aside0.mk hL_; clear hL_; have HB := Aside0.mk (Below.refl w.heap.size w); have H := h; unfold rat_Mul.f at H; clear h; obtain ⟨t151, A3, H⟩ := bi_ H; by_cases c4 : t151 = true
 ·subst c4; rw [if_pos rfl] at H; obtain ⟨t152, A5, H⟩ := bi_ H; obtain ⟨t153, A6, H⟩ := bi_ H; obtain ⟨⟨t154, t155⟩, A7, H⟩ := bi_ H; (try dsimp only at H); simp only [Option.some.injEq, Prod.mk.injEq] at H; obtain ⟨rfl, rfl⟩ := H; go_enter Tryz.func23, Tryz.ntmps23
  try go_wp2_with (first | ((with_reducible refine gate_dst (N := 2) rfl ?_); refine be_ 2 #[.string a0_0, .string a0_1] 23 ?_; intro gb148 hg w8 hbox hb; have BK148 := Aside0.mk (hbox); have GW148 := ge_ HB hg; have GE148 := ge_ HB hg; replace HB := bs_ HB hb; clear hb hbox hg) | ((with_reducible refine gate_dst (N := 3) rfl ?_); refine be_ 3 #[.string a1_0, .string a1_1] 23 ?_; intro gb149 hg w9 hbox hb; have BK149 := Aside0.mk (hbox); have GW149 := ge_ HB hg; have GE149 := ge_ HB hg; have NB148_149 := nl_ BK148 hg; have NB149_148 := ng_ BK148 hg; replace BK148 := kb_ BK148 hb; replace HB := bs_ HB hb; clear hb hbox hg) | ((with_reducible refine gate_dst (N := 4) rfl ?_); refine be_ 4 #[.string (⟨#[]⟩ : ByteArray), .string (⟨#[]⟩ : ByteArray)] 23 ?_; intro gb150 hg w10 hbox hb; have BK150 := Aside0.mk (hbox); have GW150 := ge_ HB hg; have GE150 := ge_ HB hg; have NB148_150 := nl_ BK148 hg; have NB150_148 := ng_ BK148 hg; have NB149_150 := nl_ BK149 hg; have NB150_149 := ng_ BK149 hg; replace BK148 := kb_ BK148 hb; replace BK149 := kb_ BK149 hb; replace HB := bs_ HB hb; clear hb hbox hg; have hnb11 := NB148_149.out; have hnc11 := NB149_148.out; have hnb12 := NB148_150.out; have hnc12 := NB150_148.out; have hcz13_0 := bc_ BK148 0 rfl; have hcz13_1 := bc_ BK148 1 rfl; have hfz13_0 := blk_frozen BK148.out 0; have hfz13_1 := blk_frozen BK148.out 1; have hnb14 := NB149_150.out; have hnc14 := NB150_149.out; have hcz15_0 := bc_ BK149 0 rfl; have hcz15_1 := bc_ BK149 1 rfl; have hfz15_0 := blk_frozen BK149.out 0; have hfz15_1 := blk_frozen BK149.out 1) | (refine gl_ 7 Tryz.func40 #[.agg #[.string a0_0, .string a0_1], .agg #[.string a1_0, .string a1_1]] ?_; refine mo_ (rat_both.calls a0_0 a0_1 a1_0 a1_1 true _ (lb_ HLD HB) A3.out) ?_; intro w16 hb; replace BK148 := kb_ BK148 hb; replace BK149 := kb_ BK149 hb; replace BK150 := kb_ BK150 hb; replace HB := bs_ HB hb; (try clear hb); (try clear hb2); (try clear hk); (try clear hi)))
  replace BK148 := Aside0.mk (blk_drew BK148.out); replace BK149 := Aside0.mk (blk_drew BK149.out); replace BK150 := Aside0.mk (blk_drew BK150.out); replace HB := Aside0.mk (below_drew1 HB.out); refine sa_ 12 (fun w' => w'.cell? ⟨gb148, 0, none⟩ = some (.string a0_0) ∧ w'.cell? ⟨gb148, 1, none⟩ = some (.string a0_1) ∧ w'.cell? ⟨gb149, 0, none⟩ = some (.string a1_0) ∧ w'.cell? ⟨gb149, 1, none⟩ = some (.string a1_1)) (fun hHeld => ?_); refine with_tabW rat_Mul.tab3 rat_Mul.bits3 (fun HT_ HW_ => ?_); generalize w16.drew = w17 at BK148 BK149 BK150 HB hHeld ⊢; refine pu_ 0 10 rfl rfl HT_ ?_; refine pu_ 2 12 rfl rfl HT_ ?_; refine pu_ 5 15 rfl rfl HT_ ?_; refine pu_ 7 17 rfl rfl HT_ ?_; refine t4_ 1 11 rfl rfl HT_ HW_ hHeld ?_; refine t4_ 3 13 rfl rfl HT_ HW_ hHeld ?_; refine t4_ 6 16 rfl rfl HT_ HW_ hHeld ?_; refine t4_ 8 18 rfl rfl HT_ HW_ hHeld ?_; refine on_ 4 (some 14) rfl rfl HT_ (fun K hK => ?_); refine gs_ Tryz.func42 #[.string a0_0, .string a1_0] ?_; refine mo_ (whole_Mul.calls a0_0 a1_0 t152 _ (lb_ HLD HB) A5.out) ?_; intro w18 hb; replace BK148 := kb_ BK148 hb; replace BK149 := kb_ BK149 hb; replace BK150 := kb_ BK150 hb; replace HB := bs_ HB hb; (try clear hb); refine hk_ hK (fun hHeld => ?_); clear hK K; refine nm_ ?_; refine on_ 9 (some 19) rfl rfl HT_ (fun K hK => ?_); refine gs_ Tryz.func44 #[.string a0_1, .string a1_1] ?_; refine mo_ (nat_Mul.calls a0_1 a1_1 t153 _ (lb_ HLD HB) A6.out) ?_; intro w19 hb; replace BK148 := kb_ BK148 hb; replace BK149 := kb_ BK149 hb; replace BK150 := kb_ BK150 hb; replace HB := bs_ HB hb; (try clear hb); refine hk_ hK (fun hHeld => ?_); clear hK K; refine nm_ ?_; refine on_ 10 (some 20) rfl rfl HT_ (fun K hK => ?_); refine gs_ Tryz.func41 #[.string t152, .string t153] ?_; refine mo_ (rat_reduced.calls k t152 t153 t154 t155 _ (lb_ HLD HB) A7.out) ?_; intro w20 hb; replace BK148 := kb_ BK148 hb; replace BK149 := kb_ BK149 hb; replace BK150 := kb_ BK150 hb; replace HB := bs_ HB hb; (try clear hb); refine hk_ hK (fun hHeld => ?_); clear hK K; refine nm_ ?_; refine on_ 11 none rfl rfl HT_ (fun K hK => ?_); have hs21 := bc_ BK150 0 rfl; have hfs21 := blk_frozen BK150.out 0; have hns21_0 := NB148_150.out; have hns21_1 := NB149_150.out; have hms21_0 := NB150_148.out; have hms21_1 := NB150_149.out; have hs22 := bc_ BK150 1 rfl; have hfs22 := blk_frozen BK150.out 1; have hns22_0 := NB148_150.out; have hns22_1 := NB149_150.out; have hms22_0 := NB150_148.out; have hms22_1 := NB150_149.out; refine skip_ (w1 := ?_) (by rfl) rfl ?_ ?_; rotate_left
  ·go_simp
   rfl
  refine hf_ hK hHeld (fun hHeld => ?_); clear hK K; refine done_ (done_of HT_.out (by kernel_rfl)) ?_
  try go_wp2
  refine bodyPost_ret (results_cell_row rfl _ _ gb150 23 #[.string t154, .string t155] (0, 0) _ rfl (rp_ BK150.out) Tryz.underlying23 rfl (by kernel_rfl)) rfl ?_; exact ⟨er_, b_ HB.out⟩
 ·replace c4 := Bool.eq_false_iff.mpr c4; subst c4; rw [if_neg nf_] at H; simp only [Option.some.injEq, Prod.mk.injEq] at H; obtain ⟨rfl, rfl⟩ := H; go_enter Tryz.func23, Tryz.ntmps23
  go_wp2_with (first | ((with_reducible refine gate_dst (N := 2) rfl ?_); refine be_ 2 #[.string a0_0, .string a0_1] 23 ?_; intro gb148 hg w23 hbox hb; have BK148 := Aside0.mk (hbox); have GW148 := ge_ HB hg; have GE148 := ge_ HB hg; replace HB := bs_ HB hb; clear hb hbox hg) | ((with_reducible refine gate_dst (N := 3) rfl ?_); refine be_ 3 #[.string a1_0, .string a1_1] 23 ?_; intro gb149 hg w24 hbox hb; have BK149 := Aside0.mk (hbox); have GW149 := ge_ HB hg; have GE149 := ge_ HB hg; have NB148_149 := nl_ BK148 hg; have NB149_148 := ng_ BK148 hg; replace BK148 := kb_ BK148 hb; replace HB := bs_ HB hb; clear hb hbox hg) | ((with_reducible refine gate_dst (N := 4) rfl ?_); refine be_ 4 #[.string (⟨#[]⟩ : ByteArray), .string (⟨#[]⟩ : ByteArray)] 23 ?_; intro gb150 hg w25 hbox hb; have BK150 := Aside0.mk (hbox); have GW150 := ge_ HB hg; have GE150 := ge_ HB hg; have NB148_150 := nl_ BK148 hg; have NB150_148 := ng_ BK148 hg; have NB149_150 := nl_ BK149 hg; have NB150_149 := ng_ BK149 hg; replace BK148 := kb_ BK148 hb; replace BK149 := kb_ BK149 hb; replace HB := bs_ HB hb; clear hb hbox hg; have hnb26 := NB148_149.out; have hnc26 := NB149_148.out; have hnb27 := NB148_150.out; have hnc27 := NB150_148.out; have hcz28_0 := bc_ BK148 0 rfl; have hcz28_1 := bc_ BK148 1 rfl; have hfz28_0 := blk_frozen BK148.out 0; have hfz28_1 := blk_frozen BK148.out 1; have hnb29 := NB149_150.out; have hnc29 := NB150_149.out; have hcz30_0 := bc_ BK149 0 rfl; have hcz30_1 := bc_ BK149 1 rfl; have hfz30_0 := blk_frozen BK149.out 0; have hfz30_1 := blk_frozen BK149.out 1) | (refine gl_ 7 Tryz.func40 #[.agg #[.string a0_0, .string a0_1], .agg #[.string a1_0, .string a1_1]] ?_; refine mo_ (rat_both.calls a0_0 a0_1 a1_0 a1_1 false _ (lb_ HLD HB) A3.out) ?_; intro w31 hb; replace BK148 := kb_ BK148 hb; replace BK149 := kb_ BK149 hb; replace BK150 := kb_ BK150 hb; replace HB := bs_ HB hb; (try clear hb); (try clear hb2); (try clear hk); (try clear hi); have hcz32_0 := bc_ BK150 0 rfl; have hcz32_1 := bc_ BK150 1 rfl; have hfz32_0 := blk_frozen BK150.out 0; have hfz32_1 := blk_frozen BK150.out 1))
  refine bodyPost_ret (results_cell_row rfl _ _ gb150 23 #[.string (⟨#[]⟩ : ByteArray), .string (⟨#[]⟩ : ByteArray)] (0, 0) _ rfl (rp_ BK150.out) Tryz.underlying23 rfl (by kernel_rfl)) rfl ?_; exact ⟨er_, b_ HB.out⟩
end Go.Proofs.YtnhpnnbjimnmlaaGreatDoor.Py
end

section
namespace Go.Proofs.YtnhpnnbjimnmlaaGreatDoor.Py
def rat_Div.j0 : Nat → Bool → ByteArray → ByteArray → ByteArray → ByteArray → Option (ByteArray × ByteArray × Bool)
 | 0, _, _, _, _, _ => none
 | k + 1, x14, x157000, x157001, x158000, x158001 => if x14 = true then (some ((⟨#[]⟩ : ByteArray), (⟨#[]⟩ : ByteArray), false)) else ((whole_Mul.f x157000 x158001).bind fun t160 => ((whole_Mul.f x157001 x158000).bind fun t161 => ((rat_reduced.f k t160 t161).bind fun bt162 => (some (bt162.1, bt162.2, true)))))
def rat_Div.f (k : Nat) (a0_0 : ByteArray) (a0_1 : ByteArray) (a1_0 : ByteArray) (a1_1 : ByteArray) : Option (ByteArray × ByteArray × Bool) := (rat_both.f a0_0 a0_1 a1_0 a1_1).bind fun t159 => (if t159 = true then (rat_Div.j0 k (a1_0.toList == ([48] : List UInt8)) a0_0 a0_1 a1_0 a1_1) else (rat_Div.j0 k true a0_0 a0_1 a1_0 a1_1))
def rat_Div.T3 : Bool × List (List Nat × List Nat) := (true, [([], []), ([0], [0]), ([], []), ([2], [2]), ([1, 3], [1, 3]), ([], []), ([5], [5]), ([], []), ([7], [7]), ([6, 8, 4], [6, 8]), ([4, 9, 9], [4, 9]), ([10, 10, 0, 1, 2, 3, 4, 5, 6, 7, 8, 9, 10], [10]), ([11, 0, 1, 2, 3, 4, 5, 6, 7, 8, 9, 10, 11], [])])
def rat_Div.B3 : List Nat := [0, 1, 0, 4, 15, 0, 32, 0, 128, 511, 1023, 2047, 4095]
theorem rat_Div.tab3 : rtab .any (opsOf Tryz.f21 3) = rat_Div.T3 := by kernel_rfl
theorem rat_Div.bits3 : waitsOk rat_Div.T3.2 rat_Div.B3 = true := by kernel_rfl
set_option maxHeartbeats 8000000 in
set_option maxRecDepth 100000 in
theorem rat_Div.calls (k : Nat) (a0_0 : ByteArray) (a0_1 : ByteArray) (a1_0 : ByteArray) (a1_1 : ByteArray) (r1 : ByteArray) (r2 : ByteArray) (r3 : Bool) (w : World) (hL_ : Laid w) (h : rat_Div.f k a0_0 a0_1 a1_0 a1_1 = some (r1, r2, r3)) :
  Calls Tryz.prog 21 #[.agg #[.string a0_0, .string a0_1], .agg #[.string a1_0, .string a1_1]] w fun e w' => e = .returned (.tuple #[.agg #[.string r1, .string r2], .bool r3]) ∧ Below w.heap.size w w' := by
 have hu23 := Tryz.underlying23; have HLD := Aside0.mk hL_; clear hL_; have HB := Aside0.mk (Below.refl w.heap.size w); have H := h; unfold rat_Div.f at H; clear h; have HC3 := Aside0.mk H; clear H; go_enter Tryz.func21, Tryz.ntmps21
 go_upto_region 1 with (first | ((with_reducible refine gate_dst (N := 2) rfl ?_); refine be_ 2 #[.string a0_0, .string a0_1] 23 ?_; intro gb156 hg w4 hbox hb; have BK156 := Aside0.mk (hbox); have GW156 := ge_ HB hg; have GE156 := ge_ HB hg; replace HB := bs_ HB hb; clear hb hbox hg) | ((with_reducible refine gate_dst (N := 3) rfl ?_); refine be_ 3 #[.string a1_0, .string a1_1] 23 ?_; intro gb157 hg w5 hbox hb; have BK157 := Aside0.mk (hbox); have GW157 := ge_ HB hg; have GE157 := ge_ HB hg; have NB156_157 := nl_ BK156 hg; have NB157_156 := ng_ BK156 hg; replace BK156 := kb_ BK156 hb; replace HB := bs_ HB hb; clear hb hbox hg) | ((with_reducible refine gate_dst (N := 4) rfl ?_); refine be_ 4 #[.string (⟨#[]⟩ : ByteArray), .string (⟨#[]⟩ : ByteArray)] 23 ?_; intro gb158 hg w6 hbox hb; have BK158 := Aside0.mk (hbox); have GW158 := ge_ HB hg; have GE158 := ge_ HB hg; have NB156_158 := nl_ BK156 hg; have NB158_156 := ng_ BK156 hg; have NB157_158 := nl_ BK157 hg; have NB158_157 := ng_ BK157 hg; replace BK156 := kb_ BK156 hb; replace BK157 := kb_ BK157 hb; replace HB := bs_ HB hb; clear hb hbox hg))
 (try simp only [Act.put, List.setIfInBounds_toArray, List.set_cons_zero, List.set_cons_succ])
 go_cut [14] (fun v14 wc => ∃ (kq : Nat) (x14_2 : Bool), v14 = .bool x14_2 ∧ Aside0 (rat_Div.j0 kq x14_2 a0_0 a0_1 a1_0 a1_1 = some (r1, r2, r3)) ∧ Aside0 (kq ≤ k) ∧ Aside0 (wc.heap[gb156]? = some (.cells #[.string a0_0, .string a0_1] 23 (0, 0))) ∧ Aside0 (wc.heap[gb157]? = some (.cells #[.string a1_0, .string a1_1] 23 (0, 0))) ∧ Aside0 (wc.heap[gb158]? = some (.cells #[.string (⟨#[]⟩ : ByteArray), .string (⟨#[]⟩ : ByteArray)] 23 (0, 0))) ∧ Aside0 (Below w.heap.size w wc))
 case first =>
  have H := HC3.out; clear HC3; obtain ⟨t159, A7, H⟩ := bi_ H; by_cases c8 : t159 = true
  ·subst c8; rw [if_pos rfl] at H; have H' := Aside0.mk H; clear H; have hnb9 := NB156_157.out; have hnc9 := NB157_156.out; have hnb10 := NB156_158.out; have hnc10 := NB158_156.out; have hcz11_0 := bc_ BK156 0 rfl; have hcz11_1 := bc_ BK156 1 rfl; have hfz11_0 := blk_frozen BK156.out 0; have hfz11_1 := blk_frozen BK156.out 1; have hnb12 := NB157_158.out; have hnc12 := NB158_157.out; have hcz13_0 := bc_ BK157 0 rfl; have hcz13_1 := bc_ BK157 1 rfl; have hfz13_0 := blk_frozen BK157.out 0; have hfz13_1 := blk_frozen BK157.out 1
   go_wp2_with (first | (refine gl_ 8 Tryz.func40 #[.agg #[.string a0_0, .string a0_1], .agg #[.string a1_0, .string a1_1]] ?_; refine mo_ (rat_both.calls a0_0 a0_1 a1_0 a1_1 true _ (lb_ HLD HB) A7.out) ?_; intro w14 hb; replace BK156 := kb_ BK156 hb; replace BK157 := kb_ BK157 hb; replace BK158 := kb_ BK158 hb; replace HB := bs_ HB hb; (try clear hb); (try clear hb2); (try clear hk); (try clear hi); have hcz15_0 := bc_ BK157 0 rfl; have hcz15_1 := bc_ BK157 1 rfl; have hfz15_0 := blk_frozen BK157.out 0; have hfz15_1 := blk_frozen BK157.out 1))
   go_meet
   case rel => exact ⟨_, ((a1_0.toList == ([48] : List UInt8))), rl_, H', ⟨by first | omega | exact Nat.le_refl _⟩, ⟨k_ BK156.out⟩, ⟨k_ BK157.out⟩, ⟨k_ BK158.out⟩, ⟨b_ HB.out⟩⟩
  ·replace c8 := Bool.eq_false_iff.mpr c8; subst c8; rw [if_neg nf_] at H; have H' := Aside0.mk H; clear H; have hnb16 := NB156_157.out; have hnc16 := NB157_156.out; have hnb17 := NB156_158.out; have hnc17 := NB158_156.out; have hcz18_0 := bc_ BK156 0 rfl; have hcz18_1 := bc_ BK156 1 rfl; have hfz18_0 := blk_frozen BK156.out 0; have hfz18_1 := blk_frozen BK156.out 1; have hnb19 := NB157_158.out; have hnc19 := NB158_157.out; have hcz20_0 := bc_ BK157 0 rfl; have hcz20_1 := bc_ BK157 1 rfl; have hfz20_0 := blk_frozen BK157.out 0; have hfz20_1 := blk_frozen BK157.out 1
   go_wp2_with (first | (refine gl_ 8 Tryz.func40 #[.agg #[.string a0_0, .string a0_1], .agg #[.string a1_0, .string a1_1]] ?_; refine mo_ (rat_both.calls a0_0 a0_1 a1_0 a1_1 false _ (lb_ HLD HB) A7.out) ?_; intro w21 hb; replace BK156 := kb_ BK156 hb; replace BK157 := kb_ BK157 hb; replace BK158 := kb_ BK158 hb; replace HB := bs_ HB hb; (try clear hb); (try clear hb2); (try clear hk); (try clear hi)))
   go_meet
   case rel => exact ⟨_, (true), rl_, H', ⟨by first | omega | exact Nat.le_refl _⟩, ⟨k_ BK156.out⟩, ⟨k_ BK157.out⟩, ⟨k_ BK158.out⟩, ⟨b_ HB.out⟩⟩
 case rest =>
  clear HC3; (try clear c1); (try clear c2); (try clear p2); (try clear c4); (try clear c8); (try clear c9); (try clear c10); (try clear c12); (try clear c16); (try clear c17); (try clear c19); (try clear c21); (try clear hcz11_0); (try clear hcz11_1); (try clear hcz13_0); (try clear hcz13_1); (try clear hcz15_0); (try clear hcz15_1); (try clear hcz18_0); (try clear hcz18_1); (try clear hcz20_0); (try clear hcz20_1); (try clear hfz11_0); (try clear hfz11_1); (try clear hfz13_0); (try clear hfz13_1); (try clear hfz15_0); (try clear hfz15_1); (try clear hfz18_0); (try clear hfz18_1); (try clear hfz20_0); (try clear hfz20_1); obtain ⟨kq, x14_2, rfl, HA, HJ2, BK156, BK157, BK158, HB⟩ := hcut
  cases kq with
  | zero => exact absurd HA.out (by simp [rat_Div.j0])
  | succ kj2 =>
   have H := HA.out; clear HA; simp only [rat_Div.j0] at H; by_cases c22 : x14_2 = true
   ·subst c22; rw [if_pos rfl] at H; simp only [Option.some.injEq, Prod.mk.injEq] at H; obtain ⟨rfl, rfl, rfl⟩ := H; have hnb23 := NB158_156.out; have hnc23 := NB156_158.out; have hnb24 := NB158_157.out; have hnc24 := NB157_158.out; have hcz25_0 := bc_ BK158 0 rfl; have hcz25_1 := bc_ BK158 1 rfl; have hfz25_0 := blk_frozen BK158.out 0; have hfz25_1 := blk_frozen BK158.out 1; go_wp2; refine bodyPost_ret (results_ct rfl _ _ gb158 23 #[.string (⟨#[]⟩ : ByteArray), .string (⟨#[]⟩ : ByteArray)] (0, 0) _ rfl (rp_ BK158.out) Tryz.underlying23 rfl (by kernel_rfl)) rfl ?_; exact ⟨er_, b_ HB.out⟩
   ·replace c22 := Bool.eq_false_iff.mpr c22; subst c22; rw [if_neg nf_] at H; obtain ⟨t160, A26, H⟩ := bi_ H; obtain ⟨t161, A27, H⟩ := bi_ H; obtain ⟨⟨t162, t163⟩, A28, H⟩ := bi_ H; (try dsimp only at H); simp only [Option.some.injEq, Prod.mk.injEq] at H; obtain ⟨rfl, rfl, rfl⟩ := H
    try go_wp2
    replace BK156 := Aside0.mk (blk_drew BK156.out); replace BK157 := Aside0.mk (blk_drew BK157.out); replace BK158 := Aside0.mk (blk_drew BK158.out); replace HB := Aside0.mk (below_drew1 HB.out); refine sa_ 13 (fun w' => w'.cell? ⟨gb156, 0, none⟩ = some (.string a0_0) ∧ w'.cell? ⟨gb156, 1, none⟩ = some (.string a0_1) ∧ w'.cell? ⟨gb157, 0, none⟩ = some (.string a1_0) ∧ w'.cell? ⟨gb157, 1, none⟩ = some (.string a1_1)) (fun hHeld => ?_); refine with_tabW rat_Div.tab3 rat_Div.bits3 (fun HT_ HW_ => ?_); generalize wc.drew = w29 at BK156 BK157 BK158 HB hHeld ⊢; refine pu_ 0 16 rfl rfl HT_ ?_; refine pu_ 2 18 rfl rfl HT_ ?_; refine pu_ 5 21 rfl rfl HT_ ?_; refine pu_ 7 23 rfl rfl HT_ ?_; refine t4_ 1 17 rfl rfl HT_ HW_ hHeld ?_; refine t4_ 3 19 rfl rfl HT_ HW_ hHeld ?_; refine t4_ 6 22 rfl rfl HT_ HW_ hHeld ?_; refine t4_ 8 24 rfl rfl HT_ HW_ hHeld ?_; refine on_ 4 (some 20) rfl rfl HT_ (fun K hK => ?_); refine gs_ Tryz.func42 #[.string a0_0, .string a1_1] ?_; refine mo_ (whole_Mul.calls a0_0 a1_1 t160 _ (lb_ HLD HB) A26.out) ?_; intro w30 hb; replace BK156 := kb_ BK156 hb; replace BK157 := kb_ BK157 hb; replace BK158 := kb_ BK158 hb; replace HB := bs_ HB hb; (try clear hb); refine hk_ hK (fun hHeld => ?_); clear hK K; refine nm_ ?_; refine on_ 9 (some 25) rfl rfl HT_ (fun K hK => ?_); refine gs_ Tryz.func42 #[.string a0_1, .string a1_0] ?_; refine mo_ (whole_Mul.calls a0_1 a1_0 t161 _ (lb_ HLD HB) A27.out) ?_; intro w31 hb; replace BK156 := kb_ BK156 hb; replace BK157 := kb_ BK157 hb; replace BK158 := kb_ BK158 hb; replace HB := bs_ HB hb; (try clear hb); refine hk_ hK (fun hHeld => ?_); clear hK K; refine nm_ ?_; refine on_ 10 (some 26) rfl rfl HT_ (fun K hK => ?_); refine gs_ Tryz.func41 #[.string t160, .string t161] ?_; refine mo_ (rat_reduced.calls kj2 t160 t161 t162 t163 _ (lb_ HLD HB) A28.out) ?_; intro w32 hb; replace BK156 := kb_ BK156 hb; replace BK157 := kb_ BK157 hb; replace BK158 := kb_ BK158 hb; replace HB := bs_ HB hb; (try clear hb); refine hk_ hK (fun hHeld => ?_); clear hK K; refine nm_ ?_; refine on_ 11 none rfl rfl HT_ (fun K hK => ?_); have hs33 := bc_ BK158 0 rfl; have hfs33 := blk_frozen BK158.out 0; have hns33_0 := NB156_158.out; have hns33_1 := NB157_158.out; have hms33_0 := NB158_156.out; have hms33_1 := NB158_157.out; have hs34 := bc_ BK158 1 rfl; have hfs34 := blk_frozen BK158.out 1; have hns34_0 := NB156_158.out; have hns34_1 := NB157_158.out; have hms34_0 := NB158_156.out; have hms34_1 := NB158_157.out; refine skip_ (w1 := ?_) (by rfl) rfl ?_ ?_; rotate_left
    ·go_simp
     rfl
    refine hf_ hK hHeld (fun hHeld => ?_); clear hK K; refine pu_ 12 5 rfl rfl HT_ ?_; refine done_ (done_of HT_.out (by kernel_rfl)) ?_
    try go_wp2
    refine bodyPost_ret (results_ct rfl _ _ gb158 23 #[.string t162, .string t163] (0, 0) _ rfl (rp_ BK158.out) Tryz.underlying23 rfl (by kernel_rfl)) rfl ?_; exact ⟨er_, b_ HB.out⟩
def rat_Split.f (k : Nat) (a0_0 : ByteArray) (a0_1 : ByteArray) : Option (ByteArray × ByteArray × ByteArray) := (rat_May.f a0_0 a0_1).bind fun t166 => (if t166 = true then ((whole_Div.f a0_0 a0_1).bind fun bt167 => ((rat_reduced.f k bt167.2.1 a0_1).bind fun bt170 => (some (bt167.1, bt170.1, bt170.2)))) else (some ((⟨#[]⟩ : ByteArray), (⟨#[]⟩ : ByteArray), (⟨#[]⟩ : ByteArray))))
set_option maxHeartbeats 8000000 in
set_option maxRecDepth 100000 in
theorem rat_Split.calls (k : Nat) (a0_0 : ByteArray) (a0_1 : ByteArray) (r1 : ByteArray) (r2 : ByteArray) (r3 : ByteArray) (w : World) (hL_ : Laid w) (h : rat_Split.f k a0_0 a0_1 = some (r1, r2, r3)) :
  Calls Tryz.prog 34 #[.agg #[.string a0_0, .string a0_1]] w fun e w' => e = .returned (.tuple #[.string r1, .agg #[.string r2, .string r3]]) ∧ Below w.heap.size w w' := by
 have hu23 := Tryz.underlying23; have HLD := Aside0.mk hL_; clear hL_; have HB := Aside0.mk (Below.refl w.heap.size w); have H := h; unfold rat_Split.f at H; clear h; obtain ⟨t166, A2, H⟩ := bi_ H; by_cases c3 : t166 = true
 ·subst c3; rw [if_pos rfl] at H; obtain ⟨⟨t167, t168, t169⟩, A4, H⟩ := bi_ H; (try dsimp only at H); obtain ⟨⟨t170, t171⟩, A5, H⟩ := bi_ H; (try dsimp only at H); simp only [Option.some.injEq, Prod.mk.injEq] at H; obtain ⟨rfl, rfl, rfl⟩ := H; go_enter Tryz.func34, Tryz.ntmps34
  go_wp2_with (first | ((with_reducible refine gate_dst (N := 1) rfl ?_); refine be_ 1 #[.string a0_0, .string a0_1] 23 ?_; intro gb164 hg w6 hbox hb; have BK164 := Aside0.mk (hbox); have GW164 := ge_ HB hg; have GE164 := ge_ HB hg; replace HB := bs_ HB hb; clear hb hbox hg) | ((with_reducible refine gate_dst (N := 3) rfl ?_); refine be_ 3 #[.string (⟨#[]⟩ : ByteArray), .string (⟨#[]⟩ : ByteArray)] 23 ?_; intro gb165 hg w7 hbox hb; have BK165 := Aside0.mk (hbox); have GW165 := ge_ HB hg; have GE165 := ge_ HB hg; have NB164_165 := nl_ BK164 hg; have NB165_164 := ng_ BK164 hg; replace BK164 := kb_ BK164 hb; replace HB := bs_ HB hb; clear hb hbox hg; have hnb8 := NB164_165.out; have hnc8 := NB165_164.out; have hcz9_0 := bc_ BK164 0 rfl; have hcz9_1 := bc_ BK164 1 rfl; have hfz9_0 := blk_frozen BK164.out 0; have hfz9_1 := blk_frozen BK164.out 1) | (refine gl_ 8 Tryz.func33 #[.agg #[.string a0_0, .string a0_1]] ?_; refine mo_ (rat_May.calls a0_0 a0_1 true _ (lb_ HLD HB) A2.out) ?_; intro w10 hb; replace BK164 := kb_ BK164 hb; replace BK165 := kb_ BK165 hb; replace HB := bs_ HB hb; (try clear hb); (try clear hb2); (try clear hk); (try clear hi); have hcz11_0 := bc_ BK164 0 rfl; have hcz11_1 := bc_ BK164 1 rfl; have hfz11_0 := blk_frozen BK164.out 0; have hfz11_1 := blk_frozen BK164.out 1) | (refine gl_ 16 Tryz.func56 #[.string a0_0, .string a0_1] ?_; refine mo_ (whole_Div.calls a0_0 a0_1 t167 t168 t169 _ (lb_ HLD HB) A4.out) ?_; intro w12 hb; replace BK164 := kb_ BK164 hb; replace BK165 := kb_ BK165 hb; replace HB := bs_ HB hb; (try clear hb); (try clear hb2); (try clear hk); (try clear hi); have hcz13_0 := bc_ BK164 0 rfl; have hcz13_1 := bc_ BK164 1 rfl; have hfz13_0 := blk_frozen BK164.out 0; have hfz13_1 := blk_frozen BK164.out 1) | (refine gl_ 24 Tryz.func41 #[.string t168, .string a0_1] ?_; refine mo_ (rat_reduced.calls k t168 a0_1 t170 t171 _ (lb_ HLD HB) A5.out) ?_; intro w14 hb; replace BK164 := kb_ BK164 hb; replace BK165 := kb_ BK165 hb; replace HB := bs_ HB hb; (try clear hb); (try clear hb2); (try clear hk); (try clear hi); have hcz15_0 := bc_ BK165 0 rfl; have hcz15_1 := bc_ BK165 1 rfl; have hfz15_0 := blk_frozen BK165.out 0; have hfz15_1 := blk_frozen BK165.out 1))
  refine bodyPost_ret (results_tc rfl _ _ gb165 23 #[.string t170, .string t171] (0, 0) _ rfl (rp_ BK165.out) Tryz.underlying23 rfl (by kernel_rfl)) rfl ?_; exact ⟨er_, b_ HB.out⟩
 ·replace c3 := Bool.eq_false_iff.mpr c3; subst c3; rw [if_neg nf_] at H; simp only [Option.some.injEq, Prod.mk.injEq] at H; obtain ⟨rfl, rfl, rfl⟩ := H; go_enter Tryz.func34, Tryz.ntmps34
  go_wp2_with (first | ((with_reducible refine gate_dst (N := 1) rfl ?_); refine be_ 1 #[.string a0_0, .string a0_1] 23 ?_; intro gb164 hg w16 hbox hb; have BK164 := Aside0.mk (hbox); have GW164 := ge_ HB hg; have GE164 := ge_ HB hg; replace HB := bs_ HB hb; clear hb hbox hg) | ((with_reducible refine gate_dst (N := 3) rfl ?_); refine be_ 3 #[.string (⟨#[]⟩ : ByteArray), .string (⟨#[]⟩ : ByteArray)] 23 ?_; intro gb165 hg w17 hbox hb; have BK165 := Aside0.mk (hbox); have GW165 := ge_ HB hg; have GE165 := ge_ HB hg; have NB164_165 := nl_ BK164 hg; have NB165_164 := ng_ BK164 hg; replace BK164 := kb_ BK164 hb; replace HB := bs_ HB hb; clear hb hbox hg; have hnb18 := NB164_165.out; have hnc18 := NB165_164.out; have hcz19_0 := bc_ BK164 0 rfl; have hcz19_1 := bc_ BK164 1 rfl; have hfz19_0 := blk_frozen BK164.out 0; have hfz19_1 := blk_frozen BK164.out 1) | (refine gl_ 8 Tryz.func33 #[.agg #[.string a0_0, .string a0_1]] ?_; refine mo_ (rat_May.calls a0_0 a0_1 false _ (lb_ HLD HB) A2.out) ?_; intro w20 hb; replace BK164 := kb_ BK164 hb; replace BK165 := kb_ BK165 hb; replace HB := bs_ HB hb; (try clear hb); (try clear hb2); (try clear hk); (try clear hi); have hcz21_0 := bc_ BK165 0 rfl; have hcz21_1 := bc_ BK165 1 rfl; have hfz21_0 := blk_frozen BK165.out 0; have hfz21_1 := blk_frozen BK165.out 1))
  refine bodyPost_ret (results_tc rfl _ _ gb165 23 #[.string (⟨#[]⟩ : ByteArray), .string (⟨#[]⟩ : ByteArray)] (0, 0) _ rfl (rp_ BK165.out) Tryz.underlying23 rfl (by kernel_rfl)) rfl ?_; exact ⟨er_, b_ HB.out⟩
end Go.Proofs.YtnhpnnbjimnmlaaGreatDoor.Py
end

section
namespace Go.Proofs.YtnhpnnbjimnmlaaGreatDoor.Py
end Go.Proofs.YtnhpnnbjimnmlaaGreatDoor.Py
end

section
namespace Go.Proofs.YtnhpnnbjimnmlaaGreatDoor
theorem gMay {a : ByteArray} (h : a.size ≤ 49990) : whole_May.f a = some (mayW a) := by
 unfold whole_May.f
 rw [if_pos (show smw a = true from decide_eq_true h)]
theorem natB_beq_one (m : Nat) : ((natB m).toList == ([49] : List UInt8)) = (m == 1) := by
 rw [Bool.eq_iff_iff, beq_iff_eq, beq_iff_eq, natB_toList_one]
theorem szI_natAbs (x : Int) : sz x.natAbs ≤ szI x := le_szI x
theorem gcd_le_l {x y : Int} (hy : y ≠ 0) : sz (Nat.gcd x.natAbs y.natAbs) ≤ szI y := by
 have h := sz_mono (Nat.gcd_le_right x.natAbs (show 0 < y.natAbs by omega))
 have := le_szI y
 omega
theorem ratmay_f {a b : ByteArray} (ha : a.size ≤ 20000) (hb : b.size ≤ 20000) : Py.rat_May.f a b = some (mayR (a, b)) := by
 unfold Py.rat_May.f mayR
 rw [gMay (by omega), Option.bind_some]
 by_cases h1 : mayW a = true
 ·rw [if_pos h1, fMay (by omega), Option.bind_some]
  by_cases h2 : mayB b = true
  ·obtain ⟨z, rfl⟩ := of_mayW h1
   obtain ⟨n, rfl, e2⟩ := of_may h2
   have s1 : szI z ≤ 20000 := ha
   have s2 : sz n ≤ 20000 := hb
   have s3 := szI_natAbs z
   rw [if_pos h2, h1, h2, numW_int, numB_natB]
   by_cases h3 : n = 0
   ·rw [if_pos (natB_toList_zero.2 h3), h3]
    rfl
   ·rw [if_neg (fun e => h3 (natB_toList_zero.1 e)), gAbs (by omega), Option.bind_some, intB_nat, fGcd (by omega) (by omega), Option.bind_some, natB_beq_one, decide_eq_true h3]
    rfl
  ·rw [if_neg h2, h1, (Bool.not_eq_true _).mp h2]
   rfl
 ·rw [if_neg h1, (Bool.not_eq_true _).mp h1]
  rfl
theorem red_core {x y : Int} (hy : 0 < y) (hx : szI x ≤ 20000) (hs : szI y ≤ 20000) (k : Nat) : Py.rat_reduced.j0 (k + 1) (intB x) (intB y) = some (rT (Rat.divInt x y)) := by
 have s3 := szI_natAbs x
 have s4 := szI_natAbs y
 have s5 := gcd_le_l (x := x) (show y ≠ 0 by omega)
 have hg : ((Nat.gcd x.natAbs y.natAbs : Nat) : Int) ≠ 0 := by
  have := Nat.gcd_pos_of_pos_right x.natAbs (show 0 < y.natAbs by omega)
  omega
 have h1 := red_num (x := x) (y := y) (by omega)
 have h2 := red_den (x := x) (y := y) (by omega)
 rw [if_neg (by omega)] at h1
 have e : intB y = natB y.natAbs := by rw [intB_nonneg (by omega)]; congr 1; omega
 have e' : (y.natAbs : Int) = y := by omega
 simp only [Py.rat_reduced.j0]
 rw [gAbs (by omega), Option.bind_some, intB_nat, e, fGcd (by omega) (by omega), Option.bind_some, ← e, ← intB_nat, gDiv (by omega) (by rw [szI_nat]; omega) hg, Option.bind_some, gDiv (by omega) (by rw [szI_nat]; omega) hg, Option.bind_some]
 rw [e'] at h2
 show some (intB _, intB _) = some (intB _, natB _)
 rw [h1, h2, intB_nat]
theorem red_f {x y : Int} (hy : y ≠ 0) (hx : szI x ≤ 19000) (hs : szI y ≤ 19000) (k : Nat) : Py.rat_reduced.f (k + 1) (intB x) (intB y) = some (rT (Rat.divInt x y)) := by
 unfold Py.rat_reduced.f
 rw [gSign (by omega), Option.bind_some]
 by_cases h : y < 0
 ·have n1 := szI_neg x
  have n2 := szI_neg y
  rw [if_pos (by rw [cmp_lt' h]; decide), gNeg (by omega), Option.bind_some, gNeg (by omega), Option.bind_some, red_core (by omega) (by omega) (by omega), Rat.neg_divInt_neg]
 ·rw [if_neg (by rw [cmp_gt' (by omega)]; decide), red_core (by omega) (by omega) (by omega)]
theorem red_nf {x : Int} {n : Nat} (hy : n ≠ 0) (hx : szI x ≤ 19000) (hs : sz n ≤ 19000) (k : Nat) : Py.rat_reduced.f (k + 1) (intB x) (natB n) = some (rT (Rat.divInt x (n : Int))) := by
 rw [← intB_nat]
 exact red_f (by omega) hx (by rw [szI_nat]; exact hs) k
theorem ratmake_f {a b : ByteArray} (ha : a.size ≤ 19000) (hb : b.size ≤ 19000) (k : Nat) : Py.rat_Make.f (k + 1) a b = some ((rmakeS a b).1.1, (rmakeS a b).1.2, (rmakeS a b).2) := by
 unfold Py.rat_Make.f rmakeS
 rw [gMay (by omega), Option.bind_some]
 by_cases h1 : mayW a = true
 ·rw [if_pos h1, gMay (by omega), Option.bind_some]
  by_cases h2 : mayW b = true
  ·obtain ⟨x, rfl⟩ := of_mayW h1
   obtain ⟨y, rfl⟩ := of_mayW h2
   have s1 : szI x ≤ 19000 := ha
   have s2 : szI y ≤ 19000 := hb
   rw [if_pos h2, show may2W (intB x) (intB y) = true by unfold may2W; rw [h1, h2]; rfl, Bool.true_and, numW_int, numW_int]
   by_cases h3 : y = 0
   ·rw [if_pos (intB_toList_zero.2 h3), if_neg (by rw [h3]; decide)]
    rfl
   ·rw [if_neg (fun e => h3 (intB_toList_zero.1 e)), if_pos (decide_eq_true h3), red_f h3 s1 s2, Option.bind_some]
  ·rw [if_neg h2, show may2W a b = false by unfold may2W; rw [h1, (Bool.not_eq_true _).mp h2]; rfl]
   rfl
 ·rw [if_neg h1, show may2W a b = false by unfold may2W; rw [(Bool.not_eq_true _).mp h1]; rfl]
  rfl
theorem signQ_f (q : Rat) : Lib.compareInt q.num 0 = cmpQ q 0 := signQ_cmp q
theorem ratsign_f {x : BB} (ha : x.1.size ≤ 20000) (hb : x.2.size ≤ 20000) : Py.rat_Sign.f x.1 x.2 = some (rsignS x) := by
 unfold Py.rat_Sign.f rsignS
 rw [ratmay_f ha hb, Option.bind_some]
 by_cases h : mayR x = true
 ·obtain ⟨q, rfl⟩ := of_mayR h
  have s1 : szI q.num ≤ 20000 := ha
  rw [if_pos h, if_pos h, ratR_rT]
  show ((whole_Sign.f (intB q.num)).bind fun t => some t) = _
  rw [gSign (by omega), Option.bind_some, signQ_f]
 ·rw [if_neg h, if_neg h]
theorem ratboth_f {x y : BB} (hx : smR x = true) (hy : smR y = true) : Py.rat_both.f x.1 x.2 y.1 y.2 = some (may2R x y) := by
 have h1 := smR_le hx
 have h2 := smR_le hy
 unfold Py.rat_both.f may2R
 rw [ratmay_f (by omega) (by omega), Option.bind_some, ratmay_f (by omega) (by omega), Option.bind_some]
 by_cases h : mayR x = true
 ·rw [if_pos h, h]
  rfl
 ·rw [if_neg h, (Bool.not_eq_true _).mp h]
  rfl
theorem gMulN {x : Int} {n : Nat} (hx : szI x ≤ 49990) (hn : sz n ≤ 49990) : whole_Mul.f (intB x) (natB n) = some (intB (x * (n : Int))) := by
 rw [← intB_nat]
 exact gMul hx (by rw [szI_nat]; exact hn)
theorem gNMul {x : Int} {n : Nat} (hx : szI x ≤ 49990) (hn : sz n ≤ 49990) : whole_Mul.f (natB n) (intB x) = some (intB ((n : Int) * x)) := by
 rw [← intB_nat]
 exact gMul (by rw [szI_nat]; exact hn) hx
theorem sm_rT {q : Rat} (h : smR (rT q) = true) : szI q.num ≤ 4000 ∧ sz q.den ≤ 4000 := smR_le h
theorem ratcmp_f {x y : BB} (hx : smR x = true) (hy : smR y = true) : Py.rat_Cmp.f x.1 x.2 y.1 y.2 = some (rcmpS x y) := by
 unfold Py.rat_Cmp.f rcmpS
 rw [ratboth_f hx hy, Option.bind_some]
 rcases casesR x y with ⟨p, q, rfl, rfl⟩ | hm
 ·have h1 := sm_rT hx
  have h2 := sm_rT hy
  have s1 := szI_mul p.num (q.den : Int)
  have s2 := szI_mul q.num (p.den : Int)
  rw [szI_nat] at s1 s2
  rw [if_pos (may2R_rT p q), if_pos (may2R_rT p q), ratR_rT, ratR_rT]
  show ((whole_Mul.f (intB p.num) (natB q.den)).bind fun t => ((whole_Mul.f (intB q.num) (natB p.den)).bind fun u => ((whole_Cmp.f t u).bind fun v => some v))) = _
  rw [gMulN (by omega) (by omega), Option.bind_some, gMulN (by omega) (by omega), Option.bind_some, gCmp (by omega) (by omega), Option.bind_some, cmpQ_int]
 ·rw [if_neg hm, if_neg hm]
theorem ratadd_f {x y : BB} (hx : smR x = true) (hy : smR y = true) (k : Nat) : Py.rat_Add.f (k + 1) x.1 x.2 y.1 y.2 = some (raddS x y) := by
 unfold Py.rat_Add.f raddS
 rw [ratboth_f hx hy, Option.bind_some]
 rcases casesR x y with ⟨p, q, rfl, rfl⟩ | hm
 ·have h1 := sm_rT hx
  have h2 := sm_rT hy
  have s1 := szI_mul p.num (q.den : Int)
  have s2 := szI_mul q.num (p.den : Int)
  rw [szI_nat] at s1 s2
  have s3 := szI_add (p.num * (q.den : Int)) (q.num * (p.den : Int))
  have s4 := sz_mul p.den q.den
  rw [if_pos (may2R_rT p q), if_pos (may2R_rT p q), ratR_rT, ratR_rT]
  show ((whole_Mul.f (intB p.num) (natB q.den)).bind fun t => ((whole_Mul.f (intB q.num) (natB p.den)).bind fun u => ((whole_Add.f t u).bind fun v => ((nat_Mul.f (natB p.den) (natB q.den)).bind fun d => ((Py.rat_reduced.f (k + 1) v d).bind fun z => some (z.1, z.2)))))) = _
  rw [gMulN (by omega) (by omega), Option.bind_some, gMulN (by omega) (by omega), Option.bind_some, gAdd (by omega) (by omega), Option.bind_some, fMul (by omega) (by omega), Option.bind_some, red_nf (Nat.mul_ne_zero p.den_nz q.den_nz) (by omega) (by omega), Option.bind_some, Int.natCast_mul, add_parts]
 ·rw [if_neg hm, if_neg hm]
  rfl
theorem ratmul_f {x y : BB} (hx : smR x = true) (hy : smR y = true) (k : Nat) : Py.rat_Mul.f (k + 1) x.1 x.2 y.1 y.2 = some (rmulS x y) := by
 unfold Py.rat_Mul.f rmulS
 rw [ratboth_f hx hy, Option.bind_some]
 rcases casesR x y with ⟨p, q, rfl, rfl⟩ | hm
 ·have h1 := sm_rT hx
  have h2 := sm_rT hy
  have s1 := szI_mul p.num q.num
  have s4 := sz_mul p.den q.den
  rw [if_pos (may2R_rT p q), if_pos (may2R_rT p q), ratR_rT, ratR_rT]
  show ((whole_Mul.f (intB p.num) (intB q.num)).bind fun t => ((nat_Mul.f (natB p.den) (natB q.den)).bind fun d => ((Py.rat_reduced.f (k + 1) t d).bind fun z => some (z.1, z.2)))) = _
  rw [gMul (by omega) (by omega), Option.bind_some, fMul (by omega) (by omega), Option.bind_some, red_nf (Nat.mul_ne_zero p.den_nz q.den_nz) (by omega) (by omega), Option.bind_some, Int.natCast_mul, mul_parts]
 ·rw [if_neg hm, if_neg hm]
  rfl
theorem ratdiv_f {x y : BB} (hx : smR x = true) (hy : smR y = true) (k : Nat) : Py.rat_Div.f (k + 2) x.1 x.2 y.1 y.2 = some ((rdivS x y).1.1, (rdivS x y).1.2, (rdivS x y).2) := by
 unfold Py.rat_Div.f rdivS
 rw [ratboth_f hx hy, Option.bind_some]
 rcases casesR x y with ⟨p, q, rfl, rfl⟩ | hm
 ·have h1 := sm_rT hx
  have h2 := sm_rT hy
  have s1 := szI_mul p.num (q.den : Int)
  have s2 := szI_mul (p.den : Int) q.num
  rw [szI_nat] at s1 s2
  rw [if_pos (may2R_rT p q), may2R_rT, Bool.true_and, ratR_rT, ratR_rT]
  show Py.rat_Div.j0 (k + 1 + 1) ((intB q.num).toList == ([48] : List UInt8)) (intB p.num) (natB p.den) (intB q.num) (natB q.den) = _
  rw [intB_beq_zero]
  simp only [Py.rat_Div.j0]
  by_cases h : q = 0
  ·subst h
   rfl
  ·have hn := num_ne h
   rw [if_neg (by rw [decide_eq_true_eq]; exact hn), if_pos (decide_eq_true h), gMulN (by omega) (by omega), Option.bind_some, gNMul (by omega) (by omega), Option.bind_some, red_f (Int.mul_ne_zero (den_ne p) hn) (by omega) (by omega), Option.bind_some, div_parts]
 ·rw [if_neg hm, (Bool.not_eq_true _).mp hm]
  simp only [Py.rat_Div.j0]
  rfl
theorem ratsplit_f {x : BB} (hx : smR x = true) (k : Nat) : Py.rat_Split.f (k + 1) x.1 x.2 = some (rsplitS x) := by
 have h0 := smR_le hx
 unfold Py.rat_Split.f rsplitS
 rw [ratmay_f (by omega) (by omega), Option.bind_some]
 by_cases h : mayR x = true
 ·obtain ⟨q, rfl⟩ := of_mayR h
  have h1 := sm_rT hx
  rw [if_pos h, if_pos h, ratR_rT]
  have s1 := szI_mod q.num (den_ne q)
  rw [szI_nat] at s1
  have e : whole_Div.f (intB q.num) (natB q.den) = some (intB (q.num / (q.den : Int)), intB (q.num % (q.den : Int)), true) := by
   rw [← intB_nat]
   exact gDiv (by omega) (by rw [szI_nat]; omega) (den_ne q)
  show ((whole_Div.f (intB q.num) (natB q.den)).bind fun t => ((Py.rat_reduced.f (k + 1) t.2.1 (natB q.den)).bind fun z => some (t.1, z.1, z.2))) = _
  rw [e, Option.bind_some, red_nf q.den_nz (by omega) (by omega), Option.bind_some, split_parts, Rat.floor_def]
 ·rw [if_neg h, if_neg h]
  rfl
theorem ratof_f (n : Int) (h0 : -9223372036854775808 ≤ n) (h1 : n ≤ 9223372036854775807) : Py.rat_Of.f n = some (rT (n : Rat)) := by
 unfold Py.rat_Of.f
 rw [gOf h0 h1, Option.bind_some, ← natB_one]
 rfl
end Go.Proofs.YtnhpnnbjimnmlaaGreatDoor
end

section
namespace Go.Proofs.YtnhpnnbjimnmlaaGreatDoor
def rat_May.f (a0_0 a0_1 : ByteArray) : Option (Bool) := if smR (a0_0, a0_1) = true then some (mayR (a0_0, a0_1)) else none
theorem rat_May.calls (a0_0 a0_1 : ByteArray) (r : Bool) (w : World) (hL_ : Laid w) (h : rat_May.f a0_0 a0_1 = some r) :
  Calls Tryz.prog 33 #[.agg #[.string a0_0, .string a0_1]] w fun e w' => e = .returned (.bool r) ∧ Below w.heap.size w w' := by
 unfold rat_May.f at h
 split at h
 ·rename_i hp
  have hs := smR_le hp
  rw [← ratmay_f (a := a0_0) (b := a0_1) (Nat.le_trans hs.1 (by decide)) (Nat.le_trans hs.2 (by decide))] at h
  exact Py.rat_May.calls a0_0 a0_1 r w hL_ h
 ·cases h
def rat_Make.f (a0 a1 : ByteArray) : Option (ByteArray × ByteArray × Bool) := if smR (a0, a1) = true then some ((rmakeS a0 a1).1.1, (rmakeS a0 a1).1.2, (rmakeS a0 a1).2) else none
theorem rat_Make.calls (a0 a1 : ByteArray) (r1 : ByteArray) (r2 : ByteArray) (r3 : Bool) (w : World) (hL_ : Laid w) (h : rat_Make.f a0 a1 = some (r1, r2, r3)) :
  Calls Tryz.prog 22 #[.string a0, .string a1] w fun e w' => e = .returned (.tuple #[.agg #[.string r1, .string r2], .bool r3]) ∧ Below w.heap.size w w' := by
 unfold rat_Make.f at h
 split at h
 ·rename_i hp
  have hs := smR_le hp
  rw [← ratmake_f (a := a0) (b := a1) (Nat.le_trans hs.1 (by decide)) (Nat.le_trans hs.2 (by decide)) 1] at h
  exact Py.rat_Make.calls _ a0 a1 r1 r2 r3 w hL_ h
 ·cases h
def rat_Of.f (a0 : Int) : Option (ByteArray × ByteArray) := if -9223372036854775808 ≤ a0 ∧ a0 ≤ 9223372036854775807 then some (rT (a0 : Rat)) else none
theorem rat_Of.calls (a0 : Int) (r1 : ByteArray) (r2 : ByteArray) (w : World) (hL_ : Laid w) (h : rat_Of.f a0 = some (r1, r2)) :
  Calls Tryz.prog 59 #[.int .i64 a0] w fun e w' => e = .returned (.agg #[.string r1, .string r2]) ∧ Below w.heap.size w w' := by
 unfold rat_Of.f at h
 split at h
 ·rename_i hp
  rw [← ratof_f a0 hp.1 hp.2] at h
  exact Py.rat_Of.calls a0 r1 r2 w hL_ h
 ·cases h
def rat_Sign.f (a0_0 a0_1 : ByteArray) : Option (Int) := if smR (a0_0, a0_1) = true then some (rsignS (a0_0, a0_1)) else none
theorem rat_Sign.calls (a0_0 a0_1 : ByteArray) (r : Int) (w : World) (hL_ : Laid w) (h : rat_Sign.f a0_0 a0_1 = some r) :
  Calls Tryz.prog 20 #[.agg #[.string a0_0, .string a0_1]] w fun e w' => e = .returned (.int .i64 r) ∧ Below w.heap.size w w' := by
 unfold rat_Sign.f at h
 split at h
 ·rename_i hp
  have hs := smR_le hp
  rw [← ratsign_f (x := (a0_0, a0_1)) (Nat.le_trans hs.1 (by decide)) (Nat.le_trans hs.2 (by decide))] at h
  exact Py.rat_Sign.calls a0_0 a0_1 r w hL_ h
 ·cases h
def rat_Cmp.f (a0_0 a0_1 a1_0 a1_1 : ByteArray) : Option (Int) := if smR2 (a0_0, a0_1) (a1_0, a1_1) = true then some (rcmpS (a0_0, a0_1) (a1_0, a1_1)) else none
theorem rat_Cmp.calls (a0_0 a0_1 a1_0 a1_1 : ByteArray) (r : Int) (w : World) (hL_ : Laid w) (h : rat_Cmp.f a0_0 a0_1 a1_0 a1_1 = some r) :
  Calls Tryz.prog 57 #[.agg #[.string a0_0, .string a0_1], .agg #[.string a1_0, .string a1_1]] w fun e w' => e = .returned (.int .i64 r) ∧ Below w.heap.size w w' := by
 unfold rat_Cmp.f at h
 split at h
 ·rename_i hp
  have hs := smR2_le hp
  rw [← ratcmp_f (x := (a0_0, a0_1)) (y := (a1_0, a1_1)) hs.1 hs.2.1] at h
  exact Py.rat_Cmp.calls a0_0 a0_1 a1_0 a1_1 r w hL_ h
 ·cases h
def rat_Add.f (a0_0 a0_1 a1_0 a1_1 : ByteArray) : Option (ByteArray × ByteArray) := if smR2 (a0_0, a0_1) (a1_0, a1_1) = true then some (raddS (a0_0, a0_1) (a1_0, a1_1)) else none
theorem rat_Add.calls (a0_0 a0_1 a1_0 a1_1 : ByteArray) (r1 : ByteArray) (r2 : ByteArray) (w : World) (hL_ : Laid w) (h : rat_Add.f a0_0 a0_1 a1_0 a1_1 = some (r1, r2)) :
  Calls Tryz.prog 58 #[.agg #[.string a0_0, .string a0_1], .agg #[.string a1_0, .string a1_1]] w fun e w' => e = .returned (.agg #[.string r1, .string r2]) ∧ Below w.heap.size w w' := by
 unfold rat_Add.f at h
 split at h
 ·rename_i hp
  have hs := smR2_le hp
  rw [← ratadd_f (x := (a0_0, a0_1)) (y := (a1_0, a1_1)) hs.1 hs.2.1 0] at h
  exact Py.rat_Add.calls _ a0_0 a0_1 a1_0 a1_1 r1 r2 w hL_ h
 ·cases h
def rat_Mul.f (a0_0 a0_1 a1_0 a1_1 : ByteArray) : Option (ByteArray × ByteArray) := if smR2 (a0_0, a0_1) (a1_0, a1_1) = true then some (rmulS (a0_0, a0_1) (a1_0, a1_1)) else none
theorem rat_Mul.calls (a0_0 a0_1 a1_0 a1_1 : ByteArray) (r1 : ByteArray) (r2 : ByteArray) (w : World) (hL_ : Laid w) (h : rat_Mul.f a0_0 a0_1 a1_0 a1_1 = some (r1, r2)) :
  Calls Tryz.prog 23 #[.agg #[.string a0_0, .string a0_1], .agg #[.string a1_0, .string a1_1]] w fun e w' => e = .returned (.agg #[.string r1, .string r2]) ∧ Below w.heap.size w w' := by
 unfold rat_Mul.f at h
 split at h
 ·rename_i hp
  have hs := smR2_le hp
  rw [← ratmul_f (x := (a0_0, a0_1)) (y := (a1_0, a1_1)) hs.1 hs.2.1 0] at h
  exact Py.rat_Mul.calls _ a0_0 a0_1 a1_0 a1_1 r1 r2 w hL_ h
 ·cases h
def rat_Div.f (a0_0 a0_1 a1_0 a1_1 : ByteArray) : Option (ByteArray × ByteArray × Bool) := if smR2 (a0_0, a0_1) (a1_0, a1_1) = true then some ((rdivS (a0_0, a0_1) (a1_0, a1_1)).1.1, (rdivS (a0_0, a0_1) (a1_0, a1_1)).1.2, (rdivS (a0_0, a0_1) (a1_0, a1_1)).2) else none
theorem rat_Div.calls (a0_0 a0_1 a1_0 a1_1 : ByteArray) (r1 : ByteArray) (r2 : ByteArray) (r3 : Bool) (w : World) (hL_ : Laid w) (h : rat_Div.f a0_0 a0_1 a1_0 a1_1 = some (r1, r2, r3)) :
  Calls Tryz.prog 21 #[.agg #[.string a0_0, .string a0_1], .agg #[.string a1_0, .string a1_1]] w fun e w' => e = .returned (.tuple #[.agg #[.string r1, .string r2], .bool r3]) ∧ Below w.heap.size w w' := by
 unfold rat_Div.f at h
 split at h
 ·rename_i hp
  have hs := smR2_le hp
  rw [← ratdiv_f (x := (a0_0, a0_1)) (y := (a1_0, a1_1)) hs.1 hs.2.1 0] at h
  exact Py.rat_Div.calls _ a0_0 a0_1 a1_0 a1_1 r1 r2 r3 w hL_ h
 ·cases h
def rat_Split.f (a0_0 a0_1 : ByteArray) : Option (ByteArray × ByteArray × ByteArray) := if smR (a0_0, a0_1) = true then some (rsplitS (a0_0, a0_1)) else none
theorem rat_Split.calls (a0_0 a0_1 : ByteArray) (r1 : ByteArray) (r2 : ByteArray) (r3 : ByteArray) (w : World) (hL_ : Laid w) (h : rat_Split.f a0_0 a0_1 = some (r1, r2, r3)) :
  Calls Tryz.prog 34 #[.agg #[.string a0_0, .string a0_1]] w fun e w' => e = .returned (.tuple #[.string r1, .agg #[.string r2, .string r3]]) ∧ Below w.heap.size w w' := by
 unfold rat_Split.f at h
 split at h
 ·rename_i hp
  rw [← ratsplit_f (x := (a0_0, a0_1)) hp 1] at h
  exact Py.rat_Split.calls _ a0_0 a0_1 r1 r2 r3 w hL_ h
 ·cases h
end Go.Proofs.YtnhpnnbjimnmlaaGreatDoor
end

section
namespace Go.Proofs.YtnhpnnbjimnmlaaGreatDoor
theorem rAdd {m n : Nat} (hm : sz m ≤ 50000) (hn : sz n ≤ 50000) : r1_Add.f (natB m) (natB n) = some (natB (m + n)) := by
 unfold r1_Add.f addS
 rw [if_pos (sm2_natB hm hn), if_pos (may2_natB m n), numB_natB, numB_natB]
theorem rMul {m n : Nat} (hm : sz m ≤ 50000) (hn : sz n ≤ 50000) : r1_Mul.f (natB m) (natB n) = some (natB (m * n)) := by
 unfold r1_Mul.f mulS
 rw [if_pos (sm2_natB hm hn), if_pos (may2_natB m n), numB_natB, numB_natB]
theorem rCmp {m n : Nat} (hm : sz m ≤ 50000) (hn : sz n ≤ 50000) : r1_Cmp.f (natB m) (natB n) = some (Lib.compareInt (m : Int) (n : Int)) := by
 unfold r1_Cmp.f cmpS
 rw [if_pos (sm2_natB hm hn), if_pos (may2_natB m n), numB_natB, numB_natB]
theorem rSub {m n : Nat} (hm : sz m ≤ 50000) (hn : sz n ≤ 50000) : r1_Sub.f (natB m) (natB n) = some (if n ≤ m then (natB (m - n), true) else (noB, false)) := by
 unfold r1_Sub.f subS
 rw [if_pos (sm2_natB hm hn), may2_natB, numB_natB, numB_natB, Bool.true_and]
 by_cases h : n ≤ m
 ·rw [if_pos (decide_eq_true h), if_pos h]
 ·rw [if_neg (by rw [decide_eq_true_eq]; exact h), if_neg h]
theorem rDiv {m n : Nat} (hm : sz m ≤ 50000) (hn : sz n ≤ 50000) (h : n ≠ 0) : r1_Div.f (natB m) (natB n) = some (natB (m / n), natB (m % n), true) := by
 unfold r1_Div.f divS
 rw [if_pos (sm2_natB hm hn), may2_natB, numB_natB, numB_natB, Bool.true_and, if_pos (decide_eq_true h)]
theorem may2W_and' {a b : ByteArray} : may2W a b = true ↔ mayW a = true ∧ mayW b = true := by unfold may2W; rw [Bool.and_eq_true]
theorem may2W_int' (x y : Int) : may2W (intB x) (intB y) = true := may2W_and'.2 ⟨mayW_int x, mayW_int y⟩
theorem casesW' (a b : ByteArray) : (∃ x y, a = intB x ∧ b = intB y) ∨ ¬ may2W a b = true := by
 by_cases h : may2W a b = true
 ·obtain ⟨h1, h2⟩ := may2W_and'.1 h
  obtain ⟨x, hx⟩ := of_mayW h1
  obtain ⟨y, hy⟩ := of_mayW h2
  exact .inl ⟨x, y, hx, hy⟩
 ·exact .inr h
theorem withS_int' (z : Int) : withS (decide (z < 0)) z.natAbs = z := by
 unfold withS
 by_cases h : z < 0
 ·rw [if_pos (decide_eq_true h)]; omega
 ·rw [if_neg (by rw [decide_eq_true_eq]; exact h)]; omega
theorem withS_not' (z : Int) : withS (!decide (z < 0)) z.natAbs = -z := by
 unfold withS
 by_cases h : z < 0
 ·rw [decide_eq_true h, if_neg (by decide)]; omega
 ·rw [decide_eq_false h, if_pos (by decide)]; omega
theorem with_f (b : Bool) {n : Nat} (h : sz n ≤ 1000000) : Px.r2_with.f (natB n) b = some (intB (withS b n)) := by
 rw [← withS_text]
 unfold Px.r2_with.f
 cases b with
 | false => rfl
 | true =>
  simp only [if_true]
  by_cases hz : n = 0
  ·rw [if_pos (natB_toList_zero.2 hz), if_pos hz]
  ·unfold sz at h
   rw [if_neg (fun e => hz (natB_toList_zero.1 e)), if_neg hz, if_pos (by omega)]
theorem r2of_f (n : Int) (h0 : -9223372036854775808 ≤ n) (h1 : n ≤ 9223372036854775807) : Px.r2_Of.f n = some (intB n) := by
 unfold Px.r2_Of.f
 have hof : ∀ m : Int, 0 ≤ m → m ≤ 9223372036854775807 → r1_Of.f m = some (natB m.toNat) := by
  intro m h2 h3
  unfold r1_Of.f ofS
  rw [if_pos ⟨by omega, h3⟩, if_neg (by omega)]
 by_cases h : n < 0
 ·rw [if_pos h, w64 (x := n + 1) (by omega) (by omega), w64 (by omega) (by omega), hof _ (by omega) (by omega), Option.bind_some, ← natB_one]
  have s1 : sz (-(n + 1)).toNat ≤ 20 := sz_le (by omega) (by omega)
  have s2 : sz 1 ≤ 20 := sz_le (by omega) (by omega)
  have s3 := sz_add (-(n + 1)).toNat 1
  rw [rAdd (by omega) (by omega), Option.bind_some, if_pos (by unfold sz at s1 s2 s3; omega)]
  have e : (-(n + 1)).toNat + 1 = n.natAbs := by omega
  rw [e]
  unfold intB
  rw [if_pos h]
 ·rw [if_neg h, hof n (by omega) h1, Option.bind_some, intB_nonneg (by omega)]
theorem r2abs_f {a : ByteArray} (h : a.size ≤ 50000) : Px.r2_Abs.f a = some (wabsS a) := by
 unfold Px.r2_Abs.f wabsS
 rw [r2may_f h, Option.bind_some]
 by_cases hm : mayW a = true
 ·obtain ⟨z, rfl⟩ := of_mayW hm
  rw [if_pos hm, amount_f, Option.bind_some, if_pos hm, numW_int, amtB_int]
 ·rw [if_neg hm, if_neg hm]
  rfl
theorem r2neg_f {a : ByteArray} (h : a.size ≤ 50000) : Px.r2_Neg.f a = some (wnegS a) := by
 unfold Px.r2_Neg.f wnegS
 rw [r2may_f h, Option.bind_some]
 by_cases hm : mayW a = true
 ·obtain ⟨z, rfl⟩ := of_mayW hm
  have h1 := le_szI z
  have h2 : szI z ≤ 50000 := h
  rw [if_pos hm, amount_f, Option.bind_some, if_pos hm, numW_int, amtB_int, minusB_int, with_f _ (by omega), withS_not']
  rfl
 ·rw [if_neg hm, if_neg hm]
  rfl
theorem r2sign_f {a : ByteArray} (h : a.size ≤ 50000) (k : Nat) : Px.r2_Sign.f (k + 1) a = some (wsignS a) := by
 unfold Px.r2_Sign.f wsignS
 rw [amount_f, Option.bind_some, r2may_f h, Option.bind_some]
 by_cases hm : mayW a = true
 ·obtain ⟨z, rfl⟩ := of_mayW hm
  rw [if_pos hm, if_pos hm, amtB_int, minusB_int, natB_beq_zero, numW_int]
  simp only [Px.r2_Sign.j0]
  rcases (by omega : z < 0 ∨ z = 0 ∨ 0 < z) with hz | hz | hz
  ·rw [if_neg (by rw [decide_eq_true_eq]; omega), if_pos (decide_eq_true hz), cmp_lt' hz]
  ·subst hz
   rfl
  ·rw [if_neg (by rw [decide_eq_true_eq]; omega), if_neg (by rw [decide_eq_true_eq]; omega), cmp_gt' hz]
 ·rw [if_neg hm, if_neg hm]
  rfl
theorem r2add_core {m n : Nat} (a b : Bool) (hm : sz m ≤ 50000) (hn : sz n ≤ 50000) :
  (if (a == b) = true then ((r1_Add.f (natB m) (natB n)).bind fun t => ((Px.r2_with.f t a).bind fun u => some u)) else ((r1_Cmp.f (natB m) (natB n)).bind fun c => (if c ≥ 0 then ((r1_Sub.f (natB m) (natB n)).bind fun d => ((Px.r2_with.f d.1 a).bind fun u => some u)) else ((r1_Sub.f (natB n) (natB m)).bind fun d => ((Px.r2_with.f d.1 b).bind fun u => some u))))) = some (intB (withS a m + withS b n)) := by
 have s1 := sz_add m n
 have s2 := sz_mono (show m - n ≤ m by omega)
 have s3 := sz_mono (show n - m ≤ n by omega)
 by_cases h : a = b
 ·subst h
  rw [if_pos (by simp), rAdd hm hn, Option.bind_some, with_f _ (by omega), Option.bind_some]
  congr 2
  unfold withS
  cases a
  ·simp
  ·simp only [if_true]; omega
 ·rw [if_neg (by simpa using h), rCmp hm hn, Option.bind_some]
  by_cases hle : n ≤ m
  ·have hc : Lib.compareInt (m : Int) (n : Int) ≥ 0 := by unfold Lib.compareInt; (repeat' split) <;> omega
   rw [if_pos hc, rSub hm hn, Option.bind_some, if_pos hle, with_f _ (by omega), Option.bind_some]
   congr 2
   unfold withS
   cases a <;> cases b <;> first | exact absurd rfl h | (simp only [Bool.false_eq_true, if_true, if_false]; omega)
  ·have hc : ¬ Lib.compareInt (m : Int) (n : Int) ≥ 0 := by unfold Lib.compareInt; (repeat' split) <;> omega
   rw [if_neg hc, rSub hn hm, Option.bind_some, if_pos (by omega), with_f _ (by omega), Option.bind_some]
   congr 2
   unfold withS
   cases a <;> cases b <;> first | exact absurd rfl h | (simp only [Bool.false_eq_true, if_true, if_false]; omega)
theorem r2add_f {a b : ByteArray} (ha : a.size ≤ 50000) (hb : b.size ≤ 50000) (k : Nat) : Px.r2_Add.f (k + 1) a b = some (waddS a b) := by
 unfold Px.r2_Add.f waddS
 rw [r2may_f ha, Option.bind_some]
 rcases casesW' a b with ⟨x, y, rfl, rfl⟩ | hm
 ·have h1 := le_szI x
  have h2 := le_szI y
  have h3 : szI x ≤ 50000 := ha
  have h4 : szI y ≤ 50000 := hb
  rw [if_pos (mayW_int x), r2may_f hb, Option.bind_some, mayW_int]
  simp only [Px.r2_Add.j0]
  rw [if_neg (by decide), amount_f, Option.bind_some, amount_f, Option.bind_some, amtB_int, amtB_int, minusB_int, minusB_int, r2add_core _ _ (by omega) (by omega), withS_int', withS_int', if_pos (may2W_int' x y), numW_int, numW_int]
 ·rw [if_neg hm]
  by_cases h1 : mayW a = true
  ·rw [if_pos h1, r2may_f hb, Option.bind_some, (Bool.not_eq_true _).mp (fun h2 => hm (may2W_and'.2 ⟨h1, h2⟩))]
   rfl
  ·rw [if_neg h1]
   rfl
theorem withS_mul' (a b : Bool) (m n : Nat) : withS (a != b) (m * n) = withS a m * withS b n := by
 unfold withS
 cases a <;> cases b <;> simp [Int.natCast_mul, Int.neg_mul, Int.mul_neg]
theorem r2mul_f {a b : ByteArray} (ha : a.size ≤ 50000) (hb : b.size ≤ 50000) (k : Nat) : Px.r2_Mul.f (k + 1) a b = some (wmulS a b) := by
 unfold Px.r2_Mul.f wmulS
 rw [r2may_f ha, Option.bind_some]
 rcases casesW' a b with ⟨x, y, rfl, rfl⟩ | hm
 ·have h1 := le_szI x
  have h2 := le_szI y
  have h3 : szI x ≤ 50000 := ha
  have h4 : szI y ≤ 50000 := hb
  have h5 := sz_mul x.natAbs y.natAbs
  rw [if_pos (mayW_int x), r2may_f hb, Option.bind_some, mayW_int]
  simp only [Px.r2_Mul.j0]
  rw [if_neg (by decide), amount_f, Option.bind_some, amount_f, Option.bind_some, amtB_int, amtB_int, minusB_int, minusB_int, rMul (by omega) (by omega), Option.bind_some, with_f _ (by omega), withS_mul', withS_int', withS_int', if_pos (may2W_int' x y), numW_int, numW_int]
  rfl
 ·rw [if_neg hm]
  by_cases h1 : mayW a = true
  ·rw [if_pos h1, r2may_f hb, Option.bind_some, (Bool.not_eq_true _).mp (fun h2 => hm (may2W_and'.2 ⟨h1, h2⟩))]
   rfl
  ·rw [if_neg h1]
   rfl
theorem r2div_f {a b : ByteArray} (ha : a.size ≤ 49990) (hb : b.size ≤ 49990) (k : Nat) : Px.r2_Div.f (k + 2) a b = some (wdivS a b) := by
 unfold Px.r2_Div.f wdivS
 rw [r2may_f (by omega), Option.bind_some]
 rcases casesW' a b with ⟨x, y, rfl, rfl⟩ | hm
 ·have h1 := le_szI x
  have h2 := le_szI y
  have h3 : szI x ≤ 49990 := ha
  have h4 : szI y ≤ 49990 := hb
  have hb0 : ((intB y).toList == ([48] : List UInt8)) = decide (y = 0) := by
   have e : (intB 0).toList = [48] := by
    rw [show intB 0 = natB 0 from intB_nat 0]
    exact natB_toList_zero.2 rfl
   rw [Bool.eq_iff_iff, beq_iff_eq, decide_eq_true_eq, ← e]
   exact intB_toList_inj
  rw [if_pos (mayW_int x), r2may_f (by omega), Option.bind_some, if_pos (mayW_int y), may2W_int', Bool.true_and, numW_int, numW_int, hb0]
  show Px.r2_Div.j0 (k + 1 + 1) _ _ _ = _
  simp only [Px.r2_Div.j0]
  by_cases hy : y = 0
  ·subst hy
   rfl
  ·have hy' : y.natAbs ≠ 0 := by omega
   have hd := divW (m := x.natAbs) hy' (decide (x < 0)) (decide (y < 0)) (by intro h; rw [decide_eq_true_eq] at h; omega)
   rw [withS_int', withS_int'] at hd
   have s1 := sz_mono (Nat.div_le_self x.natAbs y.natAbs)
   have s2 := sz_mono (Nat.mod_le x.natAbs y.natAbs)
   have hlt := Nat.mod_lt x.natAbs (show 0 < y.natAbs by omega)
   rw [if_neg (by rw [decide_eq_true_eq]; exact hy), if_pos (decide_eq_true hy), amount_f, Option.bind_some, amount_f, Option.bind_some, amtB_int, amtB_int, minusB_int, minusB_int, rDiv (by omega) (by omega) hy', Option.bind_some, hd.1, hd.2]
   clear hd
   generalize x.natAbs / y.natAbs = q at *
   generalize x.natAbs % y.natAbs = r at *
   have one1 : sz 1 ≤ 1 := sz_le (by omega) (by omega)
   have s3 := sz_add q 1
   by_cases hx : x < 0
   ·rw [if_pos (decide_eq_true hx)]
    simp only [Px.r2_Div.j1]
    by_cases hr : r = 0
    ·subst hr
     rw [if_neg (by have := natB_beq_zero 0; simp [bne, this]), with_f _ (by omega), Option.bind_some, if_neg (by simp), if_neg (by simp), intB_nat]
    ·rw [if_pos (by have := natB_beq_zero r; simp [bne, this, hr]), ← natB_one, rAdd (by omega) (by omega), Option.bind_some, rSub (by omega) (by omega), Option.bind_some, if_pos (by omega), with_f _ (by omega), Option.bind_some, if_pos ⟨decide_eq_true hx, hr⟩, if_pos ⟨decide_eq_true hx, hr⟩, intB_nat]
   ·rw [if_neg (by rw [decide_eq_true_eq]; exact hx)]
    simp only [Px.r2_Div.j1]
    have hf : ¬ (decide (x < 0) = true ∧ r ≠ 0) := fun e => hx (of_decide_eq_true e.1)
    rw [if_neg (by decide), with_f _ (by omega), Option.bind_some, if_neg hf, if_neg hf, intB_nat]
 ·rw [(Bool.not_eq_true _).mp hm]
  by_cases h1 : mayW a = true
  ·rw [if_pos h1, r2may_f (by omega), Option.bind_some, if_neg (fun h2 => hm (may2W_and'.2 ⟨h1, h2⟩))]
   rfl
  ·rw [if_neg h1]
   rfl
def smr (s : ByteArray) : Bool := decide (s.size ≤ 20000)
theorem smr_le {s : ByteArray} (h : smr s = true) : s.size ≤ 20000 := of_decide_eq_true h
def smr2 (a b : ByteArray) : Bool := smr a && smr b
theorem smr2_le {a b : ByteArray} (h : smr2 a b = true) : a.size ≤ 20000 ∧ b.size ≤ 20000 := by
 unfold smr2 at h
 rw [Bool.and_eq_true] at h
 exact ⟨smr_le h.1, smr_le h.2⟩
def r2_Of.f (a0 : Int) : Option ByteArray := if -9223372036854775808 ≤ a0 ∧ a0 ≤ 9223372036854775807 then some (intB a0) else none
theorem r2_Of.calls (a0 : Int) (r : ByteArray) (w : World) (h : r2_Of.f a0 = some r) :
  Calls Tryz.prog 37 #[.int .i64 a0] w fun e w' => e = .returned (.string r) ∧ Below w.heap.size w w' := by
 unfold r2_Of.f at h
 split at h
 ·rename_i hp
  rw [← r2of_f a0 hp.1 hp.2] at h
  exact Px.r2_Of.calls a0 r w h
 ·cases h
def r2_Sign.f (a0 : ByteArray) : Option Int := if smr a0 = true then some (wsignS a0) else none
theorem r2_Sign.calls (a0 : ByteArray) (r : Int) (w : World) (h : r2_Sign.f a0 = some r) :
  Calls Tryz.prog 19 #[.string a0] w fun e w' => e = .returned (.int .i64 r) ∧ Below w.heap.size w w' := by
 unfold r2_Sign.f at h
 split at h
 ·rename_i hp
  have hs := smr_le hp
  rw [← r2sign_f (by omega) 0] at h
  exact Px.r2_Sign.calls _ a0 r w h
 ·cases h
def r2_Abs.f (a0 : ByteArray) : Option ByteArray := if smr a0 = true then some (wabsS a0) else none
theorem r2_Abs.calls (a0 : ByteArray) (r : ByteArray) (w : World) (h : r2_Abs.f a0 = some r) :
  Calls Tryz.prog 30 #[.string a0] w fun e w' => e = .returned (.string r) ∧ Below w.heap.size w w' := by
 unfold r2_Abs.f at h
 split at h
 ·rename_i hp
  have hs := smr_le hp
  rw [← r2abs_f (by omega)] at h
  exact Px.r2_Abs.calls a0 r w h
 ·cases h
def r2_Neg.f (a0 : ByteArray) : Option ByteArray := if smr a0 = true then some (wnegS a0) else none
theorem r2_Neg.calls (a0 : ByteArray) (r : ByteArray) (w : World) (h : r2_Neg.f a0 = some r) :
  Calls Tryz.prog 26 #[.string a0] w fun e w' => e = .returned (.string r) ∧ Below w.heap.size w w' := by
 unfold r2_Neg.f at h
 split at h
 ·rename_i hp
  have hs := smr_le hp
  rw [← r2neg_f (by omega)] at h
  exact Px.r2_Neg.calls a0 r w h
 ·cases h
def r2_Add.f (a0 a1 : ByteArray) : Option ByteArray := if smr2 a0 a1 = true then some (waddS a0 a1) else none
theorem r2_Add.calls (a0 a1 : ByteArray) (r : ByteArray) (w : World) (h : r2_Add.f a0 a1 = some r) :
  Calls Tryz.prog 31 #[.string a0, .string a1] w fun e w' => e = .returned (.string r) ∧ Below w.heap.size w w' := by
 unfold r2_Add.f at h
 split at h
 ·rename_i hp
  have hs := smr2_le hp
  rw [← r2add_f (by omega) (by omega) 0] at h
  exact Px.r2_Add.calls _ a0 a1 r w h
 ·cases h
def r2_Mul.f (a0 a1 : ByteArray) : Option ByteArray := if smr2 a0 a1 = true then some (wmulS a0 a1) else none
theorem r2_Mul.calls (a0 a1 : ByteArray) (r : ByteArray) (w : World) (h : r2_Mul.f a0 a1 = some r) :
  Calls Tryz.prog 25 #[.string a0, .string a1] w fun e w' => e = .returned (.string r) ∧ Below w.heap.size w w' := by
 unfold r2_Mul.f at h
 split at h
 ·rename_i hp
  have hs := smr2_le hp
  rw [← r2mul_f (by omega) (by omega) 0] at h
  exact Px.r2_Mul.calls _ a0 a1 r w h
 ·cases h
def r2_Div.f (a0 a1 : ByteArray) : Option (ByteArray × ByteArray × Bool) := if smr2 a0 a1 = true then some (wdivS a0 a1) else none
theorem r2_Div.calls (a0 a1 : ByteArray) (r1 r2 : ByteArray) (r3 : Bool) (w : World) (h : r2_Div.f a0 a1 = some (r1, r2, r3)) :
  Calls Tryz.prog 45 #[.string a0, .string a1] w fun e w' => e = .returned (.tuple #[.string r1, .string r2, .bool r3]) ∧ Below w.heap.size w w' := by
 unfold r2_Div.f at h
 split at h
 ·rename_i hp
  have hs := smr2_le hp
  rw [← r2div_f (by omega) (by omega) 0] at h
  exact Px.r2_Div.calls _ a0 a1 r1 r2 r3 w h
 ·cases h
end Go.Proofs.YtnhpnnbjimnmlaaGreatDoor
end

section
namespace Go.Proofs.YtnhpnnbjimnmlaaGreatDoor
theorem rgcd_loop {N : Nat} (hN : N ≤ 50000) : ∀ (n m k : Nat), (natB m).size ≤ N → (natB n).size ≤ N → n + 22 * N + 60 ≤ k → Pq.r1_Gcd.l0 k (natB m) (natB n) = some (natB (Nat.gcd m n))
 | n, m, k, hm, hn, hk => by
  obtain ⟨k, rfl⟩ : ∃ j, k = j + 1 := ⟨k - 1, by omega⟩
  simp only [Pq.r1_Gcd.l0]
  rw [ByteArray.toList_eq]
  have hz := list48 (mayB_natB n)
  rw [numB_natB] at hz
  by_cases h : n = 0
  ·rw [if_pos (hz.2 h), h, Nat.gcd_zero_right]
  ·rw [if_neg (fun e => h (hz.1 e)), rdiv_f hN hm hn k (by omega), Option.bind_some]
   have hd : divS (natB m) (natB n) = (natB (m / n), natB (m % n), true) := by
    unfold divS
    rw [numB_natB, numB_natB, if_pos (by rw [may2_eq (mayB_natB m) (mayB_natB n), decide_eq_true h]; rfl)]
   rw [hd]
   have h2 := Nat.mod_lt m (show 0 < n by omega)
   have h3 := natB_le (mayB_natB n) (n := m % n) (by rw [numB_natB]; omega)
   have := rgcd_loop hN (m % n) n k hn (by omega) (by omega)
   rw [this, Nat.gcd_comm m n, Nat.gcd_rec n m, Nat.gcd_comm]
 termination_by n => n
 decreasing_by exact Nat.mod_lt m (by omega)
theorem rgcd_f {a b : ByteArray} {N : Nat} (hN : N ≤ 50000) (ha : a.size ≤ N) (hb : b.size ≤ N) (k : Nat) (hk : numB b + 22 * N + 70 ≤ k) : Pq.r1_Gcd.f k a b = some (gcdS a b) := by
 obtain ⟨k, rfl⟩ : ∃ m, k = m + 1 := ⟨k - 1, by omega⟩
 unfold Pq.r1_Gcd.f
 rw [rmay_f a (by omega) _ (by omega), Option.bind_some]
 by_cases h1 : mayB a = true
 ·rw [if_pos h1, rmay_f b (by omega) _ (by omega), Option.bind_some]
  by_cases h2 : mayB b = true
  ·rw [h2]
   simp only [Pq.r1_Gcd.j0]
   unfold gcdS
   rw [if_pos (may2_eq h1 h2), if_neg (by decide)]
   have := rgcd_loop hN (numB b) (numB a) k (by rw [natB_numB h1]; exact ha) (by rw [natB_numB h2]; exact hb) (by omega)
   rw [natB_numB h1, natB_numB h2] at this
   exact this
  ·rw [(Bool.not_eq_true _).mp h2]
   unfold gcdS
   rw [if_neg (may2_no2 h2)]
   rfl
 ·rw [if_neg h1]
  unfold gcdS
  rw [if_neg (may2_no1 h1)]
  rfl
def r1_Gcd.f (a0 a1 : ByteArray) : Option ByteArray := if sm2 a0 a1 = true then some (gcdS a0 a1) else none
theorem r1_Gcd.calls (a0 a1 : ByteArray) (r : ByteArray) (w : World) (h : r1_Gcd.f a0 a1 = some r) :
  Calls Tryz.prog 29 #[.string a0, .string a1] w fun e w' => e = .returned (.string r) ∧ Below w.heap.size w w' := by
 unfold r1_Gcd.f at h
 split at h
 ·rename_i hp
  rw [← rgcd_f (N := 50000) (by omega) (sm_le (and2 hp).1) (sm_le (and2 hp).2) _ (Nat.le_refl _)] at h
  exact Pq.r1_Gcd.calls _ a0 a1 r w h
 ·cases h
end Go.Proofs.YtnhpnnbjimnmlaaGreatDoor
end

section
namespace Go.Proofs.YtnhpnnbjimnmlaaGreatDoor.Pz
def errW : Option Int → Value
 | none => .nilIface
 | some c => .iface 0 (.int .i64 c)
theorem errW_none : errW none = .nilIface := rfl
theorem errW_some (c : Int) : errW (some c) = .iface 0 (.int .i64 c) := rfl
theorem info23 : (Tryz.prog.info? 23).map (fun i => (i.zero, i.size, i.bytes)) = some (some (.agg #[(.string ⟨#[]⟩), (.string ⟨#[]⟩)]), 2, 32) := by kernel_rfl
structure S23 where
 f0 : ByteArray
 f1 : ByteArray
def z23 : S23 := ⟨(⟨#[]⟩ : ByteArray), (⟨#[]⟩ : ByteArray)⟩
def k23 : Kd S23 := Kd.iso (Kd.pair Kd.string Kd.string) (fun x : S23 => (x.f0, x.f1))
theorem k23_open {w : World} {x : S23} {cs : List Value} (h : k23.K w x cs) : cs = [.string x.f0, .string x.f1] := by
 obtain ⟨_, _, rfl, rfl, rfl⟩ := h; exact rfl
theorem k23_mkM (w : World) (base : Nat) (ok : Nat → Prop) (x : S23)  : k23.M w base ok x [.string x.f0, .string x.f1] := ⟨[.string x.f0], [.string x.f1], rfl, rfl, rfl⟩
def rd_T23 (xs : List S23) (i : Int) : S23 := xs.getD i.toNat z23
theorem at_T23 {w : World} {A : Option Addr} {n : Nat} {xs : List S23} (h : Kd.C k23 w A n xs) (i : Int) (h0 : 0 ≤ i) (h1 : i < n) : ∃ ad , A = some ad ∧ w.cell? (ad.add (i.toNat * 2)) = some (.string (rd_T23 xs i).f0) ∧ w.cell? ⟨(ad.add (i.toNat * 2)).block, (ad.add (i.toNat * 2)).off + 1, none⟩ = some (.string (rd_T23 xs i).f1) := by
 obtain ⟨ad, c, e, _, hK, hc0⟩ := Kd.C_get h z23 i h0 h1; have hc : ∀ j u, c[j]? = some u → w.cell? (ad.add (i.toNat * 2 + j)) = some u := hc0; obtain rfl := k23_open hK; exact ⟨ad, e, hc 0 _ rfl, by rw [← add_field _ _ 1 (by omega)]; exact hc 1 _ rfl⟩
end Go.Proofs.YtnhpnnbjimnmlaaGreatDoor.Pz
end

section
namespace Go.Proofs.YtnhpnnbjimnmlaaGreatDoor.Pz
def r3_May.f (a0_0 : ByteArray) (a0_1 : ByteArray) : Option (Bool) := (r2_May.f a0_0).bind fun t102 => (if t102 = true then ((r1_May.f a0_1).bind fun t103 => (if t103 = true then (if a0_1.toList = ([48] : List UInt8) then (some false) else ((r2_Abs.f a0_0).bind fun t104 => ((r1_Gcd.f t104 a0_1).bind fun t105 => (some (t105.toList == ([49] : List UInt8)))))) else (some false))) else (some false))
def r3_May.T1 : Bool × List (List Nat × List Nat) := (true, [([], []), ([0], [0]), ([1], [1]), ([2, 2], [2]), ([3], [3]), ([4, 3], [3, 4]), ([5, 3, 3], [3, 5]), ([3, 6], [3, 6]), ([7, 6], [7]), ([8], [8]), ([9, 8], [8, 9]), ([10, 8], [8, 10]), ([8, 11], [8, 11]), ([12, 8], [12]), ([13], [13]), ([14, 13], [13, 14]), ([15, 13, 13], [13, 15]), ([13], [13]), ([17, 13], [13, 17]), ([16, 18, 16, 13], [13, 16, 18]), ([19, 13], [13, 19]), ([13, 20], [13, 20]), ([21, 19, 0, 1, 2, 3, 4, 5, 6, 7, 8, 9, 10, 11, 12, 13, 14, 15, 16, 17, 18, 19, 20, 21], [21])])
def r3_May.B1 : List Nat := [0, 1, 3, 7, 15, 31, 63, 127, 255, 511, 1023, 2047, 4095, 8191, 16383, 32767, 65535, 16383, 147455, 524287, 1048575, 2097151, 4194303]
theorem r3_May.tab1 : rtab .any (opsOf Tryz.f11 1) = r3_May.T1 := by kernel_rfl
theorem r3_May.bits1 : waitsOk r3_May.T1.2 r3_May.B1 = true := by kernel_rfl
set_option maxHeartbeats 8000000 in
set_option maxRecDepth 100000 in
theorem r3_May.calls (a0_0 : ByteArray) (a0_1 : ByteArray) (r : Bool) (w : World) (h : r3_May.f a0_0 a0_1 = some r) :
  Calls Tryz.prog 11 #[.agg #[.string a0_0, .string a0_1]] w fun e w' => e = .returned (.bool r) ∧ Below w.heap.size w w' := by
 have hu23 := Tryz.underlying23; have HB := Aside0.mk (Below.refl w.heap.size w); have H := h; unfold r3_May.f at H; clear h; obtain ⟨t102, A2, H⟩ := bi_ H; by_cases c3 : t102 = true
 ·subst c3; rw [if_pos rfl] at H; obtain ⟨t103, A4, H⟩ := bi_ H; by_cases c5 : t103 = true
  ·subst c5; rw [if_pos rfl] at H; by_cases c6 : a0_1.toList = ([48] : List UInt8)
   ·rw [if_pos c6] at H; have c6b0 : (a0_1.toList == ([48] : List UInt8)) = true := beq_iff_eq.mpr c6; have c6b1 : (a0_1.toList != ([48] : List UInt8)) = false := bne_eq_false_iff_eq.mpr c6; clear c6; obtain rfl := Option.some.inj H; go_enter Tryz.func11, Tryz.ntmps11
    try go_wp2_with (first | ((with_reducible refine gate_dst (N := 1) rfl ?_); refine be_ 1 #[.string a0_0, .string a0_1] 23 ?_; intro gb101 hg w7 hbox hb; have BK101 := Aside0.mk (hbox); have GW101 := ge_ HB hg; have GE101 := ge_ HB hg; replace HB := bs_ HB hb; clear hb hbox hg))
    replace BK101 := Aside0.mk (blk_drew BK101.out); replace HB := Aside0.mk (below_drew1 HB.out); refine sa_ 23 (fun w' => w'.cell? ⟨gb101, 0, none⟩ = some (.string a0_0) ∧ w'.cell? ⟨gb101, 1, none⟩ = some (.string a0_1)) (fun hHeld => ?_); refine with_tabW r3_May.tab1 r3_May.bits1 (fun HT_ HW_ => ?_); generalize w7.drew = w8 at BK101 HB hHeld ⊢; refine pu_ 0 3 rfl rfl HT_ ?_; refine t2_ 1 4 rfl rfl HT_ HW_ hHeld ?_; refine on_ 2 (some 5) rfl rfl HT_ (fun K hK => ?_); refine gs_ Tryz.func27 #[.string a0_0] ?_; refine mo_ (r2_May.calls a0_0 true _ A2.out) ?_; intro w9 hb; replace BK101 := kb_ BK101 hb; replace HB := bs_ HB hb; (try clear hb); refine hk_ hK (fun hHeld => ?_); clear hK K; refine nm_ ?_; refine pu_ 3 6 rfl rfl HT_ ?_; refine pu_ 4 7 rfl rfl HT_ ?_; refine t2_ 5 8 rfl rfl HT_ HW_ hHeld ?_; refine on_ 6 (some 9) rfl rfl HT_ (fun K hK => ?_); refine gs_ Tryz.func28 #[.string a0_1] ?_; refine mo_ (r1_May.calls a0_1 true _ A4.out) ?_; intro w10 hb; replace BK101 := kb_ BK101 hb; replace HB := bs_ HB hb; (try clear hb); refine hk_ hK (fun hHeld => ?_); clear hK K; refine nm_ ?_; refine pu_ 7 10 rfl rfl HT_ ?_; refine pu_ 8 11 rfl rfl HT_ ?_; refine pu_ 9 12 rfl rfl HT_ ?_; refine t2_ 10 13 rfl rfl HT_ HW_ hHeld ?_; refine pu_ 11 14 rfl rfl HT_ ?_; refine pu_ 12 15 rfl rfl HT_ ?_; refine pu_ 13 16 rfl rfl HT_ ?_; refine pv_ 14 17 rfl rfl HT_ ?_; refine pv_ 15 18 rfl rfl HT_ ?_; refine pv_ 16 19 rfl rfl HT_ ?_; refine pv_ 17 20 rfl rfl HT_ ?_; refine pv_ 18 21 rfl rfl HT_ ?_; refine pv_ 19 22 rfl rfl HT_ ?_; refine pv_ 20 23 rfl rfl HT_ ?_; refine pu_ 21 24 rfl rfl HT_ ?_; refine pu_ 22 2 rfl rfl HT_ ?_; refine done_ (done_of HT_.out (by kernel_rfl)) ?_
    try go_wp2
    go_ret
    exact ⟨er_, b_ HB.out⟩
   ·rw [if_neg c6] at H; have c6b0 : (a0_1.toList == ([48] : List UInt8)) = false := beq_eq_false_iff_ne.mpr c6; have c6b1 : (a0_1.toList != ([48] : List UInt8)) = true := bne_iff_ne.mpr c6; obtain ⟨t104, A11, H⟩ := bi_ H; obtain ⟨t105, A12, H⟩ := bi_ H; obtain rfl := Option.some.inj H; go_enter Tryz.func11, Tryz.ntmps11
    try go_wp2_with (first | ((with_reducible refine gate_dst (N := 1) rfl ?_); refine be_ 1 #[.string a0_0, .string a0_1] 23 ?_; intro gb101 hg w13 hbox hb; have BK101 := Aside0.mk (hbox); have GW101 := ge_ HB hg; have GE101 := ge_ HB hg; replace HB := bs_ HB hb; clear hb hbox hg))
    replace BK101 := Aside0.mk (blk_drew BK101.out); replace HB := Aside0.mk (below_drew1 HB.out); refine sa_ 23 (fun w' => w'.cell? ⟨gb101, 0, none⟩ = some (.string a0_0) ∧ w'.cell? ⟨gb101, 1, none⟩ = some (.string a0_1)) (fun hHeld => ?_); refine with_tabW r3_May.tab1 r3_May.bits1 (fun HT_ HW_ => ?_); generalize w13.drew = w14 at BK101 HB hHeld ⊢; refine pu_ 0 3 rfl rfl HT_ ?_; refine t2_ 1 4 rfl rfl HT_ HW_ hHeld ?_; refine on_ 2 (some 5) rfl rfl HT_ (fun K hK => ?_); refine gs_ Tryz.func27 #[.string a0_0] ?_; refine mo_ (r2_May.calls a0_0 true _ A2.out) ?_; intro w15 hb; replace BK101 := kb_ BK101 hb; replace HB := bs_ HB hb; (try clear hb); refine hk_ hK (fun hHeld => ?_); clear hK K; refine nm_ ?_; refine pu_ 3 6 rfl rfl HT_ ?_; refine pu_ 4 7 rfl rfl HT_ ?_; refine t2_ 5 8 rfl rfl HT_ HW_ hHeld ?_; refine on_ 6 (some 9) rfl rfl HT_ (fun K hK => ?_); refine gs_ Tryz.func28 #[.string a0_1] ?_; refine mo_ (r1_May.calls a0_1 true _ A4.out) ?_; intro w16 hb; replace BK101 := kb_ BK101 hb; replace HB := bs_ HB hb; (try clear hb); refine hk_ hK (fun hHeld => ?_); clear hK K; refine nm_ ?_; refine pu_ 7 10 rfl rfl HT_ ?_; refine pu_ 8 11 rfl rfl HT_ ?_; refine pu_ 9 12 rfl rfl HT_ ?_; refine t2_ 10 13 rfl rfl HT_ HW_ hHeld ?_; refine pu_ 11 14 rfl rfl HT_ ?_; refine pu_ 12 15 rfl rfl HT_ ?_; refine pu_ 13 16 rfl rfl HT_ ?_; refine pu_ 14 17 rfl rfl HT_ ?_; refine pu_ 17 20 rfl rfl HT_ ?_; refine t2_ 15 18 rfl rfl HT_ HW_ hHeld ?_; refine t2_ 18 21 rfl rfl HT_ HW_ hHeld ?_; refine on_ 16 (some 19) rfl rfl HT_ (fun K hK => ?_); refine gs_ Tryz.func30 #[.string a0_0] ?_; refine mo_ (r2_Abs.calls a0_0 t104 _ A11.out) ?_; intro w17 hb; replace BK101 := kb_ BK101 hb; replace HB := bs_ HB hb; (try clear hb); refine hk_ hK (fun hHeld => ?_); clear hK K; refine nm_ ?_; refine on_ 19 (some 22) rfl rfl HT_ (fun K hK => ?_); refine gs_ Tryz.func29 #[.string t104, .string a0_1] ?_; refine mo_ (r1_Gcd.calls t104 a0_1 t105 _ A12.out) ?_; intro w18 hb; replace BK101 := kb_ BK101 hb; replace HB := bs_ HB hb; (try clear hb); refine hk_ hK (fun hHeld => ?_); clear hK K; refine nm_ ?_; refine pu_ 20 23 rfl rfl HT_ ?_; refine pu_ 21 24 rfl rfl HT_ ?_; refine pu_ 22 2 rfl rfl HT_ ?_; refine done_ (done_of HT_.out (by kernel_rfl)) ?_
    try go_wp2
    go_ret
    exact ⟨er_, b_ HB.out⟩
  ·replace c5 := Bool.eq_false_iff.mpr c5; subst c5; rw [if_neg nf_] at H; obtain rfl := Option.some.inj H; go_enter Tryz.func11, Tryz.ntmps11
   try go_wp2_with (first | ((with_reducible refine gate_dst (N := 1) rfl ?_); refine be_ 1 #[.string a0_0, .string a0_1] 23 ?_; intro gb101 hg w19 hbox hb; have BK101 := Aside0.mk (hbox); have GW101 := ge_ HB hg; have GE101 := ge_ HB hg; replace HB := bs_ HB hb; clear hb hbox hg))
   replace BK101 := Aside0.mk (blk_drew BK101.out); replace HB := Aside0.mk (below_drew1 HB.out); refine sa_ 23 (fun w' => w'.cell? ⟨gb101, 0, none⟩ = some (.string a0_0) ∧ w'.cell? ⟨gb101, 1, none⟩ = some (.string a0_1)) (fun hHeld => ?_); refine with_tabW r3_May.tab1 r3_May.bits1 (fun HT_ HW_ => ?_); generalize w19.drew = w20 at BK101 HB hHeld ⊢; refine pu_ 0 3 rfl rfl HT_ ?_; refine t2_ 1 4 rfl rfl HT_ HW_ hHeld ?_; refine on_ 2 (some 5) rfl rfl HT_ (fun K hK => ?_); refine gs_ Tryz.func27 #[.string a0_0] ?_; refine mo_ (r2_May.calls a0_0 true _ A2.out) ?_; intro w21 hb; replace BK101 := kb_ BK101 hb; replace HB := bs_ HB hb; (try clear hb); refine hk_ hK (fun hHeld => ?_); clear hK K; refine nm_ ?_; refine pu_ 3 6 rfl rfl HT_ ?_; refine pu_ 4 7 rfl rfl HT_ ?_; refine t2_ 5 8 rfl rfl HT_ HW_ hHeld ?_; refine on_ 6 (some 9) rfl rfl HT_ (fun K hK => ?_); refine gs_ Tryz.func28 #[.string a0_1] ?_; refine mo_ (r1_May.calls a0_1 false _ A4.out) ?_; intro w22 hb; replace BK101 := kb_ BK101 hb; replace HB := bs_ HB hb; (try clear hb); refine hk_ hK (fun hHeld => ?_); clear hK K; refine nm_ ?_; refine pu_ 7 10 rfl rfl HT_ ?_; refine pu_ 8 11 rfl rfl HT_ ?_; refine pv_ 9 12 rfl rfl HT_ ?_; refine pv_ 10 13 rfl rfl HT_ ?_; refine pv_ 11 14 rfl rfl HT_ ?_; refine pu_ 12 15 rfl rfl HT_ ?_; refine pu_ 13 16 rfl rfl HT_ ?_; refine pv_ 14 17 rfl rfl HT_ ?_; refine pv_ 15 18 rfl rfl HT_ ?_; refine pv_ 16 19 rfl rfl HT_ ?_; refine pv_ 17 20 rfl rfl HT_ ?_; refine pv_ 18 21 rfl rfl HT_ ?_; refine pv_ 19 22 rfl rfl HT_ ?_; refine pv_ 20 23 rfl rfl HT_ ?_; refine pu_ 21 24 rfl rfl HT_ ?_; refine pu_ 22 2 rfl rfl HT_ ?_; refine done_ (done_of HT_.out (by kernel_rfl)) ?_
   try go_wp2
   go_ret
   exact ⟨er_, b_ HB.out⟩
 ·replace c3 := Bool.eq_false_iff.mpr c3; subst c3; rw [if_neg nf_] at H; obtain rfl := Option.some.inj H; go_enter Tryz.func11, Tryz.ntmps11
  try go_wp2_with (first | ((with_reducible refine gate_dst (N := 1) rfl ?_); refine be_ 1 #[.string a0_0, .string a0_1] 23 ?_; intro gb101 hg w23 hbox hb; have BK101 := Aside0.mk (hbox); have GW101 := ge_ HB hg; have GE101 := ge_ HB hg; replace HB := bs_ HB hb; clear hb hbox hg))
  replace BK101 := Aside0.mk (blk_drew BK101.out); replace HB := Aside0.mk (below_drew1 HB.out); refine sa_ 23 (fun w' => w'.cell? ⟨gb101, 0, none⟩ = some (.string a0_0) ∧ w'.cell? ⟨gb101, 1, none⟩ = some (.string a0_1)) (fun hHeld => ?_); refine with_tabW r3_May.tab1 r3_May.bits1 (fun HT_ HW_ => ?_); generalize w23.drew = w24 at BK101 HB hHeld ⊢; refine pu_ 0 3 rfl rfl HT_ ?_; refine t2_ 1 4 rfl rfl HT_ HW_ hHeld ?_; refine on_ 2 (some 5) rfl rfl HT_ (fun K hK => ?_); refine gs_ Tryz.func27 #[.string a0_0] ?_; refine mo_ (r2_May.calls a0_0 false _ A2.out) ?_; intro w25 hb; replace BK101 := kb_ BK101 hb; replace HB := bs_ HB hb; (try clear hb); refine hk_ hK (fun hHeld => ?_); clear hK K; refine nm_ ?_; refine pu_ 3 6 rfl rfl HT_ ?_; refine pv_ 4 7 rfl rfl HT_ ?_; refine pv_ 5 8 rfl rfl HT_ ?_; refine pv_ 6 9 rfl rfl HT_ ?_; refine pu_ 7 10 rfl rfl HT_ ?_; refine pu_ 8 11 rfl rfl HT_ ?_; refine pv_ 9 12 rfl rfl HT_ ?_; refine pv_ 10 13 rfl rfl HT_ ?_; refine pv_ 11 14 rfl rfl HT_ ?_; refine pu_ 12 15 rfl rfl HT_ ?_; refine pu_ 13 16 rfl rfl HT_ ?_; refine pv_ 14 17 rfl rfl HT_ ?_; refine pv_ 15 18 rfl rfl HT_ ?_; refine pv_ 16 19 rfl rfl HT_ ?_; refine pv_ 17 20 rfl rfl HT_ ?_; refine pv_ 18 21 rfl rfl HT_ ?_; refine pv_ 19 22 rfl rfl HT_ ?_; refine pv_ 20 23 rfl rfl HT_ ?_; refine pu_ 21 24 rfl rfl HT_ ?_; refine pu_ 22 2 rfl rfl HT_ ?_; refine done_ (done_of HT_.out (by kernel_rfl)) ?_
  try go_wp2
  go_ret
  exact ⟨er_, b_ HB.out⟩
end Go.Proofs.YtnhpnnbjimnmlaaGreatDoor.Pz
end

section
namespace Go.Proofs.YtnhpnnbjimnmlaaGreatDoor.Pz
mutual
def r3_Make.j0 : Nat → ByteArray → ByteArray → Bool → Option (ByteArray × ByteArray × Bool)
 | 0, _, _, _ => none
 | k + 1, x0, x1, x24 => if x24 = true then (some ((⟨#[]⟩ : ByteArray), (⟨#[]⟩ : ByteArray), false)) else ((r2_Sign.f x1).bind fun t109 => (if t109 < 0 then ((r2_Neg.f x0).bind fun t110 => ((r2_Neg.f x1).bind fun t111 => (r3_Make.j1 k t110 t111))) else (r3_Make.j1 k x0 x1)))
def r3_Make.j1 : Nat → ByteArray → ByteArray → Option (ByteArray × ByteArray × Bool)
 | 0, _, _ => none
 | k + 1, x0, x1 => (r2_Abs.f x0).bind fun t112 => ((r1_Gcd.f t112 x1).bind fun t113 => ((r2_Div.f x0 t113).bind fun bt114 => ((r2_Div.f x1 t113).bind fun bt117 => (some (bt114.1, bt117.1, true)))))
end
def r3_Make.f (k : Nat) (a0 : ByteArray) (a1 : ByteArray) : Option (ByteArray × ByteArray × Bool) := (r2_May.f a0).bind fun t107 => (if t107 = true then ((r2_May.f a1).bind fun t108 => (if t108 = true then (r3_Make.j0 k a0 a1 (a1.toList == ([48] : List UInt8))) else (r3_Make.j0 k a0 a1 true))) else (r3_Make.j0 k a0 a1 true))
set_option maxHeartbeats 8000000 in
set_option maxRecDepth 100000 in
theorem r3_Make.calls (k : Nat) (a0 : ByteArray) (a1 : ByteArray) (r1 : ByteArray) (r2 : ByteArray) (r3 : Bool) (w : World) (h : r3_Make.f k a0 a1 = some (r1, r2, r3)) :
  Calls Tryz.prog 24 #[.string a0, .string a1] w fun e w' => e = .returned (.tuple #[.agg #[.string r1, .string r2], .bool r3]) ∧ Below w.heap.size w w' := by
 have hu23 := Tryz.underlying23; have HB := Aside0.mk (Below.refl w.heap.size w); have H := h; unfold r3_Make.f at H; clear h; have HC3 := Aside0.mk H; clear H; go_enter Tryz.func24, Tryz.ntmps24
 go_upto_region 1 with (first | ((with_reducible refine gate_dst (N := 4) rfl ?_); refine be_ 4 #[.string (⟨#[]⟩ : ByteArray), .string (⟨#[]⟩ : ByteArray)] 23 ?_; intro gb106 hg w4 hbox hb; have BK106 := Aside0.mk (hbox); have GW106 := ge_ HB hg; have GE106 := ge_ HB hg; replace HB := bs_ HB hb; clear hb hbox hg))
 (try simp only [Act.put, List.setIfInBounds_toArray, List.set_cons_zero, List.set_cons_succ])
 go_cut [24] (fun v24 wc => ∃ (kq : Nat) (x24_2 : Bool), v24 = .bool x24_2 ∧ Aside0 (r3_Make.j0 kq a0 a1 x24_2 = some (r1, r2, r3)) ∧ Aside0 (kq ≤ k) ∧ Aside0 (wc.heap[gb106]? = some (.cells #[.string (⟨#[]⟩ : ByteArray), .string (⟨#[]⟩ : ByteArray)] 23 (0, 0))) ∧ Aside0 (Below w.heap.size w wc))
 case first =>
  have H := HC3.out; clear HC3; obtain ⟨t107, A5, H⟩ := bi_ H; by_cases c6 : t107 = true
  ·subst c6; rw [if_pos rfl] at H; obtain ⟨t108, A7, H⟩ := bi_ H; by_cases c8 : t108 = true
   ·subst c8; rw [if_pos rfl] at H; have H' := Aside0.mk H; clear H
    go_wp2_with (first | (refine gl_ 14 Tryz.func27 #[.string a0] ?_; refine mo_ (r2_May.calls a0 true _ A5.out) ?_; intro w9 hb; replace BK106 := kb_ BK106 hb; replace HB := bs_ HB hb; (try clear hb); (try clear hb2); (try clear hk); (try clear hi)) | (go_at_call 27; (with_reducible refine (r2_May.calls a1 true _ A7.out).mono ?_); rintro e w10 ⟨rfl, hb⟩; replace BK106 := kb_ BK106 hb; replace HB := bs_ HB hb; (try clear hb); (try clear hb2); (try clear hk); (try clear hi)))
    go_meet
    case rel => exact ⟨_, ((a1.toList == ([48] : List UInt8))), rl_, H', ⟨by first | omega | exact Nat.le_refl _⟩, ⟨k_ BK106.out⟩, ⟨b_ HB.out⟩⟩
   ·replace c8 := Bool.eq_false_iff.mpr c8; subst c8; rw [if_neg nf_] at H; have H' := Aside0.mk H; clear H
    go_wp2_with (first | (refine gl_ 14 Tryz.func27 #[.string a0] ?_; refine mo_ (r2_May.calls a0 true _ A5.out) ?_; intro w11 hb; replace BK106 := kb_ BK106 hb; replace HB := bs_ HB hb; (try clear hb); (try clear hb2); (try clear hk); (try clear hi)) | (go_at_call 27; (with_reducible refine (r2_May.calls a1 false _ A7.out).mono ?_); rintro e w12 ⟨rfl, hb⟩; replace BK106 := kb_ BK106 hb; replace HB := bs_ HB hb; (try clear hb); (try clear hb2); (try clear hk); (try clear hi)))
    go_meet
    case rel => exact ⟨_, (true), rl_, H', ⟨by first | omega | exact Nat.le_refl _⟩, ⟨k_ BK106.out⟩, ⟨b_ HB.out⟩⟩
  ·replace c6 := Bool.eq_false_iff.mpr c6; subst c6; rw [if_neg nf_] at H; have H' := Aside0.mk H; clear H
   go_wp2_with (first | (refine gl_ 14 Tryz.func27 #[.string a0] ?_; refine mo_ (r2_May.calls a0 false _ A5.out) ?_; intro w13 hb; replace BK106 := kb_ BK106 hb; replace HB := bs_ HB hb; (try clear hb); (try clear hb2); (try clear hk); (try clear hi)))
   go_meet
   case rel => exact ⟨_, (true), rl_, H', ⟨by first | omega | exact Nat.le_refl _⟩, ⟨k_ BK106.out⟩, ⟨b_ HB.out⟩⟩
 case rest =>
  clear HC3; (try clear c2); (try clear p2); (try clear c6); (try clear c8); obtain ⟨kq, x24_2, rfl, HA, HJ2, BK106, HB⟩ := hcut
  cases kq with
  | zero => exact absurd HA.out (by simp [r3_Make.j0])
  | succ kj2 =>
   have H := HA.out; clear HA; simp only [r3_Make.j0] at H; by_cases c14 : x24_2 = true
   ·subst c14; rw [if_pos rfl] at H; simp only [Option.some.injEq, Prod.mk.injEq] at H; obtain ⟨rfl, rfl, rfl⟩ := H; have hcz15_0 := bc_ BK106 0 rfl; have hcz15_1 := bc_ BK106 1 rfl; have hfz15_0 := blk_frozen BK106.out 0; have hfz15_1 := blk_frozen BK106.out 1; go_wp2; refine bodyPost_ret (results_ct rfl _ _ gb106 23 #[.string (⟨#[]⟩ : ByteArray), .string (⟨#[]⟩ : ByteArray)] (0, 0) _ rfl (rp_ BK106.out) Tryz.underlying23 rfl (by kernel_rfl)) rfl ?_; exact ⟨er_, b_ HB.out⟩
   ·replace c14 := Bool.eq_false_iff.mpr c14; subst c14; rw [if_neg nf_] at H; obtain ⟨t109, A16, H⟩ := bi_ H; have HC17 := Aside0.mk H; clear H
    go_upto_if 28 with (first | (refine gl_ 27 Tryz.func19 #[.string a1] ?_; refine mo_ (r2_Sign.calls a1 t109 _ A16.out) ?_; intro w18 hb; replace BK106 := kb_ BK106 hb; replace HB := bs_ HB hb; (try clear hb); (try clear hb2); (try clear hk); (try clear hi)))
    (try simp only [Act.put, List.setIfInBounds_toArray, List.set_cons_zero, List.set_cons_succ])
    go_cut [0, 1] (fun v0 v1 wc => ∃ (kq : Nat) (x0_16 : ByteArray) (x1_16 : ByteArray), v0 = .string x0_16 ∧ v1 = .string x1_16 ∧ Aside0 (r3_Make.j1 kq x0_16 x1_16 = some (r1, r2, r3)) ∧ Aside0 (kq ≤ kj2) ∧ Aside0 (wc.heap[gb106]? = some (.cells #[.string (⟨#[]⟩ : ByteArray), .string (⟨#[]⟩ : ByteArray)] 23 (0, 0))) ∧ Aside0 (Below w.heap.size w wc))
    case first =>
     have H := HC17.out; clear HC17; by_cases c19 : t109 < 0
     ·rw [if_pos c19] at H; have c19b0 : decide (t109 < 0) = true := decide_eq_true c19; clear c19; (first | rw [c19b0] | (simp only [i64_w, i32_w]; rw [c19b0]) | skip); obtain ⟨t110, A20, H⟩ := bi_ H; obtain ⟨t111, A21, H⟩ := bi_ H; have H' := Aside0.mk H; clear H
      go_wp2_with (first | (refine gl_ 30 Tryz.func26 #[.string a0] ?_; refine mo_ (r2_Neg.calls a0 t110 _ A20.out) ?_; intro w22 hb; replace BK106 := kb_ BK106 hb; replace HB := bs_ HB hb; (try clear hb); (try clear hb2); (try clear hk); (try clear hi)) | (refine gl_ 32 Tryz.func26 #[.string a1] ?_; refine mo_ (r2_Neg.calls a1 t111 _ A21.out) ?_; intro w23 hb; replace BK106 := kb_ BK106 hb; replace HB := bs_ HB hb; (try clear hb); (try clear hb2); (try clear hk); (try clear hi)))
      go_meet
      case rel => exact ⟨_, (t110), (t111), rl_, rl_, H', ⟨by have := HJ2.out; first | omega | exact Nat.le_refl _⟩, ⟨k_ BK106.out⟩, ⟨b_ HB.out⟩⟩
     ·rw [if_neg c19] at H; have c19b0 : decide (t109 < 0) = false := decide_eq_false c19; clear c19; (first | rw [c19b0] | (simp only [i64_w, i32_w]; rw [c19b0]) | skip); have H' := Aside0.mk H; clear H; go_wp2
      go_meet
      case rel => exact ⟨_, (a0), (a1), rl_, rl_, H', ⟨by have := HJ2.out; first | omega | exact Nat.le_refl _⟩, ⟨k_ BK106.out⟩, ⟨b_ HB.out⟩⟩
    case rest =>
     clear HC17; (try clear c1); (try clear c2); (try clear p2); (try clear c6); (try clear c8); (try clear c14); (try clear c19); (try clear c19b0); (try clear hcz15_0); (try clear hcz15_1); (try clear hfz15_0); (try clear hfz15_1); (try clear p2); obtain ⟨kq, x0_16, x1_16, rfl, rfl, HA, HJ16, BK106, HB⟩ := hcut
     cases kq with
     | zero => exact absurd HA.out (by simp [r3_Make.j1])
     | succ kj16 =>
      have H := HA.out; clear HA; simp only [r3_Make.j1] at H; obtain ⟨t112, A24, H⟩ := bi_ H; obtain ⟨t113, A25, H⟩ := bi_ H; obtain ⟨⟨t114, t115, t116⟩, A26, H⟩ := bi_ H; (try dsimp only at H); obtain ⟨⟨t117, t118, t119⟩, A27, H⟩ := bi_ H; (try dsimp only at H); simp only [Option.some.injEq, Prod.mk.injEq] at H; obtain ⟨rfl, rfl, rfl⟩ := H
      go_wp2_with (first | (refine gl_ 34 Tryz.func30 #[.string x0_16] ?_; refine mo_ (r2_Abs.calls x0_16 t112 _ A24.out) ?_; intro w28 hb; replace BK106 := kb_ BK106 hb; replace HB := bs_ HB hb; (try clear hb); (try clear hb2); (try clear hk); (try clear hi)) | (refine gl_ 36 Tryz.func29 #[.string t112, .string x1_16] ?_; refine mo_ (r1_Gcd.calls t112 x1_16 t113 _ A25.out) ?_; intro w29 hb; replace BK106 := kb_ BK106 hb; replace HB := bs_ HB hb; (try clear hb); (try clear hb2); (try clear hk); (try clear hi)) | (refine gl_ 40 Tryz.func45 #[.string x0_16, .string t113] ?_; refine mo_ (r2_Div.calls x0_16 t113 t114 t115 t116 _ A26.out) ?_; intro w30 hb; replace BK106 := kb_ BK106 hb; replace HB := bs_ HB hb; (try clear hb); (try clear hb2); (try clear hk); (try clear hi)) | (refine gl_ 47 Tryz.func45 #[.string x1_16, .string t113] ?_; refine mo_ (r2_Div.calls x1_16 t113 t117 t118 t119 _ A27.out) ?_; intro w31 hb; replace BK106 := kb_ BK106 hb; replace HB := bs_ HB hb; (try clear hb); (try clear hb2); (try clear hk); (try clear hi); have hcz32_0 := bc_ BK106 0 rfl; have hcz32_1 := bc_ BK106 1 rfl; have hfz32_0 := blk_frozen BK106.out 0; have hfz32_1 := blk_frozen BK106.out 1))
      refine bodyPost_ret (results_ct rfl _ _ gb106 23 #[.string t114, .string t117] (0, 0) _ rfl (rp_ BK106.out) Tryz.underlying23 rfl (by kernel_rfl)) rfl ?_; exact ⟨er_, b_ HB.out⟩
def r3_Of.f (a0 : Int) : Option (ByteArray × ByteArray) := (r2_Of.f a0).bind fun t121 => (some (t121, (⟨#[49]⟩ : ByteArray)))
set_option maxHeartbeats 8000000 in
set_option maxRecDepth 100000 in
theorem r3_Of.calls (a0 : Int) (r1 : ByteArray) (r2 : ByteArray) (w : World) (h : r3_Of.f a0 = some (r1, r2)) :
  Calls Tryz.prog 17 #[.int .i64 a0] w fun e w' => e = .returned (.agg #[.string r1, .string r2]) ∧ Below w.heap.size w w' := by
 have hu23 := Tryz.underlying23; have HB := Aside0.mk (Below.refl w.heap.size w); have H := h; unfold r3_Of.f at H; clear h; obtain ⟨t121, A2, H⟩ := bi_ H; simp only [Option.some.injEq, Prod.mk.injEq] at H; obtain ⟨rfl, rfl⟩ := H; go_enter Tryz.func17, Tryz.ntmps17
 go_wp2_with (first | ((with_reducible refine gate_dst (N := 2) rfl ?_); refine be_ 2 #[.string (⟨#[]⟩ : ByteArray), .string (⟨#[]⟩ : ByteArray)] 23 ?_; intro gb120 hg w3 hbox hb; have BK120 := Aside0.mk (hbox); have GW120 := ge_ HB hg; have GE120 := ge_ HB hg; replace HB := bs_ HB hb; clear hb hbox hg) | (refine gl_ 4 Tryz.func37 #[.int .i64 a0] ?_; refine mo_ (r2_Of.calls a0 t121 _ A2.out) ?_; intro w4 hb; replace BK120 := kb_ BK120 hb; replace HB := bs_ HB hb; (try clear hb); (try clear hb2); (try clear hk); (try clear hi); have hcz5_0 := bc_ BK120 0 rfl; have hcz5_1 := bc_ BK120 1 rfl; have hfz5_0 := blk_frozen BK120.out 0; have hfz5_1 := blk_frozen BK120.out 1))
 refine bodyPost_ret (results_cell_row rfl _ _ gb120 23 #[.string t121, .string (⟨#[49]⟩ : ByteArray)] (0, 0) _ rfl (rp_ BK120.out) Tryz.underlying23 rfl (by kernel_rfl)) rfl ?_; exact ⟨er_, b_ HB.out⟩
def r3_Sign.f (a0_0 : ByteArray) (a0_1 : ByteArray) : Option (Int) := (r3_May.f a0_0 a0_1).bind fun t123 => (if t123 = true then ((r2_Sign.f a0_0).bind fun t124 => (some t124)) else (some 0))
set_option maxHeartbeats 8000000 in
set_option maxRecDepth 100000 in
theorem r3_Sign.calls (a0_0 : ByteArray) (a0_1 : ByteArray) (r : Int) (w : World) (h : r3_Sign.f a0_0 a0_1 = some r) :
  Calls Tryz.prog 6 #[.agg #[.string a0_0, .string a0_1]] w fun e w' => e = .returned (.int .i64 r) ∧ Below w.heap.size w w' := by
 have hu23 := Tryz.underlying23; have HB := Aside0.mk (Below.refl w.heap.size w); have H := h; unfold r3_Sign.f at H; clear h; obtain ⟨t123, A2, H⟩ := bi_ H; by_cases c3 : t123 = true
 ·subst c3; rw [if_pos rfl] at H; obtain ⟨t124, A4, H⟩ := bi_ H; obtain rfl := Option.some.inj H; go_enter Tryz.func6, Tryz.ntmps6
  go_wp2_with (first | ((with_reducible refine gate_dst (N := 1) rfl ?_); refine be_ 1 #[.string a0_0, .string a0_1] 23 ?_; intro gb122 hg w5 hbox hb; have BK122 := Aside0.mk (hbox); have GW122 := ge_ HB hg; have GE122 := ge_ HB hg; replace HB := bs_ HB hb; clear hb hbox hg; have hcz6_0 := bc_ BK122 0 rfl; have hcz6_1 := bc_ BK122 1 rfl; have hfz6_0 := blk_frozen BK122.out 0; have hfz6_1 := blk_frozen BK122.out 1) | (refine gl_ 4 Tryz.func11 #[.agg #[.string a0_0, .string a0_1]] ?_; refine mo_ (r3_May.calls a0_0 a0_1 true _ A2.out) ?_; intro w7 hb; replace BK122 := kb_ BK122 hb; replace HB := bs_ HB hb; (try clear hb); (try clear hb2); (try clear hk); (try clear hi); have hcz8_0 := bc_ BK122 0 rfl; have hcz8_1 := bc_ BK122 1 rfl; have hfz8_0 := blk_frozen BK122.out 0; have hfz8_1 := blk_frozen BK122.out 1) | (refine gl_ 8 Tryz.func19 #[.string a0_0] ?_; refine mo_ (r2_Sign.calls a0_0 t124 _ A4.out) ?_; intro w9 hb; replace BK122 := kb_ BK122 hb; replace HB := bs_ HB hb; (try clear hb); (try clear hb2); (try clear hk); (try clear hi)))
  go_ret
  exact ⟨er_, b_ HB.out⟩
 ·replace c3 := Bool.eq_false_iff.mpr c3; subst c3; rw [if_neg nf_] at H; obtain rfl := Option.some.inj H; go_enter Tryz.func6, Tryz.ntmps6
  go_wp2_with (first | ((with_reducible refine gate_dst (N := 1) rfl ?_); refine be_ 1 #[.string a0_0, .string a0_1] 23 ?_; intro gb122 hg w10 hbox hb; have BK122 := Aside0.mk (hbox); have GW122 := ge_ HB hg; have GE122 := ge_ HB hg; replace HB := bs_ HB hb; clear hb hbox hg; have hcz11_0 := bc_ BK122 0 rfl; have hcz11_1 := bc_ BK122 1 rfl; have hfz11_0 := blk_frozen BK122.out 0; have hfz11_1 := blk_frozen BK122.out 1) | (refine gl_ 4 Tryz.func11 #[.agg #[.string a0_0, .string a0_1]] ?_; refine mo_ (r3_May.calls a0_0 a0_1 false _ A2.out) ?_; intro w12 hb; replace BK122 := kb_ BK122 hb; replace HB := bs_ HB hb; (try clear hb); (try clear hb2); (try clear hk); (try clear hi)))
  go_ret
  exact ⟨er_, b_ HB.out⟩
def r3_Neg.f (a0_0 : ByteArray) (a0_1 : ByteArray) : Option (ByteArray × ByteArray) := (r3_May.f a0_0 a0_1).bind fun t127 => (if t127 = true then ((r2_Neg.f a0_0).bind fun t128 => (some (t128, a0_1))) else (some ((⟨#[]⟩ : ByteArray), (⟨#[]⟩ : ByteArray))))
set_option maxHeartbeats 8000000 in
set_option maxRecDepth 100000 in
theorem r3_Neg.calls (a0_0 : ByteArray) (a0_1 : ByteArray) (r1 : ByteArray) (r2 : ByteArray) (w : World) (h : r3_Neg.f a0_0 a0_1 = some (r1, r2)) :
  Calls Tryz.prog 10 #[.agg #[.string a0_0, .string a0_1]] w fun e w' => e = .returned (.agg #[.string r1, .string r2]) ∧ Below w.heap.size w w' := by
 have hu23 := Tryz.underlying23; have HB := Aside0.mk (Below.refl w.heap.size w); have H := h; unfold r3_Neg.f at H; clear h; obtain ⟨t127, A2, H⟩ := bi_ H; by_cases c3 : t127 = true
 ·subst c3; rw [if_pos rfl] at H; obtain ⟨t128, A4, H⟩ := bi_ H; simp only [Option.some.injEq, Prod.mk.injEq] at H; obtain ⟨rfl, rfl⟩ := H; go_enter Tryz.func10, Tryz.ntmps10
  try go_wp2_with (first | ((with_reducible refine gate_dst (N := 1) rfl ?_); refine be_ 1 #[.string a0_0, .string a0_1] 23 ?_; intro gb125 hg w5 hbox hb; have BK125 := Aside0.mk (hbox); have GW125 := ge_ HB hg; have GE125 := ge_ HB hg; replace HB := bs_ HB hb; clear hb hbox hg) | ((with_reducible refine gate_dst (N := 2) rfl ?_); refine be_ 2 #[.string (⟨#[]⟩ : ByteArray), .string (⟨#[]⟩ : ByteArray)] 23 ?_; intro gb126 hg w6 hbox hb; have BK126 := Aside0.mk (hbox); have GW126 := ge_ HB hg; have GE126 := ge_ HB hg; have NB125_126 := nl_ BK125 hg; have NB126_125 := ng_ BK125 hg; replace BK125 := kb_ BK125 hb; replace HB := bs_ HB hb; clear hb hbox hg; have hnb7 := NB125_126.out; have hnc7 := NB126_125.out; have hcz8_0 := bc_ BK125 0 rfl; have hcz8_1 := bc_ BK125 1 rfl; have hfz8_0 := blk_frozen BK125.out 0; have hfz8_1 := blk_frozen BK125.out 1) | (refine gl_ 4 Tryz.func11 #[.agg #[.string a0_0, .string a0_1]] ?_; refine mo_ (r3_May.calls a0_0 a0_1 true _ A2.out) ?_; intro w9 hb; replace BK125 := kb_ BK125 hb; replace BK126 := kb_ BK126 hb; replace HB := bs_ HB hb; (try clear hb); (try clear hb2); (try clear hk); (try clear hi)))
  replace BK125 := Aside0.mk (blk_drew BK125.out); replace BK126 := Aside0.mk (blk_drew BK126.out); replace HB := Aside0.mk (below_drew1 HB.out); refine sa_ 7 (fun w' => w'.cell? ⟨gb125, 0, none⟩ = some (.string a0_0) ∧ w'.cell? ⟨gb125, 1, none⟩ = some (.string a0_1)) (fun hHeld => ?_); generalize w9.drew = w10 at BK125 BK126 HB hHeld ⊢; refine pure_ (i := 0) (N := some 7) (v := ?_) (a' := ?_) #[true, false, false, false, false, false, false] rfl rfl (by kernel_rfl) (fun _ _ _ h => h) (Or.inl ⟨by rfl, ?_⟩) ?_ ?_; rotate_left
  ·intro w'; go_simp; with_reducible rfl
  rotate_left
  ·exact ap_
  refine pure_ (i := 3) (N := some 10) (v := ?_) (a' := ?_) #[true, false, false, true, false, false, false] rfl rfl (by kernel_rfl) (fun _ _ _ h => h) (Or.inl ⟨by rfl, ?_⟩) ?_ ?_; rotate_left
  ·intro w'; go_simp; with_reducible rfl
  rotate_left
  ·exact ap_
  refine take_ (i := 1) (N := some 8) (v := ?_) (a' := ?_) #[true, true, false, true, false, false, false] rfl rfl (by kernel_rfl) (fun _ _ _ h => h) (Or.inl ⟨by rfl, ?_⟩) hHeld ?_ ?_; rotate_left
  ·rintro w' ⟨s0, s1⟩; go_simp; with_reducible rfl
  rotate_left
  ·exact ap_
  refine take_ (i := 4) (N := some 11) (v := ?_) (a' := ?_) #[true, true, false, true, true, false, false] rfl rfl (by kernel_rfl) (fun _ _ _ h => h) (Or.inl ⟨by rfl, ?_⟩) hHeld ?_ ?_; rotate_left
  ·rintro w' ⟨s0, s1⟩; go_simp; with_reducible rfl
  rotate_left
  ·exact ap_
  refine one_ (i := 2) (N := some 9) #[true, true, true, true, true, false, false] rfl rfl (by kernel_rfl) (by decide) (fun K hK => ?_); refine gs_ Tryz.func26 #[.string a0_0] ?_; refine mo_ (r2_Neg.calls a0_0 t128 _ A4.out) ?_; intro w11 hb; replace BK125 := kb_ BK125 hb; replace BK126 := kb_ BK126 hb; replace HB := bs_ HB hb; (try clear hb); refine hk_ hK (fun hHeld => ?_); clear hK K; refine nm_ ?_; refine pure_ (i := 5) (N := some 12) (v := ?_) (a' := ?_) #[true, true, true, true, true, true, false] rfl rfl (by kernel_rfl) (fun _ _ _ h => h) (Or.inl ⟨by rfl, ?_⟩) ?_ ?_; rotate_left
  ·intro w'; go_simp; with_reducible rfl
  rotate_left
  ·exact ap_
  refine one_ (i := 6) (N := none) #[true, true, true, true, true, true, true] rfl rfl (by kernel_rfl) (by decide) (fun K hK => ?_); have hs12 := bc_ BK126 0 rfl; have hfs12 := blk_frozen BK126.out 0; have hns12_0 := NB125_126.out; have hms12_0 := NB126_125.out; have hs13 := bc_ BK126 1 rfl; have hfs13 := blk_frozen BK126.out 1; have hns13_0 := NB125_126.out; have hms13_0 := NB126_125.out; refine skip_ (w1 := ?_) (by rfl) rfl ?_ ?_; rotate_left
  ·go_simp
   rfl
  refine hf_ hK hHeld (fun hHeld => ?_); clear hK K; refine done_ (by kernel_rfl) ?_
  try go_wp2
  refine bodyPost_ret (results_cell_row rfl _ _ gb126 23 #[.string t128, .string a0_1] (0, 0) _ rfl (rp_ BK126.out) Tryz.underlying23 rfl (by kernel_rfl)) rfl ?_; exact ⟨er_, b_ HB.out⟩
 ·replace c3 := Bool.eq_false_iff.mpr c3; subst c3; rw [if_neg nf_] at H; simp only [Option.some.injEq, Prod.mk.injEq] at H; obtain ⟨rfl, rfl⟩ := H; go_enter Tryz.func10, Tryz.ntmps10
  go_wp2_with (first | ((with_reducible refine gate_dst (N := 1) rfl ?_); refine be_ 1 #[.string a0_0, .string a0_1] 23 ?_; intro gb125 hg w14 hbox hb; have BK125 := Aside0.mk (hbox); have GW125 := ge_ HB hg; have GE125 := ge_ HB hg; replace HB := bs_ HB hb; clear hb hbox hg) | ((with_reducible refine gate_dst (N := 2) rfl ?_); refine be_ 2 #[.string (⟨#[]⟩ : ByteArray), .string (⟨#[]⟩ : ByteArray)] 23 ?_; intro gb126 hg w15 hbox hb; have BK126 := Aside0.mk (hbox); have GW126 := ge_ HB hg; have GE126 := ge_ HB hg; have NB125_126 := nl_ BK125 hg; have NB126_125 := ng_ BK125 hg; replace BK125 := kb_ BK125 hb; replace HB := bs_ HB hb; clear hb hbox hg; have hnb16 := NB125_126.out; have hnc16 := NB126_125.out; have hcz17_0 := bc_ BK125 0 rfl; have hcz17_1 := bc_ BK125 1 rfl; have hfz17_0 := blk_frozen BK125.out 0; have hfz17_1 := blk_frozen BK125.out 1) | (refine gl_ 4 Tryz.func11 #[.agg #[.string a0_0, .string a0_1]] ?_; refine mo_ (r3_May.calls a0_0 a0_1 false _ A2.out) ?_; intro w18 hb; replace BK125 := kb_ BK125 hb; replace BK126 := kb_ BK126 hb; replace HB := bs_ HB hb; (try clear hb); (try clear hb2); (try clear hk); (try clear hi); have hcz19_0 := bc_ BK126 0 rfl; have hcz19_1 := bc_ BK126 1 rfl; have hfz19_0 := blk_frozen BK126.out 0; have hfz19_1 := blk_frozen BK126.out 1))
  refine bodyPost_ret (results_cell_row rfl _ _ gb126 23 #[.string (⟨#[]⟩ : ByteArray), .string (⟨#[]⟩ : ByteArray)] (0, 0) _ rfl (rp_ BK126.out) Tryz.underlying23 rfl (by kernel_rfl)) rfl ?_; exact ⟨er_, b_ HB.out⟩
end Go.Proofs.YtnhpnnbjimnmlaaGreatDoor.Pz
end
