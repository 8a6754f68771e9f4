/-
Parts of the proof, in build order: RefDiv, RefDone, Px0, Px1, Px2, Px, Ref2May, PuCom, NumW, Ref2Done, Pf0, Pf1, Pf, Fixed2, Rowb.
-/
import Derived.Test.YtmkmldkfaehefaaGreatDoorD3
import Derived.Test.YtmkmldkfaehefaaGreatDoorProg
import Derived.Below
import Derived.Deep.Draws
import Derived.Deep.AppendLies
import Derived.Maps.AppendAt
import Derived.OwnWalk
import Derived.Laws.BytesArg
import Derived.Laws.MakeOwn
import Derived.Laws.OwnMore
import Derived.Deep.OwnRows
import Derived.Tactics
import Derived.Lib.ConvBytes
import Derived.Laws.Slices
import Derived.WalkKit
import Derived.KernelRfl
import Derived.RowKit3
import Derived.Deep.LoopGhost
import Derived.Deep.QuietTactic
import Derived.BigQuiet
import Derived.WideLaws
import Derived.Deep.DeepCutAuto
import Derived.Deep.CutBlock
import Derived.Deep.RegionHeld3
import Derived.Laws.Rows
import Derived.Lib.AppendStr
import Derived.ArgAppend
import Derived.Laws.IdiomCopy
import Derived.OrdersHeld
import Derived.Laws.BitsLemmas
import Derived.RowKit
import Derived.Test.YtmkmldkfaehefaaGreatDoorD0
import Derived.Test.YtmkmldkfaehefaaGreatDoorD1
import Derived.Test.YtmkmldkfaehefaaGreatDoorD2
import Derived.Test.YtmkmldkfaehefaaGreatDoorRows
import Derived.ProofKit
import Derived.OpenShut
import Derived.ShutString
import Derived.ChangeOld
import Derived.SizedLaws
import Derived.LaidMore
import Derived.LaidHandle
import Derived.MakeChecks
import Derived.Lib.LaidTab
import Derived.Stop.LaidErr
import Derived.Stop.Joined
import Derived.RowKitTokens
import Derived.JoinedOf
import Derived.JoinedAt
import Derived.ChangeVars
import Derived.ChangeSame
import Derived.LaidLaws
set_option linter.unusedVariables false
set_option linter.unusedSimpArgs false
open Go.RowKit Go.Proofs.YtmkmldkfaehefaaGreatDoorW.PrintWords Go.Proofs.YtmkmldkfaehefaaGreatDoorW.PrintLast Go.Proofs.YtmkmldkfaehefaaGreatDoorW.PrintMore
section
namespace Go.Proofs.YtmkmldkfaehefaaGreatDoor
def tenB : ByteArray := ⟨#[48, 49, 50, 51, 52, 53, 54, 55, 56, 57]⟩
theorem ten_cut {d : Nat} (h : d < 10) : (tenB.extract d (d + 1)).data.toList = [UInt8.ofNat (48 + d)] := by
 rcases (by omega : d = 0 ∨ d = 1 ∨ d = 2 ∨ d = 3 ∨ d = 4 ∨ d = 5 ∨ d = 6 ∨ d = 7 ∨ d = 8 ∨ d = 9) with rfl | rfl | rfl | rfl | rfl | rfl | rfl | rfl | rfl | rfl <;> rfl
theorem ten_cut_size {d : Nat} (h : d < 10) : (tenB.extract d (d + 1)).size = 1 := by rw [size_len, ten_cut h]; rfl
theorem rof_loop : ∀ (n : Nat) (s : ByteArray) (k : Nat), n + 1 ≤ k → n ≤ 9223372036854775807 → s.size + n / 2 ≤ 5000000000000000000 → Pq.r1_Of.l0 k (n : Int) s = some ⟨(Lib.decDigits n ++ s.data.toList).toArray⟩
 | n, s, k, hk, hn, hs => by
  obtain ⟨k, rfl⟩ : ∃ m, k = m + 1 := ⟨k - 1, by omega⟩
  simp only [Pq.r1_Of.l0]
  by_cases h : n < 10
  ·rw [if_neg (by omega), if_pos (by omega), w64 (x := (n : Int) + 1) (by omega) (by omega), if_pos (by omega), if_pos (by omega)]
   have e : ((n : Int) + 1).toNat = n + 1 := by omega
   rw [e, Int.toNat_natCast]
   have h1 := ten_cut_size h
   unfold tenB at h1
   rw [if_pos (by rw [h1]; omega)]
   congr 1
   apply bmk
   rw [Joins.data_append, dig_small h]
   have h2 := ten_cut h
   unfold tenB at h2
   rw [h2]
  ·rw [if_pos (by omega), Int.tmod_eq_emod_of_nonneg (by omega), Int.tdiv_eq_ediv_of_nonneg (by omega)]
   have e1 : (n : Int) % 10 = ((n % 10 : Nat) : Int) := by omega
   have e2 : (n : Int) / 10 = ((n / 10 : Nat) : Int) := by omega
   rw [e1, e2]
   clear e1 e2
   obtain ⟨d, hd⟩ : ∃ d, n % 10 = d := ⟨_, rfl⟩
   have hd10 : d < 10 := by omega
   obtain ⟨q, hq⟩ : ∃ q, n / 10 = q := ⟨_, rfl⟩
   have hq1 : q + 1 ≤ n := by omega
   have hq2 : q < n := by omega
   have hq3 : q / 2 + 1 ≤ n / 2 := by omega
   rw [hd, hq]
   have HD := Lib.hid hd
   have HQ := Lib.hid hq
   clear hd hq
   rw [if_pos (by omega), w64 (x := (d : Int) + 1) (by omega) (by omega), if_pos (by omega), if_pos (by omega)]
   have e : ((d : Int) + 1).toNat = d + 1 := by omega
   rw [e, Int.toNat_natCast]
   have h1 := ten_cut_size hd10
   unfold tenB at h1
   rw [if_pos (by rw [h1]; omega), w64 (x := (q : Int)) (by omega) (by omega)]
   have hsz : (((⟨#[48, 49, 50, 51, 52, 53, 54, 55, 56, 57]⟩ : ByteArray).extract d (d + 1)) ++ s).size = s.size + 1 := by rw [ByteArray.size_append, h1]; omega
   rw [rof_loop q _ k (by omega) (by omega) (by rw [hsz]; omega)]
   congr 1
   rw [dig_big h, HD.out, HQ.out, Joins.data_append]
   have h2 := ten_cut hd10
   unfold tenB at h2
   rw [h2, List.append_assoc]
 termination_by n => n
 decreasing_by exact hq2
theorem rof_f (n : Int) (h1 : n ≤ 9223372036854775807) (k : Nat) (hk : n.toNat + 1 ≤ k) : Pq.r1_Of.f k n = some (ofS n) := by
 unfold Pq.r1_Of.f ofS
 by_cases h : n < 0
 ·rw [if_pos h, if_pos h]
  rfl
 ·rw [if_neg h, if_neg h]
  obtain ⟨m, rfl⟩ := Int.eq_ofNat_of_zero_le (show 0 ≤ n by omega)
  rw [Int.toNat_natCast] at hk ⊢
  have h0 : (⟨#[]⟩ : ByteArray).size = 0 := rfl
  rw [rof_loop m _ k hk (by omega) (by rw [h0]; omega)]
  unfold natB
  simp
theorem push_f {R : Nat} {c : UInt8} (hc : isDig c = true) (t : ByteArray) (ht : t.data.toList = [c]) (k : Nat) (hsz : (natB R).size ≤ 1000000000) (hk : (natB R).size + 2 ≤ k) : Pq.r1_trim.f k (natB R ++ t) = some (natB (R * 10 + (c.toNat - 48))) := by
 have hl : (natB R ++ t).data.toList = Lib.decDigits R ++ [c] := by rw [Joins.data_append, natB_list, ht]
 have hs : (natB R ++ t).size = (natB R).size + 1 := by
  rw [size_len, hl, List.length_append, natB_size]
  rfl
 have h1 := trim_f (natB R ++ t) (by omega) k (by omega) (by rw [hl]; simp) (by rw [hl, List.all_append, dig_all]; simp [hc])
 rw [h1]
 unfold numB
 rw [hl, num_snoc, num_dig]
theorem rdiv_inner {a b q : ByteArray} {i : Nat} {N : Nat} (hN : N ≤ 50000) (hb : mayB b = true) (hbs : b.size ≤ N) (hB : 0 < numB b) (hqs : q.size ≤ N) {R0 : Nat} (hR0 : R0 < 10 * numB b) {need : Nat} {X : Option (ByteArray × ByteArray × Bool)} (hi : i ≤ N)
  (H : ∀ (k : Nat), need ≤ k → Pq.r1_Div.l0 k a b (q ++ tenB.extract (R0 / numB b) (R0 / numB b + 1)) (natB (R0 % numB b)) ((i + 1 : Nat) : Int) = X) :
  ∀ (e R d : Nat), R / numB b = e → R = R0 - d * numB b → d * numB b ≤ R0 → ∀ k, need + e + 1 ≤ k → 2 * N + 20 ≤ need → Pq.r1_Div.l1 k a b q (natB R) (i : Int) (d : Int) = X
 | 0, R, d, he, hR, hd, k, hk, hneed => by
  obtain ⟨k, rfl⟩ : ∃ m, k = m + 1 := ⟨k - 1, by omega⟩
  have hlt : R < numB b := by
   rcases Nat.lt_or_ge R (numB b) with h | h
   ·exact h
   ·have := Nat.div_pos h hB
    omega
  have hsz := natB_le hb (Nat.le_of_lt hlt)
  simp only [Pq.r1_Div.l1]
  rw [rcmp_f (N := N) (by omega) (by omega) hbs _ (by omega), Option.bind_some]
  have hc : cmpS (natB R) b = -1 := by
   unfold cmpS
   rw [if_pos (may2_eq (mayB_natB R) hb), numB_natB, cmpI_lt hlt]
  have hd10 : d < 10 := by
   have h1 : d * numB b < 10 * numB b := by omega
   exact Nat.lt_of_mul_lt_mul_right h1
  have hq : R0 / numB b = d := by
   have e1 : R0 = R + numB b * d := by rw [Nat.mul_comm (numB b) d]; omega
   rw [e1, Nat.add_mul_div_left _ _ hB, Nat.div_eq_of_lt hlt, Nat.zero_add]
  have hr : R0 % numB b = R := by
   have e1 : R0 = R + numB b * d := by rw [Nat.mul_comm (numB b) d]; omega
   rw [e1, Nat.add_mul_mod_self_left, Nat.mod_eq_of_lt hlt]
  rw [hq, hr] at H
  have h1 := ten_cut_size hd10
  rw [hc, if_neg (by decide), if_pos (by omega), w64 (x := (d : Int) + 1) (by omega) (by omega), if_pos (by omega), if_pos (by omega)]
  have e : ((d : Int) + 1).toNat = d + 1 := by omega
  rw [e, Int.toNat_natCast]
  have h1' := h1
  unfold tenB at h1'
  rw [if_pos (by rw [h1']; omega), w64 (x := (i : Int) + 1) (by omega) (by omega), show ((i : Int) + 1) = ((i + 1 : Nat) : Int) by omega]
  exact H k (by omega)
 | e + 1, R, d, he, hR, hd, k, hk, hneed => by
  obtain ⟨k, rfl⟩ : ∃ m, k = m + 1 := ⟨k - 1, by omega⟩
  have hge : numB b ≤ R := by
   rcases Nat.lt_or_ge R (numB b) with h | h
   ·rw [Nat.div_eq_of_lt h] at he
    omega
   ·exact h
  have hsz : (natB R).size ≤ N + 1 := by
   rw [natB_size]
   have h1 := num_lt (may_all hb)
   rw [← size_len] at h1
   have h2 : (10 : Nat) ^ b.size ≤ 10 ^ N := Nat.pow_le_pow_right (by omega) hbs
   apply dig_len_le _ (by omega)
   rw [Nat.pow_succ]
   unfold numB at hR0
   omega
  simp only [Pq.r1_Div.l1]
  rw [rcmp_f (N := N + 1) (by omega) hsz (by omega) _ (by omega), Option.bind_some]
  have hc : ¬ cmpS (natB R) b < 0 := by
   unfold cmpS
   rw [if_pos (may2_eq (mayB_natB R) hb), numB_natB, cmpI_neg]
   omega
  have hs : subS (natB R) b = (natB (R - numB b), true) := by
   unfold subS
   rw [numB_natB, if_pos (by rw [may2_eq (mayB_natB R) hb, decide_eq_true hge]; rfl)]
  rw [if_pos (by omega), rsub_f (N := N + 1) (by omega) hsz (by omega) _ (by omega), Option.bind_some, hs]
  have hd10 : d < 10 := by
   have h1 : d * numB b < 10 * numB b := by omega
   exact Nat.lt_of_mul_lt_mul_right h1
  rw [w64 (x := (d : Int) + 1) (by omega) (by omega), show ((d : Int) + 1) = ((d + 1 : Nat) : Int) by omega]
  have e1 : (d + 1) * numB b = d * numB b + numB b := by rw [Nat.add_mul, Nat.one_mul]
  refine rdiv_inner hN hb hbs hB hqs hR0 hi H e (R - numB b) (d + 1) ?_ (by omega) (by omega) k (by omega) hneed
  have e2 : R = (R - numB b) + numB b := by omega
  rw [e2, Nat.add_div_right _ hB] at he
  omega
theorem rdiv_loop {a b : ByteArray} {N : Nat} (hN : N ≤ 50000) (ha : mayB a = true) (hb : mayB b = true) (has : a.size ≤ N) (hbs : b.size ≤ N) (hB : 0 < numB b) :
  ∀ (e i : Nat), i + e = a.size → ∀ (q : ByteArray) (R k : Nat), e * 20 + 2 * N + 30 ≤ k → q.size = i → q.data.toList.all isDig = true → R < numB b → num q.data.toList * numB b + R = num (a.data.toList.take i) →
   Pq.r1_Div.l0 k a b q (natB R) (i : Int) = some (natB (numB a / numB b), natB (numB a % numB b), true)
 | 0, i, hi, q, R, k, hk, hq, hqd, hR, hv => by
  obtain ⟨k, rfl⟩ : ∃ m, k = m + 1 := ⟨k - 1, by omega⟩
  simp only [Pq.r1_Div.l0]
  have hpos := may_pos ha
  rw [if_neg (by omega), trim_f q (by omega) k (by omega) (by intro h; have := congrArg List.length h; rw [← size_len, List.length_nil] at this; omega) hqd, Option.bind_some]
  rw [List.take_of_length_le (by rw [← size_len]; omega)] at hv
  have e1 : numB a = R + numB b * numB q := by unfold numB at hv ⊢; rw [← hv, Nat.mul_comm (num b.data.toList)]; omega
  rw [e1, Nat.add_mul_div_left _ _ hB, Nat.div_eq_of_lt hR, Nat.zero_add, Nat.add_mul_mod_self_left, Nat.mod_eq_of_lt hR]
 | e + 1, i, hi, q, R, k, hk, hq, hqd, hR, hv => by
  obtain ⟨k, rfl⟩ : ∃ m, k = m + 1 := ⟨k - 1, by omega⟩
  obtain ⟨c, hc, _⟩ := bt_get a i (by omega)
  have hcd := List.all_eq_true.1 (may_all ha) c (List.mem_of_getElem? hc)
  have hcb := isDig_bounds hcd
  have hil : i < a.data.toList.length := by rw [← size_len]; omega
  have hcc : a.data.toList[i] = c := by
   rw [List.getElem?_eq_getElem hil] at hc
   exact Option.some.inj hc
  have hx : (a.extract i (i + 1)).data.toList = [c] := by
   rw [Lib.extract_data, List.drop_eq_getElem_cons hil, hcc, Nat.add_sub_cancel_left]
   rfl
  have hxs : (a.extract i (i + 1)).size = 1 := by rw [size_len, hx]; rfl
  have hsz := natB_le hb (Nat.le_of_lt hR)
  simp only [Pq.r1_Div.l0]
  rw [if_pos (by omega), if_pos (by omega), w64 (x := (i : Int) + 1) (by omega) (by omega), if_pos (by omega), if_pos (by omega)]
  have e0 : ((i : Int) + 1).toNat = i + 1 := by omega
  rw [e0, Int.toNat_natCast, if_pos (by rw [hxs]; omega), push_f hcd _ hx k (by omega) (by omega), Option.bind_some]
  have hR0 : R * 10 + (c.toNat - 48) < 10 * numB b := by omega
  have hdm := Nat.div_add_mod (R * 10 + (c.toNat - 48)) (numB b)
  have hml := Nat.mod_lt (R * 10 + (c.toNat - 48)) hB
  have hd10 : (R * 10 + (c.toNat - 48)) / numB b < 10 := Nat.div_lt_of_lt_mul (by rw [Nat.mul_comm (numB b)]; exact hR0)
  have hnum : num (a.data.toList.take (i + 1)) = num (a.data.toList.take i) * 10 + (c.toNat - 48) := by
   rw [List.take_succ_eq_append_getElem hil, hcc, num_snoc]
  obtain ⟨R0, hR0e⟩ : ∃ z, R * 10 + (c.toNat - 48) = z := ⟨_, rfl⟩
  rw [hR0e] at hR0 hdm hml hd10 ⊢
  have hcut := ten_cut hd10
  have hcuts := ten_cut_size hd10
  have hdig : isDig (UInt8.ofNat (48 + R0 / numB b)) = true := isDig_ofNat hd10
  have hdn := ofNat_dig hd10
  refine rdiv_inner (N := N) (need := e * 20 + 2 * N + 30) hN hb hbs hB (by omega) hR0 (by omega) ?_ (R0 / numB b) R0 0 rfl (by omega) (by omega) k (by omega) (by omega)
  intro k' hk'
  refine rdiv_loop hN ha hb has hbs hB e (i + 1) (by omega) _ _ k' hk' ?_ ?_ hml ?_
  ·rw [ByteArray.size_append, hcuts, hq]
  ·rw [Joins.data_append, hcut, List.all_append, hqd, List.all_cons, hdig]
   rfl
  ·rw [Joins.data_append, hcut, num_snoc, hnum, ← hv, hdn]
   rw [Nat.add_sub_cancel_left]
   generalize R0 / numB b = d at *
   generalize R0 % numB b = r at *
   generalize num q.data.toList = Q at *
   generalize numB b = B at *
   have e3 : (Q * 10 + d) * B = Q * B * 10 + B * d := by grind
   omega
theorem rdiv_f {a b : ByteArray} {N : Nat} (hN : N ≤ 50000) (ha : a.size ≤ N) (hb : b.size ≤ N) (k : Nat) (hk : 22 * N + 40 ≤ k) : Pq.r1_Div.f k a b = some (divS a b) := by
 obtain ⟨k, rfl⟩ : ∃ m, k = m + 1 := ⟨k - 1, by omega⟩
 unfold Pq.r1_Div.f
 rw [rmay_f a (by omega) _ (by omega), Option.bind_some]
 by_cases h1 : mayB a = true
 ·rw [if_pos h1, rmay_f b (by omega) _ (by omega), Option.bind_some]
  by_cases h2 : mayB b = true
  ·rw [if_pos h2]
   simp only [Pq.r1_Div.j0]
   unfold divS
   rw [may2_eq h1 h2, ByteArray.toList_eq]
   by_cases hc : numB b = 0
   ·rw [if_pos (by rw [beq_iff_eq, list48 h2]; exact hc), if_neg (by rw [hc]; decide)]
    rfl
   ·rw [if_neg (by rw [beq_iff_eq, list48 h2]; exact hc), if_pos (by rw [decide_eq_true hc]; rfl)]
    have e0 : (⟨#[48]⟩ : ByteArray) = natB 0 := by
     apply bext
     rw [natB_list, dig_small (by omega)]
     rfl
    rw [e0]
    exact rdiv_loop hN h1 h2 ha hb (by omega) a.size 0 (by omega) _ 0 k (by omega) rfl rfl (by omega) (by simp [num])
  ·rw [if_neg h2]
   unfold divS
   rw [(Bool.not_eq_true _).mp (may2_no2 (a := a) h2)]
   rfl
 ·rw [if_neg h1]
  unfold divS
  rw [(Bool.not_eq_true _).mp (may2_no1 (b := b) h1)]
  rfl
end Go.Proofs.YtmkmldkfaehefaaGreatDoor
end

section
namespace Go.Proofs.YtmkmldkfaehefaaGreatDoor
def r1_Of.f (a0 : Int) : Option ByteArray := if -9223372036854775808 ≤ a0 ∧ a0 ≤ 9223372036854775807 then some (ofS a0) else none
theorem r1_Of.calls (a0 : Int) (r : ByteArray) (w : World) (h : r1_Of.f a0 = some r) :
  Calls Tryz.prog 68 #[.int .i64 a0] w fun e w' => e = .returned (.string r) ∧ Below w.heap.size w w' := by
 unfold r1_Of.f at h
 split at h
 ·rename_i hp
  rw [← rof_f a0 hp.2 _ (Nat.le_refl _)] at h
  exact (Pq.r1_Of.calls _ a0 r w h).mono fun e w' ⟨he, hw⟩ => ⟨he, drawn_below hw⟩
 ·cases h
def r1_Cmp.f (a0 a1 : ByteArray) : Option Int := if sm2 a0 a1 = true then some (cmpS a0 a1) else none
theorem r1_Cmp.calls (a0 a1 : ByteArray) (r : Int) (w : World) (h : r1_Cmp.f a0 a1 = some r) :
  Calls Tryz.prog 71 #[.string a0, .string a1] w fun e w' => e = .returned (.int .i64 r) ∧ Below w.heap.size w w' := by
 unfold r1_Cmp.f at h
 split at h
 ·rename_i hp
  rw [← rcmp_f (N := 50000) (by omega) (sm_le (and2 hp).1) (sm_le (and2 hp).2) _ (Nat.le_refl _)] at h
  exact (Pq.r1_Cmp.calls _ a0 a1 r w h).mono fun e w' ⟨he, hw⟩ => ⟨he, drawn_below hw⟩
 ·cases h
def r1_Add.f (a0 a1 : ByteArray) : Option ByteArray := if sm2 a0 a1 = true then some (addS a0 a1) else none
theorem r1_Add.calls (a0 a1 : ByteArray) (r : ByteArray) (w : World) (h : r1_Add.f a0 a1 = some r) :
  Calls Tryz.prog 62 #[.string a0, .string a1] w fun e w' => e = .returned (.string r) ∧ Below w.heap.size w w' := by
 unfold r1_Add.f at h
 split at h
 ·rename_i hp
  rw [← radd_f (N := 50000) (by omega) (sm_le (and2 hp).1) (sm_le (and2 hp).2) _ (Nat.le_refl _)] at h
  exact Pq.r1_Add.calls _ a0 a1 r w h
 ·cases h
def r1_Sub.f (a0 a1 : ByteArray) : Option (ByteArray × Bool) := if sm2 a0 a1 = true then some (subS a0 a1) else none
theorem r1_Sub.calls (a0 a1 : ByteArray) (r1 : ByteArray) (r2 : Bool) (w : World) (h : r1_Sub.f a0 a1 = some (r1, r2)) :
  Calls Tryz.prog 63 #[.string a0, .string a1] w fun e w' => e = .returned (.tuple #[.string r1, .bool r2]) ∧ Below w.heap.size w w' := by
 unfold r1_Sub.f at h
 split at h
 ·rename_i hp
  rw [← rsub_f (N := 50000) (by omega) (sm_le (and2 hp).1) (sm_le (and2 hp).2) _ (Nat.le_refl _)] at h
  exact Pq.r1_Sub.calls _ a0 a1 r1 r2 w h
 ·cases h
def r1_Mul.f (a0 a1 : ByteArray) : Option ByteArray := if sm2 a0 a1 = true then some (mulS a0 a1) else none
theorem r1_Mul.calls (a0 a1 : ByteArray) (r : ByteArray) (w : World) (h : r1_Mul.f a0 a1 = some r) :
  Calls Tryz.prog 73 #[.string a0, .string a1] w fun e w' => e = .returned (.string r) ∧ Below w.heap.size w w' := by
 unfold r1_Mul.f at h
 split at h
 ·rename_i hp
  rw [← rmul_f (sm_le (and2 hp).1) (sm_le (and2 hp).2) _ (Nat.le_refl _)] at h
  exact Pq.r1_Mul.calls _ a0 a1 r w h
 ·cases h
def r1_Div.f (a0 a1 : ByteArray) : Option (ByteArray × ByteArray × Bool) := if sm2 a0 a1 = true then some (divS a0 a1) else none
theorem r1_Div.calls (a0 a1 : ByteArray) (r1 r2 : ByteArray) (r3 : Bool) (w : World) (h : r1_Div.f a0 a1 = some (r1, r2, r3)) :
  Calls Tryz.prog 61 #[.string a0, .string a1] w fun e w' => e = .returned (.tuple #[.string r1, .string r2, .bool r3]) ∧ Below w.heap.size w w' := by
 unfold r1_Div.f at h
 split at h
 ·rename_i hp
  rw [← rdiv_f (N := 50000) (by omega) (sm_le (and2 hp).1) (sm_le (and2 hp).2) _ (Nat.le_refl _)] at h
  exact Pq.r1_Div.calls _ a0 a1 r1 r2 r3 w h
 ·cases h
end Go.Proofs.YtmkmldkfaehefaaGreatDoor
end

attribute [local go_sem] max2_int min2_int max_two min_two max_three min_three max_four min_four   -- for this text's walks alone
section
namespace Go.Proofs.YtmkmldkfaehefaaGreatDoor.Px
def errW : Option Int → Value
 | none => .nilIface
 | some c => .iface 0 (.int .i64 c)
theorem errW_none : errW none = .nilIface := rfl
theorem errW_some (c : Int) : errW (some c) = .iface 0 (.int .i64 c) := rfl
end Go.Proofs.YtmkmldkfaehefaaGreatDoor.Px
end

section
namespace Go.Proofs.YtmkmldkfaehefaaGreatDoor.Px
def r2_amount.f (a0 : ByteArray) : Option (ByteArray × Bool) := if (a0.size : Int) > 0 then (if 0 < (a0.size : Int) then (if (bt a0 0) = 45 then (if 1 ≤ (a0.size : Int) then (some (a0.extract 1 a0.size, true)) else (none)) else (some (a0, false))) else (none)) else (some (a0, false))
set_option maxHeartbeats 8000000 in
set_option maxRecDepth 100000 in
theorem r2_amount.calls (a0 : ByteArray) (r1 : ByteArray) (r2 : Bool) (w : World) (h : r2_amount.f a0 = some (r1, r2)) :
  Calls Tryz.prog 60 #[.string a0] w fun e w' => e = .returned (.tuple #[.string r1, .bool r2]) ∧ Drawn0 w w' := by
 have H := h; unfold r2_amount.f at H; clear h; by_cases c2 : (a0.size : Int) > 0
 ·rw [if_pos c2] at H; have c2b0 : decide (0 < (a0.size : Int)) = true := decide_eq_true c2; have c2b1 : decide (0 < a0.size) = true := decide_eq_true (by omega); clear c2; by_cases c3 : 0 < (a0.size : Int)
  ·rw [if_pos c3] at H; have c3b0 : decide (0 < (a0.size : Int)) = true := decide_eq_true c3; have c3b1 : decide (0 < a0.size) = true := decide_eq_true (by omega); clear c3; by_cases c5 : (bt a0 0) = 45
   ·rw [if_pos c5] at H; have c5b0 : ((bt a0 0) == 45) = true := beq_iff_eq.mpr c5; have c5b1 : ((bt a0 0) != 45) = false := bne_eq_false_iff_eq.mpr c5; clear c5; by_cases c6 : 1 ≤ (a0.size : Int)
    ·rw [if_pos c6] at H; have c6b0 := eq_true c6; have c6b1 : decide (1 ≤ (a0.size : Int)) = true := decide_eq_true c6; clear c6; simp only [Option.some.injEq, Prod.mk.injEq] at H; obtain ⟨rfl, rfl⟩ := H; have p4 : 0 ≤ (0 : Int) := (by omega); have q4 : 0 < a0.size := (by have : (0 : Int) < (a0.size : Int) := of_decide_eq_true as_f; omega); have hx4 : ∀ h : 0 < a0.size, ((a0[0]'h).toNat : Int) = bt a0 0 := bt_at a0 0; clear p4; have qi4 : (0 < (a0.size : Int)) = True := eq_true (of_decide_eq_true as_f); replace q4 := eq_true q4; go_enter Tryz.func60, Tryz.ntmps60; go_wp2; go_ret2; exact ⟨by first | rfl | (simp; done) | (simp [*]; done), d0_⟩
    ·rw [if_neg c6] at H; exact absurd H (by simp)
   ·rw [if_neg c5] at H; have c5b0 : ((bt a0 0) == 45) = false := beq_eq_false_iff_ne.mpr c5; have c5b1 : ((bt a0 0) != 45) = true := bne_iff_ne.mpr c5; simp only [Option.some.injEq, Prod.mk.injEq] at H; obtain ⟨rfl, rfl⟩ := H; have p4 : 0 ≤ (0 : Int) := (by omega); have q4 : 0 < a0.size := (by have : (0 : Int) < (a0.size : Int) := of_decide_eq_true as_f; omega); have hx4 : ∀ h : 0 < a0.size, ((a0[0]'h).toNat : Int) = bt a0 0 := bt_at a0 0; clear p4; have qi4 : (0 < (a0.size : Int)) = True := eq_true (of_decide_eq_true as_f); replace q4 := eq_true q4; go_enter Tryz.func60, Tryz.ntmps60; go_wp2; go_ret2; exact ⟨by first | rfl | (simp; done) | (simp [*]; done), d0_⟩
  ·rw [if_neg c3] at H; exact absurd H (by simp)
 ·rw [if_neg c2] at H; have c2b0 : decide (0 < (a0.size : Int)) = false := decide_eq_false c2; have c2b1 : decide (0 < a0.size) = false := decide_eq_false (by omega); clear c2; simp only [Option.some.injEq, Prod.mk.injEq] at H; obtain ⟨rfl, rfl⟩ := H; go_enter Tryz.func60, Tryz.ntmps60; go_wp2; go_ret2; exact ⟨by first | rfl | (simp; done) | (simp [*]; done), d0_⟩
def r2_May.f (a0 : ByteArray) : Option (Bool) := (r2_amount.f a0).bind fun bt101 => ((r1_May.f bt101.1).bind fun t103 => (if t103 = true then (if bt101.2 = true then (some (bt101.1.toList != ([48] : List UInt8))) else (some true)) else (some false)))
set_option maxHeartbeats 8000000 in
set_option maxRecDepth 100000 in
theorem r2_May.calls (a0 : ByteArray) (r : Bool) (w : World) (h : r2_May.f a0 = some r) :
  Calls Tryz.prog 14 #[.string a0] w fun e w' => e = .returned (.bool r) ∧ Below w.heap.size w w' := by
 have HB := Aside0.mk (Below.refl w.heap.size w); have H := h; unfold r2_May.f at H; clear h; obtain ⟨⟨t101, t102⟩, A2, H⟩ := bi_ H; (try dsimp only at H); obtain ⟨t103, A3, H⟩ := bi_ H; by_cases c4 : t103 = true
 ·subst c4; rw [if_pos rfl] at H; by_cases c5 : t102 = true
  ·subst c5; rw [if_pos rfl] at H; obtain rfl := Option.some.inj H; go_enter Tryz.func14, Tryz.ntmps14
   go_wp2_with (first | (refine gl_ 7 Tryz.func60 #[.string a0] ?_; refine mo_ (r2_amount.calls a0 t101 true _ A2.out) ?_; rintro w' ⟨nd, rfl⟩) | (refine gl_ 11 Tryz.func66 #[.string t101] ?_; refine mo_ (r1_May.calls t101 true _ A3.out) ?_; intro w6 hb; replace HB := bs_ HB hb; (try clear hb); (try clear hb2); (try clear hk); (try clear hi)))
   go_ret
   exact ⟨er_, b_ HB.out⟩
  ·replace c5 := Bool.eq_false_iff.mpr c5; subst c5; rw [if_neg nf_] at H; obtain rfl := Option.some.inj H; go_enter Tryz.func14, Tryz.ntmps14
   go_wp2_with (first | (refine gl_ 7 Tryz.func60 #[.string a0] ?_; refine mo_ (r2_amount.calls a0 t101 false _ A2.out) ?_; rintro w' ⟨nd, rfl⟩) | (refine gl_ 11 Tryz.func66 #[.string t101] ?_; refine mo_ (r1_May.calls t101 true _ A3.out) ?_; intro w7 hb; replace HB := bs_ HB hb; (try clear hb); (try clear hb2); (try clear hk); (try clear hi)))
   go_ret
   exact ⟨er_, b_ HB.out⟩
 ·replace c4 := Bool.eq_false_iff.mpr c4; subst c4; rw [if_neg nf_] at H; obtain rfl := Option.some.inj H; go_enter Tryz.func14, Tryz.ntmps14
  go_wp2_with (first | (refine gl_ 7 Tryz.func60 #[.string a0] ?_; refine mo_ (r2_amount.calls a0 t101 t102 _ A2.out) ?_; rintro w' ⟨nd, rfl⟩) | (refine gl_ 11 Tryz.func66 #[.string t101] ?_; refine mo_ (r1_May.calls t101 false _ A3.out) ?_; intro w8 hb; replace HB := bs_ HB hb; (try clear hb); (try clear hb2); (try clear hk); (try clear hi)))
  go_ret
  exact ⟨er_, b_ HB.out⟩
def r2_Of.f (a0 : Int) : Option (ByteArray) := if a0 < 0 then ((r1_Of.f (wrap64 (-(wrap64 (a0 + 1))))).bind fun t104 => ((r1_Add.f t104 (⟨#[49]⟩ : ByteArray)).bind fun t105 => (if 1 + t105.size ≤ 9223372036854775807 then (some ((⟨#[45]⟩ : ByteArray) ++ t105)) else (none)))) else ((r1_Of.f a0).bind fun t106 => (some t106))
set_option maxHeartbeats 8000000 in
set_option maxRecDepth 100000 in
theorem r2_Of.calls (a0 : Int) (r : ByteArray) (w : World) (h : r2_Of.f a0 = some r) :
  Calls Tryz.prog 16 #[.int .i64 a0] w fun e w' => e = .returned (.string r) ∧ Below w.heap.size w w' := by
 have HB := Aside0.mk (Below.refl w.heap.size w); have H := h; unfold r2_Of.f at H; clear h; by_cases c2 : a0 < 0
 ·rw [if_pos c2] at H; have c2b0 : decide (a0 < 0) = true := decide_eq_true c2; clear c2; obtain ⟨t104, A3, H⟩ := bi_ H; obtain ⟨t105, A4, H⟩ := bi_ H; by_cases c5 : 1 + t105.size ≤ 9223372036854775807
  ·rw [if_pos c5] at H; have c5b0 := eq_true c5; have c5b1 : decide (1 + t105.size ≤ 9223372036854775807) = true := decide_eq_true c5
   try have c5b2 : (9223372036854775807 < 1 + t105.size) = False := eq_false (Nat.not_lt.2 c5)
   obtain rfl := Option.some.inj H; go_enter Tryz.func16, Tryz.ntmps16
   go_wp2_with (first | (refine gl_ 8 Tryz.func68 #[.int .i64 (wrap64 (-(wrap64 (a0 + 1))))] ?_; refine mo_ (r1_Of.calls (wrap64 (-(wrap64 (a0 + 1)))) t104 _ A3.out) ?_; intro w6 hb; replace HB := bs_ HB hb; (try clear hb); (try clear hb2); (try clear hk); (try clear hi)) | (refine gl_ 9 Tryz.func62 #[.string t104, .string (⟨#[49]⟩ : ByteArray)] ?_; refine mo_ (r1_Add.calls t104 (⟨#[49]⟩ : ByteArray) t105 _ A4.out) ?_; intro w7 hb; replace HB := bs_ HB hb; (try clear hb); (try clear hb2); (try clear hk); (try clear hi)))
   go_ret
   exact ⟨er_, b_ HB.out⟩
  ·rw [if_neg c5] at H; exact absurd H (by simp)
 ·rw [if_neg c2] at H; have c2b0 : decide (a0 < 0) = false := decide_eq_false c2; clear c2; obtain ⟨t106, A8, H⟩ := bi_ H; obtain rfl := Option.some.inj H; go_enter Tryz.func16, Tryz.ntmps16
  go_wp2_with (first | (refine gl_ 12 Tryz.func68 #[.int .i64 a0] ?_; refine mo_ (r1_Of.calls a0 t106 _ A8.out) ?_; intro w9 hb; replace HB := bs_ HB hb; (try clear hb); (try clear hb2); (try clear hk); (try clear hi)))
  go_ret
  exact ⟨er_, b_ HB.out⟩
def r2_Sign.j0 : Nat → Bool → Bool → Option (Int)
 | 0, _, _ => none
 | k + 1, x4, x16 => if x16 = true then (some 0) else (if x4 = true then (some (-1)) else (some 1))
def r2_Sign.f (k : Nat) (a0 : ByteArray) : Option (Int) := (r2_amount.f a0).bind fun bt107 => ((r2_May.f a0).bind fun t109 => (if t109 = true then (r2_Sign.j0 k bt107.2 (bt107.1.toList == ([48] : List UInt8))) else (r2_Sign.j0 k bt107.2 true)))
set_option maxHeartbeats 8000000 in
set_option maxRecDepth 100000 in
theorem r2_Sign.calls (k : Nat) (a0 : ByteArray) (r : Int) (w : World) (h : r2_Sign.f k a0 = some r) :
  Calls Tryz.prog 18 #[.string a0] w fun e w' => e = .returned (.int .i64 r) ∧ Below w.heap.size w w' := by
 have HB := Aside0.mk (Below.refl w.heap.size w); have H := h; unfold r2_Sign.f at H; clear h; obtain ⟨⟨t107, t108⟩, A2, H⟩ := bi_ H; (try dsimp only at H); have HC3 := Aside0.mk H; clear H; go_enter Tryz.func18, Tryz.ntmps18
 go_upto_region 2 with (first | (refine gl_ 7 Tryz.func60 #[.string a0] ?_; refine mo_ (r2_amount.calls a0 t107 t108 _ A2.out) ?_; rintro w' ⟨nd, rfl⟩))
 (try simp only [Act.put, List.setIfInBounds_toArray, List.set_cons_zero, List.set_cons_succ])
 go_cut [16] (fun v16 wc => ∃ (kq : Nat) (x16_2 : Bool), v16 = .bool x16_2 ∧ Aside0 (r2_Sign.j0 kq t108 x16_2 = some r) ∧ Aside0 (kq ≤ k) ∧ Aside0 (Below w.heap.size w wc))
 case first =>
  have H := HC3.out; clear HC3; obtain ⟨t109, A4, H⟩ := bi_ H; by_cases c5 : t109 = true
  ·subst c5; rw [if_pos rfl] at H; have H' := Aside0.mk H; clear H
   go_wp2_with (first | (refine gl_ 11 Tryz.func14 #[.string a0] ?_; refine mo_ (r2_May.calls a0 true _ A4.out) ?_; intro w6 hb; replace HB := bs_ HB hb; (try clear hb); (try clear hb2); (try clear hk); (try clear hi)))
   go_meet
   case rel => exact ⟨_, ((t107.toList == ([48] : List UInt8))), rl_, H', ⟨by first | omega | exact Nat.le_refl _⟩, ⟨b_ HB.out⟩⟩
  ·replace c5 := Bool.eq_false_iff.mpr c5; subst c5; rw [if_neg nf_] at H; have H' := Aside0.mk H; clear H
   go_wp2_with (first | (refine gl_ 11 Tryz.func14 #[.string a0] ?_; refine mo_ (r2_May.calls a0 false _ A4.out) ?_; intro w7 hb; replace HB := bs_ HB hb; (try clear hb); (try clear hb2); (try clear hk); (try clear hi)))
   go_meet
   case rel => exact ⟨_, (true), rl_, H', ⟨by first | omega | exact Nat.le_refl _⟩, ⟨b_ HB.out⟩⟩
 case rest =>
  clear HC3; (try clear c1); (try clear p2); (try clear c5); (try clear c6); obtain ⟨kq, x16_2, rfl, HA, HJ2, HB⟩ := hcut
  cases kq with
  | zero => exact absurd HA.out (by simp [r2_Sign.j0])
  | succ kj2 =>
   have H := HA.out; clear HA; simp only [r2_Sign.j0] at H; by_cases c8 : x16_2 = true
   ·subst c8; rw [if_pos rfl] at H; obtain rfl := Option.some.inj H; go_wp2
    go_ret
    exact ⟨er_, b_ HB.out⟩
   ·replace c8 := Bool.eq_false_iff.mpr c8; subst c8; rw [if_neg nf_] at H; by_cases c9 : t108 = true
    ·subst c9; rw [if_pos rfl] at H; obtain rfl := Option.some.inj H; go_wp2
     go_ret
     exact ⟨er_, b_ HB.out⟩
    ·replace c9 := Bool.eq_false_iff.mpr c9; subst c9; rw [if_neg nf_] at H; obtain rfl := Option.some.inj H; go_wp2
     go_ret
     exact ⟨er_, b_ HB.out⟩
def r2_Abs.f (a0 : ByteArray) : Option (ByteArray) := (r2_May.f a0).bind fun t110 => (if t110 = true then ((r2_amount.f a0).bind fun bt111 => (some bt111.1)) else (some (⟨#[]⟩ : ByteArray)))
set_option maxHeartbeats 8000000 in
set_option maxRecDepth 100000 in
theorem r2_Abs.calls (a0 : ByteArray) (r : ByteArray) (w : World) (h : r2_Abs.f a0 = some r) :
  Calls Tryz.prog 20 #[.string a0] w fun e w' => e = .returned (.string r) ∧ Below w.heap.size w w' := by
 have HB := Aside0.mk (Below.refl w.heap.size w); have H := h; unfold r2_Abs.f at H; clear h; obtain ⟨t110, A2, H⟩ := bi_ H; by_cases c3 : t110 = true
 ·subst c3; rw [if_pos rfl] at H; obtain ⟨⟨t111, t112⟩, A4, H⟩ := bi_ H; (try dsimp only at H); obtain rfl := Option.some.inj H; go_enter Tryz.func20, Tryz.ntmps20
  go_wp2_with (first | (refine gl_ 6 Tryz.func14 #[.string a0] ?_; refine mo_ (r2_May.calls a0 true _ A2.out) ?_; intro w5 hb; replace HB := bs_ HB hb; (try clear hb); (try clear hb2); (try clear hk); (try clear hi)) | (refine gl_ 10 Tryz.func60 #[.string a0] ?_; refine mo_ (r2_amount.calls a0 t111 t112 _ A4.out) ?_; rintro w' ⟨nd, rfl⟩))
  go_ret
  exact ⟨er_, b_ HB.out⟩
 ·replace c3 := Bool.eq_false_iff.mpr c3; subst c3; rw [if_neg nf_] at H; obtain rfl := Option.some.inj H; go_enter Tryz.func20, Tryz.ntmps20
  go_wp2_with (first | (refine gl_ 6 Tryz.func14 #[.string a0] ?_; refine mo_ (r2_May.calls a0 false _ A2.out) ?_; intro w6 hb; replace HB := bs_ HB hb; (try clear hb); (try clear hb2); (try clear hk); (try clear hi)))
  go_ret
  exact ⟨er_, b_ HB.out⟩
def r2_with.f (a0 : ByteArray) (a1 : Bool) : Option (ByteArray) := if a1 = true then (if a0.toList = ([48] : List UInt8) then (some a0) else (if 1 + a0.size ≤ 9223372036854775807 then (some ((⟨#[45]⟩ : ByteArray) ++ a0)) else (none))) else (some a0)
set_option maxHeartbeats 8000000 in
set_option maxRecDepth 100000 in
theorem r2_with.calls (a0 : ByteArray) (a1 : Bool) (r : ByteArray) (w : World) (h : r2_with.f a0 a1 = some r) :
  Calls Tryz.prog 64 #[.string a0, .bool a1] w fun e w' => e = .returned (.string r) ∧ Drawn0 w w' := by
 have H := h; unfold r2_with.f at H; clear h; by_cases c3 : a1 = true
 ·subst c3; rw [if_pos rfl] at H; by_cases c4 : a0.toList = ([48] : List UInt8)
  ·rw [if_pos c4] at H; have c4b0 : (a0.toList == ([48] : List UInt8)) = true := beq_iff_eq.mpr c4; have c4b1 : (a0.toList != ([48] : List UInt8)) = false := bne_eq_false_iff_eq.mpr c4; clear c4; obtain rfl := Option.some.inj H; go_enter Tryz.func64, Tryz.ntmps64; go_wp2
   go_ret
   exact ⟨by first | rfl | (simp; done) | (simp [*]; done), d0_⟩
  ·rw [if_neg c4] at H; have c4b0 : (a0.toList == ([48] : List UInt8)) = false := beq_eq_false_iff_ne.mpr c4; have c4b1 : (a0.toList != ([48] : List UInt8)) = true := bne_iff_ne.mpr c4; by_cases c5 : 1 + a0.size ≤ 9223372036854775807
   ·rw [if_pos c5] at H; have c5b0 := eq_true c5; have c5b1 : decide (1 + a0.size ≤ 9223372036854775807) = true := decide_eq_true c5
    try have c5b2 : (9223372036854775807 < 1 + a0.size) = False := eq_false (Nat.not_lt.2 c5)
    obtain rfl := Option.some.inj H; go_enter Tryz.func64, Tryz.ntmps64; go_wp2
    go_ret
    exact ⟨by first | rfl | (simp; done) | (simp [*]; done), d0_⟩
   ·rw [if_neg c5] at H; exact absurd H (by simp)
 ·replace c3 := Bool.eq_false_iff.mpr c3; subst c3; rw [if_neg nf_] at H; obtain rfl := Option.some.inj H; go_enter Tryz.func64, Tryz.ntmps64; go_wp2
  go_ret
  exact ⟨by first | rfl | (simp; done) | (simp [*]; done), d0_⟩
def r2_Neg.f (a0 : ByteArray) : Option (ByteArray) := (r2_May.f a0).bind fun t113 => (if t113 = true then ((r2_amount.f a0).bind fun bt114 => ((r2_with.f bt114.1 (!bt114.2)).bind fun t116 => (some t116))) else (some (⟨#[]⟩ : ByteArray)))
set_option maxHeartbeats 8000000 in
set_option maxRecDepth 100000 in
theorem r2_Neg.calls (a0 : ByteArray) (r : ByteArray) (w : World) (h : r2_Neg.f a0 = some r) :
  Calls Tryz.prog 22 #[.string a0] w fun e w' => e = .returned (.string r) ∧ Below w.heap.size w w' := by
 have HB := Aside0.mk (Below.refl w.heap.size w); have H := h; unfold r2_Neg.f at H; clear h; obtain ⟨t113, A2, H⟩ := bi_ H; by_cases c3 : t113 = true
 ·subst c3; rw [if_pos rfl] at H; obtain ⟨⟨t114, t115⟩, A4, H⟩ := bi_ H; (try dsimp only at H); obtain ⟨t116, A5, H⟩ := bi_ H; obtain rfl := Option.some.inj H; go_enter Tryz.func22, Tryz.ntmps22
  go_wp2_with (first | (refine gl_ 6 Tryz.func14 #[.string a0] ?_; refine mo_ (r2_May.calls a0 true _ A2.out) ?_; intro w6 hb; replace HB := bs_ HB hb; (try clear hb); (try clear hb2); (try clear hk); (try clear hi)) | (refine gl_ 10 Tryz.func60 #[.string a0] ?_; refine mo_ (r2_amount.calls a0 t114 t115 _ A4.out) ?_; rintro w' ⟨nd, rfl⟩) | (refine gl_ 16 Tryz.func64 #[.string t114, .bool (!t115)] ?_; refine mo_ (r2_with.calls t114 (!t115) t116 _ A5.out) ?_; rintro w' ⟨nd, rfl⟩))
  go_ret
  exact ⟨er_, b_ HB.out⟩
 ·replace c3 := Bool.eq_false_iff.mpr c3; subst c3; rw [if_neg nf_] at H; obtain rfl := Option.some.inj H; go_enter Tryz.func22, Tryz.ntmps22
  go_wp2_with (first | (refine gl_ 6 Tryz.func14 #[.string a0] ?_; refine mo_ (r2_May.calls a0 false _ A2.out) ?_; intro w7 hb; replace HB := bs_ HB hb; (try clear hb); (try clear hb2); (try clear hk); (try clear hi)))
  go_ret
  exact ⟨er_, b_ HB.out⟩
def r2_Add.j0 : Nat → ByteArray → ByteArray → Bool → Option (ByteArray)
 | 0, _, _, _ => none
 | k + 1, x0, x1, x20 => if x20 = true then (some (⟨#[]⟩ : ByteArray)) else ((r2_amount.f x0).bind fun bt119 => ((r2_amount.f x1).bind fun bt121 => (if (bt119.2 == bt121.2) = true then ((r1_Add.f bt119.1 bt121.1).bind fun t123 => ((r2_with.f t123 bt119.2).bind fun t124 => (some t124))) else ((r1_Cmp.f bt119.1 bt121.1).bind fun t125 => (if t125 ≥ 0 then ((r1_Sub.f bt119.1 bt121.1).bind fun bt126 => ((r2_with.f bt126.1 bt119.2).bind fun t128 => (some t128))) else ((r1_Sub.f bt121.1 bt119.1).bind fun bt129 => ((r2_with.f bt129.1 bt121.2).bind fun t131 => (some t131))))))))
def r2_Add.f (k : Nat) (a0 : ByteArray) (a1 : ByteArray) : Option (ByteArray) := (r2_May.f a0).bind fun t117 => (if t117 = true then ((r2_May.f a1).bind fun t118 => (r2_Add.j0 k a0 a1 (!t118))) else (r2_Add.j0 k a0 a1 true))
set_option maxHeartbeats 8000000 in
set_option maxRecDepth 100000 in
theorem r2_Add.calls (k : Nat) (a0 : ByteArray) (a1 : ByteArray) (r : ByteArray) (w : World) (h : r2_Add.f k a0 a1 = some r) :
  Calls Tryz.prog 26 #[.string a0, .string a1] w fun e w' => e = .returned (.string r) ∧ Below w.heap.size w w' := by
 have HB := Aside0.mk (Below.refl w.heap.size w); have H := h; unfold r2_Add.f at H; clear h; have HC3 := Aside0.mk H; clear H; go_enter Tryz.func26, Tryz.ntmps26
 go_upto_region 1 with (fail)
 go_cut [20] (fun v20 wc => ∃ (kq : Nat) (x20_2 : Bool), v20 = .bool x20_2 ∧ Aside0 (r2_Add.j0 kq a0 a1 x20_2 = some r) ∧ Aside0 (kq ≤ k) ∧ Aside0 (Below w.heap.size w wc))
 case first =>
  have H := HC3.out; clear HC3; obtain ⟨t117, A4, H⟩ := bi_ H; by_cases c5 : t117 = true
  ·subst c5; rw [if_pos rfl] at H; obtain ⟨t118, A6, H⟩ := bi_ H; have H' := Aside0.mk H; clear H
   go_wp2_with (first | (refine gl_ 14 Tryz.func14 #[.string a0] ?_; refine mo_ (r2_May.calls a0 true _ A4.out) ?_; intro w7 hb; replace HB := bs_ HB hb; (try clear hb); (try clear hb2); (try clear hk); (try clear hi)) | (go_at_call 14; (with_reducible refine (r2_May.calls a1 t118 _ A6.out).mono ?_); rintro e w8 ⟨rfl, hb⟩; replace HB := bs_ HB hb; (try clear hb); (try clear hb2); (try clear hk); (try clear hi)))
   go_meet
   case rel => exact ⟨_, (!t118), rl_, H', ⟨by first | omega | exact Nat.le_refl _⟩, ⟨b_ HB.out⟩⟩
  ·replace c5 := Bool.eq_false_iff.mpr c5; subst c5; rw [if_neg nf_] at H; have H' := Aside0.mk H; clear H
   go_wp2_with (first | (refine gl_ 14 Tryz.func14 #[.string a0] ?_; refine mo_ (r2_May.calls a0 false _ A4.out) ?_; intro w9 hb; replace HB := bs_ HB hb; (try clear hb); (try clear hb2); (try clear hk); (try clear hi)))
   go_meet
   case rel => exact ⟨_, (true), rl_, H', ⟨by first | omega | exact Nat.le_refl _⟩, ⟨b_ HB.out⟩⟩
 case rest =>
  clear HC3; (try clear c1); (try clear c2); (try clear p2); (try clear c5); obtain ⟨kq, x20_2, rfl, HA, HJ2, HB⟩ := hcut
  cases kq with
  | zero => exact absurd HA.out (by simp [r2_Add.j0])
  | succ kj2 =>
   have H := HA.out; clear HA; simp only [r2_Add.j0] at H; by_cases c10 : x20_2 = true
   ·subst c10; rw [if_pos rfl] at H; obtain rfl := Option.some.inj H; go_wp2
    go_ret
    exact ⟨er_, b_ HB.out⟩
   ·replace c10 := Bool.eq_false_iff.mpr c10; subst c10; rw [if_neg nf_] at H; obtain ⟨⟨t119, t120⟩, A11, H⟩ := bi_ H; (try dsimp only at H); obtain ⟨⟨t121, t122⟩, A12, H⟩ := bi_ H; (try dsimp only at H); by_cases c13 : (t120 == t122) = true
    ·rw [if_pos c13] at H; have c13b0 : (t120 == t122) = true := c13; (try (have c13b1 : decide (t120 = t122) = true := by simpa using c13)); (try (have c13b2 : (t120 == t122) = true := by simpa using c13)); clear c13; obtain ⟨t123, A14, H⟩ := bi_ H; obtain ⟨t124, A15, H⟩ := bi_ H; obtain rfl := Option.some.inj H
     go_wp2_with (first | (refine gl_ 23 Tryz.func60 #[.string a0] ?_; refine mo_ (r2_amount.calls a0 t119 t120 _ A11.out) ?_; rintro w' ⟨nd, rfl⟩) | (refine gl_ 28 Tryz.func60 #[.string a1] ?_; refine mo_ (r2_amount.calls a1 t121 t122 _ A12.out) ?_; rintro w' ⟨nd, rfl⟩) | (refine gl_ 36 Tryz.func62 #[.string t119, .string t121] ?_; refine mo_ (r1_Add.calls t119 t121 t123 _ A14.out) ?_; intro w16 hb; replace HB := bs_ HB hb; (try clear hb); (try clear hb2); (try clear hk); (try clear hi)) | (refine gl_ 38 Tryz.func64 #[.string t123, .bool t120] ?_; refine mo_ (r2_with.calls t123 t120 t124 _ A15.out) ?_; rintro w' ⟨nd, rfl⟩))
     go_ret
     exact ⟨er_, b_ HB.out⟩
    ·rw [if_neg c13] at H
     have c13b0 : (t120 == t122) = false := by simpa using c13
     (try (have c13b1 : decide (t120 = t122) = false := by simpa using c13)); (try (have c13b2 : (t120 == t122) = false := by simpa using c13)); (try (have c13b3 : ¬ (t120 = t122) := by simpa using c13)); clear c13; obtain ⟨t125, A17, H⟩ := bi_ H; by_cases c18 : t125 ≥ 0
     ·rw [if_pos c18] at H; have c18b0 : decide (0 ≤ t125) = true := decide_eq_true c18; clear c18; obtain ⟨⟨t126, t127⟩, A19, H⟩ := bi_ H; (try dsimp only at H); obtain ⟨t128, A20, H⟩ := bi_ H; obtain rfl := Option.some.inj H
      go_wp2_with (first | (refine gl_ 23 Tryz.func60 #[.string a0] ?_; refine mo_ (r2_amount.calls a0 t119 t120 _ A11.out) ?_; rintro w' ⟨nd, rfl⟩) | (refine gl_ 28 Tryz.func60 #[.string a1] ?_; refine mo_ (r2_amount.calls a1 t121 t122 _ A12.out) ?_; rintro w' ⟨nd, rfl⟩) | (refine gl_ 41 Tryz.func71 #[.string t119, .string t121] ?_; refine mo_ (r1_Cmp.calls t119 t121 t125 _ A17.out) ?_; intro w21 hb; replace HB := bs_ HB hb; (try clear hb); (try clear hb2); (try clear hk); (try clear hi)) | (refine gl_ 46 Tryz.func63 #[.string t119, .string t121] ?_; refine mo_ (r1_Sub.calls t119 t121 t126 t127 _ A19.out) ?_; intro w22 hb; replace HB := bs_ HB hb; (try clear hb); (try clear hb2); (try clear hk); (try clear hi)) | (refine gl_ 51 Tryz.func64 #[.string t126, .bool t120] ?_; refine mo_ (r2_with.calls t126 t120 t128 _ A20.out) ?_; rintro w' ⟨nd, rfl⟩))
      go_ret
      exact ⟨er_, b_ HB.out⟩
     ·rw [if_neg c18] at H; have c18b0 : decide (0 ≤ t125) = false := decide_eq_false c18; clear c18; obtain ⟨⟨t129, t130⟩, A23, H⟩ := bi_ H; (try dsimp only at H); obtain ⟨t131, A24, H⟩ := bi_ H; obtain rfl := Option.some.inj H
      go_wp2_with (first | (refine gl_ 23 Tryz.func60 #[.string a0] ?_; refine mo_ (r2_amount.calls a0 t119 t120 _ A11.out) ?_; rintro w' ⟨nd, rfl⟩) | (refine gl_ 28 Tryz.func60 #[.string a1] ?_; refine mo_ (r2_amount.calls a1 t121 t122 _ A12.out) ?_; rintro w' ⟨nd, rfl⟩) | (refine gl_ 41 Tryz.func71 #[.string t119, .string t121] ?_; refine mo_ (r1_Cmp.calls t119 t121 t125 _ A17.out) ?_; intro w25 hb; replace HB := bs_ HB hb; (try clear hb); (try clear hb2); (try clear hk); (try clear hi)) | (refine gl_ 55 Tryz.func63 #[.string t121, .string t119] ?_; refine mo_ (r1_Sub.calls t121 t119 t129 t130 _ A23.out) ?_; intro w26 hb; replace HB := bs_ HB hb; (try clear hb); (try clear hb2); (try clear hk); (try clear hi)) | (refine gl_ 60 Tryz.func64 #[.string t129, .bool t122] ?_; refine mo_ (r2_with.calls t129 t122 t131 _ A24.out) ?_; rintro w' ⟨nd, rfl⟩))
      go_ret
      exact ⟨er_, b_ HB.out⟩
def r2_Sub.f (k : Nat) (a0 : ByteArray) (a1 : ByteArray) : Option (ByteArray) := (r2_Neg.f a1).bind fun t132 => ((r2_Add.f k a0 t132).bind fun t133 => (some t133))
set_option maxHeartbeats 8000000 in
set_option maxRecDepth 100000 in
theorem r2_Sub.calls (k : Nat) (a0 : ByteArray) (a1 : ByteArray) (r : ByteArray) (w : World) (h : r2_Sub.f k a0 a1 = some r) :
  Calls Tryz.prog 28 #[.string a0, .string a1] w fun e w' => e = .returned (.string r) ∧ Below w.heap.size w w' := by
 have HB := Aside0.mk (Below.refl w.heap.size w); have H := h; unfold r2_Sub.f at H; clear h; obtain ⟨t132, A3, H⟩ := bi_ H; obtain ⟨t133, A4, H⟩ := bi_ H; obtain rfl := Option.some.inj H; go_enter Tryz.func28, Tryz.ntmps28
 go_wp2_with (first | (refine gl_ 7 Tryz.func22 #[.string a1] ?_; refine mo_ (r2_Neg.calls a1 t132 _ A3.out) ?_; intro w5 hb; replace HB := bs_ HB hb; (try clear hb); (try clear hb2); (try clear hk); (try clear hi)) | (refine gl_ 8 Tryz.func26 #[.string a0, .string t132] ?_; refine mo_ (r2_Add.calls k a0 t132 t133 _ A4.out) ?_; intro w6 hb; replace HB := bs_ HB hb; (try clear hb); (try clear hb2); (try clear hk); (try clear hi)))
 go_ret
 exact ⟨er_, b_ HB.out⟩
def r2_Cmp.f (k : Nat) (a0 : ByteArray) (a1 : ByteArray) : Option (Int) := (r2_Sub.f k a0 a1).bind fun t134 => ((r2_Sign.f k t134).bind fun t135 => (some t135))
set_option maxHeartbeats 8000000 in
set_option maxRecDepth 100000 in
theorem r2_Cmp.calls (k : Nat) (a0 : ByteArray) (a1 : ByteArray) (r : Int) (w : World) (h : r2_Cmp.f k a0 a1 = some r) :
  Calls Tryz.prog 24 #[.string a0, .string a1] w fun e w' => e = .returned (.int .i64 r) ∧ Below w.heap.size w w' := by
 have HB := Aside0.mk (Below.refl w.heap.size w); have H := h; unfold r2_Cmp.f at H; clear h; obtain ⟨t134, A3, H⟩ := bi_ H; obtain ⟨t135, A4, H⟩ := bi_ H; obtain rfl := Option.some.inj H; go_enter Tryz.func24, Tryz.ntmps24
 go_wp2_with (first | (refine gl_ 7 Tryz.func28 #[.string a0, .string a1] ?_; refine mo_ (r2_Sub.calls k a0 a1 t134 _ A3.out) ?_; intro w5 hb; replace HB := bs_ HB hb; (try clear hb); (try clear hb2); (try clear hk); (try clear hi)) | (refine gl_ 8 Tryz.func18 #[.string t134] ?_; refine mo_ (r2_Sign.calls k t134 t135 _ A4.out) ?_; intro w6 hb; replace HB := bs_ HB hb; (try clear hb); (try clear hb2); (try clear hk); (try clear hi)))
 go_ret
 exact ⟨er_, b_ HB.out⟩
def r2_Mul.j0 : Nat → ByteArray → ByteArray → Bool → Option (ByteArray)
 | 0, _, _, _ => none
 | k + 1, x0, x1, x16 => if x16 = true then (some (⟨#[]⟩ : ByteArray)) else ((r2_amount.f x0).bind fun bt138 => ((r2_amount.f x1).bind fun bt140 => ((r1_Mul.f bt138.1 bt140.1).bind fun t142 => ((r2_with.f t142 (bt138.2 != bt140.2)).bind fun t143 => (some t143)))))
def r2_Mul.f (k : Nat) (a0 : ByteArray) (a1 : ByteArray) : Option (ByteArray) := (r2_May.f a0).bind fun t136 => (if t136 = true then ((r2_May.f a1).bind fun t137 => (r2_Mul.j0 k a0 a1 (!t137))) else (r2_Mul.j0 k a0 a1 true))
set_option maxHeartbeats 8000000 in
set_option maxRecDepth 100000 in
theorem r2_Mul.calls (k : Nat) (a0 : ByteArray) (a1 : ByteArray) (r : ByteArray) (w : World) (h : r2_Mul.f k a0 a1 = some r) :
  Calls Tryz.prog 30 #[.string a0, .string a1] w fun e w' => e = .returned (.string r) ∧ Below w.heap.size w w' := by
 have HB := Aside0.mk (Below.refl w.heap.size w); have H := h; unfold r2_Mul.f at H; clear h; have HC3 := Aside0.mk H; clear H; go_enter Tryz.func30, Tryz.ntmps30
 go_upto_region 1 with (fail)
 go_cut [16] (fun v16 wc => ∃ (kq : Nat) (x16_2 : Bool), v16 = .bool x16_2 ∧ Aside0 (r2_Mul.j0 kq a0 a1 x16_2 = some r) ∧ Aside0 (kq ≤ k) ∧ Aside0 (Below w.heap.size w wc))
 case first =>
  have H := HC3.out; clear HC3; obtain ⟨t136, A4, H⟩ := bi_ H; by_cases c5 : t136 = true
  ·subst c5; rw [if_pos rfl] at H; obtain ⟨t137, A6, H⟩ := bi_ H; have H' := Aside0.mk H; clear H
   go_wp2_with (first | (refine gl_ 10 Tryz.func14 #[.string a0] ?_; refine mo_ (r2_May.calls a0 true _ A4.out) ?_; intro w7 hb; replace HB := bs_ HB hb; (try clear hb); (try clear hb2); (try clear hk); (try clear hi)) | (go_at_call 14; (with_reducible refine (r2_May.calls a1 t137 _ A6.out).mono ?_); rintro e w8 ⟨rfl, hb⟩; replace HB := bs_ HB hb; (try clear hb); (try clear hb2); (try clear hk); (try clear hi)))
   go_meet
   case rel => exact ⟨_, (!t137), rl_, H', ⟨by first | omega | exact Nat.le_refl _⟩, ⟨b_ HB.out⟩⟩
  ·replace c5 := Bool.eq_false_iff.mpr c5; subst c5; rw [if_neg nf_] at H; have H' := Aside0.mk H; clear H
   go_wp2_with (first | (refine gl_ 10 Tryz.func14 #[.string a0] ?_; refine mo_ (r2_May.calls a0 false _ A4.out) ?_; intro w9 hb; replace HB := bs_ HB hb; (try clear hb); (try clear hb2); (try clear hk); (try clear hi)))
   go_meet
   case rel => exact ⟨_, (true), rl_, H', ⟨by first | omega | exact Nat.le_refl _⟩, ⟨b_ HB.out⟩⟩
 case rest =>
  clear HC3; (try clear c1); (try clear p2); (try clear c3); (try clear c5); obtain ⟨kq, x16_2, rfl, HA, HJ2, HB⟩ := hcut
  cases kq with
  | zero => exact absurd HA.out (by simp [r2_Mul.j0])
  | succ kj2 =>
   have H := HA.out; clear HA; simp only [r2_Mul.j0] at H; by_cases c10 : x16_2 = true
   ·subst c10; rw [if_pos rfl] at H; obtain rfl := Option.some.inj H; go_wp2
    go_ret
    exact ⟨er_, b_ HB.out⟩
   ·replace c10 := Bool.eq_false_iff.mpr c10; subst c10; rw [if_neg nf_] at H; obtain ⟨⟨t138, t139⟩, A11, H⟩ := bi_ H; (try dsimp only at H); obtain ⟨⟨t140, t141⟩, A12, H⟩ := bi_ H; (try dsimp only at H); obtain ⟨t142, A13, H⟩ := bi_ H; obtain ⟨t143, A14, H⟩ := bi_ H; obtain rfl := Option.some.inj H
    go_wp2_with (first | (refine gl_ 19 Tryz.func60 #[.string a0] ?_; refine mo_ (r2_amount.calls a0 t138 t139 _ A11.out) ?_; rintro w' ⟨nd, rfl⟩) | (refine gl_ 24 Tryz.func60 #[.string a1] ?_; refine mo_ (r2_amount.calls a1 t140 t141 _ A12.out) ?_; rintro w' ⟨nd, rfl⟩) | (refine gl_ 29 Tryz.func73 #[.string t138, .string t140] ?_; refine mo_ (r1_Mul.calls t138 t140 t142 _ A13.out) ?_; intro w15 hb; replace HB := bs_ HB hb; (try clear hb); (try clear hb2); (try clear hk); (try clear hi)) | (refine gl_ 33 Tryz.func64 #[.string t142, .bool (t139 != t141)] ?_; refine mo_ (r2_with.calls t142 (t139 != t141) t143 _ A14.out) ?_; rintro w' ⟨nd, rfl⟩))
    go_ret
    exact ⟨er_, b_ HB.out⟩
end Go.Proofs.YtmkmldkfaehefaaGreatDoor.Px
end

section
namespace Go.Proofs.YtmkmldkfaehefaaGreatDoor.Px
mutual
def r2_Div.j0 : Nat → ByteArray → ByteArray → Bool → Option (ByteArray × ByteArray × Bool)
 | 0, _, _, _ => none
 | k + 1, x0, x1, x27 => if x27 = true then (some ((⟨#[]⟩ : ByteArray), (⟨#[]⟩ : ByteArray), false)) else ((r2_amount.f x0).bind fun bt146 => ((r2_amount.f x1).bind fun bt148 => ((r1_Div.f bt146.1 bt148.1).bind fun bt150 => (if bt146.2 = true then (r2_Div.j1 k bt146.2 bt148.1 bt148.2 bt150.1 bt150.2.1 (bt150.2.1.toList != ([48] : List UInt8))) else (r2_Div.j1 k bt146.2 bt148.1 bt148.2 bt150.1 bt150.2.1 false)))))
def r2_Div.j1 : Nat → Bool → ByteArray → Bool → ByteArray → ByteArray → Bool → Option (ByteArray × ByteArray × Bool)
 | 0, _, _, _, _, _, _ => none
 | k + 1, x8, x9, x10, x11, x12, x49 => if x49 = true then ((r1_Add.f x11 (⟨#[49]⟩ : ByteArray)).bind fun t153 => ((r1_Sub.f x9 x12).bind fun bt154 => ((r2_with.f t153 (x8 != x10)).bind fun t156 => (some (t156, bt154.1, true))))) else ((r2_with.f x11 (x8 != x10)).bind fun t157 => (some (t157, x12, true)))
end
def r2_Div.f (k : Nat) (a0 : ByteArray) (a1 : ByteArray) : Option (ByteArray × ByteArray × Bool) := (r2_May.f a0).bind fun t144 => (if t144 = true then ((r2_May.f a1).bind fun t145 => (if t145 = true then (r2_Div.j0 k a0 a1 (a1.toList == ([48] : List UInt8))) else (r2_Div.j0 k a0 a1 true))) else (r2_Div.j0 k a0 a1 true))
set_option maxHeartbeats 8000000 in
set_option maxRecDepth 100000 in
theorem r2_Div.calls (k : Nat) (a0 : ByteArray) (a1 : ByteArray) (r1 : ByteArray) (r2 : ByteArray) (r3 : Bool) (w : World) (h : r2_Div.f k a0 a1 = some (r1, r2, r3)) :
  Calls Tryz.prog 12 #[.string a0, .string a1] w fun e w' => e = .returned (.tuple #[.string r1, .string r2, .bool r3]) ∧ Below w.heap.size w w' := by
 have HB := Aside0.mk (Below.refl w.heap.size w); have H := h; unfold r2_Div.f at H; clear h; have HC3 := Aside0.mk H; clear H; go_enter Tryz.func12, Tryz.ntmps12
 go_upto_region 1 with (fail)
 go_cut [27] (fun v27 wc => ∃ (kq : Nat) (x27_2 : Bool), v27 = .bool x27_2 ∧ Aside0 (r2_Div.j0 kq a0 a1 x27_2 = some (r1, r2, r3)) ∧ Aside0 (kq ≤ k) ∧ Aside0 (Below w.heap.size w wc))
 case first =>
  have H := HC3.out; clear HC3; obtain ⟨t144, A4, H⟩ := bi_ H; by_cases c5 : t144 = true
  ·subst c5; rw [if_pos rfl] at H; obtain ⟨t145, A6, H⟩ := bi_ H; by_cases c7 : t145 = true
   ·subst c7; rw [if_pos rfl] at H; have H' := Aside0.mk H; clear H
    go_wp2_with (first | (refine gl_ 17 Tryz.func14 #[.string a0] ?_; refine mo_ (r2_May.calls a0 true _ A4.out) ?_; intro w8 hb; replace HB := bs_ HB hb; (try clear hb); (try clear hb2); (try clear hk); (try clear hi)) | (go_at_call 14; (with_reducible refine (r2_May.calls a1 true _ A6.out).mono ?_); rintro e w9 ⟨rfl, hb⟩; replace HB := bs_ HB hb; (try clear hb); (try clear hb2); (try clear hk); (try clear hi)))
    go_meet
    case rel => exact ⟨_, ((a1.toList == ([48] : List UInt8))), rl_, H', ⟨by first | omega | exact Nat.le_refl _⟩, ⟨b_ HB.out⟩⟩
   ·replace c7 := Bool.eq_false_iff.mpr c7; subst c7; rw [if_neg nf_] at H; have H' := Aside0.mk H; clear H
    go_wp2_with (first | (refine gl_ 17 Tryz.func14 #[.string a0] ?_; refine mo_ (r2_May.calls a0 true _ A4.out) ?_; intro w10 hb; replace HB := bs_ HB hb; (try clear hb); (try clear hb2); (try clear hk); (try clear hi)) | (go_at_call 14; (with_reducible refine (r2_May.calls a1 false _ A6.out).mono ?_); rintro e w11 ⟨rfl, hb⟩; replace HB := bs_ HB hb; (try clear hb); (try clear hb2); (try clear hk); (try clear hi)))
    go_meet
    case rel => exact ⟨_, (true), rl_, H', ⟨by first | omega | exact Nat.le_refl _⟩, ⟨b_ HB.out⟩⟩
  ·replace c5 := Bool.eq_false_iff.mpr c5; subst c5; rw [if_neg nf_] at H; have H' := Aside0.mk H; clear H
   go_wp2_with (first | (refine gl_ 17 Tryz.func14 #[.string a0] ?_; refine mo_ (r2_May.calls a0 false _ A4.out) ?_; intro w12 hb; replace HB := bs_ HB hb; (try clear hb); (try clear hb2); (try clear hk); (try clear hi)))
   go_meet
   case rel => exact ⟨_, (true), rl_, H', ⟨by first | omega | exact Nat.le_refl _⟩, ⟨b_ HB.out⟩⟩
 case rest =>
  clear HC3; (try clear c1); (try clear p2); (try clear c5); (try clear c7); (try clear c12); obtain ⟨kq, x27_2, rfl, HA, HJ2, HB⟩ := hcut
  cases kq with
  | zero => exact absurd HA.out (by simp [r2_Div.j0])
  | succ kj2 =>
   have H := HA.out; clear HA; simp only [r2_Div.j0] at H; by_cases c13 : x27_2 = true
   ·subst c13; rw [if_pos rfl] at H; simp only [Option.some.injEq, Prod.mk.injEq] at H; obtain ⟨rfl, rfl, rfl⟩ := H; go_wp2
    go_ret3
    exact ⟨er_, b_ HB.out⟩
   ·replace c13 := Bool.eq_false_iff.mpr c13; subst c13; rw [if_neg nf_] at H; obtain ⟨⟨t146, t147⟩, A14, H⟩ := bi_ H; (try dsimp only at H); obtain ⟨⟨t148, t149⟩, A15, H⟩ := bi_ H; (try dsimp only at H); obtain ⟨⟨t150, t151, t152⟩, A16, H⟩ := bi_ H; (try dsimp only at H); have HC17 := Aside0.mk H; clear H
    go_upto_region 6 with (first | (refine gl_ 30 Tryz.func60 #[.string a0] ?_; refine mo_ (r2_amount.calls a0 t146 t147 _ A14.out) ?_; rintro w' ⟨nd, rfl⟩) | (refine gl_ 35 Tryz.func60 #[.string a1] ?_; refine mo_ (r2_amount.calls a1 t148 t149 _ A15.out) ?_; rintro w' ⟨nd, rfl⟩) | (refine gl_ 41 Tryz.func61 #[.string t146, .string t148] ?_; refine mo_ (r1_Div.calls t146 t148 t150 t151 t152 _ A16.out) ?_; intro w18 hb; replace HB := bs_ HB hb; (try clear hb); (try clear hb2); (try clear hk); (try clear hi)))
    (try simp only [Act.put, List.setIfInBounds_toArray, List.set_cons_zero, List.set_cons_succ])
    go_cut [49] (fun v49 wc => ∃ (kq : Nat) (x49_16 : Bool), v49 = .bool x49_16 ∧ Aside0 (r2_Div.j1 kq t147 t148 t149 t150 t151 x49_16 = some (r1, r2, r3)) ∧ Aside0 (kq ≤ kj2) ∧ Aside0 (Below w.heap.size w wc))
    case first =>
     have H := HC17.out; clear HC17; by_cases c19 : t147 = true
     ·subst c19; rw [if_pos rfl] at H; have H' := Aside0.mk H; clear H; go_wp2
      go_meet
      case rel => exact ⟨_, ((t151.toList != ([48] : List UInt8))), rl_, H', ⟨by have := HJ2.out; first | omega | exact Nat.le_refl _⟩, ⟨b_ HB.out⟩⟩
     ·replace c19 := Bool.eq_false_iff.mpr c19; subst c19; rw [if_neg nf_] at H; have H' := Aside0.mk H; clear H; go_wp2
      go_meet
      case rel => exact ⟨_, (false), rl_, H', ⟨by have := HJ2.out; first | omega | exact Nat.le_refl _⟩, ⟨b_ HB.out⟩⟩
    case rest =>
     clear HC17; (try clear c1); (try clear p2); (try clear c5); (try clear c6); (try clear c7); (try clear c12); (try clear c13); (try clear c14); (try clear c19); (try clear p2); obtain ⟨kq, x49_16, rfl, HA, HJ16, HB⟩ := hcut
     cases kq with
     | zero => exact absurd HA.out (by simp [r2_Div.j1])
     | succ kj16 =>
      have H := HA.out; clear HA; simp only [r2_Div.j1] at H; by_cases c20 : x49_16 = true
      ·subst c20; rw [if_pos rfl] at H; obtain ⟨t153, A21, H⟩ := bi_ H; obtain ⟨⟨t154, t155⟩, A22, H⟩ := bi_ H; (try dsimp only at H); obtain ⟨t156, A23, H⟩ := bi_ H; simp only [Option.some.injEq, Prod.mk.injEq] at H; obtain ⟨rfl, rfl, rfl⟩ := H
       go_wp2_with (first | (refine gl_ 51 Tryz.func62 #[.string t150, .string (⟨#[49]⟩ : ByteArray)] ?_; refine mo_ (r1_Add.calls t150 (⟨#[49]⟩ : ByteArray) t153 _ A21.out) ?_; intro w24 hb; replace HB := bs_ HB hb; (try clear hb); (try clear hb2); (try clear hk); (try clear hi)) | (refine gl_ 55 Tryz.func63 #[.string t148, .string t151] ?_; refine mo_ (r1_Sub.calls t148 t151 t154 t155 _ A22.out) ?_; intro w25 hb; replace HB := bs_ HB hb; (try clear hb); (try clear hb2); (try clear hk); (try clear hi)) | (refine gl_ 63 Tryz.func64 #[.string t153, .bool (t147 != t149)] ?_; refine mo_ (r2_with.calls t153 (t147 != t149) t156 _ A23.out) ?_; rintro w' ⟨nd, rfl⟩))
       go_ret3
       exact ⟨er_, b_ HB.out⟩
      ·replace c20 := Bool.eq_false_iff.mpr c20; subst c20; rw [if_neg nf_] at H; obtain ⟨t157, A26, H⟩ := bi_ H; simp only [Option.some.injEq, Prod.mk.injEq] at H; obtain ⟨rfl, rfl, rfl⟩ := H
       go_wp2_with (first | (refine gl_ 63 Tryz.func64 #[.string t150, .bool (t147 != t149)] ?_; refine mo_ (r2_with.calls t150 (t147 != t149) t157 _ A26.out) ?_; rintro w' ⟨nd, rfl⟩))
       go_ret3
       exact ⟨er_, b_ HB.out⟩
end Go.Proofs.YtmkmldkfaehefaaGreatDoor.Px
end

section
namespace Go.Proofs.YtmkmldkfaehefaaGreatDoor.Px
end Go.Proofs.YtmkmldkfaehefaaGreatDoor.Px
end

section
namespace Go.Proofs.YtmkmldkfaehefaaGreatDoor
theorem amount_f (a : ByteArray) : Px.r2_amount.f a = some (amtB a, minusB a) := by
 unfold Px.r2_amount.f amtB minusB
 have hs := size_len a
 cases hl : a.data.toList with
 | nil =>
  rw [hl, List.length_nil] at hs
  rw [if_neg (by omega)]
  simp only [cutL]
  congr 2
  apply bext
  rw [hl]
 | cons c r =>
  rw [hl, List.length_cons] at hs
  obtain ⟨c', hc, hb⟩ := bt_get a 0 (by omega)
  have hcc : c' = c := by
   rw [hl] at hc
   exact (Option.some.inj hc).symm
  subst hcc
  have hb' : bt a 0 = (c'.toNat : Int) := hb
  rw [if_pos (by omega), if_pos (by omega), hb']
  by_cases h : c' = 45
  ·subst h
   rw [if_pos (by decide), if_pos (by omega)]
   simp only [cutL]
   congr 2
   apply bext
   rw [Lib.extract_to_end, hl]
   rfl
  ·have hn : ¬ (c'.toNat : Int) = 45 := by
    intro e
    exact h (UInt8.toNat_inj.1 (by rw [show (45 : UInt8).toNat = 45 from rfl]; omega))
   have e : cutL (c' :: r) = (c' :: r, false) := by
    unfold cutL
    split
    ·rename_i h'
     injection h' with h' _
     exact absurd h' h
    ·rfl
   rw [if_neg hn, e]
   congr 2
   apply bext
   rw [hl]
theorem amtB_size' (a : ByteArray) : (amtB a).size ≤ a.size := by
 rw [size_len, size_len, amtB_list]
 unfold cutL
 split
 ·rename_i h; rw [h]; simp
 ·exact Nat.le_refl _
theorem r2may_f {a : ByteArray} (h : a.size ≤ 50000) : Px.r2_May.f a = some (mayW a) := by
 unfold Px.r2_May.f mayW
 have hs := amtB_size' a
 rw [amount_f, Option.bind_some, rMay (a := amtB a) (by omega), Option.bind_some]
 cases hm : mayB (amtB a) with
 | false => rfl
 | true =>
  simp only [if_true, Bool.true_and]
  cases hn : minusB a with
  | false => rfl
  | true =>
   simp only [if_true, Bool.not_true, Bool.false_or]
   congr 1
   have h48 := list48 hm
   rw [← ByteArray.toList_eq] at h48
   rw [Bool.eq_iff_iff, bne_iff_ne, decide_eq_true_eq]
   exact not_congr h48
def r2_May.f (a0 : ByteArray) : Option Bool := if sm a0 = true then some (mayW a0) else none
theorem r2_May.calls (a0 : ByteArray) (r : Bool) (w : World) (h : r2_May.f a0 = some r) :
  Calls Tryz.prog 14 #[.string a0] w fun e w' => e = .returned (.bool r) ∧ Below w.heap.size w w' := by
 unfold r2_May.f at h
 split at h
 ·rename_i hp
  rw [← r2may_f (sm_le hp)] at h
  exact Px.r2_May.calls a0 r w h
 ·cases h
end Go.Proofs.YtmkmldkfaehefaaGreatDoor
end

section
namespace Go.Proofs.YtmkmldkfaehefaaGreatDoor
theorem shorts2 {a b : ByteArray} : r1_Short.f [a, b] = some (shortT a && shortT b) := by
 rw [rShort (by simp)]
 simp [List.all_cons]
theorem wf_i64 {n : Int} (h : (Lit.int .i64 n).wf = true) : -9223372036854775808 ≤ n ∧ n ≤ 9223372036854775807 := by
 have e1 : IntKind.i64.min = -9223372036854775808 := rfl
 have e2 : IntKind.i64.max = 9223372036854775807 := rfl
 simp [Lit.wf, e1, e2] at h
 exact h
theorem bne_same {α : Type} [BEq α] [LawfulBEq α] (a : α) : ¬ (a != a) = true := by simp
end Go.Proofs.YtmkmldkfaehefaaGreatDoor
end

section
namespace Go.Proofs.YtmkmldkfaehefaaGreatDoor
theorem rMay2 {a : ByteArray} (h : a.size ≤ 50000) : r2_May.f a = some (mayW a) := by
 unfold r2_May.f
 rw [if_pos (show sm a = true from decide_eq_true h)]
end Go.Proofs.YtmkmldkfaehefaaGreatDoor
end

section
namespace Go.Proofs.YtmkmldkfaehefaaGreatDoor
theorem rAdd {m n : Nat} (hm : sz m ≤ 50000) (hn : sz n ≤ 50000) : r1_Add.f (natB m) (natB n) = some (natB (m + n)) := by
 unfold r1_Add.f addS
 rw [if_pos (sm2_natB hm hn), if_pos (may2_natB m n), numB_natB, numB_natB]
theorem rMul {m n : Nat} (hm : sz m ≤ 50000) (hn : sz n ≤ 50000) : r1_Mul.f (natB m) (natB n) = some (natB (m * n)) := by
 unfold r1_Mul.f mulS
 rw [if_pos (sm2_natB hm hn), if_pos (may2_natB m n), numB_natB, numB_natB]
theorem rCmp {m n : Nat} (hm : sz m ≤ 50000) (hn : sz n ≤ 50000) : r1_Cmp.f (natB m) (natB n) = some (Lib.compareInt (m : Int) (n : Int)) := by
 unfold r1_Cmp.f cmpS
 rw [if_pos (sm2_natB hm hn), if_pos (may2_natB m n), numB_natB, numB_natB]
theorem rSub {m n : Nat} (hm : sz m ≤ 50000) (hn : sz n ≤ 50000) : r1_Sub.f (natB m) (natB n) = some (if n ≤ m then (natB (m - n), true) else (noB, false)) := by
 unfold r1_Sub.f subS
 rw [if_pos (sm2_natB hm hn), may2_natB, numB_natB, numB_natB, Bool.true_and]
 by_cases h : n ≤ m
 ·rw [if_pos (decide_eq_true h), if_pos h]
 ·rw [if_neg (by rw [decide_eq_true_eq]; exact h), if_neg h]
theorem rDiv {m n : Nat} (hm : sz m ≤ 50000) (hn : sz n ≤ 50000) (h : n ≠ 0) : r1_Div.f (natB m) (natB n) = some (natB (m / n), natB (m % n), true) := by
 unfold r1_Div.f divS
 rw [if_pos (sm2_natB hm hn), may2_natB, numB_natB, numB_natB, Bool.true_and, if_pos (decide_eq_true h)]
theorem may2W_and' {a b : ByteArray} : may2W a b = true ↔ mayW a = true ∧ mayW b = true := by unfold may2W; rw [Bool.and_eq_true]
theorem may2W_int' (x y : Int) : may2W (intB x) (intB y) = true := may2W_and'.2 ⟨mayW_int x, mayW_int y⟩
theorem casesW' (a b : ByteArray) : (∃ x y, a = intB x ∧ b = intB y) ∨ ¬ may2W a b = true := by
 by_cases h : may2W a b = true
 ·obtain ⟨h1, h2⟩ := may2W_and'.1 h
  obtain ⟨x, hx⟩ := of_mayW h1
  obtain ⟨y, hy⟩ := of_mayW h2
  exact .inl ⟨x, y, hx, hy⟩
 ·exact .inr h
theorem withS_int' (z : Int) : withS (decide (z < 0)) z.natAbs = z := by
 unfold withS
 by_cases h : z < 0
 ·rw [if_pos (decide_eq_true h)]; omega
 ·rw [if_neg (by rw [decide_eq_true_eq]; exact h)]; omega
theorem withS_not' (z : Int) : withS (!decide (z < 0)) z.natAbs = -z := by
 unfold withS
 by_cases h : z < 0
 ·rw [decide_eq_true h, if_neg (by decide)]; omega
 ·rw [decide_eq_false h, if_pos (by decide)]; omega
theorem with_f (b : Bool) {n : Nat} (h : sz n ≤ 1000000) : Px.r2_with.f (natB n) b = some (intB (withS b n)) := by
 rw [← withS_text]
 unfold Px.r2_with.f
 cases b with
 | false => rfl
 | true =>
  simp only [if_true]
  by_cases hz : n = 0
  ·rw [if_pos (natB_toList_zero.2 hz), if_pos hz]
  ·unfold sz at h
   rw [if_neg (fun e => hz (natB_toList_zero.1 e)), if_neg hz, if_pos (by omega)]
theorem r2of_f (n : Int) (h0 : -9223372036854775808 ≤ n) (h1 : n ≤ 9223372036854775807) : Px.r2_Of.f n = some (intB n) := by
 unfold Px.r2_Of.f
 have hof : ∀ m : Int, 0 ≤ m → m ≤ 9223372036854775807 → r1_Of.f m = some (natB m.toNat) := by
  intro m h2 h3
  unfold r1_Of.f ofS
  rw [if_pos ⟨by omega, h3⟩, if_neg (by omega)]
 by_cases h : n < 0
 ·rw [if_pos h, w64 (x := n + 1) (by omega) (by omega), w64 (by omega) (by omega), hof _ (by omega) (by omega), Option.bind_some, ← natB_one]
  have s1 : sz (-(n + 1)).toNat ≤ 20 := sz_le (by omega) (by omega)
  have s2 : sz 1 ≤ 20 := sz_le (by omega) (by omega)
  have s3 := sz_add (-(n + 1)).toNat 1
  rw [rAdd (by omega) (by omega), Option.bind_some, if_pos (by unfold sz at s1 s2 s3; omega)]
  have e : (-(n + 1)).toNat + 1 = n.natAbs := by omega
  rw [e]
  unfold intB
  rw [if_pos h]
 ·rw [if_neg h, hof n (by omega) h1, Option.bind_some, intB_nonneg (by omega)]
theorem r2abs_f {a : ByteArray} (h : a.size ≤ 50000) : Px.r2_Abs.f a = some (wabsS a) := by
 unfold Px.r2_Abs.f wabsS
 rw [r2may_f h, Option.bind_some]
 by_cases hm : mayW a = true
 ·obtain ⟨z, rfl⟩ := of_mayW hm
  rw [if_pos hm, amount_f, Option.bind_some, if_pos hm, numW_int, amtB_int]
 ·rw [if_neg hm, if_neg hm]
  rfl
theorem r2neg_f {a : ByteArray} (h : a.size ≤ 50000) : Px.r2_Neg.f a = some (wnegS a) := by
 unfold Px.r2_Neg.f wnegS
 rw [r2may_f h, Option.bind_some]
 by_cases hm : mayW a = true
 ·obtain ⟨z, rfl⟩ := of_mayW hm
  have h1 := le_szI z
  have h2 : szI z ≤ 50000 := h
  rw [if_pos hm, amount_f, Option.bind_some, if_pos hm, numW_int, amtB_int, minusB_int, with_f _ (by omega), withS_not']
  rfl
 ·rw [if_neg hm, if_neg hm]
  rfl
theorem r2sign_f {a : ByteArray} (h : a.size ≤ 50000) (k : Nat) : Px.r2_Sign.f (k + 1) a = some (wsignS a) := by
 unfold Px.r2_Sign.f wsignS
 rw [amount_f, Option.bind_some, r2may_f h, Option.bind_some]
 by_cases hm : mayW a = true
 ·obtain ⟨z, rfl⟩ := of_mayW hm
  rw [if_pos hm, if_pos hm, amtB_int, minusB_int, natB_beq_zero, numW_int]
  simp only [Px.r2_Sign.j0]
  rcases (by omega : z < 0 ∨ z = 0 ∨ 0 < z) with hz | hz | hz
  ·rw [if_neg (by rw [decide_eq_true_eq]; omega), if_pos (decide_eq_true hz), cmp_lt' hz]
  ·subst hz
   rfl
  ·rw [if_neg (by rw [decide_eq_true_eq]; omega), if_neg (by rw [decide_eq_true_eq]; omega), cmp_gt' hz]
 ·rw [if_neg hm, if_neg hm]
  rfl
theorem r2add_core {m n : Nat} (a b : Bool) (hm : sz m ≤ 50000) (hn : sz n ≤ 50000) :
  (if (a == b) = true then ((r1_Add.f (natB m) (natB n)).bind fun t => ((Px.r2_with.f t a).bind fun u => some u)) else ((r1_Cmp.f (natB m) (natB n)).bind fun c => (if c ≥ 0 then ((r1_Sub.f (natB m) (natB n)).bind fun d => ((Px.r2_with.f d.1 a).bind fun u => some u)) else ((r1_Sub.f (natB n) (natB m)).bind fun d => ((Px.r2_with.f d.1 b).bind fun u => some u))))) = some (intB (withS a m + withS b n)) := by
 have s1 := sz_add m n
 have s2 := sz_mono (show m - n ≤ m by omega)
 have s3 := sz_mono (show n - m ≤ n by omega)
 by_cases h : a = b
 ·subst h
  rw [if_pos (by simp), rAdd hm hn, Option.bind_some, with_f _ (by omega), Option.bind_some]
  congr 2
  unfold withS
  cases a
  ·simp
  ·simp only [if_true]; omega
 ·rw [if_neg (by simpa using h), rCmp hm hn, Option.bind_some]
  by_cases hle : n ≤ m
  ·have hc : Lib.compareInt (m : Int) (n : Int) ≥ 0 := by unfold Lib.compareInt; (repeat' split) <;> omega
   rw [if_pos hc, rSub hm hn, Option.bind_some, if_pos hle, with_f _ (by omega), Option.bind_some]
   congr 2
   unfold withS
   cases a <;> cases b <;> first | exact absurd rfl h | (simp only [Bool.false_eq_true, if_true, if_false]; omega)
  ·have hc : ¬ Lib.compareInt (m : Int) (n : Int) ≥ 0 := by unfold Lib.compareInt; (repeat' split) <;> omega
   rw [if_neg hc, rSub hn hm, Option.bind_some, if_pos (by omega), with_f _ (by omega), Option.bind_some]
   congr 2
   unfold withS
   cases a <;> cases b <;> first | exact absurd rfl h | (simp only [Bool.false_eq_true, if_true, if_false]; omega)
theorem r2add_f {a b : ByteArray} (ha : a.size ≤ 50000) (hb : b.size ≤ 50000) (k : Nat) : Px.r2_Add.f (k + 1) a b = some (waddS a b) := by
 unfold Px.r2_Add.f waddS
 rw [r2may_f ha, Option.bind_some]
 rcases casesW' a b with ⟨x, y, rfl, rfl⟩ | hm
 ·have h1 := le_szI x
  have h2 := le_szI y
  have h3 : szI x ≤ 50000 := ha
  have h4 : szI y ≤ 50000 := hb
  rw [if_pos (mayW_int x), r2may_f hb, Option.bind_some, mayW_int]
  simp only [Px.r2_Add.j0]
  rw [if_neg (by decide), amount_f, Option.bind_some, amount_f, Option.bind_some, amtB_int, amtB_int, minusB_int, minusB_int, r2add_core _ _ (by omega) (by omega), withS_int', withS_int', if_pos (may2W_int' x y), numW_int, numW_int]
 ·rw [if_neg hm]
  by_cases h1 : mayW a = true
  ·rw [if_pos h1, r2may_f hb, Option.bind_some, (Bool.not_eq_true _).mp (fun h2 => hm (may2W_and'.2 ⟨h1, h2⟩))]
   rfl
  ·rw [if_neg h1]
   rfl
theorem wneg_size' (a : ByteArray) : (wnegS a).size ≤ a.size + 1 := by
 unfold wnegS
 by_cases hm : mayW a = true
 ·obtain ⟨z, rfl⟩ := of_mayW hm
  rw [if_pos hm, numW_int]
  have h1 := szI_le (-z)
  have h2 := le_szI z
  rw [Int.natAbs_neg] at h1
  unfold szI at h1 h2
  omega
 ·rw [if_neg hm]
  show 0 ≤ _
  omega
theorem r2sub_f {a b : ByteArray} (ha : a.size ≤ 50000) (hb : b.size ≤ 49999) (k : Nat) : Px.r2_Sub.f (k + 1) a b = some (wsubS a b) := by
 unfold Px.r2_Sub.f
 have hs := wneg_size' b
 rw [r2neg_f (by omega), Option.bind_some, r2add_f ha (by omega), Option.bind_some]
 congr 1
 unfold waddS wsubS
 rcases casesW' a b with ⟨x, y, rfl, rfl⟩ | hm
 ·have e : wnegS (intB y) = intB (-y) := by unfold wnegS; rw [if_pos (mayW_int y), numW_int]
  rw [e, if_pos (may2W_int' x (-y)), if_pos (may2W_int' x y), numW_int, numW_int, numW_int, Int.sub_eq_add_neg]
 ·rw [if_neg hm, if_neg]
  intro h
  obtain ⟨h1, h2⟩ := may2W_and'.1 h
  apply hm
  refine may2W_and'.2 ⟨h1, ?_⟩
  unfold wnegS at h2
  split at h2
  ·assumption
  ·exact absurd h2 (by decide)
theorem r2cmp_f {a b : ByteArray} (ha : a.size ≤ 20000) (hb : b.size ≤ 20000) (k : Nat) : Px.r2_Cmp.f (k + 1) a b = some (wcmpS a b) := by
 unfold Px.r2_Cmp.f
 rw [r2sub_f (by omega) (by omega), Option.bind_some]
 rcases casesW' a b with ⟨x, y, rfl, rfl⟩ | hm
 ·have h3 : szI x ≤ 20000 := ha
  have h4 : szI y ≤ 20000 := hb
  have e : wsubS (intB x) (intB y) = intB (x - y) := by unfold wsubS; rw [if_pos (may2W_int' x y), numW_int, numW_int]
  have s : (intB (x - y)).size ≤ 50000 := by
   have h5 := szI_le (x - y)
   have h6 := sz_mono (show (x - y).natAbs ≤ x.natAbs + y.natAbs by omega)
   have h7 := sz_add x.natAbs y.natAbs
   have h8 := le_szI x
   have h9 := le_szI y
   unfold szI at *
   omega
  rw [e, r2sign_f s, Option.bind_some]
  unfold wsignS wcmpS
  rw [if_pos (mayW_int _), if_pos (may2W_int' x y), numW_int, numW_int, numW_int]
  congr 1
  unfold Lib.compareInt
  (repeat' split) <;> first | rfl | omega
 ·have e : wsubS a b = noB := by unfold wsubS; rw [if_neg hm]
  rw [e, r2sign_f (by decide), Option.bind_some]
  unfold wcmpS
  rw [if_neg hm]
  rfl
theorem withS_mul' (a b : Bool) (m n : Nat) : withS (a != b) (m * n) = withS a m * withS b n := by
 unfold withS
 cases a <;> cases b <;> simp [Int.natCast_mul, Int.neg_mul, Int.mul_neg]
theorem r2mul_f {a b : ByteArray} (ha : a.size ≤ 50000) (hb : b.size ≤ 50000) (k : Nat) : Px.r2_Mul.f (k + 1) a b = some (wmulS a b) := by
 unfold Px.r2_Mul.f wmulS
 rw [r2may_f ha, Option.bind_some]
 rcases casesW' a b with ⟨x, y, rfl, rfl⟩ | hm
 ·have h1 := le_szI x
  have h2 := le_szI y
  have h3 : szI x ≤ 50000 := ha
  have h4 : szI y ≤ 50000 := hb
  have h5 := sz_mul x.natAbs y.natAbs
  rw [if_pos (mayW_int x), r2may_f hb, Option.bind_some, mayW_int]
  simp only [Px.r2_Mul.j0]
  rw [if_neg (by decide), amount_f, Option.bind_some, amount_f, Option.bind_some, amtB_int, amtB_int, minusB_int, minusB_int, rMul (by omega) (by omega), Option.bind_some, with_f _ (by omega), withS_mul', withS_int', withS_int', if_pos (may2W_int' x y), numW_int, numW_int]
  rfl
 ·rw [if_neg hm]
  by_cases h1 : mayW a = true
  ·rw [if_pos h1, r2may_f hb, Option.bind_some, (Bool.not_eq_true _).mp (fun h2 => hm (may2W_and'.2 ⟨h1, h2⟩))]
   rfl
  ·rw [if_neg h1]
   rfl
theorem r2div_f {a b : ByteArray} (ha : a.size ≤ 49990) (hb : b.size ≤ 49990) (k : Nat) : Px.r2_Div.f (k + 2) a b = some (wdivS a b) := by
 unfold Px.r2_Div.f wdivS
 rw [r2may_f (by omega), Option.bind_some]
 rcases casesW' a b with ⟨x, y, rfl, rfl⟩ | hm
 ·have h1 := le_szI x
  have h2 := le_szI y
  have h3 : szI x ≤ 49990 := ha
  have h4 : szI y ≤ 49990 := hb
  have hb0 : ((intB y).toList == ([48] : List UInt8)) = decide (y = 0) := by
   have e : (intB 0).toList = [48] := by
    rw [show intB 0 = natB 0 from intB_nat 0]
    exact natB_toList_zero.2 rfl
   rw [Bool.eq_iff_iff, beq_iff_eq, decide_eq_true_eq, ← e]
   exact intB_toList_inj
  rw [if_pos (mayW_int x), r2may_f (by omega), Option.bind_some, if_pos (mayW_int y), may2W_int', Bool.true_and, numW_int, numW_int, hb0]
  show Px.r2_Div.j0 (k + 1 + 1) _ _ _ = _
  simp only [Px.r2_Div.j0]
  by_cases hy : y = 0
  ·subst hy
   rfl
  ·have hy' : y.natAbs ≠ 0 := by omega
   have hd := divW (m := x.natAbs) hy' (decide (x < 0)) (decide (y < 0)) (by intro h; rw [decide_eq_true_eq] at h; omega)
   rw [withS_int', withS_int'] at hd
   have s1 := sz_mono (Nat.div_le_self x.natAbs y.natAbs)
   have s2 := sz_mono (Nat.mod_le x.natAbs y.natAbs)
   have hlt := Nat.mod_lt x.natAbs (show 0 < y.natAbs by omega)
   rw [if_neg (by rw [decide_eq_true_eq]; exact hy), if_pos (decide_eq_true hy), amount_f, Option.bind_some, amount_f, Option.bind_some, amtB_int, amtB_int, minusB_int, minusB_int, rDiv (by omega) (by omega) hy', Option.bind_some, hd.1, hd.2]
   clear hd
   generalize x.natAbs / y.natAbs = q at *
   generalize x.natAbs % y.natAbs = r at *
   have one1 : sz 1 ≤ 1 := sz_le (by omega) (by omega)
   have s3 := sz_add q 1
   by_cases hx : x < 0
   ·rw [if_pos (decide_eq_true hx)]
    simp only [Px.r2_Div.j1]
    by_cases hr : r = 0
    ·subst hr
     rw [if_neg (by have := natB_beq_zero 0; simp [bne, this]), with_f _ (by omega), Option.bind_some, if_neg (by simp), if_neg (by simp), intB_nat]
    ·rw [if_pos (by have := natB_beq_zero r; simp [bne, this, hr]), ← natB_one, rAdd (by omega) (by omega), Option.bind_some, rSub (by omega) (by omega), Option.bind_some, if_pos (by omega), with_f _ (by omega), Option.bind_some, if_pos ⟨decide_eq_true hx, hr⟩, if_pos ⟨decide_eq_true hx, hr⟩, intB_nat]
   ·rw [if_neg (by rw [decide_eq_true_eq]; exact hx)]
    simp only [Px.r2_Div.j1]
    have hf : ¬ (decide (x < 0) = true ∧ r ≠ 0) := fun e => hx (of_decide_eq_true e.1)
    rw [if_neg (by decide), with_f _ (by omega), Option.bind_some, if_neg hf, if_neg hf, intB_nat]
 ·rw [(Bool.not_eq_true _).mp hm]
  by_cases h1 : mayW a = true
  ·rw [if_pos h1, r2may_f (by omega), Option.bind_some, if_neg (fun h2 => hm (may2W_and'.2 ⟨h1, h2⟩))]
   rfl
  ·rw [if_neg h1]
   rfl
def smr (s : ByteArray) : Bool := decide (s.size ≤ 20000)
theorem smr_le {s : ByteArray} (h : smr s = true) : s.size ≤ 20000 := of_decide_eq_true h
def smr2 (a b : ByteArray) : Bool := smr a && smr b
theorem smr2_le {a b : ByteArray} (h : smr2 a b = true) : a.size ≤ 20000 ∧ b.size ≤ 20000 := by
 unfold smr2 at h
 rw [Bool.and_eq_true] at h
 exact ⟨smr_le h.1, smr_le h.2⟩
def r2_Of.f (a0 : Int) : Option ByteArray := if -9223372036854775808 ≤ a0 ∧ a0 ≤ 9223372036854775807 then some (intB a0) else none
theorem r2_Of.calls (a0 : Int) (r : ByteArray) (w : World) (h : r2_Of.f a0 = some r) :
  Calls Tryz.prog 16 #[.int .i64 a0] w fun e w' => e = .returned (.string r) ∧ Below w.heap.size w w' := by
 unfold r2_Of.f at h
 split at h
 ·rename_i hp
  rw [← r2of_f a0 hp.1 hp.2] at h
  exact Px.r2_Of.calls a0 r w h
 ·cases h
def r2_Sign.f (a0 : ByteArray) : Option Int := if smr a0 = true then some (wsignS a0) else none
theorem r2_Sign.calls (a0 : ByteArray) (r : Int) (w : World) (h : r2_Sign.f a0 = some r) :
  Calls Tryz.prog 18 #[.string a0] w fun e w' => e = .returned (.int .i64 r) ∧ Below w.heap.size w w' := by
 unfold r2_Sign.f at h
 split at h
 ·rename_i hp
  have hs := smr_le hp
  rw [← r2sign_f (by omega) 0] at h
  exact Px.r2_Sign.calls _ a0 r w h
 ·cases h
def r2_Abs.f (a0 : ByteArray) : Option ByteArray := if smr a0 = true then some (wabsS a0) else none
theorem r2_Abs.calls (a0 : ByteArray) (r : ByteArray) (w : World) (h : r2_Abs.f a0 = some r) :
  Calls Tryz.prog 20 #[.string a0] w fun e w' => e = .returned (.string r) ∧ Below w.heap.size w w' := by
 unfold r2_Abs.f at h
 split at h
 ·rename_i hp
  have hs := smr_le hp
  rw [← r2abs_f (by omega)] at h
  exact Px.r2_Abs.calls a0 r w h
 ·cases h
def r2_Neg.f (a0 : ByteArray) : Option ByteArray := if smr a0 = true then some (wnegS a0) else none
theorem r2_Neg.calls (a0 : ByteArray) (r : ByteArray) (w : World) (h : r2_Neg.f a0 = some r) :
  Calls Tryz.prog 22 #[.string a0] w fun e w' => e = .returned (.string r) ∧ Below w.heap.size w w' := by
 unfold r2_Neg.f at h
 split at h
 ·rename_i hp
  have hs := smr_le hp
  rw [← r2neg_f (by omega)] at h
  exact Px.r2_Neg.calls a0 r w h
 ·cases h
def r2_Cmp.f (a0 a1 : ByteArray) : Option Int := if smr2 a0 a1 = true then some (wcmpS a0 a1) else none
theorem r2_Cmp.calls (a0 a1 : ByteArray) (r : Int) (w : World) (h : r2_Cmp.f a0 a1 = some r) :
  Calls Tryz.prog 24 #[.string a0, .string a1] w fun e w' => e = .returned (.int .i64 r) ∧ Below w.heap.size w w' := by
 unfold r2_Cmp.f at h
 split at h
 ·rename_i hp
  have hs := smr2_le hp
  rw [← r2cmp_f hs.1 hs.2 0] at h
  exact Px.r2_Cmp.calls _ a0 a1 r w h
 ·cases h
def r2_Add.f (a0 a1 : ByteArray) : Option ByteArray := if smr2 a0 a1 = true then some (waddS a0 a1) else none
theorem r2_Add.calls (a0 a1 : ByteArray) (r : ByteArray) (w : World) (h : r2_Add.f a0 a1 = some r) :
  Calls Tryz.prog 26 #[.string a0, .string a1] w fun e w' => e = .returned (.string r) ∧ Below w.heap.size w w' := by
 unfold r2_Add.f at h
 split at h
 ·rename_i hp
  have hs := smr2_le hp
  rw [← r2add_f (by omega) (by omega) 0] at h
  exact Px.r2_Add.calls _ a0 a1 r w h
 ·cases h
def r2_Sub.f (a0 a1 : ByteArray) : Option ByteArray := if smr2 a0 a1 = true then some (wsubS a0 a1) else none
theorem r2_Sub.calls (a0 a1 : ByteArray) (r : ByteArray) (w : World) (h : r2_Sub.f a0 a1 = some r) :
  Calls Tryz.prog 28 #[.string a0, .string a1] w fun e w' => e = .returned (.string r) ∧ Below w.heap.size w w' := by
 unfold r2_Sub.f at h
 split at h
 ·rename_i hp
  have hs := smr2_le hp
  rw [← r2sub_f (by omega) (by omega) 0] at h
  exact Px.r2_Sub.calls _ a0 a1 r w h
 ·cases h
def r2_Mul.f (a0 a1 : ByteArray) : Option ByteArray := if smr2 a0 a1 = true then some (wmulS a0 a1) else none
theorem r2_Mul.calls (a0 a1 : ByteArray) (r : ByteArray) (w : World) (h : r2_Mul.f a0 a1 = some r) :
  Calls Tryz.prog 30 #[.string a0, .string a1] w fun e w' => e = .returned (.string r) ∧ Below w.heap.size w w' := by
 unfold r2_Mul.f at h
 split at h
 ·rename_i hp
  have hs := smr2_le hp
  rw [← r2mul_f (by omega) (by omega) 0] at h
  exact Px.r2_Mul.calls _ a0 a1 r w h
 ·cases h
def r2_Div.f (a0 a1 : ByteArray) : Option (ByteArray × ByteArray × Bool) := if smr2 a0 a1 = true then some (wdivS a0 a1) else none
theorem r2_Div.calls (a0 a1 : ByteArray) (r1 r2 : ByteArray) (r3 : Bool) (w : World) (h : r2_Div.f a0 a1 = some (r1, r2, r3)) :
  Calls Tryz.prog 12 #[.string a0, .string a1] w fun e w' => e = .returned (.tuple #[.string r1, .string r2, .bool r3]) ∧ Below w.heap.size w w' := by
 unfold r2_Div.f at h
 split at h
 ·rename_i hp
  have hs := smr2_le hp
  rw [← r2div_f (by omega) (by omega) 0] at h
  exact Px.r2_Div.calls _ a0 a1 r1 r2 r3 w h
 ·cases h
end Go.Proofs.YtmkmldkfaehefaaGreatDoor
end

section
namespace Go.Proofs.YtmkmldkfaehefaaGreatDoor.Pf
def errW : Option Int → Value
 | none => .nilIface
 | some c => .iface 0 (.int .i64 c)
theorem errW_none : errW none = .nilIface := rfl
theorem errW_some (c : Int) : errW (some c) = .iface 0 (.int .i64 c) := rfl
end Go.Proofs.YtmkmldkfaehefaaGreatDoor.Pf
end

section
namespace Go.Proofs.YtmkmldkfaehefaaGreatDoor.Pf
def dl2_fixed.f  : Option (Bool) := (whole_Div.f (⟨#[45, 55]⟩ : ByteArray) (⟨#[50]⟩ : ByteArray)).bind fun bt101 => ((whole_Div.f (⟨#[45, 55]⟩ : ByteArray) (⟨#[45, 50]⟩ : ByteArray)).bind fun bt104 => ((whole_Div.f (⟨#[45, 55]⟩ : ByteArray) (⟨#[48]⟩ : ByteArray)).bind fun bt107 => (if bt101.1.toList = ([45, 52] : List UInt8) then (if bt101.2.1.toList = ([49] : List UInt8) then (if bt101.2.2 = true then (if bt104.1.toList = ([52] : List UInt8) then (if bt104.2.1.toList = ([49] : List UInt8) then (if bt104.2.2 = true then (if bt107.2.2 = true then (some false) else ((whole_Add.f (⟨#[45, 53]⟩ : ByteArray) (⟨#[51]⟩ : ByteArray)).bind fun t110 => (if t110.toList = ([45, 50] : List UInt8) then ((whole_Sub.f (⟨#[51]⟩ : ByteArray) (⟨#[53]⟩ : ByteArray)).bind fun t111 => (if t111.toList = ([45, 50] : List UInt8) then ((whole_Mul.f (⟨#[45, 51]⟩ : ByteArray) (⟨#[45, 53]⟩ : ByteArray)).bind fun t112 => (if t112.toList = ([49, 53] : List UInt8) then ((whole_Neg.f (⟨#[48]⟩ : ByteArray)).bind fun t113 => (if t113.toList = ([48] : List UInt8) then ((whole_Neg.f (⟨#[55]⟩ : ByteArray)).bind fun t114 => (if t114.toList = ([45, 55] : List UInt8) then ((whole_Abs.f (⟨#[45, 55]⟩ : ByteArray)).bind fun t115 => (if t115.toList = ([55] : List UInt8) then ((whole_Sign.f (⟨#[45, 55]⟩ : ByteArray)).bind fun t116 => (if t116 = (-1) then ((whole_Cmp.f (⟨#[45, 55]⟩ : ByteArray) (⟨#[45, 56]⟩ : ByteArray)).bind fun t117 => (if t117 = 1 then ((whole_Of.f (-9223372036854775808)).bind fun t118 => (if t118.toList = ([45, 57, 50, 50, 51, 51, 55, 50, 48, 51, 54, 56, 53, 52, 55, 55, 53, 56, 48, 56] : List UInt8) then ((whole_May.f (⟨#[45, 49]⟩ : ByteArray)).bind fun t119 => (if t119 = true then ((whole_May.f (⟨#[45, 48]⟩ : ByteArray)).bind fun t120 => (if t120 = true then (some false) else ((whole_May.f (⟨#[45, 45, 49]⟩ : ByteArray)).bind fun t121 => (some (!t121))))) else (some false))) else (some false))) else (some false))) else (some false))) else (some false))) else (some false))) else (some false))) else (some false))) else (some false))) else (some false)))) else (some false)) else (some false)) else (some false)) else (some false)) else (some false)) else (some false))))
set_option maxHeartbeats 8000000 in
set_option maxRecDepth 100000 in
theorem dl2_fixed.calls  (r : Bool) (w : World) (hL_ : Laid w) (hr_ : Aside0 (r = true)) (h : dl2_fixed.f  = some r) :
  Calls Tryz.prog 10 #[] w fun e w' => e = .returned (.bool r) ∧ Below w.heap.size w w' := by
 have HLD := Aside0.mk hL_; clear hL_; have HB := Aside0.mk (Below.refl w.heap.size w); have H := h; unfold dl2_fixed.f at H; clear h; obtain ⟨⟨t101, t102, t103⟩, A1, H⟩ := bi_ H; (try dsimp only at H); obtain ⟨⟨t104, t105, t106⟩, A2, H⟩ := bi_ H; (try dsimp only at H); obtain ⟨⟨t107, t108, t109⟩, A3, H⟩ := bi_ H; (try dsimp only at H); by_cases c4 : t101.toList = ([45, 52] : List UInt8)
 ·rw [if_pos c4] at H; have c4b0 : (t101.toList == ([45, 52] : List UInt8)) = true := beq_iff_eq.mpr c4; have c4b1 : (t101.toList != ([45, 52] : List UInt8)) = false := bne_eq_false_iff_eq.mpr c4; clear c4; by_cases c5 : t102.toList = ([49] : List UInt8)
  ·rw [if_pos c5] at H; have c5b0 : (t102.toList == ([49] : List UInt8)) = true := beq_iff_eq.mpr c5; have c5b1 : (t102.toList != ([49] : List UInt8)) = false := bne_eq_false_iff_eq.mpr c5; clear c5; by_cases c6 : t103 = true
   ·subst c6; rw [if_pos rfl] at H; by_cases c7 : t104.toList = ([52] : List UInt8)
    ·rw [if_pos c7] at H; have c7b0 : (t104.toList == ([52] : List UInt8)) = true := beq_iff_eq.mpr c7; have c7b1 : (t104.toList != ([52] : List UInt8)) = false := bne_eq_false_iff_eq.mpr c7; clear c7; by_cases c8 : t105.toList = ([49] : List UInt8)
     ·rw [if_pos c8] at H; have c8b0 : (t105.toList == ([49] : List UInt8)) = true := beq_iff_eq.mpr c8; have c8b1 : (t105.toList != ([49] : List UInt8)) = false := bne_eq_false_iff_eq.mpr c8; clear c8; by_cases c9 : t106 = true
      ·subst c9; rw [if_pos rfl] at H; by_cases c10 : t109 = true
       ·subst c10
        have H1 : (some false) = some r := by rw [if_pos rfl] at H; exact H
        exact absurd (H1.trans (congrArg some hr_.out)) (by decide)
       ·replace c10 := Bool.eq_false_iff.mpr c10; subst c10; rw [if_neg nf_] at H; obtain ⟨t110, A14, H⟩ := bi_ H; by_cases c15 : t110.toList = ([45, 50] : List UInt8)
        ·rw [if_pos c15] at H; have c15b0 : (t110.toList == ([45, 50] : List UInt8)) = true := beq_iff_eq.mpr c15; have c15b1 : (t110.toList != ([45, 50] : List UInt8)) = false := bne_eq_false_iff_eq.mpr c15; clear c15; obtain ⟨t111, A16, H⟩ := bi_ H; by_cases c17 : t111.toList = ([45, 50] : List UInt8)
         ·rw [if_pos c17] at H; have c17b0 : (t111.toList == ([45, 50] : List UInt8)) = true := beq_iff_eq.mpr c17; have c17b1 : (t111.toList != ([45, 50] : List UInt8)) = false := bne_eq_false_iff_eq.mpr c17; clear c17; obtain ⟨t112, A18, H⟩ := bi_ H; by_cases c19 : t112.toList = ([49, 53] : List UInt8)
          ·rw [if_pos c19] at H; have c19b0 : (t112.toList == ([49, 53] : List UInt8)) = true := beq_iff_eq.mpr c19; have c19b1 : (t112.toList != ([49, 53] : List UInt8)) = false := bne_eq_false_iff_eq.mpr c19; clear c19; obtain ⟨t113, A20, H⟩ := bi_ H; by_cases c21 : t113.toList = ([48] : List UInt8)
           ·rw [if_pos c21] at H; have c21b0 : (t113.toList == ([48] : List UInt8)) = true := beq_iff_eq.mpr c21; have c21b1 : (t113.toList != ([48] : List UInt8)) = false := bne_eq_false_iff_eq.mpr c21; clear c21; obtain ⟨t114, A22, H⟩ := bi_ H; by_cases c23 : t114.toList = ([45, 55] : List UInt8)
            ·rw [if_pos c23] at H; have c23b0 : (t114.toList == ([45, 55] : List UInt8)) = true := beq_iff_eq.mpr c23; have c23b1 : (t114.toList != ([45, 55] : List UInt8)) = false := bne_eq_false_iff_eq.mpr c23; clear c23; obtain ⟨t115, A24, H⟩ := bi_ H; by_cases c25 : t115.toList = ([55] : List UInt8)
             ·rw [if_pos c25] at H; have c25b0 : (t115.toList == ([55] : List UInt8)) = true := beq_iff_eq.mpr c25; have c25b1 : (t115.toList != ([55] : List UInt8)) = false := bne_eq_false_iff_eq.mpr c25; clear c25; obtain ⟨t116, A26, H⟩ := bi_ H; by_cases c27 : t116 = (-1)
              ·rw [if_pos c27] at H; have c27b0 : (t116 == (-1)) = true := beq_iff_eq.mpr c27; have c27b1 : (t116 != (-1)) = false := bne_eq_false_iff_eq.mpr c27; clear c27; obtain ⟨t117, A28, H⟩ := bi_ H; by_cases c29 : t117 = 1
               ·rw [if_pos c29] at H; have c29b0 : (t117 == 1) = true := beq_iff_eq.mpr c29; have c29b1 : (t117 != 1) = false := bne_eq_false_iff_eq.mpr c29; clear c29; obtain ⟨t118, A30, H⟩ := bi_ H; by_cases c31 : t118.toList = ([45, 57, 50, 50, 51, 51, 55, 50, 48, 51, 54, 56, 53, 52, 55, 55, 53, 56, 48, 56] : List UInt8)
                ·rw [if_pos c31] at H; have c31b0 : (t118.toList == ([45, 57, 50, 50, 51, 51, 55, 50, 48, 51, 54, 56, 53, 52, 55, 55, 53, 56, 48, 56] : List UInt8)) = true := beq_iff_eq.mpr c31; have c31b1 : (t118.toList != ([45, 57, 50, 50, 51, 51, 55, 50, 48, 51, 54, 56, 53, 52, 55, 55, 53, 56, 48, 56] : List UInt8)) = false := bne_eq_false_iff_eq.mpr c31; clear c31; obtain ⟨t119, A32, H⟩ := bi_ H; by_cases c33 : t119 = true
                 ·subst c33; rw [if_pos rfl] at H; obtain ⟨t120, A34, H⟩ := bi_ H; by_cases c35 : t120 = true
                  ·subst c35
                   have H1 : (some false) = some r := by rw [if_pos rfl] at H; exact H
                   exact absurd (H1.trans (congrArg some hr_.out)) (by decide)
                  ·replace c35 := Bool.eq_false_iff.mpr c35; subst c35; rw [if_neg nf_] at H; obtain ⟨t121, A50, H⟩ := bi_ H; obtain rfl := Option.some.inj H; go_enter Tryz.func10, Tryz.ntmps10
                   go_wp2_with (first | (refine gl_ 11 Tryz.func11 #[.string (⟨#[45, 55]⟩ : ByteArray), .string (⟨#[50]⟩ : ByteArray)] ?_; refine mo_ (whole_Div.calls (⟨#[45, 55]⟩ : ByteArray) (⟨#[50]⟩ : ByteArray) t101 t102 true _ (lb_ HLD HB) A1.out) ?_; intro w51 hb; replace HB := bs_ HB hb; (try clear hb); (try clear hb2); (try clear hk); (try clear hi)) | (refine gl_ 16 Tryz.func11 #[.string (⟨#[45, 55]⟩ : ByteArray), .string (⟨#[45, 50]⟩ : ByteArray)] ?_; refine mo_ (whole_Div.calls (⟨#[45, 55]⟩ : ByteArray) (⟨#[45, 50]⟩ : ByteArray) t104 t105 true _ (lb_ HLD HB) A2.out) ?_; intro w52 hb; replace HB := bs_ HB hb; (try clear hb); (try clear hb2); (try clear hk); (try clear hi)) | (refine gl_ 21 Tryz.func11 #[.string (⟨#[45, 55]⟩ : ByteArray), .string (⟨#[48]⟩ : ByteArray)] ?_; refine mo_ (whole_Div.calls (⟨#[45, 55]⟩ : ByteArray) (⟨#[48]⟩ : ByteArray) t107 t108 false _ (lb_ HLD HB) A3.out) ?_; intro w53 hb; replace HB := bs_ HB hb; (try clear hb); (try clear hb2); (try clear hk); (try clear hi)) | (go_at_call 25; (with_reducible refine (whole_Add.calls (⟨#[45, 53]⟩ : ByteArray) (⟨#[51]⟩ : ByteArray) t110 _ ?side1 A14.out).mono ?_); (case side1 => exact lb_ HLD HB); rintro e w54 ⟨rfl, hb⟩; replace HB := bs_ HB hb; (try clear hb); (try clear hb2); (try clear hk); (try clear hi)) | (go_at_call 27; (with_reducible refine (whole_Sub.calls (⟨#[51]⟩ : ByteArray) (⟨#[53]⟩ : ByteArray) t111 _ ?side1 A16.out).mono ?_); (case side1 => exact lb_ HLD HB); rintro e w55 ⟨rfl, hb⟩; replace HB := bs_ HB hb; (try clear hb); (try clear hb2); (try clear hk); (try clear hi)) | (go_at_call 29; (with_reducible refine (whole_Mul.calls (⟨#[45, 51]⟩ : ByteArray) (⟨#[45, 53]⟩ : ByteArray) t112 _ ?side1 A18.out).mono ?_); (case side1 => exact lb_ HLD HB); rintro e w56 ⟨rfl, hb⟩; replace HB := bs_ HB hb; (try clear hb); (try clear hb2); (try clear hk); (try clear hi)) | (go_at_call 21; (with_reducible refine (whole_Neg.calls (⟨#[48]⟩ : ByteArray) t113 _ A20.out).mono ?_); rintro e w57 ⟨rfl, hb⟩; replace HB := bs_ HB hb; (try clear hb); (try clear hb2); (try clear hk); (try clear hi)) | (go_at_call 21; (with_reducible refine (whole_Neg.calls (⟨#[55]⟩ : ByteArray) t114 _ A22.out).mono ?_); rintro e w58 ⟨rfl, hb⟩; replace HB := bs_ HB hb; (try clear hb); (try clear hb2); (try clear hk); (try clear hi)) | (go_at_call 19; (with_reducible refine (whole_Abs.calls (⟨#[45, 55]⟩ : ByteArray) t115 _ A24.out).mono ?_); rintro e w59 ⟨rfl, hb⟩; replace HB := bs_ HB hb; (try clear hb); (try clear hb2); (try clear hk); (try clear hi)) | (go_at_call 17; (with_reducible refine (whole_Sign.calls (⟨#[45, 55]⟩ : ByteArray) t116 _ A26.out).mono ?_); rintro e w60 ⟨rfl, hb⟩; replace HB := bs_ HB hb; (try clear hb); (try clear hb2); (try clear hk); (try clear hi)) | (go_at_call 23; (with_reducible refine (whole_Cmp.calls (⟨#[45, 55]⟩ : ByteArray) (⟨#[45, 56]⟩ : ByteArray) t117 _ A28.out).mono ?_); rintro e w61 ⟨rfl, hb⟩; replace HB := bs_ HB hb; (try clear hb); (try clear hb2); (try clear hk); (try clear hi)) | (go_at_call 15; (with_reducible refine (whole_Of.calls (-9223372036854775808) t118 _ ?side1 A30.out).mono ?_); (case side1 => exact lb_ HLD HB); rintro e w62 ⟨rfl, hb⟩; replace HB := bs_ HB hb; (try clear hb); (try clear hb2); (try clear hk); (try clear hi)) | (go_at_call 13; (with_reducible refine (whole_May.calls (⟨#[45, 49]⟩ : ByteArray) true _ A32.out).mono ?_); rintro e w63 ⟨rfl, hb⟩; replace HB := bs_ HB hb; (try clear hb); (try clear hb2); (try clear hk); (try clear hi)) | (go_at_call 13; (with_reducible refine (whole_May.calls (⟨#[45, 48]⟩ : ByteArray) false _ A34.out).mono ?_); rintro e w64 ⟨rfl, hb⟩; replace HB := bs_ HB hb; (try clear hb); (try clear hb2); (try clear hk); (try clear hi)) | (go_at_call 13; (with_reducible refine (whole_May.calls (⟨#[45, 45, 49]⟩ : ByteArray) t121 _ A50.out).mono ?_); rintro e w65 ⟨rfl, hb⟩; replace HB := bs_ HB hb; (try clear hb); (try clear hb2); (try clear hk); (try clear hi)))
                   go_ret
                   exact ⟨er_, b_ HB.out⟩
                 ·replace c33 := Bool.eq_false_iff.mpr c33; subst c33
                  have H1 : (some false) = some r := by rw [if_neg (show ¬ (false = true) by decide)] at H; exact H
                  exact absurd (H1.trans (congrArg some hr_.out)) (by decide)
                ·rw [if_neg c31] at H; exact absurd (H.trans (congrArg some hr_.out)) (by decide)
               ·rw [if_neg c29] at H; exact absurd (H.trans (congrArg some hr_.out)) (by decide)
              ·rw [if_neg c27] at H; exact absurd (H.trans (congrArg some hr_.out)) (by decide)
             ·rw [if_neg c25] at H; exact absurd (H.trans (congrArg some hr_.out)) (by decide)
            ·rw [if_neg c23] at H; exact absurd (H.trans (congrArg some hr_.out)) (by decide)
           ·rw [if_neg c21] at H; exact absurd (H.trans (congrArg some hr_.out)) (by decide)
          ·rw [if_neg c19] at H; exact absurd (H.trans (congrArg some hr_.out)) (by decide)
         ·rw [if_neg c17] at H; exact absurd (H.trans (congrArg some hr_.out)) (by decide)
        ·rw [if_neg c15] at H; exact absurd (H.trans (congrArg some hr_.out)) (by decide)
      ·replace c9 := Bool.eq_false_iff.mpr c9; subst c9
       have H1 : (some false) = some r := by rw [if_neg (show ¬ (false = true) by decide)] at H; exact H
       exact absurd (H1.trans (congrArg some hr_.out)) (by decide)
     ·rw [if_neg c8] at H; exact absurd (H.trans (congrArg some hr_.out)) (by decide)
    ·rw [if_neg c7] at H; exact absurd (H.trans (congrArg some hr_.out)) (by decide)
   ·replace c6 := Bool.eq_false_iff.mpr c6; subst c6
    have H1 : (some false) = some r := by rw [if_neg (show ¬ (false = true) by decide)] at H; exact H
    exact absurd (H1.trans (congrArg some hr_.out)) (by decide)
  ·rw [if_neg c5] at H; exact absurd (H.trans (congrArg some hr_.out)) (by decide)
 ·rw [if_neg c4] at H; exact absurd (H.trans (congrArg some hr_.out)) (by decide)
end Go.Proofs.YtmkmldkfaehefaaGreatDoor.Pf
end

section
namespace Go.Proofs.YtmkmldkfaehefaaGreatDoor.Pf
end Go.Proofs.YtmkmldkfaehefaaGreatDoor.Pf
end

section
namespace Go.Proofs.YtmkmldkfaehefaaGreatDoor
open Go.RowKit
theorem fixed2_true : Pf.dl2_fixed.f = some true := by kernel_rfl
def dl2_fixed.f : Option Bool := some true
theorem dl2_fixed.calls (r : Bool) (w : World) (hL_ : Laid w) (h : dl2_fixed.f = some r) :
  Calls Tryz.prog 10 #[] w fun e w' => e = .returned (.bool r) ∧ Below w.heap.size w w' :=
 Pf.dl2_fixed.calls r w hL_ ⟨(Option.some.inj h).symm⟩ (fixed2_true.trans h)
end Go.Proofs.YtmkmldkfaehefaaGreatDoor
end

section
namespace Go.Proofs.YtmkmldkfaehefaaGreatDoor
open Go.ChangeShapes Go.WideShapes Go.ChangeAt Go.RowKit Go.Lib
abbrev laidL : List (String × DataW Unit) := [("math/bits.deBruijn32tab", Rows.laid_math_bits_deBruijn32tab), ("math/bits.deBruijn64tab", Rows.laid_math_bits_deBruijn64tab), ("internal/strconv.uint64pow10", Rows.laid_internal_strconv_uint64pow10), ("strconv.ErrRange", Rows.laid_strconv_ErrRange), ("strconv.ErrSyntax", Rows.laid_strconv_ErrSyntax)]
theorem own : ownKnob Tryz.prog.godebug = none := by kernel_rfl
theorem tabType : (Tryz.prog.globals[0]?).map (·.type) = some 123 := by kernel_rfl
theorem rngType : (Tryz.prog.globals[2]?).map (·.type) = some 92 := by kernel_rfl
theorem tabCells : Tryz.prog.cellsOf 123 = 20 := by kernel_rfl
theorem u64Cells : Tryz.prog.cellsOf 109 = 1 := by kernel_rfl
theorem errCells : Tryz.prog.cellsOf 144 = 1 := by kernel_rfl
theorem strCells : Tryz.prog.cellsOf 9 = 1 := by kernel_rfl
theorem starErr : "*" ++ "errors.errorString" = "*errors.errorString" := by decide
theorem rowErr (u : TypeId) (h : Tryz.prog.typeName? 3 u = some "*errors.errorString") : u = 142 :=
 typeName_ptr_named (nm := "errors.errorString") (by rw [starErr]; kernel_rfl) (by kernel_rfl) (by decide) u (by rw [starErr]; exact h)
theorem laid_tab_eq : (Rows.laid_internal_strconv_uint64pow10 : DataW Unit) = tabData .u64 pow10Tab := by kernel_rfl
theorem laid_of {W : World} (h : laidMetH Tryz.prog laidL W) : Laid W := by
 rw [MakeChecks.laidMetH_plain _ _ _ (by kernel_rfl)] at h
 have hL := h
 obtain ⟨a1, s1, hv1, -, -, -⟩ := laid_sentinel (hL.tail.tail.tail) gRng rngType Tryz.underlying92 rowErr Tryz.underlying142 Tryz.underlying144 rfl rfl Tryz.underlying9 errCells strCells
 refine ⟨tabIs_of_head gTab tabType Tryz.underlying123 Tryz.underlying109 u64Cells tabCells (by rw [← laid_tab_eq]; exact hL.tail.tail), ⟨_, _, hv1⟩⟩
theorem door_met (os : Os) (args : Array Value) : laidMetH Tryz.prog laidL ((World.doorLaid Tryz.prog 4000 os).forCall (fun _ _ => 0) ⟨#[], args, []⟩).memory :=
 laidMetH_of_parts3 (fuel := 8) (laidMet_of_run' 8 (by kernel_rfl) (by kernel_rfl)) (by kernel_rfl) (by kernel_rfl)
end Go.Proofs.YtmkmldkfaehefaaGreatDoor
end
