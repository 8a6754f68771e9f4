/-
Parts of the proof, in build order: DecApi, DecDone, Pe0, Pe1, Pe2, Pe3, Pe4, Pe, Ref4Api, Ref4Done, NumD, Pf40, Pf41, Pf42, Pf43, Pf4, Fixed4, Agg, Rowb.
-/
import Derived.Test.YtaldgaiaelbbaaaGreatDoorZ4
import Derived.Test.YtaldgaiaelbbaaaGreatDoorProg
import Derived.Below
import Derived.Deep.Draws
import Derived.Deep.AppendLies
import Derived.Maps.AppendAt
import Derived.OwnWalk
import Derived.Laws.BytesArg
import Derived.Laws.MakeOwn
import Derived.Laws.OwnMore
import Derived.Deep.OwnRows
import Derived.Tactics
import Derived.Lib.ConvBytes
import Derived.Laws.Slices
import Derived.WalkKit
import Derived.KernelRfl
import Derived.RowKit3
import Derived.Deep.LoopGhost
import Derived.Deep.QuietTactic
import Derived.BigQuiet
import Derived.WideLaws
import Derived.Deep.DeepCutAuto
import Derived.Deep.CutBlock
import Derived.Deep.RegionHeld3
import Derived.Laws.Rows
import Derived.Lib.AppendStr
import Derived.ArgAppend
import Derived.Laws.IdiomCopy
import Derived.OrdersHeld
import Derived.Laws.BitsLemmas
import Derived.RowKit
import Derived.Test.YtaldgaiaelbbaaaGreatDoorZ0
import Derived.Test.YtaldgaiaelbbaaaGreatDoorZ3
import Derived.Test.YtaldgaiaelbbaaaGreatDoorZ1
import Derived.Test.YtaldgaiaelbbaaaGreatDoorZ2
import Derived.Lib.SmallJoins
import Derived.Laws.IdiomArrays
import Derived.ChangeMaps5
import Derived.Test.YtaldgaiaelbbaaaGreatDoorRows
import Derived.ProofKit
import Derived.OpenShut
import Derived.ShutString
import Derived.ChangeOld
import Derived.SizedLaws
import Derived.LaidMore
import Derived.LaidHandle
import Derived.MakeChecks
import Derived.Lib.LaidTab
import Derived.Stop.LaidErr
import Derived.Stop.Joined
import Derived.RowKitTokens
import Derived.JoinedOf
import Derived.JoinedAt
import Derived.ChangeVars
import Derived.ChangeSame
import Derived.LaidLaws
import Derived.HandedShaped
import Derived.Shelf.Vars
import Derived.Lay
set_option linter.unusedVariables false
set_option linter.unusedSimpArgs false
open Go.RowKit Go.Proofs.YtaldgaiaelbbaaaGreatDoorW.PrintWords Go.Proofs.YtaldgaiaelbbaaaGreatDoorW.PrintLast Go.Proofs.YtaldgaiaelbbaaaGreatDoorW.PrintMore
section
namespace Go.Proofs.YtaldgaiaelbbaaaGreatDoor
theorem rep_f {c : Int} (h0 : 0 ≤ c) (h1 : c ≤ 140737488355328) : strings_Repeat.f ⟨#[48]⟩ c = some (zerosB c) := by
 unfold strings_Repeat.f
 rw [if_pos]
 ·show some (⟨(Lib.repeatL [48] c.toNat).toArray⟩ : ByteArray) = some (zerosB c)
  rw [repeatL_one]
  rfl
 ·rw [Bool.and_eq_true, Bool.and_eq_true, decide_eq_true_eq, decide_eq_true_eq, decide_eq_true_eq]
  refine ⟨⟨h0, ?_⟩, by omega⟩
  show 1 * c.toNat ≤ _
  omega
theorem power_f {n : Nat} (h : n ≤ 1000000) : Pd.decimal_power.f (n : Int) = some (natB (10 ^ n)) := by
 unfold Pd.decimal_power.f
 rw [rep_f (by omega) (by omega), Option.bind_some, if_pos (by rw [zerosB_size]; omega), tenBB]
theorem times_loop {b : Nat} (hb : 2 ≤ b) (hs : sz b ≤ 50000) : ∀ (n : Nat), 0 < n → sz n ≤ 50000 → ∀ (c : Nat), c + (tms b n).1 ≤ 1000000000 → ∀ k, (tms b n).1 + 1 ≤ k →
  Pd.decimal_times.l0 k (natB n) (natB b) (c : Int) = some (((c + (tms b n).1 : Nat) : Int), natB (tms b n).2)
 | n, hn, hz, c, hc, k, hk => by
  obtain ⟨k, rfl⟩ : ∃ m, k = m + 1 := ⟨k - 1, by omega⟩
  simp only [Pd.decimal_times.l0]
  rw [fDiv hz hs (by omega), Option.bind_some]
  by_cases h : n % b = 0
  ·have e := tms_step hb hn h
   rw [e] at hc hk ⊢
   have hd : b ∣ n := Nat.dvd_of_mod_eq_zero h
   have h1 : 0 < n / b := Nat.div_pos (Nat.le_of_dvd hn hd) (by omega)
   have e2 : ((c : Int) + 1) = ((c + 1 : Nat) : Int) := by omega
   rw [if_pos (natB_toList_zero.2 h), w64 (by omega) (by omega), e2, times_loop hb hs (n / b) h1 (Nat.le_trans (sz_mono (Nat.div_le_self _ _)) hz) (c + 1) (by dsimp only at hc; omega) k (by dsimp only at hk; omega)]
   congr 2
   dsimp only
   omega
  ·rw [if_neg (fun z => h (natB_toList_zero.1 z)), tms_stop h]
   rfl
 termination_by n => n
 decreasing_by exact Nat.div_lt_self hn hb
theorem natB_two : (⟨#[50]⟩ : ByteArray) = natB 2 := by kernel_rfl
theorem natB_five : (⟨#[53]⟩ : ByteArray) = natB 5 := by kernel_rfl
theorem sz_two : sz 2 ≤ 50000 := by decide +kernel
theorem sz_five : sz 5 ≤ 50000 := by decide +kernel
theorem places_f {n : Nat} (hn : 0 < n) (hz : sz n ≤ 10000) (k : Nat) (hk : 4 * sz n + 2 ≤ k) : Pd.decimal_places.f k (natB n) = some ((plD n : Int), finD n) := by
 unfold Pd.decimal_places.f Pd.decimal_times.f
 have t1 := tms_le (b := 2) (by decide) hn (lt_sz n)
 have hp := tms_pos (b := 2) (by decide) hn
 have hl := tms_left_le (b := 2) (by decide) hn
 have t2 := tms_le (b := 5) (by decide) hp (Nat.lt_of_le_of_lt hl (lt_sz n))
 have e1 := times_loop (b := 2) (by decide) sz_two n hn (by omega) 0 (by omega) k (by omega)
 have e2 := times_loop (b := 5) (by decide) sz_five (tms 2 n).2 hp (Nat.le_trans (sz_mono hl) (by omega)) 0 (by omega) k (by omega)
 rw [Nat.zero_add] at e1 e2
 rw [natB_two, natB_five]
 have z : (0 : Int) = ((0 : Nat) : Int) := rfl
 rw [z, e1, Option.bind_some]
 dsimp only
 rw [e2, Option.bind_some, mx_nat]
 have e3 : ((natB (tms 5 (tms 2 n).2).2).toList == ([49] : List UInt8)) = finD n := by
  unfold finD
  by_cases h : (tms 5 (tms 2 n).2).2 = 1
  ·rw [natB_toList_one.2 h, h]
   rfl
  ·rw [beq_eq_false_iff_ne.2 (fun z => h (natB_toList_one.1 z)), beq_eq_false_iff_ne.2 h]
 rw [e3]
 rfl
theorem Places_f {x : BB} (hx : x.1.size + x.2.size ≤ 900) (k : Nat) (hk : 3700 ≤ k) : Pd.decimal_Places.f k x.1 x.2 = some (placesS x) := by
 unfold Pd.decimal_Places.f
 have em : rat_May.f x.1 x.2 = some (mayR x) := by
  unfold rat_May.f
  rw [if_pos (show smR (x.1, x.2) = true from decide_eq_true ⟨by dsimp only; omega, by dsimp only; omega⟩)]
 rw [em, Option.bind_some]
 unfold placesS
 by_cases hm : mayR x = true
 ·obtain ⟨q, rfl⟩ := of_mayR hm
  have hs : sz q.den ≤ 900 := Nat.le_trans (le_szR_den q) hx
  have hd : 0 < q.den := Nat.pos_of_ne_zero q.den_nz
  rw [if_pos hm, hm, Bool.true_and, ratR_rT]
  show ((Pd.decimal_places.f k (natB q.den)).bind fun bt110 => _) = _
  rw [places_f hd (by omega) k (by omega), Option.bind_some]
  dsimp only
  split <;> rfl
 ·rw [if_neg hm, if_neg (fun z => hm (Bool.and_eq_true_iff.1 z).1)]
theorem pad_bytes (n : Nat) (m : Nat) (hn : n ≤ 1000000) (hm : sz m ≤ 1000000) :
  strings_Repeat.f ⟨#[48]⟩ (mx (wrap64 ((wrap64 ((n : Int) + 1)) - ((natB m).size : Int))) 0) = some (zerosB ((n + 1 - (Lib.decDigits m).length : Nat) : Int)) ∧ (zerosB ((n + 1 - (Lib.decDigits m).length : Nat) : Int) ++ natB m).data.toList = padL n (Lib.decDigits m) := by
 have e := sz_dig m
 have e1 : ((natB m).size : Int) = ((Lib.decDigits m).length : Int) := by rw [natB_size]
 have e2 : mx (wrap64 ((wrap64 ((n : Int) + 1)) - ((natB m).size : Int))) 0 = ((n + 1 - (Lib.decDigits m).length : Nat) : Int) := by
  rw [e1, w64 (x := (n : Int) + 1) (by omega) (by omega), w64 (by omega) (by omega)]
  unfold mx
  split <;> omega
 rw [e2]
 refine ⟨rep_f (by omega) (by omega), ?_⟩
 rw [Joins.data_append, zerosB_list, natB_list, Int.toNat_natCast]
 rfl
theorem pad_size (n m : Nat) : (padL n (Lib.decDigits m)).length ≤ n + 1 + (Lib.decDigits m).length := by
 unfold padL
 rw [List.length_append, List.length_replicate]
 omega
theorem Print_f {x : BB} (hx : x.1.size + x.2.size ≤ 900) (k : Nat) (hk : 3700 ≤ k) : Pd.decimal_Print.f k x.1 x.2 = some (printS x) := by
 unfold Pd.decimal_Print.f
 have em : rat_May.f x.1 x.2 = some (mayR x) := by
  unfold rat_May.f
  rw [if_pos (show smR (x.1, x.2) = true from decide_eq_true ⟨by dsimp only; omega, by dsimp only; omega⟩)]
 rw [Places_f hx k hk, Option.bind_some, em, Option.bind_some]
 unfold printS
 by_cases hm : mayR x = true
 ·obtain ⟨q, rfl⟩ := of_mayR hm
  have hs : szR q ≤ 900 := hx
  have h1 := le_szR_num q
  have h2 := le_szR_den q
  have hd : 0 < q.den := Nat.pos_of_ne_zero q.den_nz
  rw [if_pos hm, if_pos hm, ratR_rT, places_rT]
  unfold printL
  by_cases hf : finD q.den = true
  ·rw [if_pos hf, if_pos hf]
   dsimp only
   rw [if_pos rfl]
   by_cases h0 : plD q.den = 0
   ·rw [if_pos (by omega), if_pos h0]
    rfl
   ·rw [if_neg (by omega), if_neg h0]
    have hp := plD_le hd (lt_sz q.den)
    have hm2 : sz q.num.natAbs ≤ szI q.num := le_szI _
    have s10 : sz (10 ^ plD q.den) ≤ plD q.den + 1 := sz_le (Nat.pow_lt_pow_right (by decide) (by omega)) (by omega)
    have su : sz (10 ^ plD q.den / q.den) ≤ plD q.den + 1 := Nat.le_trans (sz_mono (Nat.div_le_self _ _)) s10
    have sp := sz_mul q.num.natAbs (10 ^ plD q.den / q.den)
    rw [power_f (by omega), Option.bind_some]
    show ((nat_Div.f (natB (10 ^ plD q.den)) (natB q.den)).bind fun bt118 => _) = _
    rw [fDiv (by omega) (by omega) (by omega), Option.bind_some]
    show ((whole_Abs.f (intB q.num)).bind fun t121 => _) = _
    rw [gAbs (by omega), Option.bind_some, intB_nat, fMul (by omega) (by omega), Option.bind_some]
    obtain ⟨p1, p2⟩ := pad_bytes (plD q.den) (q.num.natAbs * (10 ^ plD q.den / q.den)) (by omega) (by omega)
    rw [p1, Option.bind_some]
    have hsz := pad_size (plD q.den) (q.num.natAbs * (10 ^ plD q.den / q.den))
    have hle := pad_len (plD q.den) (Lib.decDigits (q.num.natAbs * (10 ^ plD q.den / q.den)))
    have e4 := sz_dig (q.num.natAbs * (10 ^ plD q.den / q.den))
    rw [if_pos (by rw [← ByteArray.size_append, size_len, p2]; omega)]
    show ((whole_Sign.f (intB q.num)).bind fun t124 => _) = _
    rw [gSign (by omega), Option.bind_some]
    generalize hT : zerosB ((plD q.den + 1 - (Lib.decDigits (q.num.natAbs * (10 ^ plD q.den / q.den))).length : Nat) : Int) ++ natB (q.num.natAbs * (10 ^ plD q.den / q.den)) = T at *
    have eT : T.size = (padL (plD q.den) (Lib.decDigits (q.num.natAbs * (10 ^ plD q.den / q.den)))).length := by rw [size_len, p2]
    unfold digsL
    rw [← p2]
    by_cases hn : q.num < 0
    ·rw [if_pos (by rw [cmp_lt' hn]; decide), tail_f (s := ⟨#[45]⟩) (p := 1) (by omega) (by omega) rfl (by decide)]
     unfold sgL
     rw [if_pos hn]
    ·rw [if_neg, tail_f (s := ⟨#[]⟩) (p := 0) (by omega) (by omega) rfl (by decide)]
     ·unfold sgL
      rw [if_neg hn]
     ·unfold Lib.compareInt
      (repeat' split) <;> omega
  ·rw [if_neg hf, if_neg hf]
   dsimp only
   rw [if_neg (by decide)]
   have l1 : (⟨#[47]⟩ : ByteArray).size = 1 := rfl
   rw [if_pos (show (rT q).1.size + 1 ≤ 9223372036854775807 by omega), if_pos (show ((rT q).1 ++ (⟨#[47]⟩ : ByteArray)).size + (rT q).2.size ≤ 9223372036854775807 by rw [ByteArray.size_append]; omega)]
   congr 1
   apply bext
   rw [Joins.data_append, Joins.data_append]
   show ((intB q.num).data.toList ++ [47]) ++ (natB q.den).data.toList = (intB q.num).data.toList ++ 47 :: Lib.decDigits q.den
   rw [natB_list, List.append_assoc]
   rfl
 ·rw [if_neg hm, if_neg hm]
  rfl
theorem digits_f {s : ByteArray} (h : s.size ≤ 9223372036854775807) : Pd.decimal_digits.f s = some (digL s.data.toList) := by
 unfold Pd.decimal_digits.f
 rw [ByteArray.toList_eq]
 unfold digL
 by_cases h0 : s.data.toList = []
 ·rw [if_pos h0, decide_eq_false (fun z => z h0)]
  rfl
 ·rw [if_neg h0, decide_eq_true h0, Bool.true_and]
  have e : strings_Trim.f s (⟨#[48, 49, 50, 51, 52, 53, 54, 55, 56, 57]⟩ : ByteArray) = some ⟨(Lib.trimS s.data.toList decs).toArray⟩ := by
   unfold strings_Trim.f
   rw [if_pos]
   ·rfl
   ·rw [decide_eq_true h]
    rfl
  rw [e, Option.bind_some, ByteArray.toList_eq]
  show some (Lib.trimS s.data.toList decs == []) = _
  congr 1
  by_cases ha : s.data.toList.all isDig = true
  ·rw [(trim_nil _).2 ha, ha]
   rfl
  ·rw [beq_eq_false_iff_ne.2 (fun z => ha ((trim_nil _).1 z))]
   exact ((Bool.not_eq_true _).mp ha).symm
theorem plain_f {s : ByteArray} (h : digL s.data.toList = true) : Pd.decimal_plain.f s = some (natB (num s.data.toList)) := by
 unfold Pd.decimal_plain.f strings_TrimLeft.f
 rw [if_pos rfl, Option.bind_some, ByteArray.toList_eq]
 show (if Lib.trimLeftB s.data.toList 48 = [] then _ else _) = _
 have hl := left_dec h
 by_cases h0 : Lib.trimLeftB s.data.toList 48 = []
 ·rw [if_pos h0] at hl ⊢
  congr 1
  apply bext
  rw [natB_list, ← hl]
 ·rw [if_neg h0] at hl ⊢
  congr 1
  apply bext
  rw [natB_list, ← hl]
theorem hMake0 {x : Int} (hx : szI x ≤ 4000) : rat_Make.f (intB x) (natB 0) = some (noB, noB, false) := by
 unfold rat_Make.f rmakeS
 have e : numW (natB 0) = 0 := by rw [← intB_nat, numW_int]; rfl
 rw [if_pos (show smR (intB x, natB 0) = true from decide_eq_true ⟨hx, by dsimp only; rw [natB_zero]; decide⟩), e, if_neg]
 ·rfl
 ·rw [Bool.and_eq_true, decide_eq_true_eq]
  exact fun z => z.2 rfl
theorem make_res {m : Bool} {A B : List UInt8} (hA : digL A = true) (hB : digL B = true) (la : A.length ≤ 3000) (lb : B.length ≤ 3000) :
  ((rat_Make.f (intB (withS m (num A))) (natB (num B))).bind fun bt => (if bt.2.2 = true then (some (bt.1, bt.2.1, (0 : Int))) else (some ((⟨#[]⟩ : ByteArray), (⟨#[]⟩ : ByteArray), 40)))) = some (ansQ (resL m A B)) := by
 have za := num_sz (head_dig' hA).1
 have zb := num_sz (head_dig' hB).1
 have wa := withS_sz m (num A)
 unfold resL
 rw [hA, hB, Bool.true_and, if_pos rfl]
 by_cases h0 : num B = 0
 ·rw [if_pos h0, h0, hMake0 (by omega), Option.bind_some]
  rfl
 ·have hm := hMake (x := withS m (num A)) (y := (num B : Int)) (by omega) (by rw [szI_nat]; omega) (by omega)
  rw [intB_nat] at hm
  rw [if_neg h0, hm, Option.bind_some]
  rfl
theorem j1_true (m : Bool) (A B : ByteArray) (k : Nat) : Pd.decimal_Parse.j1 (k + 1) m A B true = some (ansQ none) := by
 simp only [Pd.decimal_Parse.j1]
 rfl
theorem j0_f {s A B : ByteArray} (m : Bool) (la : A.size ≤ 3000) (lb : B.size ≤ 3000) (k : Nat) :
  Pd.decimal_Parse.j0 (k + 2) s m A B = some (ansQ (if 1000 < s.size then none else resL m A.data.toList B.data.toList)) := by
 show Pd.decimal_Parse.j0 (k + 1 + 1) s m A B = _
 simp only [Pd.decimal_Parse.j0]
 by_cases h : 1000 < s.size
 ·rw [if_pos (show (s.size : Int) > 1000 by omega), if_pos h, j1_true]
 ·rw [if_neg (show ¬ (s.size : Int) > 1000 by omega), if_neg h, digits_f (by omega), Option.bind_some]
  by_cases hA : digL A.data.toList = true
  ·rw [if_pos hA, digits_f (by omega), Option.bind_some]
   by_cases hB : digL B.data.toList = true
   ·have e : (!digL B.data.toList) = false := by rw [hB]; rfl
    rw [e]
    simp only [Pd.decimal_Parse.j1]
    rw [if_neg (by decide), plain_f hA, Option.bind_some, plain_f hB, Option.bind_some]
    have mk := make_res (m := m) hA hB (by rw [← size_len]; exact la) (by rw [← size_len]; exact lb)
    have za := num_sz (head_dig' hA).1
    rw [← size_len] at za
    cases m with
    | true =>
     have hn := gNeg (x := (num A.data.toList : Int)) (by rw [szI_nat]; omega)
     rw [intB_nat] at hn
     rw [if_pos rfl, hn, Option.bind_some]
     exact mk
    | false =>
     rw [if_neg (by decide)]
     have e2 : intB (withS false (num A.data.toList)) = natB (num A.data.toList) := intB_nat _
     rw [e2] at mk
     exact mk
   ·have e : (!digL B.data.toList) = true := by rw [(Bool.not_eq_true _).mp hB]; rfl
    rw [e, j1_true]
    unfold resL
    rw [if_neg (fun z => hB (Bool.and_eq_true_iff.1 z).2)]
  ·rw [if_neg hA, j1_true]
   unfold resL
   rw [if_neg (fun z => hA (Bool.and_eq_true_iff.1 z).1)]
theorem cut47 {s : ByteArray} (h : s.size ≤ 100000) (c : UInt8) : strings_Cut.f s ⟨#[c]⟩ = some (match cutAt c s.data.toList with | some (a, b) => (⟨a.toArray⟩, ⟨b.toArray⟩, true) | none => (s, ⟨#[]⟩, false)) := by
 unfold strings_Cut.f cutB
 rw [if_pos (by omega)]
 have e : (⟨#[c]⟩ : ByteArray).data.toList = [c] := rfl
 rw [e, cut_one]
 cases cutAt c s.data.toList <;> rfl
theorem amtB_le (s : ByteArray) : (amtB s).size ≤ s.size := by
 rw [size_len, size_len, amtB_list]
 exact cutL_len _
theorem Parse_f {s : ByteArray} (h : s.size ≤ 1100) (k : Nat) (hk : 2 ≤ k) : Pd.decimal_Parse.f k s = some (parseS s) := by
 obtain ⟨k, rfl⟩ : ∃ j, k = j + 2 := ⟨k - 2, by omega⟩
 unfold Pd.decimal_Parse.f strings_CutPrefix.f
 rw [if_pos rfl, Option.bind_some, parseS_ans]
 have ha := amtB_le s
 have hl := amtB_list s
 unfold parseL
 rw [parseA_forms, ← hl, ← size_len]
 show ((strings_Cut.f (amtB s) ⟨#[47]⟩).bind fun bt133 => _) = _
 rw [cut47 (by omega), Option.bind_some]
 have hm : (cutL s.data.toList).2 = minusB s := rfl
 rw [hm]
 cases h1 : cutAt 47 (amtB s).data.toList with
 | some p =>
  obtain ⟨a, b⟩ := p
  have l1 := cutAt_len h1
  rw [← size_len] at l1
  dsimp only
  rw [if_pos rfl, j0_f (s := s) (minusB s) (by show a.toArray.size ≤ _; rw [List.size_toArray]; omega) (by show b.toArray.size ≤ _; rw [List.size_toArray]; omega)]
 | none =>
  dsimp only
  rw [if_neg (by decide), cut47 (by omega), Option.bind_some]
  have last : Pd.decimal_Parse.j0 (k + 2) s (minusB s) (amtB s) ⟨#[49]⟩ = some (ansQ (if 1000 < s.size then none else resL (minusB s) (amtB s).data.toList [49])) := j0_f (minusB s) (by omega) (by decide) k
  cases h2 : cutAt 46 (amtB s).data.toList with
  | none =>
   dsimp only
   rw [if_neg (by decide), last]
  | some p =>
   obtain ⟨a, b⟩ := p
   have l1 := cutAt_len h2
   rw [← size_len] at l1
   have sa : (⟨a.toArray⟩ : ByteArray).size = a.length := List.size_toArray
   have sb : (⟨b.toArray⟩ : ByteArray).size = b.length := List.size_toArray
   rw [point_not h2] at last
   dsimp only
   rw [if_pos rfl, digits_f (by omega), Option.bind_some]
   by_cases hA : digL a = true
   ·rw [if_pos hA, digits_f (by omega), Option.bind_some]
    by_cases hB : digL b = true
    ·rw [if_pos hB, if_pos (by omega), sb, power_f (by omega), Option.bind_some, j0_f (s := s) (minusB s) (by rw [ByteArray.size_append]; omega) (by rw [natB_size, ← sz_dig]; exact Nat.le_trans (sz_le (k := b.length + 1) (Nat.pow_lt_pow_right (by decide) (by omega)) (by omega)) (by omega)), ← tenBB, ten_list, Joins.data_append, hA, hB, Bool.true_and, if_pos rfl]
    ·rw [if_neg hB, last, if_neg (fun z => hB (Bool.and_eq_true_iff.1 z).2)]
   ·rw [if_neg hA, last, if_neg (fun z => hA (Bool.and_eq_true_iff.1 z).1)]
end Go.Proofs.YtaldgaiaelbbaaaGreatDoor
end

section
namespace Go.Proofs.YtaldgaiaelbbaaaGreatDoor
def smD (x : BB) : Bool := decide (x.1.size + x.2.size ≤ 900)
theorem smD_le {x : BB} (h : smD x = true) : x.1.size + x.2.size ≤ 900 := of_decide_eq_true h
def decimal_Places.f (a0_0 a0_1 : ByteArray) : Option (Int × Bool) := if smD (a0_0, a0_1) = true then some (placesS (a0_0, a0_1)) else none
theorem decimal_Places.calls (a0_0 a0_1 : ByteArray) (r1 : Int) (r2 : Bool) (w : World) (hL_ : Laid w) (h : decimal_Places.f a0_0 a0_1 = some (r1, r2)) :
  Calls Tryz.prog 12 #[.agg #[.string a0_0, .string a0_1]] w fun e w' => e = .returned (.tuple #[.int .i64 r1, .bool r2]) ∧ Below w.heap.size w w' := by
 unfold decimal_Places.f at h
 split at h
 ·rename_i hp
  rw [← Places_f (x := (a0_0, a0_1)) (smD_le hp) 3700 (Nat.le_refl _)] at h
  exact Pd.decimal_Places.calls 3700 a0_0 a0_1 r1 r2 w hL_ h
 ·cases h
def decimal_Print.f (a0_0 a0_1 : ByteArray) : Option ByteArray := if smD (a0_0, a0_1) = true then some (printS (a0_0, a0_1)) else none
theorem decimal_Print.calls (a0_0 a0_1 : ByteArray) (r : ByteArray) (w : World) (hL_ : Laid w) (h : decimal_Print.f a0_0 a0_1 = some r) :
  Calls Tryz.prog 14 #[.agg #[.string a0_0, .string a0_1]] w fun e w' => e = .returned (.string r) ∧ Below w.heap.size w w' := by
 unfold decimal_Print.f at h
 split at h
 ·rename_i hp
  rw [← Print_f (x := (a0_0, a0_1)) (smD_le hp) 3700 (Nat.le_refl _)] at h
  exact Pd.decimal_Print.calls 3700 a0_0 a0_1 r w hL_ h
 ·cases h
def decimal_Parse.f (a0 : ByteArray) : Option (ByteArray × ByteArray × Int) := if a0.size ≤ 1100 then some (parseS a0) else none
theorem decimal_Parse.calls (a0 : ByteArray) (r1 r2 : ByteArray) (r3 : Int) (w : World) (hL_ : Laid w) (h : decimal_Parse.f a0 = some (r1, r2, r3)) :
  Calls Tryz.prog 10 #[.string a0] w fun e w' => e = .returned (.tuple #[.agg #[.string r1, .string r2], .int .i64 r3]) ∧ Below w.heap.size w w' := by
 unfold decimal_Parse.f at h
 split at h
 ·rename_i hp
  rw [← Parse_f hp 2 (Nat.le_refl _)] at h
  exact Pd.decimal_Parse.calls 2 a0 r1 r2 r3 w hL_ h
 ·cases h
end Go.Proofs.YtaldgaiaelbbaaaGreatDoor
end

attribute [local go_sem] max2_int min2_int max_two min_two max_three min_three max_four min_four   -- for this text's walks alone
section
namespace Go.Proofs.YtaldgaiaelbbaaaGreatDoor.Pe
def errW : Option Int → Value
 | none => .nilIface
 | some c => .iface 0 (.int .i64 c)
theorem errW_none : errW none = .nilIface := rfl
theorem errW_some (c : Int) : errW (some c) = .iface 0 (.int .i64 c) := rfl
end Go.Proofs.YtaldgaiaelbbaaaGreatDoor.Pe
end

section
namespace Go.Proofs.YtaldgaiaelbbaaaGreatDoor.Pe
def r4_Zeros.l0 : Nat → Int → ByteArray → Int → Option (ByteArray)
 | 0, _, _, _ => none
 | k + 1, x0, x3, x4 => if x4 < x0 then (if x3.size + 1 ≤ 9223372036854775807 then (r4_Zeros.l0 k x0 (x3 ++ (⟨#[48]⟩ : ByteArray)) (wrap64 (x4 + 1))) else (none)) else (some x3)
def r4_Zeros.f (k : Nat) (a0 : Int) : Option (ByteArray) := r4_Zeros.l0 k a0 (⟨#[]⟩ : ByteArray) 0
set_option maxHeartbeats 8000000 in
set_option maxRecDepth 100000 in
theorem r4_Zeros.calls (k : Nat) (a0 : Int) (r : ByteArray) (w : World) (h : r4_Zeros.f k a0 = some r) :
  Calls Tryz.prog 18 #[.int .i64 a0] w fun e w' => e = .returned (.string r) ∧ Drawn0 w w' := by
 have H := h; unfold r4_Zeros.f at H; clear h; have H' := Aside0.mk H; clear H; go_enter Tryz.func18, Tryz.ntmps18; go_wp2
 go_loopg [3, 4] k (fun kq v3 v4 w' => ∃ (x3_1 : ByteArray) (x4_1 : Int), v3 = .string x3_1 ∧ v4 = .int .i64 x4_1 ∧ Aside0 (r4_Zeros.l0 kq a0 x3_1 x4_1 = some r) ∧ Aside0 (kq ≤ k) ∧ Drawn0 w w')
 case atStart => exact ⟨((⟨#[]⟩ : ByteArray)), (0), rl_, rl_, H', ⟨Nat.le_refl _⟩, d0_⟩
 case round =>
  clear H'; (try clear c1); obtain ⟨x3_1, x4_1, rfl, rfl, HA, HK1, ⟨m1, rfl⟩⟩ := hrel
  cases gk with
  | zero => exact absurd HA.out (by simp [r4_Zeros.l0])
  | succ k1 =>
   have H := HA.out; clear HA; simp only [r4_Zeros.l0] at H; by_cases c2 : x4_1 < a0
   ·rw [if_pos c2] at H; have c2b0 : decide (x4_1 < a0) = true := decide_eq_true c2; clear c2; by_cases c3 : x3_1.size + 1 ≤ 9223372036854775807
    ·rw [if_pos c3] at H; have c3b0 := eq_true c3; have c3b1 : decide (x3_1.size + 1 ≤ 9223372036854775807) = true := decide_eq_true c3
     try have c3b2 : (9223372036854775807 < x3_1.size + 1) = False := eq_false (Nat.not_lt.2 c3)
     have H' := Aside0.mk H; clear H; go_wp2
     go_roundg k1
     case measure => have := HK1.out; omega
     case rel => exact ⟨(x3_1 ++ (⟨#[48]⟩ : ByteArray)), (wrap64 (x4_1 + 1)), rl_, rl_, H', ⟨by have := HK1.out; omega⟩, d0_⟩
    ·rw [if_neg c3] at H; exact absurd H (by simp)
   ·rw [if_neg c2] at H; have c2b0 : decide (x4_1 < a0) = false := decide_eq_false c2; clear c2; obtain rfl := Option.some.inj H; go_wp2
    go_ret
    exact ⟨by first | rfl | (simp; done) | (simp [*]; done), d0_⟩
def r4_Places.l0 : Nat → ByteArray → Int → Int → Option (Int × Bool)
 | 0, _, _, _ => none
 | k + 1, x4, x5, x6 => if x4.toList = ([49] : List UInt8) then (some (mx x5 x6, true)) else ((r1_Div.f x4 (⟨#[50]⟩ : ByteArray)).bind fun bt103 => ((r1_Div.f x4 (⟨#[53]⟩ : ByteArray)).bind fun bt106 => (if bt103.2.1.toList = ([48] : List UInt8) then (r4_Places.l0 k bt103.1 (wrap64 (x5 + 1)) x6) else (if bt106.2.1.toList = ([48] : List UInt8) then (r4_Places.l0 k bt106.1 x5 (wrap64 (x6 + 1))) else (some (0, false))))))
def r4_Places.f (k : Nat) (a0_0 : ByteArray) (a0_1 : ByteArray) : Option (Int × Bool) := (r3_May.f a0_0 a0_1).bind fun t102 => (if t102 = true then (r4_Places.l0 k a0_1 0 0) else (some (0, false)))
set_option maxHeartbeats 8000000 in
set_option maxRecDepth 100000 in
theorem r4_Places.calls (k : Nat) (a0_0 : ByteArray) (a0_1 : ByteArray) (r1 : Int) (r2 : Bool) (w : World) (h : r4_Places.f k a0_0 a0_1 = some (r1, r2)) :
  Calls Tryz.prog 13 #[.agg #[.string a0_0, .string a0_1]] w fun e w' => e = .returned (.tuple #[.int .i64 r1, .bool r2]) ∧ Below w.heap.size w w' := by
 have hu23 := Tryz.underlying23; have HB := Aside0.mk (Below.refl w.heap.size w); have H := h; unfold r4_Places.f at H; clear h; obtain ⟨t102, A2, H⟩ := bi_ H; by_cases c3 : t102 = true
 ·subst c3; rw [if_pos rfl] at H; have H' := Aside0.mk H; clear H; go_enter Tryz.func13, Tryz.ntmps13
  go_wp2_with (first | ((with_reducible refine gate_dst (N := 1) rfl ?_); refine be_ 1 #[.string a0_0, .string a0_1] 23 ?_; intro gb101 hg w4 hbox hb; have BK101 := Aside0.mk (hbox); have GW101 := ge_ HB hg; have GE101 := ge_ HB hg; replace HB := bs_ HB hb; clear hb hbox hg; have hcz5_0 := bc_ BK101 0 rfl; have hcz5_1 := bc_ BK101 1 rfl; have hfz5_0 := blk_frozen BK101.out 0; have hfz5_1 := blk_frozen BK101.out 1) | (refine gl_ 14 Tryz.func38 #[.agg #[.string a0_0, .string a0_1]] ?_; refine mo_ (r3_May.calls a0_0 a0_1 true _ A2.out) ?_; intro w6 hb; replace BK101 := kb_ BK101 hb; replace HB := bs_ HB hb; (try clear hb); (try clear hb2); (try clear hk); (try clear hi); have hcz7_0 := bc_ BK101 0 rfl; have hcz7_1 := bc_ BK101 1 rfl; have hfz7_0 := blk_frozen BK101.out 0; have hfz7_1 := blk_frozen BK101.out 1))
  go_loopg [4, 5, 6] k (fun kq v4 v5 v6 w' => ∃ (x4_1 : ByteArray) (x5_1 : Int) (x6_1 : Int), v4 = .string x4_1 ∧ v5 = .int .i64 x5_1 ∧ v6 = .int .i64 x6_1 ∧ Aside0 (r4_Places.l0 kq x4_1 x5_1 x6_1 = some (r1, r2)) ∧ Aside0 (kq ≤ k) ∧ Aside0 (w'.heap[gb101]? = some (.cells #[.string a0_0, .string a0_1] 23 (0, 0))) ∧ Aside0 (Below w.heap.size w w'))
  case atStart => exact ⟨(a0_1), (0), (0), rl_, rl_, rl_, H', ⟨Nat.le_refl _⟩, ⟨k_ BK101.out⟩, ⟨b_ HB.out⟩⟩
  case round =>
   clear H'; (try clear c1); (try clear p2); (try clear c3); (try clear hcz5_0); (try clear hcz5_1); (try clear hcz7_0); (try clear hcz7_1); (try clear hfz5_0); (try clear hfz5_1); (try clear hfz7_0); (try clear hfz7_1); obtain ⟨x4_1, x5_1, x6_1, rfl, rfl, rfl, HA, HK1, BK101, HB⟩ := hrel
   cases gk with
   | zero => exact absurd HA.out (by simp [r4_Places.l0])
   | succ k1 =>
    have H := HA.out; clear HA; simp only [r4_Places.l0] at H; by_cases c8 : x4_1.toList = ([49] : List UInt8)
    ·rw [if_pos c8] at H; have c8b0 : (x4_1.toList == ([49] : List UInt8)) = true := beq_iff_eq.mpr c8; have c8b1 : (x4_1.toList != ([49] : List UInt8)) = false := bne_eq_false_iff_eq.mpr c8; clear c8; obtain ⟨ji9, hji9⟩ : ∃ j_ : Int, (mx x5_1 x6_1) = j_ := ⟨_, rfl⟩; (first | rw [hji9] at H | simp only [hji9] at H); have hji9_ : (if x5_1 < x6_1 then x6_1 else x5_1) = ji9 := hji9; simp only [Option.some.injEq, Prod.mk.injEq] at H; obtain ⟨rfl, rfl⟩ := H; go_wp2; go_ret2; exact ⟨by first | rfl | (simp [errW_none, errW_some] <;> rfl) | (simp only [← hji9]; first | rfl | (simp [errW_none, errW_some] <;> rfl)) | (simp [*, errW_none, errW_some] <;> rfl), b_ HB.out⟩
    ·rw [if_neg c8] at H; have c8b0 : (x4_1.toList == ([49] : List UInt8)) = false := beq_eq_false_iff_ne.mpr c8; have c8b1 : (x4_1.toList != ([49] : List UInt8)) = true := bne_iff_ne.mpr c8; obtain ⟨⟨t103, t104, t105⟩, A10, H⟩ := bi_ H; (try dsimp only at H); obtain ⟨⟨t106, t107, t108⟩, A11, H⟩ := bi_ H; (try dsimp only at H); by_cases c12 : t104.toList = ([48] : List UInt8)
     ·rw [if_pos c12] at H; have c12b0 : (t104.toList == ([48] : List UInt8)) = true := beq_iff_eq.mpr c12; have c12b1 : (t104.toList != ([48] : List UInt8)) = false := bne_eq_false_iff_eq.mpr c12; clear c12; have H' := Aside0.mk H; clear H
      go_wp2_with (first | (refine gl_ 22 Tryz.func39 #[.string x4_1, .string (⟨#[50]⟩ : ByteArray)] ?_; refine mo_ (r1_Div.calls x4_1 (⟨#[50]⟩ : ByteArray) t103 t104 t105 _ A10.out) ?_; intro w13 hb; replace BK101 := kb_ BK101 hb; replace HB := bs_ HB hb; (try clear hb); (try clear hb2); (try clear hk); (try clear hi)) | (refine gl_ 28 Tryz.func39 #[.string x4_1, .string (⟨#[53]⟩ : ByteArray)] ?_; refine mo_ (r1_Div.calls x4_1 (⟨#[53]⟩ : ByteArray) t106 t107 t108 _ A11.out) ?_; intro w14 hb; replace BK101 := kb_ BK101 hb; replace HB := bs_ HB hb; (try clear hb); (try clear hb2); (try clear hk); (try clear hi)))
      go_roundg k1
      case measure => have := HK1.out; omega
      case rel => exact ⟨(t103), (wrap64 (x5_1 + 1)), (x6_1), rl_, rl_, rl_, H', ⟨by have := HK1.out; omega⟩, ⟨k_ BK101.out⟩, ⟨b_ HB.out⟩⟩
     ·rw [if_neg c12] at H; have c12b0 : (t104.toList == ([48] : List UInt8)) = false := beq_eq_false_iff_ne.mpr c12; have c12b1 : (t104.toList != ([48] : List UInt8)) = true := bne_iff_ne.mpr c12; by_cases c15 : t107.toList = ([48] : List UInt8)
      ·rw [if_pos c15] at H; have c15b0 : (t107.toList == ([48] : List UInt8)) = true := beq_iff_eq.mpr c15; have c15b1 : (t107.toList != ([48] : List UInt8)) = false := bne_eq_false_iff_eq.mpr c15; clear c15; have H' := Aside0.mk H; clear H
       go_wp2_with (first | (refine gl_ 22 Tryz.func39 #[.string x4_1, .string (⟨#[50]⟩ : ByteArray)] ?_; refine mo_ (r1_Div.calls x4_1 (⟨#[50]⟩ : ByteArray) t103 t104 t105 _ A10.out) ?_; intro w16 hb; replace BK101 := kb_ BK101 hb; replace HB := bs_ HB hb; (try clear hb); (try clear hb2); (try clear hk); (try clear hi)) | (refine gl_ 28 Tryz.func39 #[.string x4_1, .string (⟨#[53]⟩ : ByteArray)] ?_; refine mo_ (r1_Div.calls x4_1 (⟨#[53]⟩ : ByteArray) t106 t107 t108 _ A11.out) ?_; intro w17 hb; replace BK101 := kb_ BK101 hb; replace HB := bs_ HB hb; (try clear hb); (try clear hb2); (try clear hk); (try clear hi)))
       go_roundg k1
       case measure => have := HK1.out; omega
       case rel => exact ⟨(t106), (x5_1), (wrap64 (x6_1 + 1)), rl_, rl_, rl_, H', ⟨by have := HK1.out; omega⟩, ⟨k_ BK101.out⟩, ⟨b_ HB.out⟩⟩
      ·rw [if_neg c15] at H; have c15b0 : (t107.toList == ([48] : List UInt8)) = false := beq_eq_false_iff_ne.mpr c15; have c15b1 : (t107.toList != ([48] : List UInt8)) = true := bne_iff_ne.mpr c15; simp only [Option.some.injEq, Prod.mk.injEq] at H; obtain ⟨rfl, rfl⟩ := H
       go_wp2_with (first | (refine gl_ 22 Tryz.func39 #[.string x4_1, .string (⟨#[50]⟩ : ByteArray)] ?_; refine mo_ (r1_Div.calls x4_1 (⟨#[50]⟩ : ByteArray) t103 t104 t105 _ A10.out) ?_; intro w18 hb; replace BK101 := kb_ BK101 hb; replace HB := bs_ HB hb; (try clear hb); (try clear hb2); (try clear hk); (try clear hi)) | (refine gl_ 28 Tryz.func39 #[.string x4_1, .string (⟨#[53]⟩ : ByteArray)] ?_; refine mo_ (r1_Div.calls x4_1 (⟨#[53]⟩ : ByteArray) t106 t107 t108 _ A11.out) ?_; intro w19 hb; replace BK101 := kb_ BK101 hb; replace HB := bs_ HB hb; (try clear hb); (try clear hb2); (try clear hk); (try clear hi)))
       go_ret2; exact ⟨er_, b_ HB.out⟩
 ·replace c3 := Bool.eq_false_iff.mpr c3; subst c3; rw [if_neg nf_] at H; simp only [Option.some.injEq, Prod.mk.injEq] at H; obtain ⟨rfl, rfl⟩ := H; go_enter Tryz.func13, Tryz.ntmps13
  go_wp2_with (first | ((with_reducible refine gate_dst (N := 1) rfl ?_); refine be_ 1 #[.string a0_0, .string a0_1] 23 ?_; intro gb101 hg w20 hbox hb; have BK101 := Aside0.mk (hbox); have GW101 := ge_ HB hg; have GE101 := ge_ HB hg; replace HB := bs_ HB hb; clear hb hbox hg; have hcz21_0 := bc_ BK101 0 rfl; have hcz21_1 := bc_ BK101 1 rfl; have hfz21_0 := blk_frozen BK101.out 0; have hfz21_1 := blk_frozen BK101.out 1) | (refine gl_ 14 Tryz.func38 #[.agg #[.string a0_0, .string a0_1]] ?_; refine mo_ (r3_May.calls a0_0 a0_1 false _ A2.out) ?_; intro w22 hb; replace BK101 := kb_ BK101 hb; replace HB := bs_ HB hb; (try clear hb); (try clear hb2); (try clear hk); (try clear hi)))
  go_ret2; exact ⟨er_, b_ HB.out⟩
end Go.Proofs.YtaldgaiaelbbaaaGreatDoor.Pe
end

section
namespace Go.Proofs.YtaldgaiaelbbaaaGreatDoor.Pe
def r4_Print.f (k : Nat) (a0_0 : ByteArray) (a0_1 : ByteArray) : Option (ByteArray) := (r3_May.f a0_0 a0_1).bind fun t110 => (if t110 = true then ((r4_Places.f k a0_0 a0_1).bind fun bt111 => (if bt111.2 = true then (if bt111.1 = 0 then (some a0_0) else ((r4_Zeros.f k bt111.1).bind fun t113 => (if 1 + t113.size ≤ 9223372036854775807 then ((r3_Mul.f a0_0 a0_1 ((⟨#[49]⟩ : ByteArray) ++ t113) (⟨#[49]⟩ : ByteArray)).bind fun bt114 => ((r2_Abs.f bt114.1).bind fun t117 => ((r4_Zeros.f k (mx (wrap64 ((wrap64 (bt111.1 + 1)) - (t117.size : Int))) 0)).bind fun t118 => (if t118.size + t117.size ≤ 9223372036854775807 then ((r3_Sign.f a0_0 a0_1).bind fun t119 => (if t119 < 0 then (if 0 ≤ (wrap64 (((t118 ++ t117).size : Int) - bt111.1)) then (if (wrap64 (((t118 ++ t117).size : Int) - bt111.1)) ≤ ((t118 ++ t117).size : Int) then (if 1 + ((t118 ++ t117).extract 0 ((wrap64 (((t118 ++ t117).size : Int) - bt111.1)) : Int).toNat).size ≤ 9223372036854775807 then (if ((⟨#[45]⟩ : ByteArray) ++ ((t118 ++ t117).extract 0 ((wrap64 (((t118 ++ t117).size : Int) - bt111.1)) : Int).toNat)).size + 1 ≤ 9223372036854775807 then (if (((⟨#[45]⟩ : ByteArray) ++ ((t118 ++ t117).extract 0 ((wrap64 (((t118 ++ t117).size : Int) - bt111.1)) : Int).toNat)) ++ (⟨#[46]⟩ : ByteArray)).size + ((t118 ++ t117).extract ((wrap64 (((t118 ++ t117).size : Int) - bt111.1)) : Int).toNat (t118 ++ t117).size).size ≤ 9223372036854775807 then (some ((((⟨#[45]⟩ : ByteArray) ++ ((t118 ++ t117).extract 0 ((wrap64 (((t118 ++ t117).size : Int) - bt111.1)) : Int).toNat)) ++ (⟨#[46]⟩ : ByteArray)) ++ ((t118 ++ t117).extract ((wrap64 (((t118 ++ t117).size : Int) - bt111.1)) : Int).toNat (t118 ++ t117).size))) else (none)) else (none)) else (none)) else (none)) else (none)) else (if 0 ≤ (wrap64 (((t118 ++ t117).size : Int) - bt111.1)) then (if (wrap64 (((t118 ++ t117).size : Int) - bt111.1)) ≤ ((t118 ++ t117).size : Int) then (if 0 + ((t118 ++ t117).extract 0 ((wrap64 (((t118 ++ t117).size : Int) - bt111.1)) : Int).toNat).size ≤ 9223372036854775807 then (if ((⟨#[]⟩ : ByteArray) ++ ((t118 ++ t117).extract 0 ((wrap64 (((t118 ++ t117).size : Int) - bt111.1)) : Int).toNat)).size + 1 ≤ 9223372036854775807 then (if (((⟨#[]⟩ : ByteArray) ++ ((t118 ++ t117).extract 0 ((wrap64 (((t118 ++ t117).size : Int) - bt111.1)) : Int).toNat)) ++ (⟨#[46]⟩ : ByteArray)).size + ((t118 ++ t117).extract ((wrap64 (((t118 ++ t117).size : Int) - bt111.1)) : Int).toNat (t118 ++ t117).size).size ≤ 9223372036854775807 then (some ((((⟨#[]⟩ : ByteArray) ++ ((t118 ++ t117).extract 0 ((wrap64 (((t118 ++ t117).size : Int) - bt111.1)) : Int).toNat)) ++ (⟨#[46]⟩ : ByteArray)) ++ ((t118 ++ t117).extract ((wrap64 (((t118 ++ t117).size : Int) - bt111.1)) : Int).toNat (t118 ++ t117).size))) else (none)) else (none)) else (none)) else (none)) else (none)))) else (none))))) else (none)))) else (if a0_0.size + 1 ≤ 9223372036854775807 then (if (a0_0 ++ (⟨#[47]⟩ : ByteArray)).size + a0_1.size ≤ 9223372036854775807 then (some ((a0_0 ++ (⟨#[47]⟩ : ByteArray)) ++ a0_1)) else (none)) else (none)))) else (some (⟨#[]⟩ : ByteArray)))
def r4_Print.T8 : Bool × List (List Nat × List Nat) := (true, [([], []), ([], []), ([1], [1]), ([2], [2]), ([3], [3]), ([0, 4, 2], [0, 4]), ([], []), ([6, 5, 5, 0, 1, 2, 3, 4, 5, 6], [5, 6])])
def r4_Print.B8 : List Nat := [0, 0, 2, 6, 14, 31, 0, 127]
theorem r4_Print.tab8 : rtab .any (opsOf Tryz.f15 8) = r4_Print.T8 := by kernel_rfl
theorem r4_Print.bits8 : waitsOk r4_Print.T8.2 r4_Print.B8 = true := by kernel_rfl
def r4_Print.T14 : Bool × List (List Nat × List Nat) := (true, [([], []), ([], []), ([], []), ([2], [2]), ([], []), ([3, 4], [3, 4]), ([1, 5], [1, 5]), ([0, 6], [0, 6]), ([7], [7]), ([], []), ([], []), ([10], [10]), ([], []), ([11, 12], [11, 12]), ([9, 13], [9, 13]), ([8, 14], [8, 14]), ([15, 0, 1, 2, 3, 4, 5, 6, 7, 8, 9, 10, 11, 12, 13, 14, 15], [15])])
def r4_Print.B14 : List Nat := [0, 0, 0, 4, 0, 28, 62, 127, 255, 0, 0, 1024, 0, 7168, 15872, 32767, 65535]
theorem r4_Print.tab14 : rtab .any (opsOf Tryz.f15 14) = r4_Print.T14 := by kernel_rfl
theorem r4_Print.bits14 : waitsOk r4_Print.T14.2 r4_Print.B14 = true := by kernel_rfl
set_option maxHeartbeats 8000000 in
set_option maxRecDepth 100000 in
theorem r4_Print.calls (k : Nat) (a0_0 : ByteArray) (a0_1 : ByteArray) (r : ByteArray) (w : World) (h : r4_Print.f k a0_0 a0_1 = some r) :
  Calls Tryz.prog 15 #[.agg #[.string a0_0, .string a0_1]] w fun e w' => e = .returned (.string r) ∧ Below w.heap.size w w' := by
 have hu23 := Tryz.underlying23; have HB := Aside0.mk (Below.refl w.heap.size w); have H := h; unfold r4_Print.f at H; clear h; obtain ⟨t110, A2, H⟩ := bi_ H; by_cases c3 : t110 = true
 ·subst c3; rw [if_pos rfl] at H; obtain ⟨⟨t111, t112⟩, A4, H⟩ := bi_ H; (try dsimp only at H); by_cases c5 : t112 = true
  ·subst c5; rw [if_pos rfl] at H; by_cases c6 : t111 = 0
   ·rw [if_pos c6] at H; have c6b0 : (t111 == 0) = true := beq_iff_eq.mpr c6; have c6b1 : (t111 != 0) = false := bne_eq_false_iff_eq.mpr c6; clear c6; obtain rfl := Option.some.inj H; go_enter Tryz.func15, Tryz.ntmps15
    go_wp2_with (first | ((with_reducible refine gate_dst (N := 1) rfl ?_); refine be_ 1 #[.string a0_0, .string a0_1] 23 ?_; intro gb109 hg w7 hbox hb; have BK109 := Aside0.mk (hbox); have GW109 := ge_ HB hg; have GE109 := ge_ HB hg; replace HB := bs_ HB hb; clear hb hbox hg; have hcz8_0 := bc_ BK109 0 rfl; have hcz8_1 := bc_ BK109 1 rfl; have hfz8_0 := blk_frozen BK109.out 0; have hfz8_1 := blk_frozen BK109.out 1) | (refine gl_ 9 Tryz.func38 #[.agg #[.string a0_0, .string a0_1]] ?_; refine mo_ (r3_May.calls a0_0 a0_1 true _ A2.out) ?_; intro w9 hb; replace BK109 := kb_ BK109 hb; replace HB := bs_ HB hb; (try clear hb); (try clear hb2); (try clear hk); (try clear hi); have hcz10_0 := bc_ BK109 0 rfl; have hcz10_1 := bc_ BK109 1 rfl; have hfz10_0 := blk_frozen BK109.out 0; have hfz10_1 := blk_frozen BK109.out 1) | (refine gl_ 13 Tryz.func13 #[.agg #[.string a0_0, .string a0_1]] ?_; refine mo_ (r4_Places.calls k a0_0 a0_1 t111 true _ A4.out) ?_; intro w11 hb; replace BK109 := kb_ BK109 hb; replace HB := bs_ HB hb; (try clear hb); (try clear hb2); (try clear hk); (try clear hi); have hcz12_0 := bc_ BK109 0 rfl; have hcz12_1 := bc_ BK109 1 rfl; have hfz12_0 := blk_frozen BK109.out 0; have hfz12_1 := blk_frozen BK109.out 1))
    go_ret
    exact ⟨er_, b_ HB.out⟩
   ·rw [if_neg c6] at H; have c6b0 : (t111 == 0) = false := beq_eq_false_iff_ne.mpr c6; have c6b1 : (t111 != 0) = true := bne_iff_ne.mpr c6; obtain ⟨t113, A13, H⟩ := bi_ H; by_cases c14 : 1 + t113.size ≤ 9223372036854775807
    ·rw [if_pos c14] at H; have c14b0 := eq_true c14; have c14b1 : decide (1 + t113.size ≤ 9223372036854775807) = true := decide_eq_true c14
     try have c14b2 : (9223372036854775807 < 1 + t113.size) = False := eq_false (Nat.not_lt.2 c14)
     obtain ⟨⟨t114, t115⟩, A15, H⟩ := bi_ H; (try dsimp only at H); obtain ⟨t117, A16, H⟩ := bi_ H; obtain ⟨ji17, hji17⟩ : ∃ j_ : Int, (mx (wrap64 ((wrap64 (t111 + 1)) - (t117.size : Int))) 0) = j_ := ⟨_, rfl⟩; (first | rw [hji17] at H | simp only [hji17] at H); (try rw [hji17] at A2); (try rw [hji17] at A4); (try rw [hji17] at A13); (try rw [hji17] at A15); (try rw [hji17] at A16); (try (have hji17l : 0 ≤ ji17 := by (rw [← hji17]; unfold mx; (repeat' split) <;> omega))); (try (have hji17m : 0 ≤ ji17 := by omega)); have hji17_ : (if (wrap64 ((wrap64 (t111 + 1)) - (t117.size : Int))) < 0 then 0 else (wrap64 ((wrap64 (t111 + 1)) - (t117.size : Int)))) = ji17 := hji17; obtain ⟨t118, A18, H⟩ := bi_ H; by_cases c19 : t118.size + t117.size ≤ 9223372036854775807
     ·rw [if_pos c19] at H; have c19b0 := eq_true c19; have c19b1 : decide (t118.size + t117.size ≤ 9223372036854775807) = true := decide_eq_true c19
      try have c19b2 : (9223372036854775807 < t118.size + t117.size) = False := eq_false (Nat.not_lt.2 c19)
      obtain ⟨t119, A20, H⟩ := bi_ H; by_cases c21 : t119 < 0
      ·rw [if_pos c21] at H; have c21b0 : decide (t119 < 0) = true := decide_eq_true c21; clear c21; obtain ⟨ji22, hji22⟩ : ∃ j_ : Int, (wrap64 (((t118 ++ t117).size : Int) - t111)) = j_ := ⟨_, rfl⟩; (first | rw [hji22] at H | simp only [hji22] at H); (try rw [hji22] at A2); (try rw [hji22] at A4); (try rw [hji22] at A13); (try rw [hji22] at A15); (try rw [hji22] at A16); (try rw [hji22] at A18); (try rw [hji22] at A20); have hji22w : (IntKind.i64.wrap (((t118 ++ t117).size : Int) - t111)) = ji22 := (i64_w _).trans hji22; (try (have hji22v := hji22; simp only [ByteArray.size_append, Int.natCast_add] at hji22v)); (try (have hji22u := hji22w; simp only [ByteArray.size_append, Int.natCast_add] at hji22u)); by_cases c23 : 0 ≤ (ji22)
       ·rw [if_pos c23] at H; have c23b0 := eq_true c23; have c23b1 : decide (0 ≤ (ji22)) = true := decide_eq_true c23; clear c23; by_cases c24 : (ji22) ≤ ((t118 ++ t117).size : Int)
        ·rw [if_pos c24] at H; have c24b0 := eq_true c24; have c24b1 : decide ((ji22) ≤ ((t118 ++ t117).size : Int)) = true := decide_eq_true c24; (try (have c24v := c24; simp only [ByteArray.size_append, Int.natCast_add] at c24v; replace c24v := eq_true c24v)); by_cases c25 : 1 + ((t118 ++ t117).extract 0 ((ji22) : Int).toNat).size ≤ 9223372036854775807
         ·rw [if_pos c25] at H; have c25b0 := eq_true c25; have c25b1 : decide (1 + ((t118 ++ t117).extract 0 ((ji22) : Int).toNat).size ≤ 9223372036854775807) = true := decide_eq_true c25; (try have c25v0 : (9223372036854775807 < 1 + (ji22).toNat) = False := eq_false (by have h_ := c25; have g_ : (ji22) ≤ ((t118 ++ t117).size : Int) := (by assumption); simp only [ByteArray.size_append, ByteArray.size_extract, ByteArray.size_mk', List.size_toArray, List.length_cons, List.length_nil, Int.natCast_add] at h_ g_; omega))
          try have c25b2 : (9223372036854775807 < 1 + ((t118 ++ t117).extract 0 ((ji22) : Int).toNat).size) = False := eq_false (Nat.not_lt.2 c25)
          by_cases c26 : ((⟨#[45]⟩ : ByteArray) ++ ((t118 ++ t117).extract 0 ((ji22) : Int).toNat)).size + 1 ≤ 9223372036854775807
          ·rw [if_pos c26] at H; have c26b0 := eq_true c26; have c26b1 : decide (((⟨#[45]⟩ : ByteArray) ++ ((t118 ++ t117).extract 0 ((ji22) : Int).toNat)).size + 1 ≤ 9223372036854775807) = true := decide_eq_true c26; (try have c26v0 : (9223372036854775807 < 1 + (ji22).toNat + 1) = False := eq_false (by have h_ := c26; have g_ : (ji22) ≤ ((t118 ++ t117).size : Int) := (by assumption); simp only [ByteArray.size_append, ByteArray.size_extract, ByteArray.size_mk', List.size_toArray, List.length_cons, List.length_nil, Int.natCast_add] at h_ g_; omega))
           try have c26b2 : (9223372036854775807 < ((⟨#[45]⟩ : ByteArray) ++ ((t118 ++ t117).extract 0 ((ji22) : Int).toNat)).size + 1) = False := eq_false (Nat.not_lt.2 c26)
           have c27b0 := eq_true (of_decide_eq_true as_f : 0 ≤ (ji22)); have c28b0 := eq_true (of_decide_eq_true as_f : (ji22) ≤ ((t118 ++ t117).size : Int)); by_cases c29 : (((⟨#[45]⟩ : ByteArray) ++ ((t118 ++ t117).extract 0 ((ji22) : Int).toNat)) ++ (⟨#[46]⟩ : ByteArray)).size + ((t118 ++ t117).extract ((ji22) : Int).toNat (t118 ++ t117).size).size ≤ 9223372036854775807
           ·rw [if_pos c29] at H; have c29b0 := eq_true c29; have c29b1 : decide ((((⟨#[45]⟩ : ByteArray) ++ ((t118 ++ t117).extract 0 ((ji22) : Int).toNat)) ++ (⟨#[46]⟩ : ByteArray)).size + ((t118 ++ t117).extract ((ji22) : Int).toNat (t118 ++ t117).size).size ≤ 9223372036854775807) = true := decide_eq_true c29; (try have c29v0 : (9223372036854775807 < 1 + (ji22).toNat + 1 + (t118.size + t117.size - (ji22).toNat)) = False := eq_false (by have h_ := c29; have g_ : (ji22) ≤ ((t118 ++ t117).size : Int) := (by assumption); simp only [ByteArray.size_append, ByteArray.size_extract, ByteArray.size_mk', List.size_toArray, List.length_cons, List.length_nil, Int.natCast_add] at h_ g_; omega))
            try have c29b2 : (9223372036854775807 < (((⟨#[45]⟩ : ByteArray) ++ ((t118 ++ t117).extract 0 ((ji22) : Int).toNat)) ++ (⟨#[46]⟩ : ByteArray)).size + ((t118 ++ t117).extract ((ji22) : Int).toNat (t118 ++ t117).size).size) = False := eq_false (Nat.not_lt.2 c29)
            obtain rfl := Option.some.inj H; go_enter Tryz.func15, Tryz.ntmps15
            try go_wp2_with (first | ((with_reducible refine gate_dst (N := 1) rfl ?_); refine be_ 1 #[.string a0_0, .string a0_1] 23 ?_; intro gb109 hg w30 hbox hb; have BK109 := Aside0.mk (hbox); have GW109 := ge_ HB hg; have GE109 := ge_ HB hg; replace HB := bs_ HB hb; clear hb hbox hg; have hcz31_0 := bc_ BK109 0 rfl; have hcz31_1 := bc_ BK109 1 rfl; have hfz31_0 := blk_frozen BK109.out 0; have hfz31_1 := blk_frozen BK109.out 1) | (refine gl_ 9 Tryz.func38 #[.agg #[.string a0_0, .string a0_1]] ?_; refine mo_ (r3_May.calls a0_0 a0_1 true _ A2.out) ?_; intro w32 hb; replace BK109 := kb_ BK109 hb; replace HB := bs_ HB hb; (try clear hb); (try clear hb2); (try clear hk); (try clear hi); have hcz33_0 := bc_ BK109 0 rfl; have hcz33_1 := bc_ BK109 1 rfl; have hfz33_0 := blk_frozen BK109.out 0; have hfz33_1 := blk_frozen BK109.out 1) | (refine gl_ 13 Tryz.func13 #[.agg #[.string a0_0, .string a0_1]] ?_; refine mo_ (r4_Places.calls k a0_0 a0_1 t111 true _ A4.out) ?_; intro w34 hb; replace BK109 := kb_ BK109 hb; replace HB := bs_ HB hb; (try clear hb); (try clear hb2); (try clear hk); (try clear hi)))
            replace BK109 := Aside0.mk (blk_drew BK109.out); replace HB := Aside0.mk (below_drew1 HB.out); refine sa_ 8 (fun w' => w'.cell? ⟨gb109, 0, none⟩ = some (.string a0_0) ∧ w'.cell? ⟨gb109, 1, none⟩ = some (.string a0_1)) (fun hHeld => ?_); refine with_tabW r4_Print.tab8 r4_Print.bits8 (fun HT_ HW_ => ?_); generalize w34.drew = w35 at BK109 HB hHeld ⊢; refine pu_ 1 29 rfl rfl HT_ ?_; refine t2_ 0 28 rfl rfl HT_ HW_ hHeld ?_; refine join_ (σ := Nat) 1 #[true, true, true, true, true, true, true, false] (fun s_ => [(30, .string t113), (33, .agg #[.string t114, .string t115]), (5, .pointer (some ⟨s_, 0, none⟩)), (31, .string ((⟨#[49]⟩ : ByteArray) ++ t113)), (32, .agg #[.string ((⟨#[49]⟩ : ByteArray) ++ t113), .string (⟨#[49]⟩ : ByteArray)])]) (fun s_ w' => (w'.cell? ⟨gb109, 0, none⟩ = some (.string a0_0) ∧ w'.cell? ⟨gb109, 1, none⟩ = some (.string a0_1)) ∧ (w'.heap[gb109]? = some (.cells #[.string a0_0, .string a0_1] 23 (0, 0))) ∧ (w'.heap[s_]? = some (.cells #[.string (⟨#[]⟩ : ByteArray), .string (⟨#[]⟩ : ByteArray)] 23 (0, 0))) ∧ (w.heap.size ≤ s_) ∧ (w.heap.size ≤ s_) ∧ (gb109 ≠ s_) ∧ (s_ ≠ gb109) ∧ (Below w.heap.size w w')) ?_ ?_; rotate_left
            ·intro hCont; refine two_ (i := 2) (j := 6) (Ni := some 30) (Nj := some 5) #[true, true, true, false, false, false, false, false] #[true, true, false, false, false, false, true, false] rfl rfl rfl rfl (two_of HT_.out (by kernel_rfl)) (by decide) (by decide) (fun K hK => ?_) (fun K hK => ?_)
             ·skip; refine gs_ Tryz.func18 #[.int .i64 t111] ?_
              with_reducible refine (r4_Zeros.calls k t111 t113 _ A13.out).mono ?_
              rintro e w' ⟨rfl, ⟨nd, rfl⟩⟩; refine ⟨_, rfl, ?_⟩; refine hK.out _ _ ⟨(blk_cell BK109.out 0).trans rfl, (blk_cell BK109.out 1).trans rfl⟩ (fun hHeld => ?_); clear hK K; refine nm_ ?_; refine pu_ 3 31 rfl rfl HT_ ?_; refine pu_ 4 32 rfl rfl HT_ ?_; refine two_ (i := 5) (j := 6) (Ni := some 33) (Nj := some 5) #[true, true, true, true, true, true, false, false] #[true, true, true, true, true, false, true, false] rfl rfl rfl rfl (two_of HT_.out (by kernel_rfl)) (by decide) (by decide) (fun K hK => ?_) (fun K hK => ?_)
              ·skip; refine gs_ Tryz.func17 #[.agg #[.string a0_0, .string a0_1], .agg #[.string ((⟨#[49]⟩ : ByteArray) ++ t113), .string (⟨#[49]⟩ : ByteArray)]] ?_; refine mo_ (r3_Mul.calls a0_0 a0_1 ((⟨#[49]⟩ : ByteArray) ++ t113) (⟨#[49]⟩ : ByteArray) t114 t115 _ A15.out) ?_; intro w36 hb; replace BK109 := kb_ BK109 hb; replace HB := bs_ HB hb; (try clear hb); refine hk_ hK (fun hHeld => ?_); clear hK K; refine nm_ ?_; refine on_ 6 (some 5) rfl rfl HT_ (fun K hK => ?_); refine box_step ?hg (N := 5) ?hd (cs := #[.string (⟨#[]⟩ : ByteArray), .string (⟨#[]⟩ : ByteArray)]) (t := 23) ?hr ?_; (case hd => rfl); (case hg => rfl); (case hr => first | (go_simp; done) | (go_simp; rfl)); intro gb116 hg w37 hbox hb; have BK116 := Aside0.mk (hbox); have GW116 := ge_ HB hg; have GE116 := ge_ HB hg; have NB109_116 := nl_ BK109 hg; have NB116_109 := ng_ BK109 hg; replace BK109 := kb_ BK109 hb; replace HB := bs_ HB hb; clear hb hbox hg; refine hk_ hK (fun hHeld => ?_); clear hK K; refine nm_ ?_; exact norm_ pa_ (hCont (gb116) _ ⟨hHeld, (k_ BK109.out), (k_ BK116.out), GW116.out, GE116.out, NB109_116.out, NB116_109.out, (b_ HB.out)⟩)
              ·skip; refine box_step ?hg (N := 5) ?hd (cs := #[.string (⟨#[]⟩ : ByteArray), .string (⟨#[]⟩ : ByteArray)]) (t := 23) ?hr ?_; (case hd => rfl); (case hg => rfl); (case hr => first | (go_simp; done) | (go_simp; rfl)); intro gb116 hg w36 hbox hb; have BK116 := Aside0.mk (hbox); have GW116 := ge_ HB hg; have GE116 := ge_ HB hg; have NB109_116 := nl_ BK109 hg; have NB116_109 := ng_ BK109 hg; replace BK109 := kb_ BK109 hb; replace HB := bs_ HB hb; clear hb hbox hg; refine hk_ hK (fun hHeld => ?_); clear hK K; refine nm_ ?_; refine on_ 5 (some 33) rfl rfl HT_ (fun K hK => ?_); refine gs_ Tryz.func17 #[.agg #[.string a0_0, .string a0_1], .agg #[.string ((⟨#[49]⟩ : ByteArray) ++ t113), .string (⟨#[49]⟩ : ByteArray)]] ?_; refine mo_ (r3_Mul.calls a0_0 a0_1 ((⟨#[49]⟩ : ByteArray) ++ t113) (⟨#[49]⟩ : ByteArray) t114 t115 _ A15.out) ?_; intro w37 hb; replace BK109 := kb_ BK109 hb; replace BK116 := kb_ BK116 hb; replace HB := bs_ HB hb; (try clear hb); refine hk_ hK (fun hHeld => ?_); clear hK K; refine nm_ ?_; exact norm_ pa_ (hCont (gb116) _ ⟨hHeld, (k_ BK109.out), (k_ BK116.out), GW116.out, GE116.out, NB109_116.out, NB116_109.out, (b_ HB.out)⟩)
             ·skip; refine box_step ?hg (N := 5) ?hd (cs := #[.string (⟨#[]⟩ : ByteArray), .string (⟨#[]⟩ : ByteArray)]) (t := 23) ?hr ?_; (case hd => rfl); (case hg => rfl); (case hr => first | (go_simp; done) | (go_simp; rfl)); intro gb116 hg w36 hbox hb; have BK116 := Aside0.mk (hbox); have GW116 := ge_ HB hg; have GE116 := ge_ HB hg; have NB109_116 := nl_ BK109 hg; have NB116_109 := ng_ BK109 hg; replace BK109 := kb_ BK109 hb; replace HB := bs_ HB hb; clear hb hbox hg; refine hk_ hK (fun hHeld => ?_); clear hK K; refine nm_ ?_; refine on_ 2 (some 30) rfl rfl HT_ (fun K hK => ?_); refine gs_ Tryz.func18 #[.int .i64 t111] ?_
              with_reducible refine (r4_Zeros.calls k t111 t113 _ A13.out).mono ?_
              rintro e w' ⟨rfl, ⟨nd, rfl⟩⟩; refine ⟨_, rfl, ?_⟩; refine hK.out _ _ ⟨(blk_cell BK109.out 0).trans rfl, (blk_cell BK109.out 1).trans rfl⟩ (fun hHeld => ?_); clear hK K; refine nm_ ?_; refine pu_ 3 31 rfl rfl HT_ ?_; refine pu_ 4 32 rfl rfl HT_ ?_; refine on_ 5 (some 33) rfl rfl HT_ (fun K hK => ?_); refine gs_ Tryz.func17 #[.agg #[.string a0_0, .string a0_1], .agg #[.string ((⟨#[49]⟩ : ByteArray) ++ t113), .string (⟨#[49]⟩ : ByteArray)]] ?_; refine mo_ (r3_Mul.calls a0_0 a0_1 ((⟨#[49]⟩ : ByteArray) ++ t113) (⟨#[49]⟩ : ByteArray) t114 t115 _ A15.out) ?_; intro w37 hb; replace BK109 := kb_ BK109 hb; replace BK116 := kb_ BK116 hb; replace HB := bs_ HB hb; (try clear hb); refine hk_ hK (fun hHeld => ?_); clear hK K; refine nm_ ?_; exact norm_ pa_ (hCont (gb116) _ ⟨hHeld, (k_ BK109.out), (k_ BK116.out), GW116.out, GE116.out, NB109_116.out, NB116_109.out, (b_ HB.out)⟩)
            rintro gb116 w38 ⟨hS_, h0_, h1_, h2_, h3_, h4_, h5_, h6_⟩; have n0_ : Aside0 (w38.heap[gb109]? = some (.cells #[.string a0_0, .string a0_1] 23 (0, 0))) := ⟨h0_⟩; have n1_ : Aside0 (w38.heap[gb116]? = some (.cells #[.string (⟨#[]⟩ : ByteArray), .string (⟨#[]⟩ : ByteArray)] 23 (0, 0))) := ⟨h1_⟩; have n2_ : Aside0 (w.heap.size ≤ gb116) := ⟨h2_⟩; have n3_ : Aside0 (w.heap.size ≤ gb116) := ⟨h3_⟩; have n4_ : Aside0 (gb109 ≠ gb116) := ⟨h4_⟩; have n5_ : Aside0 (gb116 ≠ gb109) := ⟨h5_⟩; have n6_ : Aside0 (Below w.heap.size w w38) := ⟨h6_⟩; clear BK109; clear HB; clear h0_ h1_ h2_ h3_ h4_ h5_ h6_; have BK109 := n0_; have BK116 := n1_; have GW116 := n2_; have GE116 := n3_; have NB109_116 := n4_; have NB116_109 := n5_; have HB := n6_; clear n0_ n1_ n2_ n3_ n4_ n5_ n6_; have hHeld : w38.cell? ⟨gb109, 0, none⟩ = some (.string a0_0) ∧ w38.cell? ⟨gb109, 1, none⟩ = some (.string a0_1) := hS_; refine norm_ (a' := ?_) ?_ ?_; rotate_left
            ·simp only [putAll, Act.put, List.setIfInBounds_toArray, List.set_cons_zero, List.set_cons_succ]
             rfl
            refine on_ 7 none rfl rfl HT_ (fun K hK => ?_); have hs39 := bc_ BK116 0 rfl; have hfs39 := blk_frozen BK116.out 0; have hns39_0 := NB109_116.out; have hms39_0 := NB116_109.out; have hs40 := bc_ BK116 1 rfl; have hfs40 := blk_frozen BK116.out 1; have hns40_0 := NB109_116.out; have hms40_0 := NB116_109.out; refine skip_ (w1 := ?_) (by rfl) rfl ?_ ?_; rotate_left
            ·go_simp
             rfl
            refine hf_ hK hHeld (fun hHeld => ?_); clear hK K; refine done_ (done_of HT_.out (by kernel_rfl)) ?_; have hnb41 := NB116_109.out; have hnc41 := NB109_116.out; have hcz42_0 := bc_ BK116 0 rfl; have hcz42_1 := bc_ BK116 1 rfl; have hfz42_0 := blk_frozen BK116.out 0; have hfz42_1 := blk_frozen BK116.out 1
            try go_wp2_with (first | (refine gl_ 36 Tryz.func45 #[.string t114] ?_; refine mo_ (r2_Abs.calls t114 t117 _ A16.out) ?_; intro w43 hb; replace BK109 := Aside0.mk (blk_below (g := gb109) (o := .cells #[.string a0_0, .string a0_1] 23 (0, 0)) (fr_ BK109.out) hb); replace BK116 := Aside0.mk (blk_below (g := gb116) (o := .cells #[.string t114, .string t115] 23 (0, 0)) (rp_ BK116.out) hb); replace HB := bs_ HB hb; (try clear hb); (try clear hb2); (try clear hk); (try clear hi)) | ((with_reducible refine gate_callee (f := 18) rfl ?_); refine goesL_ (some 43) rfl rfl Tryz.func18 (by kernel_rfl) rfl #[.int .i64 ji17] rfl (by (try simp only [List.map_toArray, List.map_cons, List.map_nil]); first | done | (simp only [hji17]; rfl) | rfl | (simp only [List.length_drop, List.length_take]; rfl)) ?_; refine mo_ (r4_Zeros.calls k ji17 t118 _ A18.out) ?_; rintro w' ⟨nd, rfl⟩; have hcz44_0 := bc_ BK109 0 rfl; have hcz44_1 := bc_ BK109 1 rfl; have hfz44_0 := blk_frozen BK109.out 0; have hfz44_1 := blk_frozen BK109.out 1) | (refine gl_ 47 Tryz.func46 #[.agg #[.string a0_0, .string a0_1]] ?_; refine mo_ (r3_Sign.calls a0_0 a0_1 t119 _ A20.out) ?_; intro w45 hb; replace BK109 := kb_ BK109 hb; replace BK116 := kb_ BK116 hb; replace HB := bs_ HB hb; (try clear hb); (try clear hb2); (try clear hk); (try clear hi)))
            replace BK109 := Aside0.mk (blk_drew BK109.out); replace BK116 := Aside0.mk (blk_drew BK116.out); replace HB := Aside0.mk (below_drew1 HB.out); refine start_ (n := 17) (S := fun w' => True) (ds := []) #[false, false, false, false, false, false, false, false, false, false, false, false, false, false, false, false, false] (by kernel_rfl) rfl rfl trivial (fun hHeld => ?_); refine with_tabW r4_Print.tab14 r4_Print.bits14 (fun HT_ HW_ => ?_); generalize w45.drew = w46 at BK109 BK116 HB hHeld ⊢; refine pu_ 0 49 rfl rfl HT_ ?_; refine pu_ 1 50 rfl rfl HT_ ?_; refine pu_ 2 51 rfl rfl HT_ ?_; refine pu_ 3 52 rfl rfl HT_ ?_; refine pu_ 4 53 rfl rfl HT_ ?_; refine pu_ 5 54 rfl rfl HT_ ?_; refine pu_ 6 55 rfl rfl HT_ ?_; refine pu_ 7 56 rfl rfl HT_ ?_; refine pu_ 8 57 rfl rfl HT_ ?_; refine pu_ 9 58 rfl rfl HT_ ?_; refine pu_ 10 59 rfl rfl HT_ ?_; refine pu_ 11 60 rfl rfl HT_ ?_; refine pu_ 12 61 rfl rfl HT_ ?_; refine pu_ 13 62 rfl rfl HT_ ?_; refine pu_ 14 63 rfl rfl HT_ ?_; refine pu_ 15 64 rfl rfl HT_ ?_; refine pu_ 16 2 rfl rfl HT_ ?_; refine done_ (done_of HT_.out (by kernel_rfl)) ?_
            try go_wp2
            go_ret
            exact ⟨by first | rfl | (simp [errW_none, errW_some] <;> rfl) | (simp only [← hji17, ← hji22]; first | rfl | (simp [errW_none, errW_some] <;> rfl)) | (simp [*, errW_none, errW_some] <;> rfl), b_ HB.out⟩
           ·rw [if_neg c29] at H; exact absurd H (by simp)
          ·rw [if_neg c26] at H; exact absurd H (by simp)
         ·rw [if_neg c25] at H; exact absurd H (by simp)
        ·rw [if_neg c24] at H; exact absurd H (by simp)
       ·rw [if_neg c23] at H; exact absurd H (by simp)
      ·rw [if_neg c21] at H; have c21b0 : decide (t119 < 0) = false := decide_eq_false c21; clear c21; obtain ⟨ji47, hji47⟩ : ∃ j_ : Int, (wrap64 (((t118 ++ t117).size : Int) - t111)) = j_ := ⟨_, rfl⟩; (first | rw [hji47] at H | simp only [hji47] at H); (try rw [hji47] at A2); (try rw [hji47] at A4); (try rw [hji47] at A13); (try rw [hji47] at A15); (try rw [hji47] at A16); (try rw [hji47] at A18); (try rw [hji47] at A20); have hji47w : (IntKind.i64.wrap (((t118 ++ t117).size : Int) - t111)) = ji47 := (i64_w _).trans hji47; (try (have hji47v := hji47; simp only [ByteArray.size_append, Int.natCast_add] at hji47v)); (try (have hji47u := hji47w; simp only [ByteArray.size_append, Int.natCast_add] at hji47u)); by_cases c48 : 0 ≤ (ji47)
       ·rw [if_pos c48] at H; have c48b0 := eq_true c48; have c48b1 : decide (0 ≤ (ji47)) = true := decide_eq_true c48; clear c48; by_cases c49 : (ji47) ≤ ((t118 ++ t117).size : Int)
        ·rw [if_pos c49] at H; have c49b0 := eq_true c49; have c49b1 : decide ((ji47) ≤ ((t118 ++ t117).size : Int)) = true := decide_eq_true c49; (try (have c49v := c49; simp only [ByteArray.size_append, Int.natCast_add] at c49v; replace c49v := eq_true c49v)); by_cases c50 : 0 + ((t118 ++ t117).extract 0 ((ji47) : Int).toNat).size ≤ 9223372036854775807
         ·rw [if_pos c50] at H; have c50b0 := eq_true c50; have c50b1 : decide (0 + ((t118 ++ t117).extract 0 ((ji47) : Int).toNat).size ≤ 9223372036854775807) = true := decide_eq_true c50; (try have c50v0 : (9223372036854775807 < 0 + (ji47).toNat) = False := eq_false (by have h_ := c50; have g_ : (ji47) ≤ ((t118 ++ t117).size : Int) := (by assumption); simp only [ByteArray.size_append, ByteArray.size_extract, ByteArray.size_mk', List.size_toArray, List.length_cons, List.length_nil, Int.natCast_add] at h_ g_; omega)); (try have c50v1 : (9223372036854775807 < (ji47).toNat) = False := eq_false (by have h_ := c50; have g_ : (ji47) ≤ ((t118 ++ t117).size : Int) := (by assumption); simp only [ByteArray.size_append, ByteArray.size_extract, ByteArray.size_mk', List.size_toArray, List.length_cons, List.length_nil, Int.natCast_add] at h_ g_; omega))
          try have c50b2 : (9223372036854775807 < 0 + ((t118 ++ t117).extract 0 ((ji47) : Int).toNat).size) = False := eq_false (Nat.not_lt.2 c50)
          by_cases c51 : ((⟨#[]⟩ : ByteArray) ++ ((t118 ++ t117).extract 0 ((ji47) : Int).toNat)).size + 1 ≤ 9223372036854775807
          ·rw [if_pos c51] at H; have c51b0 := eq_true c51; have c51b1 : decide (((⟨#[]⟩ : ByteArray) ++ ((t118 ++ t117).extract 0 ((ji47) : Int).toNat)).size + 1 ≤ 9223372036854775807) = true := decide_eq_true c51; (try have c51v0 : (9223372036854775807 < 0 + (ji47).toNat + 1) = False := eq_false (by have h_ := c51; have g_ : (ji47) ≤ ((t118 ++ t117).size : Int) := (by assumption); simp only [ByteArray.size_append, ByteArray.size_extract, ByteArray.size_mk', List.size_toArray, List.length_cons, List.length_nil, Int.natCast_add] at h_ g_; omega)); (try have c51v1 : (9223372036854775807 < (ji47).toNat + 1) = False := eq_false (by have h_ := c51; have g_ : (ji47) ≤ ((t118 ++ t117).size : Int) := (by assumption); simp only [ByteArray.size_append, ByteArray.size_extract, ByteArray.size_mk', List.size_toArray, List.length_cons, List.length_nil, Int.natCast_add] at h_ g_; omega))
           try have c51b2 : (9223372036854775807 < ((⟨#[]⟩ : ByteArray) ++ ((t118 ++ t117).extract 0 ((ji47) : Int).toNat)).size + 1) = False := eq_false (Nat.not_lt.2 c51)
           have c52b0 := eq_true (of_decide_eq_true as_f : 0 ≤ (ji47)); have c53b0 := eq_true (of_decide_eq_true as_f : (ji47) ≤ ((t118 ++ t117).size : Int)); by_cases c54 : (((⟨#[]⟩ : ByteArray) ++ ((t118 ++ t117).extract 0 ((ji47) : Int).toNat)) ++ (⟨#[46]⟩ : ByteArray)).size + ((t118 ++ t117).extract ((ji47) : Int).toNat (t118 ++ t117).size).size ≤ 9223372036854775807
           ·rw [if_pos c54] at H; have c54b0 := eq_true c54; have c54b1 : decide ((((⟨#[]⟩ : ByteArray) ++ ((t118 ++ t117).extract 0 ((ji47) : Int).toNat)) ++ (⟨#[46]⟩ : ByteArray)).size + ((t118 ++ t117).extract ((ji47) : Int).toNat (t118 ++ t117).size).size ≤ 9223372036854775807) = true := decide_eq_true c54; (try have c54v0 : (9223372036854775807 < 0 + (ji47).toNat + 1 + (t118.size + t117.size - (ji47).toNat)) = False := eq_false (by have h_ := c54; have g_ : (ji47) ≤ ((t118 ++ t117).size : Int) := (by assumption); simp only [ByteArray.size_append, ByteArray.size_extract, ByteArray.size_mk', List.size_toArray, List.length_cons, List.length_nil, Int.natCast_add] at h_ g_; omega)); (try have c54v1 : (9223372036854775807 < (ji47).toNat + 1 + (t118.size + t117.size - (ji47).toNat)) = False := eq_false (by have h_ := c54; have g_ : (ji47) ≤ ((t118 ++ t117).size : Int) := (by assumption); simp only [ByteArray.size_append, ByteArray.size_extract, ByteArray.size_mk', List.size_toArray, List.length_cons, List.length_nil, Int.natCast_add] at h_ g_; omega))
            try have c54b2 : (9223372036854775807 < (((⟨#[]⟩ : ByteArray) ++ ((t118 ++ t117).extract 0 ((ji47) : Int).toNat)) ++ (⟨#[46]⟩ : ByteArray)).size + ((t118 ++ t117).extract ((ji47) : Int).toNat (t118 ++ t117).size).size) = False := eq_false (Nat.not_lt.2 c54)
            obtain rfl := Option.some.inj H; go_enter Tryz.func15, Tryz.ntmps15
            try go_wp2_with (first | ((with_reducible refine gate_dst (N := 1) rfl ?_); refine be_ 1 #[.string a0_0, .string a0_1] 23 ?_; intro gb109 hg w55 hbox hb; have BK109 := Aside0.mk (hbox); have GW109 := ge_ HB hg; have GE109 := ge_ HB hg; replace HB := bs_ HB hb; clear hb hbox hg; have hcz56_0 := bc_ BK109 0 rfl; have hcz56_1 := bc_ BK109 1 rfl; have hfz56_0 := blk_frozen BK109.out 0; have hfz56_1 := blk_frozen BK109.out 1) | (refine gl_ 9 Tryz.func38 #[.agg #[.string a0_0, .string a0_1]] ?_; refine mo_ (r3_May.calls a0_0 a0_1 true _ A2.out) ?_; intro w57 hb; replace BK109 := kb_ BK109 hb; replace HB := bs_ HB hb; (try clear hb); (try clear hb2); (try clear hk); (try clear hi); have hcz58_0 := bc_ BK109 0 rfl; have hcz58_1 := bc_ BK109 1 rfl; have hfz58_0 := blk_frozen BK109.out 0; have hfz58_1 := blk_frozen BK109.out 1) | (refine gl_ 13 Tryz.func13 #[.agg #[.string a0_0, .string a0_1]] ?_; refine mo_ (r4_Places.calls k a0_0 a0_1 t111 true _ A4.out) ?_; intro w59 hb; replace BK109 := kb_ BK109 hb; replace HB := bs_ HB hb; (try clear hb); (try clear hb2); (try clear hk); (try clear hi)))
            replace BK109 := Aside0.mk (blk_drew BK109.out); replace HB := Aside0.mk (below_drew1 HB.out); refine sa_ 8 (fun w' => w'.cell? ⟨gb109, 0, none⟩ = some (.string a0_0) ∧ w'.cell? ⟨gb109, 1, none⟩ = some (.string a0_1)) (fun hHeld => ?_); refine with_tabW r4_Print.tab8 r4_Print.bits8 (fun HT_ HW_ => ?_); generalize w59.drew = w60 at BK109 HB hHeld ⊢; refine pu_ 1 29 rfl rfl HT_ ?_; refine t2_ 0 28 rfl rfl HT_ HW_ hHeld ?_; refine join_ (σ := Nat) 1 #[true, true, true, true, true, true, true, false] (fun s_ => [(30, .string t113), (33, .agg #[.string t114, .string t115]), (5, .pointer (some ⟨s_, 0, none⟩)), (31, .string ((⟨#[49]⟩ : ByteArray) ++ t113)), (32, .agg #[.string ((⟨#[49]⟩ : ByteArray) ++ t113), .string (⟨#[49]⟩ : ByteArray)])]) (fun s_ w' => (w'.cell? ⟨gb109, 0, none⟩ = some (.string a0_0) ∧ w'.cell? ⟨gb109, 1, none⟩ = some (.string a0_1)) ∧ (w'.heap[gb109]? = some (.cells #[.string a0_0, .string a0_1] 23 (0, 0))) ∧ (w'.heap[s_]? = some (.cells #[.string (⟨#[]⟩ : ByteArray), .string (⟨#[]⟩ : ByteArray)] 23 (0, 0))) ∧ (w.heap.size ≤ s_) ∧ (w.heap.size ≤ s_) ∧ (gb109 ≠ s_) ∧ (s_ ≠ gb109) ∧ (Below w.heap.size w w')) ?_ ?_; rotate_left
            ·intro hCont; refine two_ (i := 2) (j := 6) (Ni := some 30) (Nj := some 5) #[true, true, true, false, false, false, false, false] #[true, true, false, false, false, false, true, false] rfl rfl rfl rfl (two_of HT_.out (by kernel_rfl)) (by decide) (by decide) (fun K hK => ?_) (fun K hK => ?_)
             ·skip; refine gs_ Tryz.func18 #[.int .i64 t111] ?_
              with_reducible refine (r4_Zeros.calls k t111 t113 _ A13.out).mono ?_
              rintro e w' ⟨rfl, ⟨nd, rfl⟩⟩; refine ⟨_, rfl, ?_⟩; refine hK.out _ _ ⟨(blk_cell BK109.out 0).trans rfl, (blk_cell BK109.out 1).trans rfl⟩ (fun hHeld => ?_); clear hK K; refine nm_ ?_; refine pu_ 3 31 rfl rfl HT_ ?_; refine pu_ 4 32 rfl rfl HT_ ?_; refine two_ (i := 5) (j := 6) (Ni := some 33) (Nj := some 5) #[true, true, true, true, true, true, false, false] #[true, true, true, true, true, false, true, false] rfl rfl rfl rfl (two_of HT_.out (by kernel_rfl)) (by decide) (by decide) (fun K hK => ?_) (fun K hK => ?_)
              ·skip; refine gs_ Tryz.func17 #[.agg #[.string a0_0, .string a0_1], .agg #[.string ((⟨#[49]⟩ : ByteArray) ++ t113), .string (⟨#[49]⟩ : ByteArray)]] ?_; refine mo_ (r3_Mul.calls a0_0 a0_1 ((⟨#[49]⟩ : ByteArray) ++ t113) (⟨#[49]⟩ : ByteArray) t114 t115 _ A15.out) ?_; intro w61 hb; replace BK109 := kb_ BK109 hb; replace HB := bs_ HB hb; (try clear hb); refine hk_ hK (fun hHeld => ?_); clear hK K; refine nm_ ?_; refine on_ 6 (some 5) rfl rfl HT_ (fun K hK => ?_); refine box_step ?hg (N := 5) ?hd (cs := #[.string (⟨#[]⟩ : ByteArray), .string (⟨#[]⟩ : ByteArray)]) (t := 23) ?hr ?_; (case hd => rfl); (case hg => rfl); (case hr => first | (go_simp; done) | (go_simp; rfl)); intro gb116 hg w62 hbox hb; have BK116 := Aside0.mk (hbox); have GW116 := ge_ HB hg; have GE116 := ge_ HB hg; have NB109_116 := nl_ BK109 hg; have NB116_109 := ng_ BK109 hg; replace BK109 := kb_ BK109 hb; replace HB := bs_ HB hb; clear hb hbox hg; refine hk_ hK (fun hHeld => ?_); clear hK K; refine nm_ ?_; exact norm_ pa_ (hCont (gb116) _ ⟨hHeld, (k_ BK109.out), (k_ BK116.out), GW116.out, GE116.out, NB109_116.out, NB116_109.out, (b_ HB.out)⟩)
              ·skip; refine box_step ?hg (N := 5) ?hd (cs := #[.string (⟨#[]⟩ : ByteArray), .string (⟨#[]⟩ : ByteArray)]) (t := 23) ?hr ?_; (case hd => rfl); (case hg => rfl); (case hr => first | (go_simp; done) | (go_simp; rfl)); intro gb116 hg w61 hbox hb; have BK116 := Aside0.mk (hbox); have GW116 := ge_ HB hg; have GE116 := ge_ HB hg; have NB109_116 := nl_ BK109 hg; have NB116_109 := ng_ BK109 hg; replace BK109 := kb_ BK109 hb; replace HB := bs_ HB hb; clear hb hbox hg; refine hk_ hK (fun hHeld => ?_); clear hK K; refine nm_ ?_; refine on_ 5 (some 33) rfl rfl HT_ (fun K hK => ?_); refine gs_ Tryz.func17 #[.agg #[.string a0_0, .string a0_1], .agg #[.string ((⟨#[49]⟩ : ByteArray) ++ t113), .string (⟨#[49]⟩ : ByteArray)]] ?_; refine mo_ (r3_Mul.calls a0_0 a0_1 ((⟨#[49]⟩ : ByteArray) ++ t113) (⟨#[49]⟩ : ByteArray) t114 t115 _ A15.out) ?_; intro w62 hb; replace BK109 := kb_ BK109 hb; replace BK116 := kb_ BK116 hb; replace HB := bs_ HB hb; (try clear hb); refine hk_ hK (fun hHeld => ?_); clear hK K; refine nm_ ?_; exact norm_ pa_ (hCont (gb116) _ ⟨hHeld, (k_ BK109.out), (k_ BK116.out), GW116.out, GE116.out, NB109_116.out, NB116_109.out, (b_ HB.out)⟩)
             ·skip; refine box_step ?hg (N := 5) ?hd (cs := #[.string (⟨#[]⟩ : ByteArray), .string (⟨#[]⟩ : ByteArray)]) (t := 23) ?hr ?_; (case hd => rfl); (case hg => rfl); (case hr => first | (go_simp; done) | (go_simp; rfl)); intro gb116 hg w61 hbox hb; have BK116 := Aside0.mk (hbox); have GW116 := ge_ HB hg; have GE116 := ge_ HB hg; have NB109_116 := nl_ BK109 hg; have NB116_109 := ng_ BK109 hg; replace BK109 := kb_ BK109 hb; replace HB := bs_ HB hb; clear hb hbox hg; refine hk_ hK (fun hHeld => ?_); clear hK K; refine nm_ ?_; refine on_ 2 (some 30) rfl rfl HT_ (fun K hK => ?_); refine gs_ Tryz.func18 #[.int .i64 t111] ?_
              with_reducible refine (r4_Zeros.calls k t111 t113 _ A13.out).mono ?_
              rintro e w' ⟨rfl, ⟨nd, rfl⟩⟩; refine ⟨_, rfl, ?_⟩; refine hK.out _ _ ⟨(blk_cell BK109.out 0).trans rfl, (blk_cell BK109.out 1).trans rfl⟩ (fun hHeld => ?_); clear hK K; refine nm_ ?_; refine pu_ 3 31 rfl rfl HT_ ?_; refine pu_ 4 32 rfl rfl HT_ ?_; refine on_ 5 (some 33) rfl rfl HT_ (fun K hK => ?_); refine gs_ Tryz.func17 #[.agg #[.string a0_0, .string a0_1], .agg #[.string ((⟨#[49]⟩ : ByteArray) ++ t113), .string (⟨#[49]⟩ : ByteArray)]] ?_; refine mo_ (r3_Mul.calls a0_0 a0_1 ((⟨#[49]⟩ : ByteArray) ++ t113) (⟨#[49]⟩ : ByteArray) t114 t115 _ A15.out) ?_; intro w62 hb; replace BK109 := kb_ BK109 hb; replace BK116 := kb_ BK116 hb; replace HB := bs_ HB hb; (try clear hb); refine hk_ hK (fun hHeld => ?_); clear hK K; refine nm_ ?_; exact norm_ pa_ (hCont (gb116) _ ⟨hHeld, (k_ BK109.out), (k_ BK116.out), GW116.out, GE116.out, NB109_116.out, NB116_109.out, (b_ HB.out)⟩)
            rintro gb116 w63 ⟨hS_, h0_, h1_, h2_, h3_, h4_, h5_, h6_⟩; have n0_ : Aside0 (w63.heap[gb109]? = some (.cells #[.string a0_0, .string a0_1] 23 (0, 0))) := ⟨h0_⟩; have n1_ : Aside0 (w63.heap[gb116]? = some (.cells #[.string (⟨#[]⟩ : ByteArray), .string (⟨#[]⟩ : ByteArray)] 23 (0, 0))) := ⟨h1_⟩; have n2_ : Aside0 (w.heap.size ≤ gb116) := ⟨h2_⟩; have n3_ : Aside0 (w.heap.size ≤ gb116) := ⟨h3_⟩; have n4_ : Aside0 (gb109 ≠ gb116) := ⟨h4_⟩; have n5_ : Aside0 (gb116 ≠ gb109) := ⟨h5_⟩; have n6_ : Aside0 (Below w.heap.size w w63) := ⟨h6_⟩; clear BK109; clear HB; clear h0_ h1_ h2_ h3_ h4_ h5_ h6_; have BK109 := n0_; have BK116 := n1_; have GW116 := n2_; have GE116 := n3_; have NB109_116 := n4_; have NB116_109 := n5_; have HB := n6_; clear n0_ n1_ n2_ n3_ n4_ n5_ n6_; have hHeld : w63.cell? ⟨gb109, 0, none⟩ = some (.string a0_0) ∧ w63.cell? ⟨gb109, 1, none⟩ = some (.string a0_1) := hS_; refine norm_ (a' := ?_) ?_ ?_; rotate_left
            ·simp only [putAll, Act.put, List.setIfInBounds_toArray, List.set_cons_zero, List.set_cons_succ]
             rfl
            refine on_ 7 none rfl rfl HT_ (fun K hK => ?_); have hs64 := bc_ BK116 0 rfl; have hfs64 := blk_frozen BK116.out 0; have hns64_0 := NB109_116.out; have hms64_0 := NB116_109.out; have hs65 := bc_ BK116 1 rfl; have hfs65 := blk_frozen BK116.out 1; have hns65_0 := NB109_116.out; have hms65_0 := NB116_109.out; refine skip_ (w1 := ?_) (by rfl) rfl ?_ ?_; rotate_left
            ·go_simp
             rfl
            refine hf_ hK hHeld (fun hHeld => ?_); clear hK K; refine done_ (done_of HT_.out (by kernel_rfl)) ?_; have hnb66 := NB116_109.out; have hnc66 := NB109_116.out; have hcz67_0 := bc_ BK116 0 rfl; have hcz67_1 := bc_ BK116 1 rfl; have hfz67_0 := blk_frozen BK116.out 0; have hfz67_1 := blk_frozen BK116.out 1
            try go_wp2_with (first | (refine gl_ 36 Tryz.func45 #[.string t114] ?_; refine mo_ (r2_Abs.calls t114 t117 _ A16.out) ?_; intro w68 hb; replace BK109 := Aside0.mk (blk_below (g := gb109) (o := .cells #[.string a0_0, .string a0_1] 23 (0, 0)) (fr_ BK109.out) hb); replace BK116 := Aside0.mk (blk_below (g := gb116) (o := .cells #[.string t114, .string t115] 23 (0, 0)) (rp_ BK116.out) hb); replace HB := bs_ HB hb; (try clear hb); (try clear hb2); (try clear hk); (try clear hi)) | ((with_reducible refine gate_callee (f := 18) rfl ?_); refine goesL_ (some 43) rfl rfl Tryz.func18 (by kernel_rfl) rfl #[.int .i64 ji17] rfl (by (try simp only [List.map_toArray, List.map_cons, List.map_nil]); first | done | (simp only [hji17]; rfl) | rfl | (simp only [List.length_drop, List.length_take]; rfl)) ?_; refine mo_ (r4_Zeros.calls k ji17 t118 _ A18.out) ?_; rintro w' ⟨nd, rfl⟩; have hcz69_0 := bc_ BK109 0 rfl; have hcz69_1 := bc_ BK109 1 rfl; have hfz69_0 := blk_frozen BK109.out 0; have hfz69_1 := blk_frozen BK109.out 1) | (refine gl_ 47 Tryz.func46 #[.agg #[.string a0_0, .string a0_1]] ?_; refine mo_ (r3_Sign.calls a0_0 a0_1 t119 _ A20.out) ?_; intro w70 hb; replace BK109 := kb_ BK109 hb; replace BK116 := kb_ BK116 hb; replace HB := bs_ HB hb; (try clear hb); (try clear hb2); (try clear hk); (try clear hi)))
            replace BK109 := Aside0.mk (blk_drew BK109.out); replace BK116 := Aside0.mk (blk_drew BK116.out); replace HB := Aside0.mk (below_drew1 HB.out); refine start_ (n := 17) (S := fun w' => True) (ds := []) #[false, false, false, false, false, false, false, false, false, false, false, false, false, false, false, false, false] (by kernel_rfl) rfl rfl trivial (fun hHeld => ?_); refine with_tabW r4_Print.tab14 r4_Print.bits14 (fun HT_ HW_ => ?_); generalize w70.drew = w71 at BK109 BK116 HB hHeld ⊢; refine pu_ 0 49 rfl rfl HT_ ?_; refine pu_ 1 50 rfl rfl HT_ ?_; refine pu_ 2 51 rfl rfl HT_ ?_; refine pu_ 3 52 rfl rfl HT_ ?_; refine pu_ 4 53 rfl rfl HT_ ?_; refine pu_ 5 54 rfl rfl HT_ ?_; refine pu_ 6 55 rfl rfl HT_ ?_; refine pu_ 7 56 rfl rfl HT_ ?_; refine pu_ 8 57 rfl rfl HT_ ?_; refine pu_ 9 58 rfl rfl HT_ ?_; refine pu_ 10 59 rfl rfl HT_ ?_; refine pu_ 11 60 rfl rfl HT_ ?_; refine pu_ 12 61 rfl rfl HT_ ?_; refine pu_ 13 62 rfl rfl HT_ ?_; refine pu_ 14 63 rfl rfl HT_ ?_; refine pu_ 15 64 rfl rfl HT_ ?_; refine pu_ 16 2 rfl rfl HT_ ?_; refine done_ (done_of HT_.out (by kernel_rfl)) ?_
            try go_wp2
            go_ret
            exact ⟨by first | rfl | (simp [errW_none, errW_some] <;> rfl) | (simp only [← hji17, ← hji47]; first | rfl | (simp [errW_none, errW_some] <;> rfl)) | (simp [*, errW_none, errW_some] <;> rfl), b_ HB.out⟩
           ·rw [if_neg c54] at H; exact absurd H (by simp)
          ·rw [if_neg c51] at H; exact absurd H (by simp)
         ·rw [if_neg c50] at H; exact absurd H (by simp)
        ·rw [if_neg c49] at H; exact absurd H (by simp)
       ·rw [if_neg c48] at H; exact absurd H (by simp)
     ·rw [if_neg c19] at H; exact absurd H (by simp)
    ·rw [if_neg c14] at H; exact absurd H (by simp)
  ·replace c5 := Bool.eq_false_iff.mpr c5; subst c5; rw [if_neg nf_] at H; by_cases c72 : a0_0.size + 1 ≤ 9223372036854775807
   ·rw [if_pos c72] at H; have c72b0 := eq_true c72; have c72b1 : decide (a0_0.size + 1 ≤ 9223372036854775807) = true := decide_eq_true c72
    try have c72b2 : (9223372036854775807 < a0_0.size + 1) = False := eq_false (Nat.not_lt.2 c72)
    by_cases c73 : (a0_0 ++ (⟨#[47]⟩ : ByteArray)).size + a0_1.size ≤ 9223372036854775807
    ·rw [if_pos c73] at H; have c73b0 := eq_true c73; have c73b1 : decide ((a0_0 ++ (⟨#[47]⟩ : ByteArray)).size + a0_1.size ≤ 9223372036854775807) = true := decide_eq_true c73
     try have c73b2 : (9223372036854775807 < (a0_0 ++ (⟨#[47]⟩ : ByteArray)).size + a0_1.size) = False := eq_false (Nat.not_lt.2 c73)
     obtain rfl := Option.some.inj H; go_enter Tryz.func15, Tryz.ntmps15
     go_wp2_with (first | ((with_reducible refine gate_dst (N := 1) rfl ?_); refine be_ 1 #[.string a0_0, .string a0_1] 23 ?_; intro gb109 hg w74 hbox hb; have BK109 := Aside0.mk (hbox); have GW109 := ge_ HB hg; have GE109 := ge_ HB hg; replace HB := bs_ HB hb; clear hb hbox hg; have hcz75_0 := bc_ BK109 0 rfl; have hcz75_1 := bc_ BK109 1 rfl; have hfz75_0 := blk_frozen BK109.out 0; have hfz75_1 := blk_frozen BK109.out 1) | (refine gl_ 9 Tryz.func38 #[.agg #[.string a0_0, .string a0_1]] ?_; refine mo_ (r3_May.calls a0_0 a0_1 true _ A2.out) ?_; intro w76 hb; replace BK109 := kb_ BK109 hb; replace HB := bs_ HB hb; (try clear hb); (try clear hb2); (try clear hk); (try clear hi); have hcz77_0 := bc_ BK109 0 rfl; have hcz77_1 := bc_ BK109 1 rfl; have hfz77_0 := blk_frozen BK109.out 0; have hfz77_1 := blk_frozen BK109.out 1) | (refine gl_ 13 Tryz.func13 #[.agg #[.string a0_0, .string a0_1]] ?_; refine mo_ (r4_Places.calls k a0_0 a0_1 t111 false _ A4.out) ?_; intro w78 hb; replace BK109 := kb_ BK109 hb; replace HB := bs_ HB hb; (try clear hb); (try clear hb2); (try clear hk); (try clear hi); have hcz79_0 := bc_ BK109 0 rfl; have hcz79_1 := bc_ BK109 1 rfl; have hfz79_0 := blk_frozen BK109.out 0; have hfz79_1 := blk_frozen BK109.out 1))
     go_ret
     exact ⟨er_, b_ HB.out⟩
    ·rw [if_neg c73] at H; exact absurd H (by simp)
   ·rw [if_neg c72] at H; exact absurd H (by simp)
 ·replace c3 := Bool.eq_false_iff.mpr c3; subst c3; rw [if_neg nf_] at H; obtain rfl := Option.some.inj H; go_enter Tryz.func15, Tryz.ntmps15
  go_wp2_with (first | ((with_reducible refine gate_dst (N := 1) rfl ?_); refine be_ 1 #[.string a0_0, .string a0_1] 23 ?_; intro gb109 hg w80 hbox hb; have BK109 := Aside0.mk (hbox); have GW109 := ge_ HB hg; have GE109 := ge_ HB hg; replace HB := bs_ HB hb; clear hb hbox hg; have hcz81_0 := bc_ BK109 0 rfl; have hcz81_1 := bc_ BK109 1 rfl; have hfz81_0 := blk_frozen BK109.out 0; have hfz81_1 := blk_frozen BK109.out 1) | (refine gl_ 9 Tryz.func38 #[.agg #[.string a0_0, .string a0_1]] ?_; refine mo_ (r3_May.calls a0_0 a0_1 false _ A2.out) ?_; intro w82 hb; replace BK109 := kb_ BK109 hb; replace HB := bs_ HB hb; (try clear hb); (try clear hb2); (try clear hk); (try clear hi)))
  go_ret
  exact ⟨er_, b_ HB.out⟩
end Go.Proofs.YtaldgaiaelbbaaaGreatDoor.Pe
end

section
namespace Go.Proofs.YtaldgaiaelbbaaaGreatDoor.Pe
def r4_digits.l0 : Nat → ByteArray → Int → Option (Bool)
 | 0, _, _ => none
 | k + 1, x0, x3 => if x3 < (x0.size : Int) then (if 0 ≤ x3 then (if (bt x0 x3) < 48 then (some false) else (if (bt x0 x3) > 57 then (some false) else (r4_digits.l0 k x0 (wrap64 (x3 + 1))))) else (none)) else (some (decide ((x0.size : Int) > 0)))
def r4_digits.f (k : Nat) (a0 : ByteArray) : Option (Bool) := r4_digits.l0 k a0 0
set_option maxHeartbeats 8000000 in
set_option maxRecDepth 100000 in
theorem r4_digits.calls (k : Nat) (a0 : ByteArray) (r : Bool) (w : World) (h : r4_digits.f k a0 = some r) :
  Calls Tryz.prog 32 #[.string a0] w fun e w' => e = .returned (.bool r) ∧ Drawn0 w w' := by
 have H := h; unfold r4_digits.f at H; clear h; have H' := Aside0.mk H; clear H; go_enter Tryz.func32, Tryz.ntmps32; go_wp2
 go_loopg [3] k (fun kq v3 w' => ∃ (x3_1 : Int), v3 = .int .i64 x3_1 ∧ Aside0 (r4_digits.l0 kq a0 x3_1 = some r) ∧ Aside0 (kq ≤ k) ∧ Drawn0 w w')
 case atStart => exact ⟨(0), rl_, H', ⟨Nat.le_refl _⟩, d0_⟩
 case round =>
  clear H'; obtain ⟨x3_1, rfl, HA, HK1, ⟨m1, rfl⟩⟩ := hrel
  cases gk with
  | zero => exact absurd HA.out (by simp [r4_digits.l0])
  | succ k1 =>
   have H := HA.out; clear HA; simp only [r4_digits.l0] at H; by_cases c2 : x3_1 < (a0.size : Int)
   ·rw [if_pos c2] at H; have c2b0 : decide (x3_1 < (a0.size : Int)) = true := decide_eq_true c2; clear c2; by_cases c3 : 0 ≤ x3_1
    ·rw [if_pos c3] at H; have c3b0 : decide (0 ≤ x3_1) = true := decide_eq_true c3; clear c3; by_cases c5 : (bt a0 x3_1) < 48
     ·rw [if_pos c5] at H; have c5b0 : decide ((bt a0 x3_1) < 48) = true := decide_eq_true c5; clear c5; obtain rfl := Option.some.inj H; have p4 : 0 ≤ (x3_1 : Int) := of_decide_eq_true as_f; have q4 : x3_1 < (a0.size : Int) := of_decide_eq_true as_f; have hx4 := bt_at a0 x3_1; replace p4 := eq_true p4; replace q4 := eq_true q4; go_wp2
      go_ret
      exact ⟨by first | rfl | (simp; done) | (simp [*]; done), d0_⟩
     ·rw [if_neg c5] at H; have c5b0 : decide ((bt a0 x3_1) < 48) = false := decide_eq_false c5; clear c5; by_cases c7 : (bt a0 x3_1) > 57
      ·rw [if_pos c7] at H; have c7b0 : decide (57 < (bt a0 x3_1)) = true := decide_eq_true c7; clear c7; obtain rfl := Option.some.inj H; have p4 : 0 ≤ (x3_1 : Int) := of_decide_eq_true as_f; have q4 : x3_1 < (a0.size : Int) := of_decide_eq_true as_f; have hx4 := bt_at a0 x3_1; replace p4 := eq_true p4; replace q4 := eq_true q4; have p6 : 0 ≤ (x3_1 : Int) := of_decide_eq_true as_f; have q6 : x3_1 < (a0.size : Int) := of_decide_eq_true as_f; have hx6 := bt_at a0 x3_1; replace p6 := eq_true p6; replace q6 := eq_true q6; go_wp2
       go_ret
       exact ⟨by first | rfl | (simp; done) | (simp [*]; done), d0_⟩
      ·rw [if_neg c7] at H; have c7b0 : decide (57 < (bt a0 x3_1)) = false := decide_eq_false c7; clear c7; have H' := Aside0.mk H; clear H; have p4 : 0 ≤ (x3_1 : Int) := of_decide_eq_true as_f; have q4 : x3_1 < (a0.size : Int) := of_decide_eq_true as_f; have hx4 := bt_at a0 x3_1; replace p4 := eq_true p4; replace q4 := eq_true q4; have p6 : 0 ≤ (x3_1 : Int) := of_decide_eq_true as_f; have q6 : x3_1 < (a0.size : Int) := of_decide_eq_true as_f; have hx6 := bt_at a0 x3_1; replace p6 := eq_true p6; replace q6 := eq_true q6; go_wp2
       go_roundg k1
       case measure => have := HK1.out; omega
       case rel => exact ⟨(wrap64 (x3_1 + 1)), rl_, H', ⟨by have := HK1.out; omega⟩, d0_⟩
    ·rw [if_neg c3] at H; exact absurd H (by simp)
   ·rw [if_neg c2] at H; have c2b0 : decide (x3_1 < (a0.size : Int)) = false := decide_eq_false c2; clear c2; obtain rfl := Option.some.inj H; go_wp2
    go_ret
    exact ⟨by first | rfl | (simp; done) | (simp [*]; done), d0_⟩
def r4_plain.l0 : Nat → ByteArray → Int → Option (ByteArray)
 | 0, _, _ => none
 | k + 1, x0, x3 => if (wrap64 (x3 + 1)) < (x0.size : Int) then (if 0 ≤ x3 then (if x3 < (x0.size : Int) then (if (bt x0 x3) = 48 then (r4_plain.l0 k x0 (wrap64 (x3 + 1))) else (if x3 ≤ (x0.size : Int) then (some (x0.extract (x3 : Int).toNat x0.size)) else (none))) else (none)) else (none)) else (if 0 ≤ x3 then (if x3 ≤ (x0.size : Int) then (some (x0.extract (x3 : Int).toNat x0.size)) else (none)) else (none))
def r4_plain.f (k : Nat) (a0 : ByteArray) : Option (ByteArray) := r4_plain.l0 k a0 0
set_option maxHeartbeats 8000000 in
set_option maxRecDepth 100000 in
theorem r4_plain.calls (k : Nat) (a0 : ByteArray) (r : ByteArray) (w : World) (h : r4_plain.f k a0 = some r) :
  Calls Tryz.prog 33 #[.string a0] w fun e w' => e = .returned (.string r) ∧ Drawn0 w w' := by
 have H := h; unfold r4_plain.f at H; clear h; have H' := Aside0.mk H; clear H; go_enter Tryz.func33, Tryz.ntmps33; go_wp2
 go_loopg [3] k (fun kq v3 w' => ∃ (x3_1 : Int), v3 = .int .i64 x3_1 ∧ Aside0 (r4_plain.l0 kq a0 x3_1 = some r) ∧ Aside0 (kq ≤ k) ∧ Drawn0 w w')
 case atStart => exact ⟨(0), rl_, H', ⟨Nat.le_refl _⟩, d0_⟩
 case round =>
  clear H'; obtain ⟨x3_1, rfl, HA, HK1, ⟨m1, rfl⟩⟩ := hrel
  cases gk with
  | zero => exact absurd HA.out (by simp [r4_plain.l0])
  | succ k1 =>
   have H := HA.out; clear HA; simp only [r4_plain.l0] at H; by_cases c2 : (wrap64 (x3_1 + 1)) < (a0.size : Int)
   ·rw [if_pos c2] at H; have c2b0 : decide ((wrap64 (x3_1 + 1)) < (a0.size : Int)) = true := decide_eq_true c2
    have c2b0w : decide ((IntKind.i64.wrap (x3_1 + 1)) < (a0.size : Int)) = true := by simp only [i64_w]; exact c2b0
    clear c2; by_cases c3 : 0 ≤ x3_1
    ·rw [if_pos c3] at H; have c3b0 : decide (0 ≤ x3_1) = true := decide_eq_true c3; clear c3; by_cases c4 : x3_1 < (a0.size : Int)
     ·rw [if_pos c4] at H; have c4b0 : decide (x3_1 < (a0.size : Int)) = true := decide_eq_true c4; clear c4; by_cases c6 : (bt a0 x3_1) = 48
      ·rw [if_pos c6] at H; have c6b0 : ((bt a0 x3_1) == 48) = true := beq_iff_eq.mpr c6; have c6b1 : ((bt a0 x3_1) != 48) = false := bne_eq_false_iff_eq.mpr c6; clear c6; have H' := Aside0.mk H; clear H; have p5 : 0 ≤ (x3_1 : Int) := of_decide_eq_true as_f; have q5 : x3_1 < (a0.size : Int) := of_decide_eq_true as_f; have hx5 := bt_at a0 x3_1; replace p5 := eq_true p5; replace q5 := eq_true q5; go_wp2
       go_roundg k1
       case measure => have := HK1.out; omega
       case rel => exact ⟨(wrap64 (x3_1 + 1)), rl_, H', ⟨by have := HK1.out; omega⟩, d0_⟩
      ·rw [if_neg c6] at H; have c6b0 : ((bt a0 x3_1) == 48) = false := beq_eq_false_iff_ne.mpr c6; have c6b1 : ((bt a0 x3_1) != 48) = true := bne_iff_ne.mpr c6; have c7b0 := eq_true (of_decide_eq_true as_f : 0 ≤ x3_1); by_cases c8 : x3_1 ≤ (a0.size : Int)
       ·rw [if_pos c8] at H; have c8b0 := eq_true c8; have c8b1 : decide (x3_1 ≤ (a0.size : Int)) = true := decide_eq_true c8; clear c8; obtain rfl := Option.some.inj H; have p5 : 0 ≤ (x3_1 : Int) := of_decide_eq_true as_f; have q5 : x3_1 < (a0.size : Int) := of_decide_eq_true as_f; have hx5 := bt_at a0 x3_1; replace p5 := eq_true p5; replace q5 := eq_true q5; go_wp2
        go_ret
        exact ⟨by first | rfl | (simp; done) | (simp [*]; done), d0_⟩
       ·rw [if_neg c8] at H; exact absurd H (by simp)
     ·rw [if_neg c4] at H; exact absurd H (by simp)
    ·rw [if_neg c3] at H; exact absurd H (by simp)
   ·rw [if_neg c2] at H; have c2b0 : decide ((wrap64 (x3_1 + 1)) < (a0.size : Int)) = false := decide_eq_false c2
    have c2b0w : decide ((IntKind.i64.wrap (x3_1 + 1)) < (a0.size : Int)) = false := by simp only [i64_w]; exact c2b0
    clear c2; by_cases c9 : 0 ≤ x3_1
    ·rw [if_pos c9] at H; have c9b0 := eq_true c9; have c9b1 : decide (0 ≤ x3_1) = true := decide_eq_true c9; clear c9; by_cases c10 : x3_1 ≤ (a0.size : Int)
     ·rw [if_pos c10] at H; have c10b0 := eq_true c10; have c10b1 : decide (x3_1 ≤ (a0.size : Int)) = true := decide_eq_true c10; clear c10; obtain rfl := Option.some.inj H; go_wp2
      go_ret
      exact ⟨by first | rfl | (simp; done) | (simp [*]; done), d0_⟩
     ·rw [if_neg c10] at H; exact absurd H (by simp)
    ·rw [if_neg c9] at H; exact absurd H (by simp)
def r4_find.l0 : Nat → ByteArray → Int → Int → Option (Int)
 | 0, _, _, _ => none
 | k + 1, x0, x1, x5 => if x5 < (x0.size : Int) then (if 0 ≤ x5 then (if (bt x0 x5) = x1 then (some x5) else (r4_find.l0 k x0 x1 (wrap64 (x5 + 1)))) else (none)) else (some (-1))
def r4_find.f (k : Nat) (a0 : ByteArray) (a1 : Int) : Option (Int) := r4_find.l0 k a0 a1 0
set_option maxHeartbeats 8000000 in
set_option maxRecDepth 100000 in
theorem r4_find.calls (k : Nat) (a0 : ByteArray) (a1 : Int) (r : Int) (w : World) (h : r4_find.f k a0 a1 = some r) :
  Calls Tryz.prog 31 #[.string a0, .int .u8 a1] w fun e w' => e = .returned (.int .i64 r) ∧ Drawn0 w w' := by
 have H := h; unfold r4_find.f at H; clear h; have H' := Aside0.mk H; clear H; go_enter Tryz.func31, Tryz.ntmps31; go_wp2
 go_loopg [5] k (fun kq v5 w' => ∃ (x5_1 : Int), v5 = .int .i64 x5_1 ∧ Aside0 (r4_find.l0 kq a0 a1 x5_1 = some r) ∧ Aside0 (kq ≤ k) ∧ Drawn0 w w')
 case atStart => exact ⟨(0), rl_, H', ⟨Nat.le_refl _⟩, d0_⟩
 case round =>
  clear H'; (try clear p2); obtain ⟨x5_1, rfl, HA, HK1, ⟨m1, rfl⟩⟩ := hrel
  cases gk with
  | zero => exact absurd HA.out (by simp [r4_find.l0])
  | succ k1 =>
   have H := HA.out; clear HA; simp only [r4_find.l0] at H; by_cases c3 : x5_1 < (a0.size : Int)
   ·rw [if_pos c3] at H; have c3b0 : decide (x5_1 < (a0.size : Int)) = true := decide_eq_true c3; clear c3; by_cases c4 : 0 ≤ x5_1
    ·rw [if_pos c4] at H; have c4b0 : decide (0 ≤ x5_1) = true := decide_eq_true c4; clear c4; by_cases c6 : (bt a0 x5_1) = a1
     ·rw [if_pos c6] at H; have c6b0 : ((bt a0 x5_1) == a1) = true := beq_iff_eq.mpr c6; have c6b1 : ((bt a0 x5_1) != a1) = false := bne_eq_false_iff_eq.mpr c6; clear c6; obtain rfl := Option.some.inj H; have p5 : 0 ≤ (x5_1 : Int) := of_decide_eq_true as_f; have q5 : x5_1 < (a0.size : Int) := of_decide_eq_true as_f; have hx5 := bt_at a0 x5_1; replace p5 := eq_true p5; replace q5 := eq_true q5; go_wp2
      go_ret
      exact ⟨by first | rfl | (simp; done) | (simp [*]; done), d0_⟩
     ·rw [if_neg c6] at H; have c6b0 : ((bt a0 x5_1) == a1) = false := beq_eq_false_iff_ne.mpr c6; have c6b1 : ((bt a0 x5_1) != a1) = true := bne_iff_ne.mpr c6; have H' := Aside0.mk H; clear H; have p5 : 0 ≤ (x5_1 : Int) := of_decide_eq_true as_f; have q5 : x5_1 < (a0.size : Int) := of_decide_eq_true as_f; have hx5 := bt_at a0 x5_1; replace p5 := eq_true p5; replace q5 := eq_true q5; go_wp2
      go_roundg k1
      case measure => have := HK1.out; omega
      case rel => exact ⟨(wrap64 (x5_1 + 1)), rl_, H', ⟨by have := HK1.out; omega⟩, d0_⟩
    ·rw [if_neg c4] at H; exact absurd H (by simp)
   ·rw [if_neg c3] at H; have c3b0 : decide (x5_1 < (a0.size : Int)) = false := decide_eq_false c3; clear c3; obtain rfl := Option.some.inj H; go_wp2
    go_ret
    exact ⟨by first | rfl | (simp; done) | (simp [*]; done), d0_⟩
end Go.Proofs.YtaldgaiaelbbaaaGreatDoor.Pe
end

section
namespace Go.Proofs.YtaldgaiaelbbaaaGreatDoor.Pe
mutual
def r4_Parse.j0 : Nat → ByteArray → ByteArray → Bool → ByteArray → ByteArray → Option (ByteArray × ByteArray × Int)
 | 0, _, _, _, _, _ => none
 | k + 1, x0, x5, x6, x122000, x122001 => if x6 = true then (if 1 ≤ (x0.size : Int) then (r4_Parse.j1 k (x0.extract 1 x0.size) x6 x122000 x122001) else (none)) else (r4_Parse.j1 k x5 x6 x122000 x122001)
def r4_Parse.j1 : Nat → ByteArray → Bool → ByteArray → ByteArray → Option (ByteArray × ByteArray × Int)
 | 0, _, _, _, _ => none
 | k + 1, x5, x6, x122000, x122001 => (r4_find.f k x5 47).bind fun t122 => ((r4_find.f k x5 46).bind fun t123 => (if t122 ≥ 0 then (if 0 ≤ t122 then (if t122 ≤ (x5.size : Int) then (if 0 ≤ (wrap64 (t122 + 1)) then (if (wrap64 (t122 + 1)) ≤ (x5.size : Int) then (r4_Parse.j2 k x6 (x5.extract 0 (t122 : Int).toNat) (x5.extract ((wrap64 (t122 + 1)) : Int).toNat x5.size) x122000 x122001) else (none)) else (none)) else (none)) else (none)) else (if t123 ≥ 0 then (if 0 ≤ t123 then (if t123 ≤ (x5.size : Int) then ((r4_digits.f k (x5.extract 0 (t123 : Int).toNat)).bind fun t124 => (if t124 = true then (if 0 ≤ (wrap64 (t123 + 1)) then (if (wrap64 (t123 + 1)) ≤ (x5.size : Int) then ((r4_digits.f k (x5.extract ((wrap64 (t123 + 1)) : Int).toNat x5.size)).bind fun t125 => (if t125 = true then (if (x5.extract 0 (t123 : Int).toNat).size + (x5.extract ((wrap64 (t123 + 1)) : Int).toNat x5.size).size ≤ 9223372036854775807 then ((r4_Zeros.f k (wrap64 ((wrap64 ((x5.size : Int) - t123)) - 1))).bind fun t126 => (if 1 + t126.size ≤ 9223372036854775807 then (r4_Parse.j2 k x6 ((x5.extract 0 (t123 : Int).toNat) ++ (x5.extract ((wrap64 (t123 + 1)) : Int).toNat x5.size)) ((⟨#[49]⟩ : ByteArray) ++ t126) x122000 x122001) else (none))) else (none)) else (some (x122000, x122001, 40)))) else (none)) else (none)) else (some (x122000, x122001, 40)))) else (none)) else (none)) else (r4_Parse.j2 k x6 x5 (⟨#[49]⟩ : ByteArray) x122000 x122001))))
def r4_Parse.j2 : Nat → Bool → ByteArray → ByteArray → ByteArray → ByteArray → Option (ByteArray × ByteArray × Int)
 | 0, _, _, _, _, _ => none
 | k + 1, x6, x7, x8, x122000, x122001 => (r4_digits.f k x7).bind fun t127 => (if t127 = true then ((r4_digits.f k x8).bind fun t128 => (r4_Parse.j3 k x6 x7 x8 (!t128) x122000 x122001)) else (r4_Parse.j3 k x6 x7 x8 true x122000 x122001))
def r4_Parse.j3 : Nat → Bool → ByteArray → ByteArray → Bool → ByteArray → ByteArray → Option (ByteArray × ByteArray × Int)
 | 0, _, _, _, _, _, _ => none
 | k + 1, x6, x7, x8, x82, x122000, x122001 => if x82 = true then (some (x122000, x122001, 40)) else ((r4_plain.f k x7).bind fun t129 => (if x6 = true then ((r2_Neg.f t129).bind fun t130 => (r4_Parse.j4 k t130 x8 x122000 x122001)) else (r4_Parse.j4 k t129 x8 x122000 x122001)))
def r4_Parse.j4 : Nat → ByteArray → ByteArray → ByteArray → ByteArray → Option (ByteArray × ByteArray × Int)
 | 0, _, _, _, _ => none
 | k + 1, x7, x8, x122000, x122001 => (r4_plain.f k x8).bind fun t131 => ((r3_Make.f x7 t131).bind fun bt132 => (if bt132.2.2 = true then (some (bt132.1, bt132.2.1, 0)) else (some (x122000, x122001, 40))))
end
def r4_Parse.f (k : Nat) (a0 : ByteArray) : Option (ByteArray × ByteArray × Int) := if (a0.size : Int) > 1000 then (some ((⟨#[]⟩ : ByteArray), (⟨#[]⟩ : ByteArray), 40)) else (if (a0.size : Int) > 0 then (if 0 < (a0.size : Int) then (r4_Parse.j0 k a0 a0 ((bt a0 0) == 45) (⟨#[]⟩ : ByteArray) (⟨#[]⟩ : ByteArray)) else (none)) else (r4_Parse.j0 k a0 a0 false (⟨#[]⟩ : ByteArray) (⟨#[]⟩ : ByteArray)))
set_option maxHeartbeats 8000000 in
set_option maxRecDepth 100000 in
theorem r4_Parse.calls (k : Nat) (a0 : ByteArray) (r1 : ByteArray) (r2 : ByteArray) (r3 : Int) (w : World) (h : r4_Parse.f k a0 = some (r1, r2, r3)) :
  Calls Tryz.prog 11 #[.string a0] w fun e w' => e = .returned (.tuple #[.agg #[.string r1, .string r2], .int .i64 r3]) ∧ Below w.heap.size w w' := by
 have hu23 := Tryz.underlying23; have HB := Aside0.mk (Below.refl w.heap.size w); have H := h; unfold r4_Parse.f at H; clear h; by_cases c2 : (a0.size : Int) > 1000
 ·rw [if_pos c2] at H; have c2b0 : decide (1000 < (a0.size : Int)) = true := decide_eq_true c2; have c2b1 : decide (1000 < a0.size) = true := decide_eq_true (by omega); clear c2; simp only [Option.some.injEq, Prod.mk.injEq] at H; obtain ⟨rfl, rfl, rfl⟩ := H; go_enter Tryz.func11, Tryz.ntmps11
  go_wp2_with (first | ((with_reducible refine gate_dst (N := 2) rfl ?_); refine be_ 2 #[.string (⟨#[]⟩ : ByteArray), .string (⟨#[]⟩ : ByteArray)] 23 ?_; intro gb120 hg w3 hbox hb; have BK120 := Aside0.mk (hbox); have GW120 := ge_ HB hg; have GE120 := ge_ HB hg; replace HB := bs_ HB hb; clear hb hbox hg) | ((with_reducible refine gate_dst (N := 4) rfl ?_); refine be_ 4 #[.string (⟨#[]⟩ : ByteArray), .string (⟨#[]⟩ : ByteArray)] 23 ?_; intro gb121 hg w4 hbox hb; have BK121 := Aside0.mk (hbox); have GW121 := ge_ HB hg; have GE121 := ge_ HB hg; have NB120_121 := nl_ BK120 hg; have NB121_120 := ng_ BK120 hg; replace BK120 := kb_ BK120 hb; replace HB := bs_ HB hb; clear hb hbox hg; have hnb5 := NB121_120.out; have hnc5 := NB120_121.out; have hcz6_0 := bc_ BK121 0 rfl; have hcz6_1 := bc_ BK121 1 rfl; have hfz6_0 := blk_frozen BK121.out 0; have hfz6_1 := blk_frozen BK121.out 1; have hcz7_0 := bc_ BK120 0 rfl; have hcz7_1 := bc_ BK120 1 rfl; have hfz7_0 := blk_frozen BK120.out 0; have hfz7_1 := blk_frozen BK120.out 1))
  repeat (go_quiet (first | ((with_reducible refine gate_dst (N := 2) rfl ?_); refine be_ 2 #[.string (⟨#[]⟩ : ByteArray), .string (⟨#[]⟩ : ByteArray)] 23 ?_; intro gb120 hg w3 hbox hb; have BK120 := Aside0.mk (hbox); have GW120 := ge_ HB hg; have GE120 := ge_ HB hg; replace HB := bs_ HB hb; clear hb hbox hg) | ((with_reducible refine gate_dst (N := 4) rfl ?_); refine be_ 4 #[.string (⟨#[]⟩ : ByteArray), .string (⟨#[]⟩ : ByteArray)] 23 ?_; intro gb121 hg w4 hbox hb; have BK121 := Aside0.mk (hbox); have GW121 := ge_ HB hg; have GE121 := ge_ HB hg; have NB120_121 := nl_ BK120 hg; have NB121_120 := ng_ BK120 hg; replace BK120 := kb_ BK120 hb; replace HB := bs_ HB hb; clear hb hbox hg; have hnb5 := NB121_120.out; have hnc5 := NB120_121.out; have hcz6_0 := bc_ BK121 0 rfl; have hcz6_1 := bc_ BK121 1 rfl; have hfz6_0 := blk_frozen BK121.out 0; have hfz6_1 := blk_frozen BK121.out 1; have hcz7_0 := bc_ BK120 0 rfl; have hcz7_1 := bc_ BK120 1 rfl; have hfz7_0 := blk_frozen BK120.out 0; have hfz7_1 := blk_frozen BK120.out 1)); try go_wp2_with (first | ((with_reducible refine gate_dst (N := 2) rfl ?_); refine be_ 2 #[.string (⟨#[]⟩ : ByteArray), .string (⟨#[]⟩ : ByteArray)] 23 ?_; intro gb120 hg w3 hbox hb; have BK120 := Aside0.mk (hbox); have GW120 := ge_ HB hg; have GE120 := ge_ HB hg; replace HB := bs_ HB hb; clear hb hbox hg) | ((with_reducible refine gate_dst (N := 4) rfl ?_); refine be_ 4 #[.string (⟨#[]⟩ : ByteArray), .string (⟨#[]⟩ : ByteArray)] 23 ?_; intro gb121 hg w4 hbox hb; have BK121 := Aside0.mk (hbox); have GW121 := ge_ HB hg; have GE121 := ge_ HB hg; have NB120_121 := nl_ BK120 hg; have NB121_120 := ng_ BK120 hg; replace BK120 := kb_ BK120 hb; replace HB := bs_ HB hb; clear hb hbox hg; have hnb5 := NB121_120.out; have hnc5 := NB120_121.out; have hcz6_0 := bc_ BK121 0 rfl; have hcz6_1 := bc_ BK121 1 rfl; have hfz6_0 := blk_frozen BK121.out 0; have hfz6_1 := blk_frozen BK121.out 1; have hcz7_0 := bc_ BK120 0 rfl; have hcz7_1 := bc_ BK120 1 rfl; have hfz7_0 := blk_frozen BK120.out 0; have hfz7_1 := blk_frozen BK120.out 1)))
  refine bodyPost_ret (results_ct rfl _ _ gb120 23 #[.string (⟨#[]⟩ : ByteArray), .string (⟨#[]⟩ : ByteArray)] (0, 0) _ rfl (by refine k_ ?_; refine blk_put (cs := #[.string (⟨#[]⟩ : ByteArray), .string (⟨#[]⟩ : ByteArray)]) ?_ 1 _ rfl; refine k_ ?_; refine blk_put (cs := #[.string (⟨#[]⟩ : ByteArray), .string (⟨#[]⟩ : ByteArray)]) ?_ 0 _ rfl; refine k_ ?_; refine blk_far ?_ NB120_121.out _; refine k_ ?_; refine blk_far ?_ NB120_121.out _; refine k_ ?_; exact BK120.out) Tryz.underlying23 rfl (by kernel_rfl)) rfl ?_; exact ⟨er_, b_ HB.out⟩
 ·rw [if_neg c2] at H; have c2b0 : decide (1000 < (a0.size : Int)) = false := decide_eq_false c2; have c2b1 : decide (1000 < a0.size) = false := decide_eq_false (by omega); clear c2; have HC8 := Aside0.mk H; clear H; go_enter Tryz.func11, Tryz.ntmps11
  go_upto_region 5 with (first | ((with_reducible refine gate_dst (N := 2) rfl ?_); refine be_ 2 #[.string (⟨#[]⟩ : ByteArray), .string (⟨#[]⟩ : ByteArray)] 23 ?_; intro gb120 hg w9 hbox hb; have BK120 := Aside0.mk (hbox); have GW120 := ge_ HB hg; have GE120 := ge_ HB hg; replace HB := bs_ HB hb; clear hb hbox hg) | ((with_reducible refine gate_dst (N := 4) rfl ?_); refine be_ 4 #[.string (⟨#[]⟩ : ByteArray), .string (⟨#[]⟩ : ByteArray)] 23 ?_; intro gb121 hg w10 hbox hb; have BK121 := Aside0.mk (hbox); have GW121 := ge_ HB hg; have GE121 := ge_ HB hg; have NB120_121 := nl_ BK120 hg; have NB121_120 := ng_ BK120 hg; replace BK120 := kb_ BK120 hb; replace HB := bs_ HB hb; clear hb hbox hg; have hnb11 := NB121_120.out; have hnc11 := NB120_121.out; have hcz12_0 := bc_ BK121 0 rfl; have hcz12_1 := bc_ BK121 1 rfl; have hfz12_0 := blk_frozen BK121.out 0; have hfz12_1 := blk_frozen BK121.out 1))
  repeat (go_quiet (first | ((with_reducible refine gate_dst (N := 2) rfl ?_); refine be_ 2 #[.string (⟨#[]⟩ : ByteArray), .string (⟨#[]⟩ : ByteArray)] 23 ?_; intro gb120 hg w9 hbox hb; have BK120 := Aside0.mk (hbox); have GW120 := ge_ HB hg; have GE120 := ge_ HB hg; replace HB := bs_ HB hb; clear hb hbox hg) | ((with_reducible refine gate_dst (N := 4) rfl ?_); refine be_ 4 #[.string (⟨#[]⟩ : ByteArray), .string (⟨#[]⟩ : ByteArray)] 23 ?_; intro gb121 hg w10 hbox hb; have BK121 := Aside0.mk (hbox); have GW121 := ge_ HB hg; have GE121 := ge_ HB hg; have NB120_121 := nl_ BK120 hg; have NB121_120 := ng_ BK120 hg; replace BK120 := kb_ BK120 hb; replace HB := bs_ HB hb; clear hb hbox hg; have hnb11 := NB121_120.out; have hnc11 := NB120_121.out; have hcz12_0 := bc_ BK121 0 rfl; have hcz12_1 := bc_ BK121 1 rfl; have hfz12_0 := blk_frozen BK121.out 0; have hfz12_1 := blk_frozen BK121.out 1)); go_upto_region 5 with (first | ((with_reducible refine gate_dst (N := 2) rfl ?_); refine be_ 2 #[.string (⟨#[]⟩ : ByteArray), .string (⟨#[]⟩ : ByteArray)] 23 ?_; intro gb120 hg w9 hbox hb; have BK120 := Aside0.mk (hbox); have GW120 := ge_ HB hg; have GE120 := ge_ HB hg; replace HB := bs_ HB hb; clear hb hbox hg) | ((with_reducible refine gate_dst (N := 4) rfl ?_); refine be_ 4 #[.string (⟨#[]⟩ : ByteArray), .string (⟨#[]⟩ : ByteArray)] 23 ?_; intro gb121 hg w10 hbox hb; have BK121 := Aside0.mk (hbox); have GW121 := ge_ HB hg; have GE121 := ge_ HB hg; have NB120_121 := nl_ BK120 hg; have NB121_120 := ng_ BK120 hg; replace BK120 := kb_ BK120 hb; replace HB := bs_ HB hb; clear hb hbox hg; have hnb11 := NB121_120.out; have hnc11 := NB120_121.out; have hcz12_0 := bc_ BK121 0 rfl; have hcz12_1 := bc_ BK121 1 rfl; have hfz12_0 := blk_frozen BK121.out 0; have hfz12_1 := blk_frozen BK121.out 1)))
  (try simp only [Act.put, List.setIfInBounds_toArray, List.set_cons_zero, List.set_cons_succ])
  go_cut [6] (fun v6 wc => ∃ (kq : Nat) (x6_7 : Bool), v6 = .bool x6_7 ∧ Aside0 (r4_Parse.j0 kq a0 a0 x6_7 (⟨#[]⟩ : ByteArray) (⟨#[]⟩ : ByteArray) = some (r1, r2, r3)) ∧ Aside0 (kq ≤ k) ∧ Aside0 (wc.heap[gb120]? = some (.cells #[.string (⟨#[]⟩ : ByteArray), .string (⟨#[]⟩ : ByteArray)] 23 (0, 0))) ∧ Aside0 (wc.heap[gb121]? = some (.cells #[.string (⟨#[]⟩ : ByteArray), .string (⟨#[]⟩ : ByteArray)] 23 (0, 0))) ∧ Aside0 (Below w.heap.size w wc))
  case first =>
   have H := HC8.out; clear HC8; by_cases c13 : (a0.size : Int) > 0
   ·rw [if_pos c13] at H; have c13b0 : decide (0 < (a0.size : Int)) = true := decide_eq_true c13; have c13b1 : decide (0 < a0.size) = true := decide_eq_true (by omega); clear c13; (first | rw [c13b0] | (simp only [i64_w, i32_w]; rw [c13b0]) | skip); by_cases c14 : 0 < (a0.size : Int)
    ·rw [if_pos c14] at H; have c14b0 : decide (0 < (a0.size : Int)) = true := decide_eq_true c14; have c14b1 : decide (0 < a0.size) = true := decide_eq_true (by omega); clear c14; have H' := Aside0.mk H; clear H; have p15 : 0 ≤ (0 : Int) := (by omega); have q15 : 0 < a0.size := (by have : (0 : Int) < (a0.size : Int) := of_decide_eq_true as_f; omega); have hx15 : ∀ h : 0 < a0.size, ((a0[0]'h).toNat : Int) = bt a0 0 := bt_at a0 0; clear p15; have qi15 : (0 < (a0.size : Int)) = True := eq_true (of_decide_eq_true as_f); replace q15 := eq_true q15; go_wp2
     repeat (go_quiet (fail); try go_wp2)
     go_meet
     case rel => exact ⟨_, (((bt a0 0) == 45)), rl_, H', ⟨by first | omega | exact Nat.le_refl _⟩, ⟨fr_ BK120.out⟩, ⟨rp_ BK121.out⟩, ⟨b_ HB.out⟩⟩
    ·rw [if_neg c14] at H; exact absurd H (by simp)
   ·rw [if_neg c13] at H; have c13b0 : decide (0 < (a0.size : Int)) = false := decide_eq_false c13; have c13b1 : decide (0 < a0.size) = false := decide_eq_false (by omega); clear c13; (first | rw [c13b0] | (simp only [i64_w, i32_w]; rw [c13b0]) | skip); have H' := Aside0.mk H; clear H; go_wp2
    repeat (go_quiet (fail); try go_wp2)
    go_meet
    case rel => exact ⟨_, (false), rl_, H', ⟨by first | omega | exact Nat.le_refl _⟩, ⟨fr_ BK120.out⟩, ⟨rp_ BK121.out⟩, ⟨b_ HB.out⟩⟩
  case rest =>
   clear HC8; (try clear c1); (try clear p1); (try clear q1); (try clear hx1); (try clear qi1); (try clear c2); (try clear c2b0); (try clear c2b1); (try clear p2); (try clear c5); (try clear c11); (try clear c13); (try clear c13b0); (try clear c13b1); (try clear c14); (try clear c14b0); (try clear c14b1); (try clear p15); (try clear q15); (try clear hx15); (try clear qi15); (try clear hcz12_0); (try clear hcz12_1); (try clear hcz6_0); (try clear hcz6_1); (try clear hcz7_0); (try clear hcz7_1); (try clear hfz12_0); (try clear hfz12_1); (try clear hfz6_0); (try clear hfz6_1); (try clear hfz7_0); (try clear hfz7_1); (try clear p15); (try clear q15); obtain ⟨kq, x6_7, rfl, HA, HJ7, BK120, BK121, HB⟩ := hcut
   cases kq with
   | zero => exact absurd HA.out (by simp [r4_Parse.j0])
   | succ kj7 =>
    have H := HA.out; clear HA; simp only [r4_Parse.j0] at H; have HC16 := Aside0.mk H; clear H
    go_upto_if 27 with (fail)
    repeat (go_quiet (fail); go_upto_if 27 with (fail))
    go_cut [5] (fun v5 wc => ∃ (kq : Nat) (x5_15 : ByteArray), v5 = .string x5_15 ∧ Aside0 (r4_Parse.j1 kq x5_15 x6_7 (⟨#[]⟩ : ByteArray) (⟨#[]⟩ : ByteArray) = some (r1, r2, r3)) ∧ Aside0 (kq ≤ kj7) ∧ Aside0 (wc.heap[gb120]? = some (.cells #[.string (⟨#[]⟩ : ByteArray), .string (⟨#[]⟩ : ByteArray)] 23 (0, 0))) ∧ Aside0 (wc.heap[gb121]? = some (.cells #[.string (⟨#[]⟩ : ByteArray), .string (⟨#[]⟩ : ByteArray)] 23 (0, 0))) ∧ Aside0 (Below w.heap.size w wc))
    case first =>
     have H := HC16.out; clear HC16; by_cases c17 : x6_7 = true
     ·subst c17; rw [if_pos rfl] at H; by_cases c18 : 1 ≤ (a0.size : Int)
      ·rw [if_pos c18] at H; have c18b0 := eq_true c18; have c18b1 : decide (1 ≤ (a0.size : Int)) = true := decide_eq_true c18; clear c18; have H' := Aside0.mk H; clear H; go_wp2
       repeat (go_quiet (fail); try go_wp2)
       go_meet
       case rel => exact ⟨_, (a0.extract 1 a0.size), rl_, H', ⟨by have := HJ7.out; first | omega | exact Nat.le_refl _⟩, ⟨k_ BK120.out⟩, ⟨k_ BK121.out⟩, ⟨b_ HB.out⟩⟩
      ·rw [if_neg c18] at H; exact absurd H (by simp)
     ·replace c17 := Bool.eq_false_iff.mpr c17; subst c17; rw [if_neg nf_] at H; have H' := Aside0.mk H; clear H; go_wp2
      repeat (go_quiet (fail); try go_wp2)
      go_meet
      case rel => exact ⟨_, (a0), rl_, H', ⟨by have := HJ7.out; first | omega | exact Nat.le_refl _⟩, ⟨k_ BK120.out⟩, ⟨k_ BK121.out⟩, ⟨b_ HB.out⟩⟩
    case rest =>
     clear HC16; (try clear c1); (try clear p1); (try clear q1); (try clear hx1); (try clear qi1); (try clear c2); (try clear c2b0); (try clear c2b1); (try clear p2); (try clear c5); (try clear c11); (try clear c13); (try clear c13b0); (try clear c13b1); (try clear c14); (try clear c14b0); (try clear c14b1); (try clear p15); (try clear q15); (try clear hx15); (try clear qi15); (try clear c17); (try clear c18); (try clear c18b0); (try clear c18b1); (try clear hcz12_0); (try clear hcz12_1); (try clear hcz6_0); (try clear hcz6_1); (try clear hcz7_0); (try clear hcz7_1); (try clear hfz12_0); (try clear hfz12_1); (try clear hfz6_0); (try clear hfz6_1); (try clear hfz7_0); (try clear hfz7_1); (try clear p1); (try clear p15); (try clear p2); (try clear q1); (try clear q15); obtain ⟨kq, x5_15, rfl, HA, HJ15, BK120, BK121, HB⟩ := hcut
     cases kq with
     | zero => exact absurd HA.out (by simp [r4_Parse.j1])
     | succ kj15 =>
      have H := HA.out; clear HA; simp only [r4_Parse.j1] at H; obtain ⟨t122, A19, H⟩ := bi_ H; obtain ⟨t123, A20, H⟩ := bi_ H; have HC21 := Aside0.mk H; clear H
      go_upto_if 36 with (first | (go_at_call 31; (with_reducible refine (r4_find.calls kj15 x5_15 47 t122 _ A19.out).mono ?_); rintro e w' ⟨rfl, ⟨nd, rfl⟩⟩; (try first | exact ⟨rfl, _, World.drewN_drewN _ _ _⟩ | exact ⟨rfl, _, Eq.trans (World.drewN_drewN _ _ _) (congrArg (World.drewN _) (Nat.add_assoc _ _ _))⟩)) | (go_at_call 31; (with_reducible refine (r4_find.calls kj15 x5_15 46 t123 _ A20.out).mono ?_); rintro e w' ⟨rfl, ⟨nd, rfl⟩⟩; (try first | exact ⟨rfl, _, World.drewN_drewN _ _ _⟩ | exact ⟨rfl, _, Eq.trans (World.drewN_drewN _ _ _) (congrArg (World.drewN _) (Nat.add_assoc _ _ _))⟩)))
      repeat (go_quiet (first | (go_at_call 31; (with_reducible refine (r4_find.calls kj15 x5_15 47 t122 _ A19.out).mono ?_); rintro e w' ⟨rfl, ⟨nd, rfl⟩⟩; (try first | exact ⟨rfl, _, World.drewN_drewN _ _ _⟩ | exact ⟨rfl, _, Eq.trans (World.drewN_drewN _ _ _) (congrArg (World.drewN _) (Nat.add_assoc _ _ _))⟩)) | (go_at_call 31; (with_reducible refine (r4_find.calls kj15 x5_15 46 t123 _ A20.out).mono ?_); rintro e w' ⟨rfl, ⟨nd, rfl⟩⟩; (try first | exact ⟨rfl, _, World.drewN_drewN _ _ _⟩ | exact ⟨rfl, _, Eq.trans (World.drewN_drewN _ _ _) (congrArg (World.drewN _) (Nat.add_assoc _ _ _))⟩))); go_upto_if 36 with (first | (go_at_call 31; (with_reducible refine (r4_find.calls kj15 x5_15 47 t122 _ A19.out).mono ?_); rintro e w' ⟨rfl, ⟨nd, rfl⟩⟩; (try first | exact ⟨rfl, _, World.drewN_drewN _ _ _⟩ | exact ⟨rfl, _, Eq.trans (World.drewN_drewN _ _ _) (congrArg (World.drewN _) (Nat.add_assoc _ _ _))⟩)) | (go_at_call 31; (with_reducible refine (r4_find.calls kj15 x5_15 46 t123 _ A20.out).mono ?_); rintro e w' ⟨rfl, ⟨nd, rfl⟩⟩; (try first | exact ⟨rfl, _, World.drewN_drewN _ _ _⟩ | exact ⟨rfl, _, Eq.trans (World.drewN_drewN _ _ _) (congrArg (World.drewN _) (Nat.add_assoc _ _ _))⟩))))
      (try simp only [Act.put, List.setIfInBounds_toArray, List.set_cons_zero, List.set_cons_succ])
      go_cut [7, 8] (fun v7 v8 wc => ∃ (kq : Nat) (x7_20 : ByteArray) (x8_20 : ByteArray) (x121000_20 : ByteArray) (x121001_20 : ByteArray), v7 = .string x7_20 ∧ v8 = .string x8_20 ∧ Aside0 (r4_Parse.j2 kq x6_7 x7_20 x8_20 (⟨#[]⟩ : ByteArray) (⟨#[]⟩ : ByteArray) = some (r1, r2, r3)) ∧ Aside0 (kq ≤ kj15) ∧ Aside0 (wc.heap[gb120]? = some (.cells #[.string x121000_20, .string x121001_20] 23 (0, 0))) ∧ Aside0 (wc.heap[gb121]? = some (.cells #[.string (⟨#[]⟩ : ByteArray), .string (⟨#[]⟩ : ByteArray)] 23 (0, 0))) ∧ Aside0 (Below w.heap.size w wc))
      case first =>
       have H := HC21.out; clear HC21; by_cases c22 : t122 ≥ 0
       ·rw [if_pos c22] at H; have c22b0 : decide (0 ≤ t122) = true := decide_eq_true c22; clear c22; (first | rw [c22b0] | (simp only [i64_w, i32_w]; rw [c22b0]) | skip); by_cases c23 : 0 ≤ t122
        ·rw [if_pos c23] at H; have c23b0 := eq_true c23; have c23b1 : decide (0 ≤ t122) = true := decide_eq_true c23; clear c23; by_cases c24 : t122 ≤ (x5_15.size : Int)
         ·rw [if_pos c24] at H; have c24b0 := eq_true c24; have c24b1 : decide (t122 ≤ (x5_15.size : Int)) = true := decide_eq_true c24; clear c24; obtain ⟨ji25, hji25⟩ : ∃ j_ : Int, (wrap64 (t122 + 1)) = j_ := ⟨_, rfl⟩; (first | rw [hji25] at H | simp only [hji25] at H); have hji25w : (IntKind.i64.wrap (t122 + 1)) = ji25 := (i64_w _).trans hji25; by_cases c26 : 0 ≤ (ji25)
          ·rw [if_pos c26] at H; have c26b0 := eq_true c26; have c26b1 : decide (0 ≤ (ji25)) = true := decide_eq_true c26; clear c26; by_cases c27 : (ji25) ≤ (x5_15.size : Int)
           ·rw [if_pos c27] at H; have c27b0 := eq_true c27; have c27b1 : decide ((ji25) ≤ (x5_15.size : Int)) = true := decide_eq_true c27; clear c27; have H' := Aside0.mk H; clear H; go_wp2
            repeat (go_quiet (fail); try go_wp2)
            go_meet
            case rel => exact ⟨_, (x5_15.extract 0 (t122 : Int).toNat), (x5_15.extract ((ji25) : Int).toNat x5_15.size), ((⟨#[]⟩ : ByteArray)), ((⟨#[]⟩ : ByteArray)), rl_, (by first | rfl | (simp; done) | (simp only [← hji25] <;> (first | rfl | simp)) | (simp [*]; done)), H', ⟨by have := HJ7.out; have := HJ15.out; first | omega | exact Nat.le_refl _⟩, ⟨k_ BK120.out⟩, ⟨k_ BK121.out⟩, ⟨b_ HB.out⟩⟩
           ·rw [if_neg c27] at H; exact absurd H (by simp)
          ·rw [if_neg c26] at H; exact absurd H (by simp)
         ·rw [if_neg c24] at H; exact absurd H (by simp)
        ·rw [if_neg c23] at H; exact absurd H (by simp)
       ·rw [if_neg c22] at H; have c22b0 : decide (0 ≤ t122) = false := decide_eq_false c22; clear c22; (first | rw [c22b0] | (simp only [i64_w, i32_w]; rw [c22b0]) | skip); by_cases c28 : t123 ≥ 0
        ·rw [if_pos c28] at H; have c28b0 : decide (0 ≤ t123) = true := decide_eq_true c28; clear c28; by_cases c29 : 0 ≤ t123
         ·rw [if_pos c29] at H; have c29b0 := eq_true c29; have c29b1 : decide (0 ≤ t123) = true := decide_eq_true c29; clear c29; by_cases c30 : t123 ≤ (x5_15.size : Int)
          ·rw [if_pos c30] at H; have c30b0 := eq_true c30; have c30b1 : decide (t123 ≤ (x5_15.size : Int)) = true := decide_eq_true c30; clear c30; obtain ⟨t124, A31, H⟩ := bi_ H; by_cases c32 : t124 = true
           ·subst c32; rw [if_pos rfl] at H; obtain ⟨ji33, hji33⟩ : ∃ j_ : Int, (wrap64 (t123 + 1)) = j_ := ⟨_, rfl⟩; (first | rw [hji33] at H | simp only [hji33] at H); (try rw [hji33] at A31); have hji33w : (IntKind.i64.wrap (t123 + 1)) = ji33 := (i64_w _).trans hji33; by_cases c34 : 0 ≤ (ji33)
            ·rw [if_pos c34] at H; have c34b0 := eq_true c34; have c34b1 : decide (0 ≤ (ji33)) = true := decide_eq_true c34; clear c34; by_cases c35 : (ji33) ≤ (x5_15.size : Int)
             ·rw [if_pos c35] at H; have c35b0 := eq_true c35; have c35b1 : decide ((ji33) ≤ (x5_15.size : Int)) = true := decide_eq_true c35; clear c35; obtain ⟨t125, A36, H⟩ := bi_ H; by_cases c37 : t125 = true
              ·subst c37; rw [if_pos rfl] at H; have c38b0 := eq_true (of_decide_eq_true as_f : 0 ≤ t123); have c39b0 := eq_true (of_decide_eq_true as_f : t123 ≤ (x5_15.size : Int)); have c40b0 := eq_true (of_decide_eq_true as_f : 0 ≤ (ji33)); have c41b0 := eq_true (of_decide_eq_true as_f : (ji33) ≤ (x5_15.size : Int)); by_cases c42 : (x5_15.extract 0 (t123 : Int).toNat).size + (x5_15.extract ((ji33) : Int).toNat x5_15.size).size ≤ 9223372036854775807
               ·rw [if_pos c42] at H; have c42b0 := eq_true c42; have c42b1 : decide ((x5_15.extract 0 (t123 : Int).toNat).size + (x5_15.extract ((ji33) : Int).toNat x5_15.size).size ≤ 9223372036854775807) = true := decide_eq_true c42
                try have c42b2 : (9223372036854775807 < (x5_15.extract 0 (t123 : Int).toNat).size + (x5_15.extract ((ji33) : Int).toNat x5_15.size).size) = False := eq_false (Nat.not_lt.2 c42)
                obtain ⟨t126, A43, H⟩ := bi_ H; by_cases c44 : 1 + t126.size ≤ 9223372036854775807
                ·rw [if_pos c44] at H; have c44b0 := eq_true c44; have c44b1 : decide (1 + t126.size ≤ 9223372036854775807) = true := decide_eq_true c44
                 try have c44b2 : (9223372036854775807 < 1 + t126.size) = False := eq_false (Nat.not_lt.2 c44)
                 have H' := Aside0.mk H; clear H
                 go_wp2_with (first | (go_at_call 32; (with_reducible refine (r4_digits.calls kj15 (x5_15.extract 0 (t123 : Int).toNat) true _ A31.out).mono ?_); rintro e w' ⟨rfl, ⟨nd, rfl⟩⟩; (try first | exact ⟨rfl, _, World.drewN_drewN _ _ _⟩ | exact ⟨rfl, _, Eq.trans (World.drewN_drewN _ _ _) (congrArg (World.drewN _) (Nat.add_assoc _ _ _))⟩)) | (go_at_call 32; (with_reducible refine (r4_digits.calls kj15 (x5_15.extract ((ji33) : Int).toNat x5_15.size) true _ A36.out).mono ?_); rintro e w' ⟨rfl, ⟨nd, rfl⟩⟩; (try first | exact ⟨rfl, _, World.drewN_drewN _ _ _⟩ | exact ⟨rfl, _, Eq.trans (World.drewN_drewN _ _ _) (congrArg (World.drewN _) (Nat.add_assoc _ _ _))⟩)) | (go_at_call 18; (with_reducible refine (r4_Zeros.calls kj15 (wrap64 ((wrap64 ((x5_15.size : Int) - t123)) - 1)) t126 _ A43.out).mono ?_); rintro e w' ⟨rfl, ⟨nd, rfl⟩⟩; (try first | exact ⟨rfl, _, World.drewN_drewN _ _ _⟩ | exact ⟨rfl, _, Eq.trans (World.drewN_drewN _ _ _) (congrArg (World.drewN _) (Nat.add_assoc _ _ _))⟩)))
                 repeat (go_quiet (first | (go_at_call 32; (with_reducible refine (r4_digits.calls kj15 (x5_15.extract 0 (t123 : Int).toNat) true _ A31.out).mono ?_); rintro e w' ⟨rfl, ⟨nd, rfl⟩⟩; (try first | exact ⟨rfl, _, World.drewN_drewN _ _ _⟩ | exact ⟨rfl, _, Eq.trans (World.drewN_drewN _ _ _) (congrArg (World.drewN _) (Nat.add_assoc _ _ _))⟩)) | (go_at_call 32; (with_reducible refine (r4_digits.calls kj15 (x5_15.extract ((ji33) : Int).toNat x5_15.size) true _ A36.out).mono ?_); rintro e w' ⟨rfl, ⟨nd, rfl⟩⟩; (try first | exact ⟨rfl, _, World.drewN_drewN _ _ _⟩ | exact ⟨rfl, _, Eq.trans (World.drewN_drewN _ _ _) (congrArg (World.drewN _) (Nat.add_assoc _ _ _))⟩)) | (go_at_call 18; (with_reducible refine (r4_Zeros.calls kj15 (wrap64 ((wrap64 ((x5_15.size : Int) - t123)) - 1)) t126 _ A43.out).mono ?_); rintro e w' ⟨rfl, ⟨nd, rfl⟩⟩; (try first | exact ⟨rfl, _, World.drewN_drewN _ _ _⟩ | exact ⟨rfl, _, Eq.trans (World.drewN_drewN _ _ _) (congrArg (World.drewN _) (Nat.add_assoc _ _ _))⟩))); try go_wp2_with (first | (go_at_call 32; (with_reducible refine (r4_digits.calls kj15 (x5_15.extract 0 (t123 : Int).toNat) true _ A31.out).mono ?_); rintro e w' ⟨rfl, ⟨nd, rfl⟩⟩; (try first | exact ⟨rfl, _, World.drewN_drewN _ _ _⟩ | exact ⟨rfl, _, Eq.trans (World.drewN_drewN _ _ _) (congrArg (World.drewN _) (Nat.add_assoc _ _ _))⟩)) | (go_at_call 32; (with_reducible refine (r4_digits.calls kj15 (x5_15.extract ((ji33) : Int).toNat x5_15.size) true _ A36.out).mono ?_); rintro e w' ⟨rfl, ⟨nd, rfl⟩⟩; (try first | exact ⟨rfl, _, World.drewN_drewN _ _ _⟩ | exact ⟨rfl, _, Eq.trans (World.drewN_drewN _ _ _) (congrArg (World.drewN _) (Nat.add_assoc _ _ _))⟩)) | (go_at_call 18; (with_reducible refine (r4_Zeros.calls kj15 (wrap64 ((wrap64 ((x5_15.size : Int) - t123)) - 1)) t126 _ A43.out).mono ?_); rintro e w' ⟨rfl, ⟨nd, rfl⟩⟩; (try first | exact ⟨rfl, _, World.drewN_drewN _ _ _⟩ | exact ⟨rfl, _, Eq.trans (World.drewN_drewN _ _ _) (congrArg (World.drewN _) (Nat.add_assoc _ _ _))⟩))))
                 go_meet
                 case rel => exact ⟨_, ((x5_15.extract 0 (t123 : Int).toNat) ++ (x5_15.extract ((ji33) : Int).toNat x5_15.size)), ((⟨#[49]⟩ : ByteArray) ++ t126), ((⟨#[]⟩ : ByteArray)), ((⟨#[]⟩ : ByteArray)), (by first | rfl | (simp; done) | (simp only [← hji33] <;> (first | rfl | simp)) | (simp [*]; done)), rl_, H', ⟨by have := HJ7.out; have := HJ15.out; first | omega | exact Nat.le_refl _⟩, ⟨k_ BK120.out⟩, ⟨k_ BK121.out⟩, ⟨b_ HB.out⟩⟩
                ·rw [if_neg c44] at H; exact absurd H (by simp)
               ·rw [if_neg c42] at H; exact absurd H (by simp)
              ·replace c37 := Bool.eq_false_iff.mpr c37; subst c37; rw [if_neg nf_] at H; simp only [Option.some.injEq, Prod.mk.injEq] at H; obtain ⟨rfl, rfl, rfl⟩ := H
               go_wp2_with (first | (go_at_call 32; (with_reducible refine (r4_digits.calls kj15 (x5_15.extract 0 (t123 : Int).toNat) true _ A31.out).mono ?_); rintro e w' ⟨rfl, ⟨nd, rfl⟩⟩; (try first | exact ⟨rfl, _, World.drewN_drewN _ _ _⟩ | exact ⟨rfl, _, Eq.trans (World.drewN_drewN _ _ _) (congrArg (World.drewN _) (Nat.add_assoc _ _ _))⟩)) | (go_at_call 32; (with_reducible refine (r4_digits.calls kj15 (x5_15.extract ((ji33) : Int).toNat x5_15.size) false _ A36.out).mono ?_); rintro e w' ⟨rfl, ⟨nd, rfl⟩⟩; (try first | exact ⟨rfl, _, World.drewN_drewN _ _ _⟩ | exact ⟨rfl, _, Eq.trans (World.drewN_drewN _ _ _) (congrArg (World.drewN _) (Nat.add_assoc _ _ _))⟩); have hnb45 := NB121_120.out; have hnc45 := NB120_121.out; have hcz46_0 := bc_ BK121 0 rfl; have hcz46_1 := bc_ BK121 1 rfl; have hfz46_0 := blk_frozen BK121.out 0; have hfz46_1 := blk_frozen BK121.out 1; have hcz47_0 := bc_ BK120 0 rfl; have hcz47_1 := bc_ BK120 1 rfl; have hfz47_0 := blk_frozen BK120.out 0; have hfz47_1 := blk_frozen BK120.out 1))
               repeat (go_quiet (first | (go_at_call 32; (with_reducible refine (r4_digits.calls kj15 (x5_15.extract 0 (t123 : Int).toNat) true _ A31.out).mono ?_); rintro e w' ⟨rfl, ⟨nd, rfl⟩⟩; (try first | exact ⟨rfl, _, World.drewN_drewN _ _ _⟩ | exact ⟨rfl, _, Eq.trans (World.drewN_drewN _ _ _) (congrArg (World.drewN _) (Nat.add_assoc _ _ _))⟩)) | (go_at_call 32; (with_reducible refine (r4_digits.calls kj15 (x5_15.extract ((ji33) : Int).toNat x5_15.size) false _ A36.out).mono ?_); rintro e w' ⟨rfl, ⟨nd, rfl⟩⟩; (try first | exact ⟨rfl, _, World.drewN_drewN _ _ _⟩ | exact ⟨rfl, _, Eq.trans (World.drewN_drewN _ _ _) (congrArg (World.drewN _) (Nat.add_assoc _ _ _))⟩); have hnb45 := NB121_120.out; have hnc45 := NB120_121.out; have hcz46_0 := bc_ BK121 0 rfl; have hcz46_1 := bc_ BK121 1 rfl; have hfz46_0 := blk_frozen BK121.out 0; have hfz46_1 := blk_frozen BK121.out 1; have hcz47_0 := bc_ BK120 0 rfl; have hcz47_1 := bc_ BK120 1 rfl; have hfz47_0 := blk_frozen BK120.out 0; have hfz47_1 := blk_frozen BK120.out 1)); try go_wp2_with (first | (go_at_call 32; (with_reducible refine (r4_digits.calls kj15 (x5_15.extract 0 (t123 : Int).toNat) true _ A31.out).mono ?_); rintro e w' ⟨rfl, ⟨nd, rfl⟩⟩; (try first | exact ⟨rfl, _, World.drewN_drewN _ _ _⟩ | exact ⟨rfl, _, Eq.trans (World.drewN_drewN _ _ _) (congrArg (World.drewN _) (Nat.add_assoc _ _ _))⟩)) | (go_at_call 32; (with_reducible refine (r4_digits.calls kj15 (x5_15.extract ((ji33) : Int).toNat x5_15.size) false _ A36.out).mono ?_); rintro e w' ⟨rfl, ⟨nd, rfl⟩⟩; (try first | exact ⟨rfl, _, World.drewN_drewN _ _ _⟩ | exact ⟨rfl, _, Eq.trans (World.drewN_drewN _ _ _) (congrArg (World.drewN _) (Nat.add_assoc _ _ _))⟩); have hnb45 := NB121_120.out; have hnc45 := NB120_121.out; have hcz46_0 := bc_ BK121 0 rfl; have hcz46_1 := bc_ BK121 1 rfl; have hfz46_0 := blk_frozen BK121.out 0; have hfz46_1 := blk_frozen BK121.out 1; have hcz47_0 := bc_ BK120 0 rfl; have hcz47_1 := bc_ BK120 1 rfl; have hfz47_0 := blk_frozen BK120.out 0; have hfz47_1 := blk_frozen BK120.out 1)))
               refine bodyPost_ret (results_ct rfl _ _ gb120 23 #[.string (⟨#[]⟩ : ByteArray), .string (⟨#[]⟩ : ByteArray)] (0, 0) _ rfl (rp_ BK120.out) Tryz.underlying23 rfl (by kernel_rfl)) rfl ?_; exact ⟨by first | rfl | (simp [errW_none, errW_some] <;> rfl) | (simp only [← hji33]; first | rfl | (simp [errW_none, errW_some] <;> rfl)) | (simp [*, errW_none, errW_some] <;> rfl), b_ HB.out⟩
             ·rw [if_neg c35] at H; exact absurd H (by simp)
            ·rw [if_neg c34] at H; exact absurd H (by simp)
           ·replace c32 := Bool.eq_false_iff.mpr c32; subst c32; rw [if_neg nf_] at H; simp only [Option.some.injEq, Prod.mk.injEq] at H; obtain ⟨rfl, rfl, rfl⟩ := H
            go_wp2_with (first | (go_at_call 32; (with_reducible refine (r4_digits.calls kj15 (x5_15.extract 0 (t123 : Int).toNat) false _ A31.out).mono ?_); rintro e w' ⟨rfl, ⟨nd, rfl⟩⟩; (try first | exact ⟨rfl, _, World.drewN_drewN _ _ _⟩ | exact ⟨rfl, _, Eq.trans (World.drewN_drewN _ _ _) (congrArg (World.drewN _) (Nat.add_assoc _ _ _))⟩); have hnb48 := NB121_120.out; have hnc48 := NB120_121.out; have hcz49_0 := bc_ BK121 0 rfl; have hcz49_1 := bc_ BK121 1 rfl; have hfz49_0 := blk_frozen BK121.out 0; have hfz49_1 := blk_frozen BK121.out 1; have hcz50_0 := bc_ BK120 0 rfl; have hcz50_1 := bc_ BK120 1 rfl; have hfz50_0 := blk_frozen BK120.out 0; have hfz50_1 := blk_frozen BK120.out 1))
            repeat (go_quiet (first | (go_at_call 32; (with_reducible refine (r4_digits.calls kj15 (x5_15.extract 0 (t123 : Int).toNat) false _ A31.out).mono ?_); rintro e w' ⟨rfl, ⟨nd, rfl⟩⟩; (try first | exact ⟨rfl, _, World.drewN_drewN _ _ _⟩ | exact ⟨rfl, _, Eq.trans (World.drewN_drewN _ _ _) (congrArg (World.drewN _) (Nat.add_assoc _ _ _))⟩); have hnb48 := NB121_120.out; have hnc48 := NB120_121.out; have hcz49_0 := bc_ BK121 0 rfl; have hcz49_1 := bc_ BK121 1 rfl; have hfz49_0 := blk_frozen BK121.out 0; have hfz49_1 := blk_frozen BK121.out 1; have hcz50_0 := bc_ BK120 0 rfl; have hcz50_1 := bc_ BK120 1 rfl; have hfz50_0 := blk_frozen BK120.out 0; have hfz50_1 := blk_frozen BK120.out 1)); try go_wp2_with (first | (go_at_call 32; (with_reducible refine (r4_digits.calls kj15 (x5_15.extract 0 (t123 : Int).toNat) false _ A31.out).mono ?_); rintro e w' ⟨rfl, ⟨nd, rfl⟩⟩; (try first | exact ⟨rfl, _, World.drewN_drewN _ _ _⟩ | exact ⟨rfl, _, Eq.trans (World.drewN_drewN _ _ _) (congrArg (World.drewN _) (Nat.add_assoc _ _ _))⟩); have hnb48 := NB121_120.out; have hnc48 := NB120_121.out; have hcz49_0 := bc_ BK121 0 rfl; have hcz49_1 := bc_ BK121 1 rfl; have hfz49_0 := blk_frozen BK121.out 0; have hfz49_1 := blk_frozen BK121.out 1; have hcz50_0 := bc_ BK120 0 rfl; have hcz50_1 := bc_ BK120 1 rfl; have hfz50_0 := blk_frozen BK120.out 0; have hfz50_1 := blk_frozen BK120.out 1)))
            refine bodyPost_ret (results_ct rfl _ _ gb120 23 #[.string (⟨#[]⟩ : ByteArray), .string (⟨#[]⟩ : ByteArray)] (0, 0) _ rfl (rp_ BK120.out) Tryz.underlying23 rfl (by kernel_rfl)) rfl ?_; exact ⟨er_, b_ HB.out⟩
          ·rw [if_neg c30] at H; exact absurd H (by simp)
         ·rw [if_neg c29] at H; exact absurd H (by simp)
        ·rw [if_neg c28] at H; have c28b0 : decide (0 ≤ t123) = false := decide_eq_false c28; clear c28; have H' := Aside0.mk H; clear H; go_wp2
         repeat (go_quiet (fail); try go_wp2)
         go_meet
         case rel => exact ⟨_, (x5_15), ((⟨#[49]⟩ : ByteArray)), ((⟨#[]⟩ : ByteArray)), ((⟨#[]⟩ : ByteArray)), rl_, rl_, H', ⟨by have := HJ7.out; have := HJ15.out; first | omega | exact Nat.le_refl _⟩, ⟨k_ BK120.out⟩, ⟨k_ BK121.out⟩, ⟨b_ HB.out⟩⟩
      case rest =>
       clear HC21; (try clear c1); (try clear p1); (try clear q1); (try clear hx1); (try clear qi1); (try clear c2); (try clear c2b0); (try clear c2b1); (try clear p2); (try clear c3); (try clear c4); (try clear c5); (try clear p6); (try clear c11); (try clear c13); (try clear c13b0); (try clear c13b1); (try clear c14); (try clear c14b0); (try clear c14b1); (try clear p15); (try clear q15); (try clear hx15); (try clear qi15); (try clear c17); (try clear c18); (try clear c18b0); (try clear c18b1); (try clear c22); (try clear c22b0); (try clear c23); (try clear c23b0); (try clear c23b1); (try clear c24); (try clear c24b0); (try clear c24b1); (try clear c26); (try clear c26b0); (try clear c26b1); (try clear c27); (try clear c27b0); (try clear c27b1); (try clear c28); (try clear c28b0); (try clear c29); (try clear c29b0); (try clear c29b1); (try clear c30); (try clear c30b0); (try clear c30b1); (try clear c32); (try clear c34); (try clear c34b0); (try clear c34b1); (try clear c35); (try clear c35b0); (try clear c35b1); (try clear c37); (try clear c38); (try clear c38b0); (try clear c39); (try clear c39b0); (try clear c40); (try clear c40b0); (try clear c41); (try clear c41b0); (try clear c42); (try clear c42b0); (try clear c42b1); (try clear c42b2); (try clear c44); (try clear c44b0); (try clear c44b1); (try clear c44b2); (try clear c45); (try clear c48); (try clear hcz12_0); (try clear hcz12_1); (try clear hcz46_0); (try clear hcz46_1); (try clear hcz47_0); (try clear hcz47_1); (try clear hcz49_0); (try clear hcz49_1); (try clear hcz50_0); (try clear hcz50_1); (try clear hcz6_0); (try clear hcz6_1); (try clear hcz7_0); (try clear hcz7_1); (try clear hfz12_0); (try clear hfz12_1); (try clear hfz46_0); (try clear hfz46_1); (try clear hfz47_0); (try clear hfz47_1); (try clear hfz49_0); (try clear hfz49_1); (try clear hfz50_0); (try clear hfz50_1); (try clear hfz6_0); (try clear hfz6_1); (try clear hfz7_0); (try clear hfz7_1); (try clear p1); (try clear p15); (try clear p2); (try clear q1); (try clear q15); obtain ⟨kq, x7_20, x8_20, x121000_20, x121001_20, rfl, rfl, HA, HJ20, BK120, BK121, HB⟩ := hcut
       cases kq with
       | zero => exact absurd HA.out (by simp [r4_Parse.j2])
       | succ kj20 =>
        have H := HA.out; clear HA; simp only [r4_Parse.j2] at H; have HC51 := Aside0.mk H; clear H
        go_upto_region 18 with (fail)
        repeat (go_quiet (fail); go_upto_region 18 with (fail))
        go_cut [82] (fun v82 wc => ∃ (kq : Nat) (x82_50 : Bool), v82 = .bool x82_50 ∧ Aside0 (r4_Parse.j3 kq x6_7 x7_20 x8_20 x82_50 (⟨#[]⟩ : ByteArray) (⟨#[]⟩ : ByteArray) = some (r1, r2, r3)) ∧ Aside0 (kq ≤ kj20) ∧ Aside0 (wc.heap[gb120]? = some (.cells #[.string x121000_20, .string x121001_20] 23 (0, 0))) ∧ Aside0 (wc.heap[gb121]? = some (.cells #[.string (⟨#[]⟩ : ByteArray), .string (⟨#[]⟩ : ByteArray)] 23 (0, 0))) ∧ Aside0 (Below w.heap.size w wc))
        case first =>
         have H := HC51.out; clear HC51; obtain ⟨t127, A52, H⟩ := bi_ H; by_cases c53 : t127 = true
         ·subst c53; rw [if_pos rfl] at H; obtain ⟨t128, A54, H⟩ := bi_ H; have H' := Aside0.mk H; clear H
          go_wp2_with (first | (go_at_call 32; (with_reducible refine (r4_digits.calls kj20 x7_20 true _ A52.out).mono ?_); rintro e w' ⟨rfl, ⟨nd, rfl⟩⟩; (try first | exact ⟨rfl, _, World.drewN_drewN _ _ _⟩ | exact ⟨rfl, _, Eq.trans (World.drewN_drewN _ _ _) (congrArg (World.drewN _) (Nat.add_assoc _ _ _))⟩)) | (go_at_call 32; (with_reducible refine (r4_digits.calls kj20 x8_20 t128 _ A54.out).mono ?_); rintro e w' ⟨rfl, ⟨nd, rfl⟩⟩; (try first | exact ⟨rfl, _, World.drewN_drewN _ _ _⟩ | exact ⟨rfl, _, Eq.trans (World.drewN_drewN _ _ _) (congrArg (World.drewN _) (Nat.add_assoc _ _ _))⟩)))
          repeat (go_quiet (first | (go_at_call 32; (with_reducible refine (r4_digits.calls kj20 x7_20 true _ A52.out).mono ?_); rintro e w' ⟨rfl, ⟨nd, rfl⟩⟩; (try first | exact ⟨rfl, _, World.drewN_drewN _ _ _⟩ | exact ⟨rfl, _, Eq.trans (World.drewN_drewN _ _ _) (congrArg (World.drewN _) (Nat.add_assoc _ _ _))⟩)) | (go_at_call 32; (with_reducible refine (r4_digits.calls kj20 x8_20 t128 _ A54.out).mono ?_); rintro e w' ⟨rfl, ⟨nd, rfl⟩⟩; (try first | exact ⟨rfl, _, World.drewN_drewN _ _ _⟩ | exact ⟨rfl, _, Eq.trans (World.drewN_drewN _ _ _) (congrArg (World.drewN _) (Nat.add_assoc _ _ _))⟩))); try go_wp2_with (first | (go_at_call 32; (with_reducible refine (r4_digits.calls kj20 x7_20 true _ A52.out).mono ?_); rintro e w' ⟨rfl, ⟨nd, rfl⟩⟩; (try first | exact ⟨rfl, _, World.drewN_drewN _ _ _⟩ | exact ⟨rfl, _, Eq.trans (World.drewN_drewN _ _ _) (congrArg (World.drewN _) (Nat.add_assoc _ _ _))⟩)) | (go_at_call 32; (with_reducible refine (r4_digits.calls kj20 x8_20 t128 _ A54.out).mono ?_); rintro e w' ⟨rfl, ⟨nd, rfl⟩⟩; (try first | exact ⟨rfl, _, World.drewN_drewN _ _ _⟩ | exact ⟨rfl, _, Eq.trans (World.drewN_drewN _ _ _) (congrArg (World.drewN _) (Nat.add_assoc _ _ _))⟩))))
          go_meet
          case rel => exact ⟨_, (!t128), rl_, H', ⟨by have := HJ7.out; have := HJ15.out; have := HJ20.out; first | omega | exact Nat.le_refl _⟩, ⟨k_ BK120.out⟩, ⟨k_ BK121.out⟩, ⟨b_ HB.out⟩⟩
         ·replace c53 := Bool.eq_false_iff.mpr c53; subst c53; rw [if_neg nf_] at H; have H' := Aside0.mk H; clear H
          go_wp2_with (first | (go_at_call 32; (with_reducible refine (r4_digits.calls kj20 x7_20 false _ A52.out).mono ?_); rintro e w' ⟨rfl, ⟨nd, rfl⟩⟩; (try first | exact ⟨rfl, _, World.drewN_drewN _ _ _⟩ | exact ⟨rfl, _, Eq.trans (World.drewN_drewN _ _ _) (congrArg (World.drewN _) (Nat.add_assoc _ _ _))⟩)))
          repeat (go_quiet (first | (go_at_call 32; (with_reducible refine (r4_digits.calls kj20 x7_20 false _ A52.out).mono ?_); rintro e w' ⟨rfl, ⟨nd, rfl⟩⟩; (try first | exact ⟨rfl, _, World.drewN_drewN _ _ _⟩ | exact ⟨rfl, _, Eq.trans (World.drewN_drewN _ _ _) (congrArg (World.drewN _) (Nat.add_assoc _ _ _))⟩))); try go_wp2_with (first | (go_at_call 32; (with_reducible refine (r4_digits.calls kj20 x7_20 false _ A52.out).mono ?_); rintro e w' ⟨rfl, ⟨nd, rfl⟩⟩; (try first | exact ⟨rfl, _, World.drewN_drewN _ _ _⟩ | exact ⟨rfl, _, Eq.trans (World.drewN_drewN _ _ _) (congrArg (World.drewN _) (Nat.add_assoc _ _ _))⟩))))
          go_meet
          case rel => exact ⟨_, (true), rl_, H', ⟨by have := HJ7.out; have := HJ15.out; have := HJ20.out; first | omega | exact Nat.le_refl _⟩, ⟨k_ BK120.out⟩, ⟨k_ BK121.out⟩, ⟨b_ HB.out⟩⟩
        case rest =>
         clear HC51; (try clear c1); (try clear p1); (try clear q1); (try clear hx1); (try clear qi1); (try clear c2); (try clear c2b0); (try clear c2b1); (try clear p2); (try clear c3); (try clear c4); (try clear c5); (try clear p6); (try clear c11); (try clear c13); (try clear c13b0); (try clear c13b1); (try clear c14); (try clear c14b0); (try clear c14b1); (try clear p15); (try clear q15); (try clear hx15); (try clear qi15); (try clear c17); (try clear c18); (try clear c18b0); (try clear c18b1); (try clear c22); (try clear c22b0); (try clear c23); (try clear c23b0); (try clear c23b1); (try clear c24); (try clear c24b0); (try clear c24b1); (try clear c26); (try clear c26b0); (try clear c26b1); (try clear c27); (try clear c27b0); (try clear c27b1); (try clear c28); (try clear c28b0); (try clear c29); (try clear c29b0); (try clear c29b1); (try clear c30); (try clear c30b0); (try clear c30b1); (try clear c32); (try clear c34); (try clear c34b0); (try clear c34b1); (try clear c35); (try clear c35b0); (try clear c35b1); (try clear c37); (try clear c38); (try clear c38b0); (try clear c39); (try clear c39b0); (try clear c40); (try clear c40b0); (try clear c41); (try clear c41b0); (try clear c42); (try clear c42b0); (try clear c42b1); (try clear c42b2); (try clear c44); (try clear c44b0); (try clear c44b1); (try clear c44b2); (try clear c45); (try clear c48); (try clear c53); (try clear hcz12_0); (try clear hcz12_1); (try clear hcz46_0); (try clear hcz46_1); (try clear hcz47_0); (try clear hcz47_1); (try clear hcz49_0); (try clear hcz49_1); (try clear hcz50_0); (try clear hcz50_1); (try clear hcz6_0); (try clear hcz6_1); (try clear hcz7_0); (try clear hcz7_1); (try clear hfz12_0); (try clear hfz12_1); (try clear hfz46_0); (try clear hfz46_1); (try clear hfz47_0); (try clear hfz47_1); (try clear hfz49_0); (try clear hfz49_1); (try clear hfz50_0); (try clear hfz50_1); (try clear hfz6_0); (try clear hfz6_1); (try clear hfz7_0); (try clear hfz7_1); (try clear p1); (try clear p15); (try clear p2); (try clear p6); (try clear q1); (try clear q15); obtain ⟨kq, x82_50, rfl, HA, HJ50, BK120, BK121, HB⟩ := hcut
         cases kq with
         | zero => exact absurd HA.out (by simp [r4_Parse.j3])
         | succ kj50 =>
          have H := HA.out; clear HA; simp only [r4_Parse.j3] at H; by_cases c55 : x82_50 = true
          ·subst c55; rw [if_pos rfl] at H; simp only [Option.some.injEq, Prod.mk.injEq] at H; obtain ⟨rfl, rfl, rfl⟩ := H; have hnb56 := NB121_120.out; have hnc56 := NB120_121.out; have hcz57_0 := bc_ BK121 0 rfl; have hcz57_1 := bc_ BK121 1 rfl; have hfz57_0 := blk_frozen BK121.out 0; have hfz57_1 := blk_frozen BK121.out 1; have hcz58_0 := bc_ BK120 0 rfl; have hcz58_1 := bc_ BK120 1 rfl; have hfz58_0 := blk_frozen BK120.out 0; have hfz58_1 := blk_frozen BK120.out 1; go_wp2
           repeat (go_quiet (fail); try go_wp2)
           refine bodyPost_ret (results_ct rfl _ _ gb120 23 #[.string (⟨#[]⟩ : ByteArray), .string (⟨#[]⟩ : ByteArray)] (0, 0) _ rfl (rp_ BK120.out) Tryz.underlying23 rfl (by kernel_rfl)) rfl ?_; exact ⟨er_, b_ HB.out⟩
          ·replace c55 := Bool.eq_false_iff.mpr c55; subst c55; rw [if_neg nf_] at H; obtain ⟨t129, A59, H⟩ := bi_ H; have HC60 := Aside0.mk H; clear H
           go_upto_if 86 with (first | (go_at_call 33; (with_reducible refine (r4_plain.calls kj50 x7_20 t129 _ A59.out).mono ?_); rintro e w' ⟨rfl, ⟨nd, rfl⟩⟩; (try first | exact ⟨rfl, _, World.drewN_drewN _ _ _⟩ | exact ⟨rfl, _, Eq.trans (World.drewN_drewN _ _ _) (congrArg (World.drewN _) (Nat.add_assoc _ _ _))⟩)))
           repeat (go_quiet (first | (go_at_call 33; (with_reducible refine (r4_plain.calls kj50 x7_20 t129 _ A59.out).mono ?_); rintro e w' ⟨rfl, ⟨nd, rfl⟩⟩; (try first | exact ⟨rfl, _, World.drewN_drewN _ _ _⟩ | exact ⟨rfl, _, Eq.trans (World.drewN_drewN _ _ _) (congrArg (World.drewN _) (Nat.add_assoc _ _ _))⟩))); go_upto_if 86 with (first | (go_at_call 33; (with_reducible refine (r4_plain.calls kj50 x7_20 t129 _ A59.out).mono ?_); rintro e w' ⟨rfl, ⟨nd, rfl⟩⟩; (try first | exact ⟨rfl, _, World.drewN_drewN _ _ _⟩ | exact ⟨rfl, _, Eq.trans (World.drewN_drewN _ _ _) (congrArg (World.drewN _) (Nat.add_assoc _ _ _))⟩))))
           (try simp only [Act.put, List.setIfInBounds_toArray, List.set_cons_zero, List.set_cons_succ])
           go_cut [7] (fun v7 wc => ∃ (kq : Nat) (x7_59 : ByteArray), v7 = .string x7_59 ∧ Aside0 (r4_Parse.j4 kq x7_59 x8_20 (⟨#[]⟩ : ByteArray) (⟨#[]⟩ : ByteArray) = some (r1, r2, r3)) ∧ Aside0 (kq ≤ kj50) ∧ Aside0 (wc.heap[gb120]? = some (.cells #[.string x121000_20, .string x121001_20] 23 (0, 0))) ∧ Aside0 (wc.heap[gb121]? = some (.cells #[.string (⟨#[]⟩ : ByteArray), .string (⟨#[]⟩ : ByteArray)] 23 (0, 0))) ∧ Aside0 (Below w.heap.size w wc))
           case first =>
            have H := HC60.out; clear HC60; by_cases c61 : x6_7 = true
            ·subst c61; rw [if_pos rfl] at H; obtain ⟨t130, A62, H⟩ := bi_ H; have H' := Aside0.mk H; clear H
             go_wp2_with (first | (go_at_call 34; (with_reducible refine (r2_Neg.calls t129 t130 _ A62.out).mono ?_); rintro e w63 ⟨rfl, hb⟩; replace BK120 := kb_ BK120 hb; replace BK121 := kb_ BK121 hb; replace HB := bs_ HB hb; (try clear hb); (try clear hb2); (try clear hk); (try clear hi)))
             repeat (go_quiet (first | (go_at_call 34; (with_reducible refine (r2_Neg.calls t129 t130 _ A62.out).mono ?_); rintro e w63 ⟨rfl, hb⟩; replace BK120 := kb_ BK120 hb; replace BK121 := kb_ BK121 hb; replace HB := bs_ HB hb; (try clear hb); (try clear hb2); (try clear hk); (try clear hi))); try go_wp2_with (first | (go_at_call 34; (with_reducible refine (r2_Neg.calls t129 t130 _ A62.out).mono ?_); rintro e w63 ⟨rfl, hb⟩; replace BK120 := kb_ BK120 hb; replace BK121 := kb_ BK121 hb; replace HB := bs_ HB hb; (try clear hb); (try clear hb2); (try clear hk); (try clear hi))))
             go_meet
             case rel => exact ⟨_, (t130), rl_, H', ⟨by have := HJ7.out; have := HJ15.out; have := HJ20.out; have := HJ50.out; first | omega | exact Nat.le_refl _⟩, ⟨k_ BK120.out⟩, ⟨k_ BK121.out⟩, ⟨b_ HB.out⟩⟩
            ·replace c61 := Bool.eq_false_iff.mpr c61; subst c61; rw [if_neg nf_] at H; have H' := Aside0.mk H; clear H; go_wp2
             repeat (go_quiet (fail); try go_wp2)
             go_meet
             case rel => exact ⟨_, (t129), rl_, H', ⟨by have := HJ7.out; have := HJ15.out; have := HJ20.out; have := HJ50.out; first | omega | exact Nat.le_refl _⟩, ⟨k_ BK120.out⟩, ⟨k_ BK121.out⟩, ⟨b_ HB.out⟩⟩
           case rest =>
            clear HC60; (try clear c1); (try clear p1); (try clear q1); (try clear hx1); (try clear qi1); (try clear c2); (try clear c2b0); (try clear c2b1); (try clear p2); (try clear c3); (try clear c4); (try clear c5); (try clear c6); (try clear p6); (try clear c11); (try clear c13); (try clear c13b0); (try clear c13b1); (try clear c14); (try clear c14b0); (try clear c14b1); (try clear p15); (try clear q15); (try clear hx15); (try clear qi15); (try clear c17); (try clear c18); (try clear c18b0); (try clear c18b1); (try clear c22); (try clear c22b0); (try clear c23); (try clear c23b0); (try clear c23b1); (try clear c24); (try clear c24b0); (try clear c24b1); (try clear c26); (try clear c26b0); (try clear c26b1); (try clear c27); (try clear c27b0); (try clear c27b1); (try clear c28); (try clear c28b0); (try clear c29); (try clear c29b0); (try clear c29b1); (try clear c30); (try clear c30b0); (try clear c30b1); (try clear c32); (try clear c34); (try clear c34b0); (try clear c34b1); (try clear c35); (try clear c35b0); (try clear c35b1); (try clear c37); (try clear c38); (try clear c38b0); (try clear c39); (try clear c39b0); (try clear c40); (try clear c40b0); (try clear c41); (try clear c41b0); (try clear c42); (try clear c42b0); (try clear c42b1); (try clear c42b2); (try clear c44); (try clear c44b0); (try clear c44b1); (try clear c44b2); (try clear c45); (try clear c48); (try clear c53); (try clear c55); (try clear c56); (try clear c61); (try clear hcz12_0); (try clear hcz12_1); (try clear hcz46_0); (try clear hcz46_1); (try clear hcz47_0); (try clear hcz47_1); (try clear hcz49_0); (try clear hcz49_1); (try clear hcz50_0); (try clear hcz50_1); (try clear hcz57_0); (try clear hcz57_1); (try clear hcz58_0); (try clear hcz58_1); (try clear hcz6_0); (try clear hcz6_1); (try clear hcz7_0); (try clear hcz7_1); (try clear hfz12_0); (try clear hfz12_1); (try clear hfz46_0); (try clear hfz46_1); (try clear hfz47_0); (try clear hfz47_1); (try clear hfz49_0); (try clear hfz49_1); (try clear hfz50_0); (try clear hfz50_1); (try clear hfz57_0); (try clear hfz57_1); (try clear hfz58_0); (try clear hfz58_1); (try clear hfz6_0); (try clear hfz6_1); (try clear hfz7_0); (try clear hfz7_1); (try clear p1); (try clear p15); (try clear p2); (try clear p6); (try clear q1); (try clear q15); obtain ⟨kq, x7_59, rfl, HA, HJ59, BK120, BK121, HB⟩ := hcut
            cases kq with
            | zero => exact absurd HA.out (by simp [r4_Parse.j4])
            | succ kj59 =>
             have H := HA.out; clear HA; simp only [r4_Parse.j4] at H; obtain ⟨t131, A64, H⟩ := bi_ H; obtain ⟨⟨t132, t133, t134⟩, A65, H⟩ := bi_ H; (try dsimp only at H); by_cases c66 : t134 = true
             ·subst c66; rw [if_pos rfl] at H; simp only [Option.some.injEq, Prod.mk.injEq] at H; obtain ⟨rfl, rfl, rfl⟩ := H
              go_wp2_with (first | (go_at_call 33; (with_reducible refine (r4_plain.calls kj59 x8_20 t131 _ A64.out).mono ?_); rintro e w' ⟨rfl, ⟨nd, rfl⟩⟩; (try first | exact ⟨rfl, _, World.drewN_drewN _ _ _⟩ | exact ⟨rfl, _, Eq.trans (World.drewN_drewN _ _ _) (congrArg (World.drewN _) (Nat.add_assoc _ _ _))⟩)) | (go_at_call 35; (with_reducible refine (r3_Make.calls x7_59 t131 t132 t133 true _ A65.out).mono ?_); rintro e w67 ⟨rfl, hb⟩; replace BK120 := kb_ BK120 hb; replace BK121 := kb_ BK121 hb; replace HB := bs_ HB hb; (try clear hb); (try clear hb2); (try clear hk); (try clear hi)) | ((with_reducible refine gate_dst (N := 11) rfl ?_); refine be_ 11 #[.string (⟨#[]⟩ : ByteArray), .string (⟨#[]⟩ : ByteArray)] 23 ?_; intro gb135 hg w68 hbox hb; have BK135 := Aside0.mk (hbox); have GW135 := ge_ HB hg; have GE135 := ge_ HB hg; have NB120_135 := nl_ BK120 hg; have NB135_120 := ng_ BK120 hg; have NB121_135 := nl_ BK121 hg; have NB135_121 := ng_ BK121 hg; replace BK120 := kb_ BK120 hb; replace BK121 := kb_ BK121 hb; replace HB := bs_ HB hb; clear hb hbox hg; have hnb69 := NB135_120.out; have hnc69 := NB120_135.out; have hnb70 := NB135_121.out; have hnc70 := NB121_135.out; have hcz71_0 := bc_ BK135 0 rfl; have hcz71_1 := bc_ BK135 1 rfl; have hfz71_0 := blk_frozen BK135.out 0; have hfz71_1 := blk_frozen BK135.out 1; have hnb72 := NB120_121.out; have hnc72 := NB121_120.out; have hcz73_0 := bc_ BK120 0 rfl; have hcz73_1 := bc_ BK120 1 rfl; have hfz73_0 := blk_frozen BK120.out 0; have hfz73_1 := blk_frozen BK120.out 1))
              repeat (go_quiet (first | (go_at_call 33; (with_reducible refine (r4_plain.calls kj59 x8_20 t131 _ A64.out).mono ?_); rintro e w' ⟨rfl, ⟨nd, rfl⟩⟩; (try first | exact ⟨rfl, _, World.drewN_drewN _ _ _⟩ | exact ⟨rfl, _, Eq.trans (World.drewN_drewN _ _ _) (congrArg (World.drewN _) (Nat.add_assoc _ _ _))⟩)) | (go_at_call 35; (with_reducible refine (r3_Make.calls x7_59 t131 t132 t133 true _ A65.out).mono ?_); rintro e w67 ⟨rfl, hb⟩; replace BK120 := kb_ BK120 hb; replace BK121 := kb_ BK121 hb; replace HB := bs_ HB hb; (try clear hb); (try clear hb2); (try clear hk); (try clear hi)) | ((with_reducible refine gate_dst (N := 11) rfl ?_); refine be_ 11 #[.string (⟨#[]⟩ : ByteArray), .string (⟨#[]⟩ : ByteArray)] 23 ?_; intro gb135 hg w68 hbox hb; have BK135 := Aside0.mk (hbox); have GW135 := ge_ HB hg; have GE135 := ge_ HB hg; have NB120_135 := nl_ BK120 hg; have NB135_120 := ng_ BK120 hg; have NB121_135 := nl_ BK121 hg; have NB135_121 := ng_ BK121 hg; replace BK120 := kb_ BK120 hb; replace BK121 := kb_ BK121 hb; replace HB := bs_ HB hb; clear hb hbox hg; have hnb69 := NB135_120.out; have hnc69 := NB120_135.out; have hnb70 := NB135_121.out; have hnc70 := NB121_135.out; have hcz71_0 := bc_ BK135 0 rfl; have hcz71_1 := bc_ BK135 1 rfl; have hfz71_0 := blk_frozen BK135.out 0; have hfz71_1 := blk_frozen BK135.out 1; have hnb72 := NB120_121.out; have hnc72 := NB121_120.out; have hcz73_0 := bc_ BK120 0 rfl; have hcz73_1 := bc_ BK120 1 rfl; have hfz73_0 := blk_frozen BK120.out 0; have hfz73_1 := blk_frozen BK120.out 1)); try go_wp2_with (first | (go_at_call 33; (with_reducible refine (r4_plain.calls kj59 x8_20 t131 _ A64.out).mono ?_); rintro e w' ⟨rfl, ⟨nd, rfl⟩⟩; (try first | exact ⟨rfl, _, World.drewN_drewN _ _ _⟩ | exact ⟨rfl, _, Eq.trans (World.drewN_drewN _ _ _) (congrArg (World.drewN _) (Nat.add_assoc _ _ _))⟩)) | (go_at_call 35; (with_reducible refine (r3_Make.calls x7_59 t131 t132 t133 true _ A65.out).mono ?_); rintro e w67 ⟨rfl, hb⟩; replace BK120 := kb_ BK120 hb; replace BK121 := kb_ BK121 hb; replace HB := bs_ HB hb; (try clear hb); (try clear hb2); (try clear hk); (try clear hi)) | ((with_reducible refine gate_dst (N := 11) rfl ?_); refine be_ 11 #[.string (⟨#[]⟩ : ByteArray), .string (⟨#[]⟩ : ByteArray)] 23 ?_; intro gb135 hg w68 hbox hb; have BK135 := Aside0.mk (hbox); have GW135 := ge_ HB hg; have GE135 := ge_ HB hg; have NB120_135 := nl_ BK120 hg; have NB135_120 := ng_ BK120 hg; have NB121_135 := nl_ BK121 hg; have NB135_121 := ng_ BK121 hg; replace BK120 := kb_ BK120 hb; replace BK121 := kb_ BK121 hb; replace HB := bs_ HB hb; clear hb hbox hg; have hnb69 := NB135_120.out; have hnc69 := NB120_135.out; have hnb70 := NB135_121.out; have hnc70 := NB121_135.out; have hcz71_0 := bc_ BK135 0 rfl; have hcz71_1 := bc_ BK135 1 rfl; have hfz71_0 := blk_frozen BK135.out 0; have hfz71_1 := blk_frozen BK135.out 1; have hnb72 := NB120_121.out; have hnc72 := NB121_120.out; have hcz73_0 := bc_ BK120 0 rfl; have hcz73_1 := bc_ BK120 1 rfl; have hfz73_0 := blk_frozen BK120.out 0; have hfz73_1 := blk_frozen BK120.out 1)))
              refine bodyPost_ret (results_ct rfl _ _ gb120 23 #[.string t132, .string t133] (0, 0) _ rfl (by refine k_ ?_; refine blk_put (cs := #[.string t132, .string x121001_20]) ?_ 1 _ rfl; refine k_ ?_; refine blk_put (cs := #[.string x121000_20, .string x121001_20]) ?_ 0 _ rfl; refine k_ ?_; refine blk_far ?_ NB120_135.out _; refine k_ ?_; refine blk_far ?_ NB120_135.out _; refine k_ ?_; exact BK120.out) Tryz.underlying23 rfl (by kernel_rfl)) rfl ?_; exact ⟨er_, b_ HB.out⟩
             ·replace c66 := Bool.eq_false_iff.mpr c66; subst c66; rw [if_neg nf_] at H; simp only [Option.some.injEq, Prod.mk.injEq] at H; obtain ⟨rfl, rfl, rfl⟩ := H
              go_wp2_with (first | (go_at_call 33; (with_reducible refine (r4_plain.calls kj59 x8_20 t131 _ A64.out).mono ?_); rintro e w' ⟨rfl, ⟨nd, rfl⟩⟩; (try first | exact ⟨rfl, _, World.drewN_drewN _ _ _⟩ | exact ⟨rfl, _, Eq.trans (World.drewN_drewN _ _ _) (congrArg (World.drewN _) (Nat.add_assoc _ _ _))⟩)) | (go_at_call 35; (with_reducible refine (r3_Make.calls x7_59 t131 t132 t133 false _ A65.out).mono ?_); rintro e w74 ⟨rfl, hb⟩; replace BK120 := kb_ BK120 hb; replace BK121 := kb_ BK121 hb; replace HB := bs_ HB hb; (try clear hb); (try clear hb2); (try clear hk); (try clear hi)) | ((with_reducible refine gate_dst (N := 11) rfl ?_); refine be_ 11 #[.string (⟨#[]⟩ : ByteArray), .string (⟨#[]⟩ : ByteArray)] 23 ?_; intro gb135 hg w75 hbox hb; have BK135 := Aside0.mk (hbox); have GW135 := ge_ HB hg; have GE135 := ge_ HB hg; have NB120_135 := nl_ BK120 hg; have NB135_120 := ng_ BK120 hg; have NB121_135 := nl_ BK121 hg; have NB135_121 := ng_ BK121 hg; replace BK120 := kb_ BK120 hb; replace BK121 := kb_ BK121 hb; replace HB := bs_ HB hb; clear hb hbox hg; have hnb76 := NB135_120.out; have hnc76 := NB120_135.out; have hnb77 := NB135_121.out; have hnc77 := NB121_135.out; have hcz78_0 := bc_ BK135 0 rfl; have hcz78_1 := bc_ BK135 1 rfl; have hfz78_0 := blk_frozen BK135.out 0; have hfz78_1 := blk_frozen BK135.out 1; have hnb79 := NB121_120.out; have hnc79 := NB120_121.out; have hcz80_0 := bc_ BK121 0 rfl; have hcz80_1 := bc_ BK121 1 rfl; have hfz80_0 := blk_frozen BK121.out 0; have hfz80_1 := blk_frozen BK121.out 1; have hcz81_0 := bc_ BK120 0 rfl; have hcz81_1 := bc_ BK120 1 rfl; have hfz81_0 := blk_frozen BK120.out 0; have hfz81_1 := blk_frozen BK120.out 1))
              repeat (go_quiet (first | (go_at_call 33; (with_reducible refine (r4_plain.calls kj59 x8_20 t131 _ A64.out).mono ?_); rintro e w' ⟨rfl, ⟨nd, rfl⟩⟩; (try first | exact ⟨rfl, _, World.drewN_drewN _ _ _⟩ | exact ⟨rfl, _, Eq.trans (World.drewN_drewN _ _ _) (congrArg (World.drewN _) (Nat.add_assoc _ _ _))⟩)) | (go_at_call 35; (with_reducible refine (r3_Make.calls x7_59 t131 t132 t133 false _ A65.out).mono ?_); rintro e w74 ⟨rfl, hb⟩; replace BK120 := kb_ BK120 hb; replace BK121 := kb_ BK121 hb; replace HB := bs_ HB hb; (try clear hb); (try clear hb2); (try clear hk); (try clear hi)) | ((with_reducible refine gate_dst (N := 11) rfl ?_); refine be_ 11 #[.string (⟨#[]⟩ : ByteArray), .string (⟨#[]⟩ : ByteArray)] 23 ?_; intro gb135 hg w75 hbox hb; have BK135 := Aside0.mk (hbox); have GW135 := ge_ HB hg; have GE135 := ge_ HB hg; have NB120_135 := nl_ BK120 hg; have NB135_120 := ng_ BK120 hg; have NB121_135 := nl_ BK121 hg; have NB135_121 := ng_ BK121 hg; replace BK120 := kb_ BK120 hb; replace BK121 := kb_ BK121 hb; replace HB := bs_ HB hb; clear hb hbox hg; have hnb76 := NB135_120.out; have hnc76 := NB120_135.out; have hnb77 := NB135_121.out; have hnc77 := NB121_135.out; have hcz78_0 := bc_ BK135 0 rfl; have hcz78_1 := bc_ BK135 1 rfl; have hfz78_0 := blk_frozen BK135.out 0; have hfz78_1 := blk_frozen BK135.out 1; have hnb79 := NB121_120.out; have hnc79 := NB120_121.out; have hcz80_0 := bc_ BK121 0 rfl; have hcz80_1 := bc_ BK121 1 rfl; have hfz80_0 := blk_frozen BK121.out 0; have hfz80_1 := blk_frozen BK121.out 1; have hcz81_0 := bc_ BK120 0 rfl; have hcz81_1 := bc_ BK120 1 rfl; have hfz81_0 := blk_frozen BK120.out 0; have hfz81_1 := blk_frozen BK120.out 1)); try go_wp2_with (first | (go_at_call 33; (with_reducible refine (r4_plain.calls kj59 x8_20 t131 _ A64.out).mono ?_); rintro e w' ⟨rfl, ⟨nd, rfl⟩⟩; (try first | exact ⟨rfl, _, World.drewN_drewN _ _ _⟩ | exact ⟨rfl, _, Eq.trans (World.drewN_drewN _ _ _) (congrArg (World.drewN _) (Nat.add_assoc _ _ _))⟩)) | (go_at_call 35; (with_reducible refine (r3_Make.calls x7_59 t131 t132 t133 false _ A65.out).mono ?_); rintro e w74 ⟨rfl, hb⟩; replace BK120 := kb_ BK120 hb; replace BK121 := kb_ BK121 hb; replace HB := bs_ HB hb; (try clear hb); (try clear hb2); (try clear hk); (try clear hi)) | ((with_reducible refine gate_dst (N := 11) rfl ?_); refine be_ 11 #[.string (⟨#[]⟩ : ByteArray), .string (⟨#[]⟩ : ByteArray)] 23 ?_; intro gb135 hg w75 hbox hb; have BK135 := Aside0.mk (hbox); have GW135 := ge_ HB hg; have GE135 := ge_ HB hg; have NB120_135 := nl_ BK120 hg; have NB135_120 := ng_ BK120 hg; have NB121_135 := nl_ BK121 hg; have NB135_121 := ng_ BK121 hg; replace BK120 := kb_ BK120 hb; replace BK121 := kb_ BK121 hb; replace HB := bs_ HB hb; clear hb hbox hg; have hnb76 := NB135_120.out; have hnc76 := NB120_135.out; have hnb77 := NB135_121.out; have hnc77 := NB121_135.out; have hcz78_0 := bc_ BK135 0 rfl; have hcz78_1 := bc_ BK135 1 rfl; have hfz78_0 := blk_frozen BK135.out 0; have hfz78_1 := blk_frozen BK135.out 1; have hnb79 := NB121_120.out; have hnc79 := NB120_121.out; have hcz80_0 := bc_ BK121 0 rfl; have hcz80_1 := bc_ BK121 1 rfl; have hfz80_0 := blk_frozen BK121.out 0; have hfz80_1 := blk_frozen BK121.out 1; have hcz81_0 := bc_ BK120 0 rfl; have hcz81_1 := bc_ BK120 1 rfl; have hfz81_0 := blk_frozen BK120.out 0; have hfz81_1 := blk_frozen BK120.out 1)))
              refine bodyPost_ret (results_ct rfl _ _ gb120 23 #[.string (⟨#[]⟩ : ByteArray), .string (⟨#[]⟩ : ByteArray)] (0, 0) _ rfl (by refine k_ ?_; refine blk_put (cs := #[.string (⟨#[]⟩ : ByteArray), .string x121001_20]) ?_ 1 _ rfl; refine k_ ?_; refine blk_put (cs := #[.string x121000_20, .string x121001_20]) ?_ 0 _ rfl; refine k_ ?_; refine blk_far ?_ NB120_135.out _; refine k_ ?_; refine blk_far ?_ NB120_135.out _; refine k_ ?_; exact BK120.out) Tryz.underlying23 rfl (by kernel_rfl)) rfl ?_; exact ⟨er_, b_ HB.out⟩
end Go.Proofs.YtaldgaiaelbbaaaGreatDoor.Pe
end

section
namespace Go.Proofs.YtaldgaiaelbbaaaGreatDoor.Pe
end Go.Proofs.YtaldgaiaelbbaaaGreatDoor.Pe
end

section
namespace Go.Proofs.YtaldgaiaelbbaaaGreatDoor
theorem zeros_loop (n : Nat) (hn : n ≤ 1000000) : ∀ (d i : Nat), i + d = n → ∀ k, d + 1 ≤ k → Pe.r4_Zeros.l0 k (n : Int) (zerosB (i : Int)) (i : Int) = some (zerosB (n : Int))
 | 0, i, hi, k, hk => by
  obtain ⟨k, rfl⟩ : ∃ m, k = m + 1 := ⟨k - 1, by omega⟩
  simp only [Pe.r4_Zeros.l0]
  rw [if_neg (by omega), show i = n by omega]
 | d + 1, i, hi, k, hk => by
  obtain ⟨k, rfl⟩ : ∃ m, k = m + 1 := ⟨k - 1, by omega⟩
  simp only [Pe.r4_Zeros.l0]
  have e : zerosB (i : Int) ++ (⟨#[48]⟩ : ByteArray) = zerosB ((i + 1 : Nat) : Int) := by
   apply bext
   rw [Joins.data_append, zerosB_list, zerosB_list, Int.toNat_natCast, Int.toNat_natCast, List.replicate_succ']
  rw [if_pos (by omega), if_pos (by rw [zerosB_size]; omega), e, w64 (by omega) (by omega), show ((i : Int) + 1) = ((i + 1 : Nat) : Int) by omega]
  exact zeros_loop n hn d (i + 1) (by omega) k (by omega)
theorem zeros_f {n : Nat} (hn : n ≤ 1000000) (k : Nat) (hk : n + 1 ≤ k) : Pe.r4_Zeros.f k (n : Int) = some (zerosB (n : Int)) := by
 unfold Pe.r4_Zeros.f
 exact zeros_loop n hn n 0 (by omega) k hk
theorem natB_two' : (⟨#[50]⟩ : ByteArray) = natB 2 := by kernel_rfl
theorem natB_five' : (⟨#[53]⟩ : ByteArray) = natB 5 := by kernel_rfl
theorem sz_two' : sz 2 ≤ 50000 := by decide +kernel
theorem sz_five' : sz 5 ≤ 50000 := by decide +kernel
theorem rplaces_loop : ∀ (n : Nat), 0 < n → sz n ≤ 50000 → ∀ (a b : Nat), a + tw n ≤ 1000000000 → b + fv n ≤ 1000000000 → ∀ k, tw n + fv n + 1 ≤ k →
  Pe.r4_Places.l0 k (natB n) (a : Int) (b : Int) = some (if finD n = true then (((max (a + tw n) (b + fv n) : Nat) : Int), true) else (0, false))
 | n, hn, hz, a, b, ha, hb, k, hk => by
  obtain ⟨k, rfl⟩ : ∃ m, k = m + 1 := ⟨k - 1, by omega⟩
  simp only [Pe.r4_Places.l0]
  by_cases h1 : n = 1
  ·subst h1
   obtain ⟨e1, e2, e3⟩ := pl_stop (n := 1) (by decide) (by decide)
   rw [if_pos (natB_toList_one.2 rfl), e1, e2, finD_one, if_pos rfl, mx_nat]
   rfl
  ·rw [if_neg (fun z => h1 (natB_toList_one.1 z)), natB_two', natB_five', qDivN hz sz_two' (by decide), Option.bind_some, qDivN hz sz_five' (by decide), Option.bind_some]
   dsimp only
   by_cases h2 : n % 2 = 0
   ·obtain ⟨e1, e2, e3⟩ := pl_even hn h2
    rw [e1] at ha hk
    rw [e2] at hb hk
    rw [if_pos (natB_toList_zero.2 h2), w64 (by omega) (by omega), show ((a : Int) + 1) = ((a + 1 : Nat) : Int) by omega, rplaces_loop (n / 2) (by omega) (Nat.le_trans (sz_mono (Nat.div_le_self _ _)) hz) (a + 1) b (by omega) hb k (by omega), e1, e2, e3, show a + 1 + tw (n / 2) = a + (tw (n / 2) + 1) by omega]
   ·rw [if_neg (fun z => h2 (natB_toList_zero.1 z))]
    by_cases h5 : n % 5 = 0
    ·obtain ⟨e1, e2, e3⟩ := pl_five hn h2 h5
     rw [e1] at ha hk
     rw [e2] at hb hk
     rw [if_pos (natB_toList_zero.2 h5), w64 (by omega) (by omega), show ((b : Int) + 1) = ((b + 1 : Nat) : Int) by omega, rplaces_loop (n / 5) (by omega) (Nat.le_trans (sz_mono (Nat.div_le_self _ _)) hz) a (b + 1) ha (by omega) k (by omega), e1, e2, e3, show b + 1 + fv (n / 5) = b + (fv (n / 5) + 1) by omega]
    ·obtain ⟨e1, e2, e3⟩ := pl_stop h2 h5
     rw [if_neg (fun z => h5 (natB_toList_zero.1 z)), e3, if_neg (by rw [beq_iff_eq]; exact h1)]
 termination_by n => n
theorem tw_le {n : Nat} (hn : 0 < n) : tw n ≤ 4 * sz n := tms_le (by decide) hn (lt_sz n)
theorem fv_le {n : Nat} (hn : 0 < n) : fv n ≤ 4 * sz n := tms_le (by decide) (tms_pos (by decide) hn) (Nat.lt_of_le_of_lt (tms_left_le (by decide) hn) (lt_sz n))
theorem rPlaces_f {x : BB} (hx : x.1.size + x.2.size ≤ 300) (k : Nat) (hk : 2500 ≤ k) : Pe.r4_Places.f k x.1 x.2 = some (placesS x) := by
 unfold Pe.r4_Places.f
 have em : r3_May.f x.1 x.2 = some (mayR x) := by
  unfold r3_May.f
  rw [if_pos (show smR (x.1, x.2) = true from decide_eq_true ⟨by dsimp only; omega, by dsimp only; omega⟩)]
 rw [em, Option.bind_some]
 unfold placesS
 by_cases hm : mayR x = true
 ·obtain ⟨q, rfl⟩ := of_mayR hm
  have hs : sz q.den ≤ 300 := Nat.le_trans (le_szR_den q) hx
  have hd : 0 < q.den := Nat.pos_of_ne_zero q.den_nz
  have t1 := tw_le hd
  have t2 := fv_le hd
  rw [if_pos hm, hm, Bool.true_and, ratR_rT]
  have h := rplaces_loop q.den hd (by omega) 0 0 (by omega) (by omega) k (by omega)
  rw [Nat.zero_add, Nat.zero_add, ← plD_tf] at h
  exact h
 ·rw [if_neg hm, if_neg (fun z => hm (Bool.and_eq_true_iff.1 z).1)]
theorem rpad_bytes (n : Nat) (m : Nat) (hn : n ≤ 100000) (hm : sz m ≤ 100000) (k : Nat) (hk : 100010 ≤ k) :
  Pe.r4_Zeros.f k (mx (wrap64 ((wrap64 ((n : Int) + 1)) - ((natB m).size : Int))) 0) = some (zerosB ((n + 1 - (Lib.decDigits m).length : Nat) : Int)) ∧ (zerosB ((n + 1 - (Lib.decDigits m).length : Nat) : Int) ++ natB m).data.toList = padL n (Lib.decDigits m) := by
 have e := sz_dig m
 have e1 : ((natB m).size : Int) = ((Lib.decDigits m).length : Int) := by rw [natB_size]
 have e2 : mx (wrap64 ((wrap64 ((n : Int) + 1)) - ((natB m).size : Int))) 0 = ((n + 1 - (Lib.decDigits m).length : Nat) : Int) := by
  rw [e1, w64 (x := (n : Int) + 1) (by omega) (by omega), w64 (by omega) (by omega)]
  unfold mx
  split <;> omega
 rw [e2]
 refine ⟨zeros_f (by omega) k (by omega), ?_⟩
 rw [Joins.data_append, zerosB_list, natB_list, Int.toNat_natCast]
 rfl
theorem rpad_size (n m : Nat) : (padL n (Lib.decDigits m)).length ≤ n + 1 + (Lib.decDigits m).length := by
 unfold padL
 rw [List.length_append, List.length_replicate]
 omega
theorem szR_nat (n : Nat) : szR ((n : Int) : Rat) ≤ sz n + 1 := by rw [szR_int, szI_nat]; exact Nat.le_refl _
theorem rPrint_f {x : BB} (hx : x.1.size + x.2.size ≤ 300) (k : Nat) (hk : 100010 ≤ k) : Pe.r4_Print.f k x.1 x.2 = some (printS x) := by
 unfold Pe.r4_Print.f
 have em : r3_May.f x.1 x.2 = some (mayR x) := by
  unfold r3_May.f
  rw [if_pos (show smR (x.1, x.2) = true from decide_eq_true ⟨by dsimp only; omega, by dsimp only; omega⟩)]
 rw [em, Option.bind_some]
 unfold printS
 by_cases hm : mayR x = true
 ·rw [if_pos hm, if_pos hm, rPlaces_f hx k (by omega), Option.bind_some]
  obtain ⟨q, rfl⟩ := of_mayR hm
  have hs : szR q ≤ 300 := hx
  have h1 := le_szR_num q
  have h2 := le_szR_den q
  have hd : 0 < q.den := Nat.pos_of_ne_zero q.den_nz
  rw [ratR_rT, places_rT]
  unfold printL
  by_cases hf : finD q.den = true
  ·rw [if_pos hf, if_pos hf]
   dsimp only
   rw [if_pos rfl]
   by_cases h0 : plD q.den = 0
   ·rw [if_pos (by omega), if_pos h0]
    rfl
   ·rw [if_neg (by omega), if_neg h0]
    have hp := plD_le hd (lt_sz q.den)
    have hm2 : sz q.num.natAbs ≤ szI q.num := le_szI _
    have s10 : sz (10 ^ plD q.den) ≤ plD q.den + 1 := sz_le (Nat.pow_lt_pow_right (by decide) (by omega)) (by omega)
    have su : sz (10 ^ plD q.den / q.den) ≤ plD q.den + 1 := Nat.le_trans (sz_mono (Nat.div_le_self _ _)) s10
    have sp := sz_mul q.num.natAbs (10 ^ plD q.den / q.den)
    have sr := szR_nat (10 ^ plD q.den)
    have hdv := (dvd_ten hd (plD q.den)).2 ⟨hf, Nat.le_refl _⟩
    rw [zeros_f (by omega) k (by omega), Option.bind_some, if_pos (by rw [zerosB_size]; omega), tenBB]
    have hk1 := kMul (p := q) (q := (((10 ^ plD q.den : Nat) : Int) : Rat)) (by omega) (by omega)
    rw [mul_num hdv] at hk1
    have r10 : rT (((10 ^ plD q.den : Nat) : Int) : Rat) = (natB (10 ^ plD q.den), ⟨#[49]⟩) := by
     unfold rT
     rw [Rat.num_intCast, Rat.den_intCast, natB_one, intB_nat]
    have ry : rT ((q.num * ((10 ^ plD q.den / q.den : Nat) : Int) : Int) : Rat) = (intB (q.num * ((10 ^ plD q.den / q.den : Nat) : Int)), ⟨#[49]⟩) := by
     unfold rT
     rw [Rat.num_intCast, Rat.den_intCast, natB_one]
    rw [r10, ry] at hk1
    rw [hk1, Option.bind_some]
    have hna : (q.num * ((10 ^ plD q.den / q.den : Nat) : Int)).natAbs = q.num.natAbs * (10 ^ plD q.den / q.den) := by rw [Int.natAbs_mul, Int.natAbs_natCast]
    have sI := szI_le (q.num * ((10 ^ plD q.den / q.den : Nat) : Int))
    rw [hna] at sI
    show ((r2_Abs.f (intB (q.num * ((10 ^ plD q.den / q.den : Nat) : Int)))).bind fun t117 => _) = _
    rw [qAbs (by omega), Option.bind_some, hna]
    obtain ⟨p1, p2⟩ := rpad_bytes (plD q.den) (q.num.natAbs * (10 ^ plD q.den / q.den)) (by omega) (by omega) k hk
    rw [p1, Option.bind_some]
    have hsz := rpad_size (plD q.den) (q.num.natAbs * (10 ^ plD q.den / q.den))
    have hle := pad_len (plD q.den) (Lib.decDigits (q.num.natAbs * (10 ^ plD q.den / q.den)))
    have e4 := sz_dig (q.num.natAbs * (10 ^ plD q.den / q.den))
    rw [if_pos (by rw [← ByteArray.size_append, size_len, p2]; omega), kSign (by omega), Option.bind_some]
    generalize hT : zerosB ((plD q.den + 1 - (Lib.decDigits (q.num.natAbs * (10 ^ plD q.den / q.den))).length : Nat) : Int) ++ natB (q.num.natAbs * (10 ^ plD q.den / q.den)) = T at *
    have eT : T.size = (padL (plD q.den) (Lib.decDigits (q.num.natAbs * (10 ^ plD q.den / q.den)))).length := by rw [size_len, p2]
    unfold digsL
    rw [← p2]
    have hsg : cmpQ q 0 < 0 ↔ q.num < 0 := by
     rw [← signQ_cmp]
     unfold signQ
     by_cases hn : q.num < 0
     ·rw [cmp_lt' hn]
      exact ⟨fun _ => hn, fun _ => by decide⟩
     ·refine ⟨fun z => ?_, fun z => absurd z hn⟩
      exfalso
      revert z
      unfold Lib.compareInt
      (repeat' split) <;> omega
    by_cases hn : q.num < 0
    ·rw [if_pos (hsg.2 hn), tail_f (s := ⟨#[45]⟩) (p := 1) (by omega) (by omega) rfl (by decide)]
     unfold sgL
     rw [if_pos hn]
    ·rw [if_neg (fun z => hn (hsg.1 z)), tail_f (s := ⟨#[]⟩) (p := 0) (by omega) (by omega) rfl (by decide)]
     unfold sgL
     rw [if_neg hn]
  ·rw [if_neg hf, if_neg hf]
   dsimp only
   rw [if_neg (by decide)]
   have l1 : (⟨#[47]⟩ : ByteArray).size = 1 := rfl
   rw [if_pos (show (rT q).1.size + 1 ≤ 9223372036854775807 by omega), if_pos (show ((rT q).1 ++ (⟨#[47]⟩ : ByteArray)).size + (rT q).2.size ≤ 9223372036854775807 by rw [ByteArray.size_append]; omega)]
   congr 1
   apply bext
   rw [Joins.data_append, Joins.data_append]
   show ((intB q.num).data.toList ++ [47]) ++ (natB q.den).data.toList = (intB q.num).data.toList ++ 47 :: Lib.decDigits q.den
   rw [natB_list, List.append_assoc]
   rfl
 ·rw [if_neg hm, if_neg hm]
  rfl
theorem rdig_loop (s : ByteArray) (hs : s.size ≤ 4611686018427387904) : ∀ (d i : Nat), i + d = s.size → ∀ k, d + 1 ≤ k → Pe.r4_digits.l0 k s (i : Int) = some ((s.data.toList.drop i).all isDig && decide ((s.size : Int) > 0))
 | 0, i, hi, k, hk => by
  obtain ⟨k, rfl⟩ : ∃ m, k = m + 1 := ⟨k - 1, by omega⟩
  simp only [Pe.r4_digits.l0]
  rw [if_neg (by omega), List.drop_of_length_le (by rw [← size_len]; omega)]
  rfl
 | d + 1, i, hi, k, hk => by
  obtain ⟨k, rfl⟩ : ∃ m, k = m + 1 := ⟨k - 1, by omega⟩
  simp only [Pe.r4_digits.l0]
  have g1 : (i : Int) < (s.size : Int) := by omega
  rw [if_pos g1, if_pos (by omega)]
  obtain ⟨c, hc, hb⟩ := bt_get s i (by omega)
  have hil : i < s.data.toList.length := by rw [← size_len]; omega
  have hcc : s.data.toList[i] = c := by
   rw [List.getElem?_eq_getElem hil] at hc
   exact Option.some.inj hc
  rw [hb, List.drop_eq_getElem_cons hil, hcc, List.all_cons, w64 (by omega) (by omega)]
  by_cases h1 : (c.toNat : Int) < 48
  ·rw [if_pos h1]
   have : isDig c = false := by simp [isDig]; omega
   rw [this]; rfl
  ·rw [if_neg h1]
   by_cases h2 : (c.toNat : Int) > 57
   ·rw [if_pos h2]
    have : isDig c = false := by simp [isDig]; omega
    rw [this]; rfl
   ·rw [if_neg h2]
    have : isDig c = true := by simp [isDig]; omega
    rw [this, Bool.true_and]
    have := rdig_loop s hs d (i + 1) (by omega) k (by omega)
    rw [show ((i : Int) + 1) = ((i + 1 : Nat) : Int) by omega]
    exact this
theorem rdigits_f {s : ByteArray} (hs : s.size ≤ 10000) (k : Nat) (hk : 10010 ≤ k) : Pe.r4_digits.f k s = some (digL s.data.toList) := by
 unfold Pe.r4_digits.f
 have h := rdig_loop s (by omega) s.size 0 (by omega) k (by omega)
 rw [List.drop_zero] at h
 refine h.trans ?_
 unfold digL
 rw [Bool.and_comm]
 congr 2
 rw [decide_eq_decide, size_len]
 constructor
 ·intro g e
  rw [e, List.length_nil] at g
  omega
 ·intro g
  have := List.length_pos_iff.2 g
  omega
theorem rplain_loop (s : ByteArray) (hs : s.size ≤ 4611686018427387904) : ∀ (d i : Nat), i + d = s.size → ∀ k, d + 1 ≤ k → Pe.r4_plain.l0 k s (i : Int) = some ⟨(strip (s.data.toList.drop i)).toArray⟩
 | 0, i, hi, k, hk => by
  obtain ⟨k, rfl⟩ : ∃ m, k = m + 1 := ⟨k - 1, by omega⟩
  simp only [Pe.r4_plain.l0]
  rw [w64 (by omega) (by omega), if_neg (by omega), if_pos (by omega), if_pos (by omega), Int.toNat_natCast]
  congr 1
  apply bmk
  rw [Lib.extract_to_end, List.drop_of_length_le (by rw [← size_len]; omega)]
  rfl
 | d + 1, i, hi, k, hk => by
  obtain ⟨k, rfl⟩ : ∃ m, k = m + 1 := ⟨k - 1, by omega⟩
  simp only [Pe.r4_plain.l0]
  have hil : i < s.data.toList.length := by rw [← size_len]; omega
  have stop : ∀ l : List UInt8, strip (s.data.toList.drop i) = s.data.toList.drop i → some (s.extract (i : Int).toNat s.size) = some (⟨(strip (s.data.toList.drop i)).toArray⟩ : ByteArray) := by
   intro _ h
   congr 1
   apply bmk
   rw [Int.toNat_natCast, Lib.extract_to_end, h]
  rw [w64 (by omega) (by omega)]
  by_cases h0 : d = 0
  ·rw [if_neg (by omega), if_pos (by omega), if_pos (by omega)]
   refine stop [] ?_
   rw [List.drop_eq_getElem_cons hil, List.drop_of_length_le (by rw [← size_len]; omega)]
   rfl
  ·rw [if_pos (by omega), if_pos (by omega), if_pos (by omega)]
   obtain ⟨c, hc, hb⟩ := bt_get s i (by omega)
   have hcc : s.data.toList[i] = c := by
    rw [List.getElem?_eq_getElem hil] at hc
    exact Option.some.inj hc
   have hil2 : i + 1 < s.data.toList.length := by rw [← size_len]; omega
   have hdrop : s.data.toList.drop i = c :: s.data.toList[i + 1] :: s.data.toList.drop (i + 2) := by
    rw [List.drop_eq_getElem_cons hil, hcc, List.drop_eq_getElem_cons hil2]
   rw [hb]
   by_cases h1 : (c.toNat : Int) = 48
   ·have h2 : c = 48 := UInt8.toNat_inj.1 (by rw [show (48 : UInt8).toNat = 48 from rfl]; omega)
    rw [if_pos h1, show ((i : Int) + 1) = ((i + 1 : Nat) : Int) by omega, rplain_loop s hs d (i + 1) (by omega) k (by omega), hdrop, strip, if_pos h2, List.drop_eq_getElem_cons hil2]
   ·rw [if_neg h1, if_pos (by omega)]
    refine stop [] ?_
    have h2 : ¬ c = 48 := by rintro rfl; exact h1 rfl
    rw [hdrop, strip, if_neg h2]
theorem rplain_f {s : ByteArray} (hs : s.size ≤ 10000) (k : Nat) (hk : 10010 ≤ k) (h : digL s.data.toList = true) : Pe.r4_plain.f k s = some (natB (num s.data.toList)) := by
 obtain ⟨h1, h2, h3⟩ := head_dig' h
 unfold Pe.r4_plain.f
 have := rplain_loop s (by omega) s.size 0 (by omega) k (by omega)
 rw [List.drop_zero, strip_dig h2 h1] at this
 exact this
theorem find_loop (s : ByteArray) (c : UInt8) (hs : s.size ≤ 4611686018427387904) : ∀ (d i : Nat), i + d = s.size → ∀ k, d + 1 ≤ k → Pe.r4_find.l0 k s (c.toNat : Int) (i : Int) = some (match cutAt c (s.data.toList.drop i) with | some (a, _) => ((i + a.length : Nat) : Int) | none => -1)
 | 0, i, hi, k, hk => by
  obtain ⟨k, rfl⟩ : ∃ m, k = m + 1 := ⟨k - 1, by omega⟩
  simp only [Pe.r4_find.l0]
  rw [if_neg (by omega), List.drop_of_length_le (by rw [← size_len]; omega)]
  rfl
 | d + 1, i, hi, k, hk => by
  obtain ⟨k, rfl⟩ : ∃ m, k = m + 1 := ⟨k - 1, by omega⟩
  simp only [Pe.r4_find.l0]
  obtain ⟨x, hx, hb⟩ := bt_get s i (by omega)
  have hil : i < s.data.toList.length := by rw [← size_len]; omega
  have hcc : s.data.toList[i] = x := by
   rw [List.getElem?_eq_getElem hil] at hx
   exact Option.some.inj hx
  rw [if_pos (by omega), if_pos (by omega), hb, List.drop_eq_getElem_cons hil, hcc, cutAt]
  by_cases h1 : (x.toNat : Int) = (c.toNat : Int)
  ·have h2 : x = c := UInt8.toNat_inj.1 (by omega)
   rw [if_pos h1, if_pos h2]
   rfl
  ·have h2 : ¬ x = c := by rintro rfl; exact h1 rfl
   rw [if_neg h1, if_neg h2, w64 (by omega) (by omega), show ((i : Int) + 1) = ((i + 1 : Nat) : Int) by omega, find_loop s c hs d (i + 1) (by omega) k (by omega)]
   cases cutAt c (s.data.toList.drop (i + 1)) with
   | none => rfl
   | some p =>
    show some _ = some _
    congr 1
    show ((i + 1 + p.1.length : Nat) : Int) = ((i + (x :: p.1).length : Nat) : Int)
    rw [List.length_cons]
    omega
theorem find_f {s : ByteArray} (c : UInt8) (hs : s.size ≤ 10000) (k : Nat) (hk : 10010 ≤ k) : Pe.r4_find.f k s (c.toNat : Int) = some (match cutAt c s.data.toList with | some (a, _) => (a.length : Int) | none => -1) := by
 unfold Pe.r4_find.f
 have h := find_loop s c (by omega) s.size 0 (by omega) k (by omega)
 rw [List.drop_zero] at h
 simp only [Nat.zero_add] at h
 exact h
theorem kMake0 {x : Int} (hx : szI x ≤ 4000) : r3_Make.f (intB x) (natB 0) = some (noB, noB, false) := by
 unfold r3_Make.f rmakeS
 have e : numW (natB 0) = 0 := by rw [← intB_nat, numW_int]; rfl
 rw [if_pos (show smR (intB x, natB 0) = true from decide_eq_true ⟨hx, by dsimp only; rw [natB_zero]; decide⟩), e, if_neg]
 ·rfl
 ·rw [Bool.and_eq_true, decide_eq_true_eq]
  exact fun z => z.2 rfl
theorem rmake_res {m : Bool} {A B : List UInt8} (hA : digL A = true) (hB : digL B = true) (la : A.length ≤ 3000) (lb : B.length ≤ 3000) :
  ((r3_Make.f (intB (withS m (num A))) (natB (num B))).bind fun bt => (if bt.2.2 = true then (some (bt.1, bt.2.1, (0 : Int))) else (some ((⟨#[]⟩ : ByteArray), (⟨#[]⟩ : ByteArray), 40)))) = some (ansQ (resL m A B)) := by
 have za := num_sz (head_dig' hA).1
 have zb := num_sz (head_dig' hB).1
 have wa := withS_sz m (num A)
 unfold resL
 rw [hA, hB, Bool.true_and, if_pos rfl]
 by_cases h0 : num B = 0
 ·rw [if_pos h0, h0, kMake0 (by omega), Option.bind_some]
  rfl
 ·have hm := kMake (x := withS m (num A)) (y := (num B : Int)) (by omega) (by rw [szI_nat]; omega) (by omega)
  rw [intB_nat] at hm
  rw [if_neg h0, hm, Option.bind_some]
  rfl
theorem r4j4_f {X B : ByteArray} (lb : B.size ≤ 3000) (hB : digL B.data.toList = true) (k : Nat) (hk : 10011 ≤ k) :
  Pe.r4_Parse.j4 k X B ⟨#[]⟩ ⟨#[]⟩ = ((r3_Make.f X (natB (num B.data.toList))).bind fun bt => (if bt.2.2 = true then (some (bt.1, bt.2.1, (0 : Int))) else (some ((⟨#[]⟩ : ByteArray), (⟨#[]⟩ : ByteArray), 40)))) := by
 obtain ⟨k, rfl⟩ : ∃ m, k = m + 1 := ⟨k - 1, by omega⟩
 simp only [Pe.r4_Parse.j4]
 rw [rplain_f (by omega) k (by omega) hB, Option.bind_some]
theorem r4j3_true (m : Bool) (A B : ByteArray) (k : Nat) : Pe.r4_Parse.j3 (k + 1) m A B true ⟨#[]⟩ ⟨#[]⟩ = some (ansQ none) := by
 simp only [Pe.r4_Parse.j3]
 rfl
theorem r4j2_f {A B : ByteArray} (m : Bool) (la : A.size ≤ 3000) (lb : B.size ≤ 3000) (k : Nat) (hk : 10020 ≤ k) :
  Pe.r4_Parse.j2 k m A B ⟨#[]⟩ ⟨#[]⟩ = some (ansQ (resL m A.data.toList B.data.toList)) := by
 obtain ⟨k, rfl⟩ : ∃ m, k = m + 1 + 1 := ⟨k - 2, by omega⟩
 show Pe.r4_Parse.j2 (k + 1 + 1) m A B _ _ = _
 simp only [Pe.r4_Parse.j2]
 rw [rdigits_f (by omega) (k + 1) (by omega), Option.bind_some]
 by_cases hA : digL A.data.toList = true
 ·rw [if_pos hA, rdigits_f (by omega) (k + 1) (by omega), Option.bind_some]
  by_cases hB : digL B.data.toList = true
  ·have e : (!digL B.data.toList) = false := by rw [hB]; rfl
   rw [e]
   simp only [Pe.r4_Parse.j3]
   have mk := rmake_res (m := m) hA hB (by rw [← size_len]; exact la) (by rw [← size_len]; exact lb)
   have za := num_sz (head_dig' hA).1
   rw [← size_len] at za
   rw [if_neg (by decide), rplain_f (by omega) k (by omega) hA, Option.bind_some]
   cases m with
   | true =>
    have hn := qNeg (x := (num A.data.toList : Int)) (by rw [szI_nat]; omega)
    rw [intB_nat] at hn
    rw [if_pos rfl, hn, Option.bind_some, r4j4_f lb hB k (by omega)]
    exact mk
   | false =>
    rw [if_neg (by decide), r4j4_f lb hB k (by omega)]
    have e2 : intB (withS false (num A.data.toList)) = natB (num A.data.toList) := intB_nat _
    rw [e2] at mk
    exact mk
  ·have e : (!digL B.data.toList) = true := by rw [(Bool.not_eq_true _).mp hB]; rfl
   rw [e, r4j3_true]
   unfold resL
   rw [if_neg (fun z => hB (Bool.and_eq_true_iff.1 z).2)]
 ·rw [if_neg hA, r4j3_true]
  unfold resL
  rw [if_neg (fun z => hA (Bool.and_eq_true_iff.1 z).1)]
theorem cut_bytes {t : ByteArray} {c : UInt8} {a b : List UInt8} (h : cutAt c t.data.toList = some (a, b)) :
  (t.extract 0 ((a.length : Int)).toNat).data.toList = a ∧ (t.extract ((((a.length + 1 : Nat) : Int))).toNat t.size).data.toList = b := by
 obtain ⟨h1, h2, h3⟩ := indexByte_some h
 rw [Int.toNat_natCast, Int.toNat_natCast]
 constructor
 ·rw [Lib.extract_data, h2, List.drop_zero, Nat.sub_zero, List.take_left]
 ·rw [Lib.extract_to_end, h2, ← List.drop_drop, List.drop_left]
  rfl
theorem r4j1_f {s t : ByteArray} (m : Bool) (ht : t.data.toList = (cutL s.data.toList).1) (hm : m = (cutL s.data.toList).2) (hs : t.size ≤ 1000) (k : Nat) (hk : 10030 ≤ k) :
  Pe.r4_Parse.j1 k t m ⟨#[]⟩ ⟨#[]⟩ = some (ansQ (parseA s.data.toList)) := by
 obtain ⟨k, rfl⟩ : ∃ m, k = m + 1 := ⟨k - 1, by omega⟩
 simp only [Pe.r4_Parse.j1]
 have f1 := find_f (s := t) 47 (by omega) k (by omega)
 have f2 := find_f (s := t) 46 (by omega) k (by omega)
 have z1 : (((47 : UInt8).toNat : Nat) : Int) = 47 := rfl
 have z2 : (((46 : UInt8).toNat : Nat) : Int) = 46 := rfl
 rw [z1] at f1
 rw [z2] at f2
 rw [f1, Option.bind_some, f2, Option.bind_some, parseA_forms, ← ht, ← hm]
 cases h1 : cutAt 47 t.data.toList with
 | some p =>
  obtain ⟨a, b⟩ := p
  have l1 := cutAt_len h1
  rw [← size_len] at l1
  obtain ⟨c1, c2⟩ := cut_bytes h1
  dsimp only
  rw [if_pos (by omega), if_pos (by omega), if_pos (by omega), w64 (by omega) (by omega), if_pos (by omega), if_pos (by omega), show ((a.length : Int) + 1) = ((a.length + 1 : Nat) : Int) by omega, r4j2_f m (by rw [size_len, c1]; omega) (by rw [size_len, c2]; omega) k (by omega), c1, c2]
 | none =>
  dsimp only
  rw [if_neg (by decide)]
  cases h2 : cutAt 46 t.data.toList with
  | none =>
   dsimp only
   rw [if_neg (by decide), r4j2_f m (by omega) (by decide) k (by omega)]
  | some p =>
   obtain ⟨a, b⟩ := p
   have l1 := cutAt_len h2
   rw [← size_len] at l1
   obtain ⟨c1, c2⟩ := cut_bytes h2
   dsimp only
   have s1 : (t.extract 0 ((a.length : Int)).toNat).size = a.length := by rw [size_len, c1]
   have s2 : (t.extract ((((a.length + 1 : Nat) : Int))).toNat t.size).size = b.length := by rw [size_len, c2]
   rw [if_pos (by omega), if_pos (by omega), if_pos (by omega), rdigits_f (by omega) k (by omega), Option.bind_some, c1]
   by_cases hA : digL a = true
   ·rw [if_pos hA, w64 (x := (a.length : Int) + 1) (by omega) (by omega), if_pos (by omega), if_pos (by omega), show ((a.length : Int) + 1) = ((a.length + 1 : Nat) : Int) by omega, rdigits_f (by omega) k (by omega), Option.bind_some, c2]
    by_cases hB : digL b = true
    ·have e5 : wrap64 (wrap64 ((t.size : Int) - (a.length : Int)) - 1) = ((b.length : Nat) : Int) := by
      rw [w64 (x := (t.size : Int) - (a.length : Int)) (by omega) (by omega), w64 (by omega) (by omega)]
      omega
     rw [if_pos hB, if_pos (by omega), e5, zeros_f (by omega) k (by omega), Option.bind_some, if_pos (by rw [zerosB_size]; omega), r4j2_f m (by rw [ByteArray.size_append]; omega) (by rw [ByteArray.size_append, zerosB_size]; show 1 + _ ≤ _; omega) k (by omega), ten_list, Joins.data_append, c1, c2, hA, hB, Bool.true_and, if_pos rfl]
    ·rw [if_neg hB, if_neg (fun z => hB (Bool.and_eq_true_iff.1 z).2)]
     rfl
   ·rw [if_neg hA, if_neg (fun z => hA (Bool.and_eq_true_iff.1 z).1)]
    rfl
theorem rParse_f {s : ByteArray} (h : s.size ≤ 1100) (k : Nat) (hk : 10040 ≤ k) : Pe.r4_Parse.f k s = some (parseS s) := by
 obtain ⟨k, rfl⟩ : ∃ j, k = j + 1 := ⟨k - 1, by omega⟩
 unfold Pe.r4_Parse.f
 rw [parseS_ans]
 unfold parseL
 rw [← size_len]
 by_cases h1 : 1000 < s.size
 ·rw [if_pos (show (s.size : Int) > 1000 by omega), if_pos h1]
  rfl
 ·rw [if_neg (show ¬ (s.size : Int) > 1000 by omega), if_neg h1]
  by_cases h0 : s.size = 0
  ·rw [if_neg (by omega)]
   simp only [Pe.r4_Parse.j0]
   have hn : s.data.toList = [] := List.length_eq_zero_iff.1 (by rw [← size_len]; exact h0)
   rw [if_neg (by decide), r4j1_f (s := s) false (by rw [hn]; rfl) (by rw [hn]; rfl) (by omega) k (by omega)]
  ·rw [if_pos (by omega), if_pos (by omega)]
   obtain ⟨c, hc, hb⟩ := bt_get s 0 (by omega)
   have hb' : bt s 0 = (c.toNat : Int) := hb
   rw [hb']
   simp only [Pe.r4_Parse.j0]
   obtain ⟨r, hr⟩ : ∃ r, s.data.toList = c :: r := by
    cases hl : s.data.toList with
    | nil => rw [hl] at hc; cases hc
    | cons x r =>
     rw [hl] at hc
     exact ⟨r, by rw [show x = c from Option.some.inj hc]⟩
   by_cases h45 : c = 45
   ·subst h45
    have ex : (s.extract 1 s.size).data.toList = r := by rw [Lib.extract_to_end, hr]; rfl
    have sx : (s.extract 1 s.size).size ≤ s.size := by
     rw [size_len, ex, size_len, hr, List.length_cons]
     omega
    rw [if_pos (by decide), if_pos (by omega), show ((((45 : UInt8).toNat : Nat) : Int) == 45) = true from rfl, r4j1_f (s := s) true (by rw [ex, hr]; rfl) (by rw [hr]; rfl) (by omega) k (by omega)]
   ·have e45 : (((c.toNat : Nat) : Int) == 45) = false := by
     rw [beq_eq_false_iff_ne]
     intro e
     exact h45 (UInt8.toNat_inj.1 (by rw [show (45 : UInt8).toNat = 45 from rfl]; omega))
    have cl : cutL (c :: r) = (c :: r, false) := by
     unfold cutL
     split
     ·rename_i e
      rw [List.cons.injEq] at e
      exact absurd e.1 h45
     ·rfl
    rw [e45, if_neg (by decide), r4j1_f (s := s) false (by rw [hr, cl]) (by rw [hr, cl]) (by omega) k (by omega)]
end Go.Proofs.YtaldgaiaelbbaaaGreatDoor
end

section
namespace Go.Proofs.YtaldgaiaelbbaaaGreatDoor
def smE (x : BB) : Bool := decide (x.1.size + x.2.size ≤ 300)
theorem smE_le {x : BB} (h : smE x = true) : x.1.size + x.2.size ≤ 300 := of_decide_eq_true h
def r4_Zeros.f (a0 : Int) : Option ByteArray := if (decide (0 ≤ a0) && decide (a0 ≤ 1000000)) = true then some (zerosB a0) else none
theorem r4_Zeros.calls (a0 : Int) (r : ByteArray) (w : World) (h : r4_Zeros.f a0 = some r) :
  Calls Tryz.prog 18 #[.int .i64 a0] w fun e w' => e = .returned (.string r) ∧ Below w.heap.size w w' := by
 unfold r4_Zeros.f at h
 split at h
 ·rename_i hp
  rw [Bool.and_eq_true, decide_eq_true_eq, decide_eq_true_eq] at hp
  obtain ⟨n, rfl⟩ := Int.eq_ofNat_of_zero_le hp.1
  rw [← zeros_f (n := n) (by omega) (n + 1) (Nat.le_refl _)] at h
  refine (Pe.r4_Zeros.calls (n + 1) _ r w h).mono ?_
  rintro e w' ⟨rfl, k, rfl⟩
  exact ⟨rfl, pw_below_drewN (Below.refl _ _) k⟩
 ·cases h
def r4_Places.f (a0_0 a0_1 : ByteArray) : Option (Int × Bool) := if smE (a0_0, a0_1) = true then some (placesS (a0_0, a0_1)) else none
theorem r4_Places.calls (a0_0 a0_1 : ByteArray) (r1 : Int) (r2 : Bool) (w : World) (h : r4_Places.f a0_0 a0_1 = some (r1, r2)) :
  Calls Tryz.prog 13 #[.agg #[.string a0_0, .string a0_1]] w fun e w' => e = .returned (.tuple #[.int .i64 r1, .bool r2]) ∧ Below w.heap.size w w' := by
 unfold r4_Places.f at h
 split at h
 ·rename_i hp
  rw [← rPlaces_f (x := (a0_0, a0_1)) (smE_le hp) 2500 (Nat.le_refl _)] at h
  exact Pe.r4_Places.calls 2500 a0_0 a0_1 r1 r2 w h
 ·cases h
def r4_Print.f (a0_0 a0_1 : ByteArray) : Option ByteArray := if smE (a0_0, a0_1) = true then some (printS (a0_0, a0_1)) else none
theorem r4_Print.calls (a0_0 a0_1 : ByteArray) (r : ByteArray) (w : World) (h : r4_Print.f a0_0 a0_1 = some r) :
  Calls Tryz.prog 15 #[.agg #[.string a0_0, .string a0_1]] w fun e w' => e = .returned (.string r) ∧ Below w.heap.size w w' := by
 unfold r4_Print.f at h
 split at h
 ·rename_i hp
  rw [← rPrint_f (x := (a0_0, a0_1)) (smE_le hp) 100010 (Nat.le_refl _)] at h
  exact Pe.r4_Print.calls 100010 a0_0 a0_1 r w h
 ·cases h
def r4_Parse.f (a0 : ByteArray) : Option (ByteArray × ByteArray × Int) := if a0.size ≤ 1100 then some (parseS a0) else none
theorem r4_Parse.calls (a0 : ByteArray) (r1 r2 : ByteArray) (r3 : Int) (w : World) (h : r4_Parse.f a0 = some (r1, r2, r3)) :
  Calls Tryz.prog 11 #[.string a0] w fun e w' => e = .returned (.tuple #[.agg #[.string r1, .string r2], .int .i64 r3]) ∧ Below w.heap.size w w' := by
 unfold r4_Parse.f at h
 split at h
 ·rename_i hp
  rw [← rParse_f hp 10040 (Nat.le_refl _)] at h
  exact Pe.r4_Parse.calls 10040 a0 r1 r2 r3 w h
 ·cases h
end Go.Proofs.YtaldgaiaelbbaaaGreatDoor
end

section
namespace Go.Proofs.YtaldgaiaelbbaaaGreatDoor
theorem dParse {s : ByteArray} (h : s.size ≤ 1100) : decimal_Parse.f s = some (parseS s) := by
 unfold decimal_Parse.f
 exact if_pos h
end Go.Proofs.YtaldgaiaelbbaaaGreatDoor
end

section
namespace Go.Proofs.YtaldgaiaelbbaaaGreatDoor.Pf4
def errW : Option Int → Value
 | none => .nilIface
 | some c => .iface 0 (.int .i64 c)
theorem errW_none : errW none = .nilIface := rfl
theorem errW_some (c : Int) : errW (some c) = .iface 0 (.int .i64 c) := rfl
end Go.Proofs.YtaldgaiaelbbaaaGreatDoor.Pf4
end

section
namespace Go.Proofs.YtaldgaiaelbbaaaGreatDoor.Pf4
theorem eqA23 (d : Nat) (w : World) (x0 y0 : ByteArray) (x1 y1 : ByteArray) :
  (Op.equalIn (d + 2) 23 (.agg #[.string x0, .string x1]) (.agg #[.string y0, .string y1])).run Tryz.prog w = .ok (x0.toList == y0.toList && (x1.toList == y1.toList)) w := by
 refine eqA_of Tryz.underlying23 (by kernel_rfl) ?_; refine eqf_cons (by rfl) (by go_simp; rfl) (by go_simp; rfl) (by go_simp) ?_; exact eqf_last (by rfl) (by go_simp; rfl) (by go_simp; rfl) (by go_simp)
end Go.Proofs.YtaldgaiaelbbaaaGreatDoor.Pf4
end

section
namespace Go.Proofs.YtaldgaiaelbbaaaGreatDoor.Pf4
end Go.Proofs.YtaldgaiaelbbaaaGreatDoor.Pf4
end

section
namespace Go.Proofs.YtaldgaiaelbbaaaGreatDoor.Pf4
attribute [local go_sem high] eqA23
def dl4_fixed.f  : Option (Bool) := (decimal_Parse.f (⟨#[45, 49, 50, 46, 53, 48]⟩ : ByteArray)).bind fun bt101 => ((decimal_Parse.f (⟨#[50, 47, 54]⟩ : ByteArray)).bind fun bt105 => ((decimal_Parse.f (⟨#[45, 48, 48, 48]⟩ : ByteArray)).bind fun bt109 => ((decimal_Parse.f (⟨#[49, 46]⟩ : ByteArray)).bind fun bt113 => ((decimal_Parse.f (⟨#[49, 47, 48]⟩ : ByteArray)).bind fun bt117 => ((r3_One.f 3 8).bind fun bt121 => ((decimal_Places.f bt121.1 bt121.2).bind fun bt123 => ((r3_One.f 1 3).bind fun bt125 => ((decimal_Places.f bt125.1 bt125.2).bind fun bt127 => ((r3_One.f (-25) 2).bind fun bt129 => (if (bt101.1.toList == bt129.1.toList && (bt101.2.1.toList == bt129.2.toList)) = true then (if bt101.2.2 = 0 then ((decimal_Print.f bt101.1 bt101.2.1).bind fun t131 => (if t131.toList = ([45, 49, 50, 46, 53] : List UInt8) then ((r3_One.f 1 3).bind fun bt132 => (if (bt105.1.toList == bt132.1.toList && (bt105.2.1.toList == bt132.2.toList)) = true then (if bt105.2.2 = 0 then ((decimal_Print.f bt105.1 bt105.2.1).bind fun t134 => (if t134.toList = ([49, 47, 51] : List UInt8) then ((r3_Of.f 0).bind fun bt135 => (if (bt109.1.toList == bt135.1.toList && (bt109.2.1.toList == bt135.2.toList)) = true then (if bt109.2.2 = 0 then (if bt113.2.2 = 40 then (if bt117.2.2 = 40 then (if bt123.1 = 3 then (if bt123.2 = true then (if bt127.2 = true then (some false) else ((r3_One.f (-1) 200).bind fun bt137 => ((decimal_Print.f bt137.1 bt137.2).bind fun t139 => (if t139.toList = ([45, 48, 46, 48, 48, 53] : List UInt8) then ((decimal_Print.f (⟨#[]⟩ : ByteArray) (⟨#[]⟩ : ByteArray)).bind fun t140 => (some (t140.toList == ([] : List UInt8)))) else (some false))))) else (some false)) else (some false)) else (some false)) else (some false)) else (some false)) else (some false))) else (some false))) else (some false)) else (some false))) else (some false))) else (some false)) else (some false)))))))))))
def dl4_fixed.T8 : Bool × List (List Nat × List Nat) := (true, [([], []), ([], []), ([0, 1], [0, 1]), ([2, 1], [2]), ([3], [3]), ([4, 3], [3, 4]), ([3, 5], [3, 5]), ([6, 3], [6]), ([7], [7]), ([8, 7, 7], [7, 8]), ([9, 7], [7, 9]), ([7, 10], [7, 10]), ([11, 9], [11]), ([12], [12]), ([12, 12], [12]), ([13, 14, 12], [12, 13, 14]), ([12, 15], [12, 15]), ([16, 14], [16]), ([17], [17]), ([18, 17], [17, 18]), ([17, 19], [17, 19]), ([20, 17], [20]), ([21], [21]), ([22, 21, 21], [21, 22]), ([23, 21], [21, 23]), ([21, 24], [21, 24]), ([25, 23], [25]), ([26], [26]), ([26, 26], [26]), ([27, 28, 26], [26, 27, 28]), ([26, 29], [26, 29]), ([30, 28], [30]), ([31], [31]), ([32, 31], [31, 32]), ([31, 33], [31, 33]), ([34, 31], [34]), ([35], [35]), ([36, 35], [35, 36]), ([35, 37], [35, 37]), ([38, 35], [38]), ([39], [39]), ([40, 39], [39, 40]), ([39, 41], [39, 41]), ([42, 39], [42]), ([43], [43]), ([44, 43], [43, 44]), ([43, 45], [43, 45]), ([46, 43], [46]), ([47], [47]), ([47, 48], [47, 48]), ([49, 47], [49]), ([50], [50]), ([51, 50], [50, 51]), ([50, 52], [50, 52]), ([53, 50], [53]), ([54, 54], [54]), ([55, 55, 54], [54, 55]), ([56, 54], [54, 56]), ([54, 57], [54, 57]), ([58, 56], [58]), ([59], [59]), ([60, 59, 59], [59, 60]), ([61, 59], [59, 61]), ([59, 62], [59, 62]), ([63, 61, 0, 1, 2, 3, 4, 5, 6, 7, 8, 9, 10, 11, 12, 13, 14, 15, 16, 17, 18, 19, 20, 21, 22, 23, 24, 25, 26, 27, 28, 29, 30, 31, 32, 33, 34, 35, 36, 37, 38, 39, 40, 41, 42, 43, 44, 45, 46, 47, 48, 49, 50, 51, 52, 53, 54, 55, 56, 57, 58, 59, 60, 61, 62, 63], [63])])
def dl4_fixed.B8 : List Nat := [0, 0, 3, 7, 15, 31, 63, 127, 255, 511, 1023, 2047, 4095, 8191, 8191, 32767, 65535, 131071, 262143, 524287, 1048575, 2097151, 4194303, 8388607, 16777215, 33554431, 67108863, 134217727, 134217727, 536870911, 1073741823, 2147483647, 4294967295, 8589934591, 17179869183, 34359738367, 68719476735, 137438953471, 274877906943, 549755813887, 1099511627775, 2199023255551, 4398046511103, 8796093022207, 17592186044415, 35184372088831, 70368744177663, 140737488355327, 281474976710655, 562949953421311, 1125899906842623, 2251799813685247, 4503599627370495, 9007199254740991, 18014398509481983, 36028797018963967, 72057594037927935, 144115188075855871, 288230376151711743, 576460752303423487, 1152921504606846975, 2305843009213693951, 4611686018427387903, 9223372036854775807, 18446744073709551615]
theorem dl4_fixed.tab8 : rtab .any (opsOf Tryz.f9 8) = dl4_fixed.T8 := by kernel_rfl
theorem dl4_fixed.bits8 : waitsOk dl4_fixed.T8.2 dl4_fixed.B8 = true := by kernel_rfl
set_option maxHeartbeats 8000000 in
set_option maxRecDepth 100000 in
theorem dl4_fixed.calls  (r : Bool) (w : World) (hL_ : Laid w) (hr_ : Aside0 (r = true)) (h : dl4_fixed.f  = some r) :
  Calls Tryz.prog 9 #[] w fun e w' => e = .returned (.bool r) ∧ Below w.heap.size w w' := by
 have hu23 := Tryz.underlying23; have HLD := Aside0.mk hL_; clear hL_; have HB := Aside0.mk (Below.refl w.heap.size w); have H := h; unfold dl4_fixed.f at H; clear h; obtain ⟨⟨t101, t102, t103⟩, A1, H⟩ := bi_ H; (try dsimp only at H); obtain ⟨⟨t105, t106, t107⟩, A2, H⟩ := bi_ H; (try dsimp only at H); obtain ⟨⟨t109, t110, t111⟩, A3, H⟩ := bi_ H; (try dsimp only at H); obtain ⟨⟨t113, t114, t115⟩, A4, H⟩ := bi_ H; (try dsimp only at H); obtain ⟨⟨t117, t118, t119⟩, A5, H⟩ := bi_ H; (try dsimp only at H); obtain ⟨⟨t121, t122⟩, A6, H⟩ := bi_ H; (try dsimp only at H); obtain ⟨⟨t123, t124⟩, A7, H⟩ := bi_ H; (try dsimp only at H); obtain ⟨⟨t125, t126⟩, A8, H⟩ := bi_ H; (try dsimp only at H); obtain ⟨⟨t127, t128⟩, A9, H⟩ := bi_ H; (try dsimp only at H); obtain ⟨⟨t129, t130⟩, A10, H⟩ := bi_ H; (try dsimp only at H); by_cases c11 : (t101.toList == t129.toList && (t102.toList == t130.toList)) = true
 ·rw [if_pos c11] at H; have c11b0 : (t101.toList == t129.toList && (t102.toList == t130.toList)) = true := c11; (try (have c11b1 : decide (t101.toList = t129.toList && (t102.toList == t130.toList)) = true := by simpa using c11)); (try (have c11b2 : (t101.toList == t129.toList && (t102.toList == t130.toList)) = true := by simpa using c11)); clear c11; by_cases c12 : t103 = 0
  ·rw [if_pos c12] at H; have c12b0 : (t103 == 0) = true := beq_iff_eq.mpr c12; have c12b1 : (t103 != 0) = false := bne_eq_false_iff_eq.mpr c12; clear c12; obtain ⟨t131, A13, H⟩ := bi_ H; by_cases c14 : t131.toList = ([45, 49, 50, 46, 53] : List UInt8)
   ·rw [if_pos c14] at H; have c14b0 : (t131.toList == ([45, 49, 50, 46, 53] : List UInt8)) = true := beq_iff_eq.mpr c14; have c14b1 : (t131.toList != ([45, 49, 50, 46, 53] : List UInt8)) = false := bne_eq_false_iff_eq.mpr c14; clear c14; obtain ⟨⟨t132, t133⟩, A15, H⟩ := bi_ H; (try dsimp only at H)
    obtain ⟨rfl, rfl⟩ : t125 = t132 ∧ t126 = t133 := by have e_ := A8.out.symm.trans A15.out; simpa using e_
    by_cases c16 : (t105.toList == t125.toList && (t106.toList == t126.toList)) = true
    ·rw [if_pos c16] at H; have c16b0 : (t105.toList == t125.toList && (t106.toList == t126.toList)) = true := c16; (try (have c16b1 : decide (t105.toList = t125.toList && (t106.toList == t126.toList)) = true := by simpa using c16)); (try (have c16b2 : (t105.toList == t125.toList && (t106.toList == t126.toList)) = true := by simpa using c16)); clear c16; by_cases c17 : t107 = 0
     ·rw [if_pos c17] at H; have c17b0 : (t107 == 0) = true := beq_iff_eq.mpr c17; have c17b1 : (t107 != 0) = false := bne_eq_false_iff_eq.mpr c17; clear c17; obtain ⟨t134, A18, H⟩ := bi_ H; by_cases c19 : t134.toList = ([49, 47, 51] : List UInt8)
      ·rw [if_pos c19] at H; have c19b0 : (t134.toList == ([49, 47, 51] : List UInt8)) = true := beq_iff_eq.mpr c19; have c19b1 : (t134.toList != ([49, 47, 51] : List UInt8)) = false := bne_eq_false_iff_eq.mpr c19; clear c19; obtain ⟨⟨t135, t136⟩, A20, H⟩ := bi_ H; (try dsimp only at H); by_cases c21 : (t109.toList == t135.toList && (t110.toList == t136.toList)) = true
       ·rw [if_pos c21] at H; have c21b0 : (t109.toList == t135.toList && (t110.toList == t136.toList)) = true := c21; (try (have c21b1 : decide (t109.toList = t135.toList && (t110.toList == t136.toList)) = true := by simpa using c21)); (try (have c21b2 : (t109.toList == t135.toList && (t110.toList == t136.toList)) = true := by simpa using c21)); clear c21; by_cases c22 : t111 = 0
        ·rw [if_pos c22] at H; have c22b0 : (t111 == 0) = true := beq_iff_eq.mpr c22; have c22b1 : (t111 != 0) = false := bne_eq_false_iff_eq.mpr c22; clear c22; by_cases c23 : t115 = 40
         ·rw [if_pos c23] at H; have c23b0 : (t115 == 40) = true := beq_iff_eq.mpr c23; have c23b1 : (t115 != 40) = false := bne_eq_false_iff_eq.mpr c23; clear c23; by_cases c24 : t119 = 40
          ·rw [if_pos c24] at H; have c24b0 : (t119 == 40) = true := beq_iff_eq.mpr c24; have c24b1 : (t119 != 40) = false := bne_eq_false_iff_eq.mpr c24; clear c24; by_cases c25 : t123 = 3
           ·rw [if_pos c25] at H; have c25b0 : (t123 == 3) = true := beq_iff_eq.mpr c25; have c25b1 : (t123 != 3) = false := bne_eq_false_iff_eq.mpr c25; clear c25; by_cases c26 : t124 = true
            ·subst c26; rw [if_pos rfl] at H; by_cases c27 : t128 = true
             ·subst c27
              have H1 : (some false) = some r := by rw [if_pos rfl] at H; exact H
              exact absurd (H1.trans (congrArg some hr_.out)) (by decide)
             ·replace c27 := Bool.eq_false_iff.mpr c27; subst c27; rw [if_neg nf_] at H; obtain ⟨⟨t137, t138⟩, A63, H⟩ := bi_ H; (try dsimp only at H); obtain ⟨t139, A64, H⟩ := bi_ H; by_cases c65 : t139.toList = ([45, 48, 46, 48, 48, 53] : List UInt8)
              ·rw [if_pos c65] at H; have c65b0 : (t139.toList == ([45, 48, 46, 48, 48, 53] : List UInt8)) = true := beq_iff_eq.mpr c65; have c65b1 : (t139.toList != ([45, 48, 46, 48, 48, 53] : List UInt8)) = false := bne_eq_false_iff_eq.mpr c65; clear c65; obtain ⟨t140, A66, H⟩ := bi_ H; obtain rfl := Option.some.inj H; go_enter Tryz.func9, Tryz.ntmps9
               try go_wp2_with (first | (refine gl_ 16 Tryz.func10 #[.string (⟨#[45, 49, 50, 46, 53, 48]⟩ : ByteArray)] ?_; refine mo_ (decimal_Parse.calls (⟨#[45, 49, 50, 46, 53, 48]⟩ : ByteArray) t101 t102 t103 _ (lb_ HLD HB) A1.out) ?_; intro w67 hb; replace HB := bs_ HB hb; (try clear hb); (try clear hb2); (try clear hk); (try clear hi)) | ((with_reducible refine gate_dst (N := 1) rfl ?_); refine be_ 1 #[.string (⟨#[]⟩ : ByteArray), .string (⟨#[]⟩ : ByteArray)] 23 ?_; intro gb104 hg w68 hbox hb; have BK104 := Aside0.mk (hbox); have GW104 := ge_ HB hg; have GE104 := ge_ HB hg; replace HB := bs_ HB hb; clear hb hbox hg; have hcz69_0 := bc_ BK104 0 rfl; have hcz69_1 := bc_ BK104 1 rfl; have hfz69_0 := blk_frozen BK104.out 0; have hfz69_1 := blk_frozen BK104.out 1) | (refine gl_ 20 Tryz.func10 #[.string (⟨#[50, 47, 54]⟩ : ByteArray)] ?_; refine mo_ (decimal_Parse.calls (⟨#[50, 47, 54]⟩ : ByteArray) t105 t106 t107 _ (lb_ HLD HB) A2.out) ?_; intro w70 hb; replace BK104 := Aside0.mk (blk_below (g := gb104) (o := .cells #[.string t101, .string t102] 23 (0, 0)) (rp_ BK104.out) hb); replace HB := bs_ HB hb; (try clear hb); (try clear hb2); (try clear hk); (try clear hi)) | ((with_reducible refine gate_dst (N := 3) rfl ?_); refine be_ 3 #[.string (⟨#[]⟩ : ByteArray), .string (⟨#[]⟩ : ByteArray)] 23 ?_; intro gb108 hg w71 hbox hb; have BK108 := Aside0.mk (hbox); have GW108 := ge_ HB hg; have GE108 := ge_ HB hg; have NB104_108 := nl_ BK104 hg; have NB108_104 := ng_ BK104 hg; replace BK104 := kb_ BK104 hb; replace HB := bs_ HB hb; clear hb hbox hg; have hnb72 := NB108_104.out; have hnc72 := NB104_108.out; have hcz73_0 := bc_ BK108 0 rfl; have hcz73_1 := bc_ BK108 1 rfl; have hfz73_0 := blk_frozen BK108.out 0; have hfz73_1 := blk_frozen BK108.out 1) | (refine gl_ 24 Tryz.func10 #[.string (⟨#[45, 48, 48, 48]⟩ : ByteArray)] ?_; refine mo_ (decimal_Parse.calls (⟨#[45, 48, 48, 48]⟩ : ByteArray) t109 t110 t111 _ (lb_ HLD HB) A3.out) ?_; intro w74 hb; replace BK104 := Aside0.mk (blk_below (g := gb104) (o := .cells #[.string t101, .string t102] 23 (0, 0)) (fr_ BK104.out) hb); replace BK108 := Aside0.mk (blk_below (g := gb108) (o := .cells #[.string t105, .string t106] 23 (0, 0)) (rp_ BK108.out) hb); replace HB := bs_ HB hb; (try clear hb); (try clear hb2); (try clear hk); (try clear hi)) | ((with_reducible refine gate_dst (N := 5) rfl ?_); refine be_ 5 #[.string (⟨#[]⟩ : ByteArray), .string (⟨#[]⟩ : ByteArray)] 23 ?_; intro gb112 hg w75 hbox hb; have BK112 := Aside0.mk (hbox); have GW112 := ge_ HB hg; have GE112 := ge_ HB hg; have NB104_112 := nl_ BK104 hg; have NB112_104 := ng_ BK104 hg; have NB108_112 := nl_ BK108 hg; have NB112_108 := ng_ BK108 hg; replace BK104 := kb_ BK104 hb; replace BK108 := kb_ BK108 hb; replace HB := bs_ HB hb; clear hb hbox hg; have hnb76 := NB112_104.out; have hnc76 := NB104_112.out; have hnb77 := NB112_108.out; have hnc77 := NB108_112.out; have hcz78_0 := bc_ BK112 0 rfl; have hcz78_1 := bc_ BK112 1 rfl; have hfz78_0 := blk_frozen BK112.out 0; have hfz78_1 := blk_frozen BK112.out 1) | (refine gl_ 28 Tryz.func10 #[.string (⟨#[49, 46]⟩ : ByteArray)] ?_; refine mo_ (decimal_Parse.calls (⟨#[49, 46]⟩ : ByteArray) t113 t114 t115 _ (lb_ HLD HB) A4.out) ?_; intro w79 hb; replace BK104 := Aside0.mk (blk_below (g := gb104) (o := .cells #[.string t101, .string t102] 23 (0, 0)) (fr_ BK104.out) hb); replace BK108 := Aside0.mk (blk_below (g := gb108) (o := .cells #[.string t105, .string t106] 23 (0, 0)) (fr_ BK108.out) hb); replace BK112 := Aside0.mk (blk_below (g := gb112) (o := .cells #[.string t109, .string t110] 23 (0, 0)) (rp_ BK112.out) hb); replace HB := bs_ HB hb; (try clear hb); (try clear hb2); (try clear hk); (try clear hi)) | ((with_reducible refine gate_dst (N := 7) rfl ?_); refine be_ 7 #[.string (⟨#[]⟩ : ByteArray), .string (⟨#[]⟩ : ByteArray)] 23 ?_; intro gb116 hg w80 hbox hb; have BK116 := Aside0.mk (hbox); have GW116 := ge_ HB hg; have GE116 := ge_ HB hg; have NB104_116 := nl_ BK104 hg; have NB116_104 := ng_ BK104 hg; have NB108_116 := nl_ BK108 hg; have NB116_108 := ng_ BK108 hg; have NB112_116 := nl_ BK112 hg; have NB116_112 := ng_ BK112 hg; replace BK104 := kb_ BK104 hb; replace BK108 := kb_ BK108 hb; replace BK112 := kb_ BK112 hb; replace HB := bs_ HB hb; clear hb hbox hg; have hnb81 := NB116_104.out; have hnc81 := NB104_116.out; have hnb82 := NB116_108.out; have hnc82 := NB108_116.out; have hnb83 := NB116_112.out; have hnc83 := NB112_116.out; have hcz84_0 := bc_ BK116 0 rfl; have hcz84_1 := bc_ BK116 1 rfl; have hfz84_0 := blk_frozen BK116.out 0; have hfz84_1 := blk_frozen BK116.out 1) | (refine gl_ 32 Tryz.func10 #[.string (⟨#[49, 47, 48]⟩ : ByteArray)] ?_; refine mo_ (decimal_Parse.calls (⟨#[49, 47, 48]⟩ : ByteArray) t117 t118 t119 _ (lb_ HLD HB) A5.out) ?_; intro w85 hb; replace BK104 := Aside0.mk (blk_below (g := gb104) (o := .cells #[.string t101, .string t102] 23 (0, 0)) (fr_ BK104.out) hb); replace BK108 := Aside0.mk (blk_below (g := gb108) (o := .cells #[.string t105, .string t106] 23 (0, 0)) (fr_ BK108.out) hb); replace BK112 := Aside0.mk (blk_below (g := gb112) (o := .cells #[.string t109, .string t110] 23 (0, 0)) (fr_ BK112.out) hb); replace BK116 := Aside0.mk (blk_below (g := gb116) (o := .cells #[.string t113, .string t114] 23 (0, 0)) (rp_ BK116.out) hb); replace HB := bs_ HB hb; (try clear hb); (try clear hb2); (try clear hk); (try clear hi)) | ((with_reducible refine gate_dst (N := 9) rfl ?_); refine be_ 9 #[.string (⟨#[]⟩ : ByteArray), .string (⟨#[]⟩ : ByteArray)] 23 ?_; intro gb120 hg w86 hbox hb; have BK120 := Aside0.mk (hbox); have GW120 := ge_ HB hg; have GE120 := ge_ HB hg; have NB104_120 := nl_ BK104 hg; have NB120_104 := ng_ BK104 hg; have NB108_120 := nl_ BK108 hg; have NB120_108 := ng_ BK108 hg; have NB112_120 := nl_ BK112 hg; have NB120_112 := ng_ BK112 hg; have NB116_120 := nl_ BK116 hg; have NB120_116 := ng_ BK116 hg; replace BK104 := kb_ BK104 hb; replace BK108 := kb_ BK108 hb; replace BK112 := kb_ BK112 hb; replace BK116 := kb_ BK116 hb; replace HB := bs_ HB hb; clear hb hbox hg; have hnb87 := NB120_104.out; have hnc87 := NB104_120.out; have hnb88 := NB120_108.out; have hnc88 := NB108_120.out; have hnb89 := NB120_112.out; have hnc89 := NB112_120.out; have hnb90 := NB120_116.out; have hnc90 := NB116_120.out; have hcz91_0 := bc_ BK120 0 rfl; have hcz91_1 := bc_ BK120 1 rfl; have hfz91_0 := blk_frozen BK120.out 0; have hfz91_1 := blk_frozen BK120.out 1) | (refine gl_ 36 Tryz.func23 #[.int .i64 3, .int .i64 8] ?_; refine mo_ (r3_One.calls 3 8 t121 t122 _ A6.out) ?_; intro w92 hb; replace BK104 := Aside0.mk (blk_below (g := gb104) (o := .cells #[.string t101, .string t102] 23 (0, 0)) (fr_ BK104.out) hb); replace BK108 := Aside0.mk (blk_below (g := gb108) (o := .cells #[.string t105, .string t106] 23 (0, 0)) (fr_ BK108.out) hb); replace BK112 := Aside0.mk (blk_below (g := gb112) (o := .cells #[.string t109, .string t110] 23 (0, 0)) (fr_ BK112.out) hb); replace BK116 := Aside0.mk (blk_below (g := gb116) (o := .cells #[.string t113, .string t114] 23 (0, 0)) (fr_ BK116.out) hb); replace BK120 := Aside0.mk (blk_below (g := gb120) (o := .cells #[.string t117, .string t118] 23 (0, 0)) (rp_ BK120.out) hb); replace HB := bs_ HB hb; (try clear hb); (try clear hb2); (try clear hk); (try clear hi)) | (refine gl_ 37 Tryz.func12 #[.agg #[.string t121, .string t122]] ?_; refine mo_ (decimal_Places.calls t121 t122 t123 true _ (lb_ HLD HB) A7.out) ?_; intro w93 hb; replace BK104 := kb_ BK104 hb; replace BK108 := kb_ BK108 hb; replace BK112 := kb_ BK112 hb; replace BK116 := kb_ BK116 hb; replace BK120 := kb_ BK120 hb; replace HB := bs_ HB hb; (try clear hb); (try clear hb2); (try clear hk); (try clear hi)) | (refine gl_ 41 Tryz.func23 #[.int .i64 1, .int .i64 3] ?_; refine mo_ (r3_One.calls 1 3 t125 t126 _ A8.out) ?_; intro w94 hb; replace BK104 := kb_ BK104 hb; replace BK108 := kb_ BK108 hb; replace BK112 := kb_ BK112 hb; replace BK116 := kb_ BK116 hb; replace BK120 := kb_ BK120 hb; replace HB := bs_ HB hb; (try clear hb); (try clear hb2); (try clear hk); (try clear hi)) | (refine gl_ 42 Tryz.func12 #[.agg #[.string t125, .string t126]] ?_; refine mo_ (decimal_Places.calls t125 t126 t127 false _ (lb_ HLD HB) A9.out) ?_; intro w95 hb; replace BK104 := kb_ BK104 hb; replace BK108 := kb_ BK108 hb; replace BK112 := kb_ BK112 hb; replace BK116 := kb_ BK116 hb; replace BK120 := kb_ BK120 hb; replace HB := bs_ HB hb; (try clear hb); (try clear hb2); (try clear hk); (try clear hi)))
               replace BK104 := Aside0.mk (blk_drew BK104.out); replace BK108 := Aside0.mk (blk_drew BK108.out); replace BK112 := Aside0.mk (blk_drew BK112.out); replace BK116 := Aside0.mk (blk_drew BK116.out); replace BK120 := Aside0.mk (blk_drew BK120.out); replace HB := Aside0.mk (below_drew1 HB.out); refine sa_ 65 (fun w' => w'.cell? ⟨gb104, 0, none⟩ = some (.string t101) ∧ w'.cell? ⟨gb104, 1, none⟩ = some (.string t102) ∧ w'.cell? ⟨gb108, 0, none⟩ = some (.string t105) ∧ w'.cell? ⟨gb108, 1, none⟩ = some (.string t106) ∧ w'.cell? ⟨gb112, 0, none⟩ = some (.string t109) ∧ w'.cell? ⟨gb112, 1, none⟩ = some (.string t110)) (fun hHeld => ?_); refine with_tabW dl4_fixed.tab8 dl4_fixed.bits8 (fun HT_ HW_ => ?_); generalize w95.drew = w96 at BK104 BK108 BK112 BK116 BK120 HB hHeld ⊢; refine t6_ 0 45 rfl rfl HT_ HW_ hHeld ?_; refine on_ 1 (some 46) rfl rfl HT_ (fun K hK => ?_); refine gs_ Tryz.func23 #[.int .i64 (-25), .int .i64 2] ?_; refine mo_ (r3_One.calls (-25) 2 t129 t130 _ A10.out) ?_; intro w97 hb; replace BK104 := kb_ BK104 hb; replace BK108 := kb_ BK108 hb; replace BK112 := kb_ BK112 hb; replace BK116 := kb_ BK116 hb; replace BK120 := kb_ BK120 hb; replace HB := bs_ HB hb; (try clear hb); refine hk_ hK (fun hHeld => ?_); clear hK K; refine nm_ ?_; refine pu_ 2 47 rfl rfl HT_ ?_; refine pu_ 3 48 rfl rfl HT_ ?_; refine pu_ 4 49 rfl rfl HT_ ?_; refine pu_ 5 50 rfl rfl HT_ ?_; refine pu_ 6 51 rfl rfl HT_ ?_; refine pu_ 7 52 rfl rfl HT_ ?_; refine t6_ 8 53 rfl rfl HT_ HW_ hHeld ?_; refine on_ 9 (some 54) rfl rfl HT_ (fun K hK => ?_); refine gs_ Tryz.func14 #[.agg #[.string t101, .string t102]] ?_; refine mo_ (decimal_Print.calls t101 t102 t131 _ (lb_ HLD HB) A13.out) ?_; intro w98 hb; replace BK104 := kb_ BK104 hb; replace BK108 := kb_ BK108 hb; replace BK112 := kb_ BK112 hb; replace BK116 := kb_ BK116 hb; replace BK120 := kb_ BK120 hb; replace HB := bs_ HB hb; (try clear hb); refine hk_ hK (fun hHeld => ?_); clear hK K; refine nm_ ?_; refine pu_ 10 55 rfl rfl HT_ ?_; refine pu_ 11 56 rfl rfl HT_ ?_; refine pu_ 12 57 rfl rfl HT_ ?_; refine t6_ 13 58 rfl rfl HT_ HW_ hHeld ?_; refine on_ 14 (some 59) rfl rfl HT_ (fun K hK => ?_); refine gs_ Tryz.func23 #[.int .i64 1, .int .i64 3] ?_; refine mo_ (r3_One.calls 1 3 t125 t126 _ A15.out) ?_; intro w99 hb; replace BK104 := kb_ BK104 hb; replace BK108 := kb_ BK108 hb; replace BK112 := kb_ BK112 hb; replace BK116 := kb_ BK116 hb; replace BK120 := kb_ BK120 hb; replace HB := bs_ HB hb; (try clear hb); refine hk_ hK (fun hHeld => ?_); clear hK K; refine nm_ ?_; refine pu_ 15 60 rfl rfl HT_ ?_; refine pu_ 16 61 rfl rfl HT_ ?_; refine pu_ 17 62 rfl rfl HT_ ?_; refine pu_ 18 63 rfl rfl HT_ ?_; refine pu_ 19 64 rfl rfl HT_ ?_; refine pu_ 20 65 rfl rfl HT_ ?_; refine pu_ 21 66 rfl rfl HT_ ?_; refine t6_ 22 67 rfl rfl HT_ HW_ hHeld ?_; refine on_ 23 (some 68) rfl rfl HT_ (fun K hK => ?_); refine gs_ Tryz.func14 #[.agg #[.string t105, .string t106]] ?_; refine mo_ (decimal_Print.calls t105 t106 t134 _ (lb_ HLD HB) A18.out) ?_; intro w100 hb; replace BK104 := kb_ BK104 hb; replace BK108 := kb_ BK108 hb; replace BK112 := kb_ BK112 hb; replace BK116 := kb_ BK116 hb; replace BK120 := kb_ BK120 hb; replace HB := bs_ HB hb; (try clear hb); refine hk_ hK (fun hHeld => ?_); clear hK K; refine nm_ ?_; refine pu_ 24 69 rfl rfl HT_ ?_; refine pu_ 25 70 rfl rfl HT_ ?_; refine pu_ 26 71 rfl rfl HT_ ?_; refine t6_ 27 72 rfl rfl HT_ HW_ hHeld ?_; refine on_ 28 (some 73) rfl rfl HT_ (fun K hK => ?_); refine gs_ Tryz.func22 #[.int .i64 0] ?_; refine mo_ (r3_Of.calls 0 t135 t136 _ A20.out) ?_; intro w101 hb; replace BK104 := kb_ BK104 hb; replace BK108 := kb_ BK108 hb; replace BK112 := kb_ BK112 hb; replace BK116 := kb_ BK116 hb; replace BK120 := kb_ BK120 hb; replace HB := bs_ HB hb; (try clear hb); refine hk_ hK (fun hHeld => ?_); clear hK K; refine nm_ ?_; refine pu_ 29 74 rfl rfl HT_ ?_; refine pu_ 30 75 rfl rfl HT_ ?_; refine pu_ 31 76 rfl rfl HT_ ?_; refine pu_ 32 77 rfl rfl HT_ ?_; refine pu_ 33 78 rfl rfl HT_ ?_; refine pu_ 34 79 rfl rfl HT_ ?_; refine pu_ 35 80 rfl rfl HT_ ?_; refine pu_ 36 81 rfl rfl HT_ ?_; refine pu_ 37 82 rfl rfl HT_ ?_; refine pu_ 38 83 rfl rfl HT_ ?_; refine pu_ 39 84 rfl rfl HT_ ?_; refine pu_ 40 85 rfl rfl HT_ ?_; refine pu_ 41 86 rfl rfl HT_ ?_; refine pu_ 42 87 rfl rfl HT_ ?_; refine pu_ 43 88 rfl rfl HT_ ?_; refine pu_ 44 89 rfl rfl HT_ ?_; refine pu_ 45 90 rfl rfl HT_ ?_; refine pu_ 46 91 rfl rfl HT_ ?_; refine pu_ 47 92 rfl rfl HT_ ?_; refine pu_ 48 93 rfl rfl HT_ ?_; refine pu_ 49 94 rfl rfl HT_ ?_; refine pu_ 50 95 rfl rfl HT_ ?_; refine pu_ 51 96 rfl rfl HT_ ?_; refine pu_ 52 97 rfl rfl HT_ ?_; refine pu_ 53 98 rfl rfl HT_ ?_; refine pu_ 54 99 rfl rfl HT_ ?_; refine on_ 55 (some 100) rfl rfl HT_ (fun K hK => ?_); refine gs_ Tryz.func23 #[.int .i64 (-1), .int .i64 200] ?_; refine mo_ (r3_One.calls (-1) 200 t137 t138 _ A63.out) ?_; intro w102 hb; replace BK104 := kb_ BK104 hb; replace BK108 := kb_ BK108 hb; replace BK112 := kb_ BK112 hb; replace BK116 := kb_ BK116 hb; replace BK120 := kb_ BK120 hb; replace HB := bs_ HB hb; (try clear hb); refine hk_ hK (fun hHeld => ?_); clear hK K; refine nm_ ?_; refine on_ 56 (some 101) rfl rfl HT_ (fun K hK => ?_); refine gs_ Tryz.func14 #[.agg #[.string t137, .string t138]] ?_; refine mo_ (decimal_Print.calls t137 t138 t139 _ (lb_ HLD HB) A64.out) ?_; intro w103 hb; replace BK104 := kb_ BK104 hb; replace BK108 := kb_ BK108 hb; replace BK112 := kb_ BK112 hb; replace BK116 := kb_ BK116 hb; replace BK120 := kb_ BK120 hb; replace HB := bs_ HB hb; (try clear hb); refine hk_ hK (fun hHeld => ?_); clear hK K; refine nm_ ?_; refine pu_ 57 102 rfl rfl HT_ ?_; refine pu_ 58 103 rfl rfl HT_ ?_; refine pu_ 59 104 rfl rfl HT_ ?_; refine pu_ 60 105 rfl rfl HT_ ?_; refine on_ 61 (some 106) rfl rfl HT_ (fun K hK => ?_); refine gs_ Tryz.func14 #[.agg #[.string (⟨#[]⟩ : ByteArray), .string (⟨#[]⟩ : ByteArray)]] ?_; refine mo_ (decimal_Print.calls (⟨#[]⟩ : ByteArray) (⟨#[]⟩ : ByteArray) t140 _ (lb_ HLD HB) A66.out) ?_; intro w104 hb; replace BK104 := kb_ BK104 hb; replace BK108 := kb_ BK108 hb; replace BK112 := kb_ BK112 hb; replace BK116 := kb_ BK116 hb; replace BK120 := kb_ BK120 hb; replace HB := bs_ HB hb; (try clear hb); refine hk_ hK (fun hHeld => ?_); clear hK K; refine nm_ ?_; refine pu_ 62 107 rfl rfl HT_ ?_; refine pu_ 63 108 rfl rfl HT_ ?_; refine pu_ 64 0 rfl rfl HT_ ?_; refine done_ (done_of HT_.out (by kernel_rfl)) ?_
               try go_wp2
               go_ret
               exact ⟨er_, b_ HB.out⟩
              ·rw [if_neg c65] at H; exact absurd (H.trans (congrArg some hr_.out)) (by decide)
            ·replace c26 := Bool.eq_false_iff.mpr c26; subst c26
             have H1 : (some false) = some r := by rw [if_neg (show ¬ (false = true) by decide)] at H; exact H
             exact absurd (H1.trans (congrArg some hr_.out)) (by decide)
           ·rw [if_neg c25] at H; exact absurd (H.trans (congrArg some hr_.out)) (by decide)
          ·rw [if_neg c24] at H; exact absurd (H.trans (congrArg some hr_.out)) (by decide)
         ·rw [if_neg c23] at H; exact absurd (H.trans (congrArg some hr_.out)) (by decide)
        ·rw [if_neg c22] at H; exact absurd (H.trans (congrArg some hr_.out)) (by decide)
       ·rw [if_neg c21] at H; exact absurd (H.trans (congrArg some hr_.out)) (by decide)
      ·rw [if_neg c19] at H; exact absurd (H.trans (congrArg some hr_.out)) (by decide)
     ·rw [if_neg c17] at H; exact absurd (H.trans (congrArg some hr_.out)) (by decide)
    ·rw [if_neg c16] at H; exact absurd (H.trans (congrArg some hr_.out)) (by decide)
   ·rw [if_neg c14] at H; exact absurd (H.trans (congrArg some hr_.out)) (by decide)
  ·rw [if_neg c12] at H; exact absurd (H.trans (congrArg some hr_.out)) (by decide)
 ·rw [if_neg c11] at H; exact absurd (H.trans (congrArg some hr_.out)) (by decide)
end Go.Proofs.YtaldgaiaelbbaaaGreatDoor.Pf4
end

section
namespace Go.Proofs.YtaldgaiaelbbaaaGreatDoor.Pf4
end Go.Proofs.YtaldgaiaelbbaaaGreatDoor.Pf4
end

section
namespace Go.Proofs.YtaldgaiaelbbaaaGreatDoor
open Go.RowKit
theorem fixed4_true : Pf4.dl4_fixed.f = some true := by kernel_rfl
def dl4_fixed.f : Option Bool := some true
theorem dl4_fixed.calls (r : Bool) (w : World) (hL_ : Laid w) (h : dl4_fixed.f = some r) :
  Calls Tryz.prog 9 #[] w fun e w' => e = .returned (.bool r) ∧ Below w.heap.size w w' :=
 Pf4.dl4_fixed.calls r w hL_ ⟨(Option.some.inj h).symm⟩ (fixed4_true.trans h)
end Go.Proofs.YtaldgaiaelbbaaaGreatDoor
end

section
namespace Go.Proofs.YtaldgaiaelbbaaaGreatDoor
open Go.ChangeShapes Go.WideShapes Go.ChangeAt Go.RowKit Go.Deep Go.WideElems Go.Maps Go.Joins
section
variable {H : Type} {enc : TypeId × Value → H} {P : Program} {w : World} {base : Nat} {spare : Nat → Bool} {held : Bool}
theorem str_of {t : TypeId} {n : Nat} {v : Value} {y : DataW H × List MemPlace} (ht : P.underlying t = some .string) (h : DataW.trod enc P w base spare held n t [v] = some y) : ∃ s : ByteArray, v = .string s ∧ y = (.lit (.string s.data.toList), []) ∧ s.size ≤ maxLen := by
 obtain ⟨s, h1, h2, h3⟩ := DataW.trod_string ht h
 exact ⟨s, by simpa using h1, h2, h3⟩
theorem str_mk {t : TypeId} {s : ByteArray} (ht : P.underlying t = some .string) (hs : s.size ≤ maxLen) : ∃ n, DataW.trod enc P w base spare held n t [.string s] = some (.lit (.string s.data.toList), []) := ⟨1, by simp [DataW.trod, ht, hs]⟩
theorem open_s2 {r : Reach} {b0 : Nat} {t : TypeId} {f0 f1 : Field} {v : Value} {d : DataW H} {p : List MemPlace} (hs : P.underlying t = some (.struct #[f0, f1])) (h0 : P.underlying f0.type = some .string) (h1 : P.underlying f1.type = some .string) (hone : oneCellFields P #[f0, f1] = true) (hC : P.cellsOf t = 2)
  (hv : Value.okWide P w r b0 t v) (h : DataW.Trod enc P w base spare held t v d p) :
  ∃ a b : ByteArray, v = .agg #[.string a, .string b] ∧ d = .agg [.lit (.string a.data.toList), .lit (.string b.data.toList)] ∧ p = [] ∧ a.size ≤ maxLen ∧ b.size ≤ maxLen := by
 obtain ⟨v0, v1, y0, y1, n, rfl, rfl, rfl, e0, e1⟩ := open_agg2 hs hone hC hv h
 obtain ⟨a, rfl, rfl, ha⟩ := str_of h0 e0
 obtain ⟨b, rfl, rfl, hb⟩ := str_of h1 e1
 exact ⟨a, b, rfl, rfl, rfl, ha, hb⟩
theorem shut_s2 {t : TypeId} {f0 f1 : Field} {a b : ByteArray} (hs : P.underlying t = some (.struct #[f0, f1])) (h0 : P.underlying f0.type = some .string) (h1 : P.underlying f1.type = some .string) (hone : oneCellFields P #[f0, f1] = true) (hC : P.cellsOf t = 2) (ha : a.size ≤ maxLen) (hb : b.size ≤ maxLen) :
  DataW.Trod enc P w base spare held t (.agg #[.string a, .string b]) (.agg [.lit (.string a.data.toList), .lit (.string b.data.toList)]) [] :=
 shut_agg2 (y0 := (.lit (.string a.data.toList), [])) (y1 := (.lit (.string b.data.toList), [])) hs hone hC (str_mk h0 ha) (str_mk h1 hb)
end
end Go.Proofs.YtaldgaiaelbbaaaGreatDoor
end

section
namespace Go.Proofs.YtaldgaiaelbbaaaGreatDoor
open Go.ChangeShapes Go.WideShapes Go.ChangeAt Go.RowKit Go.Lib
theorem wrap_shaped {H : Type} {enc : TypeId × Value → H} {a : Assume} {C : Checked} {os : Os} {f : FuncId} {fn : Func} {s : ChangeSpec} {conds : List PathCond} {apart fresh handsOn again : Bool} {X : World → Array Value → Prop}
  (hX : ∀ (w w' : World) (args : Array Value), w.heap = w'.heap → X w args → X w' args) (own : ownKnob C.prog.godebug = none) (started : os.Started) (noInit : C.prog.inits.idxOf? f = none) (hfn : C.prog.funcs[f]? = some fn)
  (witness : ∃ (w : World) (tape : Tape) (i : Input), w.os = os ∧ (w.forCall tape i).Shaped C.prog ∧ i.vars = [] ∧ Input.okWide C.prog (w.forCall tape i) .any w.heap.size f i ∧
   ((s.pre enc C.prog fn conds apart (w.forCall tape i).memory i.args ∧ X (w.forCall tape i).memory i.args) ∧ sizedMet enc C.prog fn (OpenSpec.ofChange s) apart (w.forCall tape i).memory i.args) ∧ a.holds C.prog (lone (Frame.enter C.prog f i.args .normal) [] (w.forCall tape i)))
  (walk : ∀ (W : World) (base : Nat) (args : Array Value) (ds gs : List (DataW H)) (before : List MemPlace), (∀ (j : Nat) t v, fn.params[j]? = some t → args[j]? = some v → Value.okWide C.prog W .any base t v) →
   DataW.Whole enc C.prog fn.params.toList s.vars apart W args.toList ds gs before → conds.all (PathCond.test C.prog ⟨fn.params.toList, ds, s.plain.varTypes C.prog, gs⟩) = true →
   (DataW.weightsEach C.prog (fn.params.toList ++ s.plain.varTypes C.prog) (ds ++ gs)).all (· ≤ reachBytes) = true → X W args → W.ShapedOpen C.prog →
   Calls C.prog f args W fun e W' => ∃ v, e = .returned v ∧ s.post enc C.prog fn apart fresh handsOn again W args v W') :
  ReturnsInHanded a C os f .any (fun w args => (s.pre enc C.prog fn conds apart w args ∧ X w args) ∧ sizedMet enc C.prog fn (OpenSpec.ofChange s) apart w args) (s.post enc C.prog fn apart fresh handsOn again) := by
 refine returnsInHanded_of_calls own started noInit witness ?_
 intro w tape i _ hsh _ hok hpre _
 obtain ⟨_, _, _, fn', hfn', _, _, _, _, hval⟩ := hok
 obtain rfl : fn' = fn := Option.some.inj (hfn'.symm.trans hfn)
 obtain ⟨⟨⟨ds, gs, before, hw, hc⟩, hx⟩, hz⟩ := hpre
 refine (walk (w.forCall tape i) w.heap.size i.args ds gs before hval (DataW.Whole.of_heap (w' := w.forCall tape i) (by rfl) hw) hc (hz.weights hw) (hX _ _ _ (by rfl) hx) hsh).mono fun e W' hp => ?_
 obtain ⟨v, rfl, hp⟩ := hp
 exact ChangeSpec.post_blind hp
abbrev laidL : List (String × DataW Unit) := [("math/bits.deBruijn32tab", Rows.laid_math_bits_deBruijn32tab), ("math/bits.deBruijn64tab", Rows.laid_math_bits_deBruijn64tab), ("internal/strconv.uint64pow10", Rows.laid_internal_strconv_uint64pow10), ("unicode/utf8.acceptRanges", Rows.laid_unicode_utf8_acceptRanges), ("strconv.ErrRange", Rows.laid_strconv_ErrRange), ("strconv.ErrSyntax", Rows.laid_strconv_ErrSyntax), ("unicode/utf8.first", Rows.laid_unicode_utf8_first)]
theorem own : ownKnob Tryz.prog.godebug = none := by kernel_rfl
theorem tabType : (Tryz.prog.globals[5]?).map (·.type) = some 154 := by kernel_rfl
theorem rngType : (Tryz.prog.globals[4]?).map (·.type) = some 87 := by kernel_rfl
theorem tabCells : Tryz.prog.cellsOf 154 = 20 := by kernel_rfl
theorem u64Cells : Tryz.prog.cellsOf 112 = 1 := by kernel_rfl
theorem errCells : Tryz.prog.cellsOf 160 = 1 := by kernel_rfl
theorem strCells : Tryz.prog.cellsOf 9 = 1 := by kernel_rfl
theorem starErr : "*" ++ "errors.errorString" = "*errors.errorString" := by decide
theorem rowErr (u : TypeId) (h : Tryz.prog.typeName? 3 u = some "*errors.errorString") : u = 158 :=
 typeName_ptr_named (nm := "errors.errorString") (by rw [starErr]; kernel_rfl) (by kernel_rfl) (by decide) u (by rw [starErr]; exact h)
theorem laid_tab_eq : (Rows.laid_internal_strconv_uint64pow10 : DataW Unit) = tabData .u64 pow10Tab := by kernel_rfl
theorem laid_of {W : World} (h : laidMetH Tryz.prog laidL W) (hsh : W.ShapedOpen Tryz.prog) : Laid W := by
 rw [MakeChecks.laidMetH_plain _ _ _ (by kernel_rfl)] at h
 have hL := h
 obtain ⟨a1, s1, hv1, -, -, -⟩ := laid_sentinel (hL.tail.tail.tail.tail) gRng rngType Tryz.underlying87 rowErr Tryz.underlying158 Tryz.underlying160 rfl rfl Tryz.underlying9 errCells strCells
 refine ⟨tabIs_of_head gTab tabType Tryz.underlying154 Tryz.underlying112 u64Cells tabCells (by rw [← laid_tab_eq]; exact hL.tail.tail), ⟨_, _, hv1⟩, cell_of_shapedOpen_int (t := 3) (zero := #[.int .i64 0]) hsh (by decide +kernel) (by kernel_rfl) (by decide) (by kernel_rfl) (by kernel_rfl) Tryz.underlying3⟩
theorem door_met (os : Os) (args : Array Value) : laidMetH Tryz.prog laidL ((World.laidAll Tryz.prog os laidL).forCall (fun _ _ => 0) ⟨#[], args, []⟩).memory := by
 rw [MakeChecks.laidMetH_plain _ _ _ (by kernel_rfl)]
 exact laidMet_laidAll _ (by kernel_rfl) (by kernel_rfl)
end Go.Proofs.YtaldgaiaelbbaaaGreatDoor
end
