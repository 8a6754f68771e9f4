/-
Parts of the proof, in build order: WholeApi, WholeDone, Px0, Px1, Px, Ref2May, NumW, Pf0, Pf1, Pf, Fixed2, Rowb.
-/
import Derived.Test.YtmkmldkfaehefaaDoorC4
import Derived.Test.YtmkmldkfaehefaaDoorC5
import Derived.Test.YtmkmldkfaehefaaDoorProg
import Derived.Below
import Derived.Deep.Draws
import Derived.Deep.AppendLies
import Derived.Maps.AppendAt
import Derived.OwnWalk
import Derived.Laws.BytesArg
import Derived.Laws.MakeOwn
import Derived.Laws.OwnMore
import Derived.Deep.OwnRows
import Derived.Tactics
import Derived.Lib.ConvBytes
import Derived.Laws.Slices
import Derived.WalkKit
import Derived.KernelRfl
import Derived.RowKit3
import Derived.Deep.LoopGhost
import Derived.Deep.QuietTactic
import Derived.BigQuiet
import Derived.WideLaws
import Derived.Deep.DeepCutAuto
import Derived.Deep.CutBlock
import Derived.Deep.RegionHeld3
import Derived.Laws.Rows
import Derived.Lib.AppendStr
import Derived.ArgAppend
import Derived.Laws.IdiomCopy
import Derived.OrdersHeld
import Derived.Laws.BitsLemmas
import Derived.RowKit
import Derived.Test.YtmkmldkfaehefaaDoorC0
import Derived.Test.YtmkmldkfaehefaaDoorRows
import Derived.Test.YtmkmldkfaehefaaDoorC1
import Derived.ProofKit
import Derived.OpenShut
import Derived.ShutString
import Derived.ChangeOld
import Derived.SizedLaws
import Derived.LaidMore
import Derived.LaidHandle
import Derived.MakeChecks
import Derived.Lib.LaidTab
import Derived.Stop.LaidErr
import Derived.Stop.Joined
import Derived.RowKitTokens
import Derived.JoinedOf
import Derived.JoinedAt
import Derived.ChangeVars
import Derived.ChangeSame
import Derived.LaidLaws
section
set_option linter.unusedVariables false
namespace Go.Proofs.YtmkmldkfaehefaaDoor
open Go.RowKit Go.Proofs.YtmkmldkfaehefaaDoorW.PrintWords Go.Proofs.YtmkmldkfaehefaaDoorW.PrintLast Go.Proofs.YtmkmldkfaehefaaDoorW.PrintMore

theorem cutW_f (a : ByteArray) : Pw.strings_CutPrefix.f a ⟨#[45]⟩ = some (amtB a, minusB a) := by
  unfold Pw.strings_CutPrefix.f Pw.stringslite_CutPrefix.f Pw.stringslite_HasPrefix.f
  have h1 : ((⟨#[45]⟩ : ByteArray).size : Int) = 1 := rfl
  have h1' : (((⟨#[45]⟩ : ByteArray).size : Int)).toNat = 1 := rfl
  have h2 : (⟨#[45]⟩ : ByteArray).toList = [45] := by rw [ByteArray.toList_eq]
  rw [h1', h1, h2, ByteArray.toList_eq]
  unfold amtB minusB
  have hs := size_len a
  cases hl : a.data.toList with
  | nil =>
    rw [hl] at hs
    rw [if_neg (by rw [hs]; decide), Option.bind_some]
    simp only [Bool.false_eq_true, if_false, Option.bind_some, cutL]
    congr 2
    apply bext
    rw [hl]
  | cons c r =>
    rw [hl] at hs
    have hsz : (1 : Int) ≤ (a.size : Int) := by rw [hs, List.length_cons]; omega
    have hx : (a.extract 0 1).data.toList = [c] := by
      rw [Lib.extract_data, hl]
      rfl
    rw [if_pos hsz, if_pos (by decide), if_pos hsz, Option.bind_some, hx]
    by_cases hc : c = 45
    · subst hc
      rw [if_pos (by decide), if_pos (by decide), if_pos hsz]
      simp only [Option.bind_some, cutL]
      congr 2
      apply bext
      rw [Lib.extract_to_end, hl]
      rfl
    · have hne : ([c] == ([45] : List UInt8)) = false := by rw [beq_eq_false_iff_ne]; simpa using hc
      rw [hne]
      simp only [Bool.false_eq_true, if_false, Option.bind_some]
      have e : cutL (c :: r) = (c :: r, false) := by
        unfold cutL
        split
        · rename_i h
          injection h with h _
          exact absurd h hc
        · rfl
      rw [e]
      congr 2
      apply bext
      rw [hl]
theorem amtB_size (a : ByteArray) : (amtB a).size ≤ a.size := by
  rw [size_len, size_len, amtB_list]
  unfold cutL
  split
  · rename_i h; rw [h]; simp
  · exact Nat.le_refl _
theorem readW_f {a : ByteArray} (h : a.size ≤ 50000) : Pw.whole_read.f a = some (if mayW a = true then (amtB a, minusB a, true) else (noB, false, false)) := by
  unfold Pw.whole_read.f mayW
  rw [cutW_f, Option.bind_some]
  have hs := amtB_size a
  rw [may_f (show sm (amtB a) = true from decide_eq_true (by omega)), Option.bind_some]
  cases hm : mayB (amtB a) with
  | false => rfl
  | true =>
    simp only [if_true, Bool.true_and]
    cases hn : minusB a with
    | false => rfl
    | true =>
      simp only [if_true, Bool.not_true, Bool.false_or]
      have h48 := list48 hm
      rw [← ByteArray.toList_eq] at h48
      by_cases hz : numB (amtB a) = 0
      · rw [if_pos (h48.2 hz), if_neg (by rw [hz]; decide)]
        rfl
      · rw [if_neg (fun e => hz (h48.1 e)), if_pos (decide_eq_true hz)]
theorem readW_int {z : Int} (h : szI z ≤ 50000) : Pw.whole_read.f (intB z) = some (natB z.natAbs, decide (z < 0), true) := by
  rw [readW_f h, if_pos (mayW_int z), amtB_int, minusB_int]
theorem readW_no {a : ByteArray} (h : a.size ≤ 50000) (hm : ¬ mayW a = true) : Pw.whole_read.f a = some (noB, false, false) := by
  rw [readW_f h, if_neg hm]
theorem textW_f (b : Bool) {n : Nat} (h : sz n ≤ 1000000) : Pw.whole_number_text.f (natB n) b = some (intB (withS b n)) := by
  rw [← withS_text]
  unfold Pw.whole_number_text.f
  cases b with
  | false => rfl
  | true =>
    simp only [if_true]
    by_cases hz : n = 0
    · rw [if_pos (natB_toList_zero.2 hz), if_pos hz]
    · unfold sz at h
      rw [if_neg (fun e => hz (natB_toList_zero.1 e)), if_neg hz, if_pos (by omega)]
theorem withS_int (z : Int) : withS (decide (z < 0)) z.natAbs = z := by
  unfold withS
  by_cases h : z < 0
  · rw [if_pos (decide_eq_true h)]; omega
  · rw [if_neg (by rw [decide_eq_true_eq]; exact h)]; omega
theorem withS_not (z : Int) : withS (!decide (z < 0)) z.natAbs = -z := by
  unfold withS
  by_cases h : z < 0
  · rw [decide_eq_true h, if_neg (by decide)]; omega
  · rw [decide_eq_false h, if_pos (by decide)]; omega

theorem mayW_f {a : ByteArray} (h : a.size ≤ 50000) : Pw.whole_May.f a = some (mayW a) := by
  unfold Pw.whole_May.f
  rw [readW_f h, Option.bind_some]
  cases hm : mayW a <;> rfl
theorem absW_f {a : ByteArray} (h : a.size ≤ 50000) : Pw.whole_Abs.f a = some (wabsS a) := by
  unfold Pw.whole_Abs.f wabsS
  by_cases hm : mayW a = true
  · obtain ⟨z, rfl⟩ := of_mayW hm
    rw [readW_int h, if_pos hm, numW_int]
    rfl
  · rw [readW_no h hm, if_neg hm]
    rfl
theorem negW_f {a : ByteArray} (h : a.size ≤ 50000) : Pw.whole_Neg.f a = some (wnegS a) := by
  unfold Pw.whole_Neg.f wnegS
  by_cases hm : mayW a = true
  · obtain ⟨z, rfl⟩ := of_mayW hm
    have h1 := le_szI z
    have h2 : szI z ≤ 50000 := h
    rw [readW_int h, Option.bind_some, if_pos rfl, if_pos hm, numW_int, textW_f _ (by omega), withS_not]
    rfl
  · rw [readW_no h hm, if_neg hm]
    rfl
theorem signW_f {a : ByteArray} (h : a.size ≤ 50000) (k : Nat) : Pw.whole_Sign.f (k + 1) a = some (wsignS a) := by
  unfold Pw.whole_Sign.f wsignS
  by_cases hm : mayW a = true
  · obtain ⟨z, rfl⟩ := of_mayW hm
    rw [readW_int h, Option.bind_some, if_pos rfl, if_pos hm, numW_int, natB_beq_zero]
    simp only [Pw.whole_Sign.j0]
    rcases (by omega : z < 0 ∨ z = 0 ∨ 0 < z) with hz | hz | hz
    · rw [if_neg (by rw [decide_eq_true_eq]; omega), if_pos (decide_eq_true hz), cmp_lt' hz]
    · subst hz
      rfl
    · rw [if_neg (by rw [decide_eq_true_eq]; omega), if_neg (by rw [decide_eq_true_eq]; omega), cmp_gt' hz]
  · rw [readW_no h hm, if_neg hm]
    rfl
theorem may2W_and {a b : ByteArray} : may2W a b = true ↔ mayW a = true ∧ mayW b = true := by unfold may2W; rw [Bool.and_eq_true]
theorem bothW_int {x y : Int} (hx : szI x ≤ 50000) (hy : szI y ≤ 50000) : Pw.whole_both.f (intB x) (intB y) = some (natB x.natAbs, decide (x < 0), natB y.natAbs, decide (y < 0), true) := by
  unfold Pw.whole_both.f
  rw [readW_int hx, Option.bind_some, readW_int hy, Option.bind_some, if_pos rfl]
theorem bothW_no {a b : ByteArray} (ha : a.size ≤ 50000) (hb : b.size ≤ 50000) (hm : ¬ may2W a b = true) : ∃ p q r s, Pw.whole_both.f a b = some (p, q, r, s, false) := by
  unfold Pw.whole_both.f
  rw [readW_f ha, Option.bind_some, readW_f hb, Option.bind_some]
  by_cases h1 : mayW a = true
  · have h2 : ¬ mayW b = true := fun h2 => hm (may2W_and.2 ⟨h1, h2⟩)
    rw [if_pos h1, if_neg h2, if_pos rfl]
    exact ⟨_, _, _, _, rfl⟩
  · rw [if_neg h1, if_neg (by decide)]
    exact ⟨_, _, _, _, rfl⟩
theorem may2W_int (x y : Int) : may2W (intB x) (intB y) = true := may2W_and.2 ⟨mayW_int x, mayW_int y⟩
/-- Two texts: both tell whole numbers, or not. -/
theorem casesW (a b : ByteArray) : (∃ x y, a = intB x ∧ b = intB y) ∨ ¬ may2W a b = true := by
  by_cases h : may2W a b = true
  · obtain ⟨h1, h2⟩ := may2W_and.1 h
    obtain ⟨x, hx⟩ := of_mayW h1
    obtain ⟨y, hy⟩ := of_mayW h2
    exact .inl ⟨x, y, hx, hy⟩
  · exact .inr h
theorem cmpW_f {a b : ByteArray} (ha : a.size ≤ 50000) (hb : b.size ≤ 50000) (k : Nat) : Pw.whole_Cmp.f (k + 1) a b = some (wcmpS a b) := by
  unfold Pw.whole_Cmp.f wcmpS
  rcases casesW a b with ⟨x, y, rfl, rfl⟩ | hm
  · have h1 := le_szI x
    have h2 := le_szI y
    have h3 : szI x ≤ 50000 := ha
    have h4 : szI y ≤ 50000 := hb
    rw [bothW_int ha hb, Option.bind_some, if_pos rfl, if_pos (may2W_int x y), numW_int, numW_int]
    have key : ∀ m n : Nat, sz m ≤ 50000 → sz n ≤ 50000 → ∀ x y : Int, Lib.compareInt (m : Int) (n : Int) = Lib.compareInt x y → ((nat_Cmp.f (natB m) (natB n)).bind fun t => some t) = some (Lib.compareInt x y) := by
      intro m n hm hn x y e
      rw [fCmp hm hn, Option.bind_some, e]
    have e1 : (x < 0 → y < 0 → Lib.compareInt ((y.natAbs : Nat) : Int) ((x.natAbs : Nat) : Int) = Lib.compareInt x y) ∧ (¬ x < 0 → ¬ y < 0 → Lib.compareInt ((x.natAbs : Nat) : Int) ((y.natAbs : Nat) : Int) = Lib.compareInt x y) := by
      unfold Lib.compareInt
      constructor <;> intro _ _ <;> (repeat' split) <;> first | rfl | omega
    by_cases hx : x < 0
    · rw [if_pos (decide_eq_true hx)]
      simp only [Pw.whole_Cmp.j0]
      by_cases hy : y < 0
      · rw [if_pos (decide_eq_true hy)]
        exact key _ _ (by omega) (by omega) _ _ (e1.1 hx hy)
      · rw [if_neg (by rw [decide_eq_true_eq]; exact hy), if_pos (decide_eq_true hx), cmp_lt' (by omega)]
    · rw [if_neg (by rw [decide_eq_true_eq]; exact hx)]
      simp only [Pw.whole_Cmp.j0]
      rw [if_neg (by decide), if_neg (by rw [decide_eq_true_eq]; exact hx)]
      by_cases hy : y < 0
      · rw [if_pos (decide_eq_true hy), cmp_gt' (by omega)]
      · rw [if_neg (by rw [decide_eq_true_eq]; exact hy)]
        exact key _ _ (by omega) (by omega) _ _ (e1.2 hx hy)
  · obtain ⟨p, q, r, s, e⟩ := bothW_no ha hb hm
    rw [e, Option.bind_some, if_neg (show ¬ ((p, q, r, s, false) : ByteArray × Bool × ByteArray × Bool × Bool).2.2.2.2 = true from Bool.false_ne_true), if_neg hm]
theorem addW_core {m n : Nat} (a b : Bool) (hm : sz m ≤ 50000) (hn : sz n ≤ 50000) : ∃ (t : Nat) (c : Bool), Pw.whole_add.f (natB m) a (natB n) b = some (natB t, c) ∧ withS c t = withS a m + withS b n ∧ sz t ≤ sz m + sz n := by
  unfold Pw.whole_add.f
  have s1 := sz_add m n
  have s2 := sz_mono (show m - n ≤ m by omega)
  have s3 := sz_mono (show n - m ≤ n by omega)
  by_cases h : a = b
  · subst h
    rw [if_pos (by simp), fAdd hm hn, Option.bind_some]
    refine ⟨m + n, a, rfl, ?_, s1⟩
    unfold withS
    cases a
    · simp
    · simp only [if_true]; omega
  · rw [if_neg (by simpa using h), fSub hm hn, Option.bind_some]
    by_cases hle : n ≤ m
    · rw [if_pos hle, if_pos rfl]
      refine ⟨m - n, a, rfl, ?_, by omega⟩
      unfold withS
      cases a <;> cases b <;> first | exact absurd rfl h | (simp only [Bool.false_eq_true, if_true, if_false]; omega)
    · rw [if_neg hle, if_neg (by decide), fSub hn hm, Option.bind_some, if_pos (by omega)]
      refine ⟨n - m, b, rfl, ?_, by omega⟩
      unfold withS
      cases a <;> cases b <;> first | exact absurd rfl h | (simp only [Bool.false_eq_true, if_true, if_false]; omega)
theorem addW_f {a b : ByteArray} (ha : a.size ≤ 50000) (hb : b.size ≤ 50000) : Pw.whole_Add.f a b = some (waddS a b) := by
  unfold Pw.whole_Add.f waddS
  rcases casesW a b with ⟨x, y, rfl, rfl⟩ | hm
  · have h1 := le_szI x
    have h2 := le_szI y
    have h3 : szI x ≤ 50000 := ha
    have h4 : szI y ≤ 50000 := hb
    obtain ⟨t, c, e1, e2, e3⟩ := addW_core (decide (x < 0)) (decide (y < 0)) (show sz x.natAbs ≤ 50000 by omega) (show sz y.natAbs ≤ 50000 by omega)
    rw [withS_int, withS_int] at e2
    rw [bothW_int ha hb, Option.bind_some, if_pos rfl, if_pos (may2W_int x y), e1, Option.bind_some, textW_f _ (by omega), e2, numW_int, numW_int]
    rfl
  · obtain ⟨p, q, r, s, e⟩ := bothW_no ha hb hm
    rw [e, Option.bind_some, if_neg (show ¬ ((p, q, r, s, false) : ByteArray × Bool × ByteArray × Bool × Bool).2.2.2.2 = true from Bool.false_ne_true), if_neg hm]
    rfl
theorem wneg_size (a : ByteArray) : (wnegS a).size ≤ a.size + 1 := by
  unfold wnegS
  by_cases hm : mayW a = true
  · obtain ⟨z, rfl⟩ := of_mayW hm
    rw [if_pos hm, numW_int]
    have h1 := szI_le (-z)
    have h2 := le_szI z
    rw [Int.natAbs_neg] at h1
    unfold szI at h1 h2
    omega
  · rw [if_neg hm]
    show 0 ≤ _
    omega
theorem subW_f {a b : ByteArray} (ha : a.size ≤ 50000) (hb : b.size ≤ 49999) : Pw.whole_Sub.f a b = some (wsubS a b) := by
  unfold Pw.whole_Sub.f
  have hs := wneg_size b
  rw [negW_f (by omega), Option.bind_some, addW_f ha (by omega), Option.bind_some]
  congr 1
  unfold waddS wsubS
  rcases casesW a b with ⟨x, y, rfl, rfl⟩ | hm
  · have e : wnegS (intB y) = intB (-y) := by unfold wnegS; rw [if_pos (mayW_int y), numW_int]
    rw [e, if_pos (may2W_int x (-y)), if_pos (may2W_int x y), numW_int, numW_int, numW_int, Int.sub_eq_add_neg]
  · rw [if_neg hm, if_neg]
    intro h
    obtain ⟨h1, h2⟩ := may2W_and.1 h
    apply hm
    refine may2W_and.2 ⟨h1, ?_⟩
    unfold wnegS at h2
    split at h2
    · assumption
    · exact absurd h2 (by decide)
theorem withS_mul (a b : Bool) (m n : Nat) : withS (a != b) (m * n) = withS a m * withS b n := by
  unfold withS
  cases a <;> cases b <;> simp [Int.natCast_mul, Int.neg_mul, Int.mul_neg]
theorem mulW_f {a b : ByteArray} (ha : a.size ≤ 50000) (hb : b.size ≤ 50000) : Pw.whole_Mul.f a b = some (wmulS a b) := by
  unfold Pw.whole_Mul.f wmulS
  rcases casesW a b with ⟨x, y, rfl, rfl⟩ | hm
  · have h1 := le_szI x
    have h2 := le_szI y
    have h3 : szI x ≤ 50000 := ha
    have h4 : szI y ≤ 50000 := hb
    have h5 := sz_mul x.natAbs y.natAbs
    rw [bothW_int ha hb, Option.bind_some, if_pos rfl, if_pos (may2W_int x y), fMul (by omega) (by omega), Option.bind_some, textW_f _ (by omega), withS_mul, withS_int, withS_int, numW_int, numW_int]
    rfl
  · obtain ⟨p, q, r, s, e⟩ := bothW_no ha hb hm
    rw [e, Option.bind_some, if_neg (show ¬ ((p, q, r, s, false) : ByteArray × Bool × ByteArray × Bool × Bool).2.2.2.2 = true from Bool.false_ne_true), if_neg hm]
    rfl
theorem divW_f {a b : ByteArray} (ha : a.size ≤ 49990) (hb : b.size ≤ 49990) (k : Nat) : Pw.whole_Div.f (k + 2) a b = some (wdivS a b) := by
  unfold Pw.whole_Div.f wdivS
  rcases casesW a b with ⟨x, y, rfl, rfl⟩ | hm
  · have h1 := le_szI x
    have h2 := le_szI y
    have h3 : szI x ≤ 49990 := ha
    have h4 : szI y ≤ 49990 := hb
    rw [bothW_int (by omega) (by omega), Option.bind_some, if_pos rfl, natB_beq_zero, may2W_int, Bool.true_and, numW_int, numW_int]
    show Pw.whole_Div.j0 (k + 1 + 1) _ _ _ _ _ = _
    simp only [Pw.whole_Div.j0]
    by_cases hy : y = 0
    · subst hy
      rfl
    · have hy' : y.natAbs ≠ 0 := by omega
      have hd := divW (m := x.natAbs) hy' (decide (x < 0)) (decide (y < 0)) (by intro h; rw [decide_eq_true_eq] at h; omega)
      rw [withS_int, withS_int] at hd
      have s1 := sz_mono (Nat.div_le_self x.natAbs y.natAbs)
      have s2 := sz_mono (Nat.mod_le x.natAbs y.natAbs)
      have hlt := Nat.mod_lt x.natAbs (show 0 < y.natAbs by omega)
      rw [if_neg (by rw [decide_eq_true_eq]; exact hy'), if_pos (decide_eq_true hy), fDiv (by omega) (by omega) hy', Option.bind_some, hd.1, hd.2]
      clear hd
      generalize x.natAbs / y.natAbs = q at *
      generalize x.natAbs % y.natAbs = r at *
      have one1 : sz 1 ≤ 1 := sz_le (by omega) (by omega)
      have s3 := sz_add q 1
      by_cases hx : x < 0
      · rw [if_pos (decide_eq_true hx)]
        simp only [Pw.whole_Div.j1]
        by_cases hr : r = 0
        · subst hr
          rw [if_neg (by have := natB_beq_zero 0; simp [bne, this]), textW_f _ (by omega), Option.bind_some, if_neg (by simp), if_neg (by simp)]
          rw [show ((0 : Nat) : Int) = ((0 : Nat) : Int) from rfl, intB_nat]
        · rw [if_pos (by have := natB_beq_zero r; simp [bne, this, hr]), ← natB_one, fAdd (by omega) (by omega), Option.bind_some, fSub (by omega) (by omega), Option.bind_some, if_pos (by omega), textW_f _ (by omega), Option.bind_some, if_pos ⟨decide_eq_true hx, hr⟩, if_pos ⟨decide_eq_true hx, hr⟩, intB_nat]
      · rw [if_neg (by rw [decide_eq_true_eq]; exact hx)]
        simp only [Pw.whole_Div.j1]
        have hf : ¬ (decide (x < 0) = true ∧ r ≠ 0) := fun e => hx (of_decide_eq_true e.1)
        rw [if_neg (by decide), textW_f _ (by omega), Option.bind_some, if_neg hf, if_neg hf, intB_nat]
  · obtain ⟨p, q, r, s, e⟩ := bothW_no (Nat.le_trans ha (by omega)) (Nat.le_trans hb (by omega)) hm
    rw [e, Option.bind_some, if_neg (show ¬ ((p, q, r, s, false) : ByteArray × Bool × ByteArray × Bool × Bool).2.2.2.2 = true from Bool.false_ne_true), (Bool.not_eq_true _).mp hm]
    simp only [Pw.whole_Div.j0]
    rfl
theorem ofW_f (n : Int) (h0 : -9223372036854775808 ≤ n) (h1 : n ≤ 9223372036854775807) : Pw.whole_Of.f n = some (itoaB n) := by
  unfold Pw.whole_Of.f strconv_Itoa.f
  rw [if_pos ⟨h0, h1⟩]
  rfl
end Go.Proofs.YtmkmldkfaehefaaDoor

end

section
set_option linter.unusedVariables false
namespace Go.Proofs.YtmkmldkfaehefaaDoor
open Go.RowKit Go.Proofs.YtmkmldkfaehefaaDoorW.PrintWords Go.Proofs.YtmkmldkfaehefaaDoorW.PrintLast Go.Proofs.YtmkmldkfaehefaaDoorW.PrintMore

/-- Short enough here: some room is left for a sign. -/
def smw (s : ByteArray) : Bool := decide (s.size ≤ 49990)
def smw2 (a b : ByteArray) : Bool := smw a && smw b
theorem smw_le {s : ByteArray} (h : smw s = true) : s.size ≤ 49990 := of_decide_eq_true h
theorem smw2_le {a b : ByteArray} (h : smw2 a b = true) : a.size ≤ 49990 ∧ b.size ≤ 49990 := by
  unfold smw2 at h
  rw [Bool.and_eq_true] at h
  exact ⟨smw_le h.1, smw_le h.2⟩
theorem itoaB_int (n : Int) : itoaB n = intB n := by
  apply bext
  unfold itoaB intB Lib.itoa
  by_cases h : n < 0
  · rw [if_pos h, if_pos h, Joins.data_append, natB_list]
    rfl
  · rw [if_neg h, if_neg h, natB_list]
    have e : n.toNat = n.natAbs := by omega
    rw [e]
def whole_May.f (a0 : ByteArray) : Option Bool := if smw a0 = true then some (mayW a0) else none
theorem whole_May.calls (a0 : ByteArray) (r : Bool) (w : World) (h : whole_May.f a0 = some r) :
    Calls Tryd.prog 20 #[.string a0] w fun e w' => e = .returned (.bool r) ∧ Below w.heap.size w w' := by
  unfold whole_May.f at h
  split at h
  · rename_i hp
    have hs := smw_le hp
    rw [← mayW_f (by omega)] at h
    exact Pw.whole_May.calls a0 r w h
  · cases h
def whole_Of.f (a0 : Int) : Option ByteArray := if -9223372036854775808 ≤ a0 ∧ a0 ≤ 9223372036854775807 then some (intB a0) else none
theorem whole_Of.calls (a0 : Int) (r : ByteArray) (w : World) (hL_ : Laid w) (h : whole_Of.f a0 = some r) :
    Calls Tryd.prog 19 #[.int .i64 a0] w fun e w' => e = .returned (.string r) ∧ Below w.heap.size w w' := by
  unfold whole_Of.f at h
  split at h
  · rename_i hp
    rw [← itoaB_int, ← ofW_f a0 hp.1 hp.2] at h
    exact Pw.whole_Of.calls a0 r w hL_ h
  · cases h
def whole_Sign.f (a0 : ByteArray) : Option Int := if smw a0 = true then some (wsignS a0) else none
theorem whole_Sign.calls (a0 : ByteArray) (r : Int) (w : World) (h : whole_Sign.f a0 = some r) :
    Calls Tryd.prog 15 #[.string a0] w fun e w' => e = .returned (.int .i64 r) ∧ Below w.heap.size w w' := by
  unfold whole_Sign.f at h
  split at h
  · rename_i hp
    have hs := smw_le hp
    rw [← signW_f (by omega) 0] at h
    exact Pw.whole_Sign.calls _ a0 r w h
  · cases h
def whole_Abs.f (a0 : ByteArray) : Option ByteArray := if smw a0 = true then some (wabsS a0) else none
theorem whole_Abs.calls (a0 : ByteArray) (r : ByteArray) (w : World) (h : whole_Abs.f a0 = some r) :
    Calls Tryd.prog 18 #[.string a0] w fun e w' => e = .returned (.string r) ∧ Below w.heap.size w w' := by
  unfold whole_Abs.f at h
  split at h
  · rename_i hp
    have hs := smw_le hp
    rw [← absW_f (by omega)] at h
    exact Pw.whole_Abs.calls a0 r w h
  · cases h
def whole_Neg.f (a0 : ByteArray) : Option ByteArray := if smw a0 = true then some (wnegS a0) else none
theorem whole_Neg.calls (a0 : ByteArray) (r : ByteArray) (w : World) (h : whole_Neg.f a0 = some r) :
    Calls Tryd.prog 14 #[.string a0] w fun e w' => e = .returned (.string r) ∧ Below w.heap.size w w' := by
  unfold whole_Neg.f at h
  split at h
  · rename_i hp
    have hs := smw_le hp
    rw [← negW_f (by omega)] at h
    exact Pw.whole_Neg.calls a0 r w h
  · cases h
def whole_Cmp.f (a0 a1 : ByteArray) : Option Int := if smw2 a0 a1 = true then some (wcmpS a0 a1) else none
theorem whole_Cmp.calls (a0 a1 : ByteArray) (r : Int) (w : World) (h : whole_Cmp.f a0 a1 = some r) :
    Calls Tryd.prog 17 #[.string a0, .string a1] w fun e w' => e = .returned (.int .i64 r) ∧ Below w.heap.size w w' := by
  unfold whole_Cmp.f at h
  split at h
  · rename_i hp
    have hs := smw2_le hp
    rw [← cmpW_f (by omega) (by omega) 0] at h
    exact Pw.whole_Cmp.calls _ a0 a1 r w h
  · cases h
def whole_Add.f (a0 a1 : ByteArray) : Option ByteArray := if smw2 a0 a1 = true then some (waddS a0 a1) else none
theorem whole_Add.calls (a0 a1 : ByteArray) (r : ByteArray) (w : World) (hL_ : Laid w) (h : whole_Add.f a0 a1 = some r) :
    Calls Tryd.prog 11 #[.string a0, .string a1] w fun e w' => e = .returned (.string r) ∧ Below w.heap.size w w' := by
  unfold whole_Add.f at h
  split at h
  · rename_i hp
    have hs := smw2_le hp
    rw [← addW_f (by omega) (by omega)] at h
    exact Pw.whole_Add.calls a0 a1 r w hL_ h
  · cases h
def whole_Sub.f (a0 a1 : ByteArray) : Option ByteArray := if smw2 a0 a1 = true then some (wsubS a0 a1) else none
theorem whole_Sub.calls (a0 a1 : ByteArray) (r : ByteArray) (w : World) (hL_ : Laid w) (h : whole_Sub.f a0 a1 = some r) :
    Calls Tryd.prog 13 #[.string a0, .string a1] w fun e w' => e = .returned (.string r) ∧ Below w.heap.size w w' := by
  unfold whole_Sub.f at h
  split at h
  · rename_i hp
    have hs := smw2_le hp
    rw [← subW_f (by omega) (by omega)] at h
    exact Pw.whole_Sub.calls a0 a1 r w hL_ h
  · cases h
def whole_Mul.f (a0 a1 : ByteArray) : Option ByteArray := if smw2 a0 a1 = true then some (wmulS a0 a1) else none
theorem whole_Mul.calls (a0 a1 : ByteArray) (r : ByteArray) (w : World) (hL_ : Laid w) (h : whole_Mul.f a0 a1 = some r) :
    Calls Tryd.prog 12 #[.string a0, .string a1] w fun e w' => e = .returned (.string r) ∧ Below w.heap.size w w' := by
  unfold whole_Mul.f at h
  split at h
  · rename_i hp
    have hs := smw2_le hp
    rw [← mulW_f (by omega) (by omega)] at h
    exact Pw.whole_Mul.calls a0 a1 r w hL_ h
  · cases h
def whole_Div.f (a0 a1 : ByteArray) : Option (ByteArray × ByteArray × Bool) := if smw2 a0 a1 = true then some (wdivS a0 a1) else none
theorem whole_Div.calls (a0 a1 : ByteArray) (r1 r2 : ByteArray) (r3 : Bool) (w : World) (hL_ : Laid w) (h : whole_Div.f a0 a1 = some (r1, r2, r3)) :
    Calls Tryd.prog 16 #[.string a0, .string a1] w fun e w' => e = .returned (.tuple #[.string r1, .string r2, .bool r3]) ∧ Below w.heap.size w w' := by
  unfold whole_Div.f at h
  split at h
  · rename_i hp
    have hs := smw2_le hp
    rw [← divW_f hs.1 hs.2 0] at h
    exact Pw.whole_Div.calls _ a0 a1 r1 r2 r3 w hL_ h
  · cases h
end Go.Proofs.YtmkmldkfaehefaaDoor

end

-- Written by wip/pp.py of this place (over the kit's print) out of the translation.
section
namespace Go.Proofs.YtmkmldkfaehefaaDoor.Px
open Go.RowKit Go.Proofs.YtmkmldkfaehefaaDoorW.PrintWords Go.Proofs.YtmkmldkfaehefaaDoorW.PrintLast Go.Proofs.YtmkmldkfaehefaaDoorW.PrintMore
attribute [local go_sem] max2_int min2_int max_two min_two max_three min_three max_four min_four   -- for this text's walks alone
set_option linter.unusedVariables false
set_option linter.unusedSimpArgs false

def errW : Option Int → Value
 | none => .nilIface
 | some c => .iface 0 (.int .i64 c)
theorem errW_none : errW none = .nilIface := rfl
theorem errW_some (c : Int) : errW (some c) = .iface 0 (.int .i64 c) := rfl

-- the values' own types

end Go.Proofs.YtmkmldkfaehefaaDoor.Px

end

-- Written by wip/pp.py of this place (over the kit's print) out of the translation.
section
namespace Go.Proofs.YtmkmldkfaehefaaDoor.Px
open Go.RowKit Go.Proofs.YtmkmldkfaehefaaDoorW.PrintWords Go.Proofs.YtmkmldkfaehefaaDoorW.PrintLast Go.Proofs.YtmkmldkfaehefaaDoorW.PrintMore
attribute [local go_sem] max2_int min2_int max_two min_two max_three min_three max_four min_four   -- for this text's walks alone
set_option linter.unusedVariables false
set_option linter.unusedSimpArgs false

def debentureref02_amount.f (a0 : ByteArray) : Option (ByteArray × Bool) := if (a0.size : Int) > 0 then (if 0 < (a0.size : Int) then (if (bt a0 0) = 45 then (if 1 ≤ (a0.size : Int) then (some (a0.extract 1 a0.size, true)) else (none)) else (some (a0, false))) else (none)) else (some (a0, false))
set_option maxHeartbeats 8000000 in
set_option maxRecDepth 100000 in
theorem debentureref02_amount.calls (a0 : ByteArray) (r1 : ByteArray) (r2 : Bool) (w : World) (h : debentureref02_amount.f a0 = some (r1, r2)) :
  Calls Tryd.prog 21 #[.string a0] w fun e w' => e = .returned (.tuple #[.string r1, .bool r2]) ∧ Drawn0 w w' := by
 have H : (if (a0.size : Int) > 0 then (if 0 < (a0.size : Int) then (if (bt a0 0) = 45 then (if 1 ≤ (a0.size : Int) then (some (a0.extract 1 a0.size, true)) else (none)) else (some (a0, false))) else (none)) else (some (a0, false))) = some (r1, r2) := h
 clear h
 by_cases c2 : (a0.size : Int) > 0
 ·rw [if_pos c2] at H
  have c2b0 : decide (0 < (a0.size : Int)) = true := decide_eq_true c2
  have c2b1 : decide (0 < a0.size) = true := decide_eq_true (by omega)
  clear c2
  by_cases c3 : 0 < (a0.size : Int)
  ·rw [if_pos c3] at H
   have c3b0 : decide (0 < (a0.size : Int)) = true := decide_eq_true c3
   have c3b1 : decide (0 < a0.size) = true := decide_eq_true (by omega)
   clear c3
   by_cases c5 : (bt a0 0) = 45
   ·rw [if_pos c5] at H
    have c5b0 : ((bt a0 0) == 45) = true := beq_iff_eq.mpr c5
    have c5b1 : ((bt a0 0) != 45) = false := bne_eq_false_iff_eq.mpr c5
    clear c5
    by_cases c6 : 1 ≤ (a0.size : Int)
    ·rw [if_pos c6] at H
     have c6b0 := eq_true c6
     have c6b1 : decide (1 ≤ (a0.size : Int)) = true := decide_eq_true c6
     clear c6
     simp only [Option.some.injEq, Prod.mk.injEq] at H
     obtain ⟨rfl, rfl⟩ := H
     have p4 : 0 ≤ (0 : Int) := (by omega)
     have q4 : 0 < a0.size := (by have : (0 : Int) < (a0.size : Int) := of_decide_eq_true (by first | (with_reducible assumption) | assumption); omega)
     have hx4 : ∀ h : 0 < a0.size, ((a0[0]'h).toNat : Int) = bt a0 0 := bt_at a0 0
     clear p4
     have qi4 : (0 < (a0.size : Int)) = True := eq_true (of_decide_eq_true (by first | (with_reducible assumption) | assumption))
     replace q4 := eq_true q4
     go_enter Tryd.func21, Tryd.ntmps21
     go_wp2
     go_ret2
     exact ⟨by first | rfl | (simp; done) | (simp [*]; done), by repeat (first | exact Drawn0.refl _ | apply Drawn0.step)⟩
    ·rw [if_neg c6] at H
     exact absurd H (by simp)
   ·rw [if_neg c5] at H
    have c5b0 : ((bt a0 0) == 45) = false := beq_eq_false_iff_ne.mpr c5
    have c5b1 : ((bt a0 0) != 45) = true := bne_iff_ne.mpr c5
    simp only [Option.some.injEq, Prod.mk.injEq] at H
    obtain ⟨rfl, rfl⟩ := H
    have p4 : 0 ≤ (0 : Int) := (by omega)
    have q4 : 0 < a0.size := (by have : (0 : Int) < (a0.size : Int) := of_decide_eq_true (by first | (with_reducible assumption) | assumption); omega)
    have hx4 : ∀ h : 0 < a0.size, ((a0[0]'h).toNat : Int) = bt a0 0 := bt_at a0 0
    clear p4
    have qi4 : (0 < (a0.size : Int)) = True := eq_true (of_decide_eq_true (by first | (with_reducible assumption) | assumption))
    replace q4 := eq_true q4
    go_enter Tryd.func21, Tryd.ntmps21
    go_wp2
    go_ret2
    exact ⟨by first | rfl | (simp; done) | (simp [*]; done), by repeat (first | exact Drawn0.refl _ | apply Drawn0.step)⟩
  ·rw [if_neg c3] at H
   exact absurd H (by simp)
 ·rw [if_neg c2] at H
  have c2b0 : decide (0 < (a0.size : Int)) = false := decide_eq_false c2
  have c2b1 : decide (0 < a0.size) = false := decide_eq_false (by omega)
  clear c2
  simp only [Option.some.injEq, Prod.mk.injEq] at H
  obtain ⟨rfl, rfl⟩ := H
  go_enter Tryd.func21, Tryd.ntmps21
  go_wp2
  go_ret2
  exact ⟨by first | rfl | (simp; done) | (simp [*]; done), by repeat (first | exact Drawn0.refl _ | apply Drawn0.step)⟩

-- walked by hand: function 22 (debentureref01_May)

def debentureref02_May.f (a0 : ByteArray) : Option (Bool) := (debentureref02_amount.f a0).bind fun bt101 => ((debentureref01_May.f bt101.1).bind fun t103 => (if t103 = true then (if bt101.2 = true then (some (bt101.1.toList != ([48] : List UInt8))) else (some true)) else (some false)))
set_option maxHeartbeats 8000000 in
set_option maxRecDepth 100000 in
theorem debentureref02_May.calls (a0 : ByteArray) (r : Bool) (w : World) (h : debentureref02_May.f a0 = some r) :
  Calls Tryd.prog 10 #[.string a0] w fun e w' => e = .returned (.bool r) ∧ Below w.heap.size w w' := by
 have HB := Aside0.mk (Below.refl w.heap.size w)
 have H : ((debentureref02_amount.f a0).bind fun bt101 => ((debentureref01_May.f bt101.1).bind fun t103 => (if t103 = true then (if bt101.2 = true then (some (bt101.1.toList != ([48] : List UInt8))) else (some true)) else (some false)))) = some r := h
 clear h
 replace H := Option.bind_eq_some_iff.mp H
 obtain ⟨⟨t101, t102⟩, A20, H⟩ := H
 replace H : ((debentureref01_May.f t101).bind fun t103 => (if t103 = true then (if t102 = true then (some (t101.toList != ([48] : List UInt8))) else (some true)) else (some false))) = some r := H
 have A2 := Aside0.mk A20
 clear A20
 replace H := Option.bind_eq_some_iff.mp H
 obtain ⟨t103, A30, H⟩ := H
 replace H : (if t103 = true then (if t102 = true then (some (t101.toList != ([48] : List UInt8))) else (some true)) else (some false)) = some r := H
 have A3 := Aside0.mk A30
 clear A30
 by_cases c4 : t103 = true
 ·subst c4
  have H1 : (if t102 = true then (some (t101.toList != ([48] : List UInt8))) else (some true)) = some r := by rw [if_pos rfl] at H; exact H
  clear H
  have H := H1
  clear H1
  by_cases c5 : t102 = true
  ·subst c5
   have H1 : (some (t101.toList != ([48] : List UInt8))) = some r := by rw [if_pos rfl] at H; exact H
   clear H
   have H := H1
   clear H1
   obtain rfl := Option.some.inj H
   go_enter Tryd.func10, Tryd.ntmps10
   go_wp2_with (first | ((with_reducible refine gate_callee (f := 21) rfl ?_); refine goesL_ (some 7) rfl rfl Tryd.func21 (by kernel_rfl) rfl #[.string a0] rfl (by (try simp only [List.map_toArray, List.map_cons, List.map_nil]); first | done | rfl | (simp only [List.length_drop, List.length_take]; rfl)) ?_; (with_reducible refine (debentureref02_amount.calls a0 t101 true _ A2.out).mono ?_); rintro e w' ⟨rfl, ⟨nd, rfl⟩⟩; refine ⟨_, rfl, ?_⟩) | ((with_reducible refine gate_callee (f := 22) rfl ?_); refine goesL_ (some 11) rfl rfl Tryd.func22 (by kernel_rfl) rfl #[.string t101] rfl (by (try simp only [List.map_toArray, List.map_cons, List.map_nil]); first | done | rfl | (simp only [List.length_drop, List.length_take]; rfl)) ?_; (with_reducible refine (debentureref01_May.calls t101 true _ A3.out).mono ?_); rintro e w6 ⟨rfl, hb⟩; refine ⟨_, rfl, ?_⟩; have n0_ := Aside0.mk (below_step (by repeat (first | (with_reducible first | exact HB.out | apply below_alloc | apply pw_below_drewN | apply below_drew1) | exact HB.out)) hb); clear HB; have HB := n0_; clear n0_; (try clear hb); (try clear hb2); (try clear hk); (try clear hi)))
   go_ret
   exact ⟨by first | rfl | (simp [errW_none, errW_some] <;> rfl) | (simp [*, errW_none, errW_some] <;> rfl), by repeat (first | (with_reducible first | exact HB.out | apply below_alloc | apply pw_below_drewN | apply below_drew1) | exact HB.out)⟩
  ·replace c5 := Bool.eq_false_iff.mpr c5
   subst c5
   have H1 : (some true) = some r := by rw [if_neg (show ¬ (false = true) by decide)] at H; exact H
   clear H
   have H := H1
   clear H1
   obtain rfl := Option.some.inj H
   go_enter Tryd.func10, Tryd.ntmps10
   go_wp2_with (first | ((with_reducible refine gate_callee (f := 21) rfl ?_); refine goesL_ (some 7) rfl rfl Tryd.func21 (by kernel_rfl) rfl #[.string a0] rfl (by (try simp only [List.map_toArray, List.map_cons, List.map_nil]); first | done | rfl | (simp only [List.length_drop, List.length_take]; rfl)) ?_; (with_reducible refine (debentureref02_amount.calls a0 t101 false _ A2.out).mono ?_); rintro e w' ⟨rfl, ⟨nd, rfl⟩⟩; refine ⟨_, rfl, ?_⟩) | ((with_reducible refine gate_callee (f := 22) rfl ?_); refine goesL_ (some 11) rfl rfl Tryd.func22 (by kernel_rfl) rfl #[.string t101] rfl (by (try simp only [List.map_toArray, List.map_cons, List.map_nil]); first | done | rfl | (simp only [List.length_drop, List.length_take]; rfl)) ?_; (with_reducible refine (debentureref01_May.calls t101 true _ A3.out).mono ?_); rintro e w7 ⟨rfl, hb⟩; refine ⟨_, rfl, ?_⟩; have n0_ := Aside0.mk (below_step (by repeat (first | (with_reducible first | exact HB.out | apply below_alloc | apply pw_below_drewN | apply below_drew1) | exact HB.out)) hb); clear HB; have HB := n0_; clear n0_; (try clear hb); (try clear hb2); (try clear hk); (try clear hi)))
   go_ret
   exact ⟨by first | rfl | (simp [errW_none, errW_some] <;> rfl) | (simp [*, errW_none, errW_some] <;> rfl), by repeat (first | (with_reducible first | exact HB.out | apply below_alloc | apply pw_below_drewN | apply below_drew1) | exact HB.out)⟩
 ·replace c4 := Bool.eq_false_iff.mpr c4
  subst c4
  have H1 : (some false) = some r := by rw [if_neg (show ¬ (false = true) by decide)] at H; exact H
  clear H
  have H := H1
  clear H1
  obtain rfl := Option.some.inj H
  go_enter Tryd.func10, Tryd.ntmps10
  go_wp2_with (first | ((with_reducible refine gate_callee (f := 21) rfl ?_); refine goesL_ (some 7) rfl rfl Tryd.func21 (by kernel_rfl) rfl #[.string a0] rfl (by (try simp only [List.map_toArray, List.map_cons, List.map_nil]); first | done | rfl | (simp only [List.length_drop, List.length_take]; rfl)) ?_; (with_reducible refine (debentureref02_amount.calls a0 t101 t102 _ A2.out).mono ?_); rintro e w' ⟨rfl, ⟨nd, rfl⟩⟩; refine ⟨_, rfl, ?_⟩) | ((with_reducible refine gate_callee (f := 22) rfl ?_); refine goesL_ (some 11) rfl rfl Tryd.func22 (by kernel_rfl) rfl #[.string t101] rfl (by (try simp only [List.map_toArray, List.map_cons, List.map_nil]); first | done | rfl | (simp only [List.length_drop, List.length_take]; rfl)) ?_; (with_reducible refine (debentureref01_May.calls t101 false _ A3.out).mono ?_); rintro e w8 ⟨rfl, hb⟩; refine ⟨_, rfl, ?_⟩; have n0_ := Aside0.mk (below_step (by repeat (first | (with_reducible first | exact HB.out | apply below_alloc | apply pw_below_drewN | apply below_drew1) | exact HB.out)) hb); clear HB; have HB := n0_; clear n0_; (try clear hb); (try clear hb2); (try clear hk); (try clear hi)))
  go_ret
  exact ⟨by first | rfl | (simp [errW_none, errW_some] <;> rfl) | (simp [*, errW_none, errW_some] <;> rfl), by repeat (first | (with_reducible first | exact HB.out | apply below_alloc | apply pw_below_drewN | apply below_drew1) | exact HB.out)⟩

end Go.Proofs.YtmkmldkfaehefaaDoor.Px

end

-- Written by wip/pp.py of this place (over the kit's print) out of the translation.
section
namespace Go.Proofs.YtmkmldkfaehefaaDoor.Px
open Go.RowKit Go.Proofs.YtmkmldkfaehefaaDoorW.PrintWords Go.Proofs.YtmkmldkfaehefaaDoorW.PrintLast Go.Proofs.YtmkmldkfaehefaaDoorW.PrintMore
attribute [local go_sem] max2_int min2_int max_two min_two max_three min_three max_four min_four   -- for this text's walks alone
set_option linter.unusedVariables false
set_option linter.unusedSimpArgs false

end Go.Proofs.YtmkmldkfaehefaaDoor.Px

end

section
set_option linter.unusedVariables false
namespace Go.Proofs.YtmkmldkfaehefaaDoor
open Go.RowKit Go.Proofs.YtmkmldkfaehefaaDoorW.PrintWords Go.Proofs.YtmkmldkfaehefaaDoorW.PrintLast Go.Proofs.YtmkmldkfaehefaaDoorW.PrintMore

theorem amount_f (a : ByteArray) : Px.debentureref02_amount.f a = some (amtB a, minusB a) := by
  unfold Px.debentureref02_amount.f amtB minusB
  have hs := size_len a
  cases hl : a.data.toList with
  | nil =>
    rw [hl, List.length_nil] at hs
    rw [if_neg (by omega)]
    simp only [cutL]
    congr 2
    apply bext
    rw [hl]
  | cons c r =>
    rw [hl, List.length_cons] at hs
    obtain ⟨c', hc, hb⟩ := bt_get a 0 (by omega)
    have hcc : c' = c := by
      rw [hl] at hc
      exact (Option.some.inj hc).symm
    subst hcc
    have hb' : bt a 0 = (c'.toNat : Int) := hb
    rw [if_pos (by omega), if_pos (by omega), hb']
    by_cases h : c' = 45
    · subst h
      rw [if_pos (by decide), if_pos (by omega)]
      simp only [cutL]
      congr 2
      apply bext
      rw [Lib.extract_to_end, hl]
      rfl
    · have hn : ¬ (c'.toNat : Int) = 45 := by
        intro e
        exact h (UInt8.toNat_inj.1 (by rw [show (45 : UInt8).toNat = 45 from rfl]; omega))
      have e : cutL (c' :: r) = (c' :: r, false) := by
        unfold cutL
        split
        · rename_i h'
          injection h' with h' _
          exact absurd h' h
        · rfl
      rw [if_neg hn, e]
      congr 2
      apply bext
      rw [hl]
theorem amtB_size' (a : ByteArray) : (amtB a).size ≤ a.size := by
  rw [size_len, size_len, amtB_list]
  unfold cutL
  split
  · rename_i h; rw [h]; simp
  · exact Nat.le_refl _
theorem r2may_f {a : ByteArray} (h : a.size ≤ 50000) : Px.debentureref02_May.f a = some (mayW a) := by
  unfold Px.debentureref02_May.f mayW
  have hs := amtB_size' a
  rw [amount_f, Option.bind_some, rMay (a := amtB a) (by omega), Option.bind_some]
  cases hm : mayB (amtB a) with
  | false => rfl
  | true =>
    simp only [if_true, Bool.true_and]
    cases hn : minusB a with
    | false => rfl
    | true =>
      simp only [if_true, Bool.not_true, Bool.false_or]
      congr 1
      have h48 := list48 hm
      rw [← ByteArray.toList_eq] at h48
      rw [Bool.eq_iff_iff, bne_iff_ne, decide_eq_true_eq]
      exact not_congr h48
def debentureref02_May.f (a0 : ByteArray) : Option Bool := if sm a0 = true then some (mayW a0) else none
theorem debentureref02_May.calls (a0 : ByteArray) (r : Bool) (w : World) (h : debentureref02_May.f a0 = some r) :
    Calls Tryd.prog 10 #[.string a0] w fun e w' => e = .returned (.bool r) ∧ Below w.heap.size w w' := by
  unfold debentureref02_May.f at h
  split at h
  · rename_i hp
    rw [← r2may_f (sm_le hp)] at h
    exact Px.debentureref02_May.calls a0 r w h
  · cases h
end Go.Proofs.YtmkmldkfaehefaaDoor

end

section
set_option linter.unusedVariables false
namespace Go.Proofs.YtmkmldkfaehefaaDoor
open Go.RowKit Go.Proofs.YtmkmldkfaehefaaDoorW.PrintWords Go.Proofs.YtmkmldkfaehefaaDoorW.PrintLast Go.Proofs.YtmkmldkfaehefaaDoorW.PrintMore

theorem emod_abs (x : Int) {y : Int} (h : y ≠ 0) : x % y < (y.natAbs : Int) := by
  rcases (by omega : y < 0 ∨ 0 < y) with hy | hy
  · have e : x % y = x % (-y) := (Int.emod_neg x y).symm
    rw [e]
    have := Int.emod_lt_of_pos x (show 0 < -y by omega)
    omega
  · have := Int.emod_lt_of_pos x hy
    omega
theorem szI_pos (z : Int) : 1 ≤ szI z := Nat.le_trans (sz_pos _) (le_szI z)
theorem szI_add (x y : Int) : szI (x + y) ≤ szI x + szI y + 1 := by
  have h1 := szI_le (x + y)
  have h2 := sz_mono (show (x + y).natAbs ≤ x.natAbs + y.natAbs by omega)
  have h3 := sz_add x.natAbs y.natAbs
  have h4 := le_szI x
  have h5 := le_szI y
  omega
theorem szI_neg (x : Int) : szI (-x) ≤ szI x + 1 := by
  have h1 := szI_le (-x)
  have h4 := le_szI x
  rw [Int.natAbs_neg] at h1
  omega
theorem szI_sub (x y : Int) : szI (x - y) ≤ szI x + szI y + 1 := by
  have h1 := szI_le (x - y)
  have h2 := sz_mono (show (x - y).natAbs ≤ x.natAbs + y.natAbs by omega)
  have h3 := sz_add x.natAbs y.natAbs
  have h4 := le_szI x
  have h5 := le_szI y
  omega
theorem szI_mul (x y : Int) : szI (x * y) ≤ szI x + szI y + 1 := by
  have h1 := szI_le (x * y)
  rw [Int.natAbs_mul] at h1
  have h3 := sz_mul x.natAbs y.natAbs
  have h4 := le_szI x
  have h5 := le_szI y
  omega
theorem szI_mod (x : Int) {y : Int} (h : y ≠ 0) : szI (x % y) ≤ szI y + 1 := by
  have h0 := Int.emod_nonneg x h
  have h1 := emod_abs x h
  have h2 := szI_le (x % y)
  have h3 := sz_mono (show (x % y).natAbs ≤ y.natAbs by omega)
  have h4 := le_szI y
  omega
theorem szI_div (x y : Int) : szI (x / y) ≤ szI x + 3 := by
  have h1 := szI_le (x / y)
  have h2 : (x / y).natAbs ≤ x.natAbs + 1 := by
    have := Int.natAbs_ediv_le_natAbs x y
    omega
  have h3 := sz_mono h2
  have h4 := sz_add x.natAbs 1
  have h5 := le_szI x
  have h6 : sz 1 ≤ 1 := sz_le (by omega) (by omega)
  omega
theorem smw2_int {x y : Int} (hx : szI x ≤ 49990) (hy : szI y ≤ 49990) : smw2 (intB x) (intB y) = true := by
  unfold smw2
  rw [show smw (intB x) = true from decide_eq_true hx, show smw (intB y) = true from decide_eq_true hy]
  rfl
theorem smw_int {x : Int} (hx : szI x ≤ 49990) : smw (intB x) = true := decide_eq_true hx
theorem gAdd {x y : Int} (hx : szI x ≤ 49990) (hy : szI y ≤ 49990) : whole_Add.f (intB x) (intB y) = some (intB (x + y)) := by
  unfold whole_Add.f waddS
  rw [if_pos (smw2_int hx hy), if_pos (may2W_int x y), numW_int, numW_int]
theorem gSub {x y : Int} (hx : szI x ≤ 49990) (hy : szI y ≤ 49990) : whole_Sub.f (intB x) (intB y) = some (intB (x - y)) := by
  unfold whole_Sub.f wsubS
  rw [if_pos (smw2_int hx hy), if_pos (may2W_int x y), numW_int, numW_int]
theorem gMul {x y : Int} (hx : szI x ≤ 49990) (hy : szI y ≤ 49990) : whole_Mul.f (intB x) (intB y) = some (intB (x * y)) := by
  unfold whole_Mul.f wmulS
  rw [if_pos (smw2_int hx hy), if_pos (may2W_int x y), numW_int, numW_int]
theorem gDiv {x y : Int} (hx : szI x ≤ 49990) (hy : szI y ≤ 49990) (h : y ≠ 0) : whole_Div.f (intB x) (intB y) = some (intB (x / y), intB (x % y), true) := by
  unfold whole_Div.f wdivS
  rw [if_pos (smw2_int hx hy), may2W_int, Bool.true_and, numW_int, numW_int, if_pos (decide_eq_true h)]
theorem gCmp {x y : Int} (hx : szI x ≤ 49990) (hy : szI y ≤ 49990) : whole_Cmp.f (intB x) (intB y) = some (Lib.compareInt x y) := by
  unfold whole_Cmp.f wcmpS
  rw [if_pos (smw2_int hx hy), if_pos (may2W_int x y), numW_int, numW_int]
theorem gNeg {x : Int} (hx : szI x ≤ 49990) : whole_Neg.f (intB x) = some (intB (-x)) := by
  unfold whole_Neg.f wnegS
  rw [if_pos (smw_int hx), if_pos (mayW_int x), numW_int]
theorem gSign {x : Int} (hx : szI x ≤ 49990) : whole_Sign.f (intB x) = some (Lib.compareInt x 0) := by
  unfold whole_Sign.f wsignS
  rw [if_pos (smw_int hx), if_pos (mayW_int x), numW_int]
theorem gAbs {x : Int} (hx : szI x ≤ 49990) : whole_Abs.f (intB x) = some (intB (x.natAbs : Int)) := by
  unfold whole_Abs.f wabsS
  rw [if_pos (smw_int hx), if_pos (mayW_int x), numW_int, intB_nat]
theorem gOf {n : Int} (h0 : -9223372036854775808 ≤ n) (h1 : n ≤ 9223372036854775807) : whole_Of.f n = some (intB n) := by
  unfold whole_Of.f
  rw [if_pos ⟨h0, h1⟩]
theorem rMay2 {a : ByteArray} (h : a.size ≤ 50000) : debentureref02_May.f a = some (mayW a) := by
  unfold debentureref02_May.f
  rw [if_pos (show sm a = true from decide_eq_true h)]
theorem intB_toList_zero {z : Int} : (intB z).toList = [48] ↔ z = 0 := by
  have h : (intB 0).toList = [48] := by
    have e : intB 0 = natB 0 := intB_nat 0
    rw [e, ByteArray.toList_eq, natB_list, dig_small (by omega)]
    rfl
  rw [← h]
  exact intB_toList_inj
theorem intB_beq (x y : Int) : ((intB x).toList == (intB y).toList) = decide (x = y) := by
  rw [Bool.eq_iff_iff, beq_iff_eq, intB_toList_inj, decide_eq_true_eq]
theorem intB_beq_zero (x : Int) : ((intB x).toList == ([48] : List UInt8)) = decide (x = 0) := by
  rw [Bool.eq_iff_iff, beq_iff_eq, intB_toList_zero, decide_eq_true_eq]
theorem intB_ne_nil (z : Int) : (intB z).toList ≠ [] := by
  intro e
  rw [ByteArray.toList_eq] at e
  have h := congrArg List.length e
  rw [← size_len, List.length_nil] at h
  have := szI_pos z
  unfold szI at this
  omega
theorem of_mayW' {a : ByteArray} (h : mayW a = true) : ∃ z, a = intB z ∧ szI z = a.size := by
  obtain ⟨z, rfl⟩ := of_mayW h
  exact ⟨z, rfl, rfl⟩
end Go.Proofs.YtmkmldkfaehefaaDoor

end

-- Written by wip/pp.py of this place (over the kit's print) out of the translation.
section
namespace Go.Proofs.YtmkmldkfaehefaaDoor.Pf
open Go.RowKit Go.Proofs.YtmkmldkfaehefaaDoorW.PrintWords Go.Proofs.YtmkmldkfaehefaaDoorW.PrintLast Go.Proofs.YtmkmldkfaehefaaDoorW.PrintMore
attribute [local go_sem] max2_int min2_int max_two min_two max_three min_three max_four min_four   -- for this text's walks alone
set_option linter.unusedVariables false
set_option linter.unusedSimpArgs false

def errW : Option Int → Value
 | none => .nilIface
 | some c => .iface 0 (.int .i64 c)
theorem errW_none : errW none = .nilIface := rfl
theorem errW_some (c : Int) : errW (some c) = .iface 0 (.int .i64 c) := rfl

-- the values' own types

end Go.Proofs.YtmkmldkfaehefaaDoor.Pf

end

-- Written by wip/pp.py of this place (over the kit's print) out of the translation.
section
namespace Go.Proofs.YtmkmldkfaehefaaDoor.Pf
open Go.RowKit Go.Proofs.YtmkmldkfaehefaaDoorW.PrintWords Go.Proofs.YtmkmldkfaehefaaDoorW.PrintLast Go.Proofs.YtmkmldkfaehefaaDoorW.PrintMore
attribute [local go_sem] max2_int min2_int max_two min_two max_three min_three max_four min_four   -- for this text's walks alone
set_option linter.unusedVariables false
set_option linter.unusedSimpArgs false

-- walked by hand: function 11 (whole_Add)

-- walked by hand: function 12 (whole_Mul)

-- walked by hand: function 13 (whole_Sub)

-- walked by hand: function 14 (whole_Neg)

-- walked by hand: function 15 (whole_Sign)

-- walked by hand: function 16 (whole_Div)

-- walked by hand: function 17 (whole_Cmp)

-- walked by hand: function 18 (whole_Abs)

-- walked by hand: function 19 (whole_Of)

-- walked by hand: function 20 (whole_May)

def debenturelaw02_fixed.f  : Option (Bool) := (whole_Div.f (⟨#[45, 55]⟩ : ByteArray) (⟨#[50]⟩ : ByteArray)).bind fun bt101 => ((whole_Div.f (⟨#[45, 55]⟩ : ByteArray) (⟨#[45, 50]⟩ : ByteArray)).bind fun bt104 => ((whole_Div.f (⟨#[45, 55]⟩ : ByteArray) (⟨#[48]⟩ : ByteArray)).bind fun bt107 => (if bt101.1.toList = ([45, 52] : List UInt8) then (if bt101.2.1.toList = ([49] : List UInt8) then (if bt101.2.2 = true then (if bt104.1.toList = ([52] : List UInt8) then (if bt104.2.1.toList = ([49] : List UInt8) then (if bt104.2.2 = true then (if bt107.2.2 = true then (some false) else ((whole_Add.f (⟨#[45, 53]⟩ : ByteArray) (⟨#[51]⟩ : ByteArray)).bind fun t110 => (if t110.toList = ([45, 50] : List UInt8) then ((whole_Sub.f (⟨#[51]⟩ : ByteArray) (⟨#[53]⟩ : ByteArray)).bind fun t111 => (if t111.toList = ([45, 50] : List UInt8) then ((whole_Mul.f (⟨#[45, 51]⟩ : ByteArray) (⟨#[45, 53]⟩ : ByteArray)).bind fun t112 => (if t112.toList = ([49, 53] : List UInt8) then ((whole_Neg.f (⟨#[48]⟩ : ByteArray)).bind fun t113 => (if t113.toList = ([48] : List UInt8) then ((whole_Neg.f (⟨#[55]⟩ : ByteArray)).bind fun t114 => (if t114.toList = ([45, 55] : List UInt8) then ((whole_Abs.f (⟨#[45, 55]⟩ : ByteArray)).bind fun t115 => (if t115.toList = ([55] : List UInt8) then ((whole_Sign.f (⟨#[45, 55]⟩ : ByteArray)).bind fun t116 => (if t116 = (-1) then ((whole_Cmp.f (⟨#[45, 55]⟩ : ByteArray) (⟨#[45, 56]⟩ : ByteArray)).bind fun t117 => (if t117 = 1 then ((whole_Of.f (-9223372036854775808)).bind fun t118 => (if t118.toList = ([45, 57, 50, 50, 51, 51, 55, 50, 48, 51, 54, 56, 53, 52, 55, 55, 53, 56, 48, 56] : List UInt8) then ((whole_May.f (⟨#[45, 49]⟩ : ByteArray)).bind fun t119 => (if t119 = true then ((whole_May.f (⟨#[45, 48]⟩ : ByteArray)).bind fun t120 => (if t120 = true then (some false) else ((whole_May.f (⟨#[45, 45, 49]⟩ : ByteArray)).bind fun t121 => (some (!t121))))) else (some false))) else (some false))) else (some false))) else (some false))) else (some false))) else (some false))) else (some false))) else (some false))) else (some false))) else (some false)))) else (some false)) else (some false)) else (some false)) else (some false)) else (some false)) else (some false))))
set_option maxHeartbeats 8000000 in
set_option maxRecDepth 100000 in
theorem debenturelaw02_fixed.calls  (r : Bool) (w : World) (hL_ : Laid w) (hr_ : Aside0 (r = true)) (h : debenturelaw02_fixed.f  = some r) :
  Calls Tryd.prog 8 #[] w fun e w' => e = .returned (.bool r) ∧ Below w.heap.size w w' := by
 have HLD := Aside0.mk hL_
 clear hL_
 have HB := Aside0.mk (Below.refl w.heap.size w)
 have H : ((whole_Div.f (⟨#[45, 55]⟩ : ByteArray) (⟨#[50]⟩ : ByteArray)).bind fun bt101 => ((whole_Div.f (⟨#[45, 55]⟩ : ByteArray) (⟨#[45, 50]⟩ : ByteArray)).bind fun bt104 => ((whole_Div.f (⟨#[45, 55]⟩ : ByteArray) (⟨#[48]⟩ : ByteArray)).bind fun bt107 => (if bt101.1.toList = ([45, 52] : List UInt8) then (if bt101.2.1.toList = ([49] : List UInt8) then (if bt101.2.2 = true then (if bt104.1.toList = ([52] : List UInt8) then (if bt104.2.1.toList = ([49] : List UInt8) then (if bt104.2.2 = true then (if bt107.2.2 = true then (some false) else ((whole_Add.f (⟨#[45, 53]⟩ : ByteArray) (⟨#[51]⟩ : ByteArray)).bind fun t110 => (if t110.toList = ([45, 50] : List UInt8) then ((whole_Sub.f (⟨#[51]⟩ : ByteArray) (⟨#[53]⟩ : ByteArray)).bind fun t111 => (if t111.toList = ([45, 50] : List UInt8) then ((whole_Mul.f (⟨#[45, 51]⟩ : ByteArray) (⟨#[45, 53]⟩ : ByteArray)).bind fun t112 => (if t112.toList = ([49, 53] : List UInt8) then ((whole_Neg.f (⟨#[48]⟩ : ByteArray)).bind fun t113 => (if t113.toList = ([48] : List UInt8) then ((whole_Neg.f (⟨#[55]⟩ : ByteArray)).bind fun t114 => (if t114.toList = ([45, 55] : List UInt8) then ((whole_Abs.f (⟨#[45, 55]⟩ : ByteArray)).bind fun t115 => (if t115.toList = ([55] : List UInt8) then ((whole_Sign.f (⟨#[45, 55]⟩ : ByteArray)).bind fun t116 => (if t116 = (-1) then ((whole_Cmp.f (⟨#[45, 55]⟩ : ByteArray) (⟨#[45, 56]⟩ : ByteArray)).bind fun t117 => (if t117 = 1 then ((whole_Of.f (-9223372036854775808)).bind fun t118 => (if t118.toList = ([45, 57, 50, 50, 51, 51, 55, 50, 48, 51, 54, 56, 53, 52, 55, 55, 53, 56, 48, 56] : List UInt8) then ((whole_May.f (⟨#[45, 49]⟩ : ByteArray)).bind fun t119 => (if t119 = true then ((whole_May.f (⟨#[45, 48]⟩ : ByteArray)).bind fun t120 => (if t120 = true then (some false) else ((whole_May.f (⟨#[45, 45, 49]⟩ : ByteArray)).bind fun t121 => (some (!t121))))) else (some false))) else (some false))) else (some false))) else (some false))) else (some false))) else (some false))) else (some false))) else (some false))) else (some false))) else (some false)))) else (some false)) else (some false)) else (some false)) else (some false)) else (some false)) else (some false))))) = some r := h
 clear h
 replace H := Option.bind_eq_some_iff.mp H
 obtain ⟨⟨t101, t102, t103⟩, A10, H⟩ := H
 replace H : ((whole_Div.f (⟨#[45, 55]⟩ : ByteArray) (⟨#[45, 50]⟩ : ByteArray)).bind fun bt104 => ((whole_Div.f (⟨#[45, 55]⟩ : ByteArray) (⟨#[48]⟩ : ByteArray)).bind fun bt107 => (if t101.toList = ([45, 52] : List UInt8) then (if t102.toList = ([49] : List UInt8) then (if t103 = true then (if bt104.1.toList = ([52] : List UInt8) then (if bt104.2.1.toList = ([49] : List UInt8) then (if bt104.2.2 = true then (if bt107.2.2 = true then (some false) else ((whole_Add.f (⟨#[45, 53]⟩ : ByteArray) (⟨#[51]⟩ : ByteArray)).bind fun t110 => (if t110.toList = ([45, 50] : List UInt8) then ((whole_Sub.f (⟨#[51]⟩ : ByteArray) (⟨#[53]⟩ : ByteArray)).bind fun t111 => (if t111.toList = ([45, 50] : List UInt8) then ((whole_Mul.f (⟨#[45, 51]⟩ : ByteArray) (⟨#[45, 53]⟩ : ByteArray)).bind fun t112 => (if t112.toList = ([49, 53] : List UInt8) then ((whole_Neg.f (⟨#[48]⟩ : ByteArray)).bind fun t113 => (if t113.toList = ([48] : List UInt8) then ((whole_Neg.f (⟨#[55]⟩ : ByteArray)).bind fun t114 => (if t114.toList = ([45, 55] : List UInt8) then ((whole_Abs.f (⟨#[45, 55]⟩ : ByteArray)).bind fun t115 => (if t115.toList = ([55] : List UInt8) then ((whole_Sign.f (⟨#[45, 55]⟩ : ByteArray)).bind fun t116 => (if t116 = (-1) then ((whole_Cmp.f (⟨#[45, 55]⟩ : ByteArray) (⟨#[45, 56]⟩ : ByteArray)).bind fun t117 => (if t117 = 1 then ((whole_Of.f (-9223372036854775808)).bind fun t118 => (if t118.toList = ([45, 57, 50, 50, 51, 51, 55, 50, 48, 51, 54, 56, 53, 52, 55, 55, 53, 56, 48, 56] : List UInt8) then ((whole_May.f (⟨#[45, 49]⟩ : ByteArray)).bind fun t119 => (if t119 = true then ((whole_May.f (⟨#[45, 48]⟩ : ByteArray)).bind fun t120 => (if t120 = true then (some false) else ((whole_May.f (⟨#[45, 45, 49]⟩ : ByteArray)).bind fun t121 => (some (!t121))))) else (some false))) else (some false))) else (some false))) else (some false))) else (some false))) else (some false))) else (some false))) else (some false))) else (some false))) else (some false)))) else (some false)) else (some false)) else (some false)) else (some false)) else (some false)) else (some false)))) = some r := H
 have A1 := Aside0.mk A10
 clear A10
 replace H := Option.bind_eq_some_iff.mp H
 obtain ⟨⟨t104, t105, t106⟩, A20, H⟩ := H
 replace H : ((whole_Div.f (⟨#[45, 55]⟩ : ByteArray) (⟨#[48]⟩ : ByteArray)).bind fun bt107 => (if t101.toList = ([45, 52] : List UInt8) then (if t102.toList = ([49] : List UInt8) then (if t103 = true then (if t104.toList = ([52] : List UInt8) then (if t105.toList = ([49] : List UInt8) then (if t106 = true then (if bt107.2.2 = true then (some false) else ((whole_Add.f (⟨#[45, 53]⟩ : ByteArray) (⟨#[51]⟩ : ByteArray)).bind fun t110 => (if t110.toList = ([45, 50] : List UInt8) then ((whole_Sub.f (⟨#[51]⟩ : ByteArray) (⟨#[53]⟩ : ByteArray)).bind fun t111 => (if t111.toList = ([45, 50] : List UInt8) then ((whole_Mul.f (⟨#[45, 51]⟩ : ByteArray) (⟨#[45, 53]⟩ : ByteArray)).bind fun t112 => (if t112.toList = ([49, 53] : List UInt8) then ((whole_Neg.f (⟨#[48]⟩ : ByteArray)).bind fun t113 => (if t113.toList = ([48] : List UInt8) then ((whole_Neg.f (⟨#[55]⟩ : ByteArray)).bind fun t114 => (if t114.toList = ([45, 55] : List UInt8) then ((whole_Abs.f (⟨#[45, 55]⟩ : ByteArray)).bind fun t115 => (if t115.toList = ([55] : List UInt8) then ((whole_Sign.f (⟨#[45, 55]⟩ : ByteArray)).bind fun t116 => (if t116 = (-1) then ((whole_Cmp.f (⟨#[45, 55]⟩ : ByteArray) (⟨#[45, 56]⟩ : ByteArray)).bind fun t117 => (if t117 = 1 then ((whole_Of.f (-9223372036854775808)).bind fun t118 => (if t118.toList = ([45, 57, 50, 50, 51, 51, 55, 50, 48, 51, 54, 56, 53, 52, 55, 55, 53, 56, 48, 56] : List UInt8) then ((whole_May.f (⟨#[45, 49]⟩ : ByteArray)).bind fun t119 => (if t119 = true then ((whole_May.f (⟨#[45, 48]⟩ : ByteArray)).bind fun t120 => (if t120 = true then (some false) else ((whole_May.f (⟨#[45, 45, 49]⟩ : ByteArray)).bind fun t121 => (some (!t121))))) else (some false))) else (some false))) else (some false))) else (some false))) else (some false))) else (some false))) else (some false))) else (some false))) else (some false))) else (some false)))) else (some false)) else (some false)) else (some false)) else (some false)) else (some false)) else (some false))) = some r := H
 have A2 := Aside0.mk A20
 clear A20
 replace H := Option.bind_eq_some_iff.mp H
 obtain ⟨⟨t107, t108, t109⟩, A30, H⟩ := H
 replace H : (if t101.toList = ([45, 52] : List UInt8) then (if t102.toList = ([49] : List UInt8) then (if t103 = true then (if t104.toList = ([52] : List UInt8) then (if t105.toList = ([49] : List UInt8) then (if t106 = true then (if t109 = true then (some false) else ((whole_Add.f (⟨#[45, 53]⟩ : ByteArray) (⟨#[51]⟩ : ByteArray)).bind fun t110 => (if t110.toList = ([45, 50] : List UInt8) then ((whole_Sub.f (⟨#[51]⟩ : ByteArray) (⟨#[53]⟩ : ByteArray)).bind fun t111 => (if t111.toList = ([45, 50] : List UInt8) then ((whole_Mul.f (⟨#[45, 51]⟩ : ByteArray) (⟨#[45, 53]⟩ : ByteArray)).bind fun t112 => (if t112.toList = ([49, 53] : List UInt8) then ((whole_Neg.f (⟨#[48]⟩ : ByteArray)).bind fun t113 => (if t113.toList = ([48] : List UInt8) then ((whole_Neg.f (⟨#[55]⟩ : ByteArray)).bind fun t114 => (if t114.toList = ([45, 55] : List UInt8) then ((whole_Abs.f (⟨#[45, 55]⟩ : ByteArray)).bind fun t115 => (if t115.toList = ([55] : List UInt8) then ((whole_Sign.f (⟨#[45, 55]⟩ : ByteArray)).bind fun t116 => (if t116 = (-1) then ((whole_Cmp.f (⟨#[45, 55]⟩ : ByteArray) (⟨#[45, 56]⟩ : ByteArray)).bind fun t117 => (if t117 = 1 then ((whole_Of.f (-9223372036854775808)).bind fun t118 => (if t118.toList = ([45, 57, 50, 50, 51, 51, 55, 50, 48, 51, 54, 56, 53, 52, 55, 55, 53, 56, 48, 56] : List UInt8) then ((whole_May.f (⟨#[45, 49]⟩ : ByteArray)).bind fun t119 => (if t119 = true then ((whole_May.f (⟨#[45, 48]⟩ : ByteArray)).bind fun t120 => (if t120 = true then (some false) else ((whole_May.f (⟨#[45, 45, 49]⟩ : ByteArray)).bind fun t121 => (some (!t121))))) else (some false))) else (some false))) else (some false))) else (some false))) else (some false))) else (some false))) else (some false))) else (some false))) else (some false))) else (some false)))) else (some false)) else (some false)) else (some false)) else (some false)) else (some false)) else (some false)) = some r := H
 have A3 := Aside0.mk A30
 clear A30
 by_cases c4 : t101.toList = ([45, 52] : List UInt8)
 ·rw [if_pos c4] at H
  have c4b0 : (t101.toList == ([45, 52] : List UInt8)) = true := beq_iff_eq.mpr c4
  have c4b1 : (t101.toList != ([45, 52] : List UInt8)) = false := bne_eq_false_iff_eq.mpr c4
  clear c4
  by_cases c5 : t102.toList = ([49] : List UInt8)
  ·rw [if_pos c5] at H
   have c5b0 : (t102.toList == ([49] : List UInt8)) = true := beq_iff_eq.mpr c5
   have c5b1 : (t102.toList != ([49] : List UInt8)) = false := bne_eq_false_iff_eq.mpr c5
   clear c5
   by_cases c6 : t103 = true
   ·subst c6
    have H1 : (if t104.toList = ([52] : List UInt8) then (if t105.toList = ([49] : List UInt8) then (if t106 = true then (if t109 = true then (some false) else ((whole_Add.f (⟨#[45, 53]⟩ : ByteArray) (⟨#[51]⟩ : ByteArray)).bind fun t110 => (if t110.toList = ([45, 50] : List UInt8) then ((whole_Sub.f (⟨#[51]⟩ : ByteArray) (⟨#[53]⟩ : ByteArray)).bind fun t111 => (if t111.toList = ([45, 50] : List UInt8) then ((whole_Mul.f (⟨#[45, 51]⟩ : ByteArray) (⟨#[45, 53]⟩ : ByteArray)).bind fun t112 => (if t112.toList = ([49, 53] : List UInt8) then ((whole_Neg.f (⟨#[48]⟩ : ByteArray)).bind fun t113 => (if t113.toList = ([48] : List UInt8) then ((whole_Neg.f (⟨#[55]⟩ : ByteArray)).bind fun t114 => (if t114.toList = ([45, 55] : List UInt8) then ((whole_Abs.f (⟨#[45, 55]⟩ : ByteArray)).bind fun t115 => (if t115.toList = ([55] : List UInt8) then ((whole_Sign.f (⟨#[45, 55]⟩ : ByteArray)).bind fun t116 => (if t116 = (-1) then ((whole_Cmp.f (⟨#[45, 55]⟩ : ByteArray) (⟨#[45, 56]⟩ : ByteArray)).bind fun t117 => (if t117 = 1 then ((whole_Of.f (-9223372036854775808)).bind fun t118 => (if t118.toList = ([45, 57, 50, 50, 51, 51, 55, 50, 48, 51, 54, 56, 53, 52, 55, 55, 53, 56, 48, 56] : List UInt8) then ((whole_May.f (⟨#[45, 49]⟩ : ByteArray)).bind fun t119 => (if t119 = true then ((whole_May.f (⟨#[45, 48]⟩ : ByteArray)).bind fun t120 => (if t120 = true then (some false) else ((whole_May.f (⟨#[45, 45, 49]⟩ : ByteArray)).bind fun t121 => (some (!t121))))) else (some false))) else (some false))) else (some false))) else (some false))) else (some false))) else (some false))) else (some false))) else (some false))) else (some false))) else (some false)))) else (some false)) else (some false)) else (some false)) = some r := by rw [if_pos rfl] at H; exact H
    clear H
    have H := H1
    clear H1
    by_cases c7 : t104.toList = ([52] : List UInt8)
    ·rw [if_pos c7] at H
     have c7b0 : (t104.toList == ([52] : List UInt8)) = true := beq_iff_eq.mpr c7
     have c7b1 : (t104.toList != ([52] : List UInt8)) = false := bne_eq_false_iff_eq.mpr c7
     clear c7
     by_cases c8 : t105.toList = ([49] : List UInt8)
     ·rw [if_pos c8] at H
      have c8b0 : (t105.toList == ([49] : List UInt8)) = true := beq_iff_eq.mpr c8
      have c8b1 : (t105.toList != ([49] : List UInt8)) = false := bne_eq_false_iff_eq.mpr c8
      clear c8
      by_cases c9 : t106 = true
      ·subst c9
       have H1 : (if t109 = true then (some false) else ((whole_Add.f (⟨#[45, 53]⟩ : ByteArray) (⟨#[51]⟩ : ByteArray)).bind fun t110 => (if t110.toList = ([45, 50] : List UInt8) then ((whole_Sub.f (⟨#[51]⟩ : ByteArray) (⟨#[53]⟩ : ByteArray)).bind fun t111 => (if t111.toList = ([45, 50] : List UInt8) then ((whole_Mul.f (⟨#[45, 51]⟩ : ByteArray) (⟨#[45, 53]⟩ : ByteArray)).bind fun t112 => (if t112.toList = ([49, 53] : List UInt8) then ((whole_Neg.f (⟨#[48]⟩ : ByteArray)).bind fun t113 => (if t113.toList = ([48] : List UInt8) then ((whole_Neg.f (⟨#[55]⟩ : ByteArray)).bind fun t114 => (if t114.toList = ([45, 55] : List UInt8) then ((whole_Abs.f (⟨#[45, 55]⟩ : ByteArray)).bind fun t115 => (if t115.toList = ([55] : List UInt8) then ((whole_Sign.f (⟨#[45, 55]⟩ : ByteArray)).bind fun t116 => (if t116 = (-1) then ((whole_Cmp.f (⟨#[45, 55]⟩ : ByteArray) (⟨#[45, 56]⟩ : ByteArray)).bind fun t117 => (if t117 = 1 then ((whole_Of.f (-9223372036854775808)).bind fun t118 => (if t118.toList = ([45, 57, 50, 50, 51, 51, 55, 50, 48, 51, 54, 56, 53, 52, 55, 55, 53, 56, 48, 56] : List UInt8) then ((whole_May.f (⟨#[45, 49]⟩ : ByteArray)).bind fun t119 => (if t119 = true then ((whole_May.f (⟨#[45, 48]⟩ : ByteArray)).bind fun t120 => (if t120 = true then (some false) else ((whole_May.f (⟨#[45, 45, 49]⟩ : ByteArray)).bind fun t121 => (some (!t121))))) else (some false))) else (some false))) else (some false))) else (some false))) else (some false))) else (some false))) else (some false))) else (some false))) else (some false))) else (some false)))) = some r := by rw [if_pos rfl] at H; exact H
       clear H
       have H := H1
       clear H1
       by_cases c10 : t109 = true
       ·subst c10
        have H1 : (some false) = some r := by rw [if_pos rfl] at H; exact H
        clear H
        have H := H1
        clear H1
        exact absurd (H.trans (congrArg some hr_.out)) (by decide)
       ·replace c10 := Bool.eq_false_iff.mpr c10
        subst c10
        have H1 : ((whole_Add.f (⟨#[45, 53]⟩ : ByteArray) (⟨#[51]⟩ : ByteArray)).bind fun t110 => (if t110.toList = ([45, 50] : List UInt8) then ((whole_Sub.f (⟨#[51]⟩ : ByteArray) (⟨#[53]⟩ : ByteArray)).bind fun t111 => (if t111.toList = ([45, 50] : List UInt8) then ((whole_Mul.f (⟨#[45, 51]⟩ : ByteArray) (⟨#[45, 53]⟩ : ByteArray)).bind fun t112 => (if t112.toList = ([49, 53] : List UInt8) then ((whole_Neg.f (⟨#[48]⟩ : ByteArray)).bind fun t113 => (if t113.toList = ([48] : List UInt8) then ((whole_Neg.f (⟨#[55]⟩ : ByteArray)).bind fun t114 => (if t114.toList = ([45, 55] : List UInt8) then ((whole_Abs.f (⟨#[45, 55]⟩ : ByteArray)).bind fun t115 => (if t115.toList = ([55] : List UInt8) then ((whole_Sign.f (⟨#[45, 55]⟩ : ByteArray)).bind fun t116 => (if t116 = (-1) then ((whole_Cmp.f (⟨#[45, 55]⟩ : ByteArray) (⟨#[45, 56]⟩ : ByteArray)).bind fun t117 => (if t117 = 1 then ((whole_Of.f (-9223372036854775808)).bind fun t118 => (if t118.toList = ([45, 57, 50, 50, 51, 51, 55, 50, 48, 51, 54, 56, 53, 52, 55, 55, 53, 56, 48, 56] : List UInt8) then ((whole_May.f (⟨#[45, 49]⟩ : ByteArray)).bind fun t119 => (if t119 = true then ((whole_May.f (⟨#[45, 48]⟩ : ByteArray)).bind fun t120 => (if t120 = true then (some false) else ((whole_May.f (⟨#[45, 45, 49]⟩ : ByteArray)).bind fun t121 => (some (!t121))))) else (some false))) else (some false))) else (some false))) else (some false))) else (some false))) else (some false))) else (some false))) else (some false))) else (some false))) else (some false))) = some r := by rw [if_neg (show ¬ (false = true) by decide)] at H; exact H
        clear H
        have H := H1
        clear H1
        replace H := Option.bind_eq_some_iff.mp H
        obtain ⟨t110, A140, H⟩ := H
        replace H : (if t110.toList = ([45, 50] : List UInt8) then ((whole_Sub.f (⟨#[51]⟩ : ByteArray) (⟨#[53]⟩ : ByteArray)).bind fun t111 => (if t111.toList = ([45, 50] : List UInt8) then ((whole_Mul.f (⟨#[45, 51]⟩ : ByteArray) (⟨#[45, 53]⟩ : ByteArray)).bind fun t112 => (if t112.toList = ([49, 53] : List UInt8) then ((whole_Neg.f (⟨#[48]⟩ : ByteArray)).bind fun t113 => (if t113.toList = ([48] : List UInt8) then ((whole_Neg.f (⟨#[55]⟩ : ByteArray)).bind fun t114 => (if t114.toList = ([45, 55] : List UInt8) then ((whole_Abs.f (⟨#[45, 55]⟩ : ByteArray)).bind fun t115 => (if t115.toList = ([55] : List UInt8) then ((whole_Sign.f (⟨#[45, 55]⟩ : ByteArray)).bind fun t116 => (if t116 = (-1) then ((whole_Cmp.f (⟨#[45, 55]⟩ : ByteArray) (⟨#[45, 56]⟩ : ByteArray)).bind fun t117 => (if t117 = 1 then ((whole_Of.f (-9223372036854775808)).bind fun t118 => (if t118.toList = ([45, 57, 50, 50, 51, 51, 55, 50, 48, 51, 54, 56, 53, 52, 55, 55, 53, 56, 48, 56] : List UInt8) then ((whole_May.f (⟨#[45, 49]⟩ : ByteArray)).bind fun t119 => (if t119 = true then ((whole_May.f (⟨#[45, 48]⟩ : ByteArray)).bind fun t120 => (if t120 = true then (some false) else ((whole_May.f (⟨#[45, 45, 49]⟩ : ByteArray)).bind fun t121 => (some (!t121))))) else (some false))) else (some false))) else (some false))) else (some false))) else (some false))) else (some false))) else (some false))) else (some false))) else (some false))) else (some false)) = some r := H
        have A14 := Aside0.mk A140
        clear A140
        by_cases c15 : t110.toList = ([45, 50] : List UInt8)
        ·rw [if_pos c15] at H
         have c15b0 : (t110.toList == ([45, 50] : List UInt8)) = true := beq_iff_eq.mpr c15
         have c15b1 : (t110.toList != ([45, 50] : List UInt8)) = false := bne_eq_false_iff_eq.mpr c15
         clear c15
         replace H := Option.bind_eq_some_iff.mp H
         obtain ⟨t111, A160, H⟩ := H
         replace H : (if t111.toList = ([45, 50] : List UInt8) then ((whole_Mul.f (⟨#[45, 51]⟩ : ByteArray) (⟨#[45, 53]⟩ : ByteArray)).bind fun t112 => (if t112.toList = ([49, 53] : List UInt8) then ((whole_Neg.f (⟨#[48]⟩ : ByteArray)).bind fun t113 => (if t113.toList = ([48] : List UInt8) then ((whole_Neg.f (⟨#[55]⟩ : ByteArray)).bind fun t114 => (if t114.toList = ([45, 55] : List UInt8) then ((whole_Abs.f (⟨#[45, 55]⟩ : ByteArray)).bind fun t115 => (if t115.toList = ([55] : List UInt8) then ((whole_Sign.f (⟨#[45, 55]⟩ : ByteArray)).bind fun t116 => (if t116 = (-1) then ((whole_Cmp.f (⟨#[45, 55]⟩ : ByteArray) (⟨#[45, 56]⟩ : ByteArray)).bind fun t117 => (if t117 = 1 then ((whole_Of.f (-9223372036854775808)).bind fun t118 => (if t118.toList = ([45, 57, 50, 50, 51, 51, 55, 50, 48, 51, 54, 56, 53, 52, 55, 55, 53, 56, 48, 56] : List UInt8) then ((whole_May.f (⟨#[45, 49]⟩ : ByteArray)).bind fun t119 => (if t119 = true then ((whole_May.f (⟨#[45, 48]⟩ : ByteArray)).bind fun t120 => (if t120 = true then (some false) else ((whole_May.f (⟨#[45, 45, 49]⟩ : ByteArray)).bind fun t121 => (some (!t121))))) else (some false))) else (some false))) else (some false))) else (some false))) else (some false))) else (some false))) else (some false))) else (some false))) else (some false)) = some r := H
         have A16 := Aside0.mk A160
         clear A160
         by_cases c17 : t111.toList = ([45, 50] : List UInt8)
         ·rw [if_pos c17] at H
          have c17b0 : (t111.toList == ([45, 50] : List UInt8)) = true := beq_iff_eq.mpr c17
          have c17b1 : (t111.toList != ([45, 50] : List UInt8)) = false := bne_eq_false_iff_eq.mpr c17
          clear c17
          replace H := Option.bind_eq_some_iff.mp H
          obtain ⟨t112, A180, H⟩ := H
          replace H : (if t112.toList = ([49, 53] : List UInt8) then ((whole_Neg.f (⟨#[48]⟩ : ByteArray)).bind fun t113 => (if t113.toList = ([48] : List UInt8) then ((whole_Neg.f (⟨#[55]⟩ : ByteArray)).bind fun t114 => (if t114.toList = ([45, 55] : List UInt8) then ((whole_Abs.f (⟨#[45, 55]⟩ : ByteArray)).bind fun t115 => (if t115.toList = ([55] : List UInt8) then ((whole_Sign.f (⟨#[45, 55]⟩ : ByteArray)).bind fun t116 => (if t116 = (-1) then ((whole_Cmp.f (⟨#[45, 55]⟩ : ByteArray) (⟨#[45, 56]⟩ : ByteArray)).bind fun t117 => (if t117 = 1 then ((whole_Of.f (-9223372036854775808)).bind fun t118 => (if t118.toList = ([45, 57, 50, 50, 51, 51, 55, 50, 48, 51, 54, 56, 53, 52, 55, 55, 53, 56, 48, 56] : List UInt8) then ((whole_May.f (⟨#[45, 49]⟩ : ByteArray)).bind fun t119 => (if t119 = true then ((whole_May.f (⟨#[45, 48]⟩ : ByteArray)).bind fun t120 => (if t120 = true then (some false) else ((whole_May.f (⟨#[45, 45, 49]⟩ : ByteArray)).bind fun t121 => (some (!t121))))) else (some false))) else (some false))) else (some false))) else (some false))) else (some false))) else (some false))) else (some false))) else (some false)) = some r := H
          have A18 := Aside0.mk A180
          clear A180
          by_cases c19 : t112.toList = ([49, 53] : List UInt8)
          ·rw [if_pos c19] at H
           have c19b0 : (t112.toList == ([49, 53] : List UInt8)) = true := beq_iff_eq.mpr c19
           have c19b1 : (t112.toList != ([49, 53] : List UInt8)) = false := bne_eq_false_iff_eq.mpr c19
           clear c19
           replace H := Option.bind_eq_some_iff.mp H
           obtain ⟨t113, A200, H⟩ := H
           replace H : (if t113.toList = ([48] : List UInt8) then ((whole_Neg.f (⟨#[55]⟩ : ByteArray)).bind fun t114 => (if t114.toList = ([45, 55] : List UInt8) then ((whole_Abs.f (⟨#[45, 55]⟩ : ByteArray)).bind fun t115 => (if t115.toList = ([55] : List UInt8) then ((whole_Sign.f (⟨#[45, 55]⟩ : ByteArray)).bind fun t116 => (if t116 = (-1) then ((whole_Cmp.f (⟨#[45, 55]⟩ : ByteArray) (⟨#[45, 56]⟩ : ByteArray)).bind fun t117 => (if t117 = 1 then ((whole_Of.f (-9223372036854775808)).bind fun t118 => (if t118.toList = ([45, 57, 50, 50, 51, 51, 55, 50, 48, 51, 54, 56, 53, 52, 55, 55, 53, 56, 48, 56] : List UInt8) then ((whole_May.f (⟨#[45, 49]⟩ : ByteArray)).bind fun t119 => (if t119 = true then ((whole_May.f (⟨#[45, 48]⟩ : ByteArray)).bind fun t120 => (if t120 = true then (some false) else ((whole_May.f (⟨#[45, 45, 49]⟩ : ByteArray)).bind fun t121 => (some (!t121))))) else (some false))) else (some false))) else (some false))) else (some false))) else (some false))) else (some false))) else (some false)) = some r := H
           have A20 := Aside0.mk A200
           clear A200
           by_cases c21 : t113.toList = ([48] : List UInt8)
           ·rw [if_pos c21] at H
            have c21b0 : (t113.toList == ([48] : List UInt8)) = true := beq_iff_eq.mpr c21
            have c21b1 : (t113.toList != ([48] : List UInt8)) = false := bne_eq_false_iff_eq.mpr c21
            clear c21
            replace H := Option.bind_eq_some_iff.mp H
            obtain ⟨t114, A220, H⟩ := H
            replace H : (if t114.toList = ([45, 55] : List UInt8) then ((whole_Abs.f (⟨#[45, 55]⟩ : ByteArray)).bind fun t115 => (if t115.toList = ([55] : List UInt8) then ((whole_Sign.f (⟨#[45, 55]⟩ : ByteArray)).bind fun t116 => (if t116 = (-1) then ((whole_Cmp.f (⟨#[45, 55]⟩ : ByteArray) (⟨#[45, 56]⟩ : ByteArray)).bind fun t117 => (if t117 = 1 then ((whole_Of.f (-9223372036854775808)).bind fun t118 => (if t118.toList = ([45, 57, 50, 50, 51, 51, 55, 50, 48, 51, 54, 56, 53, 52, 55, 55, 53, 56, 48, 56] : List UInt8) then ((whole_May.f (⟨#[45, 49]⟩ : ByteArray)).bind fun t119 => (if t119 = true then ((whole_May.f (⟨#[45, 48]⟩ : ByteArray)).bind fun t120 => (if t120 = true then (some false) else ((whole_May.f (⟨#[45, 45, 49]⟩ : ByteArray)).bind fun t121 => (some (!t121))))) else (some false))) else (some false))) else (some false))) else (some false))) else (some false))) else (some false)) = some r := H
            have A22 := Aside0.mk A220
            clear A220
            by_cases c23 : t114.toList = ([45, 55] : List UInt8)
            ·rw [if_pos c23] at H
             have c23b0 : (t114.toList == ([45, 55] : List UInt8)) = true := beq_iff_eq.mpr c23
             have c23b1 : (t114.toList != ([45, 55] : List UInt8)) = false := bne_eq_false_iff_eq.mpr c23
             clear c23
             replace H := Option.bind_eq_some_iff.mp H
             obtain ⟨t115, A240, H⟩ := H
             replace H : (if t115.toList = ([55] : List UInt8) then ((whole_Sign.f (⟨#[45, 55]⟩ : ByteArray)).bind fun t116 => (if t116 = (-1) then ((whole_Cmp.f (⟨#[45, 55]⟩ : ByteArray) (⟨#[45, 56]⟩ : ByteArray)).bind fun t117 => (if t117 = 1 then ((whole_Of.f (-9223372036854775808)).bind fun t118 => (if t118.toList = ([45, 57, 50, 50, 51, 51, 55, 50, 48, 51, 54, 56, 53, 52, 55, 55, 53, 56, 48, 56] : List UInt8) then ((whole_May.f (⟨#[45, 49]⟩ : ByteArray)).bind fun t119 => (if t119 = true then ((whole_May.f (⟨#[45, 48]⟩ : ByteArray)).bind fun t120 => (if t120 = true then (some false) else ((whole_May.f (⟨#[45, 45, 49]⟩ : ByteArray)).bind fun t121 => (some (!t121))))) else (some false))) else (some false))) else (some false))) else (some false))) else (some false)) = some r := H
             have A24 := Aside0.mk A240
             clear A240
             by_cases c25 : t115.toList = ([55] : List UInt8)
             ·rw [if_pos c25] at H
              have c25b0 : (t115.toList == ([55] : List UInt8)) = true := beq_iff_eq.mpr c25
              have c25b1 : (t115.toList != ([55] : List UInt8)) = false := bne_eq_false_iff_eq.mpr c25
              clear c25
              replace H := Option.bind_eq_some_iff.mp H
              obtain ⟨t116, A260, H⟩ := H
              replace H : (if t116 = (-1) then ((whole_Cmp.f (⟨#[45, 55]⟩ : ByteArray) (⟨#[45, 56]⟩ : ByteArray)).bind fun t117 => (if t117 = 1 then ((whole_Of.f (-9223372036854775808)).bind fun t118 => (if t118.toList = ([45, 57, 50, 50, 51, 51, 55, 50, 48, 51, 54, 56, 53, 52, 55, 55, 53, 56, 48, 56] : List UInt8) then ((whole_May.f (⟨#[45, 49]⟩ : ByteArray)).bind fun t119 => (if t119 = true then ((whole_May.f (⟨#[45, 48]⟩ : ByteArray)).bind fun t120 => (if t120 = true then (some false) else ((whole_May.f (⟨#[45, 45, 49]⟩ : ByteArray)).bind fun t121 => (some (!t121))))) else (some false))) else (some false))) else (some false))) else (some false)) = some r := H
              have A26 := Aside0.mk A260
              clear A260
              by_cases c27 : t116 = (-1)
              ·rw [if_pos c27] at H
               have c27b0 : (t116 == (-1)) = true := beq_iff_eq.mpr c27
               have c27b1 : (t116 != (-1)) = false := bne_eq_false_iff_eq.mpr c27
               clear c27
               replace H := Option.bind_eq_some_iff.mp H
               obtain ⟨t117, A280, H⟩ := H
               replace H : (if t117 = 1 then ((whole_Of.f (-9223372036854775808)).bind fun t118 => (if t118.toList = ([45, 57, 50, 50, 51, 51, 55, 50, 48, 51, 54, 56, 53, 52, 55, 55, 53, 56, 48, 56] : List UInt8) then ((whole_May.f (⟨#[45, 49]⟩ : ByteArray)).bind fun t119 => (if t119 = true then ((whole_May.f (⟨#[45, 48]⟩ : ByteArray)).bind fun t120 => (if t120 = true then (some false) else ((whole_May.f (⟨#[45, 45, 49]⟩ : ByteArray)).bind fun t121 => (some (!t121))))) else (some false))) else (some false))) else (some false)) = some r := H
               have A28 := Aside0.mk A280
               clear A280
               by_cases c29 : t117 = 1
               ·rw [if_pos c29] at H
                have c29b0 : (t117 == 1) = true := beq_iff_eq.mpr c29
                have c29b1 : (t117 != 1) = false := bne_eq_false_iff_eq.mpr c29
                clear c29
                replace H := Option.bind_eq_some_iff.mp H
                obtain ⟨t118, A300, H⟩ := H
                replace H : (if t118.toList = ([45, 57, 50, 50, 51, 51, 55, 50, 48, 51, 54, 56, 53, 52, 55, 55, 53, 56, 48, 56] : List UInt8) then ((whole_May.f (⟨#[45, 49]⟩ : ByteArray)).bind fun t119 => (if t119 = true then ((whole_May.f (⟨#[45, 48]⟩ : ByteArray)).bind fun t120 => (if t120 = true then (some false) else ((whole_May.f (⟨#[45, 45, 49]⟩ : ByteArray)).bind fun t121 => (some (!t121))))) else (some false))) else (some false)) = some r := H
                have A30 := Aside0.mk A300
                clear A300
                by_cases c31 : t118.toList = ([45, 57, 50, 50, 51, 51, 55, 50, 48, 51, 54, 56, 53, 52, 55, 55, 53, 56, 48, 56] : List UInt8)
                ·rw [if_pos c31] at H
                 have c31b0 : (t118.toList == ([45, 57, 50, 50, 51, 51, 55, 50, 48, 51, 54, 56, 53, 52, 55, 55, 53, 56, 48, 56] : List UInt8)) = true := beq_iff_eq.mpr c31
                 have c31b1 : (t118.toList != ([45, 57, 50, 50, 51, 51, 55, 50, 48, 51, 54, 56, 53, 52, 55, 55, 53, 56, 48, 56] : List UInt8)) = false := bne_eq_false_iff_eq.mpr c31
                 clear c31
                 replace H := Option.bind_eq_some_iff.mp H
                 obtain ⟨t119, A320, H⟩ := H
                 replace H : (if t119 = true then ((whole_May.f (⟨#[45, 48]⟩ : ByteArray)).bind fun t120 => (if t120 = true then (some false) else ((whole_May.f (⟨#[45, 45, 49]⟩ : ByteArray)).bind fun t121 => (some (!t121))))) else (some false)) = some r := H
                 have A32 := Aside0.mk A320
                 clear A320
                 by_cases c33 : t119 = true
                 ·subst c33
                  have H1 : ((whole_May.f (⟨#[45, 48]⟩ : ByteArray)).bind fun t120 => (if t120 = true then (some false) else ((whole_May.f (⟨#[45, 45, 49]⟩ : ByteArray)).bind fun t121 => (some (!t121))))) = some r := by rw [if_pos rfl] at H; exact H
                  clear H
                  have H := H1
                  clear H1
                  replace H := Option.bind_eq_some_iff.mp H
                  obtain ⟨t120, A340, H⟩ := H
                  replace H : (if t120 = true then (some false) else ((whole_May.f (⟨#[45, 45, 49]⟩ : ByteArray)).bind fun t121 => (some (!t121)))) = some r := H
                  have A34 := Aside0.mk A340
                  clear A340
                  by_cases c35 : t120 = true
                  ·subst c35
                   have H1 : (some false) = some r := by rw [if_pos rfl] at H; exact H
                   clear H
                   have H := H1
                   clear H1
                   exact absurd (H.trans (congrArg some hr_.out)) (by decide)
                  ·replace c35 := Bool.eq_false_iff.mpr c35
                   subst c35
                   have H1 : ((whole_May.f (⟨#[45, 45, 49]⟩ : ByteArray)).bind fun t121 => (some (!t121))) = some r := by rw [if_neg (show ¬ (false = true) by decide)] at H; exact H
                   clear H
                   have H := H1
                   clear H1
                   replace H := Option.bind_eq_some_iff.mp H
                   obtain ⟨t121, A500, H⟩ := H
                   replace H : (some (!t121)) = some r := H
                   have A50 := Aside0.mk A500
                   clear A500
                   obtain rfl := Option.some.inj H
                   go_enter Tryd.func8, Tryd.ntmps8
                   go_wp2_with (first | ((with_reducible refine gate_callee (f := 16) rfl ?_); refine goesL_ (some 11) rfl rfl Tryd.func16 (by kernel_rfl) rfl #[.string (⟨#[45, 55]⟩ : ByteArray), .string (⟨#[50]⟩ : ByteArray)] rfl (by (try simp only [List.map_toArray, List.map_cons, List.map_nil]); first | done | rfl | (simp only [List.length_drop, List.length_take]; rfl)) ?_; (with_reducible refine (whole_Div.calls (⟨#[45, 55]⟩ : ByteArray) (⟨#[50]⟩ : ByteArray) t101 t102 true _ ?side1 A1.out).mono ?_); (case side1 => exact Laid.below HLD.out (by repeat (first | (with_reducible first | exact HB.out | apply below_alloc | apply pw_below_drewN | apply below_drew1) | exact HB.out))); rintro e w51 ⟨rfl, hb⟩; refine ⟨_, rfl, ?_⟩; have n0_ := Aside0.mk (below_step (by repeat (first | (with_reducible first | exact HB.out | apply below_alloc | apply pw_below_drewN | apply below_drew1) | exact HB.out)) hb); clear HB; have HB := n0_; clear n0_; (try clear hb); (try clear hb2); (try clear hk); (try clear hi)) | ((with_reducible refine gate_callee (f := 16) rfl ?_); refine goesL_ (some 16) rfl rfl Tryd.func16 (by kernel_rfl) rfl #[.string (⟨#[45, 55]⟩ : ByteArray), .string (⟨#[45, 50]⟩ : ByteArray)] rfl (by (try simp only [List.map_toArray, List.map_cons, List.map_nil]); first | done | rfl | (simp only [List.length_drop, List.length_take]; rfl)) ?_; (with_reducible refine (whole_Div.calls (⟨#[45, 55]⟩ : ByteArray) (⟨#[45, 50]⟩ : ByteArray) t104 t105 true _ ?side1 A2.out).mono ?_); (case side1 => exact Laid.below HLD.out (by repeat (first | (with_reducible first | exact HB.out | apply below_alloc | apply pw_below_drewN | apply below_drew1) | exact HB.out))); rintro e w52 ⟨rfl, hb⟩; refine ⟨_, rfl, ?_⟩; have n0_ := Aside0.mk (below_step (by repeat (first | (with_reducible first | exact HB.out | apply below_alloc | apply pw_below_drewN | apply below_drew1) | exact HB.out)) hb); clear HB; have HB := n0_; clear n0_; (try clear hb); (try clear hb2); (try clear hk); (try clear hi)) | ((with_reducible refine gate_callee (f := 16) rfl ?_); refine goesL_ (some 21) rfl rfl Tryd.func16 (by kernel_rfl) rfl #[.string (⟨#[45, 55]⟩ : ByteArray), .string (⟨#[48]⟩ : ByteArray)] rfl (by (try simp only [List.map_toArray, List.map_cons, List.map_nil]); first | done | rfl | (simp only [List.length_drop, List.length_take]; rfl)) ?_; (with_reducible refine (whole_Div.calls (⟨#[45, 55]⟩ : ByteArray) (⟨#[48]⟩ : ByteArray) t107 t108 false _ ?side1 A3.out).mono ?_); (case side1 => exact Laid.below HLD.out (by repeat (first | (with_reducible first | exact HB.out | apply below_alloc | apply pw_below_drewN | apply below_drew1) | exact HB.out))); rintro e w53 ⟨rfl, hb⟩; refine ⟨_, rfl, ?_⟩; have n0_ := Aside0.mk (below_step (by repeat (first | (with_reducible first | exact HB.out | apply below_alloc | apply pw_below_drewN | apply below_drew1) | exact HB.out)) hb); clear HB; have HB := n0_; clear n0_; (try clear hb); (try clear hb2); (try clear hk); (try clear hi)) | (go_at_call 11; (with_reducible refine (whole_Add.calls (⟨#[45, 53]⟩ : ByteArray) (⟨#[51]⟩ : ByteArray) t110 _ ?side1 A14.out).mono ?_); (case side1 => exact Laid.below HLD.out (by repeat (first | (with_reducible first | exact HB.out | apply below_alloc | apply pw_below_drewN | apply below_drew1) | exact HB.out))); rintro e w54 ⟨rfl, hb⟩; have n0_ := Aside0.mk (below_step (by repeat (first | (with_reducible first | exact HB.out | apply below_alloc | apply pw_below_drewN | apply below_drew1) | exact HB.out)) hb); clear HB; have HB := n0_; clear n0_; (try clear hb); (try clear hb2); (try clear hk); (try clear hi)) | (go_at_call 13; (with_reducible refine (whole_Sub.calls (⟨#[51]⟩ : ByteArray) (⟨#[53]⟩ : ByteArray) t111 _ ?side1 A16.out).mono ?_); (case side1 => exact Laid.below HLD.out (by repeat (first | (with_reducible first | exact HB.out | apply below_alloc | apply pw_below_drewN | apply below_drew1) | exact HB.out))); rintro e w55 ⟨rfl, hb⟩; have n0_ := Aside0.mk (below_step (by repeat (first | (with_reducible first | exact HB.out | apply below_alloc | apply pw_below_drewN | apply below_drew1) | exact HB.out)) hb); clear HB; have HB := n0_; clear n0_; (try clear hb); (try clear hb2); (try clear hk); (try clear hi)) | (go_at_call 12; (with_reducible refine (whole_Mul.calls (⟨#[45, 51]⟩ : ByteArray) (⟨#[45, 53]⟩ : ByteArray) t112 _ ?side1 A18.out).mono ?_); (case side1 => exact Laid.below HLD.out (by repeat (first | (with_reducible first | exact HB.out | apply below_alloc | apply pw_below_drewN | apply below_drew1) | exact HB.out))); rintro e w56 ⟨rfl, hb⟩; have n0_ := Aside0.mk (below_step (by repeat (first | (with_reducible first | exact HB.out | apply below_alloc | apply pw_below_drewN | apply below_drew1) | exact HB.out)) hb); clear HB; have HB := n0_; clear n0_; (try clear hb); (try clear hb2); (try clear hk); (try clear hi)) | (go_at_call 14; (with_reducible refine (whole_Neg.calls (⟨#[48]⟩ : ByteArray) t113 _ A20.out).mono ?_); rintro e w57 ⟨rfl, hb⟩; have n0_ := Aside0.mk (below_step (by repeat (first | (with_reducible first | exact HB.out | apply below_alloc | apply pw_below_drewN | apply below_drew1) | exact HB.out)) hb); clear HB; have HB := n0_; clear n0_; (try clear hb); (try clear hb2); (try clear hk); (try clear hi)) | (go_at_call 14; (with_reducible refine (whole_Neg.calls (⟨#[55]⟩ : ByteArray) t114 _ A22.out).mono ?_); rintro e w58 ⟨rfl, hb⟩; have n0_ := Aside0.mk (below_step (by repeat (first | (with_reducible first | exact HB.out | apply below_alloc | apply pw_below_drewN | apply below_drew1) | exact HB.out)) hb); clear HB; have HB := n0_; clear n0_; (try clear hb); (try clear hb2); (try clear hk); (try clear hi)) | (go_at_call 18; (with_reducible refine (whole_Abs.calls (⟨#[45, 55]⟩ : ByteArray) t115 _ A24.out).mono ?_); rintro e w59 ⟨rfl, hb⟩; have n0_ := Aside0.mk (below_step (by repeat (first | (with_reducible first | exact HB.out | apply below_alloc | apply pw_below_drewN | apply below_drew1) | exact HB.out)) hb); clear HB; have HB := n0_; clear n0_; (try clear hb); (try clear hb2); (try clear hk); (try clear hi)) | (go_at_call 15; (with_reducible refine (whole_Sign.calls (⟨#[45, 55]⟩ : ByteArray) t116 _ A26.out).mono ?_); rintro e w60 ⟨rfl, hb⟩; have n0_ := Aside0.mk (below_step (by repeat (first | (with_reducible first | exact HB.out | apply below_alloc | apply pw_below_drewN | apply below_drew1) | exact HB.out)) hb); clear HB; have HB := n0_; clear n0_; (try clear hb); (try clear hb2); (try clear hk); (try clear hi)) | (go_at_call 17; (with_reducible refine (whole_Cmp.calls (⟨#[45, 55]⟩ : ByteArray) (⟨#[45, 56]⟩ : ByteArray) t117 _ A28.out).mono ?_); rintro e w61 ⟨rfl, hb⟩; have n0_ := Aside0.mk (below_step (by repeat (first | (with_reducible first | exact HB.out | apply below_alloc | apply pw_below_drewN | apply below_drew1) | exact HB.out)) hb); clear HB; have HB := n0_; clear n0_; (try clear hb); (try clear hb2); (try clear hk); (try clear hi)) | (go_at_call 19; (with_reducible refine (whole_Of.calls (-9223372036854775808) t118 _ ?side1 A30.out).mono ?_); (case side1 => exact Laid.below HLD.out (by repeat (first | (with_reducible first | exact HB.out | apply below_alloc | apply pw_below_drewN | apply below_drew1) | exact HB.out))); rintro e w62 ⟨rfl, hb⟩; have n0_ := Aside0.mk (below_step (by repeat (first | (with_reducible first | exact HB.out | apply below_alloc | apply pw_below_drewN | apply below_drew1) | exact HB.out)) hb); clear HB; have HB := n0_; clear n0_; (try clear hb); (try clear hb2); (try clear hk); (try clear hi)) | (go_at_call 20; (with_reducible refine (whole_May.calls (⟨#[45, 49]⟩ : ByteArray) true _ A32.out).mono ?_); rintro e w63 ⟨rfl, hb⟩; have n0_ := Aside0.mk (below_step (by repeat (first | (with_reducible first | exact HB.out | apply below_alloc | apply pw_below_drewN | apply below_drew1) | exact HB.out)) hb); clear HB; have HB := n0_; clear n0_; (try clear hb); (try clear hb2); (try clear hk); (try clear hi)) | (go_at_call 20; (with_reducible refine (whole_May.calls (⟨#[45, 48]⟩ : ByteArray) false _ A34.out).mono ?_); rintro e w64 ⟨rfl, hb⟩; have n0_ := Aside0.mk (below_step (by repeat (first | (with_reducible first | exact HB.out | apply below_alloc | apply pw_below_drewN | apply below_drew1) | exact HB.out)) hb); clear HB; have HB := n0_; clear n0_; (try clear hb); (try clear hb2); (try clear hk); (try clear hi)) | (go_at_call 20; (with_reducible refine (whole_May.calls (⟨#[45, 45, 49]⟩ : ByteArray) t121 _ A50.out).mono ?_); rintro e w65 ⟨rfl, hb⟩; have n0_ := Aside0.mk (below_step (by repeat (first | (with_reducible first | exact HB.out | apply below_alloc | apply pw_below_drewN | apply below_drew1) | exact HB.out)) hb); clear HB; have HB := n0_; clear n0_; (try clear hb); (try clear hb2); (try clear hk); (try clear hi)))
                   go_ret
                   exact ⟨by first | rfl | (simp [errW_none, errW_some] <;> rfl) | (simp [*, errW_none, errW_some] <;> rfl), by repeat (first | (with_reducible first | exact HB.out | apply below_alloc | apply pw_below_drewN | apply below_drew1) | exact HB.out)⟩
                 ·replace c33 := Bool.eq_false_iff.mpr c33
                  subst c33
                  have H1 : (some false) = some r := by rw [if_neg (show ¬ (false = true) by decide)] at H; exact H
                  clear H
                  have H := H1
                  clear H1
                  exact absurd (H.trans (congrArg some hr_.out)) (by decide)
                ·rw [if_neg c31] at H
                 have c31b0 : (t118.toList == ([45, 57, 50, 50, 51, 51, 55, 50, 48, 51, 54, 56, 53, 52, 55, 55, 53, 56, 48, 56] : List UInt8)) = false := beq_eq_false_iff_ne.mpr c31
                 have c31b1 : (t118.toList != ([45, 57, 50, 50, 51, 51, 55, 50, 48, 51, 54, 56, 53, 52, 55, 55, 53, 56, 48, 56] : List UInt8)) = true := bne_iff_ne.mpr c31
                 exact absurd (H.trans (congrArg some hr_.out)) (by decide)
               ·rw [if_neg c29] at H
                have c29b0 : (t117 == 1) = false := beq_eq_false_iff_ne.mpr c29
                have c29b1 : (t117 != 1) = true := bne_iff_ne.mpr c29
                exact absurd (H.trans (congrArg some hr_.out)) (by decide)
              ·rw [if_neg c27] at H
               have c27b0 : (t116 == (-1)) = false := beq_eq_false_iff_ne.mpr c27
               have c27b1 : (t116 != (-1)) = true := bne_iff_ne.mpr c27
               exact absurd (H.trans (congrArg some hr_.out)) (by decide)
             ·rw [if_neg c25] at H
              have c25b0 : (t115.toList == ([55] : List UInt8)) = false := beq_eq_false_iff_ne.mpr c25
              have c25b1 : (t115.toList != ([55] : List UInt8)) = true := bne_iff_ne.mpr c25
              exact absurd (H.trans (congrArg some hr_.out)) (by decide)
            ·rw [if_neg c23] at H
             have c23b0 : (t114.toList == ([45, 55] : List UInt8)) = false := beq_eq_false_iff_ne.mpr c23
             have c23b1 : (t114.toList != ([45, 55] : List UInt8)) = true := bne_iff_ne.mpr c23
             exact absurd (H.trans (congrArg some hr_.out)) (by decide)
           ·rw [if_neg c21] at H
            have c21b0 : (t113.toList == ([48] : List UInt8)) = false := beq_eq_false_iff_ne.mpr c21
            have c21b1 : (t113.toList != ([48] : List UInt8)) = true := bne_iff_ne.mpr c21
            exact absurd (H.trans (congrArg some hr_.out)) (by decide)
          ·rw [if_neg c19] at H
           have c19b0 : (t112.toList == ([49, 53] : List UInt8)) = false := beq_eq_false_iff_ne.mpr c19
           have c19b1 : (t112.toList != ([49, 53] : List UInt8)) = true := bne_iff_ne.mpr c19
           exact absurd (H.trans (congrArg some hr_.out)) (by decide)
         ·rw [if_neg c17] at H
          have c17b0 : (t111.toList == ([45, 50] : List UInt8)) = false := beq_eq_false_iff_ne.mpr c17
          have c17b1 : (t111.toList != ([45, 50] : List UInt8)) = true := bne_iff_ne.mpr c17
          exact absurd (H.trans (congrArg some hr_.out)) (by decide)
        ·rw [if_neg c15] at H
         have c15b0 : (t110.toList == ([45, 50] : List UInt8)) = false := beq_eq_false_iff_ne.mpr c15
         have c15b1 : (t110.toList != ([45, 50] : List UInt8)) = true := bne_iff_ne.mpr c15
         exact absurd (H.trans (congrArg some hr_.out)) (by decide)
      ·replace c9 := Bool.eq_false_iff.mpr c9
       subst c9
       have H1 : (some false) = some r := by rw [if_neg (show ¬ (false = true) by decide)] at H; exact H
       clear H
       have H := H1
       clear H1
       exact absurd (H.trans (congrArg some hr_.out)) (by decide)
     ·rw [if_neg c8] at H
      have c8b0 : (t105.toList == ([49] : List UInt8)) = false := beq_eq_false_iff_ne.mpr c8
      have c8b1 : (t105.toList != ([49] : List UInt8)) = true := bne_iff_ne.mpr c8
      exact absurd (H.trans (congrArg some hr_.out)) (by decide)
    ·rw [if_neg c7] at H
     have c7b0 : (t104.toList == ([52] : List UInt8)) = false := beq_eq_false_iff_ne.mpr c7
     have c7b1 : (t104.toList != ([52] : List UInt8)) = true := bne_iff_ne.mpr c7
     exact absurd (H.trans (congrArg some hr_.out)) (by decide)
   ·replace c6 := Bool.eq_false_iff.mpr c6
    subst c6
    have H1 : (some false) = some r := by rw [if_neg (show ¬ (false = true) by decide)] at H; exact H
    clear H
    have H := H1
    clear H1
    exact absurd (H.trans (congrArg some hr_.out)) (by decide)
  ·rw [if_neg c5] at H
   have c5b0 : (t102.toList == ([49] : List UInt8)) = false := beq_eq_false_iff_ne.mpr c5
   have c5b1 : (t102.toList != ([49] : List UInt8)) = true := bne_iff_ne.mpr c5
   exact absurd (H.trans (congrArg some hr_.out)) (by decide)
 ·rw [if_neg c4] at H
  have c4b0 : (t101.toList == ([45, 52] : List UInt8)) = false := beq_eq_false_iff_ne.mpr c4
  have c4b1 : (t101.toList != ([45, 52] : List UInt8)) = true := bne_iff_ne.mpr c4
  exact absurd (H.trans (congrArg some hr_.out)) (by decide)
end Go.Proofs.YtmkmldkfaehefaaDoor.Pf

end

-- Written by wip/pp.py of this place (over the kit's print) out of the translation.
section
namespace Go.Proofs.YtmkmldkfaehefaaDoor.Pf
open Go.RowKit Go.Proofs.YtmkmldkfaehefaaDoorW.PrintWords Go.Proofs.YtmkmldkfaehefaaDoorW.PrintLast Go.Proofs.YtmkmldkfaehefaaDoorW.PrintMore
attribute [local go_sem] max2_int min2_int max_two min_two max_three min_three max_four min_four   -- for this text's walks alone
set_option linter.unusedVariables false
set_option linter.unusedSimpArgs false

end Go.Proofs.YtmkmldkfaehefaaDoor.Pf

end

section
namespace Go.Proofs.YtmkmldkfaehefaaDoor
open Go.RowKit
theorem fixed2_true : Pf.debenturelaw02_fixed.f = some true := by kernel_rfl
def debenturelaw02_fixed.f : Option Bool := some true
theorem debenturelaw02_fixed.calls (r : Bool) (w : World) (hL_ : Laid w) (h : debenturelaw02_fixed.f = some r) :
    Calls Tryd.prog 8 #[] w fun e w' => e = .returned (.bool r) ∧ Below w.heap.size w w' :=
  Pf.debenturelaw02_fixed.calls r w hL_ ⟨(Option.some.inj h).symm⟩ (fixed2_true.trans h)
end Go.Proofs.YtmkmldkfaehefaaDoor

end

section
namespace Go.Proofs.YtmkmldkfaehefaaDoor
open Go.ChangeShapes Go.WideShapes Go.ChangeAt Go.RowKit Go.Lib
open Go.ChangeMaps (open_string shut_string)
set_option linter.unusedVariables false
abbrev laidL : List (String × DataW Unit) := [("math/bits.deBruijn32tab", Rows.laid_math_bits_deBruijn32tab), ("math/bits.deBruijn64tab", Rows.laid_math_bits_deBruijn64tab), ("internal/strconv.uint64pow10", Rows.laid_internal_strconv_uint64pow10), ("strconv.ErrRange", Rows.laid_strconv_ErrRange), ("strconv.ErrSyntax", Rows.laid_strconv_ErrSyntax)]
theorem own : ownKnob Tryd.prog.godebug = none := by kernel_rfl
theorem tabType : (Tryd.prog.globals[0]?).map (·.type) = some 98 := by kernel_rfl
theorem rngType : (Tryd.prog.globals[2]?).map (·.type) = some 67 := by kernel_rfl
theorem tabCells : Tryd.prog.cellsOf 98 = 20 := by kernel_rfl
theorem u64Cells : Tryd.prog.cellsOf 84 = 1 := by kernel_rfl
theorem errCells : Tryd.prog.cellsOf 119 = 1 := by kernel_rfl
theorem strCells : Tryd.prog.cellsOf 9 = 1 := by kernel_rfl
theorem starErr : "*" ++ "errors.errorString" = "*errors.errorString" := by decide
theorem rowErr (u : TypeId) (h : Tryd.prog.typeName? 3 u = some "*errors.errorString") : u = 117 :=
  typeName_ptr_named (nm := "errors.errorString") (by rw [starErr]; kernel_rfl) (by kernel_rfl) (by decide) u (by rw [starErr]; exact h)
theorem laid_tab_eq : (Rows.laid_internal_strconv_uint64pow10 : DataW Unit) = tabData .u64 pow10Tab := by kernel_rfl
/-- What the condition gives the walks. -/
theorem laid_of {W : World} (h : laidMetH Tryd.prog laidL W) : Laid W := by
  rw [MakeChecks.laidMetH_plain _ _ _ (by kernel_rfl)] at h
  have hL := h
  obtain ⟨a1, s1, hv1, -, -, -⟩ := laid_sentinel (hL.tail.tail.tail) gRng rngType Tryd.underlying67 rowErr Tryd.underlying117 Tryd.underlying119 rfl rfl Tryd.underlying9 errCells strCells
  refine ⟨tabIs_of_head gTab tabType Tryd.underlying98 Tryd.underlying84 u64Cells tabCells (by rw [← laid_tab_eq]; exact hL.tail.tail), ⟨_, _, hv1⟩⟩
/-- The door's own heap meets the condition: closed facts. -/
theorem door_met (os : Os) (args : Array Value) : laidMetH Tryd.prog laidL ((World.doorLaid Tryd.prog 4000 os).forCall (fun _ _ => 0) ⟨#[], args, []⟩).memory :=
  laidMetH_of_parts3 (fuel := 8) (laidMet_of_run' 8 (by kernel_rfl) (by kernel_rfl)) (by kernel_rfl) (by kernel_rfl)
end Go.Proofs.YtmkmldkfaehefaaDoor

end
