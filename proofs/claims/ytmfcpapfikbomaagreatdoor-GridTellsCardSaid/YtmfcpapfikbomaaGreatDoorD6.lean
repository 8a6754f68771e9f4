/-
Parts of the proof, in build order: Pf52, Pf5, Fixed5, Agg, Rowb.
-/
import Derived.Test.YtmfcpapfikbomaaGreatDoorD2
import Derived.Test.YtmfcpapfikbomaaGreatDoorD5
import Derived.KernelRfl
import Derived.Lib.SmallJoins
import Derived.Laws.IdiomArrays
import Derived.ChangeMaps5
import Derived.Test.YtmfcpapfikbomaaGreatDoorRows
import Derived.Test.YtmfcpapfikbomaaGreatDoorD1
import Derived.WalkKit
import Derived.ProofKit
import Derived.OpenShut
import Derived.ShutString
import Derived.ChangeOld
import Derived.Below
import Derived.SizedLaws
import Derived.LaidMore
import Derived.LaidHandle
import Derived.MakeChecks
import Derived.Lib.LaidTab
import Derived.Stop.LaidErr
import Derived.Stop.Joined
import Derived.RowKitTokens
import Derived.JoinedOf
import Derived.JoinedAt
import Derived.ChangeVars
import Derived.ChangeSame
import Derived.LaidLaws
set_option linter.unusedVariables false
set_option linter.unusedSimpArgs false
open Go.RowKit Go.Proofs.YtmfcpapfikbomaaGreatDoorW.PrintWords Go.Proofs.YtmfcpapfikbomaaGreatDoorW.PrintLast Go.Proofs.YtmfcpapfikbomaaGreatDoorW.PrintMore
attribute [local go_sem] max2_int min2_int max_two min_two max_three min_three max_four min_four   -- for this text's walks alone
section
namespace Go.Proofs.YtmfcpapfikbomaaGreatDoor.Pf5
attribute [local go_sem high] eqA23
def dl5_fixed.f  : Option (Bool) := (r3_One.f 5 2).bind fun bt101 => ((grid_Whole.f bt101.1 bt101.2 2).bind fun t103 => (if t103.toList = ([50] : List UInt8) then ((r3_One.f 7 2).bind fun bt104 => ((grid_Whole.f bt104.1 bt104.2 2).bind fun t106 => (if t106.toList = ([52] : List UInt8) then ((r3_One.f (-5) 2).bind fun bt107 => ((grid_Whole.f bt107.1 bt107.2 2).bind fun t109 => (if t109.toList = ([45, 50] : List UInt8) then ((r3_One.f (-7) 2).bind fun bt110 => ((grid_Whole.f bt110.1 bt110.2 1).bind fun t112 => (if t112.toList = ([45, 51] : List UInt8) then ((r3_One.f (-7) 2).bind fun bt113 => ((grid_Whole.f bt113.1 bt113.2 0).bind fun t115 => (if t115.toList = ([45, 52] : List UInt8) then ((r3_One.f 17 10).bind fun bt116 => ((r3_One.f 1 2).bind fun bt118 => ((grid_Round.f bt116.1 bt116.2 bt118.1 bt118.2 2).bind fun bt120 => ((r3_One.f 3 2).bind fun bt122 => (if (bt120.1.toList == bt122.1.toList && (bt120.2.toList == bt122.2.toList)) = true then ((r3_One.f 1 3).bind fun bt124 => ((grid_Cents.f bt124.1 bt124.2).bind fun bt126 => ((r3_One.f 33 100).bind fun bt128 => (if (bt126.1.toList == bt128.1.toList && (bt126.2.toList == bt128.2.toList)) = true then ((r3_Of.f 1).bind fun bt130 => ((grid_Whole.f bt130.1 bt130.2 3).bind fun t132 => (if t132.toList = ([] : List UInt8) then ((r3_Of.f 1).bind fun bt133 => ((r3_Of.f 0).bind fun bt135 => ((grid_Round.f bt133.1 bt133.2 bt135.1 bt135.2 0).bind fun bt137 => (some (bt137.1.toList == ([] : List UInt8) && (bt137.2.toList == ([] : List UInt8))))))) else (some false)))) else (some false))))) else (some false)))))) else (some false)))) else (some false)))) else (some false)))) else (some false)))) else (some false)))
set_option maxHeartbeats 8000000 in
set_option maxRecDepth 100000 in
theorem dl5_fixed.calls  (r : Bool) (w : World) (hL_ : Laid w) (hr_ : Aside0 (r = true)) (h : dl5_fixed.f  = some r) :
  Calls Tryz.prog 10 #[] w fun e w' => e = .returned (.bool r) ∧ Below w.heap.size w w' := by
 have hu23 := Tryz.underlying23; have HLD := Aside0.mk hL_; clear hL_; have HB := Aside0.mk (Below.refl w.heap.size w); have H := h; unfold dl5_fixed.f at H; clear h; obtain ⟨⟨t101, t102⟩, A1, H⟩ := bi_ H; (try dsimp only at H); obtain ⟨t103, A2, H⟩ := bi_ H; by_cases c3 : t103.toList = ([50] : List UInt8)
 ·rw [if_pos c3] at H; have c3b0 : (t103.toList == ([50] : List UInt8)) = true := beq_iff_eq.mpr c3; have c3b1 : (t103.toList != ([50] : List UInt8)) = false := bne_eq_false_iff_eq.mpr c3; clear c3; obtain ⟨⟨t104, t105⟩, A4, H⟩ := bi_ H; (try dsimp only at H); obtain ⟨t106, A5, H⟩ := bi_ H; by_cases c6 : t106.toList = ([52] : List UInt8)
  ·rw [if_pos c6] at H; have c6b0 : (t106.toList == ([52] : List UInt8)) = true := beq_iff_eq.mpr c6; have c6b1 : (t106.toList != ([52] : List UInt8)) = false := bne_eq_false_iff_eq.mpr c6; clear c6; obtain ⟨⟨t107, t108⟩, A7, H⟩ := bi_ H; (try dsimp only at H); obtain ⟨t109, A8, H⟩ := bi_ H; by_cases c9 : t109.toList = ([45, 50] : List UInt8)
   ·rw [if_pos c9] at H; have c9b0 : (t109.toList == ([45, 50] : List UInt8)) = true := beq_iff_eq.mpr c9; have c9b1 : (t109.toList != ([45, 50] : List UInt8)) = false := bne_eq_false_iff_eq.mpr c9; clear c9; obtain ⟨⟨t110, t111⟩, A10, H⟩ := bi_ H; (try dsimp only at H); obtain ⟨t112, A11, H⟩ := bi_ H; by_cases c12 : t112.toList = ([45, 51] : List UInt8)
    ·rw [if_pos c12] at H; have c12b0 : (t112.toList == ([45, 51] : List UInt8)) = true := beq_iff_eq.mpr c12; have c12b1 : (t112.toList != ([45, 51] : List UInt8)) = false := bne_eq_false_iff_eq.mpr c12; clear c12; obtain ⟨⟨t113, t114⟩, A13, H⟩ := bi_ H; (try dsimp only at H)
     obtain ⟨rfl, rfl⟩ : t110 = t113 ∧ t111 = t114 := by have e_ := A10.out.symm.trans A13.out; simpa using e_
     obtain ⟨t115, A14, H⟩ := bi_ H; by_cases c15 : t115.toList = ([45, 52] : List UInt8)
     ·rw [if_pos c15] at H; have c15b0 : (t115.toList == ([45, 52] : List UInt8)) = true := beq_iff_eq.mpr c15; have c15b1 : (t115.toList != ([45, 52] : List UInt8)) = false := bne_eq_false_iff_eq.mpr c15; clear c15; obtain ⟨⟨t116, t117⟩, A16, H⟩ := bi_ H; (try dsimp only at H); obtain ⟨⟨t118, t119⟩, A17, H⟩ := bi_ H; (try dsimp only at H); obtain ⟨⟨t120, t121⟩, A18, H⟩ := bi_ H; (try dsimp only at H); obtain ⟨⟨t122, t123⟩, A19, H⟩ := bi_ H; (try dsimp only at H); by_cases c20 : (t120.toList == t122.toList && (t121.toList == t123.toList)) = true
      ·rw [if_pos c20] at H; have c20b0 : (t120.toList == t122.toList && (t121.toList == t123.toList)) = true := c20; (try (have c20b1 : decide (t120.toList = t122.toList && (t121.toList == t123.toList)) = true := by simpa using c20)); (try (have c20b2 : (t120.toList == t122.toList && (t121.toList == t123.toList)) = true := by simpa using c20)); clear c20; obtain ⟨⟨t124, t125⟩, A21, H⟩ := bi_ H; (try dsimp only at H); obtain ⟨⟨t126, t127⟩, A22, H⟩ := bi_ H; (try dsimp only at H); obtain ⟨⟨t128, t129⟩, A23, H⟩ := bi_ H; (try dsimp only at H); by_cases c24 : (t126.toList == t128.toList && (t127.toList == t129.toList)) = true
       ·rw [if_pos c24] at H; have c24b0 : (t126.toList == t128.toList && (t127.toList == t129.toList)) = true := c24; (try (have c24b1 : decide (t126.toList = t128.toList && (t127.toList == t129.toList)) = true := by simpa using c24)); (try (have c24b2 : (t126.toList == t128.toList && (t127.toList == t129.toList)) = true := by simpa using c24)); clear c24; obtain ⟨⟨t130, t131⟩, A25, H⟩ := bi_ H; (try dsimp only at H); obtain ⟨t132, A26, H⟩ := bi_ H; by_cases c27 : t132.toList = ([] : List UInt8)
        ·rw [if_pos c27] at H; have c27b0 : (t132.toList == ([] : List UInt8)) = true := beq_iff_eq.mpr c27; have c27b1 : (t132.toList != ([] : List UInt8)) = false := bne_eq_false_iff_eq.mpr c27; clear c27; obtain ⟨⟨t133, t134⟩, A28, H⟩ := bi_ H; (try dsimp only at H)
         obtain ⟨rfl, rfl⟩ : t130 = t133 ∧ t131 = t134 := by have e_ := A25.out.symm.trans A28.out; simpa using e_
         obtain ⟨⟨t135, t136⟩, A29, H⟩ := bi_ H; (try dsimp only at H); obtain ⟨⟨t137, t138⟩, A30, H⟩ := bi_ H; (try dsimp only at H); obtain rfl := Option.some.inj H; go_enter Tryz.func10, Tryz.ntmps10
         go_wp2_with (first | (refine gl_ 1 Tryz.func27 #[.int .i64 5, .int .i64 2] ?_; refine mo_ (r3_One.calls 5 2 t101 t102 _ A1.out) ?_; intro w31 hb; replace HB := bs_ HB hb; (try clear hb); (try clear hb2); (try clear hk); (try clear hi)) | (refine gl_ 2 Tryz.func11 #[.agg #[.string t101, .string t102], .int .i64 2] ?_; refine mo_ (grid_Whole.calls t101 t102 2 t103 _ (lb_ HLD HB) A2.out) ?_; intro w32 hb; replace HB := bs_ HB hb; (try clear hb); (try clear hb2); (try clear hk); (try clear hi)) | (go_at_call 27; (with_reducible refine (r3_One.calls 7 2 t104 t105 _ A4.out).mono ?_); rintro e w33 ⟨rfl, hb⟩; replace HB := bs_ HB hb; (try clear hb); (try clear hb2); (try clear hk); (try clear hi)) | (go_at_call 11; (with_reducible refine (grid_Whole.calls t104 t105 2 t106 _ ?side1 A5.out).mono ?_); (case side1 => exact lb_ HLD HB); rintro e w34 ⟨rfl, hb⟩; replace HB := bs_ HB hb; (try clear hb); (try clear hb2); (try clear hk); (try clear hi)) | (go_at_call 27; (with_reducible refine (r3_One.calls (-5) 2 t107 t108 _ A7.out).mono ?_); rintro e w35 ⟨rfl, hb⟩; replace HB := bs_ HB hb; (try clear hb); (try clear hb2); (try clear hk); (try clear hi)) | (go_at_call 11; (with_reducible refine (grid_Whole.calls t107 t108 2 t109 _ ?side1 A8.out).mono ?_); (case side1 => exact lb_ HLD HB); rintro e w36 ⟨rfl, hb⟩; replace HB := bs_ HB hb; (try clear hb); (try clear hb2); (try clear hk); (try clear hi)) | (go_at_call 27; (with_reducible refine (r3_One.calls (-7) 2 t110 t111 _ A10.out).mono ?_); rintro e w37 ⟨rfl, hb⟩; replace HB := bs_ HB hb; (try clear hb); (try clear hb2); (try clear hk); (try clear hi)) | (go_at_call 11; (with_reducible refine (grid_Whole.calls t110 t111 1 t112 _ ?side1 A11.out).mono ?_); (case side1 => exact lb_ HLD HB); rintro e w38 ⟨rfl, hb⟩; replace HB := bs_ HB hb; (try clear hb); (try clear hb2); (try clear hk); (try clear hi)) | (go_at_call 27; (with_reducible refine (r3_One.calls (-7) 2 t110 t111 _ A13.out).mono ?_); rintro e w39 ⟨rfl, hb⟩; replace HB := bs_ HB hb; (try clear hb); (try clear hb2); (try clear hk); (try clear hi)) | (go_at_call 11; (with_reducible refine (grid_Whole.calls t110 t111 0 t115 _ ?side1 A14.out).mono ?_); (case side1 => exact lb_ HLD HB); rintro e w40 ⟨rfl, hb⟩; replace HB := bs_ HB hb; (try clear hb); (try clear hb2); (try clear hk); (try clear hi)) | (go_at_call 27; (with_reducible refine (r3_One.calls 17 10 t116 t117 _ A16.out).mono ?_); rintro e w41 ⟨rfl, hb⟩; replace HB := bs_ HB hb; (try clear hb); (try clear hb2); (try clear hk); (try clear hi)) | (go_at_call 27; (with_reducible refine (r3_One.calls 1 2 t118 t119 _ A17.out).mono ?_); rintro e w42 ⟨rfl, hb⟩; replace HB := bs_ HB hb; (try clear hb); (try clear hb2); (try clear hk); (try clear hi)) | (go_at_call 13; (with_reducible refine (grid_Round.calls t116 t117 t118 t119 2 t120 t121 _ ?side1 A18.out).mono ?_); (case side1 => exact lb_ HLD HB); rintro e w43 ⟨rfl, hb⟩; replace HB := bs_ HB hb; (try clear hb); (try clear hb2); (try clear hk); (try clear hi)) | (go_at_call 27; (with_reducible refine (r3_One.calls 3 2 t122 t123 _ A19.out).mono ?_); rintro e w44 ⟨rfl, hb⟩; replace HB := bs_ HB hb; (try clear hb); (try clear hb2); (try clear hk); (try clear hi)) | (go_at_call 27; (with_reducible refine (r3_One.calls 1 3 t124 t125 _ A21.out).mono ?_); rintro e w45 ⟨rfl, hb⟩; replace HB := bs_ HB hb; (try clear hb); (try clear hb2); (try clear hk); (try clear hi)) | (go_at_call 15; (with_reducible refine (grid_Cents.calls t124 t125 t126 t127 _ ?side1 A22.out).mono ?_); (case side1 => exact lb_ HLD HB); rintro e w46 ⟨rfl, hb⟩; replace HB := bs_ HB hb; (try clear hb); (try clear hb2); (try clear hk); (try clear hi)) | (go_at_call 27; (with_reducible refine (r3_One.calls 33 100 t128 t129 _ A23.out).mono ?_); rintro e w47 ⟨rfl, hb⟩; replace HB := bs_ HB hb; (try clear hb); (try clear hb2); (try clear hk); (try clear hi)) | (go_at_call 26; (with_reducible refine (r3_Of.calls 1 t130 t131 _ A25.out).mono ?_); rintro e w48 ⟨rfl, hb⟩; replace HB := bs_ HB hb; (try clear hb); (try clear hb2); (try clear hk); (try clear hi)) | (go_at_call 11; (with_reducible refine (grid_Whole.calls t130 t131 3 t132 _ ?side1 A26.out).mono ?_); (case side1 => exact lb_ HLD HB); rintro e w49 ⟨rfl, hb⟩; replace HB := bs_ HB hb; (try clear hb); (try clear hb2); (try clear hk); (try clear hi)) | (go_at_call 26; (with_reducible refine (r3_Of.calls 1 t130 t131 _ A28.out).mono ?_); rintro e w50 ⟨rfl, hb⟩; replace HB := bs_ HB hb; (try clear hb); (try clear hb2); (try clear hk); (try clear hi)) | (go_at_call 26; (with_reducible refine (r3_Of.calls 0 t135 t136 _ A29.out).mono ?_); rintro e w51 ⟨rfl, hb⟩; replace HB := bs_ HB hb; (try clear hb); (try clear hb2); (try clear hk); (try clear hi)) | (go_at_call 13; (with_reducible refine (grid_Round.calls t130 t131 t135 t136 0 t137 t138 _ ?side1 A30.out).mono ?_); (case side1 => exact lb_ HLD HB); rintro e w52 ⟨rfl, hb⟩; replace HB := bs_ HB hb; (try clear hb); (try clear hb2); (try clear hk); (try clear hi)))
         go_ret
         exact ⟨er_, b_ HB.out⟩
        ·rw [if_neg c27] at H; exact absurd (H.trans (congrArg some hr_.out)) (by decide)
       ·rw [if_neg c24] at H; exact absurd (H.trans (congrArg some hr_.out)) (by decide)
      ·rw [if_neg c20] at H; exact absurd (H.trans (congrArg some hr_.out)) (by decide)
     ·rw [if_neg c15] at H; exact absurd (H.trans (congrArg some hr_.out)) (by decide)
    ·rw [if_neg c12] at H; exact absurd (H.trans (congrArg some hr_.out)) (by decide)
   ·rw [if_neg c9] at H; exact absurd (H.trans (congrArg some hr_.out)) (by decide)
  ·rw [if_neg c6] at H; exact absurd (H.trans (congrArg some hr_.out)) (by decide)
 ·rw [if_neg c3] at H; exact absurd (H.trans (congrArg some hr_.out)) (by decide)
end Go.Proofs.YtmfcpapfikbomaaGreatDoor.Pf5
end

section
namespace Go.Proofs.YtmfcpapfikbomaaGreatDoor.Pf5
end Go.Proofs.YtmfcpapfikbomaaGreatDoor.Pf5
end

section
namespace Go.Proofs.YtmfcpapfikbomaaGreatDoor
open Go.RowKit
theorem fixed5_true : Pf5.dl5_fixed.f = some true := by kernel_rfl
def dl5_fixed.f : Option Bool := some true
theorem dl5_fixed.calls (r : Bool) (w : World) (hL_ : Laid w) (h : dl5_fixed.f = some r) :
  Calls Tryz.prog 10 #[] w fun e w' => e = .returned (.bool r) ∧ Below w.heap.size w w' :=
 Pf5.dl5_fixed.calls r w hL_ ⟨(Option.some.inj h).symm⟩ (fixed5_true.trans h)
end Go.Proofs.YtmfcpapfikbomaaGreatDoor
end

section
namespace Go.Proofs.YtmfcpapfikbomaaGreatDoor
open Go.ChangeShapes Go.WideShapes Go.ChangeAt Go.RowKit Go.Deep Go.WideElems Go.Maps Go.Joins
section
variable {H : Type} {enc : TypeId × Value → H} {P : Program} {w : World} {base : Nat} {spare : Nat → Bool} {held : Bool}
theorem str_of {t : TypeId} {n : Nat} {v : Value} {y : DataW H × List MemPlace} (ht : P.underlying t = some .string) (h : DataW.trod enc P w base spare held n t [v] = some y) : ∃ s : ByteArray, v = .string s ∧ y = (.lit (.string s.data.toList), []) ∧ s.size ≤ maxLen := by
 obtain ⟨s, h1, h2, h3⟩ := DataW.trod_string ht h
 exact ⟨s, by simpa using h1, h2, h3⟩
theorem str_mk {t : TypeId} {s : ByteArray} (ht : P.underlying t = some .string) (hs : s.size ≤ maxLen) : ∃ n, DataW.trod enc P w base spare held n t [.string s] = some (.lit (.string s.data.toList), []) := ⟨1, by simp [DataW.trod, ht, hs]⟩
theorem open_s2 {r : Reach} {b0 : Nat} {t : TypeId} {f0 f1 : Field} {v : Value} {d : DataW H} {p : List MemPlace} (hs : P.underlying t = some (.struct #[f0, f1])) (h0 : P.underlying f0.type = some .string) (h1 : P.underlying f1.type = some .string) (hone : oneCellFields P #[f0, f1] = true) (hC : P.cellsOf t = 2)
  (hv : Value.okWide P w r b0 t v) (h : DataW.Trod enc P w base spare held t v d p) :
  ∃ a b : ByteArray, v = .agg #[.string a, .string b] ∧ d = .agg [.lit (.string a.data.toList), .lit (.string b.data.toList)] ∧ p = [] ∧ a.size ≤ maxLen ∧ b.size ≤ maxLen := by
 obtain ⟨v0, v1, y0, y1, n, rfl, rfl, rfl, e0, e1⟩ := open_agg2 hs hone hC hv h
 obtain ⟨a, rfl, rfl, ha⟩ := str_of h0 e0
 obtain ⟨b, rfl, rfl, hb⟩ := str_of h1 e1
 exact ⟨a, b, rfl, rfl, rfl, ha, hb⟩
theorem shut_s2 {t : TypeId} {f0 f1 : Field} {a b : ByteArray} (hs : P.underlying t = some (.struct #[f0, f1])) (h0 : P.underlying f0.type = some .string) (h1 : P.underlying f1.type = some .string) (hone : oneCellFields P #[f0, f1] = true) (hC : P.cellsOf t = 2) (ha : a.size ≤ maxLen) (hb : b.size ≤ maxLen) :
  DataW.Trod enc P w base spare held t (.agg #[.string a, .string b]) (.agg [.lit (.string a.data.toList), .lit (.string b.data.toList)]) [] :=
 shut_agg2 (y0 := (.lit (.string a.data.toList), [])) (y1 := (.lit (.string b.data.toList), [])) hs hone hC (str_mk h0 ha) (str_mk h1 hb)
end
end Go.Proofs.YtmfcpapfikbomaaGreatDoor
end

section
namespace Go.Proofs.YtmfcpapfikbomaaGreatDoor
open Go.ChangeShapes Go.WideShapes Go.ChangeAt Go.RowKit Go.Lib
abbrev laidL : List (String × DataW Unit) := [("math/bits.deBruijn32tab", Rows.laid_math_bits_deBruijn32tab), ("math/bits.deBruijn64tab", Rows.laid_math_bits_deBruijn64tab), ("internal/strconv.uint64pow10", Rows.laid_internal_strconv_uint64pow10), ("strconv.ErrRange", Rows.laid_strconv_ErrRange), ("strconv.ErrSyntax", Rows.laid_strconv_ErrSyntax)]
theorem own : ownKnob Tryz.prog.godebug = none := by kernel_rfl
theorem tabType : (Tryz.prog.globals[2]?).map (·.type) = some 132 := by kernel_rfl
theorem rngType : (Tryz.prog.globals[1]?).map (·.type) = some 89 := by kernel_rfl
theorem tabCells : Tryz.prog.cellsOf 132 = 20 := by kernel_rfl
theorem u64Cells : Tryz.prog.cellsOf 111 = 1 := by kernel_rfl
theorem errCells : Tryz.prog.cellsOf 138 = 1 := by kernel_rfl
theorem strCells : Tryz.prog.cellsOf 9 = 1 := by kernel_rfl
theorem starErr : "*" ++ "errors.errorString" = "*errors.errorString" := by decide
theorem rowErr (u : TypeId) (h : Tryz.prog.typeName? 3 u = some "*errors.errorString") : u = 136 :=
 typeName_ptr_named (nm := "errors.errorString") (by rw [starErr]; kernel_rfl) (by kernel_rfl) (by decide) u (by rw [starErr]; exact h)
theorem laid_tab_eq : (Rows.laid_internal_strconv_uint64pow10 : DataW Unit) = tabData .u64 pow10Tab := by kernel_rfl
theorem laid_of {W : World} (h : laidMetH Tryz.prog laidL W) : Laid W := by
 rw [MakeChecks.laidMetH_plain _ _ _ (by kernel_rfl)] at h
 have hL := h
 obtain ⟨a1, s1, hv1, -, -, -⟩ := laid_sentinel (hL.tail.tail.tail) gRng rngType Tryz.underlying89 rowErr Tryz.underlying136 Tryz.underlying138 rfl rfl Tryz.underlying9 errCells strCells
 refine ⟨tabIs_of_head gTab tabType Tryz.underlying132 Tryz.underlying111 u64Cells tabCells (by rw [← laid_tab_eq]; exact hL.tail.tail), ⟨_, _, hv1⟩⟩
theorem door_met (os : Os) (args : Array Value) : laidMetH Tryz.prog laidL ((World.doorLaid Tryz.prog 4000 os).forCall (fun _ _ => 0) ⟨#[], args, []⟩).memory :=
 laidMetH_of_parts3 (fuel := 8) (laidMet_of_run' 8 (by kernel_rfl) (by kernel_rfl)) (by kernel_rfl) (by kernel_rfl)
end Go.Proofs.YtmfcpapfikbomaaGreatDoor
end
