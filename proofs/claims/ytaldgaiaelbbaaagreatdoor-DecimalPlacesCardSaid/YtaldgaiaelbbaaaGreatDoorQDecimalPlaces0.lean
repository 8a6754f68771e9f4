/-
The law DecimalPlaces holds at every input that its row lets in: the row's walk and its plain law, tied to the program's text. Conditions: none beyond the given row's own.
Parts of the proof, in build order: LDecimalPlaces0, LDecimalPlaces1, LDecimalPlaces2, LDecimalPlaces, PuDecimalPlaces, RowDecimalPlaces.
-/
import Derived.Test.YtaldgaiaelbbaaaGreatDoorC4
import Derived.Test.YtaldgaiaelbbaaaGreatDoorProg
import Derived.Below
import Derived.Deep.Draws
import Derived.Deep.AppendLies
import Derived.Maps.AppendAt
import Derived.OwnWalk
import Derived.Laws.BytesArg
import Derived.Laws.MakeOwn
import Derived.Laws.OwnMore
import Derived.Deep.OwnRows
import Derived.Tactics
import Derived.Lib.ConvBytes
import Derived.Laws.Slices
import Derived.WalkKit
import Derived.KernelRfl
import Derived.RowKit3
import Derived.Deep.LoopGhost
import Derived.Deep.QuietTactic
import Derived.BigQuiet
import Derived.WideLaws
import Derived.Deep.DeepCutAuto
import Derived.Deep.CutBlock
import Derived.Deep.RegionHeld3
import Derived.Laws.Rows
import Derived.Lib.AppendStr
import Derived.ArgAppend
import Derived.Laws.IdiomCopy
import Derived.OrdersHeld
import Derived.Laws.BitsLemmas
import Derived.RowKit
import Derived.Test.YtaldgaiaelbbaaaGreatDoorC0
import Derived.Test.YtaldgaiaelbbaaaGreatDoorC5
import Derived.Test.YtaldgaiaelbbaaaGreatDoorC2
import Derived.Test.YtaldgaiaelbbaaaGreatDoorTie
import Derived.Test.YtaldgaiaelbbaaaGreatDoorCards
import Derived.SevenTiedAt
set_option linter.unusedVariables false
set_option linter.unusedSimpArgs false
open Go.RowKit Go.Proofs.YtaldgaiaelbbaaaGreatDoorW.PrintWords Go.Proofs.YtaldgaiaelbbaaaGreatDoorW.PrintLast Go.Proofs.YtaldgaiaelbbaaaGreatDoorW.PrintMore
attribute [local go_sem] max2_int min2_int max_two min_two max_three min_three max_four min_four   -- for this text's walks alone
section
namespace Go.Proofs.YtaldgaiaelbbaaaGreatDoor.LDecimalPlaces
def errW : Option Int → Value
 | none => .nilIface
 | some c => .iface 0 (.int .i64 c)
theorem errW_none : errW none = .nilIface := rfl
theorem errW_some (c : Int) : errW (some c) = .iface 0 (.int .i64 c) := rfl
theorem info23 : (Tryz.prog.info? 23).map (fun i => (i.zero, i.size, i.bytes)) = some (some (.agg #[(.string ⟨#[]⟩), (.string ⟨#[]⟩)]), 2, 32) := by kernel_rfl
end Go.Proofs.YtaldgaiaelbbaaaGreatDoor.LDecimalPlaces
end

section
namespace Go.Proofs.YtaldgaiaelbbaaaGreatDoor.LDecimalPlaces
end Go.Proofs.YtaldgaiaelbbaaaGreatDoor.LDecimalPlaces
end

section
namespace Go.Proofs.YtaldgaiaelbbaaaGreatDoor.LDecimalPlaces
open Go.Proofs.YtaldgaiaelbbaaaGreatDoor.Pz (S23 k23 k23_mkM)
def dl4_DecimalPlaces.j0 : Nat → Int → Bool → ByteArray → ByteArray → Option (Bool)
 | 0, _, _, _, _ => none
 | k + 1, x1, x35, x102000, x102001 => if x35 = true then ((dl4_fixed.f).bind fun t107 => (some t107)) else ((decimal_Places.f x102000 x102001).bind fun bt108 => ((r4_Zeros.f x1).bind fun t110 => (if 1 + t110.size ≤ 9223372036854775807 then ((r3_Mul.f x102000 x102001 ((⟨#[49]⟩ : ByteArray) ++ t110) (⟨#[49]⟩ : ByteArray)).bind fun bt111 => (if bt108.2 = true then (some ((bt111.2.toList == ([49] : List UInt8)) == (decide (x1 ≥ bt108.1)))) else (some ((bt111.2.toList == ([49] : List UInt8)) == false)))) else (none))))
def dl4_DecimalPlaces.f (k : Nat) (a0_0 : ByteArray) (a0_1 : ByteArray) (a1 : Int) : Option (Bool) := (dl4_fixed.f).bind fun t102 => (if t102 = true then (if (a0_0.size : Int) > 30 then (dl4_DecimalPlaces.j0 k a1 true a0_0 a0_1) else (if (a0_1.size : Int) > 30 then (dl4_DecimalPlaces.j0 k a1 true a0_0 a0_1) else ((r3_Good.f (([(⟨a0_0, a0_1⟩ : S23)] : List (S23)))).bind fun t106 => (if t106 = true then (if a1 < 0 then (dl4_DecimalPlaces.j0 k a1 true a0_0 a0_1) else (dl4_DecimalPlaces.j0 k a1 (decide (a1 > 100)) a0_0 a0_1)) else (dl4_DecimalPlaces.j0 k a1 true a0_0 a0_1))))) else (dl4_DecimalPlaces.j0 k a1 true a0_0 a0_1))
def dl4_DecimalPlaces.T4 : Bool × List (List Nat × List Nat) := (true, [([], []), ([], []), ([1], [1]), ([2], [2]), ([3], [3]), ([0, 4, 2], [0, 4]), ([], []), ([6, 5, 5, 0, 1, 2, 3, 4, 5, 6], [5, 6])])
def dl4_DecimalPlaces.B4 : List Nat := [0, 0, 2, 6, 14, 31, 0, 127]
theorem dl4_DecimalPlaces.tab4 : rtab .any (opsOf Tryz.f5 4) = dl4_DecimalPlaces.T4 := by kernel_rfl
theorem dl4_DecimalPlaces.bits4 : waitsOk dl4_DecimalPlaces.T4.2 dl4_DecimalPlaces.B4 = true := by kernel_rfl
set_option maxHeartbeats 8000000 in
set_option maxRecDepth 100000 in
theorem dl4_DecimalPlaces.calls (k : Nat) (a0_0 : ByteArray) (a0_1 : ByteArray) (a1 : Int) (r : Bool) (w : World) (hL_ : Laid w) (hr_ : Aside0 (r = true)) (h : dl4_DecimalPlaces.f k a0_0 a0_1 a1 = some r) :
  Calls Tryz.prog 5 #[.agg #[.string a0_0, .string a0_1], .int .i64 a1] w fun e w' => e = .returned (.bool r) ∧ Below w.heap.size w w' := by
 have hu23 := Tryz.underlying23; have HLD := Aside0.mk hL_; clear hL_; have HB := Aside0.mk (Below.refl w.heap.size w); have H := h; unfold dl4_DecimalPlaces.f at H; clear h; have HC3 := Aside0.mk H; clear H; go_enter Tryz.func5, Tryz.ntmps5
 go_upto_region 1 with (first | ((with_reducible refine gate_dst (N := 2) rfl ?_); (try (refine gate_guard (by rfl) ?_; dsimp only)); refine be_ 2 #[.string a0_0, .string a0_1] 23 ?_; intro gb101 hg w4 hbox hb; have BK101 := Aside0.mk (hbox); have GW101 := ge_ HB hg; have GE101 := ge_ HB hg; replace HB := bs_ HB hb; clear hb hbox hg))
 (try simp only [Act.put, List.setIfInBounds_toArray, List.set_cons_zero, List.set_cons_succ])
 go_cut [35] (fun v35 wc => ∃ (kq : Nat) (x35_2 : Bool), v35 = .bool x35_2 ∧ Aside0 (dl4_DecimalPlaces.j0 kq a1 x35_2 a0_0 a0_1 = some r) ∧ Aside0 (kq ≤ k) ∧ Aside0 (wc.heap[gb101]? = some (.cells #[.string a0_0, .string a0_1] 23 (0, 0))) ∧ Aside0 (Below w.heap.size w wc))
 case first =>
  have H := HC3.out; clear HC3; obtain ⟨t102, A5, H⟩ := bi_ H; by_cases c6 : t102 = true
  ·subst c6; rw [if_pos rfl] at H; by_cases c7 : (a0_0.size : Int) > 30
   ·rw [if_pos c7] at H; have c7b0 : decide (30 < (a0_0.size : Int)) = true := decide_eq_true c7; have c7b1 : decide (30 < a0_0.size) = true := decide_eq_true (by omega); clear c7; (first | rw [c7b0] | (simp only [i64_w, i32_w]; rw [c7b0]) | skip); have H' := Aside0.mk H; clear H
    go_wp2_with (first | (refine gl_ 8 Tryz.func9 #[] ?_; refine mo_ (dl4_fixed.calls  true _ (lb_ HLD HB) A5.out) ?_; intro w8 hb; replace BK101 := kb_ BK101 hb; replace HB := bs_ HB hb; (try clear hb); (try clear hb2); (try clear hk); (try clear hi); have hcz9_0 := bc_ BK101 0 rfl; have hcz9_1 := bc_ BK101 1 rfl; have hfz9_0 := blk_frozen BK101.out 0; have hfz9_1 := blk_frozen BK101.out 1))
    go_meet
    case rel => exact ⟨_, (true), rl_, H', ⟨by first | omega | exact Nat.le_refl _⟩, ⟨k_ BK101.out⟩, ⟨b_ HB.out⟩⟩
   ·rw [if_neg c7] at H; have c7b0 : decide (30 < (a0_0.size : Int)) = false := decide_eq_false c7; have c7b1 : decide (30 < a0_0.size) = false := decide_eq_false (by omega); clear c7; (first | rw [c7b0] | (simp only [i64_w, i32_w]; rw [c7b0]) | skip); by_cases c10 : (a0_1.size : Int) > 30
    ·rw [if_pos c10] at H; have c10b0 : decide (30 < (a0_1.size : Int)) = true := decide_eq_true c10; have c10b1 : decide (30 < a0_1.size) = true := decide_eq_true (by omega); clear c10; have H' := Aside0.mk H; clear H
     go_wp2_with (first | (refine gl_ 8 Tryz.func9 #[] ?_; refine mo_ (dl4_fixed.calls  true _ (lb_ HLD HB) A5.out) ?_; intro w11 hb; replace BK101 := kb_ BK101 hb; replace HB := bs_ HB hb; (try clear hb); (try clear hb2); (try clear hk); (try clear hi); have hcz12_0 := bc_ BK101 0 rfl; have hcz12_1 := bc_ BK101 1 rfl; have hfz12_0 := blk_frozen BK101.out 0; have hfz12_1 := blk_frozen BK101.out 1))
     go_meet
     case rel => exact ⟨_, (true), rl_, H', ⟨by first | omega | exact Nat.le_refl _⟩, ⟨k_ BK101.out⟩, ⟨b_ HB.out⟩⟩
    ·rw [if_neg c10] at H; have c10b0 : decide (30 < (a0_1.size : Int)) = false := decide_eq_false c10; have c10b1 : decide (30 < a0_1.size) = false := decide_eq_false (by omega); clear c10; obtain ⟨y103, hy103⟩ : ∃ y_ : List (S23), y_ = (([(⟨a0_0, a0_1⟩ : S23)] : List (S23))) := ⟨_, rfl⟩
     replace H : ((r3_Good.f y103).bind fun t106 => (if t106 = true then (if a1 < 0 then (dl4_DecimalPlaces.j0 k a1 true a0_0 a0_1) else (dl4_DecimalPlaces.j0 k a1 (decide (a1 > 100)) a0_0 a0_1)) else (dl4_DecimalPlaces.j0 k a1 true a0_0 a0_1))) = some r := by first | (rw [hy103]; with_reducible exact H) | (have H2_ := (Option.bind_some _ _).symm.trans H; rw [hy103]; with_reducible exact H2_) | (have H2_ := (Option.bind_some _ _).symm.trans H; with_reducible exact H2_) | with_reducible exact H | (rw [hy103]; exact H) | exact H
     have Ny103 := Aside0.mk hy103; clear hy103; obtain ⟨t106, A13, H⟩ := bi_ H; by_cases c14 : t106 = true
     ·subst c14; rw [if_pos rfl] at H; by_cases c15 : a1 < 0
      ·rw [if_pos c15] at H; have c15b0 : decide (a1 < 0) = true := decide_eq_true c15; clear c15; have H' := Aside0.mk H; clear H
       go_wp2_with (first | (refine gl_ 8 Tryz.func9 #[] ?_; refine mo_ (dl4_fixed.calls  true _ (lb_ HLD HB) A5.out) ?_; intro w16 hb; replace BK101 := kb_ BK101 hb; replace HB := bs_ HB hb; (try clear hb); (try clear hb2); (try clear hk); (try clear hi); have hcz17_0 := bc_ BK101 0 rfl; have hcz17_1 := bc_ BK101 1 rfl; have hfz17_0 := blk_frozen BK101.out 0; have hfz17_1 := blk_frozen BK101.out 1) | ((with_reducible refine gate_dst (N := 24) rfl ?_); (try (refine gate_guard (by rfl) ?_; dsimp only)); refine Kd.R_lit k23 _ 23 ?hg (N := 24) ?hd (xs := ([(⟨a0_0, a0_1⟩ : S23)] : List (S23))) (inner := [.string a0_0, .string a0_1]) (ok := fun _ => True) (okp := fun _ => True) ?hr ?hp (fun _ hk => hk) trivial (Below.refl _ _) (Nat.le_refl _) (by simp) ?_; (case hd => rfl); (case hg => rfl); (case hr => first | (go_simp; done) | (go_simp; rfl)); (case hp => exact (Reps.c2 (show Kd.M k23 _ _ _ (⟨a0_0, a0_1⟩ : S23) [.string a0_0, .string a0_1] from (k23_mkM _ _ _ (⟨a0_0, a0_1⟩ : S23) )) (Reps.none _ _))); intro v104 w18 ho19 hb hg_ hnew_; clear hg_ hnew_; (first | rw [← Ny103.out] at ho19 | (simp only [Int.reduceToNat] at ho19; rw [← Ny103.out] at ho19)); have HO105 := Aside0.mk (Kd.R_lower (Kd.R_newB ho19 (g := gb101) (o := .cells #[.string a0_0, .string a0_1] 23 (0, 0)) (k_ BK101.out)) (below_size (b_ HB.out))); replace BK101 := kb_ BK101 hb; replace HB := bs_ HB hb; clear hb ho19; obtain ⟨Ao20, co20, eo20⟩ := Kd.R_slice HO105.out; subst eo20) | (go_at_call 16; (with_reducible refine (r3_Good.calls _ _ y103 true _ ?side1 ?side2 A13.out).mono ?_); (case side1 => exact c_ (Kd.R_reads' HO105.out).2.2); (case side2 => exact (Kd.R_reads' HO105.out).2.1); rintro e w21 ⟨rfl, hb⟩; replace HO105 := Aside0.mk (Kd.R_below (w_ HO105.out) hb); replace BK101 := kb_ BK101 hb; replace HB := bs_ HB hb; (try clear hb); (try clear hb2); (try clear hk); (try clear hi)))
       go_meet
       case rel => exact ⟨_, (true), rl_, H', ⟨by first | omega | exact Nat.le_refl _⟩, ⟨k_ BK101.out⟩, ⟨b_ HB.out⟩⟩
      ·rw [if_neg c15] at H; have c15b0 : decide (a1 < 0) = false := decide_eq_false c15; clear c15; have H' := Aside0.mk H; clear H
       go_wp2_with (first | (refine gl_ 8 Tryz.func9 #[] ?_; refine mo_ (dl4_fixed.calls  true _ (lb_ HLD HB) A5.out) ?_; intro w22 hb; replace BK101 := kb_ BK101 hb; replace HB := bs_ HB hb; (try clear hb); (try clear hb2); (try clear hk); (try clear hi); have hcz23_0 := bc_ BK101 0 rfl; have hcz23_1 := bc_ BK101 1 rfl; have hfz23_0 := blk_frozen BK101.out 0; have hfz23_1 := blk_frozen BK101.out 1) | ((with_reducible refine gate_dst (N := 24) rfl ?_); (try (refine gate_guard (by rfl) ?_; dsimp only)); refine Kd.R_lit k23 _ 23 ?hg (N := 24) ?hd (xs := ([(⟨a0_0, a0_1⟩ : S23)] : List (S23))) (inner := [.string a0_0, .string a0_1]) (ok := fun _ => True) (okp := fun _ => True) ?hr ?hp (fun _ hk => hk) trivial (Below.refl _ _) (Nat.le_refl _) (by simp) ?_; (case hd => rfl); (case hg => rfl); (case hr => first | (go_simp; done) | (go_simp; rfl)); (case hp => exact (Reps.c2 (show Kd.M k23 _ _ _ (⟨a0_0, a0_1⟩ : S23) [.string a0_0, .string a0_1] from (k23_mkM _ _ _ (⟨a0_0, a0_1⟩ : S23) )) (Reps.none _ _))); intro v104 w24 ho25 hb hg_ hnew_; clear hg_ hnew_; (first | rw [← Ny103.out] at ho25 | (simp only [Int.reduceToNat] at ho25; rw [← Ny103.out] at ho25)); have HO105 := Aside0.mk (Kd.R_lower (Kd.R_newB ho25 (g := gb101) (o := .cells #[.string a0_0, .string a0_1] 23 (0, 0)) (k_ BK101.out)) (below_size (b_ HB.out))); replace BK101 := kb_ BK101 hb; replace HB := bs_ HB hb; clear hb ho25; obtain ⟨Ao26, co26, eo26⟩ := Kd.R_slice HO105.out; subst eo26) | (go_at_call 16; (with_reducible refine (r3_Good.calls _ _ y103 true _ ?side1 ?side2 A13.out).mono ?_); (case side1 => exact c_ (Kd.R_reads' HO105.out).2.2); (case side2 => exact (Kd.R_reads' HO105.out).2.1); rintro e w27 ⟨rfl, hb⟩; replace HO105 := Aside0.mk (Kd.R_below (w_ HO105.out) hb); replace BK101 := kb_ BK101 hb; replace HB := bs_ HB hb; (try clear hb); (try clear hb2); (try clear hk); (try clear hi)))
       go_meet
       case rel => exact ⟨_, (decide (a1 > 100)), rl_, H', ⟨by first | omega | exact Nat.le_refl _⟩, ⟨k_ BK101.out⟩, ⟨b_ HB.out⟩⟩
     ·replace c14 := Bool.eq_false_iff.mpr c14; subst c14; rw [if_neg nf_] at H; have H' := Aside0.mk H; clear H
      go_wp2_with (first | (refine gl_ 8 Tryz.func9 #[] ?_; refine mo_ (dl4_fixed.calls  true _ (lb_ HLD HB) A5.out) ?_; intro w28 hb; replace BK101 := kb_ BK101 hb; replace HB := bs_ HB hb; (try clear hb); (try clear hb2); (try clear hk); (try clear hi); have hcz29_0 := bc_ BK101 0 rfl; have hcz29_1 := bc_ BK101 1 rfl; have hfz29_0 := blk_frozen BK101.out 0; have hfz29_1 := blk_frozen BK101.out 1) | ((with_reducible refine gate_dst (N := 24) rfl ?_); (try (refine gate_guard (by rfl) ?_; dsimp only)); refine Kd.R_lit k23 _ 23 ?hg (N := 24) ?hd (xs := ([(⟨a0_0, a0_1⟩ : S23)] : List (S23))) (inner := [.string a0_0, .string a0_1]) (ok := fun _ => True) (okp := fun _ => True) ?hr ?hp (fun _ hk => hk) trivial (Below.refl _ _) (Nat.le_refl _) (by simp) ?_; (case hd => rfl); (case hg => rfl); (case hr => first | (go_simp; done) | (go_simp; rfl)); (case hp => exact (Reps.c2 (show Kd.M k23 _ _ _ (⟨a0_0, a0_1⟩ : S23) [.string a0_0, .string a0_1] from (k23_mkM _ _ _ (⟨a0_0, a0_1⟩ : S23) )) (Reps.none _ _))); intro v104 w30 ho31 hb hg_ hnew_; clear hg_ hnew_; (first | rw [← Ny103.out] at ho31 | (simp only [Int.reduceToNat] at ho31; rw [← Ny103.out] at ho31)); have HO105 := Aside0.mk (Kd.R_lower (Kd.R_newB ho31 (g := gb101) (o := .cells #[.string a0_0, .string a0_1] 23 (0, 0)) (k_ BK101.out)) (below_size (b_ HB.out))); replace BK101 := kb_ BK101 hb; replace HB := bs_ HB hb; clear hb ho31; obtain ⟨Ao32, co32, eo32⟩ := Kd.R_slice HO105.out; subst eo32) | (go_at_call 16; (with_reducible refine (r3_Good.calls _ _ y103 false _ ?side1 ?side2 A13.out).mono ?_); (case side1 => exact c_ (Kd.R_reads' HO105.out).2.2); (case side2 => exact (Kd.R_reads' HO105.out).2.1); rintro e w33 ⟨rfl, hb⟩; replace HO105 := Aside0.mk (Kd.R_below (w_ HO105.out) hb); replace BK101 := kb_ BK101 hb; replace HB := bs_ HB hb; (try clear hb); (try clear hb2); (try clear hk); (try clear hi)))
      go_meet
      case rel => exact ⟨_, (true), rl_, H', ⟨by first | omega | exact Nat.le_refl _⟩, ⟨k_ BK101.out⟩, ⟨b_ HB.out⟩⟩
  ·replace c6 := Bool.eq_false_iff.mpr c6; subst c6; rw [if_neg nf_] at H; have H' := Aside0.mk H; clear H
   go_wp2_with (first | (refine gl_ 8 Tryz.func9 #[] ?_; refine mo_ (dl4_fixed.calls  false _ (lb_ HLD HB) A5.out) ?_; intro w34 hb; replace BK101 := kb_ BK101 hb; replace HB := bs_ HB hb; (try clear hb); (try clear hb2); (try clear hk); (try clear hi)))
   go_meet
   case rel => exact ⟨_, (true), rl_, H', ⟨by first | omega | exact Nat.le_refl _⟩, ⟨k_ BK101.out⟩, ⟨b_ HB.out⟩⟩
 case rest =>
  clear HC3; (try clear c1); (try clear c2); (try clear p2); (try clear c5); (try clear c6); (try clear c7); (try clear c7b0); (try clear c7b1); (try clear c9); (try clear c10); (try clear c10b0); (try clear c10b1); (try clear c14); (try clear c15); (try clear c15b0); (try clear hcz12_0); (try clear hcz12_1); (try clear hcz17_0); (try clear hcz17_1); (try clear hcz23_0); (try clear hcz23_1); (try clear hcz29_0); (try clear hcz29_1); (try clear hcz9_0); (try clear hcz9_1); (try clear hfz12_0); (try clear hfz12_1); (try clear hfz17_0); (try clear hfz17_1); (try clear hfz23_0); (try clear hfz23_1); (try clear hfz29_0); (try clear hfz29_1); (try clear hfz9_0); (try clear hfz9_1); obtain ⟨kq, x35_2, rfl, HA, HJ2, BK101, HB⟩ := hcut
  cases kq with
  | zero => exact absurd HA.out (by simp [dl4_DecimalPlaces.j0])
  | succ kj2 =>
   have H := HA.out; clear HA; simp only [dl4_DecimalPlaces.j0] at H; by_cases c35 : x35_2 = true
   ·subst c35; rw [if_pos rfl] at H; obtain ⟨t107, A36, H⟩ := bi_ H; obtain rfl := Option.some.inj H
    go_wp2_with (first | (refine gl_ 36 Tryz.func9 #[] ?_; refine mo_ (dl4_fixed.calls  t107 _ (lb_ HLD HB) A36.out) ?_; intro w37 hb; replace BK101 := kb_ BK101 hb; replace HB := bs_ HB hb; (try clear hb); (try clear hb2); (try clear hk); (try clear hi)))
    go_ret
    exact ⟨er_, b_ HB.out⟩
   ·replace c35 := Bool.eq_false_iff.mpr c35; subst c35; rw [if_neg nf_] at H; obtain ⟨⟨t108, t109⟩, A38, H⟩ := bi_ H; (try dsimp only at H); obtain ⟨t110, A39, H⟩ := bi_ H; by_cases c40 : 1 + t110.size ≤ 9223372036854775807
    ·rw [if_pos c40] at H; have c40b0 := eq_true c40; have c40b1 : decide (1 + t110.size ≤ 9223372036854775807) = true := decide_eq_true c40
     try have c40b2 : (9223372036854775807 < 1 + t110.size) = False := eq_false (Nat.not_lt.2 c40)
     obtain ⟨⟨t111, t112⟩, A41, H⟩ := bi_ H; (try dsimp only at H); by_cases c42 : t109 = true
     ·subst c42; rw [if_pos rfl] at H; obtain rfl := Option.some.inj H; have hcz43_0 := bc_ BK101 0 rfl; have hcz43_1 := bc_ BK101 1 rfl; have hfz43_0 := blk_frozen BK101.out 0; have hfz43_1 := blk_frozen BK101.out 1
      try go_wp2_with (first | (refine gl_ 39 Tryz.func12 #[.agg #[.string a0_0, .string a0_1]] ?_; refine mo_ (decimal_Places.calls a0_0 a0_1 t108 true _ (lb_ HLD HB) A38.out) ?_; intro w44 hb; replace BK101 := kb_ BK101 hb; replace HB := bs_ HB hb; (try clear hb); (try clear hb2); (try clear hk); (try clear hi)))
      replace BK101 := Aside0.mk (blk_drew BK101.out); replace HB := Aside0.mk (below_drew1 HB.out); refine sa_ 8 (fun w' => w'.cell? ⟨gb101, 0, none⟩ = some (.string a0_0) ∧ w'.cell? ⟨gb101, 1, none⟩ = some (.string a0_1)) (fun hHeld => ?_); refine with_tabW dl4_DecimalPlaces.tab4 dl4_DecimalPlaces.bits4 (fun HT_ HW_ => ?_); generalize w44.drew = w45 at BK101 HB hHeld ⊢; refine pu_ 1 43 rfl rfl HT_ ?_; refine t2_ 0 42 rfl rfl HT_ HW_ hHeld ?_; refine join_ (σ := Nat) 1 #[true, true, true, true, true, true, true, false] (fun s_ => [(44, .string t110), (47, .agg #[.string t111, .string t112]), (7, .pointer (some ⟨s_, 0, none⟩)), (45, .string ((⟨#[49]⟩ : ByteArray) ++ t110)), (46, .agg #[.string ((⟨#[49]⟩ : ByteArray) ++ t110), .string (⟨#[49]⟩ : ByteArray)])]) (fun s_ w' => (w'.cell? ⟨gb101, 0, none⟩ = some (.string a0_0) ∧ w'.cell? ⟨gb101, 1, none⟩ = some (.string a0_1)) ∧ (w'.heap[gb101]? = some (.cells #[.string a0_0, .string a0_1] 23 (0, 0))) ∧ (w'.heap[s_]? = some (.cells #[.string (⟨#[]⟩ : ByteArray), .string (⟨#[]⟩ : ByteArray)] 23 (0, 0))) ∧ (w.heap.size ≤ s_) ∧ (w.heap.size ≤ s_) ∧ (gb101 ≠ s_) ∧ (s_ ≠ gb101) ∧ (Below w.heap.size w w')) ?_ ?_; rotate_left
      ·intro hCont; refine two_ (i := 2) (j := 6) (Ni := some 44) (Nj := some 7) #[true, true, true, false, false, false, false, false] #[true, true, false, false, false, false, true, false] rfl rfl rfl rfl (two_of HT_.out (by kernel_rfl)) (by decide) (by decide) (fun K hK => ?_) (fun K hK => ?_)
       ·skip; refine gs_ Tryz.func18 #[.int .i64 a1] ?_; refine mo_ (r4_Zeros.calls a1 t110 _ A39.out) ?_; intro w46 hb; replace BK101 := kb_ BK101 hb; replace HB := bs_ HB hb; (try clear hb); refine hk_ hK (fun hHeld => ?_); clear hK K; refine nm_ ?_; refine pu_ 3 45 rfl rfl HT_ ?_; refine pu_ 4 46 rfl rfl HT_ ?_; refine two_ (i := 5) (j := 6) (Ni := some 47) (Nj := some 7) #[true, true, true, true, true, true, false, false] #[true, true, true, true, true, false, true, false] rfl rfl rfl rfl (two_of HT_.out (by kernel_rfl)) (by decide) (by decide) (fun K hK => ?_) (fun K hK => ?_)
        ·skip; refine gs_ Tryz.func17 #[.agg #[.string a0_0, .string a0_1], .agg #[.string ((⟨#[49]⟩ : ByteArray) ++ t110), .string (⟨#[49]⟩ : ByteArray)]] ?_; refine mo_ (r3_Mul.calls a0_0 a0_1 ((⟨#[49]⟩ : ByteArray) ++ t110) (⟨#[49]⟩ : ByteArray) t111 t112 _ A41.out) ?_; intro w47 hb; replace BK101 := kb_ BK101 hb; replace HB := bs_ HB hb; (try clear hb); refine hk_ hK (fun hHeld => ?_); clear hK K; refine nm_ ?_; refine on_ 6 (some 7) rfl rfl HT_ (fun K hK => ?_); refine box_step ?hg (N := 7) ?hd (cs := #[.string (⟨#[]⟩ : ByteArray), .string (⟨#[]⟩ : ByteArray)]) (t := 23) ?hr ?_; (case hd => rfl); (case hg => rfl); (case hr => first | (go_simp; done) | (go_simp; rfl)); intro gb113 hg w48 hbox hb; have BK113 := Aside0.mk (hbox); have GW113 := ge_ HB hg; have GE113 := ge_ HB hg; have NB101_113 := nl_ BK101 hg; have NB113_101 := ng_ BK101 hg; replace BK101 := kb_ BK101 hb; replace HB := bs_ HB hb; clear hb hbox hg; refine hk_ hK (fun hHeld => ?_); clear hK K; refine nm_ ?_; exact norm_ pa_ (hCont (gb113) _ ⟨hHeld, (k_ BK101.out), (k_ BK113.out), GW113.out, GE113.out, NB101_113.out, NB113_101.out, (b_ HB.out)⟩)
        ·skip; refine box_step ?hg (N := 7) ?hd (cs := #[.string (⟨#[]⟩ : ByteArray), .string (⟨#[]⟩ : ByteArray)]) (t := 23) ?hr ?_; (case hd => rfl); (case hg => rfl); (case hr => first | (go_simp; done) | (go_simp; rfl)); intro gb113 hg w47 hbox hb; have BK113 := Aside0.mk (hbox); have GW113 := ge_ HB hg; have GE113 := ge_ HB hg; have NB101_113 := nl_ BK101 hg; have NB113_101 := ng_ BK101 hg; replace BK101 := kb_ BK101 hb; replace HB := bs_ HB hb; clear hb hbox hg; refine hk_ hK (fun hHeld => ?_); clear hK K; refine nm_ ?_; refine on_ 5 (some 47) rfl rfl HT_ (fun K hK => ?_); refine gs_ Tryz.func17 #[.agg #[.string a0_0, .string a0_1], .agg #[.string ((⟨#[49]⟩ : ByteArray) ++ t110), .string (⟨#[49]⟩ : ByteArray)]] ?_; refine mo_ (r3_Mul.calls a0_0 a0_1 ((⟨#[49]⟩ : ByteArray) ++ t110) (⟨#[49]⟩ : ByteArray) t111 t112 _ A41.out) ?_; intro w48 hb; replace BK101 := kb_ BK101 hb; replace BK113 := kb_ BK113 hb; replace HB := bs_ HB hb; (try clear hb); refine hk_ hK (fun hHeld => ?_); clear hK K; refine nm_ ?_; exact norm_ pa_ (hCont (gb113) _ ⟨hHeld, (k_ BK101.out), (k_ BK113.out), GW113.out, GE113.out, NB101_113.out, NB113_101.out, (b_ HB.out)⟩)
       ·skip; refine box_step ?hg (N := 7) ?hd (cs := #[.string (⟨#[]⟩ : ByteArray), .string (⟨#[]⟩ : ByteArray)]) (t := 23) ?hr ?_; (case hd => rfl); (case hg => rfl); (case hr => first | (go_simp; done) | (go_simp; rfl)); intro gb113 hg w46 hbox hb; have BK113 := Aside0.mk (hbox); have GW113 := ge_ HB hg; have GE113 := ge_ HB hg; have NB101_113 := nl_ BK101 hg; have NB113_101 := ng_ BK101 hg; replace BK101 := kb_ BK101 hb; replace HB := bs_ HB hb; clear hb hbox hg; refine hk_ hK (fun hHeld => ?_); clear hK K; refine nm_ ?_; refine on_ 2 (some 44) rfl rfl HT_ (fun K hK => ?_); refine gs_ Tryz.func18 #[.int .i64 a1] ?_; refine mo_ (r4_Zeros.calls a1 t110 _ A39.out) ?_; intro w47 hb; replace BK101 := kb_ BK101 hb; replace BK113 := kb_ BK113 hb; replace HB := bs_ HB hb; (try clear hb); refine hk_ hK (fun hHeld => ?_); clear hK K; refine nm_ ?_; refine pu_ 3 45 rfl rfl HT_ ?_; refine pu_ 4 46 rfl rfl HT_ ?_; refine on_ 5 (some 47) rfl rfl HT_ (fun K hK => ?_); refine gs_ Tryz.func17 #[.agg #[.string a0_0, .string a0_1], .agg #[.string ((⟨#[49]⟩ : ByteArray) ++ t110), .string (⟨#[49]⟩ : ByteArray)]] ?_; refine mo_ (r3_Mul.calls a0_0 a0_1 ((⟨#[49]⟩ : ByteArray) ++ t110) (⟨#[49]⟩ : ByteArray) t111 t112 _ A41.out) ?_; intro w48 hb; replace BK101 := kb_ BK101 hb; replace BK113 := kb_ BK113 hb; replace HB := bs_ HB hb; (try clear hb); refine hk_ hK (fun hHeld => ?_); clear hK K; refine nm_ ?_; exact norm_ pa_ (hCont (gb113) _ ⟨hHeld, (k_ BK101.out), (k_ BK113.out), GW113.out, GE113.out, NB101_113.out, NB113_101.out, (b_ HB.out)⟩)
      rintro gb113 w49 ⟨hS_, h0_, h1_, h2_, h3_, h4_, h5_, h6_⟩; have n0_ : Aside0 (w49.heap[gb101]? = some (.cells #[.string a0_0, .string a0_1] 23 (0, 0))) := ⟨h0_⟩; have n1_ : Aside0 (w49.heap[gb113]? = some (.cells #[.string (⟨#[]⟩ : ByteArray), .string (⟨#[]⟩ : ByteArray)] 23 (0, 0))) := ⟨h1_⟩; have n2_ : Aside0 (w.heap.size ≤ gb113) := ⟨h2_⟩; have n3_ : Aside0 (w.heap.size ≤ gb113) := ⟨h3_⟩; have n4_ : Aside0 (gb101 ≠ gb113) := ⟨h4_⟩; have n5_ : Aside0 (gb113 ≠ gb101) := ⟨h5_⟩; have n6_ : Aside0 (Below w.heap.size w w49) := ⟨h6_⟩; clear BK101; clear HB; clear h0_ h1_ h2_ h3_ h4_ h5_ h6_; have BK101 := n0_; have BK113 := n1_; have GW113 := n2_; have GE113 := n3_; have NB101_113 := n4_; have NB113_101 := n5_; have HB := n6_; clear n0_ n1_ n2_ n3_ n4_ n5_ n6_; have hHeld : w49.cell? ⟨gb101, 0, none⟩ = some (.string a0_0) ∧ w49.cell? ⟨gb101, 1, none⟩ = some (.string a0_1) := hS_; refine norm_ (a' := ?_) ?_ ?_; rotate_left
      ·simp only [putAll, Act.put, List.setIfInBounds_toArray, List.set_cons_zero, List.set_cons_succ]
       rfl
      refine on_ 7 none rfl rfl HT_ (fun K hK => ?_); have hs50 := bc_ BK113 0 rfl; have hfs50 := blk_frozen BK113.out 0; have hns50_0 := NB101_113.out; have hms50_0 := NB113_101.out; have hs51 := bc_ BK113 1 rfl; have hfs51 := blk_frozen BK113.out 1; have hns51_0 := NB101_113.out; have hms51_0 := NB113_101.out; refine skip_ (w1 := ?_) (by rfl) rfl ?_ ?_; rotate_left
      ·go_simp
       rfl
      refine hf_ hK hHeld (fun hHeld => ?_); clear hK K; refine done_ (done_of HT_.out (by kernel_rfl)) ?_; have hnb52 := NB113_101.out; have hnc52 := NB101_113.out; have hcz53_0 := bc_ BK113 0 rfl; have hcz53_1 := bc_ BK113 1 rfl; have hfz53_0 := blk_frozen BK113.out 0; have hfz53_1 := blk_frozen BK113.out 1
      try go_wp2
      go_ret
      exact ⟨er_, b_ HB.out⟩
     ·replace c42 := Bool.eq_false_iff.mpr c42; subst c42; rw [if_neg nf_] at H; obtain rfl := Option.some.inj H; have hcz54_0 := bc_ BK101 0 rfl; have hcz54_1 := bc_ BK101 1 rfl; have hfz54_0 := blk_frozen BK101.out 0; have hfz54_1 := blk_frozen BK101.out 1
      try go_wp2_with (first | (refine gl_ 39 Tryz.func12 #[.agg #[.string a0_0, .string a0_1]] ?_; refine mo_ (decimal_Places.calls a0_0 a0_1 t108 false _ (lb_ HLD HB) A38.out) ?_; intro w55 hb; replace BK101 := kb_ BK101 hb; replace HB := bs_ HB hb; (try clear hb); (try clear hb2); (try clear hk); (try clear hi)))
      replace BK101 := Aside0.mk (blk_drew BK101.out); replace HB := Aside0.mk (below_drew1 HB.out); refine sa_ 8 (fun w' => w'.cell? ⟨gb101, 0, none⟩ = some (.string a0_0) ∧ w'.cell? ⟨gb101, 1, none⟩ = some (.string a0_1)) (fun hHeld => ?_); refine with_tabW dl4_DecimalPlaces.tab4 dl4_DecimalPlaces.bits4 (fun HT_ HW_ => ?_); generalize w55.drew = w56 at BK101 HB hHeld ⊢; refine pu_ 1 43 rfl rfl HT_ ?_; refine t2_ 0 42 rfl rfl HT_ HW_ hHeld ?_; refine join_ (σ := Nat) 1 #[true, true, true, true, true, true, true, false] (fun s_ => [(44, .string t110), (47, .agg #[.string t111, .string t112]), (7, .pointer (some ⟨s_, 0, none⟩)), (45, .string ((⟨#[49]⟩ : ByteArray) ++ t110)), (46, .agg #[.string ((⟨#[49]⟩ : ByteArray) ++ t110), .string (⟨#[49]⟩ : ByteArray)])]) (fun s_ w' => (w'.cell? ⟨gb101, 0, none⟩ = some (.string a0_0) ∧ w'.cell? ⟨gb101, 1, none⟩ = some (.string a0_1)) ∧ (w'.heap[gb101]? = some (.cells #[.string a0_0, .string a0_1] 23 (0, 0))) ∧ (w'.heap[s_]? = some (.cells #[.string (⟨#[]⟩ : ByteArray), .string (⟨#[]⟩ : ByteArray)] 23 (0, 0))) ∧ (w.heap.size ≤ s_) ∧ (w.heap.size ≤ s_) ∧ (gb101 ≠ s_) ∧ (s_ ≠ gb101) ∧ (Below w.heap.size w w')) ?_ ?_; rotate_left
      ·intro hCont; refine two_ (i := 2) (j := 6) (Ni := some 44) (Nj := some 7) #[true, true, true, false, false, false, false, false] #[true, true, false, false, false, false, true, false] rfl rfl rfl rfl (two_of HT_.out (by kernel_rfl)) (by decide) (by decide) (fun K hK => ?_) (fun K hK => ?_)
       ·skip; refine gs_ Tryz.func18 #[.int .i64 a1] ?_; refine mo_ (r4_Zeros.calls a1 t110 _ A39.out) ?_; intro w57 hb; replace BK101 := kb_ BK101 hb; replace HB := bs_ HB hb; (try clear hb); refine hk_ hK (fun hHeld => ?_); clear hK K; refine nm_ ?_; refine pu_ 3 45 rfl rfl HT_ ?_; refine pu_ 4 46 rfl rfl HT_ ?_; refine two_ (i := 5) (j := 6) (Ni := some 47) (Nj := some 7) #[true, true, true, true, true, true, false, false] #[true, true, true, true, true, false, true, false] rfl rfl rfl rfl (two_of HT_.out (by kernel_rfl)) (by decide) (by decide) (fun K hK => ?_) (fun K hK => ?_)
        ·skip; refine gs_ Tryz.func17 #[.agg #[.string a0_0, .string a0_1], .agg #[.string ((⟨#[49]⟩ : ByteArray) ++ t110), .string (⟨#[49]⟩ : ByteArray)]] ?_; refine mo_ (r3_Mul.calls a0_0 a0_1 ((⟨#[49]⟩ : ByteArray) ++ t110) (⟨#[49]⟩ : ByteArray) t111 t112 _ A41.out) ?_; intro w58 hb; replace BK101 := kb_ BK101 hb; replace HB := bs_ HB hb; (try clear hb); refine hk_ hK (fun hHeld => ?_); clear hK K; refine nm_ ?_; refine on_ 6 (some 7) rfl rfl HT_ (fun K hK => ?_); refine box_step ?hg (N := 7) ?hd (cs := #[.string (⟨#[]⟩ : ByteArray), .string (⟨#[]⟩ : ByteArray)]) (t := 23) ?hr ?_; (case hd => rfl); (case hg => rfl); (case hr => first | (go_simp; done) | (go_simp; rfl)); intro gb113 hg w59 hbox hb; have BK113 := Aside0.mk (hbox); have GW113 := ge_ HB hg; have GE113 := ge_ HB hg; have NB101_113 := nl_ BK101 hg; have NB113_101 := ng_ BK101 hg; replace BK101 := kb_ BK101 hb; replace HB := bs_ HB hb; clear hb hbox hg; refine hk_ hK (fun hHeld => ?_); clear hK K; refine nm_ ?_; exact norm_ pa_ (hCont (gb113) _ ⟨hHeld, (k_ BK101.out), (k_ BK113.out), GW113.out, GE113.out, NB101_113.out, NB113_101.out, (b_ HB.out)⟩)
        ·skip; refine box_step ?hg (N := 7) ?hd (cs := #[.string (⟨#[]⟩ : ByteArray), .string (⟨#[]⟩ : ByteArray)]) (t := 23) ?hr ?_; (case hd => rfl); (case hg => rfl); (case hr => first | (go_simp; done) | (go_simp; rfl)); intro gb113 hg w58 hbox hb; have BK113 := Aside0.mk (hbox); have GW113 := ge_ HB hg; have GE113 := ge_ HB hg; have NB101_113 := nl_ BK101 hg; have NB113_101 := ng_ BK101 hg; replace BK101 := kb_ BK101 hb; replace HB := bs_ HB hb; clear hb hbox hg; refine hk_ hK (fun hHeld => ?_); clear hK K; refine nm_ ?_; refine on_ 5 (some 47) rfl rfl HT_ (fun K hK => ?_); refine gs_ Tryz.func17 #[.agg #[.string a0_0, .string a0_1], .agg #[.string ((⟨#[49]⟩ : ByteArray) ++ t110), .string (⟨#[49]⟩ : ByteArray)]] ?_; refine mo_ (r3_Mul.calls a0_0 a0_1 ((⟨#[49]⟩ : ByteArray) ++ t110) (⟨#[49]⟩ : ByteArray) t111 t112 _ A41.out) ?_; intro w59 hb; replace BK101 := kb_ BK101 hb; replace BK113 := kb_ BK113 hb; replace HB := bs_ HB hb; (try clear hb); refine hk_ hK (fun hHeld => ?_); clear hK K; refine nm_ ?_; exact norm_ pa_ (hCont (gb113) _ ⟨hHeld, (k_ BK101.out), (k_ BK113.out), GW113.out, GE113.out, NB101_113.out, NB113_101.out, (b_ HB.out)⟩)
       ·skip; refine box_step ?hg (N := 7) ?hd (cs := #[.string (⟨#[]⟩ : ByteArray), .string (⟨#[]⟩ : ByteArray)]) (t := 23) ?hr ?_; (case hd => rfl); (case hg => rfl); (case hr => first | (go_simp; done) | (go_simp; rfl)); intro gb113 hg w57 hbox hb; have BK113 := Aside0.mk (hbox); have GW113 := ge_ HB hg; have GE113 := ge_ HB hg; have NB101_113 := nl_ BK101 hg; have NB113_101 := ng_ BK101 hg; replace BK101 := kb_ BK101 hb; replace HB := bs_ HB hb; clear hb hbox hg; refine hk_ hK (fun hHeld => ?_); clear hK K; refine nm_ ?_; refine on_ 2 (some 44) rfl rfl HT_ (fun K hK => ?_); refine gs_ Tryz.func18 #[.int .i64 a1] ?_; refine mo_ (r4_Zeros.calls a1 t110 _ A39.out) ?_; intro w58 hb; replace BK101 := kb_ BK101 hb; replace BK113 := kb_ BK113 hb; replace HB := bs_ HB hb; (try clear hb); refine hk_ hK (fun hHeld => ?_); clear hK K; refine nm_ ?_; refine pu_ 3 45 rfl rfl HT_ ?_; refine pu_ 4 46 rfl rfl HT_ ?_; refine on_ 5 (some 47) rfl rfl HT_ (fun K hK => ?_); refine gs_ Tryz.func17 #[.agg #[.string a0_0, .string a0_1], .agg #[.string ((⟨#[49]⟩ : ByteArray) ++ t110), .string (⟨#[49]⟩ : ByteArray)]] ?_; refine mo_ (r3_Mul.calls a0_0 a0_1 ((⟨#[49]⟩ : ByteArray) ++ t110) (⟨#[49]⟩ : ByteArray) t111 t112 _ A41.out) ?_; intro w59 hb; replace BK101 := kb_ BK101 hb; replace BK113 := kb_ BK113 hb; replace HB := bs_ HB hb; (try clear hb); refine hk_ hK (fun hHeld => ?_); clear hK K; refine nm_ ?_; exact norm_ pa_ (hCont (gb113) _ ⟨hHeld, (k_ BK101.out), (k_ BK113.out), GW113.out, GE113.out, NB101_113.out, NB113_101.out, (b_ HB.out)⟩)
      rintro gb113 w60 ⟨hS_, h0_, h1_, h2_, h3_, h4_, h5_, h6_⟩; have n0_ : Aside0 (w60.heap[gb101]? = some (.cells #[.string a0_0, .string a0_1] 23 (0, 0))) := ⟨h0_⟩; have n1_ : Aside0 (w60.heap[gb113]? = some (.cells #[.string (⟨#[]⟩ : ByteArray), .string (⟨#[]⟩ : ByteArray)] 23 (0, 0))) := ⟨h1_⟩; have n2_ : Aside0 (w.heap.size ≤ gb113) := ⟨h2_⟩; have n3_ : Aside0 (w.heap.size ≤ gb113) := ⟨h3_⟩; have n4_ : Aside0 (gb101 ≠ gb113) := ⟨h4_⟩; have n5_ : Aside0 (gb113 ≠ gb101) := ⟨h5_⟩; have n6_ : Aside0 (Below w.heap.size w w60) := ⟨h6_⟩; clear BK101; clear HB; clear h0_ h1_ h2_ h3_ h4_ h5_ h6_; have BK101 := n0_; have BK113 := n1_; have GW113 := n2_; have GE113 := n3_; have NB101_113 := n4_; have NB113_101 := n5_; have HB := n6_; clear n0_ n1_ n2_ n3_ n4_ n5_ n6_; have hHeld : w60.cell? ⟨gb101, 0, none⟩ = some (.string a0_0) ∧ w60.cell? ⟨gb101, 1, none⟩ = some (.string a0_1) := hS_; refine norm_ (a' := ?_) ?_ ?_; rotate_left
      ·simp only [putAll, Act.put, List.setIfInBounds_toArray, List.set_cons_zero, List.set_cons_succ]
       rfl
      refine on_ 7 none rfl rfl HT_ (fun K hK => ?_); have hs61 := bc_ BK113 0 rfl; have hfs61 := blk_frozen BK113.out 0; have hns61_0 := NB101_113.out; have hms61_0 := NB113_101.out; have hs62 := bc_ BK113 1 rfl; have hfs62 := blk_frozen BK113.out 1; have hns62_0 := NB101_113.out; have hms62_0 := NB113_101.out; refine skip_ (w1 := ?_) (by rfl) rfl ?_ ?_; rotate_left
      ·go_simp
       rfl
      refine hf_ hK hHeld (fun hHeld => ?_); clear hK K; refine done_ (done_of HT_.out (by kernel_rfl)) ?_; have hnb63 := NB113_101.out; have hnc63 := NB101_113.out; have hcz64_0 := bc_ BK113 0 rfl; have hcz64_1 := bc_ BK113 1 rfl; have hfz64_0 := blk_frozen BK113.out 0; have hfz64_1 := blk_frozen BK113.out 1
      try go_wp2
      go_ret
      exact ⟨er_, b_ HB.out⟩
    ·rw [if_neg c40] at H; exact absurd H (by simp)
end Go.Proofs.YtaldgaiaelbbaaaGreatDoor.LDecimalPlaces
end

section
namespace Go.Proofs.YtaldgaiaelbbaaaGreatDoor.LDecimalPlaces
end Go.Proofs.YtaldgaiaelbbaaaGreatDoor.LDecimalPlaces
end

section
namespace Go.Proofs.YtaldgaiaelbbaaaGreatDoor
theorem pureDecimalPlaces (a0_0 a0_1 : ByteArray) (a1 : Int) (w1 : (Lit.int .i64 a1).wf = true) : ∃ k : Nat, LDecimalPlaces.dl4_DecimalPlaces.f k a0_0 a0_1 a1 = some true := by
 refine ⟨0 + 1, ?_⟩
 unfold LDecimalPlaces.dl4_DecimalPlaces.f
 have hj : LDecimalPlaces.dl4_DecimalPlaces.j0 (0 + 1) a1 true a0_0 a0_1 = some true := by
  simp only [LDecimalPlaces.dl4_DecimalPlaces.j0]
  rfl
 rw [show dl4_fixed.f = some true from rfl, Option.bind_some, if_pos rfl]
 by_cases g0 : (a0_0.size : Int) > 30
 ·rw [if_pos g0]
  exact hj
 rw [if_neg g0]
 by_cases g1 : (a0_1.size : Int) > 30
 ·rw [if_pos g1]
  exact hj
 rw [if_neg g1, goods1, Option.bind_some]
 cases h0 : goodR ⟨a0_0, a0_1⟩
 ·exact hj
 rw [if_pos rfl]
 by_cases g2 : a1 < 0
 ·rw [if_pos g2]
  exact hj
 rw [if_neg g2]
 by_cases g3 : a1 > 100
 ·rw [decide_eq_true g3]
  exact hj
 rw [decide_eq_false g3]
 obtain ⟨q, rfl, rfl, sq⟩ := of_good h0
 obtain ⟨n, rfl⟩ := Int.eq_ofNat_of_zero_le (show 0 ≤ a1 by omega)
 have s10 := szR_ten n
 have hk := kMul (p := q) (q := (((10 ^ n : Nat) : Int) : Rat)) (by omega) (by omega)
 rw [rT_nat] at hk
 have hl := places_law q n
 simp only [LDecimalPlaces.dl4_DecimalPlaces.j0]
 rw [if_neg (by decide), dPlaces (by omega), Option.bind_some, eZeros (by omega), Option.bind_some, if_pos (by rw [zerosB_size]; omega), tenBB, hk, Option.bind_some, places_rT]
 have e1 : ((rT (q * (((10 ^ n : Nat) : Int) : Rat))).2.toList == ([49] : List UInt8)) = decide ((q * (((10 ^ n : Nat) : Int) : Rat)).den = 1) := by
  show ((natB _).toList == ([49] : List UInt8)) = _
  rw [natB_beq_one']
  by_cases e : (q * (((10 ^ n : Nat) : Int) : Rat)).den = 1
  ·rw [decide_eq_true e, beq_iff_eq.2 e]
  ·rw [decide_eq_false e, beq_eq_false_iff_ne.2 e]
 rw [e1, hl]
 by_cases hf : finD q.den = true
 ·rw [if_pos hf, hf]
  dsimp only
  rw [if_pos rfl, Bool.true_and]
  congr 1
  rw [beq_iff_eq, decide_eq_decide]
  omega
 ·rw [if_neg hf, (Bool.not_eq_true _).mp hf]
  rfl
end Go.Proofs.YtaldgaiaelbbaaaGreatDoor
end

section
namespace Go.Proofs.YtaldgaiaelbbaaaGreatDoor.decimalPlaces
open Go.ChangeShapes Go.WideShapes Go.ChangeAt Go.RowKit
set_option maxRecDepth 100000 in
theorem lifted (os : Os) (started : os.Started) (H : Type) (enc : TypeId × Value → H) :
  ReturnsInHanded {} Tryz.checked os 5 .any (fun w args => (Rows.decimalPlacesSpec.pre enc Tryz.prog Tryz.f5 Rows.decimalPlacesRow.domain false w args ∧ laidMetH Tryz.prog laidL w) ∧ sizedMet enc Tryz.prog Tryz.f5 (OpenSpec.ofChange Rows.decimalPlacesSpec) false w args)
   (Rows.decimalPlacesSpec.post enc Tryz.prog Tryz.f5 false true false false) := by
 refine wrap_shaped (C := Tryz.checked) (X := fun w _ => laidMetH Tryz.prog laidL w) (fun _ _ _ hh h => h.of_heap hh) own started (by kernel_rfl) Tryz.func5
  (ChangeSpec.witness_shaped (enc := enc) (C := Tryz.checked) (os := os) (X := fun w _ => laidMetH Tryz.prog laidL w) false (World.laidAll Tryz.prog os laidL) #[.agg #[.string ByteArray.empty, .string ByteArray.empty], .int .i64 0] 8 (World.laidAll_os _ _ _) (World.shaped_of_ZipB (by kernel_rfl) (by kernel_rfl)) (by kernel_rfl) (by kernel_rfl) (by kernel_rfl) (door_met os _)) ?_
 intro W base args ds gs before hval0 hW _ hsz0 hL hsh
 have hsz : (DataW.weightsEach Tryz.prog (Tryz.f5.params.toList ++ Rows.decimalPlacesSpec.plain.varTypes Tryz.prog) (ds ++ gs)).all (· ≤ reachBytes) = true := hsz0
 have hval : ∀ (j : Nat) t v, Tryz.f5.params[j]? = some t → args[j]? = some v → Value.okWide Tryz.prog W .any base t v := hval0
 have hW' := hW
 obtain ⟨p, q, hA0, hV, rfl, hfz, hnd⟩ := hW
 have hA : DataW.TrodAll enc Tryz.prog W 0 (fun _ => true) true Tryz.f5.params.toList args.toList ds p := hA0
 rw [Tryz.params5] at hA hval hsz
 obtain ⟨v0, vs0, d0, ds0, p0, q0, hargs, rfl, rfl, h0, r0⟩ := trodAll_cons hA
 obtain ⟨v1, vs1, d1, ds1, p1, q1, rfl, rfl, rfl, h1, r1⟩ := trodAll_cons r0
 obtain ⟨rfl, rfl, rfl⟩ := trodAll_nil r1
 obtain rfl : args = #[v0, v1] := by cases args; simp_all
 obtain ⟨rfl, rfl⟩ := trodVars_none hV
 obtain ⟨a0_0, a0_1, rfl, rfl, rfl, y0_0, y0_1⟩ := open_s2 Tryz.underlying23 Tryz.underlying9 Tryz.underlying9 (by kernel_rfl) (by kernel_rfl : Tryz.prog.cellsOf 23 = 2) (hval 0 23 v0 rfl rfl) h0
 obtain ⟨a1, rfl, rfl, rfl, w1⟩ := open_int Tryz.underlying3 (hval 1 3 v1 rfl rfl) h1
 clear hA0 hval0 hsz0 hsz
 obtain ⟨k, hf⟩ := pureDecimalPlaces a0_0 a0_1 a1 w1
 refine (LDecimalPlaces.dl4_DecimalPlaces.calls k a0_0 a0_1 a1 true W (laid_of hL hsh) ⟨rfl⟩ hf).mono fun e W' ⟨he, bel⟩ => ?_
 subst he
 exact ⟨_, rfl, _, _, _, [], _, [], hW', trodAll_mk1 (shut_bool Tryz.underlying4 _), (trodAll_cons_mk (shut_s2 Tryz.underlying23 Tryz.underlying9 Tryz.underlying9 (by kernel_rfl) (by kernel_rfl : Tryz.prog.cellsOf 23 = 2) y0_0 y0_1) (trodAll_cons_mk (shut_int Tryz.underlying3 w1) trodAll_mk0)), rfl, bel.frame _, fun h => by cases h⟩
theorem over : Rows.DecimalPlacesSaid :=
 OpenClaim.holds_of_wide 5 Tryz.f5 rfl rfl rfl rfl rfl rfl rfl ⟨rfl, rfl, rfl, rfl, rfl⟩ rfl rfl rfl rfl rfl (by kernel_rfl) Tryz.func5 (by kernel_rfl)
  (of_decide_eq_true (by kernel_rfl)) (by unfold Func.isWrapper; first | (rw [if_pos (by decide +kernel)]; kernel_rfl) | (rw [if_neg (by decide +kernel)]; exact ⟨rfl, rfl⟩))
  (fun os started H enc _ => lifted os started H enc)
theorem proved : Rows.DecimalPlacesCardSaid :=
 Claim7.holds_tied_plain_at .later [] [.data, .data, .data, .data, .sentinel, .sentinel, .pinned] true (true, "7cb6501bafc06cc91aafe2374194aa0798d8fb540c1ff8bc3088fb97c665b41a") true
  over (fun _ h => by cases h) (by kernel_rfl) (fun _ h => by cases h) decimalPlaces_row_tie rfl ⟨rfl, rfl⟩ (by kernel_rfl) rfl
  (fun f fn hf hfn => by
   obtain rfl : f = 5 := Option.some.inj ((show Tryz.prog.funcNamed "debenture/debenturelaw04.DecimalPlaces" = some 5 by kernel_rfl).symm.trans hf) |>.symm
   obtain rfl : fn = Tryz.f5 := (Option.some.inj (Tryz.func5.symm.trans hfn)).symm
   exact ⟨by kernel_rfl, fun j t ht => by
    rw [Tryz.params5] at ht
    have hm : t ∈ [23, 3] := by simpa using Array.mem_of_getElem? ht
    have hall : ([23, 3].all fun u => !Tryz.prog.wantsStandIn u) = true := by kernel_rfl
    exact (show Tryz.prog.wantsStandIn t = false by simpa using List.all_eq_true.1 hall t hm)⟩)
  (by kernel_rfl)
end Go.Proofs.YtaldgaiaelbbaaaGreatDoor.decimalPlaces
namespace Go.Proofs.YtaldgaiaelbbaaaGreatDoor
theorem decimalPlaces_holds : Rows.DecimalPlacesCardSaid := decimalPlaces.proved
#print axioms decimalPlaces_holds
end Go.Proofs.YtaldgaiaelbbaaaGreatDoor
end
