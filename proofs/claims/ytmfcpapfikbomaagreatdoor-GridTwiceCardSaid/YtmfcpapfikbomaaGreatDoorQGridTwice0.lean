/-
The law GridTwice holds at every input that its row lets in: the row's walk and its plain law, tied to the program's text. Conditions: none beyond the given row's own.
Parts of the proof, in build order: LGridTwice0, LGridTwice1, LGridTwice2, LGridTwice3, LGridTwice, PuGridTwice, RowGridTwice.
-/
import Derived.Test.YtmfcpapfikbomaaGreatDoorC4
import Derived.Test.YtmfcpapfikbomaaGreatDoorProg
import Derived.Below
import Derived.Deep.Draws
import Derived.Deep.AppendLies
import Derived.Maps.AppendAt
import Derived.OwnWalk
import Derived.Laws.BytesArg
import Derived.Laws.MakeOwn
import Derived.Laws.OwnMore
import Derived.Deep.OwnRows
import Derived.Tactics
import Derived.Lib.ConvBytes
import Derived.Laws.Slices
import Derived.WalkKit
import Derived.KernelRfl
import Derived.RowKit3
import Derived.Deep.LoopGhost
import Derived.Deep.QuietTactic
import Derived.BigQuiet
import Derived.WideLaws
import Derived.Deep.DeepCutAuto
import Derived.Deep.CutBlock
import Derived.Deep.RegionHeld3
import Derived.Laws.Rows
import Derived.Lib.AppendStr
import Derived.ArgAppend
import Derived.Laws.IdiomCopy
import Derived.OrdersHeld
import Derived.Laws.BitsLemmas
import Derived.RowKit
import Derived.Test.YtmfcpapfikbomaaGreatDoorC0
import Derived.Test.YtmfcpapfikbomaaGreatDoorC5
import Derived.Test.YtmfcpapfikbomaaGreatDoorC2
import Derived.Test.YtmfcpapfikbomaaGreatDoorTie
import Derived.Test.YtmfcpapfikbomaaGreatDoorCards
import Derived.SevenTiedAt
set_option linter.unusedVariables false
set_option linter.unusedSimpArgs false
open Go.RowKit Go.Proofs.YtmfcpapfikbomaaGreatDoorW.PrintWords Go.Proofs.YtmfcpapfikbomaaGreatDoorW.PrintLast Go.Proofs.YtmfcpapfikbomaaGreatDoorW.PrintMore
attribute [local go_sem] max2_int min2_int max_two min_two max_three min_three max_four min_four   -- for this text's walks alone
section
namespace Go.Proofs.YtmfcpapfikbomaaGreatDoor.LGridTwice
def errW : Option Int → Value
 | none => .nilIface
 | some c => .iface 0 (.int .i64 c)
theorem errW_none : errW none = .nilIface := rfl
theorem errW_some (c : Int) : errW (some c) = .iface 0 (.int .i64 c) := rfl
theorem info23 : (Tryz.prog.info? 23).map (fun i => (i.zero, i.size, i.bytes)) = some (some (.agg #[(.string ⟨#[]⟩), (.string ⟨#[]⟩)]), 2, 32) := by kernel_rfl
end Go.Proofs.YtmfcpapfikbomaaGreatDoor.LGridTwice
end

section
namespace Go.Proofs.YtmfcpapfikbomaaGreatDoor.LGridTwice
theorem eqA23 (d : Nat) (w : World) (x0 y0 : ByteArray) (x1 y1 : ByteArray) :
  (Op.equalIn (d + 2) 23 (.agg #[.string x0, .string x1]) (.agg #[.string y0, .string y1])).run Tryz.prog w = .ok (x0.toList == y0.toList && (x1.toList == y1.toList)) w := by
 refine eqA_of Tryz.underlying23 (by kernel_rfl) ?_; refine eqf_cons (by rfl) (by go_simp; rfl) (by go_simp; rfl) (by go_simp) ?_; exact eqf_last (by rfl) (by go_simp; rfl) (by go_simp; rfl) (by go_simp)
end Go.Proofs.YtmfcpapfikbomaaGreatDoor.LGridTwice
end

section
namespace Go.Proofs.YtmfcpapfikbomaaGreatDoor.LGridTwice
end Go.Proofs.YtmfcpapfikbomaaGreatDoor.LGridTwice
end

section
namespace Go.Proofs.YtmfcpapfikbomaaGreatDoor.LGridTwice
open Go.Proofs.YtmfcpapfikbomaaGreatDoor.Pz (S23 k23 k23_mkM)
attribute [local go_sem high] eqA23
def dl5_GridTwice.j0 : Nat → Int → Bool → ByteArray → ByteArray → ByteArray → ByteArray → Option (Bool)
 | 0, _, _, _, _, _, _ => none
 | k + 1, x2, x30, x102000, x102001, x103000, x103001 => if x30 = true then ((dl5_fixed.f).bind fun t109 => (some t109)) else ((r3_Of.f x2).bind fun bt110 => ((r3_Mul.f x103000 x103001 bt110.1 bt110.2).bind fun bt112 => ((grid_Cents.f x102000 x102001).bind fun bt115 => ((grid_Round.f x102000 x102001 x103000 x103001 0).bind fun bt118 => ((grid_Round.f bt118.1 bt118.2 bt112.1 bt112.2 0).bind fun bt120 => ((grid_Round.f x102000 x102001 bt112.1 bt112.2 0).bind fun bt122 => (if (bt120.1.toList == bt122.1.toList && (bt120.2.toList == bt122.2.toList)) = true then ((grid_Cents.f bt115.1 bt115.2).bind fun bt124 => (some (bt124.1.toList == bt115.1.toList && (bt124.2.toList == bt115.2.toList)))) else (some false))))))))
def dl5_GridTwice.f (k : Nat) (a0_0 : ByteArray) (a0_1 : ByteArray) (a1_0 : ByteArray) (a1_1 : ByteArray) (a2 : Int) : Option (Bool) := (dl5_fixed.f).bind fun t103 => (if t103 = true then ((r3_Good.f (([(⟨a0_0, a0_1⟩ : S23), (⟨a1_0, a1_1⟩ : S23)] : List (S23)))).bind fun t107 => (if t107 = true then ((r3_Sign.f a1_0 a1_1).bind fun t108 => (if t108 ≤ 0 then (dl5_GridTwice.j0 k a2 true a0_0 a0_1 a1_0 a1_1) else (if a2 < 1 then (dl5_GridTwice.j0 k a2 true a0_0 a0_1 a1_0 a1_1) else (dl5_GridTwice.j0 k a2 (decide (a2 > 1000)) a0_0 a0_1 a1_0 a1_1)))) else (dl5_GridTwice.j0 k a2 true a0_0 a0_1 a1_0 a1_1))) else (dl5_GridTwice.j0 k a2 true a0_0 a0_1 a1_0 a1_1))
def dl5_GridTwice.T5 : Bool × List (List Nat × List Nat) := (true, [([], []), ([], []), ([0, 1], [0, 1]), ([], []), ([2, 3, 2], [2, 3]), ([], []), ([], []), ([5, 6, 4], [5, 6]), ([4, 7], [4, 7]), ([8, 7], [8]), ([9], [9]), ([10, 9, 9], [9, 10]), ([9], [9]), ([11, 12, 9], [9, 11, 12]), ([9, 13], [9, 13]), ([14, 11, 0, 1, 2, 3, 4, 5, 6, 7, 8, 9, 10, 11, 12, 13, 14], [14])])
def dl5_GridTwice.B5 : List Nat := [0, 0, 3, 0, 15, 0, 0, 127, 255, 511, 1023, 2047, 1023, 8191, 16383, 32767]
theorem dl5_GridTwice.tab5 : rtab .any (opsOf Tryz.f6 5) = dl5_GridTwice.T5 := by kernel_rfl
theorem dl5_GridTwice.bits5 : waitsOk dl5_GridTwice.T5.2 dl5_GridTwice.B5 = true := by kernel_rfl
set_option maxHeartbeats 8000000 in
set_option maxRecDepth 100000 in
theorem dl5_GridTwice.calls (k : Nat) (a0_0 : ByteArray) (a0_1 : ByteArray) (a1_0 : ByteArray) (a1_1 : ByteArray) (a2 : Int) (r : Bool) (w : World) (hL_ : Laid w) (hr_ : Aside0 (r = true)) (h : dl5_GridTwice.f k a0_0 a0_1 a1_0 a1_1 a2 = some r) :
  Calls Tryz.prog 6 #[.agg #[.string a0_0, .string a0_1], .agg #[.string a1_0, .string a1_1], .int .i64 a2] w fun e w' => e = .returned (.bool r) ∧ Below w.heap.size w w' := by
 have hu23 := Tryz.underlying23; have HLD := Aside0.mk hL_; clear hL_; have HB := Aside0.mk (Below.refl w.heap.size w); have H := h; unfold dl5_GridTwice.f at H; clear h; have HC4 := Aside0.mk H; clear H; go_enter Tryz.func6, Tryz.ntmps6
 go_upto_region 1 with (first | ((with_reducible refine gate_dst (N := 3) rfl ?_); (try (refine gate_guard (by rfl) ?_; dsimp only)); refine be_ 3 #[.string a0_0, .string a0_1] 23 ?_; intro gb101 hg w5 hbox hb; have BK101 := Aside0.mk (hbox); have GW101 := ge_ HB hg; have GE101 := ge_ HB hg; replace HB := bs_ HB hb; clear hb hbox hg) | ((with_reducible refine gate_dst (N := 4) rfl ?_); (try (refine gate_guard (by rfl) ?_; dsimp only)); refine be_ 4 #[.string a1_0, .string a1_1] 23 ?_; intro gb102 hg w6 hbox hb; have BK102 := Aside0.mk (hbox); have GW102 := ge_ HB hg; have GE102 := ge_ HB hg; have NB101_102 := nl_ BK101 hg; have NB102_101 := ng_ BK101 hg; replace BK101 := kb_ BK101 hb; replace HB := bs_ HB hb; clear hb hbox hg))
 (try simp only [Act.put, List.setIfInBounds_toArray, List.set_cons_zero, List.set_cons_succ])
 go_cut [30] (fun v30 wc => ∃ (kq : Nat) (x30_3 : Bool), v30 = .bool x30_3 ∧ Aside0 (dl5_GridTwice.j0 kq a2 x30_3 a0_0 a0_1 a1_0 a1_1 = some r) ∧ Aside0 (kq ≤ k) ∧ Aside0 (wc.heap[gb101]? = some (.cells #[.string a0_0, .string a0_1] 23 (0, 0))) ∧ Aside0 (wc.heap[gb102]? = some (.cells #[.string a1_0, .string a1_1] 23 (0, 0))) ∧ Aside0 (Below w.heap.size w wc))
 case first =>
  have H := HC4.out; clear HC4; obtain ⟨t103, A7, H⟩ := bi_ H; by_cases c8 : t103 = true
  ·subst c8; rw [if_pos rfl] at H; obtain ⟨y104, hy104⟩ : ∃ y_ : List (S23), y_ = (([(⟨a0_0, a0_1⟩ : S23), (⟨a1_0, a1_1⟩ : S23)] : List (S23))) := ⟨_, rfl⟩
   replace H : ((r3_Good.f y104).bind fun t107 => (if t107 = true then ((r3_Sign.f a1_0 a1_1).bind fun t108 => (if t108 ≤ 0 then (dl5_GridTwice.j0 k a2 true a0_0 a0_1 a1_0 a1_1) else (if a2 < 1 then (dl5_GridTwice.j0 k a2 true a0_0 a0_1 a1_0 a1_1) else (dl5_GridTwice.j0 k a2 (decide (a2 > 1000)) a0_0 a0_1 a1_0 a1_1)))) else (dl5_GridTwice.j0 k a2 true a0_0 a0_1 a1_0 a1_1))) = some r := by first | (rw [hy104]; with_reducible exact H) | (have H2_ := (Option.bind_some _ _).symm.trans H; rw [hy104]; with_reducible exact H2_) | (have H2_ := (Option.bind_some _ _).symm.trans H; with_reducible exact H2_) | with_reducible exact H | (rw [hy104]; exact H) | exact H
   have Ny104 := Aside0.mk hy104; clear hy104; obtain ⟨t107, A9, H⟩ := bi_ H; by_cases c10 : t107 = true
   ·subst c10; rw [if_pos rfl] at H; obtain ⟨t108, A11, H⟩ := bi_ H; by_cases c12 : t108 ≤ 0
    ·rw [if_pos c12] at H; have c12b0 : decide (t108 ≤ 0) = true := decide_eq_true c12; clear c12; (first | rw [c12b0] | (simp only [i64_w, i32_w]; rw [c12b0]) | skip); have H' := Aside0.mk H; clear H
     go_wp2_with (first | (refine gl_ 9 Tryz.func10 #[] ?_; refine mo_ (dl5_fixed.calls  true _ (lb_ HLD HB) A7.out) ?_; intro w13 hb; replace BK101 := kb_ BK101 hb; replace BK102 := kb_ BK102 hb; replace HB := bs_ HB hb; (try clear hb); (try clear hb2); (try clear hk); (try clear hi); have hnb14 := NB101_102.out; have hnc14 := NB102_101.out; have hcz15_0 := bc_ BK101 0 rfl; have hcz15_1 := bc_ BK101 1 rfl; have hfz15_0 := blk_frozen BK101.out 0; have hfz15_1 := blk_frozen BK101.out 1; have hcz16_0 := bc_ BK102 0 rfl; have hcz16_1 := bc_ BK102 1 rfl; have hfz16_0 := blk_frozen BK102.out 0; have hfz16_1 := blk_frozen BK102.out 1) | ((with_reducible refine gate_dst (N := 14) rfl ?_); (try (refine gate_guard (by rfl) ?_; dsimp only)); refine Kd.R_lit k23 _ 23 ?hg (N := 14) ?hd (xs := ([(⟨a0_0, a0_1⟩ : S23), (⟨a1_0, a1_1⟩ : S23)] : List (S23))) (inner := [.string a0_0, .string a0_1, .string a1_0, .string a1_1]) (ok := fun _ => True) (okp := fun _ => True) ?hr ?hp (fun _ hk => hk) trivial (Below.refl _ _) (Nat.le_refl _) (by simp) ?_; (case hd => rfl); (case hg => rfl); (case hr => first | (go_simp; done) | (go_simp; rfl)); (case hp => exact (Reps.c2 (show Kd.M k23 _ _ _ (⟨a0_0, a0_1⟩ : S23) [.string a0_0, .string a0_1] from (k23_mkM _ _ _ (⟨a0_0, a0_1⟩ : S23) )) (Reps.c2 (show Kd.M k23 _ _ _ (⟨a1_0, a1_1⟩ : S23) [.string a1_0, .string a1_1] from (k23_mkM _ _ _ (⟨a1_0, a1_1⟩ : S23) )) (Reps.none _ _)))); intro v105 w17 ho18 hb hg_ hnew_; clear hg_ hnew_; (first | rw [← Ny104.out] at ho18 | (simp only [Int.reduceToNat] at ho18; rw [← Ny104.out] at ho18)); have HO106 := Aside0.mk (Kd.R_lower (Kd.R_newB (Kd.R_newB ho18 (g := gb101) (o := .cells #[.string a0_0, .string a0_1] 23 (0, 0)) (k_ BK101.out)) (g := gb102) (o := .cells #[.string a1_0, .string a1_1] 23 (0, 0)) (k_ BK102.out)) (below_size (b_ HB.out))); replace BK101 := kb_ BK101 hb; replace BK102 := kb_ BK102 hb; replace HB := bs_ HB hb; clear hb ho18; obtain ⟨Ao19, co19, eo19⟩ := Kd.R_slice HO106.out; subst eo19) | (go_at_call 17; (with_reducible refine (r3_Good.calls _ _ y104 true _ ?side1 ?side2 A9.out).mono ?_); (case side1 => exact c_ (Kd.R_reads' HO106.out).2.2); (case side2 => exact (Kd.R_reads' HO106.out).2.1); rintro e w20 ⟨rfl, hb⟩; replace HO106 := Aside0.mk (Kd.R_below (w_ HO106.out) hb); replace BK101 := kb_ BK101 hb; replace BK102 := kb_ BK102 hb; replace HB := bs_ HB hb; (try clear hb); (try clear hb2); (try clear hk); (try clear hi); have hcz21_0 := bc_ BK102 0 rfl; have hcz21_1 := bc_ BK102 1 rfl; have hfz21_0 := blk_frozen BK102.out 0; have hfz21_1 := blk_frozen BK102.out 1) | (go_at_call 18; (with_reducible refine (r3_Sign.calls a1_0 a1_1 t108 _ A11.out).mono ?_); rintro e w22 ⟨rfl, hb⟩; replace HO106 := Aside0.mk (Kd.R_below (w_ HO106.out) hb); replace BK101 := kb_ BK101 hb; replace BK102 := kb_ BK102 hb; replace HB := bs_ HB hb; (try clear hb); (try clear hb2); (try clear hk); (try clear hi)))
     go_meet
     case rel => exact ⟨_, (true), rl_, H', ⟨by first | omega | exact Nat.le_refl _⟩, ⟨k_ BK101.out⟩, ⟨k_ BK102.out⟩, ⟨b_ HB.out⟩⟩
    ·rw [if_neg c12] at H; have c12b0 : decide (t108 ≤ 0) = false := decide_eq_false c12; clear c12; (first | rw [c12b0] | (simp only [i64_w, i32_w]; rw [c12b0]) | skip); by_cases c23 : a2 < 1
     ·rw [if_pos c23] at H; have c23b0 : decide (a2 < 1) = true := decide_eq_true c23; clear c23; have H' := Aside0.mk H; clear H
      go_wp2_with (first | (refine gl_ 9 Tryz.func10 #[] ?_; refine mo_ (dl5_fixed.calls  true _ (lb_ HLD HB) A7.out) ?_; intro w24 hb; replace BK101 := kb_ BK101 hb; replace BK102 := kb_ BK102 hb; replace HB := bs_ HB hb; (try clear hb); (try clear hb2); (try clear hk); (try clear hi); have hnb25 := NB101_102.out; have hnc25 := NB102_101.out; have hcz26_0 := bc_ BK101 0 rfl; have hcz26_1 := bc_ BK101 1 rfl; have hfz26_0 := blk_frozen BK101.out 0; have hfz26_1 := blk_frozen BK101.out 1; have hcz27_0 := bc_ BK102 0 rfl; have hcz27_1 := bc_ BK102 1 rfl; have hfz27_0 := blk_frozen BK102.out 0; have hfz27_1 := blk_frozen BK102.out 1) | ((with_reducible refine gate_dst (N := 14) rfl ?_); (try (refine gate_guard (by rfl) ?_; dsimp only)); refine Kd.R_lit k23 _ 23 ?hg (N := 14) ?hd (xs := ([(⟨a0_0, a0_1⟩ : S23), (⟨a1_0, a1_1⟩ : S23)] : List (S23))) (inner := [.string a0_0, .string a0_1, .string a1_0, .string a1_1]) (ok := fun _ => True) (okp := fun _ => True) ?hr ?hp (fun _ hk => hk) trivial (Below.refl _ _) (Nat.le_refl _) (by simp) ?_; (case hd => rfl); (case hg => rfl); (case hr => first | (go_simp; done) | (go_simp; rfl)); (case hp => exact (Reps.c2 (show Kd.M k23 _ _ _ (⟨a0_0, a0_1⟩ : S23) [.string a0_0, .string a0_1] from (k23_mkM _ _ _ (⟨a0_0, a0_1⟩ : S23) )) (Reps.c2 (show Kd.M k23 _ _ _ (⟨a1_0, a1_1⟩ : S23) [.string a1_0, .string a1_1] from (k23_mkM _ _ _ (⟨a1_0, a1_1⟩ : S23) )) (Reps.none _ _)))); intro v105 w28 ho29 hb hg_ hnew_; clear hg_ hnew_; (first | rw [← Ny104.out] at ho29 | (simp only [Int.reduceToNat] at ho29; rw [← Ny104.out] at ho29)); have HO106 := Aside0.mk (Kd.R_lower (Kd.R_newB (Kd.R_newB ho29 (g := gb101) (o := .cells #[.string a0_0, .string a0_1] 23 (0, 0)) (k_ BK101.out)) (g := gb102) (o := .cells #[.string a1_0, .string a1_1] 23 (0, 0)) (k_ BK102.out)) (below_size (b_ HB.out))); replace BK101 := kb_ BK101 hb; replace BK102 := kb_ BK102 hb; replace HB := bs_ HB hb; clear hb ho29; obtain ⟨Ao30, co30, eo30⟩ := Kd.R_slice HO106.out; subst eo30) | (go_at_call 17; (with_reducible refine (r3_Good.calls _ _ y104 true _ ?side1 ?side2 A9.out).mono ?_); (case side1 => exact c_ (Kd.R_reads' HO106.out).2.2); (case side2 => exact (Kd.R_reads' HO106.out).2.1); rintro e w31 ⟨rfl, hb⟩; replace HO106 := Aside0.mk (Kd.R_below (w_ HO106.out) hb); replace BK101 := kb_ BK101 hb; replace BK102 := kb_ BK102 hb; replace HB := bs_ HB hb; (try clear hb); (try clear hb2); (try clear hk); (try clear hi); have hcz32_0 := bc_ BK102 0 rfl; have hcz32_1 := bc_ BK102 1 rfl; have hfz32_0 := blk_frozen BK102.out 0; have hfz32_1 := blk_frozen BK102.out 1) | (go_at_call 18; (with_reducible refine (r3_Sign.calls a1_0 a1_1 t108 _ A11.out).mono ?_); rintro e w33 ⟨rfl, hb⟩; replace HO106 := Aside0.mk (Kd.R_below (w_ HO106.out) hb); replace BK101 := kb_ BK101 hb; replace BK102 := kb_ BK102 hb; replace HB := bs_ HB hb; (try clear hb); (try clear hb2); (try clear hk); (try clear hi)))
      go_meet
      case rel => exact ⟨_, (true), rl_, H', ⟨by first | omega | exact Nat.le_refl _⟩, ⟨k_ BK101.out⟩, ⟨k_ BK102.out⟩, ⟨b_ HB.out⟩⟩
     ·rw [if_neg c23] at H; have c23b0 : decide (a2 < 1) = false := decide_eq_false c23; clear c23; have H' := Aside0.mk H; clear H
      go_wp2_with (first | (refine gl_ 9 Tryz.func10 #[] ?_; refine mo_ (dl5_fixed.calls  true _ (lb_ HLD HB) A7.out) ?_; intro w34 hb; replace BK101 := kb_ BK101 hb; replace BK102 := kb_ BK102 hb; replace HB := bs_ HB hb; (try clear hb); (try clear hb2); (try clear hk); (try clear hi); have hnb35 := NB101_102.out; have hnc35 := NB102_101.out; have hcz36_0 := bc_ BK101 0 rfl; have hcz36_1 := bc_ BK101 1 rfl; have hfz36_0 := blk_frozen BK101.out 0; have hfz36_1 := blk_frozen BK101.out 1; have hcz37_0 := bc_ BK102 0 rfl; have hcz37_1 := bc_ BK102 1 rfl; have hfz37_0 := blk_frozen BK102.out 0; have hfz37_1 := blk_frozen BK102.out 1) | ((with_reducible refine gate_dst (N := 14) rfl ?_); (try (refine gate_guard (by rfl) ?_; dsimp only)); refine Kd.R_lit k23 _ 23 ?hg (N := 14) ?hd (xs := ([(⟨a0_0, a0_1⟩ : S23), (⟨a1_0, a1_1⟩ : S23)] : List (S23))) (inner := [.string a0_0, .string a0_1, .string a1_0, .string a1_1]) (ok := fun _ => True) (okp := fun _ => True) ?hr ?hp (fun _ hk => hk) trivial (Below.refl _ _) (Nat.le_refl _) (by simp) ?_; (case hd => rfl); (case hg => rfl); (case hr => first | (go_simp; done) | (go_simp; rfl)); (case hp => exact (Reps.c2 (show Kd.M k23 _ _ _ (⟨a0_0, a0_1⟩ : S23) [.string a0_0, .string a0_1] from (k23_mkM _ _ _ (⟨a0_0, a0_1⟩ : S23) )) (Reps.c2 (show Kd.M k23 _ _ _ (⟨a1_0, a1_1⟩ : S23) [.string a1_0, .string a1_1] from (k23_mkM _ _ _ (⟨a1_0, a1_1⟩ : S23) )) (Reps.none _ _)))); intro v105 w38 ho39 hb hg_ hnew_; clear hg_ hnew_; (first | rw [← Ny104.out] at ho39 | (simp only [Int.reduceToNat] at ho39; rw [← Ny104.out] at ho39)); have HO106 := Aside0.mk (Kd.R_lower (Kd.R_newB (Kd.R_newB ho39 (g := gb101) (o := .cells #[.string a0_0, .string a0_1] 23 (0, 0)) (k_ BK101.out)) (g := gb102) (o := .cells #[.string a1_0, .string a1_1] 23 (0, 0)) (k_ BK102.out)) (below_size (b_ HB.out))); replace BK101 := kb_ BK101 hb; replace BK102 := kb_ BK102 hb; replace HB := bs_ HB hb; clear hb ho39; obtain ⟨Ao40, co40, eo40⟩ := Kd.R_slice HO106.out; subst eo40) | (go_at_call 17; (with_reducible refine (r3_Good.calls _ _ y104 true _ ?side1 ?side2 A9.out).mono ?_); (case side1 => exact c_ (Kd.R_reads' HO106.out).2.2); (case side2 => exact (Kd.R_reads' HO106.out).2.1); rintro e w41 ⟨rfl, hb⟩; replace HO106 := Aside0.mk (Kd.R_below (w_ HO106.out) hb); replace BK101 := kb_ BK101 hb; replace BK102 := kb_ BK102 hb; replace HB := bs_ HB hb; (try clear hb); (try clear hb2); (try clear hk); (try clear hi); have hcz42_0 := bc_ BK102 0 rfl; have hcz42_1 := bc_ BK102 1 rfl; have hfz42_0 := blk_frozen BK102.out 0; have hfz42_1 := blk_frozen BK102.out 1) | (go_at_call 18; (with_reducible refine (r3_Sign.calls a1_0 a1_1 t108 _ A11.out).mono ?_); rintro e w43 ⟨rfl, hb⟩; replace HO106 := Aside0.mk (Kd.R_below (w_ HO106.out) hb); replace BK101 := kb_ BK101 hb; replace BK102 := kb_ BK102 hb; replace HB := bs_ HB hb; (try clear hb); (try clear hb2); (try clear hk); (try clear hi)))
      go_meet
      case rel => exact ⟨_, (decide (a2 > 1000)), rl_, H', ⟨by first | omega | exact Nat.le_refl _⟩, ⟨k_ BK101.out⟩, ⟨k_ BK102.out⟩, ⟨b_ HB.out⟩⟩
   ·replace c10 := Bool.eq_false_iff.mpr c10; subst c10; rw [if_neg nf_] at H; have H' := Aside0.mk H; clear H
    go_wp2_with (first | (refine gl_ 9 Tryz.func10 #[] ?_; refine mo_ (dl5_fixed.calls  true _ (lb_ HLD HB) A7.out) ?_; intro w44 hb; replace BK101 := kb_ BK101 hb; replace BK102 := kb_ BK102 hb; replace HB := bs_ HB hb; (try clear hb); (try clear hb2); (try clear hk); (try clear hi); have hnb45 := NB101_102.out; have hnc45 := NB102_101.out; have hcz46_0 := bc_ BK101 0 rfl; have hcz46_1 := bc_ BK101 1 rfl; have hfz46_0 := blk_frozen BK101.out 0; have hfz46_1 := blk_frozen BK101.out 1; have hcz47_0 := bc_ BK102 0 rfl; have hcz47_1 := bc_ BK102 1 rfl; have hfz47_0 := blk_frozen BK102.out 0; have hfz47_1 := blk_frozen BK102.out 1) | ((with_reducible refine gate_dst (N := 14) rfl ?_); (try (refine gate_guard (by rfl) ?_; dsimp only)); refine Kd.R_lit k23 _ 23 ?hg (N := 14) ?hd (xs := ([(⟨a0_0, a0_1⟩ : S23), (⟨a1_0, a1_1⟩ : S23)] : List (S23))) (inner := [.string a0_0, .string a0_1, .string a1_0, .string a1_1]) (ok := fun _ => True) (okp := fun _ => True) ?hr ?hp (fun _ hk => hk) trivial (Below.refl _ _) (Nat.le_refl _) (by simp) ?_; (case hd => rfl); (case hg => rfl); (case hr => first | (go_simp; done) | (go_simp; rfl)); (case hp => exact (Reps.c2 (show Kd.M k23 _ _ _ (⟨a0_0, a0_1⟩ : S23) [.string a0_0, .string a0_1] from (k23_mkM _ _ _ (⟨a0_0, a0_1⟩ : S23) )) (Reps.c2 (show Kd.M k23 _ _ _ (⟨a1_0, a1_1⟩ : S23) [.string a1_0, .string a1_1] from (k23_mkM _ _ _ (⟨a1_0, a1_1⟩ : S23) )) (Reps.none _ _)))); intro v105 w48 ho49 hb hg_ hnew_; clear hg_ hnew_; (first | rw [← Ny104.out] at ho49 | (simp only [Int.reduceToNat] at ho49; rw [← Ny104.out] at ho49)); have HO106 := Aside0.mk (Kd.R_lower (Kd.R_newB (Kd.R_newB ho49 (g := gb101) (o := .cells #[.string a0_0, .string a0_1] 23 (0, 0)) (k_ BK101.out)) (g := gb102) (o := .cells #[.string a1_0, .string a1_1] 23 (0, 0)) (k_ BK102.out)) (below_size (b_ HB.out))); replace BK101 := kb_ BK101 hb; replace BK102 := kb_ BK102 hb; replace HB := bs_ HB hb; clear hb ho49; obtain ⟨Ao50, co50, eo50⟩ := Kd.R_slice HO106.out; subst eo50) | (go_at_call 17; (with_reducible refine (r3_Good.calls _ _ y104 false _ ?side1 ?side2 A9.out).mono ?_); (case side1 => exact c_ (Kd.R_reads' HO106.out).2.2); (case side2 => exact (Kd.R_reads' HO106.out).2.1); rintro e w51 ⟨rfl, hb⟩; replace HO106 := Aside0.mk (Kd.R_below (w_ HO106.out) hb); replace BK101 := kb_ BK101 hb; replace BK102 := kb_ BK102 hb; replace HB := bs_ HB hb; (try clear hb); (try clear hb2); (try clear hk); (try clear hi)))
    go_meet
    case rel => exact ⟨_, (true), rl_, H', ⟨by first | omega | exact Nat.le_refl _⟩, ⟨k_ BK101.out⟩, ⟨k_ BK102.out⟩, ⟨b_ HB.out⟩⟩
  ·replace c8 := Bool.eq_false_iff.mpr c8; subst c8; rw [if_neg nf_] at H; have H' := Aside0.mk H; clear H
   go_wp2_with (first | (refine gl_ 9 Tryz.func10 #[] ?_; refine mo_ (dl5_fixed.calls  false _ (lb_ HLD HB) A7.out) ?_; intro w52 hb; replace BK101 := kb_ BK101 hb; replace BK102 := kb_ BK102 hb; replace HB := bs_ HB hb; (try clear hb); (try clear hb2); (try clear hk); (try clear hi)))
   go_meet
   case rel => exact ⟨_, (true), rl_, H', ⟨by first | omega | exact Nat.le_refl _⟩, ⟨k_ BK101.out⟩, ⟨k_ BK102.out⟩, ⟨b_ HB.out⟩⟩
 case rest =>
  clear HC4; (try clear c1); (try clear c2); (try clear p2); (try clear c3); (try clear c4); (try clear c6); (try clear c8); (try clear c10); (try clear c12); (try clear c12b0); (try clear c14); (try clear c23); (try clear c23b0); (try clear c25); (try clear c35); (try clear c45); (try clear hcz15_0); (try clear hcz15_1); (try clear hcz16_0); (try clear hcz16_1); (try clear hcz21_0); (try clear hcz21_1); (try clear hcz26_0); (try clear hcz26_1); (try clear hcz27_0); (try clear hcz27_1); (try clear hcz32_0); (try clear hcz32_1); (try clear hcz36_0); (try clear hcz36_1); (try clear hcz37_0); (try clear hcz37_1); (try clear hcz42_0); (try clear hcz42_1); (try clear hcz46_0); (try clear hcz46_1); (try clear hcz47_0); (try clear hcz47_1); (try clear hfz15_0); (try clear hfz15_1); (try clear hfz16_0); (try clear hfz16_1); (try clear hfz21_0); (try clear hfz21_1); (try clear hfz26_0); (try clear hfz26_1); (try clear hfz27_0); (try clear hfz27_1); (try clear hfz32_0); (try clear hfz32_1); (try clear hfz36_0); (try clear hfz36_1); (try clear hfz37_0); (try clear hfz37_1); (try clear hfz42_0); (try clear hfz42_1); (try clear hfz46_0); (try clear hfz46_1); (try clear hfz47_0); (try clear hfz47_1); obtain ⟨kq, x30_3, rfl, HA, HJ3, BK101, BK102, HB⟩ := hcut
  cases kq with
  | zero => exact absurd HA.out (by simp [dl5_GridTwice.j0])
  | succ kj3 =>
   have H := HA.out; clear HA; simp only [dl5_GridTwice.j0] at H; by_cases c53 : x30_3 = true
   ·subst c53; rw [if_pos rfl] at H; obtain ⟨t109, A54, H⟩ := bi_ H; obtain rfl := Option.some.inj H
    go_wp2_with (first | (refine gl_ 31 Tryz.func10 #[] ?_; refine mo_ (dl5_fixed.calls  t109 _ (lb_ HLD HB) A54.out) ?_; intro w55 hb; replace BK101 := kb_ BK101 hb; replace BK102 := kb_ BK102 hb; replace HB := bs_ HB hb; (try clear hb); (try clear hb2); (try clear hk); (try clear hi)))
    go_ret
    exact ⟨er_, b_ HB.out⟩
   ·replace c53 := Bool.eq_false_iff.mpr c53; subst c53; rw [if_neg nf_] at H; obtain ⟨⟨t110, t111⟩, A56, H⟩ := bi_ H; (try dsimp only at H); obtain ⟨⟨t112, t113⟩, A57, H⟩ := bi_ H; (try dsimp only at H); obtain ⟨⟨t115, t116⟩, A58, H⟩ := bi_ H; (try dsimp only at H); obtain ⟨⟨t118, t119⟩, A59, H⟩ := bi_ H; (try dsimp only at H); obtain ⟨⟨t120, t121⟩, A60, H⟩ := bi_ H; (try dsimp only at H); obtain ⟨⟨t122, t123⟩, A61, H⟩ := bi_ H; (try dsimp only at H); by_cases c62 : (t120.toList == t122.toList && (t121.toList == t123.toList)) = true
    ·rw [if_pos c62] at H; have c62b0 : (t120.toList == t122.toList && (t121.toList == t123.toList)) = true := c62; (try (have c62b1 : decide (t120.toList = t122.toList && (t121.toList == t123.toList)) = true := by simpa using c62)); (try (have c62b2 : (t120.toList == t122.toList && (t121.toList == t123.toList)) = true := by simpa using c62)); clear c62; obtain ⟨⟨t124, t125⟩, A63, H⟩ := bi_ H; (try dsimp only at H); obtain rfl := Option.some.inj H
     try go_wp2
     replace BK101 := Aside0.mk (blk_drew BK101.out); replace BK102 := Aside0.mk (blk_drew BK102.out); replace HB := Aside0.mk (below_drew1 HB.out); refine sa_ 6 (fun w' => w'.cell? ⟨gb102, 0, none⟩ = some (.string a1_0) ∧ w'.cell? ⟨gb102, 1, none⟩ = some (.string a1_1)) (fun hHeld => ?_); generalize wc.drew = w64 at BK101 BK102 HB hHeld ⊢; refine pure_ (i := 1) (N := some 33) (v := ?_) (a' := ?_) #[false, true, false, false, false, false] rfl rfl (by kernel_rfl) (fun _ _ _ h => h) (Or.inl ⟨by rfl, ?_⟩) ?_ ?_; rotate_left
     ·intro w'; go_simp; with_reducible rfl
     rotate_left
     ·exact ap_
     refine take_ (i := 0) (N := some 32) (v := ?_) (a' := ?_) #[true, true, false, false, false, false] rfl rfl (by kernel_rfl) (fun _ _ _ h => h) (Or.inl ⟨by rfl, ?_⟩) hHeld ?_ ?_; rotate_left
     ·rintro w' ⟨s0, s1⟩; go_simp; with_reducible rfl
     rotate_left
     ·exact ap_
     refine join_ (σ := Nat) 1 #[true, true, true, true, true, false] (fun s_ => [(34, .agg #[.string t110, .string t111]), (35, .agg #[.string t112, .string t113]), (7, .pointer (some ⟨s_, 0, none⟩))]) (fun s_ w' => (w'.cell? ⟨gb102, 0, none⟩ = some (.string a1_0) ∧ w'.cell? ⟨gb102, 1, none⟩ = some (.string a1_1)) ∧ (w'.heap[gb101]? = some (.cells #[.string a0_0, .string a0_1] 23 (0, 0))) ∧ (w'.heap[gb102]? = some (.cells #[.string a1_0, .string a1_1] 23 (0, 0))) ∧ (w'.heap[s_]? = some (.cells #[.string (⟨#[]⟩ : ByteArray), .string (⟨#[]⟩ : ByteArray)] 23 (0, 0))) ∧ (w.heap.size ≤ s_) ∧ (w.heap.size ≤ s_) ∧ (gb101 ≠ s_) ∧ (s_ ≠ gb101) ∧ (gb102 ≠ s_) ∧ (s_ ≠ gb102) ∧ (Below w.heap.size w w')) ?_ ?_; rotate_left
     ·intro hCont; refine two_ (i := 2) (j := 4) (Ni := some 34) (Nj := some 7) #[true, true, true, false, false, false] #[true, true, false, false, true, false] rfl rfl rfl rfl (by kernel_rfl) (by decide) (by decide) (fun K hK => ?_) (fun K hK => ?_)
      ·skip; refine gs_ Tryz.func26 #[.int .i64 a2] ?_; refine mo_ (r3_Of.calls a2 t110 t111 _ A56.out) ?_; intro w65 hb; replace BK101 := kb_ BK101 hb; replace BK102 := kb_ BK102 hb; replace HB := bs_ HB hb; (try clear hb); refine hk_ hK (fun hHeld => ?_); clear hK K; refine nm_ ?_; refine two_ (i := 3) (j := 4) (Ni := some 35) (Nj := some 7) #[true, true, true, true, false, false] #[true, true, true, false, true, false] rfl rfl rfl rfl (by kernel_rfl) (by decide) (by decide) (fun K hK => ?_) (fun K hK => ?_)
       ·skip; refine gs_ Tryz.func25 #[.agg #[.string a1_0, .string a1_1], .agg #[.string t110, .string t111]] ?_; refine mo_ (r3_Mul.calls a1_0 a1_1 t110 t111 t112 t113 _ A57.out) ?_; intro w66 hb; replace BK101 := kb_ BK101 hb; replace BK102 := kb_ BK102 hb; replace HB := bs_ HB hb; (try clear hb); refine hk_ hK (fun hHeld => ?_); clear hK K; refine nm_ ?_; refine one_ (i := 4) (N := some 7) #[true, true, true, true, true, false] rfl rfl (by kernel_rfl) (by decide) (fun K hK => ?_); refine box_step ?hg (N := 7) ?hd (cs := #[.string (⟨#[]⟩ : ByteArray), .string (⟨#[]⟩ : ByteArray)]) (t := 23) ?hr ?_; (case hd => rfl); (case hg => rfl); (case hr => first | (go_simp; done) | (go_simp; rfl)); intro gb114 hg w67 hbox hb; have BK114 := Aside0.mk (hbox); have GW114 := ge_ HB hg; have GE114 := ge_ HB hg; have NB101_114 := nl_ BK101 hg; have NB114_101 := ng_ BK101 hg; have NB102_114 := nl_ BK102 hg; have NB114_102 := ng_ BK102 hg; replace BK101 := kb_ BK101 hb; replace BK102 := kb_ BK102 hb; replace HB := bs_ HB hb; clear hb hbox hg; refine hk_ hK (fun hHeld => ?_); clear hK K; refine nm_ ?_; exact norm_ pa_ (hCont (gb114) _ ⟨hHeld, (k_ BK101.out), (k_ BK102.out), (k_ BK114.out), GW114.out, GE114.out, NB101_114.out, NB114_101.out, NB102_114.out, NB114_102.out, (b_ HB.out)⟩)
       ·skip; refine box_step ?hg (N := 7) ?hd (cs := #[.string (⟨#[]⟩ : ByteArray), .string (⟨#[]⟩ : ByteArray)]) (t := 23) ?hr ?_; (case hd => rfl); (case hg => rfl); (case hr => first | (go_simp; done) | (go_simp; rfl)); intro gb114 hg w66 hbox hb; have BK114 := Aside0.mk (hbox); have GW114 := ge_ HB hg; have GE114 := ge_ HB hg; have NB101_114 := nl_ BK101 hg; have NB114_101 := ng_ BK101 hg; have NB102_114 := nl_ BK102 hg; have NB114_102 := ng_ BK102 hg; replace BK101 := kb_ BK101 hb; replace BK102 := kb_ BK102 hb; replace HB := bs_ HB hb; clear hb hbox hg; refine hk_ hK (fun hHeld => ?_); clear hK K; refine nm_ ?_; refine one_ (i := 3) (N := some 35) #[true, true, true, true, true, false] rfl rfl (by kernel_rfl) (by decide) (fun K hK => ?_); refine gs_ Tryz.func25 #[.agg #[.string a1_0, .string a1_1], .agg #[.string t110, .string t111]] ?_; refine mo_ (r3_Mul.calls a1_0 a1_1 t110 t111 t112 t113 _ A57.out) ?_; intro w67 hb; replace BK101 := kb_ BK101 hb; replace BK102 := kb_ BK102 hb; replace BK114 := kb_ BK114 hb; replace HB := bs_ HB hb; (try clear hb); refine hk_ hK (fun hHeld => ?_); clear hK K; refine nm_ ?_; exact norm_ pa_ (hCont (gb114) _ ⟨hHeld, (k_ BK101.out), (k_ BK102.out), (k_ BK114.out), GW114.out, GE114.out, NB101_114.out, NB114_101.out, NB102_114.out, NB114_102.out, (b_ HB.out)⟩)
      ·skip; refine box_step ?hg (N := 7) ?hd (cs := #[.string (⟨#[]⟩ : ByteArray), .string (⟨#[]⟩ : ByteArray)]) (t := 23) ?hr ?_; (case hd => rfl); (case hg => rfl); (case hr => first | (go_simp; done) | (go_simp; rfl)); intro gb114 hg w65 hbox hb; have BK114 := Aside0.mk (hbox); have GW114 := ge_ HB hg; have GE114 := ge_ HB hg; have NB101_114 := nl_ BK101 hg; have NB114_101 := ng_ BK101 hg; have NB102_114 := nl_ BK102 hg; have NB114_102 := ng_ BK102 hg; replace BK101 := kb_ BK101 hb; replace BK102 := kb_ BK102 hb; replace HB := bs_ HB hb; clear hb hbox hg; refine hk_ hK (fun hHeld => ?_); clear hK K; refine nm_ ?_; refine one_ (i := 2) (N := some 34) #[true, true, true, false, true, false] rfl rfl (by kernel_rfl) (by decide) (fun K hK => ?_); refine gs_ Tryz.func26 #[.int .i64 a2] ?_; refine mo_ (r3_Of.calls a2 t110 t111 _ A56.out) ?_; intro w66 hb; replace BK101 := kb_ BK101 hb; replace BK102 := kb_ BK102 hb; replace BK114 := kb_ BK114 hb; replace HB := bs_ HB hb; (try clear hb); refine hk_ hK (fun hHeld => ?_); clear hK K; refine nm_ ?_; refine one_ (i := 3) (N := some 35) #[true, true, true, true, true, false] rfl rfl (by kernel_rfl) (by decide) (fun K hK => ?_); refine gs_ Tryz.func25 #[.agg #[.string a1_0, .string a1_1], .agg #[.string t110, .string t111]] ?_; refine mo_ (r3_Mul.calls a1_0 a1_1 t110 t111 t112 t113 _ A57.out) ?_; intro w67 hb; replace BK101 := kb_ BK101 hb; replace BK102 := kb_ BK102 hb; replace BK114 := kb_ BK114 hb; replace HB := bs_ HB hb; (try clear hb); refine hk_ hK (fun hHeld => ?_); clear hK K; refine nm_ ?_; exact norm_ pa_ (hCont (gb114) _ ⟨hHeld, (k_ BK101.out), (k_ BK102.out), (k_ BK114.out), GW114.out, GE114.out, NB101_114.out, NB114_101.out, NB102_114.out, NB114_102.out, (b_ HB.out)⟩)
     rintro gb114 w68 ⟨hS_, h0_, h1_, h2_, h3_, h4_, h5_, h6_, h7_, h8_, h9_⟩; have n0_ : Aside0 (w68.heap[gb101]? = some (.cells #[.string a0_0, .string a0_1] 23 (0, 0))) := ⟨h0_⟩; have n1_ : Aside0 (w68.heap[gb102]? = some (.cells #[.string a1_0, .string a1_1] 23 (0, 0))) := ⟨h1_⟩; have n2_ : Aside0 (w68.heap[gb114]? = some (.cells #[.string (⟨#[]⟩ : ByteArray), .string (⟨#[]⟩ : ByteArray)] 23 (0, 0))) := ⟨h2_⟩; have n3_ : Aside0 (w.heap.size ≤ gb114) := ⟨h3_⟩; have n4_ : Aside0 (w.heap.size ≤ gb114) := ⟨h4_⟩; have n5_ : Aside0 (gb101 ≠ gb114) := ⟨h5_⟩; have n6_ : Aside0 (gb114 ≠ gb101) := ⟨h6_⟩; have n7_ : Aside0 (gb102 ≠ gb114) := ⟨h7_⟩; have n8_ : Aside0 (gb114 ≠ gb102) := ⟨h8_⟩; have n9_ : Aside0 (Below w.heap.size w w68) := ⟨h9_⟩; clear BK101; clear BK102; clear HB; clear h0_ h1_ h2_ h3_ h4_ h5_ h6_ h7_ h8_ h9_; have BK101 := n0_; have BK102 := n1_; have BK114 := n2_; have GW114 := n3_; have GE114 := n4_; have NB101_114 := n5_; have NB114_101 := n6_; have NB102_114 := n7_; have NB114_102 := n8_; have HB := n9_; clear n0_ n1_ n2_ n3_ n4_ n5_ n6_ n7_ n8_ n9_; have hHeld : w68.cell? ⟨gb102, 0, none⟩ = some (.string a1_0) ∧ w68.cell? ⟨gb102, 1, none⟩ = some (.string a1_1) := hS_; refine norm_ (a' := ?_) ?_ ?_; rotate_left
     ·simp only [putAll, Act.put, List.setIfInBounds_toArray, List.set_cons_zero, List.set_cons_succ]
      rfl
     refine one_ (i := 5) (N := none) #[true, true, true, true, true, true] rfl rfl (by kernel_rfl) (by decide) (fun K hK => ?_); have hs69 := bc_ BK114 0 rfl; have hfs69 := blk_frozen BK114.out 0; have hns69_0 := NB101_114.out; have hns69_1 := NB102_114.out; have hms69_0 := NB114_101.out; have hms69_1 := NB114_102.out; have hs70 := bc_ BK114 1 rfl; have hfs70 := blk_frozen BK114.out 1; have hns70_0 := NB101_114.out; have hns70_1 := NB102_114.out; have hms70_0 := NB114_101.out; have hms70_1 := NB114_102.out; refine skip_ (w1 := ?_) (by rfl) rfl ?_ ?_; rotate_left
     ·go_simp
      rfl
     refine hf_ hK hHeld (fun hHeld => ?_); clear hK K; refine done_ (by kernel_rfl) ?_; have hnb71 := NB101_102.out; have hnc71 := NB102_101.out; have hnb72 := NB101_114.out; have hnc72 := NB114_101.out; have hcz73_0 := bc_ BK101 0 rfl; have hcz73_1 := bc_ BK101 1 rfl; have hfz73_0 := blk_frozen BK101.out 0; have hfz73_1 := blk_frozen BK101.out 1
     try go_wp2_with (first | (refine gl_ 37 Tryz.func15 #[.agg #[.string a0_0, .string a0_1]] ?_; refine mo_ (grid_Cents.calls a0_0 a0_1 t115 t116 _ (lb_ HLD HB) A58.out) ?_; intro w74 hb; replace BK101 := Aside0.mk (blk_below (g := gb101) (o := .cells #[.string a0_0, .string a0_1] 23 (0, 0)) (fr_ BK101.out) hb); replace BK102 := Aside0.mk (blk_below (g := gb102) (o := .cells #[.string a1_0, .string a1_1] 23 (0, 0)) (fr_ BK102.out) hb); replace BK114 := Aside0.mk (blk_below (g := gb114) (o := .cells #[.string t112, .string t113] 23 (0, 0)) (rp_ BK114.out) hb); replace HB := bs_ HB hb; (try clear hb); (try clear hb2); (try clear hk); (try clear hi)) | ((with_reducible refine gate_dst (N := 8) rfl ?_); (try (refine gate_guard (by rfl) ?_; dsimp only)); refine be_ 8 #[.string (⟨#[]⟩ : ByteArray), .string (⟨#[]⟩ : ByteArray)] 23 ?_; intro gb117 hg w75 hbox hb; have BK117 := Aside0.mk (hbox); have GW117 := ge_ HB hg; have GE117 := ge_ HB hg; have NB101_117 := nl_ BK101 hg; have NB117_101 := ng_ BK101 hg; have NB102_117 := nl_ BK102 hg; have NB117_102 := ng_ BK102 hg; have NB114_117 := nl_ BK114 hg; have NB117_114 := ng_ BK114 hg; replace BK101 := kb_ BK101 hb; replace BK102 := kb_ BK102 hb; replace BK114 := kb_ BK114 hb; replace HB := bs_ HB hb; clear hb hbox hg; have hnb76 := NB117_101.out; have hnc76 := NB101_117.out; have hnb77 := NB117_102.out; have hnc77 := NB102_117.out; have hnb78 := NB117_114.out; have hnc78 := NB114_117.out; have hcz79_0 := bc_ BK117 0 rfl; have hcz79_1 := bc_ BK117 1 rfl; have hfz79_0 := blk_frozen BK117.out 0; have hfz79_1 := blk_frozen BK117.out 1))
     have n0_ : Aside0 (((w75.setCell ⟨gb117, 0, none⟩ (.string t115)).setCell ⟨gb117, 1, none⟩ (.string t116)).heap[gb101]? = some (.cells #[.string a0_0, .string a0_1] 23 (0, 0))) := ⟨fr_ BK101.out⟩; have n1_ : Aside0 (((w75.setCell ⟨gb117, 0, none⟩ (.string t115)).setCell ⟨gb117, 1, none⟩ (.string t116)).heap[gb102]? = some (.cells #[.string a1_0, .string a1_1] 23 (0, 0))) := ⟨fr_ BK102.out⟩; have n2_ : Aside0 (((w75.setCell ⟨gb117, 0, none⟩ (.string t115)).setCell ⟨gb117, 1, none⟩ (.string t116)).heap[gb114]? = some (.cells #[.string t112, .string t113] 23 (0, 0))) := ⟨fr_ BK114.out⟩; have n3_ : Aside0 (((w75.setCell ⟨gb117, 0, none⟩ (.string t115)).setCell ⟨gb117, 1, none⟩ (.string t116)).heap[gb117]? = some (.cells #[.string t115, .string t116] 23 (0, 0))) := ⟨rp_ BK117.out⟩; have n4_ : Aside0 (Below w.heap.size w ((w75.setCell ⟨gb117, 0, none⟩ (.string t115)).setCell ⟨gb117, 1, none⟩ (.string t116))) := ⟨b_ HB.out⟩; (try clear BK101); (try clear BK102); (try clear BK114); (try clear BK117); (try clear HB); generalize ((w75.setCell ⟨gb117, 0, none⟩ (.string t115)).setCell ⟨gb117, 1, none⟩ (.string t116)) = w80 at n0_ n1_ n2_ n3_ n4_ ⊢; have BK101 := n0_; have BK102 := n1_; have BK114 := n2_; have BK117 := n3_; have HB := n4_; clear n0_ n1_ n2_ n3_ n4_; replace BK101 := Aside0.mk (blk_drew BK101.out); replace BK102 := Aside0.mk (blk_drew BK102.out); replace BK114 := Aside0.mk (blk_drew BK114.out); replace BK117 := Aside0.mk (blk_drew BK117.out); replace HB := Aside0.mk (below_drew1 HB.out); refine sa_ 16 (fun w' => w'.cell? ⟨gb101, 0, none⟩ = some (.string a0_0) ∧ w'.cell? ⟨gb101, 1, none⟩ = some (.string a0_1) ∧ w'.cell? ⟨gb102, 0, none⟩ = some (.string a1_0) ∧ w'.cell? ⟨gb102, 1, none⟩ = some (.string a1_1) ∧ w'.cell? ⟨gb114, 0, none⟩ = some (.string t112) ∧ w'.cell? ⟨gb114, 1, none⟩ = some (.string t113) ∧ w'.cell? ⟨gb117, 0, none⟩ = some (.string t115) ∧ w'.cell? ⟨gb117, 1, none⟩ = some (.string t116)) (fun hHeld => ?_); refine with_tabW dl5_GridTwice.tab5 dl5_GridTwice.bits5 (fun HT_ HW_ => ?_); generalize w80.drew = w81 at BK101 BK102 BK114 BK117 HB hHeld ⊢; refine t8_ 0 38 rfl rfl HT_ HW_ hHeld ?_; refine t8_ 1 39 rfl rfl HT_ HW_ hHeld ?_; refine t8_ 3 41 rfl rfl HT_ HW_ hHeld ?_; refine t8_ 5 43 rfl rfl HT_ HW_ hHeld ?_; refine t8_ 6 44 rfl rfl HT_ HW_ hHeld ?_; refine on_ 2 (some 40) rfl rfl HT_ (fun K hK => ?_); refine gs_ Tryz.func13 #[.agg #[.string a0_0, .string a0_1], .agg #[.string a1_0, .string a1_1], .int .i64 0] ?_; refine mo_ (grid_Round.calls a0_0 a0_1 a1_0 a1_1 0 t118 t119 _ (lb_ HLD HB) A59.out) ?_; intro w82 hb; replace BK101 := kb_ BK101 hb; replace BK102 := kb_ BK102 hb; replace BK114 := kb_ BK114 hb; replace BK117 := kb_ BK117 hb; replace HB := bs_ HB hb; (try clear hb); refine hk_ hK (fun hHeld => ?_); clear hK K; refine nm_ ?_; refine on_ 4 (some 42) rfl rfl HT_ (fun K hK => ?_); refine gs_ Tryz.func13 #[.agg #[.string t118, .string t119], .agg #[.string t112, .string t113], .int .i64 0] ?_; refine mo_ (grid_Round.calls t118 t119 t112 t113 0 t120 t121 _ (lb_ HLD HB) A60.out) ?_; intro w83 hb; replace BK101 := kb_ BK101 hb; replace BK102 := kb_ BK102 hb; replace BK114 := kb_ BK114 hb; replace BK117 := kb_ BK117 hb; replace HB := bs_ HB hb; (try clear hb); refine hk_ hK (fun hHeld => ?_); clear hK K; refine nm_ ?_; refine on_ 7 (some 45) rfl rfl HT_ (fun K hK => ?_); refine gs_ Tryz.func13 #[.agg #[.string a0_0, .string a0_1], .agg #[.string t112, .string t113], .int .i64 0] ?_; refine mo_ (grid_Round.calls a0_0 a0_1 t112 t113 0 t122 t123 _ (lb_ HLD HB) A61.out) ?_; intro w84 hb; replace BK101 := kb_ BK101 hb; replace BK102 := kb_ BK102 hb; replace BK114 := kb_ BK114 hb; replace BK117 := kb_ BK117 hb; replace HB := bs_ HB hb; (try clear hb); refine hk_ hK (fun hHeld => ?_); clear hK K; refine nm_ ?_; refine pu_ 8 46 rfl rfl HT_ ?_; refine pu_ 9 47 rfl rfl HT_ ?_; refine t8_ 10 48 rfl rfl HT_ HW_ hHeld ?_; refine t8_ 12 50 rfl rfl HT_ HW_ hHeld ?_; refine on_ 11 (some 49) rfl rfl HT_ (fun K hK => ?_); refine gs_ Tryz.func15 #[.agg #[.string t115, .string t116]] ?_; refine mo_ (grid_Cents.calls t115 t116 t124 t125 _ (lb_ HLD HB) A63.out) ?_; intro w85 hb; replace BK101 := kb_ BK101 hb; replace BK102 := kb_ BK102 hb; replace BK114 := kb_ BK114 hb; replace BK117 := kb_ BK117 hb; replace HB := bs_ HB hb; (try clear hb); refine hk_ hK (fun hHeld => ?_); clear hK K; refine nm_ ?_; refine pu_ 13 51 rfl rfl HT_ ?_; refine pu_ 14 52 rfl rfl HT_ ?_; refine pu_ 15 6 rfl rfl HT_ ?_; refine done_ (done_of HT_.out (by kernel_rfl)) ?_
     try go_wp2
     go_ret
     exact ⟨er_, b_ HB.out⟩
    ·rw [if_neg c62] at H; exact absurd (H.trans (congrArg some hr_.out)) (by decide)
end Go.Proofs.YtmfcpapfikbomaaGreatDoor.LGridTwice
end

section
namespace Go.Proofs.YtmfcpapfikbomaaGreatDoor.LGridTwice
end Go.Proofs.YtmfcpapfikbomaaGreatDoor.LGridTwice
end

section
namespace Go.Proofs.YtmfcpapfikbomaaGreatDoor
theorem pureGridTwice (a0_0 a0_1 a1_0 a1_1 : ByteArray) (a2 : Int) (w2 : (Lit.int .i64 a2).wf = true) : ∃ k, LGridTwice.dl5_GridTwice.f k a0_0 a0_1 a1_0 a1_1 a2 = some true := by
 refine ⟨3, ?_⟩
 unfold LGridTwice.dl5_GridTwice.f dl5_fixed.f
 have hj : LGridTwice.dl5_GridTwice.j0 3 a2 true a0_0 a0_1 a1_0 a1_1 = some true := by
  simp only [LGridTwice.dl5_GridTwice.j0]
  rfl
 rw [Option.bind_some, if_pos rfl, goods2, Option.bind_some]
 cases h0 : goodR ⟨a0_0, a0_1⟩ <;> cases h1 : goodR ⟨a1_0, a1_1⟩
 all_goals first | exact hj | skip
 obtain ⟨x, rfl, rfl, sx⟩ := of_good h0
 obtain ⟨g, rfl, rfl, sg⟩ := of_good h1
 rw [if_pos (by rfl), kSign (by omega), Option.bind_some]
 by_cases hg : cmpQ g 0 ≤ 0
 ·rw [if_pos hg]; exact hj
 rw [if_neg hg]
 have hp : 0 < g := Rat.not_le.1 (fun h => hg ((cmpQ_le g 0).2 h))
 by_cases n1 : a2 < 1
 ·rw [if_pos n1]; exact hj
 rw [if_neg n1]
 by_cases n2 : a2 > 1000
 ·rw [decide_eq_true n2]; exact hj
 rw [decide_eq_false n2]
 have sn := szR_small (n := a2) (by omega) (by omega)
 have sw := szR_mul g (a2 : Rat)
 have hn : (0 : Rat) < (a2 : Rat) := dpos (by omega)
 have hwp : 0 < g * (a2 : Rat) := Rat.mul_pos hp hn
 have t1 := szR_gR x hp 0
 have t2 := szR_gR x cent_pos 2
 have sc := szR_centQ
 show LGridTwice.dl5_GridTwice.j0 (2 + 1) a2 false _ _ _ _ = _
 simp only [LGridTwice.dl5_GridTwice.j0]
 rw [if_neg (by decide), kOf (by omega) (by omega), Option.bind_some, kMul (by omega) (by omega), Option.bind_some, gCents (by omega), Option.bind_some, gRound (by omega) (by omega) (by omega) (by omega) hp, Option.bind_some, gRound (by omega) (by omega) (by omega) (by omega) hwp, Option.bind_some, gRound (by omega) (by omega) (by omega) (by omega) hwp, Option.bind_some, rT_beq, if_pos (decide_eq_true (gR_twice hp x (by omega))), gCents (by omega), Option.bind_some, rT_beq, decide_eq_true (gR_fix cent_pos x 2)]
end Go.Proofs.YtmfcpapfikbomaaGreatDoor
end

section
namespace Go.Proofs.YtmfcpapfikbomaaGreatDoor.gridTwice
open Go.ChangeShapes Go.WideShapes Go.ChangeAt Go.RowKit
set_option maxRecDepth 100000 in
theorem lifted (os : Os) (started : os.Started) (H : Type) (enc : TypeId × Value → H) :
  ReturnsInHanded {} Tryz.checked os 6 .any (fun w args => (Rows.gridTwiceSpec.pre enc Tryz.prog Tryz.f6 Rows.gridTwiceRow.domain false w args ∧ laidMetH Tryz.prog laidL w) ∧ sizedMet enc Tryz.prog Tryz.f6 (OpenSpec.ofChange Rows.gridTwiceSpec) false w args)
   (Rows.gridTwiceSpec.post enc Tryz.prog Tryz.f6 false true false false) := by
 refine returnsInHanded_of_change_and (C := Tryz.checked) (X := fun w _ => laidMetH Tryz.prog laidL w) (fun _ _ _ hh h => h.of_heap hh) own started (by kernel_rfl) Tryz.func6
  (ChangeSpec.witness_shaped (enc := enc) (C := Tryz.checked) (os := os) (X := fun w _ => laidMetH Tryz.prog laidL w) false (World.doorLaid Tryz.prog 4000 os) #[.agg #[.string ByteArray.empty, .string ByteArray.empty], .agg #[.string ByteArray.empty, .string ByteArray.empty], .int .i64 0] 8 rfl (World.shaped_of_RefB (by kernel_rfl) (by kernel_rfl)) (by kernel_rfl) (by kernel_rfl) (by kernel_rfl) (door_met os _)) ?_
 intro W base args ds gs before hval0 hW _ hsz0 hL _
 have hsz : (DataW.weightsEach Tryz.prog (Tryz.f6.params.toList ++ Rows.gridTwiceSpec.plain.varTypes Tryz.prog) (ds ++ gs)).all (· ≤ reachBytes) = true := hsz0
 have hval : ∀ (j : Nat) t v, Tryz.f6.params[j]? = some t → args[j]? = some v → Value.okWide Tryz.prog W .any base t v := hval0
 have hW' := hW
 obtain ⟨p, q, hA0, hV, rfl, hfz, hnd⟩ := hW
 have hA : DataW.TrodAll enc Tryz.prog W 0 (fun _ => true) true Tryz.f6.params.toList args.toList ds p := hA0
 rw [Tryz.params6] at hA hval hsz
 obtain ⟨v0, vs0, d0, ds0, p0, q0, hargs, rfl, rfl, h0, r0⟩ := trodAll_cons hA
 obtain ⟨v1, vs1, d1, ds1, p1, q1, rfl, rfl, rfl, h1, r1⟩ := trodAll_cons r0
 obtain ⟨v2, vs2, d2, ds2, p2, q2, rfl, rfl, rfl, h2, r2⟩ := trodAll_cons r1
 obtain ⟨rfl, rfl, rfl⟩ := trodAll_nil r2
 obtain rfl : args = #[v0, v1, v2] := by cases args; simp_all
 obtain ⟨rfl, rfl⟩ := trodVars_none hV
 obtain ⟨a0_0, a0_1, rfl, rfl, rfl, y0_0, y0_1⟩ := open_s2 Tryz.underlying23 Tryz.underlying9 Tryz.underlying9 (by kernel_rfl) (by kernel_rfl : Tryz.prog.cellsOf 23 = 2) (hval 0 23 v0 rfl rfl) h0
 obtain ⟨a1_0, a1_1, rfl, rfl, rfl, y1_0, y1_1⟩ := open_s2 Tryz.underlying23 Tryz.underlying9 Tryz.underlying9 (by kernel_rfl) (by kernel_rfl : Tryz.prog.cellsOf 23 = 2) (hval 1 23 v1 rfl rfl) h1
 obtain ⟨a2, rfl, rfl, rfl, w2⟩ := open_int Tryz.underlying3 (hval 2 3 v2 rfl rfl) h2
 clear hA0 hval0 hsz0 hsz
 obtain ⟨k, hf⟩ := pureGridTwice a0_0 a0_1 a1_0 a1_1 a2 w2
 refine (LGridTwice.dl5_GridTwice.calls k a0_0 a0_1 a1_0 a1_1 a2 true W (laid_of hL) ⟨rfl⟩ hf).mono fun e W' ⟨he, bel⟩ => ?_
 subst he
 exact ⟨_, rfl, _, _, _, [], _, [], hW', trodAll_mk1 (shut_bool Tryz.underlying4 _), (trodAll_cons_mk (shut_s2 Tryz.underlying23 Tryz.underlying9 Tryz.underlying9 (by kernel_rfl) (by kernel_rfl : Tryz.prog.cellsOf 23 = 2) y0_0 y0_1) (trodAll_cons_mk (shut_s2 Tryz.underlying23 Tryz.underlying9 Tryz.underlying9 (by kernel_rfl) (by kernel_rfl : Tryz.prog.cellsOf 23 = 2) y1_0 y1_1) (trodAll_cons_mk (shut_int Tryz.underlying3 w2) trodAll_mk0))), rfl, bel.frame _, fun h => by cases h⟩
theorem over : Rows.GridTwiceSaid :=
 OpenClaim.holds_of_wide 6 Tryz.f6 rfl rfl rfl rfl rfl rfl rfl ⟨rfl, rfl, rfl, rfl, rfl⟩ rfl rfl rfl rfl rfl (by kernel_rfl) Tryz.func6 (by kernel_rfl)
  (of_decide_eq_true (by kernel_rfl)) (by unfold Func.isWrapper; first | (rw [if_pos (by decide +kernel)]; kernel_rfl) | (rw [if_neg (by decide +kernel)]; exact ⟨rfl, rfl⟩))
  (fun os started H enc _ => lifted os started H enc)
theorem proved : Rows.GridTwiceCardSaid :=
 Claim7.holds_tied_plain_at .later [] [.data, .data, .data, .sentinel, .sentinel] true (true, "b3870cba59922883960d8a6bf06328dd79f9947c939392f4afc6c5f8b9def57b") true
  over (fun _ h => by cases h) (by kernel_rfl) (fun _ h => by cases h) gridTwice_row_tie rfl ⟨rfl, rfl⟩ (by kernel_rfl) rfl
  (fun f fn hf hfn => by
   obtain rfl : f = 6 := Option.some.inj ((show Tryz.prog.funcNamed "debenture/debenturelaw05.GridTwice" = some 6 by kernel_rfl).symm.trans hf) |>.symm
   obtain rfl : fn = Tryz.f6 := (Option.some.inj (Tryz.func6.symm.trans hfn)).symm
   exact ⟨by kernel_rfl, fun j t ht => by
    rw [Tryz.params6] at ht
    have hm : t ∈ [23, 23, 3] := by simpa using Array.mem_of_getElem? ht
    have hall : ([23, 23, 3].all fun u => !Tryz.prog.wantsStandIn u) = true := by kernel_rfl
    exact (show Tryz.prog.wantsStandIn t = false by simpa using List.all_eq_true.1 hall t hm)⟩)
  (by kernel_rfl)
end Go.Proofs.YtmfcpapfikbomaaGreatDoor.gridTwice
namespace Go.Proofs.YtmfcpapfikbomaaGreatDoor
theorem gridTwice_holds : Rows.GridTwiceCardSaid := gridTwice.proved
#print axioms gridTwice_holds
end Go.Proofs.YtmfcpapfikbomaaGreatDoor
end
