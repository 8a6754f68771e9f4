/-
The law DecimalBack holds at every input that its row lets in: the row's walk and its plain law, tied to the program's text. Conditions: none beyond the given row's own.
Parts of the proof, in build order: LDecimalBack0, LDecimalBack1, LDecimalBack2, LDecimalBack3, LDecimalBack, PuDecimalBack, RowDecimalBack.
-/
import Derived.Test.YtaldgaiaelbbaaaGreatDoorC4
import Derived.Test.YtaldgaiaelbbaaaGreatDoorProg
import Derived.Below
import Derived.Deep.Draws
import Derived.Deep.AppendLies
import Derived.Maps.AppendAt
import Derived.OwnWalk
import Derived.Laws.BytesArg
import Derived.Laws.MakeOwn
import Derived.Laws.OwnMore
import Derived.Deep.OwnRows
import Derived.Tactics
import Derived.Lib.ConvBytes
import Derived.Laws.Slices
import Derived.WalkKit
import Derived.KernelRfl
import Derived.RowKit3
import Derived.Deep.LoopGhost
import Derived.Deep.QuietTactic
import Derived.BigQuiet
import Derived.WideLaws
import Derived.Deep.DeepCutAuto
import Derived.Deep.CutBlock
import Derived.Deep.RegionHeld3
import Derived.Laws.Rows
import Derived.Lib.AppendStr
import Derived.ArgAppend
import Derived.Laws.IdiomCopy
import Derived.OrdersHeld
import Derived.Laws.BitsLemmas
import Derived.RowKit
import Derived.Test.YtaldgaiaelbbaaaGreatDoorC0
import Derived.Test.YtaldgaiaelbbaaaGreatDoorC5
import Derived.Test.YtaldgaiaelbbaaaGreatDoorC2
import Derived.Test.YtaldgaiaelbbaaaGreatDoorTie
import Derived.Test.YtaldgaiaelbbaaaGreatDoorCards
import Derived.SevenTiedAt
set_option linter.unusedVariables false
set_option linter.unusedSimpArgs false
open Go.RowKit Go.Proofs.YtaldgaiaelbbaaaGreatDoorW.PrintWords Go.Proofs.YtaldgaiaelbbaaaGreatDoorW.PrintLast Go.Proofs.YtaldgaiaelbbaaaGreatDoorW.PrintMore
attribute [local go_sem] max2_int min2_int max_two min_two max_three min_three max_four min_four   -- for this text's walks alone
section
namespace Go.Proofs.YtaldgaiaelbbaaaGreatDoor.LDecimalBack
def errW : Option Int → Value
 | none => .nilIface
 | some c => .iface 0 (.int .i64 c)
theorem errW_none : errW none = .nilIface := rfl
theorem errW_some (c : Int) : errW (some c) = .iface 0 (.int .i64 c) := rfl
theorem info23 : (Tryz.prog.info? 23).map (fun i => (i.zero, i.size, i.bytes)) = some (some (.agg #[(.string ⟨#[]⟩), (.string ⟨#[]⟩)]), 2, 32) := by kernel_rfl
end Go.Proofs.YtaldgaiaelbbaaaGreatDoor.LDecimalBack
end

section
namespace Go.Proofs.YtaldgaiaelbbaaaGreatDoor.LDecimalBack
theorem eqA23 (d : Nat) (w : World) (x0 y0 : ByteArray) (x1 y1 : ByteArray) :
  (Op.equalIn (d + 2) 23 (.agg #[.string x0, .string x1]) (.agg #[.string y0, .string y1])).run Tryz.prog w = .ok (x0.toList == y0.toList && (x1.toList == y1.toList)) w := by
 refine eqA_of Tryz.underlying23 (by kernel_rfl) ?_; refine eqf_cons (by rfl) (by go_simp; rfl) (by go_simp; rfl) (by go_simp) ?_; exact eqf_last (by rfl) (by go_simp; rfl) (by go_simp; rfl) (by go_simp)
end Go.Proofs.YtaldgaiaelbbaaaGreatDoor.LDecimalBack
end

section
namespace Go.Proofs.YtaldgaiaelbbaaaGreatDoor.LDecimalBack
end Go.Proofs.YtaldgaiaelbbaaaGreatDoor.LDecimalBack
end

section
namespace Go.Proofs.YtaldgaiaelbbaaaGreatDoor.LDecimalBack
open Go.Proofs.YtaldgaiaelbbaaaGreatDoor.Pz (S23 k23 k23_mkM)
attribute [local go_sem high] eqA23
mutual
def dl4_DecimalBack.j0 : Nat → ByteArray → Bool → ByteArray → ByteArray → ByteArray → ByteArray → Option (Bool)
 | 0, _, _, _, _, _, _ => none
 | k + 1, x2, x28, x102000, x102001, x103000, x103001 => if x28 = true then ((dl4_fixed.f).bind fun t108 => (some t108)) else ((decimal_Print.f x102000 x102001).bind fun t109 => (if (t109.size : Int) ≤ 1000 then ((decimal_Parse.f t109).bind fun bt110 => (if bt110.2.2 = 0 then (if (!(bt110.1.toList == x102000.toList) || (!(bt110.2.1.toList == x102001.toList))) = true then (some false) else (dl4_DecimalBack.j1 k x2 t109 x102000 x102001 x103000 x103001)) else (some false))) else (dl4_DecimalBack.j1 k x2 t109 x102000 x102001 x103000 x103001)))
def dl4_DecimalBack.j1 : Nat → ByteArray → ByteArray → ByteArray → ByteArray → ByteArray → ByteArray → Option (Bool)
 | 0, _, _, _, _, _, _ => none
 | k + 1, x2, x7, x102000, x102001, x103000, x103001 => (decimal_Parse.f x2).bind fun bt114 => (if bt114.2.2 = 0 then ((decimal_Print.f bt114.1 bt114.2.1).bind fun t119 => (if (t119.size : Int) > 1000 then (some true) else ((decimal_Parse.f t119).bind fun bt120 => (if bt120.2.2 = 0 then (if (bt120.1.toList == bt114.1.toList && (bt120.2.1.toList == bt114.2.1.toList)) = true then ((decimal_Print.f x103000 x103001).bind fun t124 => (some ((x7.toList == t124.toList) == (x102000.toList == x103000.toList && (x102001.toList == x103001.toList))))) else (some false)) else (some false))))) else (if (bt114.1.toList == ([] : List UInt8) && (bt114.2.1.toList == ([] : List UInt8))) = true then ((decimal_Print.f x103000 x103001).bind fun t118 => (some ((x7.toList == t118.toList) == (x102000.toList == x103000.toList && (x102001.toList == x103001.toList))))) else (some false)))
end
def dl4_DecimalBack.f (k : Nat) (a0_0 : ByteArray) (a0_1 : ByteArray) (a1_0 : ByteArray) (a1_1 : ByteArray) (a2 : ByteArray) : Option (Bool) := (dl4_fixed.f).bind fun t103 => (if t103 = true then ((r3_Good.f (([(⟨a0_0, a0_1⟩ : S23), (⟨a1_0, a1_1⟩ : S23)] : List (S23)))).bind fun t107 => (if t107 = true then (dl4_DecimalBack.j0 k a2 (decide ((a2.size : Int) > 300)) a0_0 a0_1 a1_0 a1_1) else (dl4_DecimalBack.j0 k a2 true a0_0 a0_1 a1_0 a1_1))) else (dl4_DecimalBack.j0 k a2 true a0_0 a0_1 a1_0 a1_1))
def dl4_DecimalBack.T10 : Bool × List (List Nat × List Nat) := (true, [([], []), ([], []), ([0, 1], [0, 1]), ([2], [2]), ([3], [3]), ([3], [3]), ([5, 3, 3], [3, 5]), ([4, 6, 3], [3, 4, 6]), ([3], [3]), ([3], [3]), ([8, 9, 3], [3, 8, 9]), ([7, 10, 3], [3, 7, 10]), ([3, 11], [3, 11]), ([12, 6, 0, 1, 2, 3, 4, 5, 6, 7, 8, 9, 10, 11, 12], [12])])
def dl4_DecimalBack.B10 : List Nat := [0, 0, 3, 7, 15, 15, 47, 127, 15, 15, 783, 2047, 4095, 8191]
theorem dl4_DecimalBack.tab10 : rtab .any (opsOf Tryz.f4 10) = dl4_DecimalBack.T10 := by kernel_rfl
theorem dl4_DecimalBack.bits10 : waitsOk dl4_DecimalBack.T10.2 dl4_DecimalBack.B10 = true := by kernel_rfl
def dl4_DecimalBack.T15 : Bool × List (List Nat × List Nat) := (true, [([], []), ([0], [0]), ([1], [1]), ([2], [2]), ([2], [2]), ([3, 4, 2], [2, 3, 4]), ([2, 5], [2, 5]), ([6, 2], [6]), ([7], [7]), ([7], [7]), ([9, 7, 7], [7, 9]), ([8, 10, 7], [7, 8, 10]), ([7], [7]), ([7], [7]), ([12, 13, 7], [7, 12, 13]), ([11, 14, 7], [7, 11, 14]), ([7, 15], [7, 15]), ([16, 10, 0, 1, 2, 3, 4, 5, 6, 7, 8, 9, 10, 11, 12, 13, 14, 15, 16], [16])])
def dl4_DecimalBack.B15 : List Nat := [0, 1, 3, 7, 7, 31, 63, 127, 255, 255, 767, 2047, 255, 255, 12543, 32767, 65535, 131071]
theorem dl4_DecimalBack.tab15 : rtab .any (opsOf Tryz.f4 15) = dl4_DecimalBack.T15 := by kernel_rfl
theorem dl4_DecimalBack.bits15 : waitsOk dl4_DecimalBack.T15.2 dl4_DecimalBack.B15 = true := by kernel_rfl
set_option maxHeartbeats 8000000 in
set_option maxRecDepth 100000 in
theorem dl4_DecimalBack.calls (k : Nat) (a0_0 : ByteArray) (a0_1 : ByteArray) (a1_0 : ByteArray) (a1_1 : ByteArray) (a2 : ByteArray) (r : Bool) (w : World) (hL_ : Laid w) (hr_ : Aside0 (r = true)) (h : dl4_DecimalBack.f k a0_0 a0_1 a1_0 a1_1 a2 = some r) :
  Calls Tryz.prog 4 #[.agg #[.string a0_0, .string a0_1], .agg #[.string a1_0, .string a1_1], .string a2] w fun e w' => e = .returned (.bool r) ∧ Below w.heap.size w w' := by
 have hu23 := Tryz.underlying23; have HLD := Aside0.mk hL_; clear hL_; have HB := Aside0.mk (Below.refl w.heap.size w); have H := h; unfold dl4_DecimalBack.f at H; clear h; have HC4 := Aside0.mk H; clear H; go_enter Tryz.func4, Tryz.ntmps4
 go_upto_region 1 with (first | ((with_reducible refine gate_dst (N := 3) rfl ?_); (try (refine gate_guard (by rfl) ?_; dsimp only)); refine be_ 3 #[.string a0_0, .string a0_1] 23 ?_; intro gb101 hg w5 hbox hb; have BK101 := Aside0.mk (hbox); have GW101 := ge_ HB hg; have GE101 := ge_ HB hg; replace HB := bs_ HB hb; clear hb hbox hg) | ((with_reducible refine gate_dst (N := 4) rfl ?_); (try (refine gate_guard (by rfl) ?_; dsimp only)); refine be_ 4 #[.string a1_0, .string a1_1] 23 ?_; intro gb102 hg w6 hbox hb; have BK102 := Aside0.mk (hbox); have GW102 := ge_ HB hg; have GE102 := ge_ HB hg; have NB101_102 := nl_ BK101 hg; have NB102_101 := ng_ BK101 hg; replace BK101 := kb_ BK101 hb; replace HB := bs_ HB hb; clear hb hbox hg))
 (try simp only [Act.put, List.setIfInBounds_toArray, List.set_cons_zero, List.set_cons_succ])
 go_cut [28] (fun v28 wc => ∃ (kq : Nat) (x28_3 : Bool), v28 = .bool x28_3 ∧ Aside0 (dl4_DecimalBack.j0 kq a2 x28_3 a0_0 a0_1 a1_0 a1_1 = some r) ∧ Aside0 (kq ≤ k) ∧ Aside0 (wc.heap[gb101]? = some (.cells #[.string a0_0, .string a0_1] 23 (0, 0))) ∧ Aside0 (wc.heap[gb102]? = some (.cells #[.string a1_0, .string a1_1] 23 (0, 0))) ∧ Aside0 (Below w.heap.size w wc))
 case first =>
  have H := HC4.out; clear HC4; obtain ⟨t103, A7, H⟩ := bi_ H; by_cases c8 : t103 = true
  ·subst c8; rw [if_pos rfl] at H; obtain ⟨y104, hy104⟩ : ∃ y_ : List (S23), y_ = (([(⟨a0_0, a0_1⟩ : S23), (⟨a1_0, a1_1⟩ : S23)] : List (S23))) := ⟨_, rfl⟩
   replace H : ((r3_Good.f y104).bind fun t107 => (if t107 = true then (dl4_DecimalBack.j0 k a2 (decide ((a2.size : Int) > 300)) a0_0 a0_1 a1_0 a1_1) else (dl4_DecimalBack.j0 k a2 true a0_0 a0_1 a1_0 a1_1))) = some r := by first | (rw [hy104]; with_reducible exact H) | (have H2_ := (Option.bind_some _ _).symm.trans H; rw [hy104]; with_reducible exact H2_) | (have H2_ := (Option.bind_some _ _).symm.trans H; with_reducible exact H2_) | with_reducible exact H | (rw [hy104]; exact H) | exact H
   have Ny104 := Aside0.mk hy104; clear hy104; obtain ⟨t107, A9, H⟩ := bi_ H; by_cases c10 : t107 = true
   ·subst c10; rw [if_pos rfl] at H; have H' := Aside0.mk H; clear H
    go_wp2_with (first | (refine gl_ 15 Tryz.func9 #[] ?_; refine mo_ (dl4_fixed.calls  true _ (lb_ HLD HB) A7.out) ?_; intro w11 hb; replace BK101 := kb_ BK101 hb; replace BK102 := kb_ BK102 hb; replace HB := bs_ HB hb; (try clear hb); (try clear hb2); (try clear hk); (try clear hi); have hnb12 := NB101_102.out; have hnc12 := NB102_101.out; have hcz13_0 := bc_ BK101 0 rfl; have hcz13_1 := bc_ BK101 1 rfl; have hfz13_0 := blk_frozen BK101.out 0; have hfz13_1 := blk_frozen BK101.out 1; have hcz14_0 := bc_ BK102 0 rfl; have hcz14_1 := bc_ BK102 1 rfl; have hfz14_0 := blk_frozen BK102.out 0; have hfz14_1 := blk_frozen BK102.out 1) | ((with_reducible refine gate_dst (N := 20) rfl ?_); (try (refine gate_guard (by rfl) ?_; dsimp only)); refine Kd.R_lit k23 _ 23 ?hg (N := 20) ?hd (xs := ([(⟨a0_0, a0_1⟩ : S23), (⟨a1_0, a1_1⟩ : S23)] : List (S23))) (inner := [.string a0_0, .string a0_1, .string a1_0, .string a1_1]) (ok := fun _ => True) (okp := fun _ => True) ?hr ?hp (fun _ hk => hk) trivial (Below.refl _ _) (Nat.le_refl _) (by simp) ?_; (case hd => rfl); (case hg => rfl); (case hr => first | (go_simp; done) | (go_simp; rfl)); (case hp => exact (Reps.c2 (show Kd.M k23 _ _ _ (⟨a0_0, a0_1⟩ : S23) [.string a0_0, .string a0_1] from (k23_mkM _ _ _ (⟨a0_0, a0_1⟩ : S23) )) (Reps.c2 (show Kd.M k23 _ _ _ (⟨a1_0, a1_1⟩ : S23) [.string a1_0, .string a1_1] from (k23_mkM _ _ _ (⟨a1_0, a1_1⟩ : S23) )) (Reps.none _ _)))); intro v105 w15 ho16 hb hg_ hnew_; clear hg_ hnew_; (first | rw [← Ny104.out] at ho16 | (simp only [Int.reduceToNat] at ho16; rw [← Ny104.out] at ho16)); have HO106 := Aside0.mk (Kd.R_lower (Kd.R_newB (Kd.R_newB ho16 (g := gb101) (o := .cells #[.string a0_0, .string a0_1] 23 (0, 0)) (k_ BK101.out)) (g := gb102) (o := .cells #[.string a1_0, .string a1_1] 23 (0, 0)) (k_ BK102.out)) (below_size (b_ HB.out))); replace BK101 := kb_ BK101 hb; replace BK102 := kb_ BK102 hb; replace HB := bs_ HB hb; clear hb ho16; obtain ⟨Ao17, co17, eo17⟩ := Kd.R_slice HO106.out; subst eo17) | (go_at_call 16; (with_reducible refine (r3_Good.calls _ _ y104 true _ ?side1 ?side2 A9.out).mono ?_); (case side1 => exact c_ (Kd.R_reads' HO106.out).2.2); (case side2 => exact (Kd.R_reads' HO106.out).2.1); rintro e w18 ⟨rfl, hb⟩; replace HO106 := Aside0.mk (Kd.R_below (w_ HO106.out) hb); replace BK101 := kb_ BK101 hb; replace BK102 := kb_ BK102 hb; replace HB := bs_ HB hb; (try clear hb); (try clear hb2); (try clear hk); (try clear hi)))
    go_meet
    case rel => exact ⟨_, (decide ((a2.size : Int) > 300)), rl_, H', ⟨by first | omega | exact Nat.le_refl _⟩, ⟨k_ BK101.out⟩, ⟨k_ BK102.out⟩, ⟨b_ HB.out⟩⟩
   ·replace c10 := Bool.eq_false_iff.mpr c10; subst c10; rw [if_neg nf_] at H; have H' := Aside0.mk H; clear H
    go_wp2_with (first | (refine gl_ 15 Tryz.func9 #[] ?_; refine mo_ (dl4_fixed.calls  true _ (lb_ HLD HB) A7.out) ?_; intro w19 hb; replace BK101 := kb_ BK101 hb; replace BK102 := kb_ BK102 hb; replace HB := bs_ HB hb; (try clear hb); (try clear hb2); (try clear hk); (try clear hi); have hnb20 := NB101_102.out; have hnc20 := NB102_101.out; have hcz21_0 := bc_ BK101 0 rfl; have hcz21_1 := bc_ BK101 1 rfl; have hfz21_0 := blk_frozen BK101.out 0; have hfz21_1 := blk_frozen BK101.out 1; have hcz22_0 := bc_ BK102 0 rfl; have hcz22_1 := bc_ BK102 1 rfl; have hfz22_0 := blk_frozen BK102.out 0; have hfz22_1 := blk_frozen BK102.out 1) | ((with_reducible refine gate_dst (N := 20) rfl ?_); (try (refine gate_guard (by rfl) ?_; dsimp only)); refine Kd.R_lit k23 _ 23 ?hg (N := 20) ?hd (xs := ([(⟨a0_0, a0_1⟩ : S23), (⟨a1_0, a1_1⟩ : S23)] : List (S23))) (inner := [.string a0_0, .string a0_1, .string a1_0, .string a1_1]) (ok := fun _ => True) (okp := fun _ => True) ?hr ?hp (fun _ hk => hk) trivial (Below.refl _ _) (Nat.le_refl _) (by simp) ?_; (case hd => rfl); (case hg => rfl); (case hr => first | (go_simp; done) | (go_simp; rfl)); (case hp => exact (Reps.c2 (show Kd.M k23 _ _ _ (⟨a0_0, a0_1⟩ : S23) [.string a0_0, .string a0_1] from (k23_mkM _ _ _ (⟨a0_0, a0_1⟩ : S23) )) (Reps.c2 (show Kd.M k23 _ _ _ (⟨a1_0, a1_1⟩ : S23) [.string a1_0, .string a1_1] from (k23_mkM _ _ _ (⟨a1_0, a1_1⟩ : S23) )) (Reps.none _ _)))); intro v105 w23 ho24 hb hg_ hnew_; clear hg_ hnew_; (first | rw [← Ny104.out] at ho24 | (simp only [Int.reduceToNat] at ho24; rw [← Ny104.out] at ho24)); have HO106 := Aside0.mk (Kd.R_lower (Kd.R_newB (Kd.R_newB ho24 (g := gb101) (o := .cells #[.string a0_0, .string a0_1] 23 (0, 0)) (k_ BK101.out)) (g := gb102) (o := .cells #[.string a1_0, .string a1_1] 23 (0, 0)) (k_ BK102.out)) (below_size (b_ HB.out))); replace BK101 := kb_ BK101 hb; replace BK102 := kb_ BK102 hb; replace HB := bs_ HB hb; clear hb ho24; obtain ⟨Ao25, co25, eo25⟩ := Kd.R_slice HO106.out; subst eo25) | (go_at_call 16; (with_reducible refine (r3_Good.calls _ _ y104 false _ ?side1 ?side2 A9.out).mono ?_); (case side1 => exact c_ (Kd.R_reads' HO106.out).2.2); (case side2 => exact (Kd.R_reads' HO106.out).2.1); rintro e w26 ⟨rfl, hb⟩; replace HO106 := Aside0.mk (Kd.R_below (w_ HO106.out) hb); replace BK101 := kb_ BK101 hb; replace BK102 := kb_ BK102 hb; replace HB := bs_ HB hb; (try clear hb); (try clear hb2); (try clear hk); (try clear hi)))
    go_meet
    case rel => exact ⟨_, (true), rl_, H', ⟨by first | omega | exact Nat.le_refl _⟩, ⟨k_ BK101.out⟩, ⟨k_ BK102.out⟩, ⟨b_ HB.out⟩⟩
  ·replace c8 := Bool.eq_false_iff.mpr c8; subst c8; rw [if_neg nf_] at H; have H' := Aside0.mk H; clear H
   go_wp2_with (first | (refine gl_ 15 Tryz.func9 #[] ?_; refine mo_ (dl4_fixed.calls  false _ (lb_ HLD HB) A7.out) ?_; intro w27 hb; replace BK101 := kb_ BK101 hb; replace BK102 := kb_ BK102 hb; replace HB := bs_ HB hb; (try clear hb); (try clear hb2); (try clear hk); (try clear hi)))
   go_meet
   case rel => exact ⟨_, (true), rl_, H', ⟨by first | omega | exact Nat.le_refl _⟩, ⟨k_ BK101.out⟩, ⟨k_ BK102.out⟩, ⟨b_ HB.out⟩⟩
 case rest =>
  clear HC4; (try clear c1); (try clear c2); (try clear p2); (try clear c4); (try clear c8); (try clear c9); (try clear c10); (try clear c12); (try clear c20); (try clear hcz13_0); (try clear hcz13_1); (try clear hcz14_0); (try clear hcz14_1); (try clear hcz21_0); (try clear hcz21_1); (try clear hcz22_0); (try clear hcz22_1); (try clear hfz13_0); (try clear hfz13_1); (try clear hfz14_0); (try clear hfz14_1); (try clear hfz21_0); (try clear hfz21_1); (try clear hfz22_0); (try clear hfz22_1); obtain ⟨kq, x28_3, rfl, HA, HJ3, BK101, BK102, HB⟩ := hcut
  cases kq with
  | zero => exact absurd HA.out (by simp [dl4_DecimalBack.j0])
  | succ kj3 =>
   have H := HA.out; clear HA; simp only [dl4_DecimalBack.j0] at H; by_cases c28 : x28_3 = true
   ·subst c28; rw [if_pos rfl] at H; obtain ⟨t108, A29, H⟩ := bi_ H; obtain rfl := Option.some.inj H
    go_wp2_with (first | (refine gl_ 29 Tryz.func9 #[] ?_; refine mo_ (dl4_fixed.calls  t108 _ (lb_ HLD HB) A29.out) ?_; intro w30 hb; replace BK101 := kb_ BK101 hb; replace BK102 := kb_ BK102 hb; replace HB := bs_ HB hb; (try clear hb); (try clear hb2); (try clear hk); (try clear hi)))
    go_ret
    exact ⟨er_, b_ HB.out⟩
   ·replace c28 := Bool.eq_false_iff.mpr c28; subst c28; rw [if_neg nf_] at H; obtain ⟨t109, A31, H⟩ := bi_ H; have HC32 := Aside0.mk H; clear H; have hnb33 := NB101_102.out; have hnc33 := NB102_101.out; have hcz34_0 := bc_ BK101 0 rfl; have hcz34_1 := bc_ BK101 1 rfl; have hfz34_0 := blk_frozen BK101.out 0; have hfz34_1 := blk_frozen BK101.out 1
    go_upto_if 34 with (first | (refine gl_ 31 Tryz.func14 #[.agg #[.string a0_0, .string a0_1]] ?_; refine mo_ (decimal_Print.calls a0_0 a0_1 t109 _ (lb_ HLD HB) A31.out) ?_; intro w35 hb; replace BK101 := kb_ BK101 hb; replace BK102 := kb_ BK102 hb; replace HB := bs_ HB hb; (try clear hb); (try clear hb2); (try clear hk); (try clear hi)))
    (try simp only [Act.put, List.setIfInBounds_toArray, List.set_cons_zero, List.set_cons_succ])
    go_cut [] (fun wc => ∃ (kq : Nat), Aside0 (dl4_DecimalBack.j1 kq a2 t109 a0_0 a0_1 a1_0 a1_1 = some r) ∧ Aside0 (kq ≤ kj3) ∧ Aside0 (wc.heap[gb101]? = some (.cells #[.string a0_0, .string a0_1] 23 (0, 0))) ∧ Aside0 (wc.heap[gb102]? = some (.cells #[.string a1_0, .string a1_1] 23 (0, 0))) ∧ Aside0 (Below w.heap.size w wc))
    case first =>
     have H := HC32.out; clear HC32; by_cases c36 : (t109.size : Int) ≤ 1000
     ·rw [if_pos c36] at H; have c36b0 : decide ((t109.size : Int) ≤ 1000) = true := decide_eq_true c36; have c36b1 : decide (t109.size ≤ 1000) = true := decide_eq_true (by omega); clear c36; (first | rw [c36b0] | (simp only [i64_w, i32_w]; rw [c36b0]) | skip); obtain ⟨⟨t110, t111, t112⟩, A37, H⟩ := bi_ H; (try dsimp only at H); by_cases c38 : t112 = 0
      ·rw [if_pos c38] at H; have c38b0 : (t112 == 0) = true := beq_iff_eq.mpr c38; have c38b1 : (t112 != 0) = false := bne_eq_false_iff_eq.mpr c38; clear c38; by_cases c39 : (!(t110.toList == a0_0.toList) || (!(t111.toList == a0_1.toList))) = true
       ·rw [if_pos c39] at H; exact absurd (H.trans (congrArg some hr_.out)) (by decide)
       ·rw [if_neg c39] at H
        have c39b0 : (!(t110.toList == a0_0.toList) || (!(t111.toList == a0_1.toList))) = false := by simpa using c39
        clear c39; have H' := Aside0.mk H; clear H
        go_wp2_with (first | (refine gl_ 37 Tryz.func10 #[.string t109] ?_; refine mo_ (decimal_Parse.calls t109 t110 t111 t112 _ (lb_ HLD HB) A37.out) ?_; intro w47 hb; replace BK101 := kb_ BK101 hb; replace BK102 := kb_ BK102 hb; replace HB := bs_ HB hb; (try clear hb); (try clear hb2); (try clear hk); (try clear hi)) | ((with_reducible refine gate_dst (N := 8) rfl ?_); (try (refine gate_guard (by rfl) ?_; dsimp only)); refine be_ 8 #[.string (⟨#[]⟩ : ByteArray), .string (⟨#[]⟩ : ByteArray)] 23 ?_; intro gb113 hg w48 hbox hb; have BK113 := Aside0.mk (hbox); have GW113 := ge_ HB hg; have GE113 := ge_ HB hg; have NB101_113 := nl_ BK101 hg; have NB113_101 := ng_ BK101 hg; have NB102_113 := nl_ BK102 hg; have NB113_102 := ng_ BK102 hg; replace BK101 := kb_ BK101 hb; replace BK102 := kb_ BK102 hb; replace HB := bs_ HB hb; clear hb hbox hg; have hnb49 := NB113_101.out; have hnc49 := NB101_113.out; have hnb50 := NB113_102.out; have hnc50 := NB102_113.out; have hcz51_0 := bc_ BK113 0 rfl; have hcz51_1 := bc_ BK113 1 rfl; have hfz51_0 := blk_frozen BK113.out 0; have hfz51_1 := blk_frozen BK113.out 1; have hnb52 := NB101_102.out; have hnc52 := NB102_101.out; have hcz53_0 := bc_ BK101 0 rfl; have hcz53_1 := bc_ BK101 1 rfl; have hfz53_0 := blk_frozen BK101.out 0; have hfz53_1 := blk_frozen BK101.out 1))
        go_meet
        case rel => exact ⟨_, H', ⟨by have := HJ3.out; first | omega | exact Nat.le_refl _⟩, ⟨fr_ BK101.out⟩, ⟨fr_ BK102.out⟩, ⟨b_ HB.out⟩⟩
      ·rw [if_neg c38] at H; exact absurd (H.trans (congrArg some hr_.out)) (by decide)
     ·rw [if_neg c36] at H; have c36b0 : decide ((t109.size : Int) ≤ 1000) = false := decide_eq_false c36; have c36b1 : decide (t109.size ≤ 1000) = false := decide_eq_false (by omega); clear c36; (first | rw [c36b0] | (simp only [i64_w, i32_w]; rw [c36b0]) | skip); have H' := Aside0.mk H; clear H; go_wp2
      go_meet
      case rel => exact ⟨_, H', ⟨by have := HJ3.out; first | omega | exact Nat.le_refl _⟩, ⟨k_ BK101.out⟩, ⟨k_ BK102.out⟩, ⟨b_ HB.out⟩⟩
    case rest =>
     clear HC32; (try clear c1); (try clear c2); (try clear p2); (try clear c3); (try clear c4); (try clear c5); (try clear c8); (try clear c9); (try clear c10); (try clear c12); (try clear c14); (try clear c20); (try clear c28); (try clear c33); (try clear c36); (try clear c36b0); (try clear c36b1); (try clear c38); (try clear c38b0); (try clear c38b1); (try clear c39); (try clear c39b0); (try clear c42); (try clear c43); (try clear c45); (try clear c49); (try clear c50); (try clear c52); (try clear c56); (try clear c57); (try clear hcz13_0); (try clear hcz13_1); (try clear hcz14_0); (try clear hcz14_1); (try clear hcz21_0); (try clear hcz21_1); (try clear hcz22_0); (try clear hcz22_1); (try clear hcz34_0); (try clear hcz34_1); (try clear hcz44_0); (try clear hcz44_1); (try clear hcz46_0); (try clear hcz46_1); (try clear hcz51_0); (try clear hcz51_1); (try clear hcz53_0); (try clear hcz53_1); (try clear hcz58_0); (try clear hcz58_1); (try clear hfz13_0); (try clear hfz13_1); (try clear hfz14_0); (try clear hfz14_1); (try clear hfz21_0); (try clear hfz21_1); (try clear hfz22_0); (try clear hfz22_1); (try clear hfz34_0); (try clear hfz34_1); (try clear hfz44_0); (try clear hfz44_1); (try clear hfz46_0); (try clear hfz46_1); (try clear hfz51_0); (try clear hfz51_1); (try clear hfz53_0); (try clear hfz53_1); (try clear hfz58_0); (try clear hfz58_1); (try clear p2); obtain ⟨kq, HA, HJ31, BK101, BK102, HB⟩ := hcut
     cases kq with
     | zero => exact absurd HA.out (by simp [dl4_DecimalBack.j1])
     | succ kj31 =>
      have H := HA.out; clear HA; simp only [dl4_DecimalBack.j1] at H; obtain ⟨⟨t114, t115, t116⟩, A59, H⟩ := bi_ H; (try dsimp only at H); by_cases c60 : t116 = 0
      ·rw [if_pos c60] at H; have c60b0 : (t116 == 0) = true := beq_iff_eq.mpr c60; have c60b1 : (t116 != 0) = false := bne_eq_false_iff_eq.mpr c60; clear c60; obtain ⟨t119, A61, H⟩ := bi_ H; by_cases c62 : (t119.size : Int) > 1000
       ·rw [if_pos c62] at H; have c62b0 : decide (1000 < (t119.size : Int)) = true := decide_eq_true c62; have c62b1 : decide (1000 < t119.size) = true := decide_eq_true (by omega); clear c62; obtain rfl := Option.some.inj H
        go_wp2_with (first | (refine gl_ 49 Tryz.func10 #[.string a2] ?_; refine mo_ (decimal_Parse.calls a2 t114 t115 t116 _ (lb_ HLD HB) A59.out) ?_; intro w63 hb; replace BK101 := kb_ BK101 hb; replace BK102 := kb_ BK102 hb; replace HB := bs_ HB hb; (try clear hb); (try clear hb2); (try clear hk); (try clear hi)) | ((with_reducible refine gate_dst (N := 10) rfl ?_); (try (refine gate_guard (by rfl) ?_; dsimp only)); refine be_ 10 #[.string (⟨#[]⟩ : ByteArray), .string (⟨#[]⟩ : ByteArray)] 23 ?_; intro gb117 hg w64 hbox hb; have BK117 := Aside0.mk (hbox); have GW117 := ge_ HB hg; have GE117 := ge_ HB hg; have NB101_117 := nl_ BK101 hg; have NB117_101 := ng_ BK101 hg; have NB102_117 := nl_ BK102 hg; have NB117_102 := ng_ BK102 hg; replace BK101 := kb_ BK101 hb; replace BK102 := kb_ BK102 hb; replace HB := bs_ HB hb; clear hb hbox hg; have hnb65 := NB117_101.out; have hnc65 := NB101_117.out; have hnb66 := NB117_102.out; have hnc66 := NB102_117.out; have hcz67_0 := bc_ BK117 0 rfl; have hcz67_1 := bc_ BK117 1 rfl; have hfz67_0 := blk_frozen BK117.out 0; have hfz67_1 := blk_frozen BK117.out 1) | (refine gl_ 68 Tryz.func14 #[.agg #[.string t114, .string t115]] ?_; refine mo_ (decimal_Print.calls t114 t115 t119 _ (lb_ HLD HB) A61.out) ?_; intro w68 hb; replace BK101 := Aside0.mk (blk_below (g := gb101) (o := .cells #[.string a0_0, .string a0_1] 23 (0, 0)) (fr_ BK101.out) hb); replace BK102 := Aside0.mk (blk_below (g := gb102) (o := .cells #[.string a1_0, .string a1_1] 23 (0, 0)) (fr_ BK102.out) hb); replace BK117 := Aside0.mk (blk_below (g := gb117) (o := .cells #[.string t114, .string t115] 23 (0, 0)) (rp_ BK117.out) hb); replace HB := bs_ HB hb; (try clear hb); (try clear hb2); (try clear hk); (try clear hi)))
        go_ret
        exact ⟨er_, b_ HB.out⟩
       ·rw [if_neg c62] at H; have c62b0 : decide (1000 < (t119.size : Int)) = false := decide_eq_false c62; have c62b1 : decide (1000 < t119.size) = false := decide_eq_false (by omega); clear c62; obtain ⟨⟨t120, t121, t122⟩, A69, H⟩ := bi_ H; (try dsimp only at H); by_cases c70 : t122 = 0
        ·rw [if_pos c70] at H; have c70b0 : (t122 == 0) = true := beq_iff_eq.mpr c70; have c70b1 : (t122 != 0) = false := bne_eq_false_iff_eq.mpr c70; clear c70; by_cases c71 : (t120.toList == t114.toList && (t121.toList == t115.toList)) = true
         ·rw [if_pos c71] at H; have c71b0 : (t120.toList == t114.toList && (t121.toList == t115.toList)) = true := c71; (try (have c71b1 : decide (t120.toList = t114.toList && (t121.toList == t115.toList)) = true := by simpa using c71)); (try (have c71b2 : (t120.toList == t114.toList && (t121.toList == t115.toList)) = true := by simpa using c71)); clear c71; obtain ⟨t124, A72, H⟩ := bi_ H; obtain rfl := Option.some.inj H
          try go_wp2_with (first | (refine gl_ 49 Tryz.func10 #[.string a2] ?_; refine mo_ (decimal_Parse.calls a2 t114 t115 t116 _ (lb_ HLD HB) A59.out) ?_; intro w73 hb; replace BK101 := kb_ BK101 hb; replace BK102 := kb_ BK102 hb; replace HB := bs_ HB hb; (try clear hb); (try clear hb2); (try clear hk); (try clear hi)) | ((with_reducible refine gate_dst (N := 10) rfl ?_); (try (refine gate_guard (by rfl) ?_; dsimp only)); refine be_ 10 #[.string (⟨#[]⟩ : ByteArray), .string (⟨#[]⟩ : ByteArray)] 23 ?_; intro gb117 hg w74 hbox hb; have BK117 := Aside0.mk (hbox); have GW117 := ge_ HB hg; have GE117 := ge_ HB hg; have NB101_117 := nl_ BK101 hg; have NB117_101 := ng_ BK101 hg; have NB102_117 := nl_ BK102 hg; have NB117_102 := ng_ BK102 hg; replace BK101 := kb_ BK101 hb; replace BK102 := kb_ BK102 hb; replace HB := bs_ HB hb; clear hb hbox hg; have hnb75 := NB117_101.out; have hnc75 := NB101_117.out; have hnb76 := NB117_102.out; have hnc76 := NB102_117.out; have hcz77_0 := bc_ BK117 0 rfl; have hcz77_1 := bc_ BK117 1 rfl; have hfz77_0 := blk_frozen BK117.out 0; have hfz77_1 := blk_frozen BK117.out 1) | (refine gl_ 68 Tryz.func14 #[.agg #[.string t114, .string t115]] ?_; refine mo_ (decimal_Print.calls t114 t115 t119 _ (lb_ HLD HB) A61.out) ?_; intro w78 hb; replace BK101 := Aside0.mk (blk_below (g := gb101) (o := .cells #[.string a0_0, .string a0_1] 23 (0, 0)) (fr_ BK101.out) hb); replace BK102 := Aside0.mk (blk_below (g := gb102) (o := .cells #[.string a1_0, .string a1_1] 23 (0, 0)) (fr_ BK102.out) hb); replace BK117 := Aside0.mk (blk_below (g := gb117) (o := .cells #[.string t114, .string t115] 23 (0, 0)) (rp_ BK117.out) hb); replace HB := bs_ HB hb; (try clear hb); (try clear hb2); (try clear hk); (try clear hi)) | (refine gl_ 74 Tryz.func10 #[.string t119] ?_; refine mo_ (decimal_Parse.calls t119 t120 t121 t122 _ (lb_ HLD HB) A69.out) ?_; intro w79 hb; replace BK101 := kb_ BK101 hb; replace BK102 := kb_ BK102 hb; replace BK117 := kb_ BK117 hb; replace HB := bs_ HB hb; (try clear hb); (try clear hb2); (try clear hk); (try clear hi)) | ((with_reducible refine gate_dst (N := 13) rfl ?_); (try (refine gate_guard (by rfl) ?_; dsimp only)); refine be_ 13 #[.string (⟨#[]⟩ : ByteArray), .string (⟨#[]⟩ : ByteArray)] 23 ?_; intro gb123 hg w80 hbox hb; have BK123 := Aside0.mk (hbox); have GW123 := ge_ HB hg; have GE123 := ge_ HB hg; have NB101_123 := nl_ BK101 hg; have NB123_101 := ng_ BK101 hg; have NB102_123 := nl_ BK102 hg; have NB123_102 := ng_ BK102 hg; have NB117_123 := nl_ BK117 hg; have NB123_117 := ng_ BK117 hg; replace BK101 := kb_ BK101 hb; replace BK102 := kb_ BK102 hb; replace BK117 := kb_ BK117 hb; replace HB := bs_ HB hb; clear hb hbox hg; have hnb81 := NB123_101.out; have hnc81 := NB101_123.out; have hnb82 := NB123_102.out; have hnc82 := NB102_123.out; have hnb83 := NB123_117.out; have hnc83 := NB117_123.out; have hcz84_0 := bc_ BK123 0 rfl; have hcz84_1 := bc_ BK123 1 rfl; have hfz84_0 := blk_frozen BK123.out 0; have hfz84_1 := blk_frozen BK123.out 1))
          have n0_ : Aside0 (((w80.setCell ⟨gb123, 0, none⟩ (.string t120)).setCell ⟨gb123, 1, none⟩ (.string t121)).heap[gb101]? = some (.cells #[.string a0_0, .string a0_1] 23 (0, 0))) := ⟨fr_ BK101.out⟩; have n1_ : Aside0 (((w80.setCell ⟨gb123, 0, none⟩ (.string t120)).setCell ⟨gb123, 1, none⟩ (.string t121)).heap[gb102]? = some (.cells #[.string a1_0, .string a1_1] 23 (0, 0))) := ⟨fr_ BK102.out⟩; have n2_ : Aside0 (((w80.setCell ⟨gb123, 0, none⟩ (.string t120)).setCell ⟨gb123, 1, none⟩ (.string t121)).heap[gb117]? = some (.cells #[.string t114, .string t115] 23 (0, 0))) := ⟨fr_ BK117.out⟩; have n3_ : Aside0 (((w80.setCell ⟨gb123, 0, none⟩ (.string t120)).setCell ⟨gb123, 1, none⟩ (.string t121)).heap[gb123]? = some (.cells #[.string t120, .string t121] 23 (0, 0))) := ⟨rp_ BK123.out⟩; have n4_ : Aside0 (Below w.heap.size w ((w80.setCell ⟨gb123, 0, none⟩ (.string t120)).setCell ⟨gb123, 1, none⟩ (.string t121))) := ⟨b_ HB.out⟩; (try clear BK101); (try clear BK102); (try clear BK117); (try clear BK123); (try clear HB); generalize ((w80.setCell ⟨gb123, 0, none⟩ (.string t120)).setCell ⟨gb123, 1, none⟩ (.string t121)) = w85 at n0_ n1_ n2_ n3_ n4_ ⊢; have BK101 := n0_; have BK102 := n1_; have BK117 := n2_; have BK123 := n3_; have HB := n4_; clear n0_ n1_ n2_ n3_ n4_; replace BK101 := Aside0.mk (blk_drew BK101.out); replace BK102 := Aside0.mk (blk_drew BK102.out); replace BK117 := Aside0.mk (blk_drew BK117.out); replace BK123 := Aside0.mk (blk_drew BK123.out); replace HB := Aside0.mk (below_drew1 HB.out); refine sa_ 18 (fun w' => w'.cell? ⟨gb123, 0, none⟩ = some (.string t120) ∧ w'.cell? ⟨gb123, 1, none⟩ = some (.string t121) ∧ w'.cell? ⟨gb117, 0, none⟩ = some (.string t114) ∧ w'.cell? ⟨gb117, 1, none⟩ = some (.string t115) ∧ w'.cell? ⟨gb102, 0, none⟩ = some (.string a1_0) ∧ w'.cell? ⟨gb102, 1, none⟩ = some (.string a1_1) ∧ w'.cell? ⟨gb101, 0, none⟩ = some (.string a0_0) ∧ w'.cell? ⟨gb101, 1, none⟩ = some (.string a0_1)) (fun hHeld => ?_); refine with_tabW dl4_DecimalBack.tab15 dl4_DecimalBack.bits15 (fun HT_ HW_ => ?_); generalize w85.drew = w86 at BK101 BK102 BK117 BK123 HB hHeld ⊢; refine pu_ 0 77 rfl rfl HT_ ?_; refine pu_ 1 78 rfl rfl HT_ ?_; refine pu_ 2 79 rfl rfl HT_ ?_; refine t8_ 3 80 rfl rfl HT_ HW_ hHeld ?_; refine t8_ 4 81 rfl rfl HT_ HW_ hHeld ?_; refine pu_ 5 82 rfl rfl HT_ ?_; refine pu_ 6 83 rfl rfl HT_ ?_; refine pu_ 7 84 rfl rfl HT_ ?_; refine pu_ 8 85 rfl rfl HT_ ?_; refine t8_ 9 86 rfl rfl HT_ HW_ hHeld ?_; refine t8_ 12 89 rfl rfl HT_ HW_ hHeld ?_; refine t8_ 13 90 rfl rfl HT_ HW_ hHeld ?_; refine pu_ 14 91 rfl rfl HT_ ?_; refine on_ 10 (some 87) rfl rfl HT_ (fun K hK => ?_); refine gs_ Tryz.func14 #[.agg #[.string a1_0, .string a1_1]] ?_; refine mo_ (decimal_Print.calls a1_0 a1_1 t124 _ (lb_ HLD HB) A72.out) ?_; intro w87 hb; replace BK101 := kb_ BK101 hb; replace BK102 := kb_ BK102 hb; replace BK117 := kb_ BK117 hb; replace BK123 := kb_ BK123 hb; replace HB := bs_ HB hb; (try clear hb); refine hk_ hK (fun hHeld => ?_); clear hK K; refine nm_ ?_; refine pu_ 11 88 rfl rfl HT_ ?_; refine pu_ 15 92 rfl rfl HT_ ?_; refine pu_ 16 93 rfl rfl HT_ ?_; refine pu_ 17 6 rfl rfl HT_ ?_; refine done_ (done_of HT_.out (by kernel_rfl)) ?_
          try go_wp2
          go_ret
          exact ⟨er_, b_ HB.out⟩
         ·rw [if_neg c71] at H; exact absurd (H.trans (congrArg some hr_.out)) (by decide)
        ·rw [if_neg c70] at H; exact absurd (H.trans (congrArg some hr_.out)) (by decide)
      ·rw [if_neg c60] at H; have c60b0 : (t116 == 0) = false := beq_eq_false_iff_ne.mpr c60; have c60b1 : (t116 != 0) = true := bne_iff_ne.mpr c60; by_cases c116 : (t114.toList == ([] : List UInt8) && (t115.toList == ([] : List UInt8))) = true
       ·rw [if_pos c116] at H; have c116b0 : (t114.toList == ([] : List UInt8) && (t115.toList == ([] : List UInt8))) = true := c116; (try have c116e : (t114.toList.isEmpty && (t115.toList.isEmpty)) = true := (by have h_ := c116b0; simp at h_ ⊢; exact h_)); (try (have c116b1 : decide (t114.toList = ([] : List UInt8) && (t115.toList == ([] : List UInt8))) = true := by simpa using c116)); (try (have c116b2 : (t114.toList == ([] : List UInt8) && (t115.toList == ([] : List UInt8))) = true := by simpa using c116)); clear c116; obtain ⟨t118, A117, H⟩ := bi_ H; obtain rfl := Option.some.inj H
        try go_wp2_with (first | (refine gl_ 49 Tryz.func10 #[.string a2] ?_; refine mo_ (decimal_Parse.calls a2 t114 t115 t116 _ (lb_ HLD HB) A59.out) ?_; intro w118 hb; replace BK101 := kb_ BK101 hb; replace BK102 := kb_ BK102 hb; replace HB := bs_ HB hb; (try clear hb); (try clear hb2); (try clear hk); (try clear hi)) | ((with_reducible refine gate_dst (N := 10) rfl ?_); (try (refine gate_guard (by rfl) ?_; dsimp only)); refine be_ 10 #[.string (⟨#[]⟩ : ByteArray), .string (⟨#[]⟩ : ByteArray)] 23 ?_; intro gb117 hg w119 hbox hb; have BK117 := Aside0.mk (hbox); have GW117 := ge_ HB hg; have GE117 := ge_ HB hg; have NB101_117 := nl_ BK101 hg; have NB117_101 := ng_ BK101 hg; have NB102_117 := nl_ BK102 hg; have NB117_102 := ng_ BK102 hg; replace BK101 := kb_ BK101 hb; replace BK102 := kb_ BK102 hb; replace HB := bs_ HB hb; clear hb hbox hg; have hnb120 := NB117_101.out; have hnc120 := NB101_117.out; have hnb121 := NB117_102.out; have hnc121 := NB102_117.out; have hcz122_0 := bc_ BK117 0 rfl; have hcz122_1 := bc_ BK117 1 rfl; have hfz122_0 := blk_frozen BK117.out 0; have hfz122_1 := blk_frozen BK117.out 1))
        have n0_ : Aside0 (((w119.setCell ⟨gb117, 0, none⟩ (.string t114)).setCell ⟨gb117, 1, none⟩ (.string t115)).heap[gb101]? = some (.cells #[.string a0_0, .string a0_1] 23 (0, 0))) := ⟨fr_ BK101.out⟩; have n1_ : Aside0 (((w119.setCell ⟨gb117, 0, none⟩ (.string t114)).setCell ⟨gb117, 1, none⟩ (.string t115)).heap[gb102]? = some (.cells #[.string a1_0, .string a1_1] 23 (0, 0))) := ⟨fr_ BK102.out⟩; have n2_ : Aside0 (((w119.setCell ⟨gb117, 0, none⟩ (.string t114)).setCell ⟨gb117, 1, none⟩ (.string t115)).heap[gb117]? = some (.cells #[.string t114, .string t115] 23 (0, 0))) := ⟨rp_ BK117.out⟩; have n3_ : Aside0 (Below w.heap.size w ((w119.setCell ⟨gb117, 0, none⟩ (.string t114)).setCell ⟨gb117, 1, none⟩ (.string t115))) := ⟨b_ HB.out⟩; (try clear BK101); (try clear BK102); (try clear BK117); (try clear HB); generalize ((w119.setCell ⟨gb117, 0, none⟩ (.string t114)).setCell ⟨gb117, 1, none⟩ (.string t115)) = w123 at n0_ n1_ n2_ n3_ ⊢; have BK101 := n0_; have BK102 := n1_; have BK117 := n2_; have HB := n3_; clear n0_ n1_ n2_ n3_; replace BK101 := Aside0.mk (blk_drew BK101.out); replace BK102 := Aside0.mk (blk_drew BK102.out); replace BK117 := Aside0.mk (blk_drew BK117.out); replace HB := Aside0.mk (below_drew1 HB.out); refine sa_ 14 (fun w' => w'.cell? ⟨gb117, 0, none⟩ = some (.string t114) ∧ w'.cell? ⟨gb117, 1, none⟩ = some (.string t115) ∧ w'.cell? ⟨gb102, 0, none⟩ = some (.string a1_0) ∧ w'.cell? ⟨gb102, 1, none⟩ = some (.string a1_1) ∧ w'.cell? ⟨gb101, 0, none⟩ = some (.string a0_0) ∧ w'.cell? ⟨gb101, 1, none⟩ = some (.string a0_1)) (fun hHeld => ?_); refine with_tabW dl4_DecimalBack.tab10 dl4_DecimalBack.bits10 (fun HT_ HW_ => ?_); generalize w123.drew = w124 at BK101 BK102 BK117 HB hHeld ⊢; refine pu_ 1 55 rfl rfl HT_ ?_; refine t6_ 0 54 rfl rfl HT_ HW_ hHeld ?_; refine pu_ 2 56 rfl rfl HT_ ?_; refine pu_ 3 57 rfl rfl HT_ ?_; refine pu_ 4 58 rfl rfl HT_ ?_; refine t6_ 5 59 rfl rfl HT_ HW_ hHeld ?_; refine t6_ 8 62 rfl rfl HT_ HW_ hHeld ?_; refine t6_ 9 63 rfl rfl HT_ HW_ hHeld ?_; refine pu_ 10 64 rfl rfl HT_ ?_; refine on_ 6 (some 60) rfl rfl HT_ (fun K hK => ?_); refine gs_ Tryz.func14 #[.agg #[.string a1_0, .string a1_1]] ?_; refine mo_ (decimal_Print.calls a1_0 a1_1 t118 _ (lb_ HLD HB) A117.out) ?_; intro w125 hb; replace BK101 := kb_ BK101 hb; replace BK102 := kb_ BK102 hb; replace BK117 := kb_ BK117 hb; replace HB := bs_ HB hb; (try clear hb); refine hk_ hK (fun hHeld => ?_); clear hK K; refine nm_ ?_; refine pu_ 7 61 rfl rfl HT_ ?_; refine pu_ 11 65 rfl rfl HT_ ?_; refine pu_ 12 66 rfl rfl HT_ ?_; refine pu_ 13 6 rfl rfl HT_ ?_; refine done_ (done_of HT_.out (by kernel_rfl)) ?_
        try go_wp2
        go_ret
        exact ⟨er_, b_ HB.out⟩
       ·rw [if_neg c116] at H; exact absurd (H.trans (congrArg some hr_.out)) (by decide)
end Go.Proofs.YtaldgaiaelbbaaaGreatDoor.LDecimalBack
end

section
namespace Go.Proofs.YtaldgaiaelbbaaaGreatDoor.LDecimalBack
end Go.Proofs.YtaldgaiaelbbaaaGreatDoor.LDecimalBack
end

section
namespace Go.Proofs.YtaldgaiaelbbaaaGreatDoor
theorem print_back {p : Rat} (h : ¬ ((printS (rT p)).size : Int) > 1000) : decimal_Parse.f (printS (rT p)) = some ((rT p).1, (rT p).2, 0) := by
 refine dParseQ (by omega) ?_
 rw [print_rT_list]
 refine parse_print p ?_
 rw [← print_rT_list, ← size_len]
 omega
theorem print_both (p q : Rat) : ((printS (rT p)).toList == (printS (rT q)).toList) == ((rT p).1.toList == (rT q).1.toList && ((rT p).2.toList == (rT q).2.toList)) := by
 rw [print_same, rT_beq, beq_self_eq_true]
theorem back_j1 (x y : Rat) (hx : szR x ≤ 200) (hy : szR y ≤ 200) (s : ByteArray) (hs : s.size ≤ 300) (k : Nat) : LDecimalBack.dl4_DecimalBack.j1 (k + 1) s (printS (rT x)) (rT x).1 (rT x).2 (rT y).1 (rT y).2 = some true := by
 simp only [LDecimalBack.dl4_DecimalBack.j1]
 rw [dParse (by omega), Option.bind_some]
 cases h : parseL s.data.toList with
 | none =>
  rw [parse_none h]
  dsimp only
  rw [if_neg (by decide), if_pos (by rw [show noB.toList = ([] : List UInt8) by rw [ByteArray.toList_eq]; rfl]; rfl), dPrint (by omega), Option.bind_some, print_both]
 | some z =>
  have hz := parseL_sz h
  rw [← size_len] at hz
  rw [parse_some h]
  dsimp only
  rw [if_pos rfl, dPrint (by omega), Option.bind_some]
  by_cases hl : ((printS (rT z)).size : Int) > 1000
  ·rw [if_pos hl]
  ·rw [if_neg hl, print_back hl, Option.bind_some]
   dsimp only
   rw [if_pos rfl, rT_beq, if_pos (decide_eq_true rfl), dPrint (by omega), Option.bind_some, print_both]
theorem pureDecimalBack (a0_0 a0_1 a1_0 a1_1 a2 : ByteArray) (w2 : a2.size ≤ 140737488351232) : ∃ k : Nat, LDecimalBack.dl4_DecimalBack.f k a0_0 a0_1 a1_0 a1_1 a2 = some true := by
 refine ⟨0 + 1 + 1, ?_⟩
 unfold LDecimalBack.dl4_DecimalBack.f
 have hj : LDecimalBack.dl4_DecimalBack.j0 (0 + 1 + 1) a2 true a0_0 a0_1 a1_0 a1_1 = some true := by
  simp only [LDecimalBack.dl4_DecimalBack.j0]
  rfl
 rw [show dl4_fixed.f = some true from rfl, Option.bind_some, if_pos rfl, goods2, Option.bind_some]
 cases h0 : goodR ⟨a0_0, a0_1⟩ <;> cases h1 : goodR ⟨a1_0, a1_1⟩
 all_goals first | exact hj | skip
 rw [if_pos (by rfl)]
 by_cases hs : (a2.size : Int) > 300
 ·rw [decide_eq_true hs]
  exact hj
 rw [decide_eq_false hs]
 obtain ⟨x, rfl, rfl, sx⟩ := of_good h0
 obtain ⟨y, rfl, rfl, sy⟩ := of_good h1
 have j := back_j1 x y sx sy a2 (by omega) 0
 simp only [LDecimalBack.dl4_DecimalBack.j0]
 rw [if_neg (by decide), dPrint (by omega), Option.bind_some]
 by_cases hl : ((printS (rT x)).size : Int) ≤ 1000
 ·rw [if_pos hl, print_back (by omega), Option.bind_some]
  dsimp only
  rw [if_pos rfl, rT_bne, if_neg (by rw [decide_eq_true rfl]; decide), j]
 ·rw [if_neg hl, j]
end Go.Proofs.YtaldgaiaelbbaaaGreatDoor
end

section
namespace Go.Proofs.YtaldgaiaelbbaaaGreatDoor.decimalBack
open Go.ChangeShapes Go.WideShapes Go.ChangeAt Go.RowKit
open Go.ChangeMaps (open_string shut_string)
set_option maxRecDepth 100000 in
theorem lifted (os : Os) (started : os.Started) (H : Type) (enc : TypeId × Value → H) :
  ReturnsInHanded {} Tryz.checked os 4 .any (fun w args => (Rows.decimalBackSpec.pre enc Tryz.prog Tryz.f4 Rows.decimalBackRow.domain false w args ∧ laidMetH Tryz.prog laidL w) ∧ sizedMet enc Tryz.prog Tryz.f4 (OpenSpec.ofChange Rows.decimalBackSpec) false w args)
   (Rows.decimalBackSpec.post enc Tryz.prog Tryz.f4 false true false false) := by
 refine wrap_shaped (C := Tryz.checked) (X := fun w _ => laidMetH Tryz.prog laidL w) (fun _ _ _ hh h => h.of_heap hh) own started (by kernel_rfl) Tryz.func4
  (ChangeSpec.witness_shaped (enc := enc) (C := Tryz.checked) (os := os) (X := fun w _ => laidMetH Tryz.prog laidL w) false (World.laidAll Tryz.prog os laidL) #[.agg #[.string ByteArray.empty, .string ByteArray.empty], .agg #[.string ByteArray.empty, .string ByteArray.empty], .string ByteArray.empty] 8 (World.laidAll_os _ _ _) (World.shaped_of_ZipB (by kernel_rfl) (by kernel_rfl)) (by kernel_rfl) (by kernel_rfl) (by kernel_rfl) (door_met os _)) ?_
 intro W base args ds gs before hval0 hW _ hsz0 hL hsh
 have hsz : (DataW.weightsEach Tryz.prog (Tryz.f4.params.toList ++ Rows.decimalBackSpec.plain.varTypes Tryz.prog) (ds ++ gs)).all (· ≤ reachBytes) = true := hsz0
 have hval : ∀ (j : Nat) t v, Tryz.f4.params[j]? = some t → args[j]? = some v → Value.okWide Tryz.prog W .any base t v := hval0
 have hW' := hW
 obtain ⟨p, q, hA0, hV, rfl, hfz, hnd⟩ := hW
 have hA : DataW.TrodAll enc Tryz.prog W 0 (fun _ => true) true Tryz.f4.params.toList args.toList ds p := hA0
 rw [Tryz.params4] at hA hval hsz
 obtain ⟨v0, vs0, d0, ds0, p0, q0, hargs, rfl, rfl, h0, r0⟩ := trodAll_cons hA
 obtain ⟨v1, vs1, d1, ds1, p1, q1, rfl, rfl, rfl, h1, r1⟩ := trodAll_cons r0
 obtain ⟨v2, vs2, d2, ds2, p2, q2, rfl, rfl, rfl, h2, r2⟩ := trodAll_cons r1
 obtain ⟨rfl, rfl, rfl⟩ := trodAll_nil r2
 obtain rfl : args = #[v0, v1, v2] := by cases args; simp_all
 obtain ⟨rfl, rfl⟩ := trodVars_none hV
 obtain ⟨a0_0, a0_1, rfl, rfl, rfl, y0_0, y0_1⟩ := open_s2 Tryz.underlying23 Tryz.underlying9 Tryz.underlying9 (by kernel_rfl) (by kernel_rfl : Tryz.prog.cellsOf 23 = 2) (hval 0 23 v0 rfl rfl) h0
 obtain ⟨a1_0, a1_1, rfl, rfl, rfl, y1_0, y1_1⟩ := open_s2 Tryz.underlying23 Tryz.underlying9 Tryz.underlying9 (by kernel_rfl) (by kernel_rfl : Tryz.prog.cellsOf 23 = 2) (hval 1 23 v1 rfl rfl) h1
 obtain ⟨a2, rfl, rfl, rfl, y2⟩ := open_string Tryz.underlying9 (hval 2 9 v2 rfl rfl) h2
 have w2 : a2.size ≤ 140737488351232 := by
  have z := sized_string hsz (j := 2) (t := 9) rfl rfl
  rw [Array.length_toList] at z
  exact z
 clear hA0 hval0 hsz0 hsz
 obtain ⟨k, hf⟩ := pureDecimalBack a0_0 a0_1 a1_0 a1_1 a2 w2
 refine (LDecimalBack.dl4_DecimalBack.calls k a0_0 a0_1 a1_0 a1_1 a2 true W (laid_of hL hsh) ⟨rfl⟩ hf).mono fun e W' ⟨he, bel⟩ => ?_
 subst he
 exact ⟨_, rfl, _, _, _, [], _, [], hW', trodAll_mk1 (shut_bool Tryz.underlying4 _), (trodAll_cons_mk (shut_s2 Tryz.underlying23 Tryz.underlying9 Tryz.underlying9 (by kernel_rfl) (by kernel_rfl : Tryz.prog.cellsOf 23 = 2) y0_0 y0_1) (trodAll_cons_mk (shut_s2 Tryz.underlying23 Tryz.underlying9 Tryz.underlying9 (by kernel_rfl) (by kernel_rfl : Tryz.prog.cellsOf 23 = 2) y1_0 y1_1) (trodAll_cons_mk (shut_string Tryz.underlying9 y2) trodAll_mk0))), rfl, bel.frame _, fun h => by cases h⟩
theorem over : Rows.DecimalBackSaid :=
 OpenClaim.holds_of_wide 4 Tryz.f4 rfl rfl rfl rfl rfl rfl rfl ⟨rfl, rfl, rfl, rfl, rfl⟩ rfl rfl rfl rfl rfl (by kernel_rfl) Tryz.func4 (by kernel_rfl)
  (of_decide_eq_true (by kernel_rfl)) (by unfold Func.isWrapper; first | (rw [if_pos (by decide +kernel)]; kernel_rfl) | (rw [if_neg (by decide +kernel)]; exact ⟨rfl, rfl⟩))
  (fun os started H enc _ => lifted os started H enc)
theorem proved : Rows.DecimalBackCardSaid :=
 Claim7.holds_tied_plain_at .later [] [.data, .data, .data, .data, .sentinel, .sentinel, .pinned] true (true, "7cb6501bafc06cc91aafe2374194aa0798d8fb540c1ff8bc3088fb97c665b41a") true
  over (fun _ h => by cases h) (by kernel_rfl) (fun _ h => by cases h) decimalBack_row_tie rfl ⟨rfl, rfl⟩ (by kernel_rfl) rfl
  (fun f fn hf hfn => by
   obtain rfl : f = 4 := Option.some.inj ((show Tryz.prog.funcNamed "debenture/debenturelaw04.DecimalBack" = some 4 by kernel_rfl).symm.trans hf) |>.symm
   obtain rfl : fn = Tryz.f4 := (Option.some.inj (Tryz.func4.symm.trans hfn)).symm
   exact ⟨by kernel_rfl, fun j t ht => by
    rw [Tryz.params4] at ht
    have hm : t ∈ [23, 23, 9] := by simpa using Array.mem_of_getElem? ht
    have hall : ([23, 23, 9].all fun u => !Tryz.prog.wantsStandIn u) = true := by kernel_rfl
    exact (show Tryz.prog.wantsStandIn t = false by simpa using List.all_eq_true.1 hall t hm)⟩)
  (by kernel_rfl)
end Go.Proofs.YtaldgaiaelbbaaaGreatDoor.decimalBack
namespace Go.Proofs.YtaldgaiaelbbaaaGreatDoor
theorem decimalBack_holds : Rows.DecimalBackCardSaid := decimalBack.proved
#print axioms decimalBack_holds
end Go.Proofs.YtaldgaiaelbbaaaGreatDoor
end
