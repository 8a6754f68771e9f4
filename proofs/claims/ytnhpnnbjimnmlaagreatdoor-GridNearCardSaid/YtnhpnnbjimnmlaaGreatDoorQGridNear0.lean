/-
The law GridNear holds at every input that its row lets in: the row's walk and its plain law, tied to the program's text. Conditions: none beyond the given row's own.
Parts of the proof, in build order: LGridNear0, LGridNear1, LGridNear2, LGridNear3, LGridNear, PuGridNear, RowGridNear.
-/
import Derived.Test.YtnhpnnbjimnmlaaGreatDoorC4
import Derived.Test.YtnhpnnbjimnmlaaGreatDoorProg
import Derived.Below
import Derived.Deep.Draws
import Derived.Deep.AppendLies
import Derived.Maps.AppendAt
import Derived.OwnWalk
import Derived.Laws.BytesArg
import Derived.Laws.MakeOwn
import Derived.Laws.OwnMore
import Derived.Deep.OwnRows
import Derived.Tactics
import Derived.Lib.ConvBytes
import Derived.Laws.Slices
import Derived.WalkKit
import Derived.KernelRfl
import Derived.RowKit3
import Derived.Deep.LoopGhost
import Derived.Deep.QuietTactic
import Derived.BigQuiet
import Derived.WideLaws
import Derived.Deep.DeepCutAuto
import Derived.Deep.CutBlock
import Derived.Deep.RegionHeld3
import Derived.Laws.Rows
import Derived.Lib.AppendStr
import Derived.ArgAppend
import Derived.Laws.IdiomCopy
import Derived.OrdersHeld
import Derived.Laws.BitsLemmas
import Derived.RowKit
import Derived.Test.YtnhpnnbjimnmlaaGreatDoorC0
import Derived.Test.YtnhpnnbjimnmlaaGreatDoorC5
import Derived.Test.YtnhpnnbjimnmlaaGreatDoorC2
import Derived.Test.YtnhpnnbjimnmlaaGreatDoorTie
import Derived.Test.YtnhpnnbjimnmlaaGreatDoorCards
import Derived.SevenTiedAt
set_option linter.unusedVariables false
set_option linter.unusedSimpArgs false
open Go.RowKit Go.Proofs.YtnhpnnbjimnmlaaGreatDoorW.PrintWords Go.Proofs.YtnhpnnbjimnmlaaGreatDoorW.PrintLast Go.Proofs.YtnhpnnbjimnmlaaGreatDoorW.PrintMore
attribute [local go_sem] max2_int min2_int max_two min_two max_three min_three max_four min_four   -- for this text's walks alone
section
namespace Go.Proofs.YtnhpnnbjimnmlaaGreatDoor.LGridNear
def errW : Option Int → Value
 | none => .nilIface
 | some c => .iface 0 (.int .i64 c)
theorem errW_none : errW none = .nilIface := rfl
theorem errW_some (c : Int) : errW (some c) = .iface 0 (.int .i64 c) := rfl
theorem info23 : (Tryz.prog.info? 23).map (fun i => (i.zero, i.size, i.bytes)) = some (some (.agg #[(.string ⟨#[]⟩), (.string ⟨#[]⟩)]), 2, 32) := by kernel_rfl
end Go.Proofs.YtnhpnnbjimnmlaaGreatDoor.LGridNear
end

section
namespace Go.Proofs.YtnhpnnbjimnmlaaGreatDoor.LGridNear
theorem eqA23 (d : Nat) (w : World) (x0 y0 : ByteArray) (x1 y1 : ByteArray) :
  (Op.equalIn (d + 2) 23 (.agg #[.string x0, .string x1]) (.agg #[.string y0, .string y1])).run Tryz.prog w = .ok (x0.toList == y0.toList && (x1.toList == y1.toList)) w := by
 refine eqA_of Tryz.underlying23 (by kernel_rfl) ?_; refine eqf_cons (by rfl) (by go_simp; rfl) (by go_simp; rfl) (by go_simp) ?_; exact eqf_last (by rfl) (by go_simp; rfl) (by go_simp; rfl) (by go_simp)
end Go.Proofs.YtnhpnnbjimnmlaaGreatDoor.LGridNear
end

section
namespace Go.Proofs.YtnhpnnbjimnmlaaGreatDoor.LGridNear
end Go.Proofs.YtnhpnnbjimnmlaaGreatDoor.LGridNear
end

section
namespace Go.Proofs.YtnhpnnbjimnmlaaGreatDoor.LGridNear
open Go.Proofs.YtnhpnnbjimnmlaaGreatDoor.Pz (S23 k23 k23_mkM)
attribute [local go_sem high] eqA23
mutual
def dl5_GridNear.j0 : Nat → Int → Bool → ByteArray → ByteArray → ByteArray → ByteArray → Option (Bool)
 | 0, _, _, _, _, _, _ => none
 | k + 1, x2, x32, x102000, x102001, x103000, x103001 => if x32 = true then ((dl5_fixed.f).bind fun t109 => (some t109)) else ((grid_Round.f x102000 x102001 x103000 x103001 x2).bind fun bt110 => ((r3_Div.f bt110.1 bt110.2 x103000 x103001).bind fun bt113 => ((r3_Sub.f bt110.1 bt110.2 x102000 x102001).bind fun bt117 => ((r3_Sign.f bt117.1 bt117.2).bind fun t120 => (if t120 < 0 then ((r3_Neg.f bt117.1 bt117.2).bind fun bt121 => (dl5_GridNear.j1 k x2 x102000 x102001 x103000 x103001 bt110.1 bt110.2 bt113.1 bt113.2.1 bt121.1 bt121.2)) else (dl5_GridNear.j1 k x2 x102000 x102001 x103000 x103001 bt110.1 bt110.2 bt113.1 bt113.2.1 bt117.1 bt117.2))))))
def dl5_GridNear.j1 : Nat → Int → ByteArray → ByteArray → ByteArray → ByteArray → ByteArray → ByteArray → ByteArray → ByteArray → ByteArray → ByteArray → Option (Bool)
 | 0, _, _, _, _, _, _, _, _, _, _, _ => none
 | k + 1, x2, x102000, x102001, x103000, x103001, x113000, x113001, x117000, x117001, x120000, x120001 => (r3_May.f x113000 x113001).bind fun t123 => (if t123 = true then (if x117001.toList = ([49] : List UInt8) then ((r3_Cmp.f x120000 x120001 x103000 x103001).bind fun t124 => (if t124 ≥ 0 then (dl5_GridNear.j2 k x2 true x102000 x102001 x103000 x103001 x113000 x113001 x120000 x120001) else ((grid_Round.f x113000 x113001 x103000 x103001 x2).bind fun bt125 => (dl5_GridNear.j2 k x2 (!(bt125.1.toList == x113000.toList) || (!(bt125.2.toList == x113001.toList))) x102000 x102001 x103000 x103001 x113000 x113001 x120000 x120001)))) else (dl5_GridNear.j2 k x2 true x102000 x102001 x103000 x103001 x113000 x113001 x120000 x120001)) else (dl5_GridNear.j2 k x2 true x102000 x102001 x103000 x103001 x113000 x113001 x120000 x120001))
def dl5_GridNear.j2 : Nat → Int → Bool → ByteArray → ByteArray → ByteArray → ByteArray → ByteArray → ByteArray → ByteArray → ByteArray → Option (Bool)
 | 0, _, _, _, _, _, _, _, _, _, _ => none
 | k + 1, x2, x73, x102000, x102001, x103000, x103001, x113000, x113001, x120000, x120001 => if x73 = true then (some false) else (if x2 = 0 then ((r3_Cmp.f x113000 x113001 x102000 x102001).bind fun t127 => (some (decide (t127 ≤ 0)))) else (if x2 = 1 then ((r3_Sign.f x102000 x102001).bind fun t128 => (if t128 < 0 then ((r3_Cmp.f x113000 x113001 x102000 x102001).bind fun t129 => (if t129 ≥ 0 then ((r3_Sign.f x113000 x113001).bind fun t130 => (if t130 ≤ 0 then (some true) else ((r3_Sign.f x102000 x102001).bind fun t131 => (if t131 ≥ 0 then ((r3_Cmp.f x113000 x113001 x102000 x102001).bind fun t132 => (if t132 ≤ 0 then ((r3_Sign.f x113000 x113001).bind fun t133 => (some (decide (t133 ≥ 0)))) else (some false))) else (some false))))) else ((r3_Sign.f x102000 x102001).bind fun t134 => (if t134 ≥ 0 then ((r3_Cmp.f x113000 x113001 x102000 x102001).bind fun t135 => (if t135 ≤ 0 then ((r3_Sign.f x113000 x113001).bind fun t136 => (some (decide (t136 ≥ 0)))) else (some false))) else (some false))))) else ((r3_Sign.f x102000 x102001).bind fun t137 => (if t137 ≥ 0 then ((r3_Cmp.f x113000 x113001 x102000 x102001).bind fun t138 => (if t138 ≤ 0 then ((r3_Sign.f x113000 x113001).bind fun t139 => (some (decide (t139 ≥ 0)))) else (some false))) else (some false))))) else ((r3_Add.f x120000 x120001 x120000 x120001).bind fun bt140 => ((r3_Cmp.f bt140.1 bt140.2 x103000 x103001).bind fun t142 => (some (decide (t142 ≤ 0)))))))
end
def dl5_GridNear.f (k : Nat) (a0_0 : ByteArray) (a0_1 : ByteArray) (a1_0 : ByteArray) (a1_1 : ByteArray) (a2 : Int) : Option (Bool) := (dl5_fixed.f).bind fun t103 => (if t103 = true then ((r3_Good.f (([(⟨a0_0, a0_1⟩ : S23), (⟨a1_0, a1_1⟩ : S23)] : List (S23)))).bind fun t107 => (if t107 = true then ((r3_Sign.f a1_0 a1_1).bind fun t108 => (if t108 ≤ 0 then (dl5_GridNear.j0 k a2 true a0_0 a0_1 a1_0 a1_1) else (if a2 < 0 then (dl5_GridNear.j0 k a2 true a0_0 a0_1 a1_0 a1_1) else (dl5_GridNear.j0 k a2 (decide (a2 > 2)) a0_0 a0_1 a1_0 a1_1)))) else (dl5_GridNear.j0 k a2 true a0_0 a0_1 a1_0 a1_1))) else (dl5_GridNear.j0 k a2 true a0_0 a0_1 a1_0 a1_1))
def dl5_GridNear.T8 : Bool × List (List Nat × List Nat) := (true, [([], []), ([0], [0]), ([1], [1]), ([2, 1], [2]), ([3], [3]), ([4, 3], [3, 4]), ([5, 3], [3, 5]), ([3, 6], [3, 6]), ([7, 3], [7]), ([8], [8]), ([8], [8]), ([9, 10, 8, 8], [8, 9, 10]), ([11, 8], [8, 11]), ([8, 12], [8, 12]), ([13, 11], [13]), ([14], [14]), ([14], [14]), ([14], [14]), ([15, 16, 17, 14, 14], [14, 15, 16, 17]), ([14], [14]), ([18, 19, 14], [14, 18, 19]), ([14, 20], [14, 20])])
def dl5_GridNear.B8 : List Nat := [0, 1, 3, 7, 15, 31, 63, 127, 255, 511, 511, 2047, 4095, 8191, 16383, 32767, 32767, 32767, 262143, 32767, 1048575, 2097151]
theorem dl5_GridNear.tab8 : rtab .any (opsOf Tryz.f3 8) = dl5_GridNear.T8 := by kernel_rfl
theorem dl5_GridNear.bits8 : waitsOk dl5_GridNear.T8.2 dl5_GridNear.B8 = true := by kernel_rfl
set_option maxHeartbeats 64000000 in
set_option maxRecDepth 100000 in
theorem dl5_GridNear.calls (k : Nat) (a0_0 : ByteArray) (a0_1 : ByteArray) (a1_0 : ByteArray) (a1_1 : ByteArray) (a2 : Int) (r : Bool) (w : World) (hL_ : Laid w) (hr_ : Aside0 (r = true)) (h : dl5_GridNear.f k a0_0 a0_1 a1_0 a1_1 a2 = some r) :
  Calls Tryz.prog 3 #[.agg #[.string a0_0, .string a0_1], .agg #[.string a1_0, .string a1_1], .int .i64 a2] w fun e w' => e = .returned (.bool r) ∧ Below w.heap.size w w' := by
 have hu23 := Tryz.underlying23; have HLD := Aside0.mk hL_; clear hL_; have HB := Aside0.mk (Below.refl w.heap.size w); have H := h; unfold dl5_GridNear.f at H; clear h; have HC4 := Aside0.mk H; clear H; go_enter Tryz.func3, Tryz.ntmps3
 go_upto_region 1 with (first | ((with_reducible refine gate_dst (N := 3) rfl ?_); (try (refine gate_guard (by rfl) ?_; dsimp only)); refine be_ 3 #[.string a0_0, .string a0_1] 23 ?_; intro gb101 hg w5 hbox hb; have BK101 := Aside0.mk (hbox); have GW101 := ge_ HB hg; have GE101 := ge_ HB hg; replace HB := bs_ HB hb; clear hb hbox hg) | ((with_reducible refine gate_dst (N := 4) rfl ?_); (try (refine gate_guard (by rfl) ?_; dsimp only)); refine be_ 4 #[.string a1_0, .string a1_1] 23 ?_; intro gb102 hg w6 hbox hb; have BK102 := Aside0.mk (hbox); have GW102 := ge_ HB hg; have GE102 := ge_ HB hg; have NB101_102 := nl_ BK101 hg; have NB102_101 := ng_ BK101 hg; replace BK101 := kb_ BK101 hb; replace HB := bs_ HB hb; clear hb hbox hg))
 (try simp only [Act.put, List.setIfInBounds_toArray, List.set_cons_zero, List.set_cons_succ])
 go_cut [32] (fun v32 wc => ∃ (kq : Nat) (x32_3 : Bool), v32 = .bool x32_3 ∧ Aside0 (dl5_GridNear.j0 kq a2 x32_3 a0_0 a0_1 a1_0 a1_1 = some r) ∧ Aside0 (kq ≤ k) ∧ Aside0 (wc.heap[gb101]? = some (.cells #[.string a0_0, .string a0_1] 23 (0, 0))) ∧ Aside0 (wc.heap[gb102]? = some (.cells #[.string a1_0, .string a1_1] 23 (0, 0))) ∧ Aside0 (Below w.heap.size w wc))
 case first =>
  have H := HC4.out; clear HC4; obtain ⟨t103, A7, H⟩ := bi_ H; by_cases c8 : t103 = true
  ·subst c8; rw [if_pos rfl] at H; obtain ⟨y104, hy104⟩ : ∃ y_ : List (S23), y_ = (([(⟨a0_0, a0_1⟩ : S23), (⟨a1_0, a1_1⟩ : S23)] : List (S23))) := ⟨_, rfl⟩
   replace H : ((r3_Good.f y104).bind fun t107 => (if t107 = true then ((r3_Sign.f a1_0 a1_1).bind fun t108 => (if t108 ≤ 0 then (dl5_GridNear.j0 k a2 true a0_0 a0_1 a1_0 a1_1) else (if a2 < 0 then (dl5_GridNear.j0 k a2 true a0_0 a0_1 a1_0 a1_1) else (dl5_GridNear.j0 k a2 (decide (a2 > 2)) a0_0 a0_1 a1_0 a1_1)))) else (dl5_GridNear.j0 k a2 true a0_0 a0_1 a1_0 a1_1))) = some r := by first | (rw [hy104]; with_reducible exact H) | (have H2_ := (Option.bind_some _ _).symm.trans H; rw [hy104]; with_reducible exact H2_) | (have H2_ := (Option.bind_some _ _).symm.trans H; with_reducible exact H2_) | with_reducible exact H | (rw [hy104]; exact H) | exact H
   have Ny104 := Aside0.mk hy104; clear hy104; obtain ⟨t107, A9, H⟩ := bi_ H; by_cases c10 : t107 = true
   ·subst c10; rw [if_pos rfl] at H; obtain ⟨t108, A11, H⟩ := bi_ H; by_cases c12 : t108 ≤ 0
    ·rw [if_pos c12] at H; have c12b0 : decide (t108 ≤ 0) = true := decide_eq_true c12; clear c12; (first | rw [c12b0] | (simp only [i64_w, i32_w]; rw [c12b0]) | skip); have H' := Aside0.mk H; clear H
     go_wp2_with (first | (refine gl_ 11 Tryz.func4 #[] ?_; refine mo_ (dl5_fixed.calls  true _ (lb_ HLD HB) A7.out) ?_; intro w13 hb; replace BK101 := kb_ BK101 hb; replace BK102 := kb_ BK102 hb; replace HB := bs_ HB hb; (try clear hb); (try clear hb2); (try clear hk); (try clear hi); have hnb14 := NB101_102.out; have hnc14 := NB102_101.out; have hcz15_0 := bc_ BK101 0 rfl; have hcz15_1 := bc_ BK101 1 rfl; have hfz15_0 := blk_frozen BK101.out 0; have hfz15_1 := blk_frozen BK101.out 1; have hcz16_0 := bc_ BK102 0 rfl; have hcz16_1 := bc_ BK102 1 rfl; have hfz16_0 := blk_frozen BK102.out 0; have hfz16_1 := blk_frozen BK102.out 1) | ((with_reducible refine gate_dst (N := 16) rfl ?_); (try (refine gate_guard (by rfl) ?_; dsimp only)); refine Kd.R_lit k23 _ 23 ?hg (N := 16) ?hd (xs := ([(⟨a0_0, a0_1⟩ : S23), (⟨a1_0, a1_1⟩ : S23)] : List (S23))) (inner := [.string a0_0, .string a0_1, .string a1_0, .string a1_1]) (ok := fun _ => True) (okp := fun _ => True) ?hr ?hp (fun _ hk => hk) trivial (Below.refl _ _) (Nat.le_refl _) (by simp) ?_; (case hd => rfl); (case hg => rfl); (case hr => first | (go_simp; done) | (go_simp; rfl)); (case hp => exact (Reps.c2 (show Kd.M k23 _ _ _ (⟨a0_0, a0_1⟩ : S23) [.string a0_0, .string a0_1] from (k23_mkM _ _ _ (⟨a0_0, a0_1⟩ : S23) )) (Reps.c2 (show Kd.M k23 _ _ _ (⟨a1_0, a1_1⟩ : S23) [.string a1_0, .string a1_1] from (k23_mkM _ _ _ (⟨a1_0, a1_1⟩ : S23) )) (Reps.none _ _)))); intro v105 w17 ho18 hb hg_ hnew_; clear hg_ hnew_; (first | rw [← Ny104.out] at ho18 | (simp only [Int.reduceToNat] at ho18; rw [← Ny104.out] at ho18)); have HO106 := Aside0.mk (Kd.R_lower (Kd.R_newB (Kd.R_newB ho18 (g := gb101) (o := .cells #[.string a0_0, .string a0_1] 23 (0, 0)) (k_ BK101.out)) (g := gb102) (o := .cells #[.string a1_0, .string a1_1] 23 (0, 0)) (k_ BK102.out)) (below_size (b_ HB.out))); replace BK101 := kb_ BK101 hb; replace BK102 := kb_ BK102 hb; replace HB := bs_ HB hb; clear hb ho18; obtain ⟨Ao19, co19, eo19⟩ := Kd.R_slice HO106.out; subst eo19) | (go_at_call 5; (with_reducible refine (r3_Good.calls _ _ y104 true _ ?side1 ?side2 A9.out).mono ?_); (case side1 => exact c_ (Kd.R_reads' HO106.out).2.2); (case side2 => exact (Kd.R_reads' HO106.out).2.1); rintro e w20 ⟨rfl, hb⟩; replace HO106 := Aside0.mk (Kd.R_below (w_ HO106.out) hb); replace BK101 := kb_ BK101 hb; replace BK102 := kb_ BK102 hb; replace HB := bs_ HB hb; (try clear hb); (try clear hb2); (try clear hk); (try clear hi); have hcz21_0 := bc_ BK102 0 rfl; have hcz21_1 := bc_ BK102 1 rfl; have hfz21_0 := blk_frozen BK102.out 0; have hfz21_1 := blk_frozen BK102.out 1) | (go_at_call 6; (with_reducible refine (r3_Sign.calls a1_0 a1_1 t108 _ A11.out).mono ?_); rintro e w22 ⟨rfl, hb⟩; replace HO106 := Aside0.mk (Kd.R_below (w_ HO106.out) hb); replace BK101 := kb_ BK101 hb; replace BK102 := kb_ BK102 hb; replace HB := bs_ HB hb; (try clear hb); (try clear hb2); (try clear hk); (try clear hi)))
     go_meet
     case rel => exact ⟨_, (true), rl_, H', ⟨by first | omega | exact Nat.le_refl _⟩, ⟨k_ BK101.out⟩, ⟨k_ BK102.out⟩, ⟨b_ HB.out⟩⟩
    ·rw [if_neg c12] at H; have c12b0 : decide (t108 ≤ 0) = false := decide_eq_false c12; clear c12; (first | rw [c12b0] | (simp only [i64_w, i32_w]; rw [c12b0]) | skip); by_cases c23 : a2 < 0
     ·rw [if_pos c23] at H; have c23b0 : decide (a2 < 0) = true := decide_eq_true c23; clear c23; have H' := Aside0.mk H; clear H
      go_wp2_with (first | (refine gl_ 11 Tryz.func4 #[] ?_; refine mo_ (dl5_fixed.calls  true _ (lb_ HLD HB) A7.out) ?_; intro w24 hb; replace BK101 := kb_ BK101 hb; replace BK102 := kb_ BK102 hb; replace HB := bs_ HB hb; (try clear hb); (try clear hb2); (try clear hk); (try clear hi); have hnb25 := NB101_102.out; have hnc25 := NB102_101.out; have hcz26_0 := bc_ BK101 0 rfl; have hcz26_1 := bc_ BK101 1 rfl; have hfz26_0 := blk_frozen BK101.out 0; have hfz26_1 := blk_frozen BK101.out 1; have hcz27_0 := bc_ BK102 0 rfl; have hcz27_1 := bc_ BK102 1 rfl; have hfz27_0 := blk_frozen BK102.out 0; have hfz27_1 := blk_frozen BK102.out 1) | ((with_reducible refine gate_dst (N := 16) rfl ?_); (try (refine gate_guard (by rfl) ?_; dsimp only)); refine Kd.R_lit k23 _ 23 ?hg (N := 16) ?hd (xs := ([(⟨a0_0, a0_1⟩ : S23), (⟨a1_0, a1_1⟩ : S23)] : List (S23))) (inner := [.string a0_0, .string a0_1, .string a1_0, .string a1_1]) (ok := fun _ => True) (okp := fun _ => True) ?hr ?hp (fun _ hk => hk) trivial (Below.refl _ _) (Nat.le_refl _) (by simp) ?_; (case hd => rfl); (case hg => rfl); (case hr => first | (go_simp; done) | (go_simp; rfl)); (case hp => exact (Reps.c2 (show Kd.M k23 _ _ _ (⟨a0_0, a0_1⟩ : S23) [.string a0_0, .string a0_1] from (k23_mkM _ _ _ (⟨a0_0, a0_1⟩ : S23) )) (Reps.c2 (show Kd.M k23 _ _ _ (⟨a1_0, a1_1⟩ : S23) [.string a1_0, .string a1_1] from (k23_mkM _ _ _ (⟨a1_0, a1_1⟩ : S23) )) (Reps.none _ _)))); intro v105 w28 ho29 hb hg_ hnew_; clear hg_ hnew_; (first | rw [← Ny104.out] at ho29 | (simp only [Int.reduceToNat] at ho29; rw [← Ny104.out] at ho29)); have HO106 := Aside0.mk (Kd.R_lower (Kd.R_newB (Kd.R_newB ho29 (g := gb101) (o := .cells #[.string a0_0, .string a0_1] 23 (0, 0)) (k_ BK101.out)) (g := gb102) (o := .cells #[.string a1_0, .string a1_1] 23 (0, 0)) (k_ BK102.out)) (below_size (b_ HB.out))); replace BK101 := kb_ BK101 hb; replace BK102 := kb_ BK102 hb; replace HB := bs_ HB hb; clear hb ho29; obtain ⟨Ao30, co30, eo30⟩ := Kd.R_slice HO106.out; subst eo30) | (go_at_call 5; (with_reducible refine (r3_Good.calls _ _ y104 true _ ?side1 ?side2 A9.out).mono ?_); (case side1 => exact c_ (Kd.R_reads' HO106.out).2.2); (case side2 => exact (Kd.R_reads' HO106.out).2.1); rintro e w31 ⟨rfl, hb⟩; replace HO106 := Aside0.mk (Kd.R_below (w_ HO106.out) hb); replace BK101 := kb_ BK101 hb; replace BK102 := kb_ BK102 hb; replace HB := bs_ HB hb; (try clear hb); (try clear hb2); (try clear hk); (try clear hi); have hcz32_0 := bc_ BK102 0 rfl; have hcz32_1 := bc_ BK102 1 rfl; have hfz32_0 := blk_frozen BK102.out 0; have hfz32_1 := blk_frozen BK102.out 1) | (go_at_call 6; (with_reducible refine (r3_Sign.calls a1_0 a1_1 t108 _ A11.out).mono ?_); rintro e w33 ⟨rfl, hb⟩; replace HO106 := Aside0.mk (Kd.R_below (w_ HO106.out) hb); replace BK101 := kb_ BK101 hb; replace BK102 := kb_ BK102 hb; replace HB := bs_ HB hb; (try clear hb); (try clear hb2); (try clear hk); (try clear hi)))
      go_meet
      case rel => exact ⟨_, (true), rl_, H', ⟨by first | omega | exact Nat.le_refl _⟩, ⟨k_ BK101.out⟩, ⟨k_ BK102.out⟩, ⟨b_ HB.out⟩⟩
     ·rw [if_neg c23] at H; have c23b0 : decide (a2 < 0) = false := decide_eq_false c23; clear c23; have H' := Aside0.mk H; clear H
      go_wp2_with (first | (refine gl_ 11 Tryz.func4 #[] ?_; refine mo_ (dl5_fixed.calls  true _ (lb_ HLD HB) A7.out) ?_; intro w34 hb; replace BK101 := kb_ BK101 hb; replace BK102 := kb_ BK102 hb; replace HB := bs_ HB hb; (try clear hb); (try clear hb2); (try clear hk); (try clear hi); have hnb35 := NB101_102.out; have hnc35 := NB102_101.out; have hcz36_0 := bc_ BK101 0 rfl; have hcz36_1 := bc_ BK101 1 rfl; have hfz36_0 := blk_frozen BK101.out 0; have hfz36_1 := blk_frozen BK101.out 1; have hcz37_0 := bc_ BK102 0 rfl; have hcz37_1 := bc_ BK102 1 rfl; have hfz37_0 := blk_frozen BK102.out 0; have hfz37_1 := blk_frozen BK102.out 1) | ((with_reducible refine gate_dst (N := 16) rfl ?_); (try (refine gate_guard (by rfl) ?_; dsimp only)); refine Kd.R_lit k23 _ 23 ?hg (N := 16) ?hd (xs := ([(⟨a0_0, a0_1⟩ : S23), (⟨a1_0, a1_1⟩ : S23)] : List (S23))) (inner := [.string a0_0, .string a0_1, .string a1_0, .string a1_1]) (ok := fun _ => True) (okp := fun _ => True) ?hr ?hp (fun _ hk => hk) trivial (Below.refl _ _) (Nat.le_refl _) (by simp) ?_; (case hd => rfl); (case hg => rfl); (case hr => first | (go_simp; done) | (go_simp; rfl)); (case hp => exact (Reps.c2 (show Kd.M k23 _ _ _ (⟨a0_0, a0_1⟩ : S23) [.string a0_0, .string a0_1] from (k23_mkM _ _ _ (⟨a0_0, a0_1⟩ : S23) )) (Reps.c2 (show Kd.M k23 _ _ _ (⟨a1_0, a1_1⟩ : S23) [.string a1_0, .string a1_1] from (k23_mkM _ _ _ (⟨a1_0, a1_1⟩ : S23) )) (Reps.none _ _)))); intro v105 w38 ho39 hb hg_ hnew_; clear hg_ hnew_; (first | rw [← Ny104.out] at ho39 | (simp only [Int.reduceToNat] at ho39; rw [← Ny104.out] at ho39)); have HO106 := Aside0.mk (Kd.R_lower (Kd.R_newB (Kd.R_newB ho39 (g := gb101) (o := .cells #[.string a0_0, .string a0_1] 23 (0, 0)) (k_ BK101.out)) (g := gb102) (o := .cells #[.string a1_0, .string a1_1] 23 (0, 0)) (k_ BK102.out)) (below_size (b_ HB.out))); replace BK101 := kb_ BK101 hb; replace BK102 := kb_ BK102 hb; replace HB := bs_ HB hb; clear hb ho39; obtain ⟨Ao40, co40, eo40⟩ := Kd.R_slice HO106.out; subst eo40) | (go_at_call 5; (with_reducible refine (r3_Good.calls _ _ y104 true _ ?side1 ?side2 A9.out).mono ?_); (case side1 => exact c_ (Kd.R_reads' HO106.out).2.2); (case side2 => exact (Kd.R_reads' HO106.out).2.1); rintro e w41 ⟨rfl, hb⟩; replace HO106 := Aside0.mk (Kd.R_below (w_ HO106.out) hb); replace BK101 := kb_ BK101 hb; replace BK102 := kb_ BK102 hb; replace HB := bs_ HB hb; (try clear hb); (try clear hb2); (try clear hk); (try clear hi); have hcz42_0 := bc_ BK102 0 rfl; have hcz42_1 := bc_ BK102 1 rfl; have hfz42_0 := blk_frozen BK102.out 0; have hfz42_1 := blk_frozen BK102.out 1) | (go_at_call 6; (with_reducible refine (r3_Sign.calls a1_0 a1_1 t108 _ A11.out).mono ?_); rintro e w43 ⟨rfl, hb⟩; replace HO106 := Aside0.mk (Kd.R_below (w_ HO106.out) hb); replace BK101 := kb_ BK101 hb; replace BK102 := kb_ BK102 hb; replace HB := bs_ HB hb; (try clear hb); (try clear hb2); (try clear hk); (try clear hi)))
      go_meet
      case rel => exact ⟨_, (decide (a2 > 2)), rl_, H', ⟨by first | omega | exact Nat.le_refl _⟩, ⟨k_ BK101.out⟩, ⟨k_ BK102.out⟩, ⟨b_ HB.out⟩⟩
   ·replace c10 := Bool.eq_false_iff.mpr c10; subst c10; rw [if_neg nf_] at H; have H' := Aside0.mk H; clear H
    go_wp2_with (first | (refine gl_ 11 Tryz.func4 #[] ?_; refine mo_ (dl5_fixed.calls  true _ (lb_ HLD HB) A7.out) ?_; intro w44 hb; replace BK101 := kb_ BK101 hb; replace BK102 := kb_ BK102 hb; replace HB := bs_ HB hb; (try clear hb); (try clear hb2); (try clear hk); (try clear hi); have hnb45 := NB101_102.out; have hnc45 := NB102_101.out; have hcz46_0 := bc_ BK101 0 rfl; have hcz46_1 := bc_ BK101 1 rfl; have hfz46_0 := blk_frozen BK101.out 0; have hfz46_1 := blk_frozen BK101.out 1; have hcz47_0 := bc_ BK102 0 rfl; have hcz47_1 := bc_ BK102 1 rfl; have hfz47_0 := blk_frozen BK102.out 0; have hfz47_1 := blk_frozen BK102.out 1) | ((with_reducible refine gate_dst (N := 16) rfl ?_); (try (refine gate_guard (by rfl) ?_; dsimp only)); refine Kd.R_lit k23 _ 23 ?hg (N := 16) ?hd (xs := ([(⟨a0_0, a0_1⟩ : S23), (⟨a1_0, a1_1⟩ : S23)] : List (S23))) (inner := [.string a0_0, .string a0_1, .string a1_0, .string a1_1]) (ok := fun _ => True) (okp := fun _ => True) ?hr ?hp (fun _ hk => hk) trivial (Below.refl _ _) (Nat.le_refl _) (by simp) ?_; (case hd => rfl); (case hg => rfl); (case hr => first | (go_simp; done) | (go_simp; rfl)); (case hp => exact (Reps.c2 (show Kd.M k23 _ _ _ (⟨a0_0, a0_1⟩ : S23) [.string a0_0, .string a0_1] from (k23_mkM _ _ _ (⟨a0_0, a0_1⟩ : S23) )) (Reps.c2 (show Kd.M k23 _ _ _ (⟨a1_0, a1_1⟩ : S23) [.string a1_0, .string a1_1] from (k23_mkM _ _ _ (⟨a1_0, a1_1⟩ : S23) )) (Reps.none _ _)))); intro v105 w48 ho49 hb hg_ hnew_; clear hg_ hnew_; (first | rw [← Ny104.out] at ho49 | (simp only [Int.reduceToNat] at ho49; rw [← Ny104.out] at ho49)); have HO106 := Aside0.mk (Kd.R_lower (Kd.R_newB (Kd.R_newB ho49 (g := gb101) (o := .cells #[.string a0_0, .string a0_1] 23 (0, 0)) (k_ BK101.out)) (g := gb102) (o := .cells #[.string a1_0, .string a1_1] 23 (0, 0)) (k_ BK102.out)) (below_size (b_ HB.out))); replace BK101 := kb_ BK101 hb; replace BK102 := kb_ BK102 hb; replace HB := bs_ HB hb; clear hb ho49; obtain ⟨Ao50, co50, eo50⟩ := Kd.R_slice HO106.out; subst eo50) | (go_at_call 5; (with_reducible refine (r3_Good.calls _ _ y104 false _ ?side1 ?side2 A9.out).mono ?_); (case side1 => exact c_ (Kd.R_reads' HO106.out).2.2); (case side2 => exact (Kd.R_reads' HO106.out).2.1); rintro e w51 ⟨rfl, hb⟩; replace HO106 := Aside0.mk (Kd.R_below (w_ HO106.out) hb); replace BK101 := kb_ BK101 hb; replace BK102 := kb_ BK102 hb; replace HB := bs_ HB hb; (try clear hb); (try clear hb2); (try clear hk); (try clear hi)))
    go_meet
    case rel => exact ⟨_, (true), rl_, H', ⟨by first | omega | exact Nat.le_refl _⟩, ⟨k_ BK101.out⟩, ⟨k_ BK102.out⟩, ⟨b_ HB.out⟩⟩
  ·replace c8 := Bool.eq_false_iff.mpr c8; subst c8; rw [if_neg nf_] at H; have H' := Aside0.mk H; clear H
   go_wp2_with (first | (refine gl_ 11 Tryz.func4 #[] ?_; refine mo_ (dl5_fixed.calls  false _ (lb_ HLD HB) A7.out) ?_; intro w52 hb; replace BK101 := kb_ BK101 hb; replace BK102 := kb_ BK102 hb; replace HB := bs_ HB hb; (try clear hb); (try clear hb2); (try clear hk); (try clear hi)))
   go_meet
   case rel => exact ⟨_, (true), rl_, H', ⟨by first | omega | exact Nat.le_refl _⟩, ⟨k_ BK101.out⟩, ⟨k_ BK102.out⟩, ⟨b_ HB.out⟩⟩
 case rest =>
  clear HC4; (try clear c1); (try clear c2); (try clear p2); (try clear c3); (try clear c4); (try clear c8); (try clear c10); (try clear c12); (try clear c12b0); (try clear c14); (try clear c23); (try clear c23b0); (try clear c25); (try clear c35); (try clear c45); (try clear hcz15_0); (try clear hcz15_1); (try clear hcz16_0); (try clear hcz16_1); (try clear hcz21_0); (try clear hcz21_1); (try clear hcz26_0); (try clear hcz26_1); (try clear hcz27_0); (try clear hcz27_1); (try clear hcz32_0); (try clear hcz32_1); (try clear hcz36_0); (try clear hcz36_1); (try clear hcz37_0); (try clear hcz37_1); (try clear hcz42_0); (try clear hcz42_1); (try clear hcz46_0); (try clear hcz46_1); (try clear hcz47_0); (try clear hcz47_1); (try clear hfz15_0); (try clear hfz15_1); (try clear hfz16_0); (try clear hfz16_1); (try clear hfz21_0); (try clear hfz21_1); (try clear hfz26_0); (try clear hfz26_1); (try clear hfz27_0); (try clear hfz27_1); (try clear hfz32_0); (try clear hfz32_1); (try clear hfz36_0); (try clear hfz36_1); (try clear hfz37_0); (try clear hfz37_1); (try clear hfz42_0); (try clear hfz42_1); (try clear hfz46_0); (try clear hfz46_1); (try clear hfz47_0); (try clear hfz47_1); obtain ⟨kq, x32_3, rfl, HA, HJ3, BK101, BK102, HB⟩ := hcut
  cases kq with
  | zero => exact absurd HA.out (by simp [dl5_GridNear.j0])
  | succ kj3 =>
   have H := HA.out; clear HA; simp only [dl5_GridNear.j0] at H; by_cases c53 : x32_3 = true
   ·subst c53; rw [if_pos rfl] at H; obtain ⟨t109, A54, H⟩ := bi_ H; obtain rfl := Option.some.inj H
    go_wp2_with (first | (refine gl_ 33 Tryz.func4 #[] ?_; refine mo_ (dl5_fixed.calls  t109 _ (lb_ HLD HB) A54.out) ?_; intro w55 hb; replace BK101 := kb_ BK101 hb; replace BK102 := kb_ BK102 hb; replace HB := bs_ HB hb; (try clear hb); (try clear hb2); (try clear hk); (try clear hi)))
    go_ret
    exact ⟨er_, b_ HB.out⟩
   ·replace c53 := Bool.eq_false_iff.mpr c53; subst c53; rw [if_neg nf_] at H; obtain ⟨⟨t110, t111⟩, A56, H⟩ := bi_ H; (try dsimp only at H); obtain ⟨⟨t113, t114, t115⟩, A57, H⟩ := bi_ H; (try dsimp only at H); obtain ⟨⟨t117, t118⟩, A58, H⟩ := bi_ H; (try dsimp only at H); obtain ⟨t120, A59, H⟩ := bi_ H; have HC60 := Aside0.mk H; clear H; have hnb61 := NB101_102.out; have hnc61 := NB102_101.out; have hcz62_0 := bc_ BK101 0 rfl; have hcz62_1 := bc_ BK101 1 rfl; have hfz62_0 := blk_frozen BK101.out 0; have hfz62_1 := blk_frozen BK101.out 1; have hcz63_0 := bc_ BK102 0 rfl; have hcz63_1 := bc_ BK102 1 rfl; have hfz63_0 := blk_frozen BK102.out 0; have hfz63_1 := blk_frozen BK102.out 1
    go_upto_if 49 with (first | (refine gl_ 37 Tryz.func7 #[.agg #[.string a0_0, .string a0_1], .agg #[.string a1_0, .string a1_1], .int .i64 a2] ?_; refine mo_ (grid_Round.calls a0_0 a0_1 a1_0 a1_1 a2 t110 t111 _ (lb_ HLD HB) A56.out) ?_; intro w64 hb; replace BK101 := kb_ BK101 hb; replace BK102 := kb_ BK102 hb; replace HB := bs_ HB hb; (try clear hb); (try clear hb2); (try clear hk); (try clear hi)) | ((with_reducible refine gate_dst (N := 7) rfl ?_); (try (refine gate_guard (by rfl) ?_; dsimp only)); refine be_ 7 #[.string (⟨#[]⟩ : ByteArray), .string (⟨#[]⟩ : ByteArray)] 23 ?_; intro gb112 hg w65 hbox hb; have BK112 := Aside0.mk (hbox); have GW112 := ge_ HB hg; have GE112 := ge_ HB hg; have NB101_112 := nl_ BK101 hg; have NB112_101 := ng_ BK101 hg; have NB102_112 := nl_ BK102 hg; have NB112_102 := ng_ BK102 hg; replace BK101 := kb_ BK101 hb; replace BK102 := kb_ BK102 hb; replace HB := bs_ HB hb; clear hb hbox hg; have hnb66 := NB112_101.out; have hnc66 := NB101_112.out; have hnb67 := NB112_102.out; have hnc67 := NB102_112.out; have hcz68_0 := bc_ BK112 0 rfl; have hcz68_1 := bc_ BK112 1 rfl; have hfz68_0 := blk_frozen BK112.out 0; have hfz68_1 := blk_frozen BK112.out 1; have hcz69_0 := bc_ BK102 0 rfl; have hcz69_1 := bc_ BK102 1 rfl; have hfz69_0 := blk_frozen BK102.out 0; have hfz69_1 := blk_frozen BK102.out 1) | (refine gl_ 41 Tryz.func8 #[.agg #[.string t110, .string t111], .agg #[.string a1_0, .string a1_1]] ?_; refine mo_ (r3_Div.calls t110 t111 a1_0 a1_1 t113 t114 t115 _ A57.out) ?_; intro w70 hb; replace BK101 := Aside0.mk (blk_below (g := gb101) (o := .cells #[.string a0_0, .string a0_1] 23 (0, 0)) (fr_ BK101.out) hb); replace BK102 := Aside0.mk (blk_below (g := gb102) (o := .cells #[.string a1_0, .string a1_1] 23 (0, 0)) (fr_ BK102.out) hb); replace BK112 := Aside0.mk (blk_below (g := gb112) (o := .cells #[.string t110, .string t111] 23 (0, 0)) (rp_ BK112.out) hb); replace HB := bs_ HB hb; (try clear hb); (try clear hb2); (try clear hk); (try clear hi)) | ((with_reducible refine gate_dst (N := 8) rfl ?_); (try (refine gate_guard (by rfl) ?_; dsimp only)); refine be_ 8 #[.string (⟨#[]⟩ : ByteArray), .string (⟨#[]⟩ : ByteArray)] 23 ?_; intro gb116 hg w71 hbox hb; have BK116 := Aside0.mk (hbox); have GW116 := ge_ HB hg; have GE116 := ge_ HB hg; have NB101_116 := nl_ BK101 hg; have NB116_101 := ng_ BK101 hg; have NB102_116 := nl_ BK102 hg; have NB116_102 := ng_ BK102 hg; have NB112_116 := nl_ BK112 hg; have NB116_112 := ng_ BK112 hg; replace BK101 := kb_ BK101 hb; replace BK102 := kb_ BK102 hb; replace BK112 := kb_ BK112 hb; replace HB := bs_ HB hb; clear hb hbox hg; have hnb72 := NB116_101.out; have hnc72 := NB101_116.out; have hnb73 := NB116_102.out; have hnc73 := NB102_116.out; have hnb74 := NB116_112.out; have hnc74 := NB112_116.out; have hcz75_0 := bc_ BK116 0 rfl; have hcz75_1 := bc_ BK116 1 rfl; have hfz75_0 := blk_frozen BK116.out 0; have hfz75_1 := blk_frozen BK116.out 1; have hcz76_0 := bc_ BK112 0 rfl; have hcz76_1 := bc_ BK112 1 rfl; have hfz76_0 := blk_frozen BK112.out 0; have hfz76_1 := blk_frozen BK112.out 1; have hcz77_0 := bc_ BK101 0 rfl; have hcz77_1 := bc_ BK101 1 rfl; have hfz77_0 := blk_frozen BK101.out 0; have hfz77_1 := blk_frozen BK101.out 1) | (refine gl_ 46 Tryz.func9 #[.agg #[.string t110, .string t111], .agg #[.string a0_0, .string a0_1]] ?_; refine mo_ (r3_Sub.calls t110 t111 a0_0 a0_1 t117 t118 _ A58.out) ?_; intro w78 hb; replace BK101 := Aside0.mk (blk_below (g := gb101) (o := .cells #[.string a0_0, .string a0_1] 23 (0, 0)) (fr_ BK101.out) hb); replace BK102 := Aside0.mk (blk_below (g := gb102) (o := .cells #[.string a1_0, .string a1_1] 23 (0, 0)) (fr_ BK102.out) hb); replace BK112 := Aside0.mk (blk_below (g := gb112) (o := .cells #[.string t110, .string t111] 23 (0, 0)) (fr_ BK112.out) hb); replace BK116 := Aside0.mk (blk_below (g := gb116) (o := .cells #[.string t113, .string t114] 23 (0, 0)) (rp_ BK116.out) hb); replace HB := bs_ HB hb; (try clear hb); (try clear hb2); (try clear hk); (try clear hi)) | ((with_reducible refine gate_dst (N := 10) rfl ?_); (try (refine gate_guard (by rfl) ?_; dsimp only)); refine be_ 10 #[.string (⟨#[]⟩ : ByteArray), .string (⟨#[]⟩ : ByteArray)] 23 ?_; intro gb119 hg w79 hbox hb; have BK119 := Aside0.mk (hbox); have GW119 := ge_ HB hg; have GE119 := ge_ HB hg; have NB101_119 := nl_ BK101 hg; have NB119_101 := ng_ BK101 hg; have NB102_119 := nl_ BK102 hg; have NB119_102 := ng_ BK102 hg; have NB112_119 := nl_ BK112 hg; have NB119_112 := ng_ BK112 hg; have NB116_119 := nl_ BK116 hg; have NB119_116 := ng_ BK116 hg; replace BK101 := kb_ BK101 hb; replace BK102 := kb_ BK102 hb; replace BK112 := kb_ BK112 hb; replace BK116 := kb_ BK116 hb; replace HB := bs_ HB hb; clear hb hbox hg; have hnb80 := NB119_101.out; have hnc80 := NB101_119.out; have hnb81 := NB119_102.out; have hnc81 := NB102_119.out; have hnb82 := NB119_112.out; have hnc82 := NB112_119.out; have hnb83 := NB119_116.out; have hnc83 := NB116_119.out; have hcz84_0 := bc_ BK119 0 rfl; have hcz84_1 := bc_ BK119 1 rfl; have hfz84_0 := blk_frozen BK119.out 0; have hfz84_1 := blk_frozen BK119.out 1) | (refine gl_ 48 Tryz.func6 #[.agg #[.string t117, .string t118]] ?_; refine mo_ (r3_Sign.calls t117 t118 t120 _ A59.out) ?_; intro w85 hb; replace BK101 := Aside0.mk (blk_below (g := gb101) (o := .cells #[.string a0_0, .string a0_1] 23 (0, 0)) (fr_ BK101.out) hb); replace BK102 := Aside0.mk (blk_below (g := gb102) (o := .cells #[.string a1_0, .string a1_1] 23 (0, 0)) (fr_ BK102.out) hb); replace BK112 := Aside0.mk (blk_below (g := gb112) (o := .cells #[.string t110, .string t111] 23 (0, 0)) (fr_ BK112.out) hb); replace BK116 := Aside0.mk (blk_below (g := gb116) (o := .cells #[.string t113, .string t114] 23 (0, 0)) (fr_ BK116.out) hb); replace BK119 := Aside0.mk (blk_below (g := gb119) (o := .cells #[.string t117, .string t118] 23 (0, 0)) (rp_ BK119.out) hb); replace HB := bs_ HB hb; (try clear hb); (try clear hb2); (try clear hk); (try clear hi)))
    (try simp only [Act.put, List.setIfInBounds_toArray, List.set_cons_zero, List.set_cons_succ])
    go_cut [] (fun wc => ∃ (kq : Nat) (x120000_59 : ByteArray) (x120001_59 : ByteArray), Aside0 (dl5_GridNear.j1 kq a2 a0_0 a0_1 a1_0 a1_1 t110 t111 t113 t114 x120000_59 x120001_59 = some r) ∧ Aside0 (kq ≤ kj3) ∧ Aside0 (wc.heap[gb101]? = some (.cells #[.string a0_0, .string a0_1] 23 (0, 0))) ∧ Aside0 (wc.heap[gb102]? = some (.cells #[.string a1_0, .string a1_1] 23 (0, 0))) ∧ Aside0 (wc.heap[gb112]? = some (.cells #[.string t110, .string t111] 23 (0, 0))) ∧ Aside0 (wc.heap[gb116]? = some (.cells #[.string t113, .string t114] 23 (0, 0))) ∧ Aside0 (wc.heap[gb119]? = some (.cells #[.string x120000_59, .string x120001_59] 23 (0, 0))) ∧ Aside0 (Below w.heap.size w wc))
    case first =>
     have H := HC60.out; clear HC60; by_cases c86 : t120 < 0
     ·rw [if_pos c86] at H; have c86b0 : decide (t120 < 0) = true := decide_eq_true c86; clear c86; (first | rw [c86b0] | (simp only [i64_w, i32_w]; rw [c86b0]) | skip); obtain ⟨⟨t121, t122⟩, A87, H⟩ := bi_ H; (try dsimp only at H); have H' := Aside0.mk H; clear H; have hnb88 := NB119_101.out; have hnc88 := NB101_119.out; have hnb89 := NB119_102.out; have hnc89 := NB102_119.out; have hnb90 := NB119_112.out; have hnc90 := NB112_119.out; have hnb91 := NB119_116.out; have hnc91 := NB116_119.out; have hcz92_0 := bc_ BK119 0 rfl; have hcz92_1 := bc_ BK119 1 rfl; have hfz92_0 := blk_frozen BK119.out 0; have hfz92_1 := blk_frozen BK119.out 1
      go_wp2_with (first | (refine gl_ 51 Tryz.func10 #[.agg #[.string t117, .string t118]] ?_; refine mo_ (r3_Neg.calls t117 t118 t121 t122 _ A87.out) ?_; intro w93 hb; replace BK101 := kb_ BK101 hb; replace BK102 := kb_ BK102 hb; replace BK112 := kb_ BK112 hb; replace BK116 := kb_ BK116 hb; replace BK119 := kb_ BK119 hb; replace HB := bs_ HB hb; (try clear hb); (try clear hb2); (try clear hk); (try clear hi); have hcz94_0 := bc_ BK119 0 rfl; have hcz94_1 := bc_ BK119 1 rfl; have hfz94_0 := blk_frozen BK119.out 0; have hfz94_1 := blk_frozen BK119.out 1))
      go_meet
      case rel => exact ⟨_, (t121), (t122), H', ⟨by have := HJ3.out; first | omega | exact Nat.le_refl _⟩, ⟨fr_ BK101.out⟩, ⟨fr_ BK102.out⟩, ⟨fr_ BK112.out⟩, ⟨fr_ BK116.out⟩, ⟨rp_ BK119.out⟩, ⟨b_ HB.out⟩⟩
     ·rw [if_neg c86] at H; have c86b0 : decide (t120 < 0) = false := decide_eq_false c86; clear c86; (first | rw [c86b0] | (simp only [i64_w, i32_w]; rw [c86b0]) | skip); have H' := Aside0.mk H; clear H; go_wp2
      go_meet
      case rel => exact ⟨_, (t117), (t118), H', ⟨by have := HJ3.out; first | omega | exact Nat.le_refl _⟩, ⟨k_ BK101.out⟩, ⟨k_ BK102.out⟩, ⟨k_ BK112.out⟩, ⟨k_ BK116.out⟩, ⟨k_ BK119.out⟩, ⟨b_ HB.out⟩⟩
    case rest =>
     clear HC60; (try clear c1); (try clear c2); (try clear p2); (try clear c3); (try clear c4); (try clear c5); (try clear c6); (try clear c7); (try clear c8); (try clear c9); (try clear c10); (try clear c12); (try clear c12b0); (try clear c14); (try clear c23); (try clear c23b0); (try clear c25); (try clear c35); (try clear c45); (try clear c53); (try clear c61); (try clear c66); (try clear c67); (try clear c72); (try clear c73); (try clear c74); (try clear c80); (try clear c81); (try clear c82); (try clear c83); (try clear c86); (try clear c86b0); (try clear c88); (try clear c89); (try clear c90); (try clear c91); (try clear hcz15_0); (try clear hcz15_1); (try clear hcz16_0); (try clear hcz16_1); (try clear hcz21_0); (try clear hcz21_1); (try clear hcz26_0); (try clear hcz26_1); (try clear hcz27_0); (try clear hcz27_1); (try clear hcz32_0); (try clear hcz32_1); (try clear hcz36_0); (try clear hcz36_1); (try clear hcz37_0); (try clear hcz37_1); (try clear hcz42_0); (try clear hcz42_1); (try clear hcz46_0); (try clear hcz46_1); (try clear hcz47_0); (try clear hcz47_1); (try clear hcz62_0); (try clear hcz62_1); (try clear hcz63_0); (try clear hcz63_1); (try clear hcz68_0); (try clear hcz68_1); (try clear hcz69_0); (try clear hcz69_1); (try clear hcz75_0); (try clear hcz75_1); (try clear hcz76_0); (try clear hcz76_1); (try clear hcz77_0); (try clear hcz77_1); (try clear hcz84_0); (try clear hcz84_1); (try clear hcz92_0); (try clear hcz92_1); (try clear hcz94_0); (try clear hcz94_1); (try clear hfz15_0); (try clear hfz15_1); (try clear hfz16_0); (try clear hfz16_1); (try clear hfz21_0); (try clear hfz21_1); (try clear hfz26_0); (try clear hfz26_1); (try clear hfz27_0); (try clear hfz27_1); (try clear hfz32_0); (try clear hfz32_1); (try clear hfz36_0); (try clear hfz36_1); (try clear hfz37_0); (try clear hfz37_1); (try clear hfz42_0); (try clear hfz42_1); (try clear hfz46_0); (try clear hfz46_1); (try clear hfz47_0); (try clear hfz47_1); (try clear hfz62_0); (try clear hfz62_1); (try clear hfz63_0); (try clear hfz63_1); (try clear hfz68_0); (try clear hfz68_1); (try clear hfz69_0); (try clear hfz69_1); (try clear hfz75_0); (try clear hfz75_1); (try clear hfz76_0); (try clear hfz76_1); (try clear hfz77_0); (try clear hfz77_1); (try clear hfz84_0); (try clear hfz84_1); (try clear hfz92_0); (try clear hfz92_1); (try clear hfz94_0); (try clear hfz94_1); (try clear p2); obtain ⟨kq, x120000_59, x120001_59, HA, HJ59, BK101, BK102, BK112, BK116, BK119, HB⟩ := hcut
     cases kq with
     | zero => exact absurd HA.out (by simp [dl5_GridNear.j1])
     | succ kj59 =>
      have H := HA.out; clear HA; simp only [dl5_GridNear.j1] at H; have HC95 := Aside0.mk H; clear H
      go_upto_region 8 with (fail)
      go_cut [73] (fun v73 wc => ∃ (kq : Nat) (x73_94 : Bool), v73 = .bool x73_94 ∧ Aside0 (dl5_GridNear.j2 kq a2 x73_94 a0_0 a0_1 a1_0 a1_1 t110 t111 x120000_59 x120001_59 = some r) ∧ Aside0 (kq ≤ kj59) ∧ Aside0 (wc.heap[gb101]? = some (.cells #[.string a0_0, .string a0_1] 23 (0, 0))) ∧ Aside0 (wc.heap[gb102]? = some (.cells #[.string a1_0, .string a1_1] 23 (0, 0))) ∧ Aside0 (wc.heap[gb112]? = some (.cells #[.string t110, .string t111] 23 (0, 0))) ∧ Aside0 (wc.heap[gb116]? = some (.cells #[.string t113, .string t114] 23 (0, 0))) ∧ Aside0 (wc.heap[gb119]? = some (.cells #[.string x120000_59, .string x120001_59] 23 (0, 0))) ∧ Aside0 (Below w.heap.size w wc))
      case first =>
       have H := HC95.out; clear HC95; obtain ⟨t123, A96, H⟩ := bi_ H; by_cases c97 : t123 = true
       ·subst c97; rw [if_pos rfl] at H; by_cases c98 : t114.toList = ([49] : List UInt8)
        ·rw [if_pos c98] at H; have c98b0 : (t114.toList == ([49] : List UInt8)) = true := beq_iff_eq.mpr c98; have c98b1 : (t114.toList != ([49] : List UInt8)) = false := bne_eq_false_iff_eq.mpr c98; clear c98; (first | rw [c98b0] | (simp only [i64_w, i32_w]; rw [c98b0]) | skip); obtain ⟨t124, A99, H⟩ := bi_ H; by_cases c100 : t124 ≥ 0
         ·rw [if_pos c100] at H; exact absurd (H.trans (congrArg some hr_.out)) (by generalize kj59 = q_; rcases q_ with _ | _ | _ | q_ <;> simp [dl5_GridNear.j2])
         ·rw [if_neg c100] at H; have c100b0 : decide (0 ≤ t124) = false := decide_eq_false c100; clear c100; obtain ⟨⟨t125, t126⟩, A104, H⟩ := bi_ H; (try dsimp only at H); have H' := Aside0.mk H; clear H
          try go_wp2
          replace BK101 := Aside0.mk (blk_drew BK101.out); replace BK102 := Aside0.mk (blk_drew BK102.out); replace BK112 := Aside0.mk (blk_drew BK112.out); replace BK116 := Aside0.mk (blk_drew BK116.out); replace BK119 := Aside0.mk (blk_drew BK119.out); replace HB := Aside0.mk (below_drew1 HB.out); refine sa_ 22 (fun w' => w'.cell? ⟨gb112, 0, none⟩ = some (.string t110) ∧ w'.cell? ⟨gb112, 1, none⟩ = some (.string t111) ∧ w'.cell? ⟨gb116, 0, none⟩ = some (.string t113) ∧ w'.cell? ⟨gb116, 1, none⟩ = some (.string t114) ∧ w'.cell? ⟨gb119, 0, none⟩ = some (.string x120000_59) ∧ w'.cell? ⟨gb119, 1, none⟩ = some (.string x120001_59) ∧ w'.cell? ⟨gb102, 0, none⟩ = some (.string a1_0) ∧ w'.cell? ⟨gb102, 1, none⟩ = some (.string a1_1)) (fun hHeld => ?_); refine with_tabW dl5_GridNear.tab8 dl5_GridNear.bits8 (fun HT_ HW_ => ?_); generalize wc.drew = w105 at BK101 BK102 BK112 BK116 BK119 HB hHeld ⊢; refine t8_ 0 52 rfl rfl HT_ HW_ hHeld ?_; refine on_ 1 (some 53) rfl rfl HT_ (fun K hK => ?_); refine gs_ Tryz.func11 #[.agg #[.string t110, .string t111]] ?_; refine mo_ (r3_May.calls t110 t111 true _ A96.out) ?_; intro w106 hb; replace BK101 := kb_ BK101 hb; replace BK102 := kb_ BK102 hb; replace BK112 := kb_ BK112 hb; replace BK116 := kb_ BK116 hb; replace BK119 := kb_ BK119 hb; replace HB := bs_ HB hb; (try clear hb); refine hk_ hK (fun hHeld => ?_); clear hK K; refine nm_ ?_; refine pu_ 2 54 rfl rfl HT_ ?_; refine pu_ 3 55 rfl rfl HT_ ?_; refine pu_ 4 56 rfl rfl HT_ ?_; refine t8_ 5 57 rfl rfl HT_ HW_ hHeld ?_; refine pu_ 6 58 rfl rfl HT_ ?_; refine pu_ 7 59 rfl rfl HT_ ?_; refine pu_ 8 60 rfl rfl HT_ ?_; refine t8_ 9 61 rfl rfl HT_ HW_ hHeld ?_; refine t8_ 10 62 rfl rfl HT_ HW_ hHeld ?_; refine on_ 11 (some 63) rfl rfl HT_ (fun K hK => ?_); refine gs_ Tryz.func12 #[.agg #[.string x120000_59, .string x120001_59], .agg #[.string a1_0, .string a1_1]] ?_; refine mo_ (r3_Cmp.calls x120000_59 x120001_59 a1_0 a1_1 t124 _ A99.out) ?_; intro w107 hb; replace BK101 := kb_ BK101 hb; replace BK102 := kb_ BK102 hb; replace BK112 := kb_ BK112 hb; replace BK116 := kb_ BK116 hb; replace BK119 := kb_ BK119 hb; replace HB := bs_ HB hb; (try clear hb); refine hk_ hK (fun hHeld => ?_); clear hK K; refine nm_ ?_; refine pu_ 12 64 rfl rfl HT_ ?_; refine pu_ 13 65 rfl rfl HT_ ?_; refine pu_ 14 66 rfl rfl HT_ ?_; refine pu_ 17 69 rfl rfl HT_ ?_; refine t8_ 15 67 rfl rfl HT_ HW_ hHeld ?_; refine t8_ 16 68 rfl rfl HT_ HW_ hHeld ?_; refine t8_ 19 71 rfl rfl HT_ HW_ hHeld ?_; refine on_ 18 (some 70) rfl rfl HT_ (fun K hK => ?_); refine gs_ Tryz.func7 #[.agg #[.string t110, .string t111], .agg #[.string a1_0, .string a1_1], .int .i64 a2] ?_; refine mo_ (grid_Round.calls t110 t111 a1_0 a1_1 a2 t125 t126 _ (lb_ HLD HB) A104.out) ?_; intro w108 hb; replace BK101 := kb_ BK101 hb; replace BK102 := kb_ BK102 hb; replace BK112 := kb_ BK112 hb; replace BK116 := kb_ BK116 hb; replace BK119 := kb_ BK119 hb; replace HB := bs_ HB hb; (try clear hb); refine hk_ hK (fun hHeld => ?_); clear hK K; refine nm_ ?_; refine pu_ 20 72 rfl rfl HT_ ?_; refine pu_ 21 73 rfl rfl HT_ ?_; refine done_ (done_of HT_.out (by kernel_rfl)) ?_
          try go_wp2
          go_meet
          case rel => exact ⟨_, ((!(t125.toList == t110.toList) || (!(t126.toList == t111.toList)))), rl_, H', ⟨by have := HJ3.out; have := HJ59.out; first | omega | exact Nat.le_refl _⟩, ⟨k_ BK101.out⟩, ⟨k_ BK102.out⟩, ⟨k_ BK112.out⟩, ⟨k_ BK116.out⟩, ⟨k_ BK119.out⟩, ⟨b_ HB.out⟩⟩
        ·rw [if_neg c98] at H; exact absurd (H.trans (congrArg some hr_.out)) (by generalize kj59 = q_; rcases q_ with _ | _ | _ | q_ <;> simp [dl5_GridNear.j2])
       ·replace c97 := Bool.eq_false_iff.mpr c97; subst c97
        have H1 : (dl5_GridNear.j2 kj59 a2 true a0_0 a0_1 a1_0 a1_1 t110 t111 x120000_59 x120001_59) = some r := by rw [if_neg (show ¬ (false = true) by decide)] at H; exact H
        exact absurd (H1.trans (congrArg some hr_.out)) (by generalize kj59 = q_; rcases q_ with _ | _ | _ | q_ <;> simp [dl5_GridNear.j2])
      case rest =>
       clear HC95; (try clear c1); (try clear p2); (try clear c7); (try clear c9); (try clear c11); (try clear c12); (try clear c97); (try clear c98); (try clear c98b0); (try clear c98b1); obtain ⟨kq, x73_94, rfl, HA, HJ94, BK101, BK102, BK112, BK116, BK119, HB⟩ := hcut
       cases kq with
       | zero => exact absurd HA.out (by simp [dl5_GridNear.j2])
       | succ kj94 =>
        have H := HA.out; clear HA; simp only [dl5_GridNear.j2] at H; by_cases c113 : x73_94 = true
        ·subst c113
         have H1 : (some false) = some r := by rw [if_pos rfl] at H; exact H
         exact absurd (H1.trans (congrArg some hr_.out)) (by decide)
        ·replace c113 := Bool.eq_false_iff.mpr c113; subst c113; rw [if_neg nf_] at H; by_cases c114 : a2 = 0
         ·rw [if_pos c114] at H; have c114b0 : (a2 == 0) = true := beq_iff_eq.mpr c114; have c114b1 : (a2 != 0) = false := bne_eq_false_iff_eq.mpr c114; clear c114; obtain ⟨t127, A115, H⟩ := bi_ H; obtain rfl := Option.some.inj H; have hnb116 := NB112_101.out; have hnc116 := NB101_112.out; have hnb117 := NB112_102.out; have hnc117 := NB102_112.out; have hnb118 := NB112_116.out; have hnc118 := NB116_112.out; have hnb119 := NB112_119.out; have hnc119 := NB119_112.out; have hcz120_0 := bc_ BK112 0 rfl; have hcz120_1 := bc_ BK112 1 rfl; have hfz120_0 := blk_frozen BK112.out 0; have hfz120_1 := blk_frozen BK112.out 1; have hnb121 := NB101_102.out; have hnc121 := NB102_101.out; have hnb122 := NB101_116.out; have hnc122 := NB116_101.out; have hnb123 := NB101_119.out; have hnc123 := NB119_101.out; have hcz124_0 := bc_ BK101 0 rfl; have hcz124_1 := bc_ BK101 1 rfl; have hfz124_0 := blk_frozen BK101.out 0; have hfz124_1 := blk_frozen BK101.out 1
          go_wp2_with (first | (refine gl_ 79 Tryz.func12 #[.agg #[.string t110, .string t111], .agg #[.string a0_0, .string a0_1]] ?_; refine mo_ (r3_Cmp.calls t110 t111 a0_0 a0_1 t127 _ A115.out) ?_; intro w125 hb; replace BK101 := kb_ BK101 hb; replace BK102 := kb_ BK102 hb; replace BK112 := kb_ BK112 hb; replace BK116 := kb_ BK116 hb; replace BK119 := kb_ BK119 hb; replace HB := bs_ HB hb; (try clear hb); (try clear hb2); (try clear hk); (try clear hi)))
          go_ret
          exact ⟨er_, b_ HB.out⟩
         ·rw [if_neg c114] at H; have c114b0 : (a2 == 0) = false := beq_eq_false_iff_ne.mpr c114; have c114b1 : (a2 != 0) = true := bne_iff_ne.mpr c114; by_cases c126 : a2 = 1
          ·rw [if_pos c126] at H; have c126b0 : (a2 == 1) = true := beq_iff_eq.mpr c126; have c126b1 : (a2 != 1) = false := bne_eq_false_iff_eq.mpr c126; clear c126; obtain ⟨t128, A127, H⟩ := bi_ H; by_cases c128 : t128 < 0
           ·rw [if_pos c128] at H; have c128b0 : decide (t128 < 0) = true := decide_eq_true c128; clear c128; obtain ⟨t129, A129, H⟩ := bi_ H; by_cases c130 : t129 ≥ 0
            ·rw [if_pos c130] at H; have c130b0 : decide (0 ≤ t129) = true := decide_eq_true c130; clear c130; obtain ⟨t130, A131, H⟩ := bi_ H; by_cases c132 : t130 ≤ 0
             ·rw [if_pos c132] at H; have c132b0 : decide (t130 ≤ 0) = true := decide_eq_true c132; clear c132; obtain rfl := Option.some.inj H; have hnb133 := NB101_102.out; have hnc133 := NB102_101.out; have hnb134 := NB101_112.out; have hnc134 := NB112_101.out; have hnb135 := NB101_116.out; have hnc135 := NB116_101.out; have hnb136 := NB101_119.out; have hnc136 := NB119_101.out; have hcz137_0 := bc_ BK101 0 rfl; have hcz137_1 := bc_ BK101 1 rfl; have hfz137_0 := blk_frozen BK101.out 0; have hfz137_1 := blk_frozen BK101.out 1
              go_wp2_with (first | (refine gl_ 84 Tryz.func6 #[.agg #[.string a0_0, .string a0_1]] ?_; refine mo_ (r3_Sign.calls a0_0 a0_1 t128 _ A127.out) ?_; intro w138 hb; replace BK101 := kb_ BK101 hb; replace BK102 := kb_ BK102 hb; replace BK112 := kb_ BK112 hb; replace BK116 := kb_ BK116 hb; replace BK119 := kb_ BK119 hb; replace HB := bs_ HB hb; (try clear hb); (try clear hb2); (try clear hk); (try clear hi); have hnb139 := NB112_102.out; have hnc139 := NB102_112.out; have hnb140 := NB112_116.out; have hnc140 := NB116_112.out; have hnb141 := NB112_119.out; have hnc141 := NB119_112.out; have hcz142_0 := bc_ BK112 0 rfl; have hcz142_1 := bc_ BK112 1 rfl; have hfz142_0 := blk_frozen BK112.out 0; have hfz142_1 := blk_frozen BK112.out 1; have hcz143_0 := bc_ BK101 0 rfl; have hcz143_1 := bc_ BK101 1 rfl; have hfz143_0 := blk_frozen BK101.out 0; have hfz143_1 := blk_frozen BK101.out 1))
              go_at_call 12; (with_reducible refine (r3_Cmp.calls t110 t111 a0_0 a0_1 t129 _ A129.out).mono ?_); rintro e w144 ⟨rfl, hb⟩; replace BK101 := kb_ BK101 hb; replace BK102 := kb_ BK102 hb; replace BK112 := kb_ BK112 hb; replace BK116 := kb_ BK116 hb; replace BK119 := kb_ BK119 hb; replace HB := bs_ HB hb; (try clear hb); (try clear hb2); (try clear hk); (try clear hi); have hcz145_0 := bc_ BK112 0 rfl; have hcz145_1 := bc_ BK112 1 rfl; have hfz145_0 := blk_frozen BK112.out 0; have hfz145_1 := blk_frozen BK112.out 1
              try go_wp2_with (fail)
              go_at_call 6; (with_reducible refine (r3_Sign.calls t110 t111 t130 _ A131.out).mono ?_); rintro e w146 ⟨rfl, hb⟩; replace BK101 := kb_ BK101 hb; replace BK102 := kb_ BK102 hb; replace BK112 := kb_ BK112 hb; replace BK116 := kb_ BK116 hb; replace BK119 := kb_ BK119 hb; replace HB := bs_ HB hb; (try clear hb); (try clear hb2); (try clear hk); (try clear hi)
              try go_wp2_with (fail)
              go_ret
              exact ⟨er_, b_ HB.out⟩
             ·rw [if_neg c132] at H; have c132b0 : decide (t130 ≤ 0) = false := decide_eq_false c132; clear c132; obtain ⟨t131, A147, H⟩ := bi_ H
              obtain rfl : t128 = t131 := by have e_ := A127.out.symm.trans A147.out; simpa using e_
              by_cases c148 : t128 ≥ 0
              ·rw [if_pos c148] at H; have c148b0 : decide (0 ≤ t128) = true := decide_eq_true c148; clear c148; obtain ⟨t132, A149, H⟩ := bi_ H
               obtain rfl : t129 = t132 := by have e_ := A129.out.symm.trans A149.out; simpa using e_
               by_cases c150 : t129 ≤ 0
               ·rw [if_pos c150] at H; have c150b0 : decide (t129 ≤ 0) = true := decide_eq_true c150; clear c150; obtain ⟨t133, A151, H⟩ := bi_ H
                obtain rfl : t130 = t133 := by have e_ := A131.out.symm.trans A151.out; simpa using e_
                obtain rfl := Option.some.inj H; have hnb152 := NB101_102.out; have hnc152 := NB102_101.out; have hnb153 := NB101_112.out; have hnc153 := NB112_101.out; have hnb154 := NB101_116.out; have hnc154 := NB116_101.out; have hnb155 := NB101_119.out; have hnc155 := NB119_101.out; have hcz156_0 := bc_ BK101 0 rfl; have hcz156_1 := bc_ BK101 1 rfl; have hfz156_0 := blk_frozen BK101.out 0; have hfz156_1 := blk_frozen BK101.out 1
                go_wp2_with (first | (refine gl_ 84 Tryz.func6 #[.agg #[.string a0_0, .string a0_1]] ?_; refine mo_ (r3_Sign.calls a0_0 a0_1 t128 _ A127.out) ?_; intro w157 hb; replace BK101 := kb_ BK101 hb; replace BK102 := kb_ BK102 hb; replace BK112 := kb_ BK112 hb; replace BK116 := kb_ BK116 hb; replace BK119 := kb_ BK119 hb; replace HB := bs_ HB hb; (try clear hb); (try clear hb2); (try clear hk); (try clear hi); have hnb158 := NB112_102.out; have hnc158 := NB102_112.out; have hnb159 := NB112_116.out; have hnc159 := NB116_112.out; have hnb160 := NB112_119.out; have hnc160 := NB119_112.out; have hcz161_0 := bc_ BK112 0 rfl; have hcz161_1 := bc_ BK112 1 rfl; have hfz161_0 := blk_frozen BK112.out 0; have hfz161_1 := blk_frozen BK112.out 1; have hcz162_0 := bc_ BK101 0 rfl; have hcz162_1 := bc_ BK101 1 rfl; have hfz162_0 := blk_frozen BK101.out 0; have hfz162_1 := blk_frozen BK101.out 1))
                go_at_call 12; (with_reducible refine (r3_Cmp.calls t110 t111 a0_0 a0_1 t129 _ A129.out).mono ?_); rintro e w163 ⟨rfl, hb⟩; replace BK101 := kb_ BK101 hb; replace BK102 := kb_ BK102 hb; replace BK112 := kb_ BK112 hb; replace BK116 := kb_ BK116 hb; replace BK119 := kb_ BK119 hb; replace HB := bs_ HB hb; (try clear hb); (try clear hb2); (try clear hk); (try clear hi); have hcz164_0 := bc_ BK112 0 rfl; have hcz164_1 := bc_ BK112 1 rfl; have hfz164_0 := blk_frozen BK112.out 0; have hfz164_1 := blk_frozen BK112.out 1
                try go_wp2_with (fail)
                go_at_call 6; (with_reducible refine (r3_Sign.calls t110 t111 t130 _ A131.out).mono ?_); rintro e w165 ⟨rfl, hb⟩; replace BK101 := kb_ BK101 hb; replace BK102 := kb_ BK102 hb; replace BK112 := kb_ BK112 hb; replace BK116 := kb_ BK116 hb; replace BK119 := kb_ BK119 hb; replace HB := bs_ HB hb; (try clear hb); (try clear hb2); (try clear hk); (try clear hi); have hcz166_0 := bc_ BK101 0 rfl; have hcz166_1 := bc_ BK101 1 rfl; have hfz166_0 := blk_frozen BK101.out 0; have hfz166_1 := blk_frozen BK101.out 1
                try go_wp2_with (fail)
                go_at_call 6; (with_reducible refine (r3_Sign.calls a0_0 a0_1 t128 _ A147.out).mono ?_); rintro e w167 ⟨rfl, hb⟩; replace BK101 := kb_ BK101 hb; replace BK102 := kb_ BK102 hb; replace BK112 := kb_ BK112 hb; replace BK116 := kb_ BK116 hb; replace BK119 := kb_ BK119 hb; replace HB := bs_ HB hb; (try clear hb); (try clear hb2); (try clear hk); (try clear hi); have hcz168_0 := bc_ BK112 0 rfl; have hcz168_1 := bc_ BK112 1 rfl; have hfz168_0 := blk_frozen BK112.out 0; have hfz168_1 := blk_frozen BK112.out 1; have hcz169_0 := bc_ BK101 0 rfl; have hcz169_1 := bc_ BK101 1 rfl; have hfz169_0 := blk_frozen BK101.out 0; have hfz169_1 := blk_frozen BK101.out 1
                try go_wp2_with (fail)
                go_at_call 12; (with_reducible refine (r3_Cmp.calls t110 t111 a0_0 a0_1 t129 _ A149.out).mono ?_); rintro e w170 ⟨rfl, hb⟩; replace BK101 := kb_ BK101 hb; replace BK102 := kb_ BK102 hb; replace BK112 := kb_ BK112 hb; replace BK116 := kb_ BK116 hb; replace BK119 := kb_ BK119 hb; replace HB := bs_ HB hb; (try clear hb); (try clear hb2); (try clear hk); (try clear hi); have hcz171_0 := bc_ BK112 0 rfl; have hcz171_1 := bc_ BK112 1 rfl; have hfz171_0 := blk_frozen BK112.out 0; have hfz171_1 := blk_frozen BK112.out 1
                try go_wp2_with (fail)
                go_at_call 6; (with_reducible refine (r3_Sign.calls t110 t111 t130 _ A151.out).mono ?_); rintro e w172 ⟨rfl, hb⟩; replace BK101 := kb_ BK101 hb; replace BK102 := kb_ BK102 hb; replace BK112 := kb_ BK112 hb; replace BK116 := kb_ BK116 hb; replace BK119 := kb_ BK119 hb; replace HB := bs_ HB hb; (try clear hb); (try clear hb2); (try clear hk); (try clear hi)
                try go_wp2_with (fail)
                go_ret
                exact ⟨er_, b_ HB.out⟩
               ·rw [if_neg c150] at H; exact absurd (H.trans (congrArg some hr_.out)) (by decide)
              ·rw [if_neg c148] at H; exact absurd (H.trans (congrArg some hr_.out)) (by decide)
            ·rw [if_neg c130] at H; have c130b0 : decide (0 ≤ t129) = false := decide_eq_false c130; clear c130; obtain ⟨t134, A208, H⟩ := bi_ H
             obtain rfl : t128 = t134 := by have e_ := A127.out.symm.trans A208.out; simpa using e_
             by_cases c209 : t128 ≥ 0
             ·rw [if_pos c209] at H; have c209b0 : decide (0 ≤ t128) = true := decide_eq_true c209; clear c209; obtain ⟨t135, A210, H⟩ := bi_ H
              obtain rfl : t129 = t135 := by have e_ := A129.out.symm.trans A210.out; simpa using e_
              by_cases c211 : t129 ≤ 0
              ·rw [if_pos c211] at H; have c211b0 : decide (t129 ≤ 0) = true := decide_eq_true c211; clear c211; obtain ⟨t136, A212, H⟩ := bi_ H; obtain rfl := Option.some.inj H; have hnb213 := NB101_102.out; have hnc213 := NB102_101.out; have hnb214 := NB101_112.out; have hnc214 := NB112_101.out; have hnb215 := NB101_116.out; have hnc215 := NB116_101.out; have hnb216 := NB101_119.out; have hnc216 := NB119_101.out; have hcz217_0 := bc_ BK101 0 rfl; have hcz217_1 := bc_ BK101 1 rfl; have hfz217_0 := blk_frozen BK101.out 0; have hfz217_1 := blk_frozen BK101.out 1
               go_wp2_with (first | (refine gl_ 84 Tryz.func6 #[.agg #[.string a0_0, .string a0_1]] ?_; refine mo_ (r3_Sign.calls a0_0 a0_1 t128 _ A127.out) ?_; intro w218 hb; replace BK101 := kb_ BK101 hb; replace BK102 := kb_ BK102 hb; replace BK112 := kb_ BK112 hb; replace BK116 := kb_ BK116 hb; replace BK119 := kb_ BK119 hb; replace HB := bs_ HB hb; (try clear hb); (try clear hb2); (try clear hk); (try clear hi); have hnb219 := NB112_102.out; have hnc219 := NB102_112.out; have hnb220 := NB112_116.out; have hnc220 := NB116_112.out; have hnb221 := NB112_119.out; have hnc221 := NB119_112.out; have hcz222_0 := bc_ BK112 0 rfl; have hcz222_1 := bc_ BK112 1 rfl; have hfz222_0 := blk_frozen BK112.out 0; have hfz222_1 := blk_frozen BK112.out 1; have hcz223_0 := bc_ BK101 0 rfl; have hcz223_1 := bc_ BK101 1 rfl; have hfz223_0 := blk_frozen BK101.out 0; have hfz223_1 := blk_frozen BK101.out 1))
               go_at_call 12; (with_reducible refine (r3_Cmp.calls t110 t111 a0_0 a0_1 t129 _ A129.out).mono ?_); rintro e w224 ⟨rfl, hb⟩; replace BK101 := kb_ BK101 hb; replace BK102 := kb_ BK102 hb; replace BK112 := kb_ BK112 hb; replace BK116 := kb_ BK116 hb; replace BK119 := kb_ BK119 hb; replace HB := bs_ HB hb; (try clear hb); (try clear hb2); (try clear hk); (try clear hi); have hcz225_0 := bc_ BK101 0 rfl; have hcz225_1 := bc_ BK101 1 rfl; have hfz225_0 := blk_frozen BK101.out 0; have hfz225_1 := blk_frozen BK101.out 1
               try go_wp2_with (fail)
               go_at_call 6; (with_reducible refine (r3_Sign.calls a0_0 a0_1 t128 _ A208.out).mono ?_); rintro e w226 ⟨rfl, hb⟩; replace BK101 := kb_ BK101 hb; replace BK102 := kb_ BK102 hb; replace BK112 := kb_ BK112 hb; replace BK116 := kb_ BK116 hb; replace BK119 := kb_ BK119 hb; replace HB := bs_ HB hb; (try clear hb); (try clear hb2); (try clear hk); (try clear hi); have hcz227_0 := bc_ BK112 0 rfl; have hcz227_1 := bc_ BK112 1 rfl; have hfz227_0 := blk_frozen BK112.out 0; have hfz227_1 := blk_frozen BK112.out 1; have hcz228_0 := bc_ BK101 0 rfl; have hcz228_1 := bc_ BK101 1 rfl; have hfz228_0 := blk_frozen BK101.out 0; have hfz228_1 := blk_frozen BK101.out 1
               try go_wp2_with (fail)
               go_at_call 12; (with_reducible refine (r3_Cmp.calls t110 t111 a0_0 a0_1 t129 _ A210.out).mono ?_); rintro e w229 ⟨rfl, hb⟩; replace BK101 := kb_ BK101 hb; replace BK102 := kb_ BK102 hb; replace BK112 := kb_ BK112 hb; replace BK116 := kb_ BK116 hb; replace BK119 := kb_ BK119 hb; replace HB := bs_ HB hb; (try clear hb); (try clear hb2); (try clear hk); (try clear hi); have hcz230_0 := bc_ BK112 0 rfl; have hcz230_1 := bc_ BK112 1 rfl; have hfz230_0 := blk_frozen BK112.out 0; have hfz230_1 := blk_frozen BK112.out 1
               try go_wp2_with (fail)
               go_at_call 6; (with_reducible refine (r3_Sign.calls t110 t111 t136 _ A212.out).mono ?_); rintro e w231 ⟨rfl, hb⟩; replace BK101 := kb_ BK101 hb; replace BK102 := kb_ BK102 hb; replace BK112 := kb_ BK112 hb; replace BK116 := kb_ BK116 hb; replace BK119 := kb_ BK119 hb; replace HB := bs_ HB hb; (try clear hb); (try clear hb2); (try clear hk); (try clear hi)
               try go_wp2_with (fail)
               go_ret
               exact ⟨er_, b_ HB.out⟩
              ·rw [if_neg c211] at H; exact absurd (H.trans (congrArg some hr_.out)) (by decide)
             ·rw [if_neg c209] at H; exact absurd (H.trans (congrArg some hr_.out)) (by decide)
           ·rw [if_neg c128] at H; have c128b0 : decide (t128 < 0) = false := decide_eq_false c128; clear c128; obtain ⟨t137, A263, H⟩ := bi_ H
            obtain rfl : t128 = t137 := by have e_ := A127.out.symm.trans A263.out; simpa using e_
            by_cases c264 : t128 ≥ 0
            ·rw [if_pos c264] at H; have c264b0 : decide (0 ≤ t128) = true := decide_eq_true c264; clear c264; obtain ⟨t138, A265, H⟩ := bi_ H; by_cases c266 : t138 ≤ 0
             ·rw [if_pos c266] at H; have c266b0 : decide (t138 ≤ 0) = true := decide_eq_true c266; clear c266; obtain ⟨t139, A267, H⟩ := bi_ H; obtain rfl := Option.some.inj H; have hnb268 := NB101_102.out; have hnc268 := NB102_101.out; have hnb269 := NB101_112.out; have hnc269 := NB112_101.out; have hnb270 := NB101_116.out; have hnc270 := NB116_101.out; have hnb271 := NB101_119.out; have hnc271 := NB119_101.out; have hcz272_0 := bc_ BK101 0 rfl; have hcz272_1 := bc_ BK101 1 rfl; have hfz272_0 := blk_frozen BK101.out 0; have hfz272_1 := blk_frozen BK101.out 1
              go_wp2_with (first | (refine gl_ 84 Tryz.func6 #[.agg #[.string a0_0, .string a0_1]] ?_; refine mo_ (r3_Sign.calls a0_0 a0_1 t128 _ A127.out) ?_; intro w273 hb; replace BK101 := kb_ BK101 hb; replace BK102 := kb_ BK102 hb; replace BK112 := kb_ BK112 hb; replace BK116 := kb_ BK116 hb; replace BK119 := kb_ BK119 hb; replace HB := bs_ HB hb; (try clear hb); (try clear hb2); (try clear hk); (try clear hi); have hcz274_0 := bc_ BK101 0 rfl; have hcz274_1 := bc_ BK101 1 rfl; have hfz274_0 := blk_frozen BK101.out 0; have hfz274_1 := blk_frozen BK101.out 1))
              go_at_call 6; (with_reducible refine (r3_Sign.calls a0_0 a0_1 t128 _ A263.out).mono ?_); rintro e w275 ⟨rfl, hb⟩; replace BK101 := kb_ BK101 hb; replace BK102 := kb_ BK102 hb; replace BK112 := kb_ BK112 hb; replace BK116 := kb_ BK116 hb; replace BK119 := kb_ BK119 hb; replace HB := bs_ HB hb; (try clear hb); (try clear hb2); (try clear hk); (try clear hi); have hnb276 := NB112_102.out; have hnc276 := NB102_112.out; have hnb277 := NB112_116.out; have hnc277 := NB116_112.out; have hnb278 := NB112_119.out; have hnc278 := NB119_112.out; have hcz279_0 := bc_ BK112 0 rfl; have hcz279_1 := bc_ BK112 1 rfl; have hfz279_0 := blk_frozen BK112.out 0; have hfz279_1 := blk_frozen BK112.out 1; have hcz280_0 := bc_ BK101 0 rfl; have hcz280_1 := bc_ BK101 1 rfl; have hfz280_0 := blk_frozen BK101.out 0; have hfz280_1 := blk_frozen BK101.out 1
              try go_wp2_with (fail)
              go_at_call 12; (with_reducible refine (r3_Cmp.calls t110 t111 a0_0 a0_1 t138 _ A265.out).mono ?_); rintro e w281 ⟨rfl, hb⟩; replace BK101 := kb_ BK101 hb; replace BK102 := kb_ BK102 hb; replace BK112 := kb_ BK112 hb; replace BK116 := kb_ BK116 hb; replace BK119 := kb_ BK119 hb; replace HB := bs_ HB hb; (try clear hb); (try clear hb2); (try clear hk); (try clear hi); have hcz282_0 := bc_ BK112 0 rfl; have hcz282_1 := bc_ BK112 1 rfl; have hfz282_0 := blk_frozen BK112.out 0; have hfz282_1 := blk_frozen BK112.out 1
              try go_wp2_with (fail)
              go_at_call 6; (with_reducible refine (r3_Sign.calls t110 t111 t139 _ A267.out).mono ?_); rintro e w283 ⟨rfl, hb⟩; replace BK101 := kb_ BK101 hb; replace BK102 := kb_ BK102 hb; replace BK112 := kb_ BK112 hb; replace BK116 := kb_ BK116 hb; replace BK119 := kb_ BK119 hb; replace HB := bs_ HB hb; (try clear hb); (try clear hb2); (try clear hk); (try clear hi)
              try go_wp2_with (fail)
              go_ret
              exact ⟨er_, b_ HB.out⟩
             ·rw [if_neg c266] at H; exact absurd (H.trans (congrArg some hr_.out)) (by decide)
            ·rw [if_neg c264] at H; exact absurd (H.trans (congrArg some hr_.out)) (by decide)
          ·rw [if_neg c126] at H; have c126b0 : (a2 == 1) = false := beq_eq_false_iff_ne.mpr c126; have c126b1 : (a2 != 1) = true := bne_iff_ne.mpr c126; obtain ⟨⟨t140, t141⟩, A306, H⟩ := bi_ H; (try dsimp only at H); obtain ⟨t142, A307, H⟩ := bi_ H; obtain rfl := Option.some.inj H
           try go_wp2
           replace BK101 := Aside0.mk (blk_drew BK101.out); replace BK102 := Aside0.mk (blk_drew BK102.out); replace BK112 := Aside0.mk (blk_drew BK112.out); replace BK116 := Aside0.mk (blk_drew BK116.out); replace BK119 := Aside0.mk (blk_drew BK119.out); replace HB := Aside0.mk (below_drew1 HB.out); refine sa_ 7 (fun w' => w'.cell? ⟨gb119, 0, none⟩ = some (.string x120000_59) ∧ w'.cell? ⟨gb119, 1, none⟩ = some (.string x120001_59) ∧ w'.cell? ⟨gb102, 0, none⟩ = some (.string a1_0) ∧ w'.cell? ⟨gb102, 1, none⟩ = some (.string a1_1)) (fun hHeld => ?_); generalize wc.drew = w308 at BK101 BK102 BK112 BK116 BK119 HB hHeld ⊢; refine take_ (i := 0) (N := some 113) (v := ?_) (a' := ?_) #[true, false, false, false, false, false, false] rfl rfl (by kernel_rfl) (fun _ _ _ h => h) (Or.inl ⟨by rfl, ?_⟩) hHeld ?_ ?_; rotate_left
           ·rintro w' ⟨s0, s1, s2, s3⟩; go_simp; with_reducible rfl
           rotate_left
           ·exact ap_
           refine take_ (i := 1) (N := some 114) (v := ?_) (a' := ?_) #[true, true, false, false, false, false, false] rfl rfl (by kernel_rfl) (fun _ _ _ h => h) (Or.inl ⟨by rfl, ?_⟩) hHeld ?_ ?_; rotate_left
           ·rintro w' ⟨s0, s1, s2, s3⟩; go_simp; with_reducible rfl
           rotate_left
           ·exact ap_
           refine take_ (i := 3) (N := some 116) (v := ?_) (a' := ?_) #[true, true, false, true, false, false, false] rfl rfl (by kernel_rfl) (fun _ _ _ h => h) (Or.inl ⟨by rfl, ?_⟩) hHeld ?_ ?_; rotate_left
           ·rintro w' ⟨s0, s1, s2, s3⟩; go_simp; with_reducible rfl
           rotate_left
           ·exact ap_
           refine one_ (i := 2) (N := some 115) #[true, true, true, true, false, false, false] rfl rfl (by kernel_rfl) (by decide) (fun K hK => ?_); refine gs_ Tryz.func13 #[.agg #[.string x120000_59, .string x120001_59], .agg #[.string x120000_59, .string x120001_59]] ?_; refine mo_ (r3_Add.calls x120000_59 x120001_59 x120000_59 x120001_59 t140 t141 _ A306.out) ?_; intro w309 hb; replace BK101 := kb_ BK101 hb; replace BK102 := kb_ BK102 hb; replace BK112 := kb_ BK112 hb; replace BK116 := kb_ BK116 hb; replace BK119 := kb_ BK119 hb; replace HB := bs_ HB hb; (try clear hb); refine hk_ hK (fun hHeld => ?_); clear hK K; refine nm_ ?_; refine one_ (i := 4) (N := some 117) #[true, true, true, true, true, false, false] rfl rfl (by kernel_rfl) (by decide) (fun K hK => ?_); refine gs_ Tryz.func12 #[.agg #[.string t140, .string t141], .agg #[.string a1_0, .string a1_1]] ?_; refine mo_ (r3_Cmp.calls t140 t141 a1_0 a1_1 t142 _ A307.out) ?_; intro w310 hb; replace BK101 := kb_ BK101 hb; replace BK102 := kb_ BK102 hb; replace BK112 := kb_ BK112 hb; replace BK116 := kb_ BK116 hb; replace BK119 := kb_ BK119 hb; replace HB := bs_ HB hb; (try clear hb); refine hk_ hK (fun hHeld => ?_); clear hK K; refine nm_ ?_; refine pure_ (i := 5) (N := some 118) (v := ?_) (a' := ?_) #[true, true, true, true, true, true, false] rfl rfl (by kernel_rfl) (fun _ _ _ h => h) (Or.inl ⟨by rfl, ?_⟩) ?_ ?_; rotate_left
           ·intro w'; go_simp; with_reducible rfl
           rotate_left
           ·exact ap_
           refine pure_ (i := 6) (N := some 6) (v := ?_) (a' := ?_) #[true, true, true, true, true, true, true] rfl rfl (by kernel_rfl) (fun _ _ _ h => h) (Or.inl ⟨by rfl, ?_⟩) ?_ ?_; rotate_left
           ·intro w'; go_simp; with_reducible rfl
           rotate_left
           ·exact ap_
           refine done_ (by kernel_rfl) ?_
           try go_wp2
           go_ret
           exact ⟨er_, b_ HB.out⟩
end Go.Proofs.YtnhpnnbjimnmlaaGreatDoor.LGridNear
end

section
namespace Go.Proofs.YtnhpnnbjimnmlaaGreatDoor.LGridNear
end Go.Proofs.YtnhpnnbjimnmlaaGreatDoor.LGridNear
end

section
namespace Go.Proofs.YtnhpnnbjimnmlaaGreatDoor
theorem near_end {x g : Rat} {m : Int} (hp : 0 < g) (m0 : 0 ≤ m) (m2 : m ≤ 2) (sx : szR x ≤ 200) (sg : szR g ≤ 200) {d : Rat} (sd : szR d ≤ 3000) (h1 : d < g) (h2 : m = 2 → d + d ≤ g) (k : Nat) :
  LGridNear.dl5_GridNear.j1 (k + 2) m (rT x).1 (rT x).2 (rT g).1 (rT g).2 (rT (gR x g m)).1 (rT (gR x g m)).2 (rT (gR x g m / g)).1 (rT (gR x g m / g)).2 (rT d).1 (rT d).2 = some true := by
 have sy := szR_gR x hp m
 have hden : (rT (gR x g m / g)).2.toList = ([49] : List UInt8) := by
  rw [gR_div hp]
  show (natB ((gW (x / g) m : Int) : Rat).den).toList = [49]
  rw [Rat.den_intCast]
  exact natB_toList_one.2 rfl
 have hfix := gR_fix hp x m
 show LGridNear.dl5_GridNear.j1 (k + 1 + 1) _ _ _ _ _ _ _ _ _ _ _ = _
 simp only [LGridNear.dl5_GridNear.j1]
 rw [kMay (by omega), Option.bind_some, if_pos rfl, if_pos hden, kCmp (by omega) (by omega), Option.bind_some, if_neg (fun z => absurd ((cmpQ_ge d g).1 z) (Rat.not_le.2 h1)), gRound (by omega) (by omega) m0 m2 hp, hfix, Option.bind_some]
 have e : (!((rT (gR x g m)).1.toList == (rT (gR x g m)).1.toList) || (!((rT (gR x g m)).2.toList == (rT (gR x g m)).2.toList))) = false := by simp
 rw [e]
 generalize hy : gR x g m = y at *
 simp only [LGridNear.dl5_GridNear.j2]
 rw [if_neg (by decide)]
 by_cases z0 : m = 0
 ·have := gR_down hp x
  rw [z0] at hy
  rw [hy] at this
  rw [if_pos z0, kCmp (by omega) (by omega), Option.bind_some, decide_eq_true ((cmpQ_le y x).2 this)]
 ·rw [if_neg z0]
  by_cases z1 : m = 1
  ·have ht := gR_trunc hp x
   rw [z1] at hy
   rw [hy] at ht
   rw [if_pos z1, kSign (by omega), Option.bind_some]
   by_cases hx : x < 0
   ·obtain ⟨a, b⟩ := ht.1 hx
    rw [if_pos ((cmpQ_lt x 0).2 hx), kCmp (by omega) (by omega), Option.bind_some, if_pos ((cmpQ_ge y x).2 a), kSign (by omega), Option.bind_some, if_pos ((cmpQ_le y 0).2 b)]
   ·have hx' : 0 ≤ x := Rat.not_lt.1 hx
    obtain ⟨a, b⟩ := ht.2 hx'
    rw [if_neg (fun z => hx ((cmpQ_lt x 0).1 z)), Option.bind_some, if_pos ((cmpQ_ge x 0).2 hx'), kCmp (by omega) (by omega), Option.bind_some, if_pos ((cmpQ_le y x).2 b), kSign (by omega), Option.bind_some, decide_eq_true ((cmpQ_ge y 0).2 a)]
  ·have hm : m = 2 := by omega
   have s2 := szR_two d
   rw [if_neg z1, kAdd (by omega) (by omega), Option.bind_some, kCmp (by omega) (by omega), Option.bind_some, decide_eq_true ((cmpQ_le (d + d) g).2 (h2 hm))]
theorem pureGridNear (a0_0 a0_1 a1_0 a1_1 : ByteArray) (a2 : Int) (w2 : (Lit.int .i64 a2).wf = true) : ∃ k, LGridNear.dl5_GridNear.f k a0_0 a0_1 a1_0 a1_1 a2 = some true := by
 refine ⟨3, ?_⟩
 unfold LGridNear.dl5_GridNear.f dl5_fixed.f
 have hj : LGridNear.dl5_GridNear.j0 3 a2 true a0_0 a0_1 a1_0 a1_1 = some true := by
  simp only [LGridNear.dl5_GridNear.j0]
  rfl
 rw [Option.bind_some, if_pos rfl, goods2, Option.bind_some]
 cases h0 : goodR ⟨a0_0, a0_1⟩ <;> cases h1 : goodR ⟨a1_0, a1_1⟩
 all_goals first | exact hj | skip
 obtain ⟨x, rfl, rfl, sx⟩ := of_good h0
 obtain ⟨g, rfl, rfl, sg⟩ := of_good h1
 rw [if_pos (by rfl), kSign (by omega), Option.bind_some]
 by_cases hg : cmpQ g 0 ≤ 0
 ·rw [if_pos hg]; exact hj
 rw [if_neg hg]
 have hp : 0 < g := Rat.not_le.1 (fun h => hg ((cmpQ_le g 0).2 h))
 by_cases n1 : a2 < 0
 ·rw [if_pos n1]; exact hj
 rw [if_neg n1]
 by_cases n2 : a2 > 2
 ·rw [decide_eq_true n2]; exact hj
 rw [decide_eq_false n2]
 have sy := szR_gR x hp a2
 have hne : g ≠ 0 := by intro e; rw [e] at hp; exact Rat.lt_irrefl hp
 have hn := gR_near hp x a2
 have he : a2 = 2 → gR x g a2 - x + (gR x g a2 - x) ≤ g ∧ x - gR x g a2 + (x - gR x g a2) ≤ g := by intro e; rw [e]; exact gR_even hp x
 have sd := szR_sub (gR x g a2) x
 have sn := szR_neg (gR x g a2 - x)
 show LGridNear.dl5_GridNear.j0 (2 + 1) a2 false _ _ _ _ = _
 simp only [LGridNear.dl5_GridNear.j0]
 rw [if_neg (by decide), gRound (by omega) (by omega) (by omega) (by omega) hp, Option.bind_some, kDiv (by omega) (by omega) hne, Option.bind_some, kSub (by omega) (by omega), Option.bind_some, kSign (by omega), Option.bind_some]
 by_cases hd : cmpQ (gR x g a2 - x) 0 < 0
 ·rw [if_pos hd, kNeg (by omega), Option.bind_some]
  refine near_end hp (by omega) (by omega) sx sg (by omega) ?_ ?_ 0
  ·have := hn.2; grind
  ·intro e; have := (he e).2; grind
 ·rw [if_neg hd]
  exact near_end hp (by omega) (by omega) sx sg (by omega) hn.1 (fun e => (he e).1) 0
end Go.Proofs.YtnhpnnbjimnmlaaGreatDoor
end

section
namespace Go.Proofs.YtnhpnnbjimnmlaaGreatDoor.gridNear
open Go.ChangeShapes Go.WideShapes Go.ChangeAt Go.RowKit
set_option maxRecDepth 100000 in
theorem lifted (os : Os) (started : os.Started) (H : Type) (enc : TypeId × Value → H) :
  ReturnsInHanded {} Tryz.checked os 3 .any (fun w args => (Rows.gridNearSpec.pre enc Tryz.prog Tryz.f3 Rows.gridNearRow.domain false w args ∧ laidMetH Tryz.prog laidL w) ∧ sizedMet enc Tryz.prog Tryz.f3 (OpenSpec.ofChange Rows.gridNearSpec) false w args)
   (Rows.gridNearSpec.post enc Tryz.prog Tryz.f3 false true false false) := by
 refine wrap_shaped (C := Tryz.checked) (X := fun w _ => laidMetH Tryz.prog laidL w) (fun _ _ _ hh h => h.of_heap hh) own started (by kernel_rfl) Tryz.func3
  (ChangeSpec.witness_shaped (enc := enc) (C := Tryz.checked) (os := os) (X := fun w _ => laidMetH Tryz.prog laidL w) false (World.laidAll Tryz.prog os laidL) #[.agg #[.string ByteArray.empty, .string ByteArray.empty], .agg #[.string ByteArray.empty, .string ByteArray.empty], .int .i64 0] 8 (World.laidAll_os _ _ _) (World.shaped_of_ZipB (by kernel_rfl) (by kernel_rfl)) (by kernel_rfl) (by kernel_rfl) (by kernel_rfl) (door_met os _)) ?_
 intro W base args ds gs before hval0 hW _ hsz0 hL hsh
 have hsz : (DataW.weightsEach Tryz.prog (Tryz.f3.params.toList ++ Rows.gridNearSpec.plain.varTypes Tryz.prog) (ds ++ gs)).all (· ≤ reachBytes) = true := hsz0
 have hval : ∀ (j : Nat) t v, Tryz.f3.params[j]? = some t → args[j]? = some v → Value.okWide Tryz.prog W .any base t v := hval0
 have hW' := hW
 obtain ⟨p, q, hA0, hV, rfl, hfz, hnd⟩ := hW
 have hA : DataW.TrodAll enc Tryz.prog W 0 (fun _ => true) true Tryz.f3.params.toList args.toList ds p := hA0
 rw [Tryz.params3] at hA hval hsz
 obtain ⟨v0, vs0, d0, ds0, p0, q0, hargs, rfl, rfl, h0, r0⟩ := trodAll_cons hA
 obtain ⟨v1, vs1, d1, ds1, p1, q1, rfl, rfl, rfl, h1, r1⟩ := trodAll_cons r0
 obtain ⟨v2, vs2, d2, ds2, p2, q2, rfl, rfl, rfl, h2, r2⟩ := trodAll_cons r1
 obtain ⟨rfl, rfl, rfl⟩ := trodAll_nil r2
 obtain rfl : args = #[v0, v1, v2] := by cases args; simp_all
 obtain ⟨rfl, rfl⟩ := trodVars_none hV
 obtain ⟨a0_0, a0_1, rfl, rfl, rfl, y0_0, y0_1⟩ := open_s2 Tryz.underlying23 Tryz.underlying9 Tryz.underlying9 (by kernel_rfl) (by kernel_rfl : Tryz.prog.cellsOf 23 = 2) (hval 0 23 v0 rfl rfl) h0
 obtain ⟨a1_0, a1_1, rfl, rfl, rfl, y1_0, y1_1⟩ := open_s2 Tryz.underlying23 Tryz.underlying9 Tryz.underlying9 (by kernel_rfl) (by kernel_rfl : Tryz.prog.cellsOf 23 = 2) (hval 1 23 v1 rfl rfl) h1
 obtain ⟨a2, rfl, rfl, rfl, w2⟩ := open_int Tryz.underlying3 (hval 2 3 v2 rfl rfl) h2
 clear hA0 hval0 hsz0 hsz
 obtain ⟨k, hf⟩ := pureGridNear a0_0 a0_1 a1_0 a1_1 a2 w2
 refine (LGridNear.dl5_GridNear.calls k a0_0 a0_1 a1_0 a1_1 a2 true W (laid_of hL hsh) ⟨rfl⟩ hf).mono fun e W' ⟨he, bel⟩ => ?_
 subst he
 exact ⟨_, rfl, _, _, _, [], _, [], hW', trodAll_mk1 (shut_bool Tryz.underlying4 _), (trodAll_cons_mk (shut_s2 Tryz.underlying23 Tryz.underlying9 Tryz.underlying9 (by kernel_rfl) (by kernel_rfl : Tryz.prog.cellsOf 23 = 2) y0_0 y0_1) (trodAll_cons_mk (shut_s2 Tryz.underlying23 Tryz.underlying9 Tryz.underlying9 (by kernel_rfl) (by kernel_rfl : Tryz.prog.cellsOf 23 = 2) y1_0 y1_1) (trodAll_cons_mk (shut_int Tryz.underlying3 w2) trodAll_mk0))), rfl, bel.frame _, fun h => by cases h⟩
theorem over : Rows.GridNearSaid :=
 OpenClaim.holds_of_wide 3 Tryz.f3 rfl rfl rfl rfl rfl rfl rfl ⟨rfl, rfl, rfl, rfl, rfl⟩ rfl rfl rfl rfl rfl (by kernel_rfl) Tryz.func3 (by kernel_rfl)
  (of_decide_eq_true (by kernel_rfl)) (by unfold Func.isWrapper; first | (rw [if_pos (by decide +kernel)]; kernel_rfl) | (rw [if_neg (by decide +kernel)]; exact ⟨rfl, rfl⟩))
  (fun os started H enc _ => lifted os started H enc)
theorem proved : Rows.GridNearCardSaid :=
 Claim7.holds_tied_plain_at .later [] [.data, .data, .data, .sentinel, .sentinel] true (true, "274ca92e9a6f67e5beeb906602bb197e3a126a6cf54ca7db638eb314b6769d6f") true
  over (fun _ h => by cases h) (by kernel_rfl) (fun _ h => by cases h) gridNear_row_tie rfl ⟨rfl, rfl⟩ (by kernel_rfl) rfl
  (fun f fn hf hfn => by
   obtain rfl : f = 3 := Option.some.inj ((show Tryz.prog.funcNamed "debenture/debenturelaw05.GridNear" = some 3 by kernel_rfl).symm.trans hf) |>.symm
   obtain rfl : fn = Tryz.f3 := (Option.some.inj (Tryz.func3.symm.trans hfn)).symm
   exact ⟨by kernel_rfl, fun j t ht => by
    rw [Tryz.params3] at ht
    have hm : t ∈ [23, 23, 3] := by simpa using Array.mem_of_getElem? ht
    have hall : ([23, 23, 3].all fun u => !Tryz.prog.wantsStandIn u) = true := by kernel_rfl
    exact (show Tryz.prog.wantsStandIn t = false by simpa using List.all_eq_true.1 hall t hm)⟩)
  (by kernel_rfl)
end Go.Proofs.YtnhpnnbjimnmlaaGreatDoor.gridNear
namespace Go.Proofs.YtnhpnnbjimnmlaaGreatDoor
theorem gridNear_holds : Rows.GridNearCardSaid := gridNear.proved
#print axioms gridNear_holds
end Go.Proofs.YtnhpnnbjimnmlaaGreatDoor
end
