/-
Parts of the proof, in build order: Pz3, Pz4, Pz5, Pz, Ref3Api, Ref3Done, NumR0, Ref3Of, NumG0, GridS, GridW, Pg0, Pg1, Pg, GridApi, NumG, Pf50, Pf51, Pf52, Pf5, Fixed5, Agg, Rowb.
-/
import Derived.Test.YtnhpnnbjimnmlaaGreatDoorC1
import Derived.Test.YtnhpnnbjimnmlaaGreatDoorC4
import Derived.KernelRfl
import Derived.Test.YtnhpnnbjimnmlaaGreatDoorC3
import Derived.Test.YtnhpnnbjimnmlaaGreatDoorProg
import Derived.Below
import Derived.Deep.Draws
import Derived.Deep.AppendLies
import Derived.Maps.AppendAt
import Derived.OwnWalk
import Derived.Laws.BytesArg
import Derived.Laws.MakeOwn
import Derived.Laws.OwnMore
import Derived.Deep.OwnRows
import Derived.Tactics
import Derived.Lib.ConvBytes
import Derived.Laws.Slices
import Derived.WalkKit
import Derived.RowKit3
import Derived.Deep.LoopGhost
import Derived.Deep.QuietTactic
import Derived.BigQuiet
import Derived.WideLaws
import Derived.Deep.DeepCutAuto
import Derived.Deep.CutBlock
import Derived.Deep.RegionHeld3
import Derived.Laws.Rows
import Derived.Lib.AppendStr
import Derived.ArgAppend
import Derived.Laws.IdiomCopy
import Derived.OrdersHeld
import Derived.Laws.BitsLemmas
import Derived.RowKit
import Derived.Test.YtnhpnnbjimnmlaaGreatDoorC0
import Derived.Test.YtnhpnnbjimnmlaaGreatDoorC2
import Derived.Lib.SmallJoins
import Derived.Laws.IdiomArrays
import Derived.ChangeMaps5
import Derived.Test.YtnhpnnbjimnmlaaGreatDoorRows
import Derived.ProofKit
import Derived.OpenShut
import Derived.ShutString
import Derived.ChangeOld
import Derived.SizedLaws
import Derived.LaidMore
import Derived.LaidHandle
import Derived.MakeChecks
import Derived.Lib.LaidTab
import Derived.Stop.LaidErr
import Derived.Stop.Joined
import Derived.RowKitTokens
import Derived.JoinedOf
import Derived.JoinedAt
import Derived.ChangeVars
import Derived.ChangeSame
import Derived.LaidLaws
import Derived.HandedShaped
import Derived.Shelf.Vars
import Derived.Lay
set_option linter.unusedVariables false
set_option linter.unusedSimpArgs false
open Go.RowKit Go.Proofs.YtnhpnnbjimnmlaaGreatDoorW.PrintWords Go.Proofs.YtnhpnnbjimnmlaaGreatDoorW.PrintLast Go.Proofs.YtnhpnnbjimnmlaaGreatDoorW.PrintMore
attribute [local go_sem] max2_int min2_int max_two min_two max_three min_three max_four min_four   -- for this text's walks alone
section
namespace Go.Proofs.YtnhpnnbjimnmlaaGreatDoor.Pz
def r3_Add.j0 : Nat → Bool → ByteArray → ByteArray → ByteArray → ByteArray → Option (ByteArray × ByteArray)
 | 0, _, _, _, _, _ => none
 | k + 1, x14, x130000, x130001, x131000, x131001 => if x14 = true then (some ((⟨#[]⟩ : ByteArray), (⟨#[]⟩ : ByteArray))) else ((r2_Mul.f x130000 x131001).bind fun t134 => ((r2_Mul.f x131000 x130001).bind fun t135 => ((r2_Add.f t134 t135).bind fun t136 => ((r1_Mul.f x130001 x131001).bind fun t137 => ((r3_Make.f k t136 t137).bind fun bt138 => (some (bt138.1, bt138.2.1)))))))
def r3_Add.f (k : Nat) (a0_0 : ByteArray) (a0_1 : ByteArray) (a1_0 : ByteArray) (a1_1 : ByteArray) : Option (ByteArray × ByteArray) := (r3_May.f a0_0 a0_1).bind fun t132 => (if t132 = true then ((r3_May.f a1_0 a1_1).bind fun t133 => (r3_Add.j0 k (!t133) a0_0 a0_1 a1_0 a1_1)) else (r3_Add.j0 k true a0_0 a0_1 a1_0 a1_1))
def r3_Add.T3 : Bool × List (List Nat × List Nat) := (true, [([], []), ([0], [0]), ([], []), ([2], [2]), ([1, 3], [1, 3]), ([], []), ([5], [5]), ([], []), ([7], [7]), ([6, 8, 4], [6, 8]), ([4, 9, 9], [4, 9]), ([], []), ([11], [11]), ([], []), ([13], [13]), ([12, 14, 10], [12, 14]), ([10, 15, 15], [10, 15]), ([16], [16]), ([17], [17]), ([17], [17]), ([], []), ([20, 18, 16, 0, 1, 2, 3, 4, 5, 6, 7, 8, 9, 10, 11, 12, 13, 14, 15, 16, 17, 18, 20], [18, 20]), ([19, 21, 0, 1, 2, 3, 4, 5, 6, 7, 8, 9, 10, 11, 12, 13, 14, 15, 16, 17, 18, 19, 20, 21], [19])])
def r3_Add.B3 : List Nat := [0, 1, 0, 4, 15, 0, 32, 0, 128, 511, 1023, 0, 2048, 0, 8192, 32767, 65535, 131071, 262143, 262143, 0, 1572863, 4194303]
theorem r3_Add.tab3 : rtab .any (opsOf Tryz.f13 3) = r3_Add.T3 := by kernel_rfl
theorem r3_Add.bits3 : waitsOk r3_Add.T3.2 r3_Add.B3 = true := by kernel_rfl
set_option maxHeartbeats 8000000 in
set_option maxRecDepth 100000 in
theorem r3_Add.calls (k : Nat) (a0_0 : ByteArray) (a0_1 : ByteArray) (a1_0 : ByteArray) (a1_1 : ByteArray) (r1 : ByteArray) (r2 : ByteArray) (w : World) (h : r3_Add.f k a0_0 a0_1 a1_0 a1_1 = some (r1, r2)) :
  Calls Tryz.prog 13 #[.agg #[.string a0_0, .string a0_1], .agg #[.string a1_0, .string a1_1]] w fun e w' => e = .returned (.agg #[.string r1, .string r2]) ∧ Below w.heap.size w w' := by
 have hu23 := Tryz.underlying23; have HB := Aside0.mk (Below.refl w.heap.size w); have H := h; unfold r3_Add.f at H; clear h; have HC3 := Aside0.mk H; clear H; go_enter Tryz.func13, Tryz.ntmps13
 go_upto_region 1 with (first | ((with_reducible refine gate_dst (N := 2) rfl ?_); refine be_ 2 #[.string a0_0, .string a0_1] 23 ?_; intro gb129 hg w4 hbox hb; have BK129 := Aside0.mk (hbox); have GW129 := ge_ HB hg; have GE129 := ge_ HB hg; replace HB := bs_ HB hb; clear hb hbox hg) | ((with_reducible refine gate_dst (N := 3) rfl ?_); refine be_ 3 #[.string a1_0, .string a1_1] 23 ?_; intro gb130 hg w5 hbox hb; have BK130 := Aside0.mk (hbox); have GW130 := ge_ HB hg; have GE130 := ge_ HB hg; have NB129_130 := nl_ BK129 hg; have NB130_129 := ng_ BK129 hg; replace BK129 := kb_ BK129 hb; replace HB := bs_ HB hb; clear hb hbox hg) | ((with_reducible refine gate_dst (N := 4) rfl ?_); refine be_ 4 #[.string (⟨#[]⟩ : ByteArray), .string (⟨#[]⟩ : ByteArray)] 23 ?_; intro gb131 hg w6 hbox hb; have BK131 := Aside0.mk (hbox); have GW131 := ge_ HB hg; have GE131 := ge_ HB hg; have NB129_131 := nl_ BK129 hg; have NB131_129 := ng_ BK129 hg; have NB130_131 := nl_ BK130 hg; have NB131_130 := ng_ BK130 hg; replace BK129 := kb_ BK129 hb; replace BK130 := kb_ BK130 hb; replace HB := bs_ HB hb; clear hb hbox hg))
 (try simp only [Act.put, List.setIfInBounds_toArray, List.set_cons_zero, List.set_cons_succ])
 go_cut [14] (fun v14 wc => ∃ (kq : Nat) (x14_2 : Bool), v14 = .bool x14_2 ∧ Aside0 (r3_Add.j0 kq x14_2 a0_0 a0_1 a1_0 a1_1 = some (r1, r2)) ∧ Aside0 (kq ≤ k) ∧ Aside0 (wc.heap[gb129]? = some (.cells #[.string a0_0, .string a0_1] 23 (0, 0))) ∧ Aside0 (wc.heap[gb130]? = some (.cells #[.string a1_0, .string a1_1] 23 (0, 0))) ∧ Aside0 (wc.heap[gb131]? = some (.cells #[.string (⟨#[]⟩ : ByteArray), .string (⟨#[]⟩ : ByteArray)] 23 (0, 0))) ∧ Aside0 (Below w.heap.size w wc))
 case first =>
  have H := HC3.out; clear HC3; obtain ⟨t132, A7, H⟩ := bi_ H; by_cases c8 : t132 = true
  ·subst c8; rw [if_pos rfl] at H; obtain ⟨t133, A9, H⟩ := bi_ H; have H' := Aside0.mk H; clear H; have hnb10 := NB129_130.out; have hnc10 := NB130_129.out; have hnb11 := NB129_131.out; have hnc11 := NB131_129.out; have hcz12_0 := bc_ BK129 0 rfl; have hcz12_1 := bc_ BK129 1 rfl; have hfz12_0 := blk_frozen BK129.out 0; have hfz12_1 := blk_frozen BK129.out 1
   go_wp2_with (first | (refine gl_ 8 Tryz.func11 #[.agg #[.string a0_0, .string a0_1]] ?_; refine mo_ (r3_May.calls a0_0 a0_1 true _ A7.out) ?_; intro w13 hb; replace BK129 := kb_ BK129 hb; replace BK130 := kb_ BK130 hb; replace BK131 := kb_ BK131 hb; replace HB := bs_ HB hb; (try clear hb); (try clear hb2); (try clear hk); (try clear hi); have hnb14 := NB130_131.out; have hnc14 := NB131_130.out; have hcz15_0 := bc_ BK130 0 rfl; have hcz15_1 := bc_ BK130 1 rfl; have hfz15_0 := blk_frozen BK130.out 0; have hfz15_1 := blk_frozen BK130.out 1) | (go_at_call 11; (with_reducible refine (r3_May.calls a1_0 a1_1 t133 _ A9.out).mono ?_); rintro e w16 ⟨rfl, hb⟩; replace BK129 := kb_ BK129 hb; replace BK130 := kb_ BK130 hb; replace BK131 := kb_ BK131 hb; replace HB := bs_ HB hb; (try clear hb); (try clear hb2); (try clear hk); (try clear hi)))
   go_meet
   case rel => exact ⟨_, (!t133), rl_, H', ⟨by first | omega | exact Nat.le_refl _⟩, ⟨k_ BK129.out⟩, ⟨k_ BK130.out⟩, ⟨k_ BK131.out⟩, ⟨b_ HB.out⟩⟩
  ·replace c8 := Bool.eq_false_iff.mpr c8; subst c8; rw [if_neg nf_] at H; have H' := Aside0.mk H; clear H; have hnb17 := NB129_130.out; have hnc17 := NB130_129.out; have hnb18 := NB129_131.out; have hnc18 := NB131_129.out; have hcz19_0 := bc_ BK129 0 rfl; have hcz19_1 := bc_ BK129 1 rfl; have hfz19_0 := blk_frozen BK129.out 0; have hfz19_1 := blk_frozen BK129.out 1
   go_wp2_with (first | (refine gl_ 8 Tryz.func11 #[.agg #[.string a0_0, .string a0_1]] ?_; refine mo_ (r3_May.calls a0_0 a0_1 false _ A7.out) ?_; intro w20 hb; replace BK129 := kb_ BK129 hb; replace BK130 := kb_ BK130 hb; replace BK131 := kb_ BK131 hb; replace HB := bs_ HB hb; (try clear hb); (try clear hb2); (try clear hk); (try clear hi)))
   go_meet
   case rel => exact ⟨_, (true), rl_, H', ⟨by first | omega | exact Nat.le_refl _⟩, ⟨k_ BK129.out⟩, ⟨k_ BK130.out⟩, ⟨k_ BK131.out⟩, ⟨b_ HB.out⟩⟩
 case rest =>
  clear HC3; (try clear c1); (try clear p2); (try clear c8); (try clear c10); (try clear c11); (try clear c13); (try clear c14); (try clear c17); (try clear c18); (try clear hcz12_0); (try clear hcz12_1); (try clear hcz15_0); (try clear hcz15_1); (try clear hcz19_0); (try clear hcz19_1); (try clear hfz12_0); (try clear hfz12_1); (try clear hfz15_0); (try clear hfz15_1); (try clear hfz19_0); (try clear hfz19_1); obtain ⟨kq, x14_2, rfl, HA, HJ2, BK129, BK130, BK131, HB⟩ := hcut
  cases kq with
  | zero => exact absurd HA.out (by simp [r3_Add.j0])
  | succ kj2 =>
   have H := HA.out; clear HA; simp only [r3_Add.j0] at H; by_cases c21 : x14_2 = true
   ·subst c21; rw [if_pos rfl] at H; simp only [Option.some.injEq, Prod.mk.injEq] at H; obtain ⟨rfl, rfl⟩ := H; have hnb22 := NB131_129.out; have hnc22 := NB129_131.out; have hnb23 := NB131_130.out; have hnc23 := NB130_131.out; have hcz24_0 := bc_ BK131 0 rfl; have hcz24_1 := bc_ BK131 1 rfl; have hfz24_0 := blk_frozen BK131.out 0; have hfz24_1 := blk_frozen BK131.out 1; go_wp2; refine bodyPost_ret (results_cell_row rfl _ _ gb131 23 #[.string (⟨#[]⟩ : ByteArray), .string (⟨#[]⟩ : ByteArray)] (0, 0) _ rfl (rp_ BK131.out) Tryz.underlying23 rfl (by kernel_rfl)) rfl ?_; exact ⟨er_, b_ HB.out⟩
   ·replace c21 := Bool.eq_false_iff.mpr c21; subst c21; rw [if_neg nf_] at H; obtain ⟨t134, A25, H⟩ := bi_ H; obtain ⟨t135, A26, H⟩ := bi_ H; obtain ⟨t136, A27, H⟩ := bi_ H; obtain ⟨t137, A28, H⟩ := bi_ H; obtain ⟨⟨t138, t139, t140⟩, A29, H⟩ := bi_ H; (try dsimp only at H); simp only [Option.some.injEq, Prod.mk.injEq] at H; obtain ⟨rfl, rfl⟩ := H
    try go_wp2
    replace BK129 := Aside0.mk (blk_drew BK129.out); replace BK130 := Aside0.mk (blk_drew BK130.out); replace BK131 := Aside0.mk (blk_drew BK131.out); replace HB := Aside0.mk (below_drew1 HB.out); refine sa_ 23 (fun w' => w'.cell? ⟨gb129, 0, none⟩ = some (.string a0_0) ∧ w'.cell? ⟨gb129, 1, none⟩ = some (.string a0_1) ∧ w'.cell? ⟨gb130, 0, none⟩ = some (.string a1_0) ∧ w'.cell? ⟨gb130, 1, none⟩ = some (.string a1_1)) (fun hHeld => ?_); refine with_tabW r3_Add.tab3 r3_Add.bits3 (fun HT_ HW_ => ?_); generalize wc.drew = w30 at BK129 BK130 BK131 HB hHeld ⊢; refine pu_ 0 17 rfl rfl HT_ ?_; refine pu_ 2 19 rfl rfl HT_ ?_; refine pu_ 5 22 rfl rfl HT_ ?_; refine pu_ 7 24 rfl rfl HT_ ?_; refine pu_ 11 28 rfl rfl HT_ ?_; refine pu_ 13 30 rfl rfl HT_ ?_; refine t4_ 1 18 rfl rfl HT_ HW_ hHeld ?_; refine t4_ 3 20 rfl rfl HT_ HW_ hHeld ?_; refine t4_ 6 23 rfl rfl HT_ HW_ hHeld ?_; refine t4_ 8 25 rfl rfl HT_ HW_ hHeld ?_; refine t4_ 12 29 rfl rfl HT_ HW_ hHeld ?_; refine t4_ 14 31 rfl rfl HT_ HW_ hHeld ?_; refine join_ (σ := Nat) 2 #[true, true, true, true, true, true, true, true, true, true, true, true, true, true, true, true, true, true, true, true, true, false, false] (fun s_ => [(21, .string t134), (26, .string t135), (27, .string t136), (32, .string t137), (33, .tuple #[.agg #[.string t138, .string t139], .bool t140]), (5, .pointer (some ⟨s_, 0, none⟩)), (16, .tuple #[.agg #[.string t138, .string t139], .bool t140]), (34, .agg #[.string t138, .string t139]), (35, .bool t140)]) (fun s_ w' => (w'.cell? ⟨gb129, 0, none⟩ = some (.string a0_0) ∧ w'.cell? ⟨gb129, 1, none⟩ = some (.string a0_1) ∧ w'.cell? ⟨gb130, 0, none⟩ = some (.string a1_0) ∧ w'.cell? ⟨gb130, 1, none⟩ = some (.string a1_1)) ∧ (w'.heap[gb129]? = some (.cells #[.string a0_0, .string a0_1] 23 (0, 0))) ∧ (w'.heap[gb130]? = some (.cells #[.string a1_0, .string a1_1] 23 (0, 0))) ∧ (w'.heap[gb131]? = some (.cells #[.string (⟨#[]⟩ : ByteArray), .string (⟨#[]⟩ : ByteArray)] 23 (0, 0))) ∧ (w'.heap[s_]? = some (.cells #[.string (⟨#[]⟩ : ByteArray), .string (⟨#[]⟩ : ByteArray)] 23 (0, 0))) ∧ (w.heap.size ≤ s_) ∧ (w.heap.size ≤ s_) ∧ (gb129 ≠ s_) ∧ (s_ ≠ gb129) ∧ (gb130 ≠ s_) ∧ (s_ ≠ gb130) ∧ (gb131 ≠ s_) ∧ (s_ ≠ gb131) ∧ (Below w.heap.size w w')) ?_ ?_; rotate_left
    ·intro hJ4_9_10_15_16_20; refine join_ (σ := Unit) 3 #[true, true, true, true, true, true, true, true, true, true, true, true, true, true, true, true, true, true, true, true, false, false, false] (fun s_ => [(21, .string t134), (26, .string t135), (27, .string t136), (32, .string t137), (33, .tuple #[.agg #[.string t138, .string t139], .bool t140]), (16, .tuple #[.agg #[.string t138, .string t139], .bool t140]), (34, .agg #[.string t138, .string t139]), (35, .bool t140)]) (fun s_ w' => (w'.cell? ⟨gb129, 0, none⟩ = some (.string a0_0) ∧ w'.cell? ⟨gb129, 1, none⟩ = some (.string a0_1) ∧ w'.cell? ⟨gb130, 0, none⟩ = some (.string a1_0) ∧ w'.cell? ⟨gb130, 1, none⟩ = some (.string a1_1)) ∧ (w'.heap[gb129]? = some (.cells #[.string a0_0, .string a0_1] 23 (0, 0))) ∧ (w'.heap[gb130]? = some (.cells #[.string a1_0, .string a1_1] 23 (0, 0))) ∧ (w'.heap[gb131]? = some (.cells #[.string (⟨#[]⟩ : ByteArray), .string (⟨#[]⟩ : ByteArray)] 23 (0, 0))) ∧ (Below w.heap.size w w')) ?_ ?_; rotate_left
     ·intro hJ4_9_10_15_16; refine join_ (σ := Nat) 6 #[true, true, true, true, true, true, true, true, true, true, true, true, true, true, true, true, false, false, false, false, true, false, false] (fun s_ => [(21, .string t134), (26, .string t135), (27, .string t136), (32, .string t137), (5, .pointer (some ⟨s_, 0, none⟩))]) (fun s_ w' => (w'.cell? ⟨gb129, 0, none⟩ = some (.string a0_0) ∧ w'.cell? ⟨gb129, 1, none⟩ = some (.string a0_1) ∧ w'.cell? ⟨gb130, 0, none⟩ = some (.string a1_0) ∧ w'.cell? ⟨gb130, 1, none⟩ = some (.string a1_1)) ∧ (w'.heap[gb129]? = some (.cells #[.string a0_0, .string a0_1] 23 (0, 0))) ∧ (w'.heap[gb130]? = some (.cells #[.string a1_0, .string a1_1] 23 (0, 0))) ∧ (w'.heap[gb131]? = some (.cells #[.string (⟨#[]⟩ : ByteArray), .string (⟨#[]⟩ : ByteArray)] 23 (0, 0))) ∧ (w'.heap[s_]? = some (.cells #[.string (⟨#[]⟩ : ByteArray), .string (⟨#[]⟩ : ByteArray)] 23 (0, 0))) ∧ (w.heap.size ≤ s_) ∧ (w.heap.size ≤ s_) ∧ (gb129 ≠ s_) ∧ (s_ ≠ gb129) ∧ (gb130 ≠ s_) ∧ (s_ ≠ gb130) ∧ (gb131 ≠ s_) ∧ (s_ ≠ gb131) ∧ (Below w.heap.size w w')) ?_ ?_; rotate_left
      ·intro hJ4_9_10_15_20; refine join_ (σ := Unit) 7 #[true, true, true, true, true, true, true, true, true, true, true, true, true, true, true, true, false, false, false, false, false, false, false] (fun s_ => [(21, .string t134), (26, .string t135), (27, .string t136), (32, .string t137)]) (fun s_ w' => (w'.cell? ⟨gb129, 0, none⟩ = some (.string a0_0) ∧ w'.cell? ⟨gb129, 1, none⟩ = some (.string a0_1) ∧ w'.cell? ⟨gb130, 0, none⟩ = some (.string a1_0) ∧ w'.cell? ⟨gb130, 1, none⟩ = some (.string a1_1)) ∧ (w'.heap[gb129]? = some (.cells #[.string a0_0, .string a0_1] 23 (0, 0))) ∧ (w'.heap[gb130]? = some (.cells #[.string a1_0, .string a1_1] 23 (0, 0))) ∧ (w'.heap[gb131]? = some (.cells #[.string (⟨#[]⟩ : ByteArray), .string (⟨#[]⟩ : ByteArray)] 23 (0, 0))) ∧ (Below w.heap.size w w')) ?_ ?_; rotate_left
       ·intro hJ4_9_10_15; refine join_ (σ := Nat) 7 #[true, true, true, true, true, true, true, true, true, true, true, true, true, true, true, false, false, false, false, false, true, false, false] (fun s_ => [(21, .string t134), (26, .string t135), (27, .string t136), (5, .pointer (some ⟨s_, 0, none⟩))]) (fun s_ w' => (w'.cell? ⟨gb129, 0, none⟩ = some (.string a0_0) ∧ w'.cell? ⟨gb129, 1, none⟩ = some (.string a0_1) ∧ w'.cell? ⟨gb130, 0, none⟩ = some (.string a1_0) ∧ w'.cell? ⟨gb130, 1, none⟩ = some (.string a1_1)) ∧ (w'.heap[gb129]? = some (.cells #[.string a0_0, .string a0_1] 23 (0, 0))) ∧ (w'.heap[gb130]? = some (.cells #[.string a1_0, .string a1_1] 23 (0, 0))) ∧ (w'.heap[gb131]? = some (.cells #[.string (⟨#[]⟩ : ByteArray), .string (⟨#[]⟩ : ByteArray)] 23 (0, 0))) ∧ (w'.heap[s_]? = some (.cells #[.string (⟨#[]⟩ : ByteArray), .string (⟨#[]⟩ : ByteArray)] 23 (0, 0))) ∧ (w.heap.size ≤ s_) ∧ (w.heap.size ≤ s_) ∧ (gb129 ≠ s_) ∧ (s_ ≠ gb129) ∧ (gb130 ≠ s_) ∧ (s_ ≠ gb130) ∧ (gb131 ≠ s_) ∧ (s_ ≠ gb131) ∧ (Below w.heap.size w w')) ?_ ?_; rotate_left
        ·intro hJ4_9_10_20; refine join_ (σ := Unit) 8 #[true, true, true, true, true, true, true, true, true, true, true, true, true, true, true, false, false, false, false, false, false, false, false] (fun s_ => [(21, .string t134), (26, .string t135), (27, .string t136)]) (fun s_ w' => (w'.cell? ⟨gb129, 0, none⟩ = some (.string a0_0) ∧ w'.cell? ⟨gb129, 1, none⟩ = some (.string a0_1) ∧ w'.cell? ⟨gb130, 0, none⟩ = some (.string a1_0) ∧ w'.cell? ⟨gb130, 1, none⟩ = some (.string a1_1)) ∧ (w'.heap[gb129]? = some (.cells #[.string a0_0, .string a0_1] 23 (0, 0))) ∧ (w'.heap[gb130]? = some (.cells #[.string a1_0, .string a1_1] 23 (0, 0))) ∧ (w'.heap[gb131]? = some (.cells #[.string (⟨#[]⟩ : ByteArray), .string (⟨#[]⟩ : ByteArray)] 23 (0, 0))) ∧ (Below w.heap.size w w')) ?_ ?_; rotate_left
         ·intro hJ4_9_10; refine join_ (σ := Nat) 8 #[true, true, true, true, true, true, true, true, true, true, false, true, true, true, true, false, false, false, false, false, true, false, false] (fun s_ => [(21, .string t134), (26, .string t135), (5, .pointer (some ⟨s_, 0, none⟩))]) (fun s_ w' => (w'.cell? ⟨gb129, 0, none⟩ = some (.string a0_0) ∧ w'.cell? ⟨gb129, 1, none⟩ = some (.string a0_1) ∧ w'.cell? ⟨gb130, 0, none⟩ = some (.string a1_0) ∧ w'.cell? ⟨gb130, 1, none⟩ = some (.string a1_1)) ∧ (w'.heap[gb129]? = some (.cells #[.string a0_0, .string a0_1] 23 (0, 0))) ∧ (w'.heap[gb130]? = some (.cells #[.string a1_0, .string a1_1] 23 (0, 0))) ∧ (w'.heap[gb131]? = some (.cells #[.string (⟨#[]⟩ : ByteArray), .string (⟨#[]⟩ : ByteArray)] 23 (0, 0))) ∧ (w'.heap[s_]? = some (.cells #[.string (⟨#[]⟩ : ByteArray), .string (⟨#[]⟩ : ByteArray)] 23 (0, 0))) ∧ (w.heap.size ≤ s_) ∧ (w.heap.size ≤ s_) ∧ (gb129 ≠ s_) ∧ (s_ ≠ gb129) ∧ (gb130 ≠ s_) ∧ (s_ ≠ gb130) ∧ (gb131 ≠ s_) ∧ (s_ ≠ gb131) ∧ (Below w.heap.size w w')) ?_ ?_; rotate_left
          ·intro hJ4_9_20; refine join_ (σ := Unit) 9 #[true, true, true, true, true, true, true, true, true, true, false, true, true, true, true, false, false, false, false, false, false, false, false] (fun s_ => [(21, .string t134), (26, .string t135)]) (fun s_ w' => (w'.cell? ⟨gb129, 0, none⟩ = some (.string a0_0) ∧ w'.cell? ⟨gb129, 1, none⟩ = some (.string a0_1) ∧ w'.cell? ⟨gb130, 0, none⟩ = some (.string a1_0) ∧ w'.cell? ⟨gb130, 1, none⟩ = some (.string a1_1)) ∧ (w'.heap[gb129]? = some (.cells #[.string a0_0, .string a0_1] 23 (0, 0))) ∧ (w'.heap[gb130]? = some (.cells #[.string a1_0, .string a1_1] 23 (0, 0))) ∧ (w'.heap[gb131]? = some (.cells #[.string (⟨#[]⟩ : ByteArray), .string (⟨#[]⟩ : ByteArray)] 23 (0, 0))) ∧ (Below w.heap.size w w')) ?_ ?_; rotate_left
           ·intro hJ4_9; refine join_ (σ := Nat) 9 #[true, true, true, true, true, true, true, true, true, false, false, true, true, true, true, false, false, false, false, false, true, false, false] (fun s_ => [(21, .string t134), (5, .pointer (some ⟨s_, 0, none⟩))]) (fun s_ w' => (w'.cell? ⟨gb129, 0, none⟩ = some (.string a0_0) ∧ w'.cell? ⟨gb129, 1, none⟩ = some (.string a0_1) ∧ w'.cell? ⟨gb130, 0, none⟩ = some (.string a1_0) ∧ w'.cell? ⟨gb130, 1, none⟩ = some (.string a1_1)) ∧ (w'.heap[gb129]? = some (.cells #[.string a0_0, .string a0_1] 23 (0, 0))) ∧ (w'.heap[gb130]? = some (.cells #[.string a1_0, .string a1_1] 23 (0, 0))) ∧ (w'.heap[gb131]? = some (.cells #[.string (⟨#[]⟩ : ByteArray), .string (⟨#[]⟩ : ByteArray)] 23 (0, 0))) ∧ (w'.heap[s_]? = some (.cells #[.string (⟨#[]⟩ : ByteArray), .string (⟨#[]⟩ : ByteArray)] 23 (0, 0))) ∧ (w.heap.size ≤ s_) ∧ (w.heap.size ≤ s_) ∧ (gb129 ≠ s_) ∧ (s_ ≠ gb129) ∧ (gb130 ≠ s_) ∧ (s_ ≠ gb130) ∧ (gb131 ≠ s_) ∧ (s_ ≠ gb131) ∧ (Below w.heap.size w w')) ?_ ?_; rotate_left
            ·intro hJ4_20; refine join_ (σ := Unit) 10 #[true, true, true, true, true, true, true, true, true, false, false, true, true, true, true, false, false, false, false, false, false, false, false] (fun s_ => [(21, .string t134)]) (fun s_ w' => (w'.cell? ⟨gb129, 0, none⟩ = some (.string a0_0) ∧ w'.cell? ⟨gb129, 1, none⟩ = some (.string a0_1) ∧ w'.cell? ⟨gb130, 0, none⟩ = some (.string a1_0) ∧ w'.cell? ⟨gb130, 1, none⟩ = some (.string a1_1)) ∧ (w'.heap[gb129]? = some (.cells #[.string a0_0, .string a0_1] 23 (0, 0))) ∧ (w'.heap[gb130]? = some (.cells #[.string a1_0, .string a1_1] 23 (0, 0))) ∧ (w'.heap[gb131]? = some (.cells #[.string (⟨#[]⟩ : ByteArray), .string (⟨#[]⟩ : ByteArray)] 23 (0, 0))) ∧ (Below w.heap.size w w')) ?_ ?_; rotate_left
             ·intro hJ4; refine join_ (σ := Nat) 10 #[true, true, true, true, false, true, true, true, true, false, false, true, true, true, true, false, false, false, false, false, true, false, false] (fun s_ => [(5, .pointer (some ⟨s_, 0, none⟩))]) (fun s_ w' => (w'.cell? ⟨gb129, 0, none⟩ = some (.string a0_0) ∧ w'.cell? ⟨gb129, 1, none⟩ = some (.string a0_1) ∧ w'.cell? ⟨gb130, 0, none⟩ = some (.string a1_0) ∧ w'.cell? ⟨gb130, 1, none⟩ = some (.string a1_1)) ∧ (w'.heap[gb129]? = some (.cells #[.string a0_0, .string a0_1] 23 (0, 0))) ∧ (w'.heap[gb130]? = some (.cells #[.string a1_0, .string a1_1] 23 (0, 0))) ∧ (w'.heap[gb131]? = some (.cells #[.string (⟨#[]⟩ : ByteArray), .string (⟨#[]⟩ : ByteArray)] 23 (0, 0))) ∧ (w'.heap[s_]? = some (.cells #[.string (⟨#[]⟩ : ByteArray), .string (⟨#[]⟩ : ByteArray)] 23 (0, 0))) ∧ (w.heap.size ≤ s_) ∧ (w.heap.size ≤ s_) ∧ (gb129 ≠ s_) ∧ (s_ ≠ gb129) ∧ (gb130 ≠ s_) ∧ (s_ ≠ gb130) ∧ (gb131 ≠ s_) ∧ (s_ ≠ gb131) ∧ (Below w.heap.size w w')) ?_ ?_; rotate_left
              ·intro hJ20; refine two_ (i := 4) (j := 20) (Ni := some 21) (Nj := some 5) #[true, true, true, true, true, true, true, true, true, false, false, true, true, true, true, false, false, false, false, false, false, false, false] #[true, true, true, true, false, true, true, true, true, false, false, true, true, true, true, false, false, false, false, false, true, false, false] rfl rfl rfl rfl (two_of HT_.out (by kernel_rfl)) (by decide) (by decide) (fun K hK => ?_) (fun K hK => ?_)
               ·skip; refine gs_ Tryz.func25 #[.string a0_0, .string a1_1] ?_; refine mo_ (r2_Mul.calls a0_0 a1_1 t134 _ A25.out) ?_; intro w31 hb; replace BK129 := kb_ BK129 hb; replace BK130 := kb_ BK130 hb; replace BK131 := kb_ BK131 hb; replace HB := bs_ HB hb; (try clear hb); refine hk_ hK (fun hHeld => ?_); clear hK K; refine nm_ ?_; exact norm_ pa_ (hJ4 () _ ⟨hHeld, (k_ BK129.out), (k_ BK130.out), (k_ BK131.out), (b_ HB.out)⟩)
               ·skip; refine box_step ?hg (N := 5) ?hd (cs := #[.string (⟨#[]⟩ : ByteArray), .string (⟨#[]⟩ : ByteArray)]) (t := 23) ?hr ?_; (case hd => rfl); (case hg => rfl); (case hr => first | (go_simp; done) | (go_simp; rfl)); intro gb141 hg w31 hbox hb; have BK141 := Aside0.mk (hbox); have GW141 := ge_ HB hg; have GE141 := ge_ HB hg; have NB129_141 := nl_ BK129 hg; have NB141_129 := ng_ BK129 hg; have NB130_141 := nl_ BK130 hg; have NB141_130 := ng_ BK130 hg; have NB131_141 := nl_ BK131 hg; have NB141_131 := ng_ BK131 hg; replace BK129 := kb_ BK129 hb; replace BK130 := kb_ BK130 hb; replace BK131 := kb_ BK131 hb; replace HB := bs_ HB hb; clear hb hbox hg; refine hk_ hK (fun hHeld => ?_); clear hK K; refine nm_ ?_; exact norm_ pa_ (hJ20 (gb141) _ ⟨hHeld, (k_ BK129.out), (k_ BK130.out), (k_ BK131.out), (k_ BK141.out), GW141.out, GE141.out, NB129_141.out, NB141_129.out, NB130_141.out, NB141_130.out, NB131_141.out, NB141_131.out, (b_ HB.out)⟩)
              ·skip; rintro gb141 w32 ⟨hS_, h0_, h1_, h2_, h3_, h4_, h5_, h6_, h7_, h8_, h9_, h10_, h11_, h12_⟩; have n0_ : Aside0 (w32.heap[gb129]? = some (.cells #[.string a0_0, .string a0_1] 23 (0, 0))) := ⟨h0_⟩; have n1_ : Aside0 (w32.heap[gb130]? = some (.cells #[.string a1_0, .string a1_1] 23 (0, 0))) := ⟨h1_⟩; have n2_ : Aside0 (w32.heap[gb131]? = some (.cells #[.string (⟨#[]⟩ : ByteArray), .string (⟨#[]⟩ : ByteArray)] 23 (0, 0))) := ⟨h2_⟩; have n3_ : Aside0 (w32.heap[gb141]? = some (.cells #[.string (⟨#[]⟩ : ByteArray), .string (⟨#[]⟩ : ByteArray)] 23 (0, 0))) := ⟨h3_⟩; have n4_ : Aside0 (w.heap.size ≤ gb141) := ⟨h4_⟩; have n5_ : Aside0 (w.heap.size ≤ gb141) := ⟨h5_⟩; have n6_ : Aside0 (gb129 ≠ gb141) := ⟨h6_⟩; have n7_ : Aside0 (gb141 ≠ gb129) := ⟨h7_⟩; have n8_ : Aside0 (gb130 ≠ gb141) := ⟨h8_⟩; have n9_ : Aside0 (gb141 ≠ gb130) := ⟨h9_⟩; have n10_ : Aside0 (gb131 ≠ gb141) := ⟨h10_⟩; have n11_ : Aside0 (gb141 ≠ gb131) := ⟨h11_⟩; have n12_ : Aside0 (Below w.heap.size w w32) := ⟨h12_⟩; clear BK129; clear BK130; clear BK131; clear HB; clear h0_ h1_ h2_ h3_ h4_ h5_ h6_ h7_ h8_ h9_ h10_ h11_ h12_; have BK129 := n0_; have BK130 := n1_; have BK131 := n2_; have BK141 := n3_; have GW141 := n4_; have GE141 := n5_; have NB129_141 := n6_; have NB141_129 := n7_; have NB130_141 := n8_; have NB141_130 := n9_; have NB131_141 := n10_; have NB141_131 := n11_; have HB := n12_; clear n0_ n1_ n2_ n3_ n4_ n5_ n6_ n7_ n8_ n9_ n10_ n11_ n12_; have hHeld : w32.cell? ⟨gb129, 0, none⟩ = some (.string a0_0) ∧ w32.cell? ⟨gb129, 1, none⟩ = some (.string a0_1) ∧ w32.cell? ⟨gb130, 0, none⟩ = some (.string a1_0) ∧ w32.cell? ⟨gb130, 1, none⟩ = some (.string a1_1) := hS_; refine norm_ (a' := ?_) ?_ ?_; rotate_left
               ·simp only [putAll, Act.put, List.setIfInBounds_toArray, List.set_cons_zero, List.set_cons_succ]
                rfl
               refine on_ 4 (some 21) rfl rfl HT_ (fun K hK => ?_); refine gs_ Tryz.func25 #[.string a0_0, .string a1_1] ?_; refine mo_ (r2_Mul.calls a0_0 a1_1 t134 _ A25.out) ?_; intro w33 hb; replace BK129 := kb_ BK129 hb; replace BK130 := kb_ BK130 hb; replace BK131 := kb_ BK131 hb; replace BK141 := kb_ BK141 hb; replace HB := bs_ HB hb; (try clear hb); refine hk_ hK (fun hHeld => ?_); clear hK K; refine nm_ ?_; exact norm_ pa_ (hJ4_20 (gb141) _ ⟨hHeld, (k_ BK129.out), (k_ BK130.out), (k_ BK131.out), (k_ BK141.out), GW141.out, GE141.out, NB129_141.out, NB141_129.out, NB130_141.out, NB141_130.out, NB131_141.out, NB141_131.out, (b_ HB.out)⟩)
             ·skip; rintro _ w32 ⟨hS_, h0_, h1_, h2_, h3_⟩; have n0_ : Aside0 (w32.heap[gb129]? = some (.cells #[.string a0_0, .string a0_1] 23 (0, 0))) := ⟨h0_⟩; have n1_ : Aside0 (w32.heap[gb130]? = some (.cells #[.string a1_0, .string a1_1] 23 (0, 0))) := ⟨h1_⟩; have n2_ : Aside0 (w32.heap[gb131]? = some (.cells #[.string (⟨#[]⟩ : ByteArray), .string (⟨#[]⟩ : ByteArray)] 23 (0, 0))) := ⟨h2_⟩; have n3_ : Aside0 (Below w.heap.size w w32) := ⟨h3_⟩; clear BK129; clear BK130; clear BK131; clear HB; clear h0_ h1_ h2_ h3_; have BK129 := n0_; have BK130 := n1_; have BK131 := n2_; have HB := n3_; clear n0_ n1_ n2_ n3_; have hHeld : w32.cell? ⟨gb129, 0, none⟩ = some (.string a0_0) ∧ w32.cell? ⟨gb129, 1, none⟩ = some (.string a0_1) ∧ w32.cell? ⟨gb130, 0, none⟩ = some (.string a1_0) ∧ w32.cell? ⟨gb130, 1, none⟩ = some (.string a1_1) := hS_; refine norm_ (a' := ?_) ?_ ?_; rotate_left
              ·simp only [putAll, Act.put, List.setIfInBounds_toArray, List.set_cons_zero, List.set_cons_succ]
               rfl
              refine two_ (i := 9) (j := 20) (Ni := some 26) (Nj := some 5) #[true, true, true, true, true, true, true, true, true, true, false, true, true, true, true, false, false, false, false, false, false, false, false] #[true, true, true, true, true, true, true, true, true, false, false, true, true, true, true, false, false, false, false, false, true, false, false] rfl rfl rfl rfl (two_of HT_.out (by kernel_rfl)) (by decide) (by decide) (fun K hK => ?_) (fun K hK => ?_)
              ·skip; refine gs_ Tryz.func25 #[.string a1_0, .string a0_1] ?_; refine mo_ (r2_Mul.calls a1_0 a0_1 t135 _ A26.out) ?_; intro w33 hb; replace BK129 := kb_ BK129 hb; replace BK130 := kb_ BK130 hb; replace BK131 := kb_ BK131 hb; replace HB := bs_ HB hb; (try clear hb); refine hk_ hK (fun hHeld => ?_); clear hK K; refine nm_ ?_; exact norm_ pa_ (hJ4_9 () _ ⟨hHeld, (k_ BK129.out), (k_ BK130.out), (k_ BK131.out), (b_ HB.out)⟩)
              ·skip; refine box_step ?hg (N := 5) ?hd (cs := #[.string (⟨#[]⟩ : ByteArray), .string (⟨#[]⟩ : ByteArray)]) (t := 23) ?hr ?_; (case hd => rfl); (case hg => rfl); (case hr => first | (go_simp; done) | (go_simp; rfl)); intro gb141 hg w33 hbox hb; have BK141 := Aside0.mk (hbox); have GW141 := ge_ HB hg; have GE141 := ge_ HB hg; have NB129_141 := nl_ BK129 hg; have NB141_129 := ng_ BK129 hg; have NB130_141 := nl_ BK130 hg; have NB141_130 := ng_ BK130 hg; have NB131_141 := nl_ BK131 hg; have NB141_131 := ng_ BK131 hg; replace BK129 := kb_ BK129 hb; replace BK130 := kb_ BK130 hb; replace BK131 := kb_ BK131 hb; replace HB := bs_ HB hb; clear hb hbox hg; refine hk_ hK (fun hHeld => ?_); clear hK K; refine nm_ ?_; exact norm_ pa_ (hJ4_20 (gb141) _ ⟨hHeld, (k_ BK129.out), (k_ BK130.out), (k_ BK131.out), (k_ BK141.out), GW141.out, GE141.out, NB129_141.out, NB141_129.out, NB130_141.out, NB141_130.out, NB131_141.out, NB141_131.out, (b_ HB.out)⟩)
            ·skip; rintro gb141 w33 ⟨hS_, h0_, h1_, h2_, h3_, h4_, h5_, h6_, h7_, h8_, h9_, h10_, h11_, h12_⟩; have n0_ : Aside0 (w33.heap[gb129]? = some (.cells #[.string a0_0, .string a0_1] 23 (0, 0))) := ⟨h0_⟩; have n1_ : Aside0 (w33.heap[gb130]? = some (.cells #[.string a1_0, .string a1_1] 23 (0, 0))) := ⟨h1_⟩; have n2_ : Aside0 (w33.heap[gb131]? = some (.cells #[.string (⟨#[]⟩ : ByteArray), .string (⟨#[]⟩ : ByteArray)] 23 (0, 0))) := ⟨h2_⟩; have n3_ : Aside0 (w33.heap[gb141]? = some (.cells #[.string (⟨#[]⟩ : ByteArray), .string (⟨#[]⟩ : ByteArray)] 23 (0, 0))) := ⟨h3_⟩; have n4_ : Aside0 (w.heap.size ≤ gb141) := ⟨h4_⟩; have n5_ : Aside0 (w.heap.size ≤ gb141) := ⟨h5_⟩; have n6_ : Aside0 (gb129 ≠ gb141) := ⟨h6_⟩; have n7_ : Aside0 (gb141 ≠ gb129) := ⟨h7_⟩; have n8_ : Aside0 (gb130 ≠ gb141) := ⟨h8_⟩; have n9_ : Aside0 (gb141 ≠ gb130) := ⟨h9_⟩; have n10_ : Aside0 (gb131 ≠ gb141) := ⟨h10_⟩; have n11_ : Aside0 (gb141 ≠ gb131) := ⟨h11_⟩; have n12_ : Aside0 (Below w.heap.size w w33) := ⟨h12_⟩; clear BK129; clear BK130; clear BK131; clear HB; clear h0_ h1_ h2_ h3_ h4_ h5_ h6_ h7_ h8_ h9_ h10_ h11_ h12_; have BK129 := n0_; have BK130 := n1_; have BK131 := n2_; have BK141 := n3_; have GW141 := n4_; have GE141 := n5_; have NB129_141 := n6_; have NB141_129 := n7_; have NB130_141 := n8_; have NB141_130 := n9_; have NB131_141 := n10_; have NB141_131 := n11_; have HB := n12_; clear n0_ n1_ n2_ n3_ n4_ n5_ n6_ n7_ n8_ n9_ n10_ n11_ n12_; have hHeld : w33.cell? ⟨gb129, 0, none⟩ = some (.string a0_0) ∧ w33.cell? ⟨gb129, 1, none⟩ = some (.string a0_1) ∧ w33.cell? ⟨gb130, 0, none⟩ = some (.string a1_0) ∧ w33.cell? ⟨gb130, 1, none⟩ = some (.string a1_1) := hS_; refine norm_ (a' := ?_) ?_ ?_; rotate_left
             ·simp only [putAll, Act.put, List.setIfInBounds_toArray, List.set_cons_zero, List.set_cons_succ]
              rfl
             refine on_ 9 (some 26) rfl rfl HT_ (fun K hK => ?_); refine gs_ Tryz.func25 #[.string a1_0, .string a0_1] ?_; refine mo_ (r2_Mul.calls a1_0 a0_1 t135 _ A26.out) ?_; intro w34 hb; replace BK129 := kb_ BK129 hb; replace BK130 := kb_ BK130 hb; replace BK131 := kb_ BK131 hb; replace BK141 := kb_ BK141 hb; replace HB := bs_ HB hb; (try clear hb); refine hk_ hK (fun hHeld => ?_); clear hK K; refine nm_ ?_; exact norm_ pa_ (hJ4_9_20 (gb141) _ ⟨hHeld, (k_ BK129.out), (k_ BK130.out), (k_ BK131.out), (k_ BK141.out), GW141.out, GE141.out, NB129_141.out, NB141_129.out, NB130_141.out, NB141_130.out, NB131_141.out, NB141_131.out, (b_ HB.out)⟩)
           ·skip; rintro _ w33 ⟨hS_, h0_, h1_, h2_, h3_⟩; have n0_ : Aside0 (w33.heap[gb129]? = some (.cells #[.string a0_0, .string a0_1] 23 (0, 0))) := ⟨h0_⟩; have n1_ : Aside0 (w33.heap[gb130]? = some (.cells #[.string a1_0, .string a1_1] 23 (0, 0))) := ⟨h1_⟩; have n2_ : Aside0 (w33.heap[gb131]? = some (.cells #[.string (⟨#[]⟩ : ByteArray), .string (⟨#[]⟩ : ByteArray)] 23 (0, 0))) := ⟨h2_⟩; have n3_ : Aside0 (Below w.heap.size w w33) := ⟨h3_⟩; clear BK129; clear BK130; clear BK131; clear HB; clear h0_ h1_ h2_ h3_; have BK129 := n0_; have BK130 := n1_; have BK131 := n2_; have HB := n3_; clear n0_ n1_ n2_ n3_; have hHeld : w33.cell? ⟨gb129, 0, none⟩ = some (.string a0_0) ∧ w33.cell? ⟨gb129, 1, none⟩ = some (.string a0_1) ∧ w33.cell? ⟨gb130, 0, none⟩ = some (.string a1_0) ∧ w33.cell? ⟨gb130, 1, none⟩ = some (.string a1_1) := hS_; refine norm_ (a' := ?_) ?_ ?_; rotate_left
            ·simp only [putAll, Act.put, List.setIfInBounds_toArray, List.set_cons_zero, List.set_cons_succ]
             rfl
            refine two_ (i := 10) (j := 20) (Ni := some 27) (Nj := some 5) #[true, true, true, true, true, true, true, true, true, true, true, true, true, true, true, false, false, false, false, false, false, false, false] #[true, true, true, true, true, true, true, true, true, true, false, true, true, true, true, false, false, false, false, false, true, false, false] rfl rfl rfl rfl (two_of HT_.out (by kernel_rfl)) (by decide) (by decide) (fun K hK => ?_) (fun K hK => ?_)
            ·skip; refine gs_ Tryz.func31 #[.string t134, .string t135] ?_; refine mo_ (r2_Add.calls t134 t135 t136 _ A27.out) ?_; intro w34 hb; replace BK129 := kb_ BK129 hb; replace BK130 := kb_ BK130 hb; replace BK131 := kb_ BK131 hb; replace HB := bs_ HB hb; (try clear hb); refine hk_ hK (fun hHeld => ?_); clear hK K; refine nm_ ?_; exact norm_ pa_ (hJ4_9_10 () _ ⟨hHeld, (k_ BK129.out), (k_ BK130.out), (k_ BK131.out), (b_ HB.out)⟩)
            ·skip; refine box_step ?hg (N := 5) ?hd (cs := #[.string (⟨#[]⟩ : ByteArray), .string (⟨#[]⟩ : ByteArray)]) (t := 23) ?hr ?_; (case hd => rfl); (case hg => rfl); (case hr => first | (go_simp; done) | (go_simp; rfl)); intro gb141 hg w34 hbox hb; have BK141 := Aside0.mk (hbox); have GW141 := ge_ HB hg; have GE141 := ge_ HB hg; have NB129_141 := nl_ BK129 hg; have NB141_129 := ng_ BK129 hg; have NB130_141 := nl_ BK130 hg; have NB141_130 := ng_ BK130 hg; have NB131_141 := nl_ BK131 hg; have NB141_131 := ng_ BK131 hg; replace BK129 := kb_ BK129 hb; replace BK130 := kb_ BK130 hb; replace BK131 := kb_ BK131 hb; replace HB := bs_ HB hb; clear hb hbox hg; refine hk_ hK (fun hHeld => ?_); clear hK K; refine nm_ ?_; exact norm_ pa_ (hJ4_9_20 (gb141) _ ⟨hHeld, (k_ BK129.out), (k_ BK130.out), (k_ BK131.out), (k_ BK141.out), GW141.out, GE141.out, NB129_141.out, NB141_129.out, NB130_141.out, NB141_130.out, NB131_141.out, NB141_131.out, (b_ HB.out)⟩)
          ·skip; rintro gb141 w34 ⟨hS_, h0_, h1_, h2_, h3_, h4_, h5_, h6_, h7_, h8_, h9_, h10_, h11_, h12_⟩; have n0_ : Aside0 (w34.heap[gb129]? = some (.cells #[.string a0_0, .string a0_1] 23 (0, 0))) := ⟨h0_⟩; have n1_ : Aside0 (w34.heap[gb130]? = some (.cells #[.string a1_0, .string a1_1] 23 (0, 0))) := ⟨h1_⟩; have n2_ : Aside0 (w34.heap[gb131]? = some (.cells #[.string (⟨#[]⟩ : ByteArray), .string (⟨#[]⟩ : ByteArray)] 23 (0, 0))) := ⟨h2_⟩; have n3_ : Aside0 (w34.heap[gb141]? = some (.cells #[.string (⟨#[]⟩ : ByteArray), .string (⟨#[]⟩ : ByteArray)] 23 (0, 0))) := ⟨h3_⟩; have n4_ : Aside0 (w.heap.size ≤ gb141) := ⟨h4_⟩; have n5_ : Aside0 (w.heap.size ≤ gb141) := ⟨h5_⟩; have n6_ : Aside0 (gb129 ≠ gb141) := ⟨h6_⟩; have n7_ : Aside0 (gb141 ≠ gb129) := ⟨h7_⟩; have n8_ : Aside0 (gb130 ≠ gb141) := ⟨h8_⟩; have n9_ : Aside0 (gb141 ≠ gb130) := ⟨h9_⟩; have n10_ : Aside0 (gb131 ≠ gb141) := ⟨h10_⟩; have n11_ : Aside0 (gb141 ≠ gb131) := ⟨h11_⟩; have n12_ : Aside0 (Below w.heap.size w w34) := ⟨h12_⟩; clear BK129; clear BK130; clear BK131; clear HB; clear h0_ h1_ h2_ h3_ h4_ h5_ h6_ h7_ h8_ h9_ h10_ h11_ h12_; have BK129 := n0_; have BK130 := n1_; have BK131 := n2_; have BK141 := n3_; have GW141 := n4_; have GE141 := n5_; have NB129_141 := n6_; have NB141_129 := n7_; have NB130_141 := n8_; have NB141_130 := n9_; have NB131_141 := n10_; have NB141_131 := n11_; have HB := n12_; clear n0_ n1_ n2_ n3_ n4_ n5_ n6_ n7_ n8_ n9_ n10_ n11_ n12_; have hHeld : w34.cell? ⟨gb129, 0, none⟩ = some (.string a0_0) ∧ w34.cell? ⟨gb129, 1, none⟩ = some (.string a0_1) ∧ w34.cell? ⟨gb130, 0, none⟩ = some (.string a1_0) ∧ w34.cell? ⟨gb130, 1, none⟩ = some (.string a1_1) := hS_; refine norm_ (a' := ?_) ?_ ?_; rotate_left
           ·simp only [putAll, Act.put, List.setIfInBounds_toArray, List.set_cons_zero, List.set_cons_succ]
            rfl
           refine on_ 10 (some 27) rfl rfl HT_ (fun K hK => ?_); refine gs_ Tryz.func31 #[.string t134, .string t135] ?_; refine mo_ (r2_Add.calls t134 t135 t136 _ A27.out) ?_; intro w35 hb; replace BK129 := kb_ BK129 hb; replace BK130 := kb_ BK130 hb; replace BK131 := kb_ BK131 hb; replace BK141 := kb_ BK141 hb; replace HB := bs_ HB hb; (try clear hb); refine hk_ hK (fun hHeld => ?_); clear hK K; refine nm_ ?_; exact norm_ pa_ (hJ4_9_10_20 (gb141) _ ⟨hHeld, (k_ BK129.out), (k_ BK130.out), (k_ BK131.out), (k_ BK141.out), GW141.out, GE141.out, NB129_141.out, NB141_129.out, NB130_141.out, NB141_130.out, NB131_141.out, NB141_131.out, (b_ HB.out)⟩)
         ·skip; rintro _ w34 ⟨hS_, h0_, h1_, h2_, h3_⟩; have n0_ : Aside0 (w34.heap[gb129]? = some (.cells #[.string a0_0, .string a0_1] 23 (0, 0))) := ⟨h0_⟩; have n1_ : Aside0 (w34.heap[gb130]? = some (.cells #[.string a1_0, .string a1_1] 23 (0, 0))) := ⟨h1_⟩; have n2_ : Aside0 (w34.heap[gb131]? = some (.cells #[.string (⟨#[]⟩ : ByteArray), .string (⟨#[]⟩ : ByteArray)] 23 (0, 0))) := ⟨h2_⟩; have n3_ : Aside0 (Below w.heap.size w w34) := ⟨h3_⟩; clear BK129; clear BK130; clear BK131; clear HB; clear h0_ h1_ h2_ h3_; have BK129 := n0_; have BK130 := n1_; have BK131 := n2_; have HB := n3_; clear n0_ n1_ n2_ n3_; have hHeld : w34.cell? ⟨gb129, 0, none⟩ = some (.string a0_0) ∧ w34.cell? ⟨gb129, 1, none⟩ = some (.string a0_1) ∧ w34.cell? ⟨gb130, 0, none⟩ = some (.string a1_0) ∧ w34.cell? ⟨gb130, 1, none⟩ = some (.string a1_1) := hS_; refine norm_ (a' := ?_) ?_ ?_; rotate_left
          ·simp only [putAll, Act.put, List.setIfInBounds_toArray, List.set_cons_zero, List.set_cons_succ]
           rfl
          refine two_ (i := 15) (j := 20) (Ni := some 32) (Nj := some 5) #[true, true, true, true, true, true, true, true, true, true, true, true, true, true, true, true, false, false, false, false, false, false, false] #[true, true, true, true, true, true, true, true, true, true, true, true, true, true, true, false, false, false, false, false, true, false, false] rfl rfl rfl rfl (two_of HT_.out (by kernel_rfl)) (by decide) (by decide) (fun K hK => ?_) (fun K hK => ?_)
          ·skip; refine gs_ Tryz.func32 #[.string a0_1, .string a1_1] ?_; refine mo_ (r1_Mul.calls a0_1 a1_1 t137 _ A28.out) ?_; intro w35 hb; replace BK129 := kb_ BK129 hb; replace BK130 := kb_ BK130 hb; replace BK131 := kb_ BK131 hb; replace HB := bs_ HB hb; (try clear hb); refine hk_ hK (fun hHeld => ?_); clear hK K; refine nm_ ?_; exact norm_ pa_ (hJ4_9_10_15 () _ ⟨hHeld, (k_ BK129.out), (k_ BK130.out), (k_ BK131.out), (b_ HB.out)⟩)
          ·skip; refine box_step ?hg (N := 5) ?hd (cs := #[.string (⟨#[]⟩ : ByteArray), .string (⟨#[]⟩ : ByteArray)]) (t := 23) ?hr ?_; (case hd => rfl); (case hg => rfl); (case hr => first | (go_simp; done) | (go_simp; rfl)); intro gb141 hg w35 hbox hb; have BK141 := Aside0.mk (hbox); have GW141 := ge_ HB hg; have GE141 := ge_ HB hg; have NB129_141 := nl_ BK129 hg; have NB141_129 := ng_ BK129 hg; have NB130_141 := nl_ BK130 hg; have NB141_130 := ng_ BK130 hg; have NB131_141 := nl_ BK131 hg; have NB141_131 := ng_ BK131 hg; replace BK129 := kb_ BK129 hb; replace BK130 := kb_ BK130 hb; replace BK131 := kb_ BK131 hb; replace HB := bs_ HB hb; clear hb hbox hg; refine hk_ hK (fun hHeld => ?_); clear hK K; refine nm_ ?_; exact norm_ pa_ (hJ4_9_10_20 (gb141) _ ⟨hHeld, (k_ BK129.out), (k_ BK130.out), (k_ BK131.out), (k_ BK141.out), GW141.out, GE141.out, NB129_141.out, NB141_129.out, NB130_141.out, NB141_130.out, NB131_141.out, NB141_131.out, (b_ HB.out)⟩)
        ·skip; rintro gb141 w35 ⟨hS_, h0_, h1_, h2_, h3_, h4_, h5_, h6_, h7_, h8_, h9_, h10_, h11_, h12_⟩; have n0_ : Aside0 (w35.heap[gb129]? = some (.cells #[.string a0_0, .string a0_1] 23 (0, 0))) := ⟨h0_⟩; have n1_ : Aside0 (w35.heap[gb130]? = some (.cells #[.string a1_0, .string a1_1] 23 (0, 0))) := ⟨h1_⟩; have n2_ : Aside0 (w35.heap[gb131]? = some (.cells #[.string (⟨#[]⟩ : ByteArray), .string (⟨#[]⟩ : ByteArray)] 23 (0, 0))) := ⟨h2_⟩; have n3_ : Aside0 (w35.heap[gb141]? = some (.cells #[.string (⟨#[]⟩ : ByteArray), .string (⟨#[]⟩ : ByteArray)] 23 (0, 0))) := ⟨h3_⟩; have n4_ : Aside0 (w.heap.size ≤ gb141) := ⟨h4_⟩; have n5_ : Aside0 (w.heap.size ≤ gb141) := ⟨h5_⟩; have n6_ : Aside0 (gb129 ≠ gb141) := ⟨h6_⟩; have n7_ : Aside0 (gb141 ≠ gb129) := ⟨h7_⟩; have n8_ : Aside0 (gb130 ≠ gb141) := ⟨h8_⟩; have n9_ : Aside0 (gb141 ≠ gb130) := ⟨h9_⟩; have n10_ : Aside0 (gb131 ≠ gb141) := ⟨h10_⟩; have n11_ : Aside0 (gb141 ≠ gb131) := ⟨h11_⟩; have n12_ : Aside0 (Below w.heap.size w w35) := ⟨h12_⟩; clear BK129; clear BK130; clear BK131; clear HB; clear h0_ h1_ h2_ h3_ h4_ h5_ h6_ h7_ h8_ h9_ h10_ h11_ h12_; have BK129 := n0_; have BK130 := n1_; have BK131 := n2_; have BK141 := n3_; have GW141 := n4_; have GE141 := n5_; have NB129_141 := n6_; have NB141_129 := n7_; have NB130_141 := n8_; have NB141_130 := n9_; have NB131_141 := n10_; have NB141_131 := n11_; have HB := n12_; clear n0_ n1_ n2_ n3_ n4_ n5_ n6_ n7_ n8_ n9_ n10_ n11_ n12_; have hHeld : w35.cell? ⟨gb129, 0, none⟩ = some (.string a0_0) ∧ w35.cell? ⟨gb129, 1, none⟩ = some (.string a0_1) ∧ w35.cell? ⟨gb130, 0, none⟩ = some (.string a1_0) ∧ w35.cell? ⟨gb130, 1, none⟩ = some (.string a1_1) := hS_; refine norm_ (a' := ?_) ?_ ?_; rotate_left
         ·simp only [putAll, Act.put, List.setIfInBounds_toArray, List.set_cons_zero, List.set_cons_succ]
          rfl
         refine on_ 15 (some 32) rfl rfl HT_ (fun K hK => ?_); refine gs_ Tryz.func32 #[.string a0_1, .string a1_1] ?_; refine mo_ (r1_Mul.calls a0_1 a1_1 t137 _ A28.out) ?_; intro w36 hb; replace BK129 := kb_ BK129 hb; replace BK130 := kb_ BK130 hb; replace BK131 := kb_ BK131 hb; replace BK141 := kb_ BK141 hb; replace HB := bs_ HB hb; (try clear hb); refine hk_ hK (fun hHeld => ?_); clear hK K; refine nm_ ?_; exact norm_ pa_ (hJ4_9_10_15_20 (gb141) _ ⟨hHeld, (k_ BK129.out), (k_ BK130.out), (k_ BK131.out), (k_ BK141.out), GW141.out, GE141.out, NB129_141.out, NB141_129.out, NB130_141.out, NB141_130.out, NB131_141.out, NB141_131.out, (b_ HB.out)⟩)
       ·skip; rintro _ w35 ⟨hS_, h0_, h1_, h2_, h3_⟩; have n0_ : Aside0 (w35.heap[gb129]? = some (.cells #[.string a0_0, .string a0_1] 23 (0, 0))) := ⟨h0_⟩; have n1_ : Aside0 (w35.heap[gb130]? = some (.cells #[.string a1_0, .string a1_1] 23 (0, 0))) := ⟨h1_⟩; have n2_ : Aside0 (w35.heap[gb131]? = some (.cells #[.string (⟨#[]⟩ : ByteArray), .string (⟨#[]⟩ : ByteArray)] 23 (0, 0))) := ⟨h2_⟩; have n3_ : Aside0 (Below w.heap.size w w35) := ⟨h3_⟩; clear BK129; clear BK130; clear BK131; clear HB; clear h0_ h1_ h2_ h3_; have BK129 := n0_; have BK130 := n1_; have BK131 := n2_; have HB := n3_; clear n0_ n1_ n2_ n3_; have hHeld : w35.cell? ⟨gb129, 0, none⟩ = some (.string a0_0) ∧ w35.cell? ⟨gb129, 1, none⟩ = some (.string a0_1) ∧ w35.cell? ⟨gb130, 0, none⟩ = some (.string a1_0) ∧ w35.cell? ⟨gb130, 1, none⟩ = some (.string a1_1) := hS_; refine norm_ (a' := ?_) ?_ ?_; rotate_left
        ·simp only [putAll, Act.put, List.setIfInBounds_toArray, List.set_cons_zero, List.set_cons_succ]
         rfl
        refine two_ (i := 16) (j := 20) (Ni := some 33) (Nj := some 5) #[true, true, true, true, true, true, true, true, true, true, true, true, true, true, true, true, true, false, false, false, false, false, false] #[true, true, true, true, true, true, true, true, true, true, true, true, true, true, true, true, false, false, false, false, true, false, false] rfl rfl rfl rfl (two_of HT_.out (by kernel_rfl)) (by decide) (by decide) (fun K hK => ?_) (fun K hK => ?_)
        ·skip; refine gs_ Tryz.func24 #[.string t136, .string t137] ?_; refine mo_ (r3_Make.calls kj2 t136 t137 t138 t139 t140 _ A29.out) ?_; intro w36 hb; replace BK129 := kb_ BK129 hb; replace BK130 := kb_ BK130 hb; replace BK131 := kb_ BK131 hb; replace HB := bs_ HB hb; (try clear hb); refine hk_ hK (fun hHeld => ?_); clear hK K; refine nm_ ?_; refine pu_ 17 16 rfl rfl HT_ ?_; refine pu_ 18 34 rfl rfl HT_ ?_; refine pu_ 19 35 rfl rfl HT_ ?_; exact norm_ pa_ (hJ4_9_10_15_16 () _ ⟨hHeld, (k_ BK129.out), (k_ BK130.out), (k_ BK131.out), (b_ HB.out)⟩)
        ·skip; refine box_step ?hg (N := 5) ?hd (cs := #[.string (⟨#[]⟩ : ByteArray), .string (⟨#[]⟩ : ByteArray)]) (t := 23) ?hr ?_; (case hd => rfl); (case hg => rfl); (case hr => first | (go_simp; done) | (go_simp; rfl)); intro gb141 hg w36 hbox hb; have BK141 := Aside0.mk (hbox); have GW141 := ge_ HB hg; have GE141 := ge_ HB hg; have NB129_141 := nl_ BK129 hg; have NB141_129 := ng_ BK129 hg; have NB130_141 := nl_ BK130 hg; have NB141_130 := ng_ BK130 hg; have NB131_141 := nl_ BK131 hg; have NB141_131 := ng_ BK131 hg; replace BK129 := kb_ BK129 hb; replace BK130 := kb_ BK130 hb; replace BK131 := kb_ BK131 hb; replace HB := bs_ HB hb; clear hb hbox hg; refine hk_ hK (fun hHeld => ?_); clear hK K; refine nm_ ?_; exact norm_ pa_ (hJ4_9_10_15_20 (gb141) _ ⟨hHeld, (k_ BK129.out), (k_ BK130.out), (k_ BK131.out), (k_ BK141.out), GW141.out, GE141.out, NB129_141.out, NB141_129.out, NB130_141.out, NB141_130.out, NB131_141.out, NB141_131.out, (b_ HB.out)⟩)
      ·skip; rintro gb141 w36 ⟨hS_, h0_, h1_, h2_, h3_, h4_, h5_, h6_, h7_, h8_, h9_, h10_, h11_, h12_⟩; have n0_ : Aside0 (w36.heap[gb129]? = some (.cells #[.string a0_0, .string a0_1] 23 (0, 0))) := ⟨h0_⟩; have n1_ : Aside0 (w36.heap[gb130]? = some (.cells #[.string a1_0, .string a1_1] 23 (0, 0))) := ⟨h1_⟩; have n2_ : Aside0 (w36.heap[gb131]? = some (.cells #[.string (⟨#[]⟩ : ByteArray), .string (⟨#[]⟩ : ByteArray)] 23 (0, 0))) := ⟨h2_⟩; have n3_ : Aside0 (w36.heap[gb141]? = some (.cells #[.string (⟨#[]⟩ : ByteArray), .string (⟨#[]⟩ : ByteArray)] 23 (0, 0))) := ⟨h3_⟩; have n4_ : Aside0 (w.heap.size ≤ gb141) := ⟨h4_⟩; have n5_ : Aside0 (w.heap.size ≤ gb141) := ⟨h5_⟩; have n6_ : Aside0 (gb129 ≠ gb141) := ⟨h6_⟩; have n7_ : Aside0 (gb141 ≠ gb129) := ⟨h7_⟩; have n8_ : Aside0 (gb130 ≠ gb141) := ⟨h8_⟩; have n9_ : Aside0 (gb141 ≠ gb130) := ⟨h9_⟩; have n10_ : Aside0 (gb131 ≠ gb141) := ⟨h10_⟩; have n11_ : Aside0 (gb141 ≠ gb131) := ⟨h11_⟩; have n12_ : Aside0 (Below w.heap.size w w36) := ⟨h12_⟩; clear BK129; clear BK130; clear BK131; clear HB; clear h0_ h1_ h2_ h3_ h4_ h5_ h6_ h7_ h8_ h9_ h10_ h11_ h12_; have BK129 := n0_; have BK130 := n1_; have BK131 := n2_; have BK141 := n3_; have GW141 := n4_; have GE141 := n5_; have NB129_141 := n6_; have NB141_129 := n7_; have NB130_141 := n8_; have NB141_130 := n9_; have NB131_141 := n10_; have NB141_131 := n11_; have HB := n12_; clear n0_ n1_ n2_ n3_ n4_ n5_ n6_ n7_ n8_ n9_ n10_ n11_ n12_; have hHeld : w36.cell? ⟨gb129, 0, none⟩ = some (.string a0_0) ∧ w36.cell? ⟨gb129, 1, none⟩ = some (.string a0_1) ∧ w36.cell? ⟨gb130, 0, none⟩ = some (.string a1_0) ∧ w36.cell? ⟨gb130, 1, none⟩ = some (.string a1_1) := hS_; refine norm_ (a' := ?_) ?_ ?_; rotate_left
       ·simp only [putAll, Act.put, List.setIfInBounds_toArray, List.set_cons_zero, List.set_cons_succ]
        rfl
       refine on_ 16 (some 33) rfl rfl HT_ (fun K hK => ?_); refine gs_ Tryz.func24 #[.string t136, .string t137] ?_; refine mo_ (r3_Make.calls kj2 t136 t137 t138 t139 t140 _ A29.out) ?_; intro w37 hb; replace BK129 := kb_ BK129 hb; replace BK130 := kb_ BK130 hb; replace BK131 := kb_ BK131 hb; replace BK141 := kb_ BK141 hb; replace HB := bs_ HB hb; (try clear hb); refine hk_ hK (fun hHeld => ?_); clear hK K; refine nm_ ?_; refine pu_ 17 16 rfl rfl HT_ ?_; refine pu_ 18 34 rfl rfl HT_ ?_; refine pu_ 19 35 rfl rfl HT_ ?_; exact norm_ pa_ (hJ4_9_10_15_16_20 (gb141) _ ⟨hHeld, (k_ BK129.out), (k_ BK130.out), (k_ BK131.out), (k_ BK141.out), GW141.out, GE141.out, NB129_141.out, NB141_129.out, NB130_141.out, NB141_130.out, NB131_141.out, NB141_131.out, (b_ HB.out)⟩)
     ·skip; rintro _ w36 ⟨hS_, h0_, h1_, h2_, h3_⟩; have n0_ : Aside0 (w36.heap[gb129]? = some (.cells #[.string a0_0, .string a0_1] 23 (0, 0))) := ⟨h0_⟩; have n1_ : Aside0 (w36.heap[gb130]? = some (.cells #[.string a1_0, .string a1_1] 23 (0, 0))) := ⟨h1_⟩; have n2_ : Aside0 (w36.heap[gb131]? = some (.cells #[.string (⟨#[]⟩ : ByteArray), .string (⟨#[]⟩ : ByteArray)] 23 (0, 0))) := ⟨h2_⟩; have n3_ : Aside0 (Below w.heap.size w w36) := ⟨h3_⟩; clear BK129; clear BK130; clear BK131; clear HB; clear h0_ h1_ h2_ h3_; have BK129 := n0_; have BK130 := n1_; have BK131 := n2_; have HB := n3_; clear n0_ n1_ n2_ n3_; have hHeld : w36.cell? ⟨gb129, 0, none⟩ = some (.string a0_0) ∧ w36.cell? ⟨gb129, 1, none⟩ = some (.string a0_1) ∧ w36.cell? ⟨gb130, 0, none⟩ = some (.string a1_0) ∧ w36.cell? ⟨gb130, 1, none⟩ = some (.string a1_1) := hS_; refine norm_ (a' := ?_) ?_ ?_; rotate_left
      ·simp only [putAll, Act.put, List.setIfInBounds_toArray, List.set_cons_zero, List.set_cons_succ]
       rfl
      refine on_ 20 (some 5) rfl rfl HT_ (fun K hK => ?_); refine box_step ?hg (N := 5) ?hd (cs := #[.string (⟨#[]⟩ : ByteArray), .string (⟨#[]⟩ : ByteArray)]) (t := 23) ?hr ?_; (case hd => rfl); (case hg => rfl); (case hr => first | (go_simp; done) | (go_simp; rfl)); intro gb141 hg w37 hbox hb; have BK141 := Aside0.mk (hbox); have GW141 := ge_ HB hg; have GE141 := ge_ HB hg; have NB129_141 := nl_ BK129 hg; have NB141_129 := ng_ BK129 hg; have NB130_141 := nl_ BK130 hg; have NB141_130 := ng_ BK130 hg; have NB131_141 := nl_ BK131 hg; have NB141_131 := ng_ BK131 hg; replace BK129 := kb_ BK129 hb; replace BK130 := kb_ BK130 hb; replace BK131 := kb_ BK131 hb; replace HB := bs_ HB hb; clear hb hbox hg; refine hk_ hK (fun hHeld => ?_); clear hK K; refine nm_ ?_; exact norm_ pa_ (hJ4_9_10_15_16_20 (gb141) _ ⟨hHeld, (k_ BK129.out), (k_ BK130.out), (k_ BK131.out), (k_ BK141.out), GW141.out, GE141.out, NB129_141.out, NB141_129.out, NB130_141.out, NB141_130.out, NB131_141.out, NB141_131.out, (b_ HB.out)⟩)
    rintro gb141 w37 ⟨hS_, h0_, h1_, h2_, h3_, h4_, h5_, h6_, h7_, h8_, h9_, h10_, h11_, h12_⟩; have n0_ : Aside0 (w37.heap[gb129]? = some (.cells #[.string a0_0, .string a0_1] 23 (0, 0))) := ⟨h0_⟩; have n1_ : Aside0 (w37.heap[gb130]? = some (.cells #[.string a1_0, .string a1_1] 23 (0, 0))) := ⟨h1_⟩; have n2_ : Aside0 (w37.heap[gb131]? = some (.cells #[.string (⟨#[]⟩ : ByteArray), .string (⟨#[]⟩ : ByteArray)] 23 (0, 0))) := ⟨h2_⟩; have n3_ : Aside0 (w37.heap[gb141]? = some (.cells #[.string (⟨#[]⟩ : ByteArray), .string (⟨#[]⟩ : ByteArray)] 23 (0, 0))) := ⟨h3_⟩; have n4_ : Aside0 (w.heap.size ≤ gb141) := ⟨h4_⟩; have n5_ : Aside0 (w.heap.size ≤ gb141) := ⟨h5_⟩; have n6_ : Aside0 (gb129 ≠ gb141) := ⟨h6_⟩; have n7_ : Aside0 (gb141 ≠ gb129) := ⟨h7_⟩; have n8_ : Aside0 (gb130 ≠ gb141) := ⟨h8_⟩; have n9_ : Aside0 (gb141 ≠ gb130) := ⟨h9_⟩; have n10_ : Aside0 (gb131 ≠ gb141) := ⟨h10_⟩; have n11_ : Aside0 (gb141 ≠ gb131) := ⟨h11_⟩; have n12_ : Aside0 (Below w.heap.size w w37) := ⟨h12_⟩; clear BK129; clear BK130; clear BK131; clear HB; clear h0_ h1_ h2_ h3_ h4_ h5_ h6_ h7_ h8_ h9_ h10_ h11_ h12_; have BK129 := n0_; have BK130 := n1_; have BK131 := n2_; have BK141 := n3_; have GW141 := n4_; have GE141 := n5_; have NB129_141 := n6_; have NB141_129 := n7_; have NB130_141 := n8_; have NB141_130 := n9_; have NB131_141 := n10_; have NB141_131 := n11_; have HB := n12_; clear n0_ n1_ n2_ n3_ n4_ n5_ n6_ n7_ n8_ n9_ n10_ n11_ n12_; have hHeld : w37.cell? ⟨gb129, 0, none⟩ = some (.string a0_0) ∧ w37.cell? ⟨gb129, 1, none⟩ = some (.string a0_1) ∧ w37.cell? ⟨gb130, 0, none⟩ = some (.string a1_0) ∧ w37.cell? ⟨gb130, 1, none⟩ = some (.string a1_1) := hS_; refine norm_ (a' := ?_) ?_ ?_; rotate_left
    ·simp only [putAll, Act.put, List.setIfInBounds_toArray, List.set_cons_zero, List.set_cons_succ]
     rfl
    refine on_ 21 none rfl rfl HT_ (fun K hK => ?_); have hs38 := bc_ BK141 0 rfl; have hfs38 := blk_frozen BK141.out 0; have hns38_0 := NB129_141.out; have hns38_1 := NB130_141.out; have hns38_2 := NB131_141.out; have hms38_0 := NB141_129.out; have hms38_1 := NB141_130.out; have hms38_2 := NB141_131.out; have hs39 := bc_ BK141 1 rfl; have hfs39 := blk_frozen BK141.out 1; have hns39_0 := NB129_141.out; have hns39_1 := NB130_141.out; have hns39_2 := NB131_141.out; have hms39_0 := NB141_129.out; have hms39_1 := NB141_130.out; have hms39_2 := NB141_131.out; refine skip_ (w1 := ?_) (by rfl) rfl ?_ ?_; rotate_left
    ·go_simp
     rfl
    refine hf_ hK hHeld (fun hHeld => ?_); clear hK K; refine pu_ 22 6 rfl rfl HT_ ?_; refine done_ (done_of HT_.out (by kernel_rfl)) ?_; have hnb40 := NB141_129.out; have hnc40 := NB129_141.out; have hnb41 := NB141_130.out; have hnc41 := NB130_141.out; have hnb42 := NB141_131.out; have hnc42 := NB131_141.out; have hcz43_0 := bc_ BK141 0 rfl; have hcz43_1 := bc_ BK141 1 rfl; have hfz43_0 := blk_frozen BK141.out 0; have hfz43_1 := blk_frozen BK141.out 1; have hnb44 := NB131_129.out; have hnc44 := NB129_131.out; have hnb45 := NB131_130.out; have hnc45 := NB130_131.out; have hcz46_0 := bc_ BK131 0 rfl; have hcz46_1 := bc_ BK131 1 rfl; have hfz46_0 := blk_frozen BK131.out 0; have hfz46_1 := blk_frozen BK131.out 1
    try go_wp2
    refine bodyPost_ret (results_cell_row rfl _ _ gb131 23 #[.string t138, .string t139] (0, 0) _ rfl (by refine k_ ?_; refine blk_put (cs := #[.string t138, .string (⟨#[]⟩ : ByteArray)]) ?_ 1 _ rfl; refine k_ ?_; refine blk_put (cs := #[.string (⟨#[]⟩ : ByteArray), .string (⟨#[]⟩ : ByteArray)]) ?_ 0 _ rfl; refine k_ ?_; refine blk_far ?_ NB131_141.out _; refine k_ ?_; refine blk_far ?_ NB131_141.out _; refine k_ ?_; exact BK131.out) Tryz.underlying23 rfl (by kernel_rfl)) rfl ?_; exact ⟨er_, b_ HB.out⟩
end Go.Proofs.YtnhpnnbjimnmlaaGreatDoor.Pz
end

section
namespace Go.Proofs.YtnhpnnbjimnmlaaGreatDoor.Pz
def r3_Sub.f (k : Nat) (a0_0 : ByteArray) (a0_1 : ByteArray) (a1_0 : ByteArray) (a1_1 : ByteArray) : Option (ByteArray × ByteArray) := (r3_Neg.f a1_0 a1_1).bind fun bt145 => ((r3_Add.f k a0_0 a0_1 bt145.1 bt145.2).bind fun bt147 => (some (bt147.1, bt147.2)))
set_option maxHeartbeats 8000000 in
set_option maxRecDepth 100000 in
theorem r3_Sub.calls (k : Nat) (a0_0 : ByteArray) (a0_1 : ByteArray) (a1_0 : ByteArray) (a1_1 : ByteArray) (r1 : ByteArray) (r2 : ByteArray) (w : World) (h : r3_Sub.f k a0_0 a0_1 a1_0 a1_1 = some (r1, r2)) :
  Calls Tryz.prog 9 #[.agg #[.string a0_0, .string a0_1], .agg #[.string a1_0, .string a1_1]] w fun e w' => e = .returned (.agg #[.string r1, .string r2]) ∧ Below w.heap.size w w' := by
 have hu23 := Tryz.underlying23; have HB := Aside0.mk (Below.refl w.heap.size w); have H := h; unfold r3_Sub.f at H; clear h; obtain ⟨⟨t145, t146⟩, A3, H⟩ := bi_ H; (try dsimp only at H); obtain ⟨⟨t147, t148⟩, A4, H⟩ := bi_ H; (try dsimp only at H); simp only [Option.some.injEq, Prod.mk.injEq] at H; obtain ⟨rfl, rfl⟩ := H; go_enter Tryz.func9, Tryz.ntmps9
 try go_wp2_with (first | ((with_reducible refine gate_dst (N := 2) rfl ?_); refine be_ 2 #[.string a0_0, .string a0_1] 23 ?_; intro gb142 hg w5 hbox hb; have BK142 := Aside0.mk (hbox); have GW142 := ge_ HB hg; have GE142 := ge_ HB hg; replace HB := bs_ HB hb; clear hb hbox hg) | ((with_reducible refine gate_dst (N := 3) rfl ?_); refine be_ 3 #[.string a1_0, .string a1_1] 23 ?_; intro gb143 hg w6 hbox hb; have BK143 := Aside0.mk (hbox); have GW143 := ge_ HB hg; have GE143 := ge_ HB hg; have NB142_143 := nl_ BK142 hg; have NB143_142 := ng_ BK142 hg; replace BK142 := kb_ BK142 hb; replace HB := bs_ HB hb; clear hb hbox hg) | ((with_reducible refine gate_dst (N := 4) rfl ?_); refine be_ 4 #[.string (⟨#[]⟩ : ByteArray), .string (⟨#[]⟩ : ByteArray)] 23 ?_; intro gb144 hg w7 hbox hb; have BK144 := Aside0.mk (hbox); have GW144 := ge_ HB hg; have GE144 := ge_ HB hg; have NB142_144 := nl_ BK142 hg; have NB144_142 := ng_ BK142 hg; have NB143_144 := nl_ BK143 hg; have NB144_143 := ng_ BK143 hg; replace BK142 := kb_ BK142 hb; replace BK143 := kb_ BK143 hb; replace HB := bs_ HB hb; clear hb hbox hg))
 replace BK142 := Aside0.mk (blk_drew BK142.out); replace BK143 := Aside0.mk (blk_drew BK143.out); replace BK144 := Aside0.mk (blk_drew BK144.out); replace HB := Aside0.mk (below_drew1 HB.out); refine sa_ 5 (fun w' => w'.cell? ⟨gb142, 0, none⟩ = some (.string a0_0) ∧ w'.cell? ⟨gb142, 1, none⟩ = some (.string a0_1) ∧ w'.cell? ⟨gb143, 0, none⟩ = some (.string a1_0) ∧ w'.cell? ⟨gb143, 1, none⟩ = some (.string a1_1)) (fun hHeld => ?_); generalize w7.drew = w8 at BK142 BK143 BK144 HB hHeld ⊢; refine take_ (i := 0) (N := some 5) (v := ?_) (a' := ?_) #[true, false, false, false, false] rfl rfl (by kernel_rfl) (fun _ _ _ h => h) (Or.inl ⟨by rfl, ?_⟩) hHeld ?_ ?_; rotate_left
 ·rintro w' ⟨s0, s1, s2, s3⟩; go_simp; with_reducible rfl
 rotate_left
 ·exact ap_
 refine take_ (i := 1) (N := some 6) (v := ?_) (a' := ?_) #[true, true, false, false, false] rfl rfl (by kernel_rfl) (fun _ _ _ h => h) (Or.inl ⟨by rfl, ?_⟩) hHeld ?_ ?_; rotate_left
 ·rintro w' ⟨s0, s1, s2, s3⟩; go_simp; with_reducible rfl
 rotate_left
 ·exact ap_
 refine one_ (i := 2) (N := some 7) #[true, true, true, false, false] rfl rfl (by kernel_rfl) (by decide) (fun K hK => ?_); refine gs_ Tryz.func10 #[.agg #[.string a1_0, .string a1_1]] ?_; refine mo_ (r3_Neg.calls a1_0 a1_1 t145 t146 _ A3.out) ?_; intro w9 hb; replace BK142 := kb_ BK142 hb; replace BK143 := kb_ BK143 hb; replace BK144 := kb_ BK144 hb; replace HB := bs_ HB hb; (try clear hb); refine hk_ hK (fun hHeld => ?_); clear hK K; refine nm_ ?_; refine one_ (i := 3) (N := some 8) #[true, true, true, true, false] rfl rfl (by kernel_rfl) (by decide) (fun K hK => ?_); refine gs_ Tryz.func13 #[.agg #[.string a0_0, .string a0_1], .agg #[.string t145, .string t146]] ?_; refine mo_ (r3_Add.calls k a0_0 a0_1 t145 t146 t147 t148 _ A4.out) ?_; intro w10 hb; replace BK142 := kb_ BK142 hb; replace BK143 := kb_ BK143 hb; replace BK144 := kb_ BK144 hb; replace HB := bs_ HB hb; (try clear hb); refine hk_ hK (fun hHeld => ?_); clear hK K; refine nm_ ?_; refine one_ (i := 4) (N := none) #[true, true, true, true, true] rfl rfl (by kernel_rfl) (by decide) (fun K hK => ?_); have hs11 := bc_ BK144 0 rfl; have hfs11 := blk_frozen BK144.out 0; have hns11_0 := NB142_144.out; have hns11_1 := NB143_144.out; have hms11_0 := NB144_142.out; have hms11_1 := NB144_143.out; have hs12 := bc_ BK144 1 rfl; have hfs12 := blk_frozen BK144.out 1; have hns12_0 := NB142_144.out; have hns12_1 := NB143_144.out; have hms12_0 := NB144_142.out; have hms12_1 := NB144_143.out; refine skip_ (w1 := ?_) (by rfl) rfl ?_ ?_; rotate_left
 ·go_simp
  rfl
 refine hf_ hK hHeld (fun hHeld => ?_); clear hK K; refine done_ (by kernel_rfl) ?_
 try go_wp2
 refine bodyPost_ret (results_cell_row rfl _ _ gb144 23 #[.string t147, .string t148] (0, 0) _ rfl (rp_ BK144.out) Tryz.underlying23 rfl (by kernel_rfl)) rfl ?_; exact ⟨er_, b_ HB.out⟩
def r3_Cmp.f (k : Nat) (a0_0 : ByteArray) (a0_1 : ByteArray) (a1_0 : ByteArray) (a1_1 : ByteArray) : Option (Int) := (r3_Sub.f k a0_0 a0_1 a1_0 a1_1).bind fun bt151 => ((r3_Sign.f bt151.1 bt151.2).bind fun t153 => (some t153))
set_option maxHeartbeats 8000000 in
set_option maxRecDepth 100000 in
theorem r3_Cmp.calls (k : Nat) (a0_0 : ByteArray) (a0_1 : ByteArray) (a1_0 : ByteArray) (a1_1 : ByteArray) (r : Int) (w : World) (h : r3_Cmp.f k a0_0 a0_1 a1_0 a1_1 = some r) :
  Calls Tryz.prog 12 #[.agg #[.string a0_0, .string a0_1], .agg #[.string a1_0, .string a1_1]] w fun e w' => e = .returned (.int .i64 r) ∧ Below w.heap.size w w' := by
 have hu23 := Tryz.underlying23; have HB := Aside0.mk (Below.refl w.heap.size w); have H := h; unfold r3_Cmp.f at H; clear h; obtain ⟨⟨t151, t152⟩, A3, H⟩ := bi_ H; (try dsimp only at H); obtain ⟨t153, A4, H⟩ := bi_ H; obtain rfl := Option.some.inj H; go_enter Tryz.func12, Tryz.ntmps12
 go_wp2_with (first | ((with_reducible refine gate_dst (N := 2) rfl ?_); refine be_ 2 #[.string a0_0, .string a0_1] 23 ?_; intro gb149 hg w5 hbox hb; have BK149 := Aside0.mk (hbox); have GW149 := ge_ HB hg; have GE149 := ge_ HB hg; replace HB := bs_ HB hb; clear hb hbox hg) | ((with_reducible refine gate_dst (N := 3) rfl ?_); refine be_ 3 #[.string a1_0, .string a1_1] 23 ?_; intro gb150 hg w6 hbox hb; have BK150 := Aside0.mk (hbox); have GW150 := ge_ HB hg; have GE150 := ge_ HB hg; have NB149_150 := nl_ BK149 hg; have NB150_149 := ng_ BK149 hg; replace BK149 := kb_ BK149 hb; replace HB := bs_ HB hb; clear hb hbox hg; have hnb7 := NB149_150.out; have hnc7 := NB150_149.out; have hcz8_0 := bc_ BK149 0 rfl; have hcz8_1 := bc_ BK149 1 rfl; have hfz8_0 := blk_frozen BK149.out 0; have hfz8_1 := blk_frozen BK149.out 1; have hcz9_0 := bc_ BK150 0 rfl; have hcz9_1 := bc_ BK150 1 rfl; have hfz9_0 := blk_frozen BK150.out 0; have hfz9_1 := blk_frozen BK150.out 1) | (refine gl_ 7 Tryz.func9 #[.agg #[.string a0_0, .string a0_1], .agg #[.string a1_0, .string a1_1]] ?_; refine mo_ (r3_Sub.calls k a0_0 a0_1 a1_0 a1_1 t151 t152 _ A3.out) ?_; intro w10 hb; replace BK149 := kb_ BK149 hb; replace BK150 := kb_ BK150 hb; replace HB := bs_ HB hb; (try clear hb); (try clear hb2); (try clear hk); (try clear hi)) | (refine gl_ 8 Tryz.func6 #[.agg #[.string t151, .string t152]] ?_; refine mo_ (r3_Sign.calls t151 t152 t153 _ A4.out) ?_; intro w11 hb; replace BK149 := kb_ BK149 hb; replace BK150 := kb_ BK150 hb; replace HB := bs_ HB hb; (try clear hb); (try clear hb2); (try clear hk); (try clear hi)))
 go_ret
 exact ⟨er_, b_ HB.out⟩
def r3_Div.j0 : Nat → Bool → ByteArray → ByteArray → ByteArray → ByteArray → Option (ByteArray × ByteArray × Bool)
 | 0, _, _, _, _, _ => none
 | k + 1, x13, x155000, x155001, x156000, x156001 => if x13 = true then (some ((⟨#[]⟩ : ByteArray), (⟨#[]⟩ : ByteArray), false)) else ((r2_Mul.f x155000 x156001).bind fun t159 => ((r2_Mul.f x155001 x156000).bind fun t160 => ((r3_Make.f k t159 t160).bind fun bt161 => (some (bt161.1, bt161.2.1, bt161.2.2)))))
def r3_Div.f (k : Nat) (a0_0 : ByteArray) (a0_1 : ByteArray) (a1_0 : ByteArray) (a1_1 : ByteArray) : Option (ByteArray × ByteArray × Bool) := (r3_May.f a0_0 a0_1).bind fun t157 => (if t157 = true then ((r3_May.f a1_0 a1_1).bind fun t158 => (r3_Div.j0 k (!t158) a0_0 a0_1 a1_0 a1_1)) else (r3_Div.j0 k true a0_0 a0_1 a1_0 a1_1))
def r3_Div.T3 : Bool × List (List Nat × List Nat) := (true, [([], []), ([0], [0]), ([], []), ([2], [2]), ([1, 3], [1, 3]), ([], []), ([5], [5]), ([], []), ([7], [7]), ([6, 8, 4], [6, 8]), ([4, 9, 9], [4, 9]), ([10], [10]), ([10], [10]), ([11, 10, 0, 1, 2, 3, 4, 5, 6, 7, 8, 9, 10, 11, 12], [11]), ([12, 13, 0, 1, 2, 3, 4, 5, 6, 7, 8, 9, 10, 11, 12, 13], [12])])
def r3_Div.B3 : List Nat := [0, 1, 0, 4, 15, 0, 32, 0, 128, 511, 1023, 2047, 2047, 8191, 16383]
theorem r3_Div.tab3 : rtab .any (opsOf Tryz.f8 3) = r3_Div.T3 := by kernel_rfl
theorem r3_Div.bits3 : waitsOk r3_Div.T3.2 r3_Div.B3 = true := by kernel_rfl
set_option maxHeartbeats 8000000 in
set_option maxRecDepth 100000 in
theorem r3_Div.calls (k : Nat) (a0_0 : ByteArray) (a0_1 : ByteArray) (a1_0 : ByteArray) (a1_1 : ByteArray) (r1 : ByteArray) (r2 : ByteArray) (r3 : Bool) (w : World) (h : r3_Div.f k a0_0 a0_1 a1_0 a1_1 = some (r1, r2, r3)) :
  Calls Tryz.prog 8 #[.agg #[.string a0_0, .string a0_1], .agg #[.string a1_0, .string a1_1]] w fun e w' => e = .returned (.tuple #[.agg #[.string r1, .string r2], .bool r3]) ∧ Below w.heap.size w w' := by
 have hu23 := Tryz.underlying23; have HB := Aside0.mk (Below.refl w.heap.size w); have H := h; unfold r3_Div.f at H; clear h; have HC3 := Aside0.mk H; clear H; go_enter Tryz.func8, Tryz.ntmps8
 go_upto_region 1 with (first | ((with_reducible refine gate_dst (N := 2) rfl ?_); refine be_ 2 #[.string a0_0, .string a0_1] 23 ?_; intro gb154 hg w4 hbox hb; have BK154 := Aside0.mk (hbox); have GW154 := ge_ HB hg; have GE154 := ge_ HB hg; replace HB := bs_ HB hb; clear hb hbox hg) | ((with_reducible refine gate_dst (N := 3) rfl ?_); refine be_ 3 #[.string a1_0, .string a1_1] 23 ?_; intro gb155 hg w5 hbox hb; have BK155 := Aside0.mk (hbox); have GW155 := ge_ HB hg; have GE155 := ge_ HB hg; have NB154_155 := nl_ BK154 hg; have NB155_154 := ng_ BK154 hg; replace BK154 := kb_ BK154 hb; replace HB := bs_ HB hb; clear hb hbox hg) | ((with_reducible refine gate_dst (N := 4) rfl ?_); refine be_ 4 #[.string (⟨#[]⟩ : ByteArray), .string (⟨#[]⟩ : ByteArray)] 23 ?_; intro gb156 hg w6 hbox hb; have BK156 := Aside0.mk (hbox); have GW156 := ge_ HB hg; have GE156 := ge_ HB hg; have NB154_156 := nl_ BK154 hg; have NB156_154 := ng_ BK154 hg; have NB155_156 := nl_ BK155 hg; have NB156_155 := ng_ BK155 hg; replace BK154 := kb_ BK154 hb; replace BK155 := kb_ BK155 hb; replace HB := bs_ HB hb; clear hb hbox hg))
 (try simp only [Act.put, List.setIfInBounds_toArray, List.set_cons_zero, List.set_cons_succ])
 go_cut [13] (fun v13 wc => ∃ (kq : Nat) (x13_2 : Bool), v13 = .bool x13_2 ∧ Aside0 (r3_Div.j0 kq x13_2 a0_0 a0_1 a1_0 a1_1 = some (r1, r2, r3)) ∧ Aside0 (kq ≤ k) ∧ Aside0 (wc.heap[gb154]? = some (.cells #[.string a0_0, .string a0_1] 23 (0, 0))) ∧ Aside0 (wc.heap[gb155]? = some (.cells #[.string a1_0, .string a1_1] 23 (0, 0))) ∧ Aside0 (wc.heap[gb156]? = some (.cells #[.string (⟨#[]⟩ : ByteArray), .string (⟨#[]⟩ : ByteArray)] 23 (0, 0))) ∧ Aside0 (Below w.heap.size w wc))
 case first =>
  have H := HC3.out; clear HC3; obtain ⟨t157, A7, H⟩ := bi_ H; by_cases c8 : t157 = true
  ·subst c8; rw [if_pos rfl] at H; obtain ⟨t158, A9, H⟩ := bi_ H; have H' := Aside0.mk H; clear H; have hnb10 := NB154_155.out; have hnc10 := NB155_154.out; have hnb11 := NB154_156.out; have hnc11 := NB156_154.out; have hcz12_0 := bc_ BK154 0 rfl; have hcz12_1 := bc_ BK154 1 rfl; have hfz12_0 := blk_frozen BK154.out 0; have hfz12_1 := blk_frozen BK154.out 1
   go_wp2_with (first | (refine gl_ 7 Tryz.func11 #[.agg #[.string a0_0, .string a0_1]] ?_; refine mo_ (r3_May.calls a0_0 a0_1 true _ A7.out) ?_; intro w13 hb; replace BK154 := kb_ BK154 hb; replace BK155 := kb_ BK155 hb; replace BK156 := kb_ BK156 hb; replace HB := bs_ HB hb; (try clear hb); (try clear hb2); (try clear hk); (try clear hi); have hnb14 := NB155_156.out; have hnc14 := NB156_155.out; have hcz15_0 := bc_ BK155 0 rfl; have hcz15_1 := bc_ BK155 1 rfl; have hfz15_0 := blk_frozen BK155.out 0; have hfz15_1 := blk_frozen BK155.out 1) | (go_at_call 11; (with_reducible refine (r3_May.calls a1_0 a1_1 t158 _ A9.out).mono ?_); rintro e w16 ⟨rfl, hb⟩; replace BK154 := kb_ BK154 hb; replace BK155 := kb_ BK155 hb; replace BK156 := kb_ BK156 hb; replace HB := bs_ HB hb; (try clear hb); (try clear hb2); (try clear hk); (try clear hi)))
   go_meet
   case rel => exact ⟨_, (!t158), rl_, H', ⟨by first | omega | exact Nat.le_refl _⟩, ⟨k_ BK154.out⟩, ⟨k_ BK155.out⟩, ⟨k_ BK156.out⟩, ⟨b_ HB.out⟩⟩
  ·replace c8 := Bool.eq_false_iff.mpr c8; subst c8; rw [if_neg nf_] at H; have H' := Aside0.mk H; clear H; have hnb17 := NB154_155.out; have hnc17 := NB155_154.out; have hnb18 := NB154_156.out; have hnc18 := NB156_154.out; have hcz19_0 := bc_ BK154 0 rfl; have hcz19_1 := bc_ BK154 1 rfl; have hfz19_0 := blk_frozen BK154.out 0; have hfz19_1 := blk_frozen BK154.out 1
   go_wp2_with (first | (refine gl_ 7 Tryz.func11 #[.agg #[.string a0_0, .string a0_1]] ?_; refine mo_ (r3_May.calls a0_0 a0_1 false _ A7.out) ?_; intro w20 hb; replace BK154 := kb_ BK154 hb; replace BK155 := kb_ BK155 hb; replace BK156 := kb_ BK156 hb; replace HB := bs_ HB hb; (try clear hb); (try clear hb2); (try clear hk); (try clear hi)))
   go_meet
   case rel => exact ⟨_, (true), rl_, H', ⟨by first | omega | exact Nat.le_refl _⟩, ⟨k_ BK154.out⟩, ⟨k_ BK155.out⟩, ⟨k_ BK156.out⟩, ⟨b_ HB.out⟩⟩
 case rest =>
  clear HC3; (try clear c1); (try clear p2); (try clear c8); (try clear c10); (try clear c11); (try clear c14); (try clear c17); (try clear c18); (try clear hcz12_0); (try clear hcz12_1); (try clear hcz15_0); (try clear hcz15_1); (try clear hcz19_0); (try clear hcz19_1); (try clear hfz12_0); (try clear hfz12_1); (try clear hfz15_0); (try clear hfz15_1); (try clear hfz19_0); (try clear hfz19_1); obtain ⟨kq, x13_2, rfl, HA, HJ2, BK154, BK155, BK156, HB⟩ := hcut
  cases kq with
  | zero => exact absurd HA.out (by simp [r3_Div.j0])
  | succ kj2 =>
   have H := HA.out; clear HA; simp only [r3_Div.j0] at H; by_cases c21 : x13_2 = true
   ·subst c21; rw [if_pos rfl] at H; simp only [Option.some.injEq, Prod.mk.injEq] at H; obtain ⟨rfl, rfl, rfl⟩ := H; have hnb22 := NB156_154.out; have hnc22 := NB154_156.out; have hnb23 := NB156_155.out; have hnc23 := NB155_156.out; have hcz24_0 := bc_ BK156 0 rfl; have hcz24_1 := bc_ BK156 1 rfl; have hfz24_0 := blk_frozen BK156.out 0; have hfz24_1 := blk_frozen BK156.out 1; go_wp2; refine bodyPost_ret (results_ct rfl _ _ gb156 23 #[.string (⟨#[]⟩ : ByteArray), .string (⟨#[]⟩ : ByteArray)] (0, 0) _ rfl (rp_ BK156.out) Tryz.underlying23 rfl (by kernel_rfl)) rfl ?_; exact ⟨er_, b_ HB.out⟩
   ·replace c21 := Bool.eq_false_iff.mpr c21; subst c21; rw [if_neg nf_] at H; obtain ⟨t159, A25, H⟩ := bi_ H; obtain ⟨t160, A26, H⟩ := bi_ H; obtain ⟨⟨t161, t162, t163⟩, A27, H⟩ := bi_ H; (try dsimp only at H); simp only [Option.some.injEq, Prod.mk.injEq] at H; obtain ⟨rfl, rfl, rfl⟩ := H
    try go_wp2
    replace BK154 := Aside0.mk (blk_drew BK154.out); replace BK155 := Aside0.mk (blk_drew BK155.out); replace BK156 := Aside0.mk (blk_drew BK156.out); replace HB := Aside0.mk (below_drew1 HB.out); refine sa_ 15 (fun w' => w'.cell? ⟨gb154, 0, none⟩ = some (.string a0_0) ∧ w'.cell? ⟨gb154, 1, none⟩ = some (.string a0_1) ∧ w'.cell? ⟨gb155, 0, none⟩ = some (.string a1_0) ∧ w'.cell? ⟨gb155, 1, none⟩ = some (.string a1_1)) (fun hHeld => ?_); refine with_tabW r3_Div.tab3 r3_Div.bits3 (fun HT_ HW_ => ?_); generalize wc.drew = w28 at BK154 BK155 BK156 HB hHeld ⊢; refine pu_ 0 15 rfl rfl HT_ ?_; refine pu_ 2 17 rfl rfl HT_ ?_; refine pu_ 5 20 rfl rfl HT_ ?_; refine pu_ 7 22 rfl rfl HT_ ?_; refine t4_ 1 16 rfl rfl HT_ HW_ hHeld ?_; refine t4_ 3 18 rfl rfl HT_ HW_ hHeld ?_; refine t4_ 6 21 rfl rfl HT_ HW_ hHeld ?_; refine t4_ 8 23 rfl rfl HT_ HW_ hHeld ?_; refine on_ 4 (some 19) rfl rfl HT_ (fun K hK => ?_); refine gs_ Tryz.func25 #[.string a0_0, .string a1_1] ?_; refine mo_ (r2_Mul.calls a0_0 a1_1 t159 _ A25.out) ?_; intro w29 hb; replace BK154 := kb_ BK154 hb; replace BK155 := kb_ BK155 hb; replace BK156 := kb_ BK156 hb; replace HB := bs_ HB hb; (try clear hb); refine hk_ hK (fun hHeld => ?_); clear hK K; refine nm_ ?_; refine on_ 9 (some 24) rfl rfl HT_ (fun K hK => ?_); refine gs_ Tryz.func25 #[.string a0_1, .string a1_0] ?_; refine mo_ (r2_Mul.calls a0_1 a1_0 t160 _ A26.out) ?_; intro w30 hb; replace BK154 := kb_ BK154 hb; replace BK155 := kb_ BK155 hb; replace BK156 := kb_ BK156 hb; replace HB := bs_ HB hb; (try clear hb); refine hk_ hK (fun hHeld => ?_); clear hK K; refine nm_ ?_; refine on_ 10 (some 25) rfl rfl HT_ (fun K hK => ?_); refine gs_ Tryz.func24 #[.string t159, .string t160] ?_; refine mo_ (r3_Make.calls kj2 t159 t160 t161 t162 t163 _ A27.out) ?_; intro w31 hb; replace BK154 := kb_ BK154 hb; replace BK155 := kb_ BK155 hb; replace BK156 := kb_ BK156 hb; replace HB := bs_ HB hb; (try clear hb); refine hk_ hK (fun hHeld => ?_); clear hK K; refine nm_ ?_; refine pu_ 11 26 rfl rfl HT_ ?_; refine pu_ 12 27 rfl rfl HT_ ?_; refine on_ 13 none rfl rfl HT_ (fun K hK => ?_); have hs32 := bc_ BK156 0 rfl; have hfs32 := blk_frozen BK156.out 0; have hns32_0 := NB154_156.out; have hns32_1 := NB155_156.out; have hms32_0 := NB156_154.out; have hms32_1 := NB156_155.out; have hs33 := bc_ BK156 1 rfl; have hfs33 := blk_frozen BK156.out 1; have hns33_0 := NB154_156.out; have hns33_1 := NB155_156.out; have hms33_0 := NB156_154.out; have hms33_1 := NB156_155.out; refine skip_ (w1 := ?_) (by rfl) rfl ?_ ?_; rotate_left
    ·go_simp
     rfl
    refine hf_ hK hHeld (fun hHeld => ?_); clear hK K; refine pu_ 14 5 rfl rfl HT_ ?_; refine done_ (done_of HT_.out (by kernel_rfl)) ?_
    try go_wp2
    refine bodyPost_ret (results_ct rfl _ _ gb156 23 #[.string t161, .string t162] (0, 0) _ rfl (rp_ BK156.out) Tryz.underlying23 rfl (by kernel_rfl)) rfl ?_; exact ⟨er_, b_ HB.out⟩
def r3_Short.l0 : Nat → List (S23) → Int → Option (Bool)
 | 0, _, _ => none
 | k + 1, x0, x3 => if x3 < (x0.length : Int) then (if 0 ≤ x3 then (if (((rd_T23 x0 x3).f0).size : Int) > 100 then (some false) else (if (((rd_T23 x0 x3).f1).size : Int) > 100 then (some false) else (r3_Short.l0 k x0 (wrap64 (x3 + 1))))) else (none)) else (some true)
def r3_Short.f (k : Nat) (l0 : List (S23)) : Option (Bool) := r3_Short.l0 k l0 0
set_option maxHeartbeats 8000000 in
set_option maxRecDepth 100000 in
theorem r3_Short.calls (k : Nat) (A0 : Option Addr) (c0 : Nat) (l0 : List (S23)) (r : Bool) (w : World) (hr0 : Kd.C k23 w A0 l0.length l0) (hc0 : l0.length ≤ c0) (h : r3_Short.f k l0 = some r) :
  Calls Tryz.prog 18 #[.slice A0 l0.length c0] w fun e w' => e = .returned (.bool r) ∧ Drawn0 w w' := by
 have HR0 := Aside0.mk hr0; have HC0 := Aside0.mk hc0; clear hr0 hc0; have H := h; unfold r3_Short.f at H; clear h; have H' := Aside0.mk H; clear H; go_enter Tryz.func18, Tryz.ntmps18; go_wp2
 go_loopg [3] k (fun kq v3 w' => ∃ (x3_1 : Int), v3 = .int .i64 x3_1 ∧ Aside0 (r3_Short.l0 kq l0 x3_1 = some r) ∧ Aside0 (kq ≤ k) ∧ Drawn0 w w')
 case atStart => exact ⟨(0), rl_, H', ⟨Nat.le_refl _⟩, d0_⟩
 case round =>
  clear H'; (try clear c1); obtain ⟨x3_1, rfl, HA, HK1, ⟨m1, rfl⟩⟩ := hrel
  cases gk with
  | zero => exact absurd HA.out (by simp [r3_Short.l0])
  | succ k1 =>
   have H := HA.out; clear HA; simp only [r3_Short.l0] at H; by_cases c2 : x3_1 < (l0.length : Int)
   ·rw [if_pos c2] at H; have c2b0 : decide (x3_1 < (l0.length : Int)) = true := decide_eq_true c2; clear c2; by_cases c3 : 0 ≤ x3_1
    ·rw [if_pos c3] at H; have c3b0 : decide (0 ≤ x3_1) = true := decide_eq_true c3; clear c3; by_cases c4 : (((rd_T23 l0 x3_1).f0).size : Int) > 100
     ·rw [if_pos c4] at H; have c4b0 : decide (100 < (((rd_T23 l0 x3_1).f0).size : Int)) = true := decide_eq_true c4; have c4b1 : decide (100 < ((rd_T23 l0 x3_1).f0).size) = true := decide_eq_true (by omega); clear c4; obtain rfl := Option.some.inj H; have p164 : 0 ≤ (x3_1 : Int) := of_decide_eq_true as_f; have q164 : x3_1 < (l0.length : Int) := of_decide_eq_true as_f; obtain ⟨ad164, e164, hx164_0, hx164_1⟩ := at_T23 HR0.out x3_1 p164 q164
      cases e164
      replace p164 := eq_true p164; replace q164 := eq_true q164; go_wp2
      go_ret
      exact ⟨by first | rfl | (simp; done) | (simp [*]; done), d0_⟩
     ·rw [if_neg c4] at H; have c4b0 : decide (100 < (((rd_T23 l0 x3_1).f0).size : Int)) = false := decide_eq_false c4; have c4b1 : decide (100 < ((rd_T23 l0 x3_1).f0).size) = false := decide_eq_false (by omega); clear c4; by_cases c5 : (((rd_T23 l0 x3_1).f1).size : Int) > 100
      ·rw [if_pos c5] at H; have c5b0 : decide (100 < (((rd_T23 l0 x3_1).f1).size : Int)) = true := decide_eq_true c5; have c5b1 : decide (100 < ((rd_T23 l0 x3_1).f1).size) = true := decide_eq_true (by omega); clear c5; obtain rfl := Option.some.inj H; have p164 : 0 ≤ (x3_1 : Int) := of_decide_eq_true as_f; have q164 : x3_1 < (l0.length : Int) := of_decide_eq_true as_f; obtain ⟨ad164, e164, hx164_0, hx164_1⟩ := at_T23 HR0.out x3_1 p164 q164
       cases e164
       replace p164 := eq_true p164; replace q164 := eq_true q164; have p165 : 0 ≤ (x3_1 : Int) := of_decide_eq_true as_f; have q165 : x3_1 < (l0.length : Int) := of_decide_eq_true as_f; obtain ⟨ad165, e165, hx165_0, hx165_1⟩ := at_T23 HR0.out x3_1 p165 q165; obtain rfl : ad164 = ad165 := (by injection e165); replace p165 := eq_true p165; replace q165 := eq_true q165; go_wp2
       go_ret
       exact ⟨by first | rfl | (simp; done) | (simp [*]; done), d0_⟩
      ·rw [if_neg c5] at H; have c5b0 : decide (100 < (((rd_T23 l0 x3_1).f1).size : Int)) = false := decide_eq_false c5; have c5b1 : decide (100 < ((rd_T23 l0 x3_1).f1).size) = false := decide_eq_false (by omega); clear c5; have H' := Aside0.mk H; clear H; have p164 : 0 ≤ (x3_1 : Int) := of_decide_eq_true as_f; have q164 : x3_1 < (l0.length : Int) := of_decide_eq_true as_f; obtain ⟨ad164, e164, hx164_0, hx164_1⟩ := at_T23 HR0.out x3_1 p164 q164
       cases e164
       replace p164 := eq_true p164; replace q164 := eq_true q164; have p165 : 0 ≤ (x3_1 : Int) := of_decide_eq_true as_f; have q165 : x3_1 < (l0.length : Int) := of_decide_eq_true as_f; obtain ⟨ad165, e165, hx165_0, hx165_1⟩ := at_T23 HR0.out x3_1 p165 q165; obtain rfl : ad164 = ad165 := (by injection e165); replace p165 := eq_true p165; replace q165 := eq_true q165; go_wp2
       go_roundg k1
       case measure => have := HK1.out; omega
       case rel => exact ⟨(wrap64 (x3_1 + 1)), rl_, H', ⟨by have := HK1.out; omega⟩, d0_⟩
    ·rw [if_neg c3] at H; exact absurd H (by simp)
   ·rw [if_neg c2] at H; have c2b0 : decide (x3_1 < (l0.length : Int)) = false := decide_eq_false c2; clear c2; obtain rfl := Option.some.inj H; go_wp2
    go_ret
    exact ⟨by first | rfl | (simp; done) | (simp [*]; done), d0_⟩
end Go.Proofs.YtnhpnnbjimnmlaaGreatDoor.Pz
end

section
namespace Go.Proofs.YtnhpnnbjimnmlaaGreatDoor.Pz
def r3_Good.l0 : Nat → List (S23) → Int → Option (Bool)
 | 0, _, _ => none
 | k + 1, x0, x3 => if x3 < (x0.length : Int) then (if 0 ≤ x3 then (if x3 ≤ (wrap64 (x3 + 1)) then (if (wrap64 (x3 + 1)) ≤ (x0.length : Int) then ((r3_Short.f k ((x0.take ((wrap64 (x3 + 1)) : Int).toNat).drop (x3 : Int).toNat)).bind fun t170 => (if t170 = true then ((r3_May.f ((rd_T23 x0 x3).f0) ((rd_T23 x0 x3).f1)).bind fun t172 => (if t172 = true then (r3_Good.l0 k x0 (wrap64 (x3 + 1))) else (some false))) else (some false))) else (none)) else (none)) else (none)) else (some true)
def r3_Good.f (k : Nat) (l0 : List (S23)) : Option (Bool) := r3_Good.l0 k l0 0
set_option maxHeartbeats 8000000 in
set_option maxRecDepth 100000 in
theorem r3_Good.calls (k : Nat) (A0 : Option Addr) (c0 : Nat) (l0 : List (S23)) (r : Bool) (w : World) (hr0 : Kd.C k23 w A0 l0.length l0) (hc0 : l0.length ≤ c0) (h : r3_Good.f k l0 = some r) :
  Calls Tryz.prog 5 #[.slice A0 l0.length c0] w fun e w' => e = .returned (.bool r) ∧ Below w.heap.size w w' := by
 have hu23 := Tryz.underlying23; have HR0 := Aside0.mk hr0; have HC0 := Aside0.mk hc0; clear hr0 hc0; have HB := Aside0.mk (Below.refl w.heap.size w); have H := h; unfold r3_Good.f at H; clear h; have H' := Aside0.mk H; clear H; go_enter Tryz.func5, Tryz.ntmps5; go_wp2
 go_loopg [3] k (fun kq v3 w' => ∃ (x3_1 : Int), v3 = .int .i64 x3_1 ∧ Aside0 (r3_Good.l0 kq l0 x3_1 = some r) ∧ Aside0 (kq ≤ k) ∧ Aside0 (Below w.heap.size w w'))
 case atStart => exact ⟨(0), rl_, H', ⟨Nat.le_refl _⟩, ⟨b_ HB.out⟩⟩
 case round =>
  clear H'; obtain ⟨x3_1, rfl, HA, HK1, HB⟩ := hrel
  cases gk with
  | zero => exact absurd HA.out (by simp [r3_Good.l0])
  | succ k1 =>
   have H := HA.out; clear HA; simp only [r3_Good.l0] at H; by_cases c2 : x3_1 < (l0.length : Int)
   ·rw [if_pos c2] at H; have c2b0 : decide (x3_1 < (l0.length : Int)) = true := decide_eq_true c2; clear c2; by_cases c3 : 0 ≤ x3_1
    ·rw [if_pos c3] at H; have c3b0 := eq_true c3; have c3b1 : decide (0 ≤ x3_1) = true := decide_eq_true c3; clear c3; by_cases c4 : x3_1 ≤ (wrap64 (x3_1 + 1))
     ·rw [if_pos c4] at H; have c4b0 := eq_true c4; have c4b1 : decide (x3_1 ≤ (wrap64 (x3_1 + 1))) = true := decide_eq_true c4
      have c4b1w : decide (x3_1 ≤ (IntKind.i64.wrap (x3_1 + 1))) = true := by simp only [i64_w]; exact c4b1
      by_cases c5 : (wrap64 (x3_1 + 1)) ≤ (l0.length : Int)
      ·rw [if_pos c5] at H; have c5b0 := eq_true c5; have c5b1 : decide ((wrap64 (x3_1 + 1)) ≤ (l0.length : Int)) = true := decide_eq_true c5
       have c5b1w : decide ((IntKind.i64.wrap (x3_1 + 1)) ≤ (l0.length : Int)) = true := by simp only [i64_w]; exact c5b1
       obtain ⟨y166, hy166⟩ : ∃ y_ : List (S23), y_ = ((l0.take ((wrap64 (x3_1 + 1)) : Int).toNat).drop (x3_1 : Int).toNat) := ⟨_, rfl⟩
       replace H : ((r3_Short.f k1 y166).bind fun t170 => (if t170 = true then ((r3_May.f ((rd_T23 l0 x3_1).f0) ((rd_T23 l0 x3_1).f1)).bind fun t172 => (if t172 = true then (r3_Good.l0 k1 l0 (wrap64 (x3_1 + 1))) else (some false))) else (some false))) = some r := by first | (rw [hy166]; with_reducible exact H) | (have H2_ := (Option.bind_some _ _).symm.trans H; rw [hy166]; with_reducible exact H2_) | (have H2_ := (Option.bind_some _ _).symm.trans H; with_reducible exact H2_) | with_reducible exact H | (rw [hy166]; exact H) | exact H
       have Ny166 := Aside0.mk hy166; clear hy166; obtain ⟨t170, A6, H⟩ := bi_ H; by_cases c7 : t170 = true
       ·subst c7; rw [if_pos rfl] at H; obtain ⟨t172, A8, H⟩ := bi_ H; by_cases c9 : t172 = true
        ·subst c9; rw [if_pos rfl] at H; have H' := Aside0.mk H; clear H; have q10 : ((wrap64 (x3_1 + 1)) : Int) ≤ ((l0.length : Int) : Int) := of_decide_eq_true as_f; obtain ⟨i010, hi010, _, hsz10, _⟩ := info_parts info23; have hroom10 : l0.length ≤ c0 := HC0.out; have hC10 : Kd.C k23 _ A0 l0.length l0 := HR0.out; have ql10 : (x3_1 : Int) ≤ ((wrap64 (x3_1 + 1)) : Int) := of_decide_eq_true as_f; have q010 : (0 : Int) ≤ (x3_1 : Int) := of_decide_eq_true as_f; have hcut10 := cut_mid (P := Tryz.prog) 26 23 .i64 .i64 Tryz.underlying26 hi010 2 hsz10 A0 l0.length c0 x3_1 (wrap64 (x3_1 + 1)) q010 ql10 q10 hroom10; have hr10 := Kd.C_mid (lo := (x3_1 : Int).toNat) (hi := ((wrap64 (x3_1 + 1)) : Int).toNat) (c := c0) hC10 (by omega) (by omega) hroom10; obtain ⟨A10, hA10⟩ : ∃ A1, A1 = (if c0 = (x3_1 : Int).toNat then A0 else (A0 : Option Addr).map (·.add ((x3_1 : Int).toNat * 2))) := ⟨_, rfl⟩; obtain ⟨c10, hc10⟩ : ∃ c1, c1 = c0 - (x3_1 : Int).toNat := ⟨_, rfl⟩; have hy10 : y166.length = ((wrap64 (x3_1 + 1)) : Int).toNat - (x3_1 : Int).toNat := (by rw [Ny166.out, List.length_drop, List.length_take] <;> omega); rw [show ((l0).take ((wrap64 (x3_1 + 1)) : Int).toNat).drop (x3_1 : Int).toNat = y166 from Ny166.out.symm] at hr10; replace hr10 : Kd.C k23 _ A10 y166.length y166 := (by rw [hA10]; exact hr10); rw [← hy10, ← hA10, ← hc10] at hcut10; have HR169 := Aside0.mk hr10; have HC169 := Aside0.mk (show y166.length ≤ c10 from by rw [hy10, hc10]; exact Nat.sub_le_sub_right (Nat.le_trans (by omega) hroom10) _); clear hr10 hC10 hroom10 hi010 hsz10 hc10; have KY10 := Aside0.mk hy10; have KA10 := Aside0.mk hA10; clear hy10 hA10; replace q10 := eq_true q10
         go_wp2_with (first | (refine gl_ 15 Tryz.func18 #[.slice A10 y166.length c10] ?_; refine mo_ (r3_Short.calls k1 _ _ y166 true _ (c_ (Kd.C_below HR169.out HB.out)) (HC169.out) A6.out) ?_; rintro w' ⟨nd, rfl⟩; have p171 : 0 ≤ (x3_1 : Int) := of_decide_eq_true as_f; have q171 : x3_1 < (l0.length : Int) := of_decide_eq_true as_f; obtain ⟨ad171, e171, hx171_0, hx171_1⟩ := at_T23 HR0.out x3_1 p171 q171; cases e171; replace hx171_0 := (HB.out.cell (World.block_lt_of_cell? w _ hx171_0)).trans hx171_0; replace hx171_1 := (HB.out.cell (World.block_lt_of_cell? w _ hx171_1)).trans hx171_1; replace p171 := eq_true p171; replace q171 := eq_true q171) | (go_at_call 11; (with_reducible refine (r3_May.calls ((rd_T23 l0 x3_1).f0) ((rd_T23 l0 x3_1).f1) true _ A8.out).mono ?_); rintro e w11 ⟨rfl, hb⟩; replace HB := bs_ HB hb; (try clear hb); (try clear hb2); (try clear hk); (try clear hi)))
         go_roundg k1
         case measure => have := HK1.out; omega
         case rel => exact ⟨(wrap64 (x3_1 + 1)), rl_, H', ⟨by have := HK1.out; omega⟩, ⟨b_ HB.out⟩⟩
        ·replace c9 := Bool.eq_false_iff.mpr c9; subst c9; rw [if_neg nf_] at H; obtain rfl := Option.some.inj H; have q12 : ((wrap64 (x3_1 + 1)) : Int) ≤ ((l0.length : Int) : Int) := of_decide_eq_true as_f; obtain ⟨i012, hi012, _, hsz12, _⟩ := info_parts info23; have hroom12 : l0.length ≤ c0 := HC0.out; have hC12 : Kd.C k23 _ A0 l0.length l0 := HR0.out; have ql12 : (x3_1 : Int) ≤ ((wrap64 (x3_1 + 1)) : Int) := of_decide_eq_true as_f; have q012 : (0 : Int) ≤ (x3_1 : Int) := of_decide_eq_true as_f; have hcut12 := cut_mid (P := Tryz.prog) 26 23 .i64 .i64 Tryz.underlying26 hi012 2 hsz12 A0 l0.length c0 x3_1 (wrap64 (x3_1 + 1)) q012 ql12 q12 hroom12; have hr12 := Kd.C_mid (lo := (x3_1 : Int).toNat) (hi := ((wrap64 (x3_1 + 1)) : Int).toNat) (c := c0) hC12 (by omega) (by omega) hroom12; obtain ⟨A12, hA12⟩ : ∃ A1, A1 = (if c0 = (x3_1 : Int).toNat then A0 else (A0 : Option Addr).map (·.add ((x3_1 : Int).toNat * 2))) := ⟨_, rfl⟩; obtain ⟨c12, hc12⟩ : ∃ c1, c1 = c0 - (x3_1 : Int).toNat := ⟨_, rfl⟩; have hy12 : y166.length = ((wrap64 (x3_1 + 1)) : Int).toNat - (x3_1 : Int).toNat := (by rw [Ny166.out, List.length_drop, List.length_take] <;> omega); rw [show ((l0).take ((wrap64 (x3_1 + 1)) : Int).toNat).drop (x3_1 : Int).toNat = y166 from Ny166.out.symm] at hr12; replace hr12 : Kd.C k23 _ A12 y166.length y166 := (by rw [hA12]; exact hr12); rw [← hy12, ← hA12, ← hc12] at hcut12; have HR169 := Aside0.mk hr12; have HC169 := Aside0.mk (show y166.length ≤ c12 from by rw [hy12, hc12]; exact Nat.sub_le_sub_right (Nat.le_trans (by omega) hroom12) _); clear hr12 hC12 hroom12 hi012 hsz12 hc12; have KY12 := Aside0.mk hy12; have KA12 := Aside0.mk hA12; clear hy12 hA12; replace q12 := eq_true q12
         go_wp2_with (first | (refine gl_ 15 Tryz.func18 #[.slice A12 y166.length c12] ?_; refine mo_ (r3_Short.calls k1 _ _ y166 true _ (c_ (Kd.C_below HR169.out HB.out)) (HC169.out) A6.out) ?_; rintro w' ⟨nd, rfl⟩; have p171 : 0 ≤ (x3_1 : Int) := of_decide_eq_true as_f; have q171 : x3_1 < (l0.length : Int) := of_decide_eq_true as_f; obtain ⟨ad171, e171, hx171_0, hx171_1⟩ := at_T23 HR0.out x3_1 p171 q171; cases e171; replace hx171_0 := (HB.out.cell (World.block_lt_of_cell? w _ hx171_0)).trans hx171_0; replace hx171_1 := (HB.out.cell (World.block_lt_of_cell? w _ hx171_1)).trans hx171_1; replace p171 := eq_true p171; replace q171 := eq_true q171) | (go_at_call 11; (with_reducible refine (r3_May.calls ((rd_T23 l0 x3_1).f0) ((rd_T23 l0 x3_1).f1) false _ A8.out).mono ?_); rintro e w13 ⟨rfl, hb⟩; replace HB := bs_ HB hb; (try clear hb); (try clear hb2); (try clear hk); (try clear hi)))
         go_ret
         exact ⟨er_, b_ HB.out⟩
       ·replace c7 := Bool.eq_false_iff.mpr c7; subst c7; rw [if_neg nf_] at H; obtain rfl := Option.some.inj H; have q14 : ((wrap64 (x3_1 + 1)) : Int) ≤ ((l0.length : Int) : Int) := of_decide_eq_true as_f; obtain ⟨i014, hi014, _, hsz14, _⟩ := info_parts info23; have hroom14 : l0.length ≤ c0 := HC0.out; have hC14 : Kd.C k23 _ A0 l0.length l0 := HR0.out; have ql14 : (x3_1 : Int) ≤ ((wrap64 (x3_1 + 1)) : Int) := of_decide_eq_true as_f; have q014 : (0 : Int) ≤ (x3_1 : Int) := of_decide_eq_true as_f; have hcut14 := cut_mid (P := Tryz.prog) 26 23 .i64 .i64 Tryz.underlying26 hi014 2 hsz14 A0 l0.length c0 x3_1 (wrap64 (x3_1 + 1)) q014 ql14 q14 hroom14; have hr14 := Kd.C_mid (lo := (x3_1 : Int).toNat) (hi := ((wrap64 (x3_1 + 1)) : Int).toNat) (c := c0) hC14 (by omega) (by omega) hroom14; obtain ⟨A14, hA14⟩ : ∃ A1, A1 = (if c0 = (x3_1 : Int).toNat then A0 else (A0 : Option Addr).map (·.add ((x3_1 : Int).toNat * 2))) := ⟨_, rfl⟩; obtain ⟨c14, hc14⟩ : ∃ c1, c1 = c0 - (x3_1 : Int).toNat := ⟨_, rfl⟩; have hy14 : y166.length = ((wrap64 (x3_1 + 1)) : Int).toNat - (x3_1 : Int).toNat := (by rw [Ny166.out, List.length_drop, List.length_take] <;> omega); rw [show ((l0).take ((wrap64 (x3_1 + 1)) : Int).toNat).drop (x3_1 : Int).toNat = y166 from Ny166.out.symm] at hr14; replace hr14 : Kd.C k23 _ A14 y166.length y166 := (by rw [hA14]; exact hr14); rw [← hy14, ← hA14, ← hc14] at hcut14; have HR169 := Aside0.mk hr14; have HC169 := Aside0.mk (show y166.length ≤ c14 from by rw [hy14, hc14]; exact Nat.sub_le_sub_right (Nat.le_trans (by omega) hroom14) _); clear hr14 hC14 hroom14 hi014 hsz14 hc14; have KY14 := Aside0.mk hy14; have KA14 := Aside0.mk hA14; clear hy14 hA14; replace q14 := eq_true q14
        go_wp2_with (first | (refine gl_ 15 Tryz.func18 #[.slice A14 y166.length c14] ?_; refine mo_ (r3_Short.calls k1 _ _ y166 false _ (c_ (Kd.C_below HR169.out HB.out)) (HC169.out) A6.out) ?_; rintro w' ⟨nd, rfl⟩))
        go_ret
        exact ⟨er_, b_ HB.out⟩
      ·rw [if_neg c5] at H; exact absurd H (by simp)
     ·rw [if_neg c4] at H; exact absurd H (by simp)
    ·rw [if_neg c3] at H; exact absurd H (by simp)
   ·rw [if_neg c2] at H; have c2b0 : decide (x3_1 < (l0.length : Int)) = false := decide_eq_false c2; clear c2; obtain rfl := Option.some.inj H; go_wp2
    go_ret
    exact ⟨er_, b_ HB.out⟩
def r3_One.f (k : Nat) (a0 : Int) (a1 : Int) : Option (ByteArray × ByteArray) := (r2_Of.f a0).bind fun t174 => ((r2_Of.f a1).bind fun t175 => ((r3_Make.f k t174 t175).bind fun bt176 => (some (bt176.1, bt176.2.1))))
set_option maxHeartbeats 8000000 in
set_option maxRecDepth 100000 in
theorem r3_One.calls (k : Nat) (a0 : Int) (a1 : Int) (r1 : ByteArray) (r2 : ByteArray) (w : World) (h : r3_One.f k a0 a1 = some (r1, r2)) :
  Calls Tryz.prog 15 #[.int .i64 a0, .int .i64 a1] w fun e w' => e = .returned (.agg #[.string r1, .string r2]) ∧ Below w.heap.size w w' := by
 have hu23 := Tryz.underlying23; have HB := Aside0.mk (Below.refl w.heap.size w); have H := h; unfold r3_One.f at H; clear h; obtain ⟨t174, A3, H⟩ := bi_ H; obtain ⟨t175, A4, H⟩ := bi_ H; obtain ⟨⟨t176, t177, t178⟩, A5, H⟩ := bi_ H; (try dsimp only at H); simp only [Option.some.injEq, Prod.mk.injEq] at H; obtain ⟨rfl, rfl⟩ := H; go_enter Tryz.func15, Tryz.ntmps15
 go_wp2_with (first | ((with_reducible refine gate_dst (N := 4) rfl ?_); refine be_ 4 #[.string (⟨#[]⟩ : ByteArray), .string (⟨#[]⟩ : ByteArray)] 23 ?_; intro gb173 hg w6 hbox hb; have BK173 := Aside0.mk (hbox); have GW173 := ge_ HB hg; have GE173 := ge_ HB hg; replace HB := bs_ HB hb; clear hb hbox hg) | (refine gl_ 9 Tryz.func37 #[.int .i64 a0] ?_; refine mo_ (r2_Of.calls a0 t174 _ A3.out) ?_; intro w7 hb; replace BK173 := kb_ BK173 hb; replace HB := bs_ HB hb; (try clear hb); (try clear hb2); (try clear hk); (try clear hi)) | (refine gl_ 11 Tryz.func37 #[.int .i64 a1] ?_; refine mo_ (r2_Of.calls a1 t175 _ A4.out) ?_; intro w8 hb; replace BK173 := kb_ BK173 hb; replace HB := bs_ HB hb; (try clear hb); (try clear hb2); (try clear hk); (try clear hi)) | (refine gl_ 12 Tryz.func24 #[.string t174, .string t175] ?_; refine mo_ (r3_Make.calls k t174 t175 t176 t177 t178 _ A5.out) ?_; intro w9 hb; replace BK173 := kb_ BK173 hb; replace HB := bs_ HB hb; (try clear hb); (try clear hb2); (try clear hk); (try clear hi)) | ((with_reducible refine gate_dst (N := 5) rfl ?_); refine be_ 5 #[.string (⟨#[]⟩ : ByteArray), .string (⟨#[]⟩ : ByteArray)] 23 ?_; intro gb179 hg w10 hbox hb; have BK179 := Aside0.mk (hbox); have GW179 := ge_ HB hg; have GE179 := ge_ HB hg; have NB173_179 := nl_ BK173 hg; have NB179_173 := ng_ BK173 hg; replace BK173 := kb_ BK173 hb; replace HB := bs_ HB hb; clear hb hbox hg; have hnb11 := NB179_173.out; have hnc11 := NB173_179.out; have hcz12_0 := bc_ BK179 0 rfl; have hcz12_1 := bc_ BK179 1 rfl; have hfz12_0 := blk_frozen BK179.out 0; have hfz12_1 := blk_frozen BK179.out 1; have hcz13_0 := bc_ BK173 0 rfl; have hcz13_1 := bc_ BK173 1 rfl; have hfz13_0 := blk_frozen BK173.out 0; have hfz13_1 := blk_frozen BK173.out 1))
 refine bodyPost_ret (results_cell_row rfl _ _ gb173 23 #[.string t176, .string t177] (0, 0) _ rfl (by refine k_ ?_; refine blk_put (cs := #[.string t176, .string (⟨#[]⟩ : ByteArray)]) ?_ 1 _ rfl; refine k_ ?_; refine blk_put (cs := #[.string (⟨#[]⟩ : ByteArray), .string (⟨#[]⟩ : ByteArray)]) ?_ 0 _ rfl; refine k_ ?_; refine blk_far ?_ NB173_179.out _; refine k_ ?_; refine blk_far ?_ NB173_179.out _; refine k_ ?_; exact BK173.out) Tryz.underlying23 rfl (by kernel_rfl)) rfl ?_; exact ⟨er_, b_ HB.out⟩
end Go.Proofs.YtnhpnnbjimnmlaaGreatDoor.Pz
end

section
namespace Go.Proofs.YtnhpnnbjimnmlaaGreatDoor.Pz
end Go.Proofs.YtnhpnnbjimnmlaaGreatDoor.Pz
end

section
namespace Go.Proofs.YtnhpnnbjimnmlaaGreatDoor
theorem smr_int {x : Int} (h : szI x ≤ 20000) : smr (intB x) = true := decide_eq_true h
theorem smr2_int {x y : Int} (hx : szI x ≤ 20000) (hy : szI y ≤ 20000) : smr2 (intB x) (intB y) = true := by
 unfold smr2
 rw [smr_int hx, smr_int hy]
 rfl
theorem qAbs {x : Int} (hx : szI x ≤ 20000) : r2_Abs.f (intB x) = some (natB x.natAbs) := by
 unfold r2_Abs.f wabsS
 rw [if_pos (smr_int hx), if_pos (mayW_int x), numW_int]
theorem qNeg {x : Int} (hx : szI x ≤ 20000) : r2_Neg.f (intB x) = some (intB (-x)) := by
 unfold r2_Neg.f wnegS
 rw [if_pos (smr_int hx), if_pos (mayW_int x), numW_int]
theorem qSign {x : Int} (hx : szI x ≤ 20000) : r2_Sign.f (intB x) = some (Lib.compareInt x 0) := by
 unfold r2_Sign.f wsignS
 rw [if_pos (smr_int hx), if_pos (mayW_int x), numW_int]
theorem qAdd {x y : Int} (hx : szI x ≤ 20000) (hy : szI y ≤ 20000) : r2_Add.f (intB x) (intB y) = some (intB (x + y)) := by
 unfold r2_Add.f waddS
 rw [if_pos (smr2_int hx hy), if_pos (may2W_int' x y), numW_int, numW_int]
theorem qMul {x y : Int} (hx : szI x ≤ 20000) (hy : szI y ≤ 20000) : r2_Mul.f (intB x) (intB y) = some (intB (x * y)) := by
 unfold r2_Mul.f wmulS
 rw [if_pos (smr2_int hx hy), if_pos (may2W_int' x y), numW_int, numW_int]
theorem qMulN {x : Int} {n : Nat} (hx : szI x ≤ 20000) (hn : sz n ≤ 20000) : r2_Mul.f (intB x) (natB n) = some (intB (x * (n : Int))) := by
 rw [← intB_nat]
 exact qMul hx (by rw [szI_nat]; exact hn)
theorem qNMul {x : Int} {n : Nat} (hx : szI x ≤ 20000) (hn : sz n ≤ 20000) : r2_Mul.f (natB n) (intB x) = some (intB ((n : Int) * x)) := by
 rw [← intB_nat]
 exact qMul (by rw [szI_nat]; exact hn) hx
theorem qDiv {x y : Int} (hx : szI x ≤ 20000) (hy : szI y ≤ 20000) (h : y ≠ 0) : r2_Div.f (intB x) (intB y) = some (intB (x / y), intB (x % y), true) := by
 unfold r2_Div.f wdivS
 rw [if_pos (smr2_int hx hy), may2W_int', Bool.true_and, numW_int, numW_int, if_pos (decide_eq_true h)]
theorem rGcd {m n : Nat} (hm : sz m ≤ 50000) (hn : sz n ≤ 50000) : r1_Gcd.f (natB m) (natB n) = some (natB (Nat.gcd m n)) := by
 unfold r1_Gcd.f gcdS
 rw [if_pos (sm2_natB hm hn), if_pos (may2_natB m n), numB_natB, numB_natB]
theorem natB_beq_one' (m : Nat) : ((natB m).toList == ([49] : List UInt8)) = (m == 1) := by
 rw [Bool.eq_iff_iff, beq_iff_eq, beq_iff_eq, natB_toList_one]
theorem r3may_f {a b : ByteArray} (ha : a.size ≤ 20000) (hb : b.size ≤ 20000) : Pz.r3_May.f a b = some (mayR (a, b)) := by
 unfold Pz.r3_May.f mayR
 rw [rMay2 (by omega), Option.bind_some]
 by_cases h1 : mayW a = true
 ·rw [if_pos h1, rMay (by omega), Option.bind_some]
  by_cases h2 : mayB b = true
  ·obtain ⟨z, rfl⟩ := of_mayW h1
   obtain ⟨n, rfl, e2⟩ := of_may h2
   have s1 : szI z ≤ 20000 := ha
   have s2 : sz n ≤ 20000 := hb
   have s3 := le_szI z
   rw [if_pos h2, h1, h2, numW_int, numB_natB]
   by_cases h3 : n = 0
   ·rw [if_pos (natB_toList_zero.2 h3), h3]
    rfl
   ·rw [if_neg (fun e => h3 (natB_toList_zero.1 e)), qAbs (by omega), Option.bind_some, rGcd (by omega) (by omega), Option.bind_some, natB_beq_one', decide_eq_true h3]
    rfl
  ·rw [if_neg h2, h1, (Bool.not_eq_true _).mp h2]
   rfl
 ·rw [if_neg h1, (Bool.not_eq_true _).mp h1]
  rfl
theorem gcd_le_l' {x y : Int} (hy : y ≠ 0) : sz (Nat.gcd x.natAbs y.natAbs) ≤ szI y := by
 have h := sz_mono (Nat.gcd_le_right x.natAbs (show 0 < y.natAbs by omega))
 have := le_szI y
 omega
theorem mk_core {x y : Int} (hy : 0 < y) (hx : szI x ≤ 20000) (hs : szI y ≤ 20000) (k : Nat) : Pz.r3_Make.j1 (k + 1) (intB x) (intB y) = some ((rT (Rat.divInt x y)).1, (rT (Rat.divInt x y)).2, true) := by
 have s3 := le_szI x
 have s4 := le_szI y
 have s5 := gcd_le_l' (x := x) (show y ≠ 0 by omega)
 have hg : ((Nat.gcd x.natAbs y.natAbs : Nat) : Int) ≠ 0 := by
  have := Nat.gcd_pos_of_pos_right x.natAbs (show 0 < y.natAbs by omega)
  omega
 have h1 := red_num (x := x) (y := y) (by omega)
 have h2 := red_den (x := x) (y := y) (by omega)
 rw [if_neg (by omega)] at h1
 have e : intB y = natB y.natAbs := by rw [intB_nonneg (by omega)]; congr 1; omega
 have e' : (y.natAbs : Int) = y := by omega
 simp only [Pz.r3_Make.j1]
 rw [qAbs (by omega), Option.bind_some, e, rGcd (by omega) (by omega), Option.bind_some, ← e, ← intB_nat, qDiv (by omega) (by rw [szI_nat]; omega) hg, Option.bind_some, qDiv (by omega) (by rw [szI_nat]; omega) hg, Option.bind_some]
 rw [e'] at h2
 show some (intB _, intB _, true) = some (intB _, natB _, true)
 rw [h1, h2, intB_nat]
theorem mk_f {x y : Int} (hx : szI x ≤ 19000) (hs : szI y ≤ 19000) (k : Nat) : Pz.r3_Make.f (k + 2) (intB x) (intB y) = some (if y = 0 then (noB, noB, false) else ((rT (Rat.divInt x y)).1, (rT (Rat.divInt x y)).2, true)) := by
 unfold Pz.r3_Make.f
 rw [rMay2 (show szI x ≤ 50000 by omega), Option.bind_some, if_pos (mayW_int x), rMay2 (show szI y ≤ 50000 by omega), Option.bind_some, if_pos (mayW_int y), intB_beq_zero]
 show Pz.r3_Make.j0 (k + 1 + 1) _ _ _ = _
 simp only [Pz.r3_Make.j0]
 by_cases h0 : y = 0
 ·rw [if_pos (decide_eq_true h0), if_pos h0]
  rfl
 ·rw [if_neg (by rw [decide_eq_true_eq]; exact h0), if_neg h0, qSign (by omega), Option.bind_some]
  by_cases h : y < 0
  ·have n1 := szI_neg x
   have n2 := szI_neg y
   rw [if_pos (by rw [cmp_lt' h]; decide), qNeg (by omega), Option.bind_some, qNeg (by omega), Option.bind_some, mk_core (by omega) (by omega) (by omega), Rat.neg_divInt_neg]
  ·rw [if_neg (by rw [cmp_gt' (by omega)]; decide), mk_core (by omega) (by omega) (by omega)]
theorem mk_nf {x : Int} {n : Nat} (hy : n ≠ 0) (hx : szI x ≤ 19000) (hs : sz n ≤ 19000) (k : Nat) : Pz.r3_Make.f (k + 2) (intB x) (natB n) = some ((rT (Rat.divInt x (n : Int))).1, (rT (Rat.divInt x (n : Int))).2, true) := by
 rw [← intB_nat, mk_f hx (by rw [szI_nat]; exact hs), if_neg (by omega)]
theorem r3make_f {a b : ByteArray} (ha : a.size ≤ 19000) (hb : b.size ≤ 19000) (k : Nat) : Pz.r3_Make.f (k + 1) a b = some ((rmakeS a b).1.1, (rmakeS a b).1.2, (rmakeS a b).2) ∨ k = 0 := by
 by_cases hk : k = 0
 ·exact .inr hk
 obtain ⟨k, rfl⟩ : ∃ m, k = m + 1 := ⟨k - 1, by omega⟩
 refine .inl ?_
 by_cases h1 : mayW a = true
 ·by_cases h2 : mayW b = true
  ·obtain ⟨x, rfl⟩ := of_mayW h1
   obtain ⟨y, rfl⟩ := of_mayW h2
   rw [mk_f ha hb]
   unfold rmakeS
   rw [may2W_int', Bool.true_and, numW_int, numW_int]
   by_cases h3 : y = 0
   ·rw [if_pos h3, if_neg (by rw [h3]; decide)]
    rfl
   ·rw [if_neg h3, if_pos (decide_eq_true h3)]
  ·unfold Pz.r3_Make.f rmakeS
   rw [rMay2 (by omega), Option.bind_some, if_pos h1, rMay2 (by omega), Option.bind_some, if_neg h2, show may2W a b = false by unfold may2W; rw [h1, (Bool.not_eq_true _).mp h2]; rfl]
   rfl
 ·unfold Pz.r3_Make.f rmakeS
  rw [rMay2 (by omega), Option.bind_some, if_neg h1, show may2W a b = false by unfold may2W; rw [(Bool.not_eq_true _).mp h1]; rfl]
  rfl
theorem r3make_f2 {a b : ByteArray} (ha : a.size ≤ 19000) (hb : b.size ≤ 19000) (k : Nat) : Pz.r3_Make.f (k + 2) a b = some ((rmakeS a b).1.1, (rmakeS a b).1.2, (rmakeS a b).2) := (r3make_f ha hb (k + 1)).resolve_right (by omega)
theorem r3sign_f {x : BB} (ha : x.1.size ≤ 20000) (hb : x.2.size ≤ 20000) : Pz.r3_Sign.f x.1 x.2 = some (rsignS x) := by
 unfold Pz.r3_Sign.f rsignS
 rw [r3may_f ha hb, Option.bind_some]
 by_cases h : mayR x = true
 ·obtain ⟨q, rfl⟩ := of_mayR h
  have s1 : szI q.num ≤ 20000 := ha
  rw [if_pos h, if_pos h, ratR_rT]
  show ((r2_Sign.f (intB q.num)).bind fun t => some t) = _
  rw [qSign (by omega), Option.bind_some, ← signQ_cmp]
  rfl
 ·rw [if_neg h, if_neg h]
theorem r3neg_f {x : BB} (ha : x.1.size ≤ 20000) (hb : x.2.size ≤ 20000) : Pz.r3_Neg.f x.1 x.2 = some (rnegS x) := by
 unfold Pz.r3_Neg.f rnegS
 rw [r3may_f ha hb, Option.bind_some]
 by_cases h : mayR x = true
 ·obtain ⟨q, rfl⟩ := of_mayR h
  have s1 : szI q.num ≤ 20000 := ha
  rw [if_pos h, if_pos h, ratR_rT]
  show ((r2_Neg.f (intB q.num)).bind fun t => some (t, natB q.den)) = some (intB (-q).num, natB (-q).den)
  rw [qNeg (by omega), Option.bind_some, Rat.neg_num, Rat.neg_den]
 ·rw [if_neg h, if_neg h]
  rfl
theorem sm_rT' {q : Rat} (h : smR (rT q) = true) : szI q.num ≤ 4000 ∧ sz q.den ≤ 4000 := smR_le h
theorem r3two {x y : BB} (hm : ¬ may2R x y = true) (h : mayR x = true) : mayR y = false := (Bool.not_eq_true _).mp (fun h2 => hm (by unfold may2R; rw [h, h2]; rfl))
theorem r3add_f {x y : BB} (hx : smR x = true) (hy : smR y = true) (k : Nat) : Pz.r3_Add.f (k + 3) x.1 x.2 y.1 y.2 = some (raddS x y) := by
 have h1 := smR_le hx
 have h2 := smR_le hy
 unfold Pz.r3_Add.f raddS
 rw [r3may_f (by omega) (by omega), Option.bind_some]
 rcases casesR x y with ⟨p, q, rfl, rfl⟩ | hm
 ·have h1 := sm_rT' hx
  have h2 := sm_rT' hy
  have s1 := szI_mul p.num (q.den : Int)
  have s2 := szI_mul q.num (p.den : Int)
  rw [szI_nat] at s1 s2
  have s3 := szI_add (p.num * (q.den : Int)) (q.num * (p.den : Int))
  have s4 := sz_mul p.den q.den
  rw [if_pos (mayR_rT p), r3may_f (by omega) (by omega), Option.bind_some, if_pos (may2R_rT p q), ratR_rT, ratR_rT, show mayR ((rT q).1, (rT q).2) = true from mayR_rT q]
  show Pz.r3_Add.j0 (k + 2 + 1) _ (intB p.num) (natB p.den) (intB q.num) (natB q.den) = _
  simp only [Pz.r3_Add.j0]
  rw [if_neg (by decide), qMulN (by omega) (by omega), Option.bind_some, qMulN (by omega) (by omega), Option.bind_some, qAdd (by omega) (by omega), Option.bind_some, rMul (by omega) (by omega), Option.bind_some, mk_nf (Nat.mul_ne_zero p.den_nz q.den_nz) (by omega) (by omega), Option.bind_some, Int.natCast_mul, add_parts]
 ·rw [if_neg hm]
  by_cases h : mayR x = true
  ·rw [if_pos h, r3may_f (by omega) (by omega), Option.bind_some, show mayR (y.1, y.2) = false from r3two hm h]
   show Pz.r3_Add.j0 (k + 2 + 1) _ _ _ _ _ = _
   simp only [Pz.r3_Add.j0]
   rfl
  ·rw [if_neg h]
   show Pz.r3_Add.j0 (k + 2 + 1) _ _ _ _ _ = _
   simp only [Pz.r3_Add.j0]
   rfl
theorem rneg_sm' {y : BB} (hy : y.1.size ≤ 3999 ∧ y.2.size ≤ 4000) : smR (rnegS y) = true := by
 unfold rnegS
 by_cases h : mayR y = true
 ·obtain ⟨q, rfl⟩ := of_mayR h
  have h1 : szI q.num ≤ 3999 := hy.1
  have h2 : sz q.den ≤ 4000 := hy.2
  have h3 := szI_neg q.num
  rw [if_pos h, ratR_rT]
  refine decide_eq_true ⟨?_, ?_⟩
  ·show szI (-q).num ≤ 4000
   rw [Rat.neg_num]
   omega
  ·show sz (-q).den ≤ 4000
   rw [Rat.neg_den]
   exact h2
 ·rw [if_neg h]
  rfl
theorem add_neg_S' {x y : BB} : raddS x (rnegS y) = rsubS x y := by
 unfold raddS rsubS rnegS
 by_cases h : mayR y = true
 ·rw [if_pos h]
  have e : may2R x (rT (-ratR y)) = may2R x y := by unfold may2R; rw [mayR_rT, h]
  rw [e, ratR_rT, ← Rat.sub_eq_add_neg]
 ·have e : may2R x y = false := by unfold may2R; rw [(Bool.not_eq_true _).mp h, Bool.and_false]
  have e2 : may2R x no2 = false := by unfold may2R; rw [show mayR no2 = false by decide, Bool.and_false]
  rw [if_neg h, e, e2]
  rfl
theorem r3sub_f {x y : BB} (hx : smR x = true) (hy : y.1.size ≤ 3999 ∧ y.2.size ≤ 4000) (k : Nat) : Pz.r3_Sub.f (k + 3) x.1 x.2 y.1 y.2 = some (rsubS x y) := by
 unfold Pz.r3_Sub.f
 rw [r3neg_f (by omega) (by omega), Option.bind_some, r3add_f hx (rneg_sm' hy), Option.bind_some, add_neg_S']
theorem cmpQ_sub (x y : Rat) : cmpQ (x - y) 0 = cmpQ x y := by
 unfold cmpQ
 have e1 : x - y < 0 ↔ x < y := by constructor <;> intro h <;> grind
 have e2 : 0 < x - y ↔ y < x := by constructor <;> intro h <;> grind
 simp only [e1, e2]
theorem r3cmp_f {x y : BB} (hx : smR x = true) (hy : y.1.size ≤ 3999 ∧ y.2.size ≤ 4000) (k : Nat) : Pz.r3_Cmp.f (k + 3) x.1 x.2 y.1 y.2 = some (rcmpS x y) := by
 unfold Pz.r3_Cmp.f
 rw [r3sub_f hx hy, Option.bind_some]
 rcases casesR x y with ⟨p, q, rfl, rfl⟩ | hm
 ·have h1 := sm_rT' hx
  have h2 : szI q.num ≤ 3999 ∧ sz q.den ≤ 4000 := hy
  have hs : (rsubS (rT p) (rT q)).1.size ≤ 20000 ∧ (rsubS (rT p) (rT q)).2.size ≤ 20000 := by
   unfold rsubS
   rw [if_pos (may2R_rT p q), ratR_rT, ratR_rT]
   have e : p - q = Rat.divInt (p.num * (q.den : Int) + (-q).num * (p.den : Int)) ((p.den : Int) * (q.den : Int)) := by
    have := add_parts p (-q)
    rw [Rat.neg_den] at this
    rw [this, Rat.sub_eq_add_neg]
   have hne : (p.den : Int) * (q.den : Int) ≠ 0 := Int.mul_ne_zero (den_ne p) (den_ne q)
   have t1 := sz_den_le (p.num * (q.den : Int) + (-q).num * (p.den : Int)) hne
   have t2 := sz_num_le (p.num * (q.den : Int) + (-q).num * (p.den : Int)) hne
   rw [← e] at t1 t2
   have s1 := szI_mul p.num (q.den : Int)
   have s2 := szI_mul (-q).num (p.den : Int)
   have s3 := szI_add (p.num * (q.den : Int)) ((-q).num * (p.den : Int))
   have s4 := szI_mul (p.den : Int) (q.den : Int)
   have s5 := szI_neg q.num
   rw [szI_nat] at s1 s2 s4
   rw [szI_nat] at s4
   rw [Rat.neg_num] at s2 s3 t2
   constructor
   ·show szI (p - q).num ≤ _
    omega
   ·show sz (p - q).den ≤ _
    omega
  rw [r3sign_f hs.1 hs.2, Option.bind_some]
  unfold rsignS rsubS rcmpS
  rw [if_pos (may2R_rT p q), if_pos (may2R_rT p q), ratR_rT, ratR_rT, if_pos (mayR_rT _), ratR_rT, cmpQ_sub]
 ·have e : rsubS x y = no2 := by unfold rsubS; rw [if_neg hm]
  rw [e, r3sign_f (by decide) (by decide), Option.bind_some]
  unfold rcmpS rsignS
  rw [if_neg hm, if_neg (by decide)]
theorem r3div_f {x y : BB} (hx : smR x = true) (hy : smR y = true) (k : Nat) : Pz.r3_Div.f (k + 3) x.1 x.2 y.1 y.2 = some ((rdivS x y).1.1, (rdivS x y).1.2, (rdivS x y).2) := by
 have h1 := smR_le hx
 have h2 := smR_le hy
 unfold Pz.r3_Div.f rdivS
 rw [r3may_f (by omega) (by omega), Option.bind_some]
 rcases casesR x y with ⟨p, q, rfl, rfl⟩ | hm
 ·have h1 := sm_rT' hx
  have h2 := sm_rT' hy
  have s1 := szI_mul p.num (q.den : Int)
  have s2 := szI_mul (p.den : Int) q.num
  rw [szI_nat] at s1 s2
  rw [if_pos (mayR_rT p), r3may_f (by omega) (by omega), Option.bind_some, may2R_rT, Bool.true_and, ratR_rT, ratR_rT, show mayR ((rT q).1, (rT q).2) = true from mayR_rT q]
  show Pz.r3_Div.j0 (k + 2 + 1) _ (intB p.num) (natB p.den) (intB q.num) (natB q.den) = _
  simp only [Pz.r3_Div.j0]
  rw [if_neg (by decide), qMulN (by omega) (by omega), Option.bind_some, qNMul (by omega) (by omega), Option.bind_some, mk_f (by omega) (by omega), Option.bind_some]
  by_cases h : q = 0
  ·subst h
   rw [if_pos (by rw [show (0 : Rat).num = 0 from rfl, Int.mul_zero]), if_neg (by decide)]
   rfl
  ·have hn := num_ne h
   rw [if_neg (Int.mul_ne_zero (den_ne p) hn), if_pos (decide_eq_true h), div_parts]
 ·rw [(Bool.not_eq_true _).mp hm]
  by_cases h : mayR x = true
  ·rw [if_pos h, r3may_f (by omega) (by omega), Option.bind_some, show mayR (y.1, y.2) = false from r3two hm h]
   show Pz.r3_Div.j0 (k + 2 + 1) _ _ _ _ _ = _
   simp only [Pz.r3_Div.j0]
   rfl
  ·rw [if_neg h]
   show Pz.r3_Div.j0 (k + 2 + 1) _ _ _ _ _ = _
   simp only [Pz.r3_Div.j0]
   rfl
theorem szI_64 {n : Int} (h0 : -9223372036854775808 ≤ n) (h1 : n ≤ 9223372036854775807) : szI n ≤ 21 := by
 have h := szI_le n
 have h2 : sz n.natAbs ≤ 20 := sz_le (by omega) (by omega)
 omega
theorem r3one_f (a b : Int) (h0 : -9223372036854775808 ≤ a) (h1 : a ≤ 9223372036854775807) (h2 : -9223372036854775808 ≤ b) (h3 : b ≤ 9223372036854775807) (k : Nat) : Pz.r3_One.f (k + 2) a b = some (if b = 0 then no2 else rT (Rat.divInt a b)) := by
 unfold Pz.r3_One.f r2_Of.f
 have s1 := szI_64 h0 h1
 have s2 := szI_64 h2 h3
 rw [if_pos ⟨h0, h1⟩, Option.bind_some, if_pos ⟨h2, h3⟩, Option.bind_some, mk_f (by omega) (by omega), Option.bind_some]
 by_cases h : b = 0
 ·rw [if_pos h, if_pos h]
  rfl
 ·rw [if_neg h, if_neg h]
def bbS (x : Pz.S23) : BB := (x.f0, x.f1)
def shortR (x : Pz.S23) : Bool := decide (x.f0.size ≤ 100) && decide (x.f1.size ≤ 100)
def goodR (x : Pz.S23) : Bool := shortR x && mayR (bbS x)
theorem r3short_loop (l : List Pz.S23) (hl : l.length ≤ 50000) : ∀ (d i k : Nat), i + d = l.length → d + 1 ≤ k → Pz.r3_Short.l0 k l (i : Int) = some ((l.drop i).all shortR)
 | 0, i, k, hi, hk => by
  obtain ⟨k, rfl⟩ : ∃ m, k = m + 1 := ⟨k - 1, by omega⟩
  simp only [Pz.r3_Short.l0]
  rw [if_neg (by omega), List.drop_of_length_le (by omega)]
  rfl
 | d + 1, i, k, hi, hk => by
  obtain ⟨k, rfl⟩ : ∃ m, k = m + 1 := ⟨k - 1, by omega⟩
  have hlt : i < l.length := by omega
  have e : Pz.rd_T23 l (i : Int) = l[i] := by
   unfold Pz.rd_T23
   rw [Int.toNat_natCast, List.getD_eq_getElem?_getD, List.getElem?_eq_getElem hlt]
   rfl
  simp only [Pz.r3_Short.l0]
  rw [if_pos (by omega), if_pos (by omega), e, List.drop_eq_getElem_cons hlt, List.all_cons, w64 (by omega) (by omega)]
  have ih := r3short_loop l hl d (i + 1) k (by omega) (by omega)
  unfold shortR at ih ⊢
  by_cases h1 : (l[i]).f0.size ≤ 100
  ·rw [if_neg (by omega), decide_eq_true h1]
   by_cases h2 : (l[i]).f1.size ≤ 100
   ·rw [if_neg (by omega), decide_eq_true h2]
    exact ih
   ·rw [if_pos (by omega), decide_eq_false h2]
    rfl
  ·rw [if_pos (by omega), decide_eq_false h1]
   rfl
theorem r3short_f (l : List Pz.S23) (hl : l.length ≤ 50000) (k : Nat) (hk : l.length + 1 ≤ k) : Pz.r3_Short.f k l = some (l.all shortR) := r3short_loop l hl l.length 0 k (by omega) hk
theorem r3good_loop (l : List Pz.S23) (hl : l.length ≤ 50000) : ∀ (d i k : Nat), i + d = l.length → d + 3 ≤ k → Pz.r3_Good.l0 k l (i : Int) = some ((l.drop i).all goodR)
 | 0, i, k, hi, hk => by
  obtain ⟨k, rfl⟩ : ∃ m, k = m + 1 := ⟨k - 1, by omega⟩
  simp only [Pz.r3_Good.l0]
  rw [if_neg (by omega), List.drop_of_length_le (by omega)]
  rfl
 | d + 1, i, k, hi, hk => by
  obtain ⟨k, rfl⟩ : ∃ m, k = m + 1 := ⟨k - 1, by omega⟩
  have hlt : i < l.length := by omega
  have e : Pz.rd_T23 l (i : Int) = l[i] := by
   unfold Pz.rd_T23
   rw [Int.toNat_natCast, List.getD_eq_getElem?_getD, List.getElem?_eq_getElem hlt]
   rfl
  have e2 : (l.take ((i : Int) + 1).toNat).drop ((i : Int)).toNat = [l[i]] := by
   have e3 : ((i : Int) + 1).toNat = i + 1 := by omega
   rw [e3, Int.toNat_natCast, List.take_add_one, List.getElem?_eq_getElem hlt, List.drop_append_of_le_length (by rw [List.length_take]; omega), List.drop_of_length_le (by rw [List.length_take]; omega)]
   rfl
  simp only [Pz.r3_Good.l0]
  rw [if_pos (by omega), if_pos (by omega), w64 (x := (i : Int) + 1) (by omega) (by omega), if_pos (by omega), if_pos (by omega), e2, r3short_f [l[i]] (by simp) k (by simp; omega), Option.bind_some, e, List.drop_eq_getElem_cons hlt, List.all_cons, List.all_cons, List.all_nil, Bool.and_true]
  have ih := r3good_loop l hl d (i + 1) k (by omega) (by omega)
  by_cases h1 : shortR l[i] = true
  ·have h1' := h1
   unfold shortR at h1'
   rw [Bool.and_eq_true, decide_eq_true_eq, decide_eq_true_eq] at h1'
   rw [if_pos h1, r3may_f (by omega) (by omega), Option.bind_some]
   by_cases h2 : mayR (l[i].f0, l[i].f1) = true
   ·have eg : goodR l[i] = true := by unfold goodR bbS; rw [h1, h2]; rfl
    rw [if_pos h2, eg, Bool.true_and]
    exact ih
   ·have eg : goodR l[i] = false := by unfold goodR bbS; rw [h1, (Bool.not_eq_true _).mp h2]; rfl
    rw [if_neg h2, eg]
    rfl
  ·have eg : goodR l[i] = false := by unfold goodR; rw [(Bool.not_eq_true _).mp h1]; rfl
   rw [if_neg h1, eg]
   rfl
theorem r3good_f (l : List Pz.S23) (hl : l.length ≤ 50000) (k : Nat) (hk : l.length + 3 ≤ k) : Pz.r3_Good.f k l = some (l.all goodR) := r3good_loop l hl l.length 0 k (by omega) hk
def r3_Short.f (l0 : List Pz.S23) : Option Bool := if l0.length ≤ 50000 then some (l0.all shortR) else none
theorem r3_Short.calls (A0 : Option Addr) (c0 : Nat) (l0 : List Pz.S23) (r : Bool) (w : World) (hr0 : Kd.C Pz.k23 w A0 l0.length l0) (hc0 : l0.length ≤ c0) (h : r3_Short.f l0 = some r) :
  Calls Tryz.prog 18 #[.slice A0 l0.length c0] w fun e w' => e = .returned (.bool r) ∧ Below w.heap.size w w' := by
 unfold r3_Short.f at h
 split at h
 ·rename_i hp
  rw [← r3short_f l0 hp _ (Nat.le_refl _)] at h
  exact (Pz.r3_Short.calls _ A0 c0 l0 r w hr0 hc0 h).mono fun e w' ⟨he, hw⟩ => ⟨he, drawn_below hw⟩
 ·cases h
def r3_Good.f (l0 : List Pz.S23) : Option Bool := if l0.length ≤ 50000 then some (l0.all goodR) else none
theorem r3_Good.calls (A0 : Option Addr) (c0 : Nat) (l0 : List Pz.S23) (r : Bool) (w : World) (hr0 : Kd.C Pz.k23 w A0 l0.length l0) (hc0 : l0.length ≤ c0) (h : r3_Good.f l0 = some r) :
  Calls Tryz.prog 5 #[.slice A0 l0.length c0] w fun e w' => e = .returned (.bool r) ∧ Below w.heap.size w w' := by
 unfold r3_Good.f at h
 split at h
 ·rename_i hp
  rw [← r3good_f l0 hp _ (Nat.le_refl _)] at h
  exact Pz.r3_Good.calls _ A0 c0 l0 r w hr0 hc0 h
 ·cases h
def r3_One.f (a0 a1 : Int) : Option BB := if (-9223372036854775808 ≤ a0 ∧ a0 ≤ 9223372036854775807) ∧ -9223372036854775808 ≤ a1 ∧ a1 ≤ 9223372036854775807 then some (if a1 = 0 then no2 else rT (Rat.divInt a0 a1)) else none
theorem r3_One.calls (a0 a1 : Int) (r1 r2 : ByteArray) (w : World) (h : r3_One.f a0 a1 = some (r1, r2)) :
  Calls Tryz.prog 15 #[.int .i64 a0, .int .i64 a1] w fun e w' => e = .returned (.agg #[.string r1, .string r2]) ∧ Below w.heap.size w w' := by
 unfold r3_One.f at h
 split at h
 ·rename_i hp
  rw [← r3one_f a0 a1 hp.1.1 hp.1.2 hp.2.1 hp.2.2 0] at h
  exact Pz.r3_One.calls _ a0 a1 r1 r2 w h
 ·cases h
end Go.Proofs.YtnhpnnbjimnmlaaGreatDoor
end

section
namespace Go.Proofs.YtnhpnnbjimnmlaaGreatDoor
def r3_May.f (a0_0 a0_1 : ByteArray) : Option (Bool) := if smR (a0_0, a0_1) = true then some (mayR (a0_0, a0_1)) else none
theorem r3_May.calls (a0_0 a0_1 : ByteArray) (r : Bool) (w : World) (h : r3_May.f a0_0 a0_1 = some r) :
  Calls Tryz.prog 11 #[.agg #[.string a0_0, .string a0_1]] w fun e w' => e = .returned (.bool r) ∧ Below w.heap.size w w' := by
 unfold r3_May.f at h
 split at h
 ·rename_i hp
  have hs := smR_le hp
  rw [← r3may_f (a := a0_0) (b := a0_1) (Nat.le_trans hs.1 (by decide)) (Nat.le_trans hs.2 (by decide))] at h
  exact Pz.r3_May.calls a0_0 a0_1 r w h
 ·cases h
def r3_Make.f (a0 a1 : ByteArray) : Option (ByteArray × ByteArray × Bool) := if smR (a0, a1) = true then some ((rmakeS a0 a1).1.1, (rmakeS a0 a1).1.2, (rmakeS a0 a1).2) else none
theorem r3_Make.calls (a0 a1 : ByteArray) (r1 : ByteArray) (r2 : ByteArray) (r3 : Bool) (w : World) (h : r3_Make.f a0 a1 = some (r1, r2, r3)) :
  Calls Tryz.prog 24 #[.string a0, .string a1] w fun e w' => e = .returned (.tuple #[.agg #[.string r1, .string r2], .bool r3]) ∧ Below w.heap.size w w' := by
 unfold r3_Make.f at h
 split at h
 ·rename_i hp
  have hs := smR_le hp
  rw [← r3make_f2 (a := a0) (b := a1) (Nat.le_trans hs.1 (by decide)) (Nat.le_trans hs.2 (by decide)) 0] at h
  exact Pz.r3_Make.calls _ a0 a1 r1 r2 r3 w h
 ·cases h
def r3_Sign.f (a0_0 a0_1 : ByteArray) : Option (Int) := if smR (a0_0, a0_1) = true then some (rsignS (a0_0, a0_1)) else none
theorem r3_Sign.calls (a0_0 a0_1 : ByteArray) (r : Int) (w : World) (h : r3_Sign.f a0_0 a0_1 = some r) :
  Calls Tryz.prog 6 #[.agg #[.string a0_0, .string a0_1]] w fun e w' => e = .returned (.int .i64 r) ∧ Below w.heap.size w w' := by
 unfold r3_Sign.f at h
 split at h
 ·rename_i hp
  have hs := smR_le hp
  rw [← r3sign_f (x := (a0_0, a0_1)) (Nat.le_trans hs.1 (by decide)) (Nat.le_trans hs.2 (by decide))] at h
  exact Pz.r3_Sign.calls a0_0 a0_1 r w h
 ·cases h
def r3_Neg.f (a0_0 a0_1 : ByteArray) : Option (ByteArray × ByteArray) := if smR (a0_0, a0_1) = true then some (rnegS (a0_0, a0_1)) else none
theorem r3_Neg.calls (a0_0 a0_1 : ByteArray) (r1 : ByteArray) (r2 : ByteArray) (w : World) (h : r3_Neg.f a0_0 a0_1 = some (r1, r2)) :
  Calls Tryz.prog 10 #[.agg #[.string a0_0, .string a0_1]] w fun e w' => e = .returned (.agg #[.string r1, .string r2]) ∧ Below w.heap.size w w' := by
 unfold r3_Neg.f at h
 split at h
 ·rename_i hp
  have hs := smR_le hp
  rw [← r3neg_f (x := (a0_0, a0_1)) (Nat.le_trans hs.1 (by decide)) (Nat.le_trans hs.2 (by decide))] at h
  exact Pz.r3_Neg.calls a0_0 a0_1 r1 r2 w h
 ·cases h
def r3_Cmp.f (a0_0 a0_1 a1_0 a1_1 : ByteArray) : Option (Int) := if smR2 (a0_0, a0_1) (a1_0, a1_1) = true then some (rcmpS (a0_0, a0_1) (a1_0, a1_1)) else none
theorem r3_Cmp.calls (a0_0 a0_1 a1_0 a1_1 : ByteArray) (r : Int) (w : World) (h : r3_Cmp.f a0_0 a0_1 a1_0 a1_1 = some r) :
  Calls Tryz.prog 12 #[.agg #[.string a0_0, .string a0_1], .agg #[.string a1_0, .string a1_1]] w fun e w' => e = .returned (.int .i64 r) ∧ Below w.heap.size w w' := by
 unfold r3_Cmp.f at h
 split at h
 ·rename_i hp
  have hs := smR2_le hp
  rw [← r3cmp_f (x := (a0_0, a0_1)) (y := (a1_0, a1_1)) hs.1 hs.2.2 0] at h
  exact Pz.r3_Cmp.calls _ a0_0 a0_1 a1_0 a1_1 r w h
 ·cases h
def r3_Add.f (a0_0 a0_1 a1_0 a1_1 : ByteArray) : Option (ByteArray × ByteArray) := if smR2 (a0_0, a0_1) (a1_0, a1_1) = true then some (raddS (a0_0, a0_1) (a1_0, a1_1)) else none
theorem r3_Add.calls (a0_0 a0_1 a1_0 a1_1 : ByteArray) (r1 : ByteArray) (r2 : ByteArray) (w : World) (h : r3_Add.f a0_0 a0_1 a1_0 a1_1 = some (r1, r2)) :
  Calls Tryz.prog 13 #[.agg #[.string a0_0, .string a0_1], .agg #[.string a1_0, .string a1_1]] w fun e w' => e = .returned (.agg #[.string r1, .string r2]) ∧ Below w.heap.size w w' := by
 unfold r3_Add.f at h
 split at h
 ·rename_i hp
  have hs := smR2_le hp
  rw [← r3add_f (x := (a0_0, a0_1)) (y := (a1_0, a1_1)) hs.1 hs.2.1 0] at h
  exact Pz.r3_Add.calls _ a0_0 a0_1 a1_0 a1_1 r1 r2 w h
 ·cases h
def r3_Sub.f (a0_0 a0_1 a1_0 a1_1 : ByteArray) : Option (ByteArray × ByteArray) := if smR2 (a0_0, a0_1) (a1_0, a1_1) = true then some (rsubS (a0_0, a0_1) (a1_0, a1_1)) else none
theorem r3_Sub.calls (a0_0 a0_1 a1_0 a1_1 : ByteArray) (r1 : ByteArray) (r2 : ByteArray) (w : World) (h : r3_Sub.f a0_0 a0_1 a1_0 a1_1 = some (r1, r2)) :
  Calls Tryz.prog 9 #[.agg #[.string a0_0, .string a0_1], .agg #[.string a1_0, .string a1_1]] w fun e w' => e = .returned (.agg #[.string r1, .string r2]) ∧ Below w.heap.size w w' := by
 unfold r3_Sub.f at h
 split at h
 ·rename_i hp
  have hs := smR2_le hp
  rw [← r3sub_f (x := (a0_0, a0_1)) (y := (a1_0, a1_1)) hs.1 hs.2.2 0] at h
  exact Pz.r3_Sub.calls _ a0_0 a0_1 a1_0 a1_1 r1 r2 w h
 ·cases h
def r3_Div.f (a0_0 a0_1 a1_0 a1_1 : ByteArray) : Option (ByteArray × ByteArray × Bool) := if smR2 (a0_0, a0_1) (a1_0, a1_1) = true then some ((rdivS (a0_0, a0_1) (a1_0, a1_1)).1.1, (rdivS (a0_0, a0_1) (a1_0, a1_1)).1.2, (rdivS (a0_0, a0_1) (a1_0, a1_1)).2) else none
theorem r3_Div.calls (a0_0 a0_1 a1_0 a1_1 : ByteArray) (r1 : ByteArray) (r2 : ByteArray) (r3 : Bool) (w : World) (h : r3_Div.f a0_0 a0_1 a1_0 a1_1 = some (r1, r2, r3)) :
  Calls Tryz.prog 8 #[.agg #[.string a0_0, .string a0_1], .agg #[.string a1_0, .string a1_1]] w fun e w' => e = .returned (.tuple #[.agg #[.string r1, .string r2], .bool r3]) ∧ Below w.heap.size w w' := by
 unfold r3_Div.f at h
 split at h
 ·rename_i hp
  have hs := smR2_le hp
  rw [← r3div_f (x := (a0_0, a0_1)) (y := (a1_0, a1_1)) hs.1 hs.2.1 0] at h
  exact Pz.r3_Div.calls _ a0_0 a0_1 a1_0 a1_1 r1 r2 r3 w h
 ·cases h
end Go.Proofs.YtnhpnnbjimnmlaaGreatDoor
end

section
namespace Go.Proofs.YtnhpnnbjimnmlaaGreatDoor
theorem szR_small {n : Int} (h0 : -9223372036854775808 ≤ n) (h1 : n ≤ 9223372036854775807) : szR (n : Rat) ≤ 22 := by
 have h := szI_64 h0 h1
 rw [szR_int]
 omega
theorem smR_rT {q : Rat} (h : szR q ≤ 3999) : smR (rT q) = true := decide_eq_true ⟨Nat.le_trans (le_szR_num q) (by omega), Nat.le_trans (le_szR_den q) (by omega)⟩
theorem smR2_rT {p q : Rat} (hp : szR p ≤ 3999) (hq : szR q ≤ 3999) : smR2 (rT p) (rT q) = true := by
 unfold smR2
 rw [smR_rT hp, Bool.true_and]
 exact decide_eq_true ⟨Nat.le_trans (le_szR_num q) hq, Nat.le_trans (le_szR_den q) hq⟩
theorem hAdd {p q : Rat} (hp : szR p ≤ 3999) (hq : szR q ≤ 3999) : rat_Add.f (rT p).1 (rT p).2 (rT q).1 (rT q).2 = some (rT (p + q)) := by
 unfold rat_Add.f raddS
 rw [if_pos (smR2_rT hp hq), if_pos (may2R_rT p q), ratR_rT, ratR_rT]
theorem hMul {p q : Rat} (hp : szR p ≤ 3999) (hq : szR q ≤ 3999) : rat_Mul.f (rT p).1 (rT p).2 (rT q).1 (rT q).2 = some (rT (p * q)) := by
 unfold rat_Mul.f rmulS
 rw [if_pos (smR2_rT hp hq), if_pos (may2R_rT p q), ratR_rT, ratR_rT]
theorem hCmp {p q : Rat} (hp : szR p ≤ 3999) (hq : szR q ≤ 3999) : rat_Cmp.f (rT p).1 (rT p).2 (rT q).1 (rT q).2 = some (cmpQ p q) := by
 unfold rat_Cmp.f rcmpS
 rw [if_pos (smR2_rT hp hq), if_pos (may2R_rT p q), ratR_rT, ratR_rT]
theorem hDiv {p q : Rat} (hp : szR p ≤ 3999) (hq : szR q ≤ 3999) (h : q ≠ 0) : rat_Div.f (rT p).1 (rT p).2 (rT q).1 (rT q).2 = some ((rT (p / q)).1, (rT (p / q)).2, true) := by
 unfold rat_Div.f rdivS
 rw [if_pos (smR2_rT hp hq), may2R_rT p q, Bool.true_and, ratR_rT, ratR_rT, if_pos (decide_eq_true h)]
theorem hSign {p : Rat} (hp : szR p ≤ 3999) : rat_Sign.f (rT p).1 (rT p).2 = some (cmpQ p 0) := by
 unfold rat_Sign.f rsignS
 rw [if_pos (smR_rT hp), if_pos (mayR_rT p), ratR_rT]
theorem hSplit {p : Rat} (hp : szR p ≤ 3999) : rat_Split.f (rT p).1 (rT p).2 = some (intB p.floor, (rT (p - (p.floor : Rat))).1, (rT (p - (p.floor : Rat))).2) := by
 unfold rat_Split.f rsplitS
 rw [if_pos (smR_rT hp), if_pos (mayR_rT p), ratR_rT]
theorem hMake {x y : Int} (hx : szI x ≤ 4000) (hy : szI y ≤ 4000) (h : y ≠ 0) : rat_Make.f (intB x) (intB y) = some ((rT (Rat.divInt x y)).1, (rT (Rat.divInt x y)).2, true) := by
 unfold rat_Make.f rmakeS
 rw [if_pos (show smR (intB x, intB y) = true from decide_eq_true ⟨hx, hy⟩), may2W_int' x y, Bool.true_and, numW_int, numW_int, if_pos (decide_eq_true h)]
theorem divInt_one (x : Int) : Rat.divInt x 1 = (x : Rat) := by
 have h := Rat.num_divInt_den (x : Rat)
 rw [Rat.num_intCast, Rat.den_intCast] at h
 exact h
theorem hMake1 {x : Int} (hx : szI x ≤ 4000) : rat_Make.f (intB x) ⟨#[49]⟩ = some ((rT (x : Rat)).1, (rT (x : Rat)).2, true) := by
 have e : (⟨#[49]⟩ : ByteArray) = intB 1 := by rw [← natB_one]; exact (intB_nat 1).symm
 rw [e, hMake hx (Nat.le_trans (szI_64 (by decide) (by decide)) (by decide)) (by decide), divInt_one]
theorem hOf {n : Int} (h0 : -9223372036854775808 ≤ n) (h1 : n ≤ 9223372036854775807) : rat_Of.f n = some (rT (n : Rat)) := by
 unfold rat_Of.f
 rw [if_pos ⟨h0, h1⟩]
theorem goods2 {a b c d : ByteArray} : r3_Good.f [⟨a, b⟩, ⟨c, d⟩] = some (goodR ⟨a, b⟩ && goodR ⟨c, d⟩) := by
 unfold r3_Good.f
 rw [if_pos (by simp)]
 simp [List.all_cons]
theorem of_good {a b : ByteArray} (h : goodR ⟨a, b⟩ = true) : ∃ q, a = (rT q).1 ∧ b = (rT q).2 ∧ szR q ≤ 200 := by
 unfold goodR bbS shortR at h
 rw [Bool.and_eq_true, Bool.and_eq_true, decide_eq_true_eq, decide_eq_true_eq] at h
 obtain ⟨⟨h1, h2⟩, h3⟩ := h
 obtain ⟨q, e, s⟩ := of_mayR' h3
 refine ⟨q, congrArg Prod.fst e, congrArg Prod.snd e, ?_⟩
 rw [s]
 have h1' : a.size ≤ 100 := h1
 have h2' : b.size ≤ 100 := h2
 show a.size + b.size ≤ 200
 omega
theorem cmpQ_cases (x y : Rat) : (x < y ∧ ¬ y < x ∧ x ≠ y ∧ cmpQ x y = -1) ∨ (x = y ∧ ¬ x < y ∧ ¬ y < x ∧ cmpQ x y = 0) ∨ (y < x ∧ ¬ x < y ∧ x ≠ y ∧ cmpQ x y = 1) := by
 have h : (x < y ∧ ¬ y < x ∧ x ≠ y) ∨ (x = y ∧ ¬ y < x ∧ ¬ x < y) ∨ (y < x ∧ ¬ x < y ∧ x ≠ y) := by grind
 unfold cmpQ
 rcases h with ⟨h1, h2, h3⟩ | ⟨h1, h2, h3⟩ | ⟨h1, h2, h3⟩
 ·exact .inl ⟨h1, h2, h3, if_pos h1⟩
 ·exact .inr (.inl ⟨h1, h3, h2, by rw [if_neg h3, if_neg h2]⟩)
 ·exact .inr (.inr ⟨h1, h2, h3, by rw [if_neg h2, if_pos h1]⟩)
end Go.Proofs.YtnhpnnbjimnmlaaGreatDoor
end

section
namespace Go.Proofs.YtnhpnnbjimnmlaaGreatDoor
theorem r3of_f (n : Int) (h0 : -9223372036854775808 ≤ n) (h1 : n ≤ 9223372036854775807) : Pz.r3_Of.f n = some (rT (n : Rat)) := by
 unfold Pz.r3_Of.f r2_Of.f
 rw [if_pos ⟨h0, h1⟩, Option.bind_some, ← natB_one]
 rfl
def r3_Of.f (a0 : Int) : Option (ByteArray × ByteArray) := if -9223372036854775808 ≤ a0 ∧ a0 ≤ 9223372036854775807 then some (rT (a0 : Rat)) else none
theorem r3_Of.calls (a0 : Int) (r1 : ByteArray) (r2 : ByteArray) (w : World) (h : r3_Of.f a0 = some (r1, r2)) :
  Calls Tryz.prog 17 #[.int .i64 a0] w fun e w' => e = .returned (.agg #[.string r1, .string r2]) ∧ Below w.heap.size w w' := by
 unfold r3_Of.f at h
 split at h
 ·rename_i hp
  rw [← r3of_f a0 hp.1 hp.2] at h
  exact Pz.r3_Of.calls a0 r1 r2 w h
 ·cases h
end Go.Proofs.YtnhpnnbjimnmlaaGreatDoor
end

section
namespace Go.Proofs.YtnhpnnbjimnmlaaGreatDoor
theorem kAdd {p q : Rat} (hp : szR p ≤ 3999) (hq : szR q ≤ 3999) : r3_Add.f (rT p).1 (rT p).2 (rT q).1 (rT q).2 = some (rT (p + q)) := by
 unfold r3_Add.f raddS
 rw [if_pos (smR2_rT hp hq), if_pos (may2R_rT p q), ratR_rT, ratR_rT]
theorem kSub {p q : Rat} (hp : szR p ≤ 3999) (hq : szR q ≤ 3999) : r3_Sub.f (rT p).1 (rT p).2 (rT q).1 (rT q).2 = some (rT (p - q)) := by
 unfold r3_Sub.f rsubS
 rw [if_pos (smR2_rT hp hq), if_pos (may2R_rT p q), ratR_rT, ratR_rT]
theorem kCmp {p q : Rat} (hp : szR p ≤ 3999) (hq : szR q ≤ 3999) : r3_Cmp.f (rT p).1 (rT p).2 (rT q).1 (rT q).2 = some (cmpQ p q) := by
 unfold r3_Cmp.f rcmpS
 rw [if_pos (smR2_rT hp hq), if_pos (may2R_rT p q), ratR_rT, ratR_rT]
theorem kDiv {p q : Rat} (hp : szR p ≤ 3999) (hq : szR q ≤ 3999) (h : q ≠ 0) : r3_Div.f (rT p).1 (rT p).2 (rT q).1 (rT q).2 = some ((rT (p / q)).1, (rT (p / q)).2, true) := by
 unfold r3_Div.f rdivS
 rw [if_pos (smR2_rT hp hq), may2R_rT p q, Bool.true_and, ratR_rT, ratR_rT, if_pos (decide_eq_true h)]
theorem kSign {p : Rat} (hp : szR p ≤ 3999) : r3_Sign.f (rT p).1 (rT p).2 = some (cmpQ p 0) := by
 unfold r3_Sign.f rsignS
 rw [if_pos (smR_rT hp), if_pos (mayR_rT p), ratR_rT]
theorem kNeg {p : Rat} (hp : szR p ≤ 3999) : r3_Neg.f (rT p).1 (rT p).2 = some (rT (-p)) := by
 unfold r3_Neg.f rnegS
 rw [if_pos (smR_rT hp), if_pos (mayR_rT p), ratR_rT]
theorem kMay {p : Rat} (hp : szR p ≤ 3999) : r3_May.f (rT p).1 (rT p).2 = some true := by
 unfold r3_May.f
 rw [if_pos (smR_rT hp)]
 exact congrArg some (mayR_rT p)
end Go.Proofs.YtnhpnnbjimnmlaaGreatDoor
end

section
namespace Go.Proofs.YtnhpnnbjimnmlaaGreatDoor
def upQ (w : Int) (f : Rat) (mode : Int) : Bool :=
 if mode = 1 then decide (w < 0) && decide (0 < f) else if mode = 2 then (decide (1 < f + f) || (decide (f + f = 1) && decide (w % 2 = 1))) else false
def gW (x : Rat) (mode : Int) : Int := if upQ x.floor (x - (x.floor : Rat)) mode = true then x.floor + 1 else x.floor
def gR (x g : Rat) (mode : Int) : Rat := (gW (x / g) mode : Rat) * g
theorem fl1 (x : Rat) : (x.floor : Rat) ≤ x := Rat.floor_le x
theorem fl2 (x : Rat) : x < (x.floor : Rat) + 1 := by
 have h := @Rat.lt_floor_add_one x
 exact_mod_cast h
theorem cast1 (n : Int) : ((n + 1 : Int) : Rat) = (n : Rat) + 1 := by rw [Rat.intCast_add]; rfl
theorem upQ_two (w : Int) (f : Rat) : upQ w f 2 = (decide (1 < f + f) || (decide (f + f = 1) && decide (w % 2 = 1))) := by
 unfold upQ
 rw [if_neg (by decide), if_pos rfl]
theorem gW_cases (x : Rat) (mode : Int) : (gW x mode = x.floor ∨ (gW x mode = x.floor + 1 ∧ 0 < x - (x.floor : Rat))) := by
 unfold gW upQ
 have h1 := fl1 x
 by_cases m1 : mode = 1
 ·simp only [m1, if_true, Bool.and_eq_true, decide_eq_true_eq]
  split
  ·rename_i h; exact .inr ⟨rfl, h.2⟩
  ·exact .inl rfl
 ·by_cases m2 : mode = 2
  ·subst m2
   have e := upQ_two x.floor (x - (x.floor : Rat))
   unfold upQ at e
   rw [e]
   split
   ·rename_i h
    refine .inr ⟨rfl, ?_⟩
    generalize x - (x.floor : Rat) = f at *
    simp only [Bool.or_eq_true, Bool.and_eq_true, decide_eq_true_eq] at h
    rcases h with h | h <;> grind
   ·exact .inl rfl
  ·rw [if_neg m1, if_neg m2]
   exact .inl rfl
theorem gW_near (x : Rat) (mode : Int) : x - 1 < (gW x mode : Rat) ∧ (gW x mode : Rat) < x + 1 := by
 have h1 := fl1 x
 have h2 := fl2 x
 rcases gW_cases x mode with h | ⟨h, h3⟩
 ·rw [h]; constructor <;> grind
 ·rw [h, cast1]; constructor <;> grind
theorem floor_int (n : Int) : (n : Rat).floor = n := Rat.floor_intCast n
theorem gW_int (n : Int) (mode : Int) : gW (n : Rat) mode = n := by
 rcases gW_cases (n : Rat) mode with h | ⟨h, h3⟩
 ·rw [h, floor_int]
 ·rw [floor_int] at h3
  exfalso
  grind
theorem gW_even (x : Rat) : (gW x 2 : Rat) - x + ((gW x 2 : Rat) - x) ≤ 1 ∧ x - (gW x 2 : Rat) + (x - (gW x 2 : Rat)) ≤ 1 := by
 have h1 := fl1 x
 have h2 := fl2 x
 unfold gW upQ
 simp only [if_neg (by decide : ¬ (2 : Int) = 1), if_true, Bool.or_eq_true, Bool.and_eq_true, decide_eq_true_eq]
 split
 ·rename_i h
  rw [cast1]
  generalize (x.floor : Rat) = w at *
  rcases h with h | h <;> constructor <;> grind
 ·rename_i h
  have h3 : ¬ 1 < x - (x.floor : Rat) + (x - (x.floor : Rat)) := fun e => h (.inl e)
  generalize (x.floor : Rat) = w at *
  constructor <;> grind
theorem le_div_q {a b c : Rat} (hc : 0 < c) : a ≤ b / c ↔ a * c ≤ b := by
 rw [← Rat.not_lt, ← Rat.not_lt, Rat.div_lt_iff hc]
theorem gR_div {g : Rat} (hg : 0 < g) (x : Rat) (m : Int) : gR x g m / g = (gW (x / g) m : Rat) := by
 unfold gR
 grind
theorem div_mul' {g : Rat} (hg : 0 < g) (x : Rat) : x / g * g = x := by grind
theorem mul_lt' {a b g : Rat} (hg : 0 < g) (h : a < b) : a * g < b * g := Rat.mul_lt_mul_of_pos_right h hg
theorem mul_le' {a b g : Rat} (hg : 0 < g) (h : a ≤ b) : a * g ≤ b * g := Rat.mul_le_mul_of_nonneg_right h (Rat.le_of_lt hg)
theorem gR_near {g : Rat} (hg : 0 < g) (x : Rat) (m : Int) : gR x g m - x < g ∧ x - gR x g m < g := by
 have h := gW_near (x / g) m
 have e := div_mul' hg x
 have h1 := mul_lt' hg h.1
 have h2 := mul_lt' hg h.2
 unfold gR
 generalize (gW (x / g) m : Rat) = n at *
 generalize x / g = q at *
 constructor <;> grind
theorem gR_fix {g : Rat} (hg : 0 < g) (x : Rat) (m : Int) : gR (gR x g m) g m = gR x g m := by
 have e := gR_div hg x m
 rw [show gR (gR x g m) g m = (gW (gR x g m / g) m : Rat) * g from rfl, e, gW_int]
 rfl
theorem gR_down {g : Rat} (hg : 0 < g) (x : Rat) : gR x g 0 ≤ x := by
 have e : gW (x / g) 0 = (x / g).floor := rfl
 have h := mul_le' hg (fl1 (x / g))
 rw [div_mul' hg] at h
 unfold gR
 rw [e]
 exact h
theorem floor_neg_lt {x : Rat} (h : x < 0) : x.floor < 0 := by
 have := fl1 x
 have h2 : ((x.floor : Int) : Rat) < ((0 : Int) : Rat) := by
  have e : ((0 : Int) : Rat) = 0 := rfl
  rw [e]; grind
 exact Rat.intCast_lt_intCast.1 h2
theorem floor_nonneg {x : Rat} (h : 0 ≤ x) : 0 ≤ x.floor := Rat.le_floor_iff.2 h
theorem gW_trunc (x : Rat) : (x < 0 → x ≤ (gW x 1 : Rat) ∧ (gW x 1 : Rat) ≤ 0) ∧ (0 ≤ x → 0 ≤ (gW x 1 : Rat) ∧ (gW x 1 : Rat) ≤ x) := by
 have h1 := fl1 x
 have h2 := fl2 x
 constructor
 ·intro hx
  have hf := floor_neg_lt hx
  unfold gW upQ
  simp only [if_true, Bool.and_eq_true, decide_eq_true_eq, hf, true_and]
  have hz : ((x.floor + 1 : Int) : Rat) ≤ ((0 : Int) : Rat) := Rat.intCast_le_intCast.2 (by omega)
  have e : ((0 : Int) : Rat) = 0 := rfl
  rw [e] at hz
  split
  ·rw [cast1] at hz ⊢
   constructor <;> grind
  ·rename_i h
   constructor <;> grind
 ·intro hx
  have hf := floor_nonneg hx
  have e1 : gW x 1 = x.floor := by
   unfold gW upQ
   simp only [if_true, Bool.and_eq_true, decide_eq_true_eq]
   rw [if_neg]
   rintro ⟨a, _⟩
   omega
  rw [e1]
  have hz : ((0 : Int) : Rat) ≤ ((x.floor : Int) : Rat) := Rat.intCast_le_intCast.2 hf
  have e : ((0 : Int) : Rat) = 0 := rfl
  rw [e] at hz
  exact ⟨hz, h1⟩
theorem gR_trunc {g : Rat} (hg : 0 < g) (x : Rat) : (x < 0 → x ≤ gR x g 1 ∧ gR x g 1 ≤ 0) ∧ (0 ≤ x → 0 ≤ gR x g 1 ∧ gR x g 1 ≤ x) := by
 have h := gW_trunc (x / g)
 have e := div_mul' hg x
 unfold gR
 generalize hq : x / g = q at *
 generalize (gW q 1 : Rat) = n at *
 constructor
 ·intro hx
  have hq0 : q < 0 := by rw [← hq]; exact (Rat.div_lt_iff hg).2 (by grind)
  have := h.1 hq0
  have h1 := mul_le' hg this.1
  have h2 := mul_le' hg this.2
  constructor <;> grind
 ·intro hx
  have hq0 : 0 ≤ q := by rw [← hq]; exact (le_div_q hg).2 (by grind)
  have := h.2 hq0
  have h1 := mul_le' hg this.1
  have h2 := mul_le' hg this.2
  constructor <;> grind
theorem gR_even {g : Rat} (hg : 0 < g) (x : Rat) : gR x g 2 - x + (gR x g 2 - x) ≤ g ∧ x - gR x g 2 + (x - gR x g 2) ≤ g := by
 have h := gW_even (x / g)
 have e := div_mul' hg x
 have h1 := mul_le' hg h.1
 have h2 := mul_le' hg h.2
 unfold gR
 generalize (gW (x / g) 2 : Rat) = n at *
 generalize x / g = q at *
 constructor <;> grind
end Go.Proofs.YtnhpnnbjimnmlaaGreatDoor
end

section
namespace Go.Proofs.YtnhpnnbjimnmlaaGreatDoor
def modeOk (m : Int) : Bool := decide (0 ≤ m ∧ m ≤ 2)
def gwholeS (x : BB) (m : Int) : ByteArray := if (mayR x && modeOk m) = true then intB (gW (ratR x) m) else noB
def groundS (x g : BB) (m : Int) : BB := if (may2R x g && (modeOk m && decide (0 < ratR g))) = true then rT (gR (ratR x) (ratR g) m) else no2
def centQ : Rat := Rat.divInt 1 100
def smG (x : BB) : Bool := decide (x.1.size + x.2.size ≤ 900)
def smG2 (x y : BB) : Bool := smG x && smG y
theorem smG_rT {q : Rat} (h : szR q ≤ 900) : smG (rT q) = true := decide_eq_true h
theorem smG2_rT {p q : Rat} (hp : szR p ≤ 900) (hq : szR q ≤ 900) : smG2 (rT p) (rT q) = true := by unfold smG2; rw [smG_rT hp, smG_rT hq]; rfl
theorem smR_of {x : BB} (h : x.1.size + x.2.size ≤ 3900) : smR x = true := decide_eq_true ⟨Nat.le_trans (Nat.le_add_right _ x.2.size) (by omega), Nat.le_trans (Nat.le_add_left _ x.1.size) (by omega)⟩
theorem smR2_of {x y : BB} (h : x.1.size + x.2.size ≤ 3900) (h2 : y.1.size + y.2.size ≤ 3900) : smR2 x y = true := by
 unfold smR2
 rw [smR_of h, Bool.true_and]
 exact decide_eq_true ⟨Nat.le_trans (Nat.le_add_right _ y.2.size) (by omega), Nat.le_trans (Nat.le_add_left _ y.1.size) (by omega)⟩
theorem szI_one : szI 1 = 1 := by
 have h : szI ((1 : Nat) : Int) = sz 1 := szI_nat 1
 rw [show (1 : Int) = ((1 : Nat) : Int) from rfl, h]
 exact Nat.le_antisymm (sz_le (by omega) (by omega)) (sz_pos 1)
theorem szI_gW (x : Rat) (m : Int) : szI (gW x m) ≤ szR x + 6 := by
 have h := szI_floor x
 rcases gW_cases x m with e | ⟨e, _⟩
 ·rw [e]; omega
 ·rw [e]
  have h1 := szI_add x.floor 1
  rw [szI_one] at h1
  omega
theorem szR_gR (x : Rat) {g : Rat} (hg : 0 < g) (m : Int) : szR (gR x g m) ≤ szR x + 2 * szR g + 40 := by
 have hne : g ≠ 0 := by intro e; rw [e] at hg; exact Rat.lt_irrefl hg
 have h1 := szR_div x hne
 have h2 := szI_gW (x / g) m
 have h3 := szR_int (gW (x / g) m)
 have h4 := szR_mul (gW (x / g) m : Rat) g
 unfold gR
 omega
theorem cmpQ_cases' (x y : Rat) : (x < y ∧ cmpQ x y = -1) ∨ (x = y ∧ cmpQ x y = 0) ∨ (y < x ∧ cmpQ x y = 1) := by
 have h : (x < y ∧ ¬ y < x) ∨ (x = y ∧ ¬ y < x ∧ ¬ x < y) ∨ (y < x ∧ ¬ x < y) := by grind
 unfold cmpQ
 rcases h with ⟨h1, h2⟩ | ⟨h1, h2, h3⟩ | ⟨h1, h2⟩
 ·exact .inl ⟨h1, if_pos h1⟩
 ·exact .inr (.inl ⟨h1, by rw [if_neg h3, if_neg h2]⟩)
 ·exact .inr (.inr ⟨h1, by rw [if_neg h2, if_pos h1]⟩)
theorem cmpQ_le (x y : Rat) : cmpQ x y ≤ 0 ↔ x ≤ y := by
 rcases cmpQ_cases' x y with ⟨h1, h4⟩ | ⟨h1, h4⟩ | ⟨h1, h4⟩ <;> rw [h4]
 ·exact ⟨fun _ => Rat.le_of_lt h1, fun _ => by decide⟩
 ·exact ⟨fun _ => by rw [h1]; exact Rat.le_refl, fun _ => by decide⟩
 ·exact ⟨fun h => absurd h (by decide), fun h => absurd h1 (Rat.not_lt.2 h)⟩
theorem cmpQ_ge (x y : Rat) : cmpQ x y ≥ 0 ↔ y ≤ x := by
 rcases cmpQ_cases' x y with ⟨h1, h4⟩ | ⟨h1, h4⟩ | ⟨h1, h4⟩ <;> rw [h4]
 ·exact ⟨fun h => absurd h (by decide), fun h => absurd h1 (Rat.not_lt.2 h)⟩
 ·exact ⟨fun _ => by rw [h1]; exact Rat.le_refl, fun _ => by decide⟩
 ·exact ⟨fun _ => Rat.le_of_lt h1, fun _ => by decide⟩
theorem cmpQ_lt (x y : Rat) : cmpQ x y < 0 ↔ x < y := by
 rcases cmpQ_cases' x y with ⟨h1, h4⟩ | ⟨h1, h4⟩ | ⟨h1, h4⟩ <;> rw [h4]
 ·exact ⟨fun _ => h1, fun _ => by decide⟩
 ·exact ⟨fun h => absurd h (by decide), fun h => by rw [h1] at h; exact absurd h Rat.lt_irrefl⟩
 ·exact ⟨fun h => absurd h (by decide), fun h => absurd (Rat.le_of_lt h1) (Rat.not_le.2 h)⟩
theorem cmpQ_gt (x y : Rat) : cmpQ x y > 0 ↔ y < x := by
 rcases cmpQ_cases' x y with ⟨h1, h4⟩ | ⟨h1, h4⟩ | ⟨h1, h4⟩ <;> rw [h4]
 ·exact ⟨fun h => absurd h (by decide), fun h => absurd (Rat.le_of_lt h1) (Rat.not_le.2 h)⟩
 ·exact ⟨fun h => absurd h (by decide), fun h => by rw [h1] at h; exact absurd h Rat.lt_irrefl⟩
 ·exact ⟨fun _ => h1, fun _ => by decide⟩
end Go.Proofs.YtnhpnnbjimnmlaaGreatDoor
end

section
namespace Go.Proofs.YtnhpnnbjimnmlaaGreatDoor.Pg
def errW : Option Int → Value
 | none => .nilIface
 | some c => .iface 0 (.int .i64 c)
theorem errW_none : errW none = .nilIface := rfl
theorem errW_some (c : Int) : errW (some c) = .iface 0 (.int .i64 c) := rfl
end Go.Proofs.YtnhpnnbjimnmlaaGreatDoor.Pg
end

section
namespace Go.Proofs.YtnhpnnbjimnmlaaGreatDoor.Pg
def grid_up.f (a0 : ByteArray) (a1_0 : ByteArray) (a1_1 : ByteArray) (a2 : Int) : Option (Bool) := if a2 = 1 then ((whole_Sign.f a0).bind fun t102 => (if t102 < 0 then ((rat_Sign.f a1_0 a1_1).bind fun t103 => (some (decide (t103 > 0)))) else (some false))) else (if a2 = 2 then ((rat_Add.f a1_0 a1_1 a1_0 a1_1).bind fun bt104 => ((rat_Of.f 1).bind fun bt106 => ((rat_Cmp.f bt104.1 bt104.2 bt106.1 bt106.2).bind fun t108 => ((whole_Div.f a0 (⟨#[50]⟩ : ByteArray)).bind fun bt109 => (if t108 > 0 then (some true) else (if t108 = 0 then (some (bt109.2.1.toList == ([49] : List UInt8))) else (some false))))))) else (some false))
set_option maxHeartbeats 8000000 in
set_option maxRecDepth 100000 in
theorem grid_up.calls (a0 : ByteArray) (a1_0 : ByteArray) (a1_1 : ByteArray) (a2 : Int) (r : Bool) (w : World) (hL_ : Laid w) (h : grid_up.f a0 a1_0 a1_1 a2 = some r) :
  Calls Tryz.prog 35 #[.string a0, .agg #[.string a1_0, .string a1_1], .int .i64 a2] w fun e w' => e = .returned (.bool r) ∧ Below w.heap.size w w' := by
 have hu23 := Tryz.underlying23; have HLD := Aside0.mk hL_; clear hL_; have HB := Aside0.mk (Below.refl w.heap.size w); have H := h; unfold grid_up.f at H; clear h; by_cases c4 : a2 = 1
 ·rw [if_pos c4] at H; have c4b0 : (a2 == 1) = true := beq_iff_eq.mpr c4; have c4b1 : (a2 != 1) = false := bne_eq_false_iff_eq.mpr c4; clear c4; obtain ⟨t102, A5, H⟩ := bi_ H; by_cases c6 : t102 < 0
  ·rw [if_pos c6] at H; have c6b0 : decide (t102 < 0) = true := decide_eq_true c6; clear c6; obtain ⟨t103, A7, H⟩ := bi_ H; obtain rfl := Option.some.inj H; go_enter Tryz.func35, Tryz.ntmps35
   go_wp2_with (first | ((with_reducible refine gate_dst (N := 4) rfl ?_); refine be_ 4 #[.string a1_0, .string a1_1] 23 ?_; intro gb101 hg w8 hbox hb; have BK101 := Aside0.mk (hbox); have GW101 := ge_ HB hg; have GE101 := ge_ HB hg; replace HB := bs_ HB hb; clear hb hbox hg) | (refine gl_ 15 Tryz.func39 #[.string a0] ?_; refine mo_ (whole_Sign.calls a0 t102 _ A5.out) ?_; intro w9 hb; replace BK101 := kb_ BK101 hb; replace HB := bs_ HB hb; (try clear hb); (try clear hb2); (try clear hk); (try clear hi); have hcz10_0 := bc_ BK101 0 rfl; have hcz10_1 := bc_ BK101 1 rfl; have hfz10_0 := blk_frozen BK101.out 0; have hfz10_1 := blk_frozen BK101.out 1) | (go_at_call 20; (with_reducible refine (rat_Sign.calls a1_0 a1_1 t103 _ ?side1 A7.out).mono ?_); (case side1 => exact lb_ HLD HB); rintro e w11 ⟨rfl, hb⟩; replace BK101 := kb_ BK101 hb; replace HB := bs_ HB hb; (try clear hb); (try clear hb2); (try clear hk); (try clear hi)))
   go_ret
   exact ⟨er_, b_ HB.out⟩
  ·rw [if_neg c6] at H; have c6b0 : decide (t102 < 0) = false := decide_eq_false c6; clear c6; obtain rfl := Option.some.inj H; go_enter Tryz.func35, Tryz.ntmps35
   go_wp2_with (first | ((with_reducible refine gate_dst (N := 4) rfl ?_); refine be_ 4 #[.string a1_0, .string a1_1] 23 ?_; intro gb101 hg w12 hbox hb; have BK101 := Aside0.mk (hbox); have GW101 := ge_ HB hg; have GE101 := ge_ HB hg; replace HB := bs_ HB hb; clear hb hbox hg) | (refine gl_ 15 Tryz.func39 #[.string a0] ?_; refine mo_ (whole_Sign.calls a0 t102 _ A5.out) ?_; intro w13 hb; replace BK101 := kb_ BK101 hb; replace HB := bs_ HB hb; (try clear hb); (try clear hb2); (try clear hk); (try clear hi)))
   go_ret
   exact ⟨er_, b_ HB.out⟩
 ·rw [if_neg c4] at H; have c4b0 : (a2 == 1) = false := beq_eq_false_iff_ne.mpr c4; have c4b1 : (a2 != 1) = true := bne_iff_ne.mpr c4; by_cases c14 : a2 = 2
  ·rw [if_pos c14] at H; have c14b0 : (a2 == 2) = true := beq_iff_eq.mpr c14; have c14b1 : (a2 != 2) = false := bne_eq_false_iff_eq.mpr c14; clear c14; obtain ⟨⟨t104, t105⟩, A15, H⟩ := bi_ H; (try dsimp only at H); obtain ⟨⟨t106, t107⟩, A16, H⟩ := bi_ H; (try dsimp only at H); obtain ⟨t108, A17, H⟩ := bi_ H; obtain ⟨⟨t109, t110, t111⟩, A18, H⟩ := bi_ H; (try dsimp only at H); by_cases c19 : t108 > 0
   ·rw [if_pos c19] at H; have c19b0 : decide (0 < t108) = true := decide_eq_true c19; clear c19; obtain rfl := Option.some.inj H; go_enter Tryz.func35, Tryz.ntmps35
    go_wp2_with (first | ((with_reducible refine gate_dst (N := 4) rfl ?_); refine be_ 4 #[.string a1_0, .string a1_1] 23 ?_; intro gb101 hg w20 hbox hb; have BK101 := Aside0.mk (hbox); have GW101 := ge_ HB hg; have GE101 := ge_ HB hg; replace HB := bs_ HB hb; clear hb hbox hg; have hcz21_0 := bc_ BK101 0 rfl; have hcz21_1 := bc_ BK101 1 rfl; have hfz21_0 := blk_frozen BK101.out 0; have hfz21_1 := blk_frozen BK101.out 1) | (refine gl_ 26 Tryz.func58 #[.agg #[.string a1_0, .string a1_1], .agg #[.string a1_0, .string a1_1]] ?_; refine mo_ (rat_Add.calls a1_0 a1_1 a1_0 a1_1 t104 t105 _ (lb_ HLD HB) A15.out) ?_; intro w22 hb; replace BK101 := kb_ BK101 hb; replace HB := bs_ HB hb; (try clear hb); (try clear hb2); (try clear hk); (try clear hi)) | (refine gl_ 27 Tryz.func59 #[.int .i64 1] ?_; refine mo_ (rat_Of.calls 1 t106 t107 _ (lb_ HLD HB) A16.out) ?_; intro w23 hb; replace BK101 := kb_ BK101 hb; replace HB := bs_ HB hb; (try clear hb); (try clear hb2); (try clear hk); (try clear hi)) | (refine gl_ 28 Tryz.func57 #[.agg #[.string t104, .string t105], .agg #[.string t106, .string t107]] ?_; refine mo_ (rat_Cmp.calls t104 t105 t106 t107 t108 _ (lb_ HLD HB) A17.out) ?_; intro w24 hb; replace BK101 := kb_ BK101 hb; replace HB := bs_ HB hb; (try clear hb); (try clear hb2); (try clear hk); (try clear hi)) | (refine gl_ 31 Tryz.func56 #[.string a0, .string (⟨#[50]⟩ : ByteArray)] ?_; refine mo_ (whole_Div.calls a0 (⟨#[50]⟩ : ByteArray) t109 t110 t111 _ (lb_ HLD HB) A18.out) ?_; intro w25 hb; replace BK101 := kb_ BK101 hb; replace HB := bs_ HB hb; (try clear hb); (try clear hb2); (try clear hk); (try clear hi)))
    go_ret
    exact ⟨er_, b_ HB.out⟩
   ·rw [if_neg c19] at H; have c19b0 : decide (0 < t108) = false := decide_eq_false c19; clear c19; by_cases c26 : t108 = 0
    ·rw [if_pos c26] at H; have c26b0 : (t108 == 0) = true := beq_iff_eq.mpr c26; have c26b1 : (t108 != 0) = false := bne_eq_false_iff_eq.mpr c26; clear c26; obtain rfl := Option.some.inj H; go_enter Tryz.func35, Tryz.ntmps35
     go_wp2_with (first | ((with_reducible refine gate_dst (N := 4) rfl ?_); refine be_ 4 #[.string a1_0, .string a1_1] 23 ?_; intro gb101 hg w27 hbox hb; have BK101 := Aside0.mk (hbox); have GW101 := ge_ HB hg; have GE101 := ge_ HB hg; replace HB := bs_ HB hb; clear hb hbox hg; have hcz28_0 := bc_ BK101 0 rfl; have hcz28_1 := bc_ BK101 1 rfl; have hfz28_0 := blk_frozen BK101.out 0; have hfz28_1 := blk_frozen BK101.out 1) | (refine gl_ 26 Tryz.func58 #[.agg #[.string a1_0, .string a1_1], .agg #[.string a1_0, .string a1_1]] ?_; refine mo_ (rat_Add.calls a1_0 a1_1 a1_0 a1_1 t104 t105 _ (lb_ HLD HB) A15.out) ?_; intro w29 hb; replace BK101 := kb_ BK101 hb; replace HB := bs_ HB hb; (try clear hb); (try clear hb2); (try clear hk); (try clear hi)) | (refine gl_ 27 Tryz.func59 #[.int .i64 1] ?_; refine mo_ (rat_Of.calls 1 t106 t107 _ (lb_ HLD HB) A16.out) ?_; intro w30 hb; replace BK101 := kb_ BK101 hb; replace HB := bs_ HB hb; (try clear hb); (try clear hb2); (try clear hk); (try clear hi)) | (refine gl_ 28 Tryz.func57 #[.agg #[.string t104, .string t105], .agg #[.string t106, .string t107]] ?_; refine mo_ (rat_Cmp.calls t104 t105 t106 t107 t108 _ (lb_ HLD HB) A17.out) ?_; intro w31 hb; replace BK101 := kb_ BK101 hb; replace HB := bs_ HB hb; (try clear hb); (try clear hb2); (try clear hk); (try clear hi)) | (refine gl_ 31 Tryz.func56 #[.string a0, .string (⟨#[50]⟩ : ByteArray)] ?_; refine mo_ (whole_Div.calls a0 (⟨#[50]⟩ : ByteArray) t109 t110 t111 _ (lb_ HLD HB) A18.out) ?_; intro w32 hb; replace BK101 := kb_ BK101 hb; replace HB := bs_ HB hb; (try clear hb); (try clear hb2); (try clear hk); (try clear hi)))
     go_ret
     exact ⟨er_, b_ HB.out⟩
    ·rw [if_neg c26] at H; have c26b0 : (t108 == 0) = false := beq_eq_false_iff_ne.mpr c26; have c26b1 : (t108 != 0) = true := bne_iff_ne.mpr c26; obtain rfl := Option.some.inj H; go_enter Tryz.func35, Tryz.ntmps35
     go_wp2_with (first | ((with_reducible refine gate_dst (N := 4) rfl ?_); refine be_ 4 #[.string a1_0, .string a1_1] 23 ?_; intro gb101 hg w33 hbox hb; have BK101 := Aside0.mk (hbox); have GW101 := ge_ HB hg; have GE101 := ge_ HB hg; replace HB := bs_ HB hb; clear hb hbox hg; have hcz34_0 := bc_ BK101 0 rfl; have hcz34_1 := bc_ BK101 1 rfl; have hfz34_0 := blk_frozen BK101.out 0; have hfz34_1 := blk_frozen BK101.out 1) | (refine gl_ 26 Tryz.func58 #[.agg #[.string a1_0, .string a1_1], .agg #[.string a1_0, .string a1_1]] ?_; refine mo_ (rat_Add.calls a1_0 a1_1 a1_0 a1_1 t104 t105 _ (lb_ HLD HB) A15.out) ?_; intro w35 hb; replace BK101 := kb_ BK101 hb; replace HB := bs_ HB hb; (try clear hb); (try clear hb2); (try clear hk); (try clear hi)) | (refine gl_ 27 Tryz.func59 #[.int .i64 1] ?_; refine mo_ (rat_Of.calls 1 t106 t107 _ (lb_ HLD HB) A16.out) ?_; intro w36 hb; replace BK101 := kb_ BK101 hb; replace HB := bs_ HB hb; (try clear hb); (try clear hb2); (try clear hk); (try clear hi)) | (refine gl_ 28 Tryz.func57 #[.agg #[.string t104, .string t105], .agg #[.string t106, .string t107]] ?_; refine mo_ (rat_Cmp.calls t104 t105 t106 t107 t108 _ (lb_ HLD HB) A17.out) ?_; intro w37 hb; replace BK101 := kb_ BK101 hb; replace HB := bs_ HB hb; (try clear hb); (try clear hb2); (try clear hk); (try clear hi)) | (refine gl_ 31 Tryz.func56 #[.string a0, .string (⟨#[50]⟩ : ByteArray)] ?_; refine mo_ (whole_Div.calls a0 (⟨#[50]⟩ : ByteArray) t109 t110 t111 _ (lb_ HLD HB) A18.out) ?_; intro w38 hb; replace BK101 := kb_ BK101 hb; replace HB := bs_ HB hb; (try clear hb); (try clear hb2); (try clear hk); (try clear hi)))
     go_ret
     exact ⟨er_, b_ HB.out⟩
  ·rw [if_neg c14] at H; have c14b0 : (a2 == 2) = false := beq_eq_false_iff_ne.mpr c14; have c14b1 : (a2 != 2) = true := bne_iff_ne.mpr c14; obtain rfl := Option.some.inj H; go_enter Tryz.func35, Tryz.ntmps35
   go_wp2_with (first | ((with_reducible refine gate_dst (N := 4) rfl ?_); refine be_ 4 #[.string a1_0, .string a1_1] 23 ?_; intro gb101 hg w39 hbox hb; have BK101 := Aside0.mk (hbox); have GW101 := ge_ HB hg; have GE101 := ge_ HB hg; replace HB := bs_ HB hb; clear hb hbox hg))
   go_ret
   exact ⟨er_, b_ HB.out⟩
def grid_Whole.j0 : Nat → Int → Bool → ByteArray → ByteArray → Option (ByteArray)
 | 0, _, _, _, _ => none
 | k + 1, x1, x17, x113000, x113001 => if x17 = true then (some (⟨#[]⟩ : ByteArray)) else ((rat_Split.f x113000 x113001).bind fun bt114 => ((grid_up.f bt114.1 bt114.2.1 bt114.2.2 x1).bind fun t118 => (if t118 = true then ((whole_Add.f bt114.1 (⟨#[49]⟩ : ByteArray)).bind fun t119 => (some t119)) else (some bt114.1))))
def grid_Whole.f (k : Nat) (a0_0 : ByteArray) (a0_1 : ByteArray) (a1 : Int) : Option (ByteArray) := (rat_May.f a0_0 a0_1).bind fun t113 => (if t113 = true then (if a1 < 0 then (grid_Whole.j0 k a1 true a0_0 a0_1) else (grid_Whole.j0 k a1 (decide (a1 ≥ 3)) a0_0 a0_1)) else (grid_Whole.j0 k a1 true a0_0 a0_1))
set_option maxHeartbeats 8000000 in
set_option maxRecDepth 100000 in
theorem grid_Whole.calls (k : Nat) (a0_0 : ByteArray) (a0_1 : ByteArray) (a1 : Int) (r : ByteArray) (w : World) (hL_ : Laid w) (h : grid_Whole.f k a0_0 a0_1 a1 = some r) :
  Calls Tryz.prog 14 #[.agg #[.string a0_0, .string a0_1], .int .i64 a1] w fun e w' => e = .returned (.string r) ∧ Below w.heap.size w w' := by
 have hu23 := Tryz.underlying23; have HLD := Aside0.mk hL_; clear hL_; have HB := Aside0.mk (Below.refl w.heap.size w); have H := h; unfold grid_Whole.f at H; clear h; have HC3 := Aside0.mk H; clear H; go_enter Tryz.func14, Tryz.ntmps14
 go_upto_region 1 with (first | ((with_reducible refine gate_dst (N := 2) rfl ?_); refine be_ 2 #[.string a0_0, .string a0_1] 23 ?_; intro gb112 hg w4 hbox hb; have BK112 := Aside0.mk (hbox); have GW112 := ge_ HB hg; have GE112 := ge_ HB hg; replace HB := bs_ HB hb; clear hb hbox hg))
 (try simp only [Act.put, List.setIfInBounds_toArray, List.set_cons_zero, List.set_cons_succ])
 go_cut [17] (fun v17 wc => ∃ (kq : Nat) (x17_2 : Bool), v17 = .bool x17_2 ∧ Aside0 (grid_Whole.j0 kq a1 x17_2 a0_0 a0_1 = some r) ∧ Aside0 (kq ≤ k) ∧ Aside0 (wc.heap[gb112]? = some (.cells #[.string a0_0, .string a0_1] 23 (0, 0))) ∧ Aside0 (Below w.heap.size w wc))
 case first =>
  have H := HC3.out; clear HC3; obtain ⟨t113, A5, H⟩ := bi_ H; by_cases c6 : t113 = true
  ·subst c6; rw [if_pos rfl] at H; by_cases c7 : a1 < 0
   ·rw [if_pos c7] at H; have c7b0 : decide (a1 < 0) = true := decide_eq_true c7; clear c7; (first | rw [c7b0] | (simp only [i64_w, i32_w]; rw [c7b0]) | skip); have H' := Aside0.mk H; clear H; have hcz8_0 := bc_ BK112 0 rfl; have hcz8_1 := bc_ BK112 1 rfl; have hfz8_0 := blk_frozen BK112.out 0; have hfz8_1 := blk_frozen BK112.out 1
    go_wp2_with (first | (refine gl_ 8 Tryz.func33 #[.agg #[.string a0_0, .string a0_1]] ?_; refine mo_ (rat_May.calls a0_0 a0_1 true _ (lb_ HLD HB) A5.out) ?_; intro w9 hb; replace BK112 := kb_ BK112 hb; replace HB := bs_ HB hb; (try clear hb); (try clear hb2); (try clear hk); (try clear hi)))
    go_meet
    case rel => exact ⟨_, (true), rl_, H', ⟨by first | omega | exact Nat.le_refl _⟩, ⟨k_ BK112.out⟩, ⟨b_ HB.out⟩⟩
   ·rw [if_neg c7] at H; have c7b0 : decide (a1 < 0) = false := decide_eq_false c7; clear c7; (first | rw [c7b0] | (simp only [i64_w, i32_w]; rw [c7b0]) | skip); have H' := Aside0.mk H; clear H; have hcz10_0 := bc_ BK112 0 rfl; have hcz10_1 := bc_ BK112 1 rfl; have hfz10_0 := blk_frozen BK112.out 0; have hfz10_1 := blk_frozen BK112.out 1
    go_wp2_with (first | (refine gl_ 8 Tryz.func33 #[.agg #[.string a0_0, .string a0_1]] ?_; refine mo_ (rat_May.calls a0_0 a0_1 true _ (lb_ HLD HB) A5.out) ?_; intro w11 hb; replace BK112 := kb_ BK112 hb; replace HB := bs_ HB hb; (try clear hb); (try clear hb2); (try clear hk); (try clear hi)))
    go_meet
    case rel => exact ⟨_, (decide (a1 ≥ 3)), rl_, H', ⟨by first | omega | exact Nat.le_refl _⟩, ⟨k_ BK112.out⟩, ⟨b_ HB.out⟩⟩
  ·replace c6 := Bool.eq_false_iff.mpr c6; subst c6; rw [if_neg nf_] at H; have H' := Aside0.mk H; clear H; have hcz12_0 := bc_ BK112 0 rfl; have hcz12_1 := bc_ BK112 1 rfl; have hfz12_0 := blk_frozen BK112.out 0; have hfz12_1 := blk_frozen BK112.out 1
   go_wp2_with (first | (refine gl_ 8 Tryz.func33 #[.agg #[.string a0_0, .string a0_1]] ?_; refine mo_ (rat_May.calls a0_0 a0_1 false _ (lb_ HLD HB) A5.out) ?_; intro w13 hb; replace BK112 := kb_ BK112 hb; replace HB := bs_ HB hb; (try clear hb); (try clear hb2); (try clear hk); (try clear hi)))
   go_meet
   case rel => exact ⟨_, (true), rl_, H', ⟨by first | omega | exact Nat.le_refl _⟩, ⟨k_ BK112.out⟩, ⟨b_ HB.out⟩⟩
 case rest =>
  clear HC3; (try clear c1); (try clear p2); (try clear c3); (try clear c6); (try clear c7); (try clear c7b0); (try clear hcz10_0); (try clear hcz10_1); (try clear hcz12_0); (try clear hcz12_1); (try clear hcz8_0); (try clear hcz8_1); (try clear hfz10_0); (try clear hfz10_1); (try clear hfz12_0); (try clear hfz12_1); (try clear hfz8_0); (try clear hfz8_1); obtain ⟨kq, x17_2, rfl, HA, HJ2, BK112, HB⟩ := hcut
  cases kq with
  | zero => exact absurd HA.out (by simp [grid_Whole.j0])
  | succ kj2 =>
   have H := HA.out; clear HA; simp only [grid_Whole.j0] at H; by_cases c14 : x17_2 = true
   ·subst c14; rw [if_pos rfl] at H; obtain rfl := Option.some.inj H; go_wp2
    go_ret
    exact ⟨er_, b_ HB.out⟩
   ·replace c14 := Bool.eq_false_iff.mpr c14; subst c14; rw [if_neg nf_] at H; obtain ⟨⟨t114, t115, t116⟩, A15, H⟩ := bi_ H; (try dsimp only at H); obtain ⟨t118, A16, H⟩ := bi_ H; by_cases c17 : t118 = true
    ·subst c17; rw [if_pos rfl] at H; obtain ⟨t119, A18, H⟩ := bi_ H; obtain rfl := Option.some.inj H; have hcz19_0 := bc_ BK112 0 rfl; have hcz19_1 := bc_ BK112 1 rfl; have hfz19_0 := blk_frozen BK112.out 0; have hfz19_1 := blk_frozen BK112.out 1
     go_wp2_with (first | (refine gl_ 20 Tryz.func34 #[.agg #[.string a0_0, .string a0_1]] ?_; refine mo_ (rat_Split.calls a0_0 a0_1 t114 t115 t116 _ (lb_ HLD HB) A15.out) ?_; intro w20 hb; replace BK112 := kb_ BK112 hb; replace HB := bs_ HB hb; (try clear hb); (try clear hb2); (try clear hk); (try clear hi)) | ((with_reducible refine gate_dst (N := 6) rfl ?_); refine be_ 6 #[.string (⟨#[]⟩ : ByteArray), .string (⟨#[]⟩ : ByteArray)] 23 ?_; intro gb117 hg w21 hbox hb; have BK117 := Aside0.mk (hbox); have GW117 := ge_ HB hg; have GE117 := ge_ HB hg; have NB112_117 := nl_ BK112 hg; have NB117_112 := ng_ BK112 hg; replace BK112 := kb_ BK112 hb; replace HB := bs_ HB hb; clear hb hbox hg; have hnb22 := NB117_112.out; have hnc22 := NB112_117.out; have hcz23_0 := bc_ BK117 0 rfl; have hcz23_1 := bc_ BK117 1 rfl; have hfz23_0 := blk_frozen BK117.out 0; have hfz23_1 := blk_frozen BK117.out 1) | (refine gl_ 26 Tryz.func35 #[.string t114, .agg #[.string t115, .string t116], .int .i64 a1] ?_; refine mo_ (grid_up.calls t114 t115 t116 a1 true _ (lb_ HLD HB) A16.out) ?_; intro w24 hb; replace BK112 := Aside0.mk (blk_below (g := gb112) (o := .cells #[.string a0_0, .string a0_1] 23 (0, 0)) (fr_ BK112.out) hb); replace BK117 := Aside0.mk (blk_below (g := gb117) (o := .cells #[.string t115, .string t116] 23 (0, 0)) (rp_ BK117.out) hb); replace HB := bs_ HB hb; (try clear hb); (try clear hb2); (try clear hk); (try clear hi)) | (refine gl_ 28 Tryz.func36 #[.string t114, .string (⟨#[49]⟩ : ByteArray)] ?_; refine mo_ (whole_Add.calls t114 (⟨#[49]⟩ : ByteArray) t119 _ (lb_ HLD HB) A18.out) ?_; intro w25 hb; replace BK112 := kb_ BK112 hb; replace BK117 := kb_ BK117 hb; replace HB := bs_ HB hb; (try clear hb); (try clear hb2); (try clear hk); (try clear hi)))
     go_ret
     exact ⟨er_, b_ HB.out⟩
    ·replace c17 := Bool.eq_false_iff.mpr c17; subst c17; rw [if_neg nf_] at H; obtain rfl := Option.some.inj H; have hcz26_0 := bc_ BK112 0 rfl; have hcz26_1 := bc_ BK112 1 rfl; have hfz26_0 := blk_frozen BK112.out 0; have hfz26_1 := blk_frozen BK112.out 1
     go_wp2_with (first | (refine gl_ 20 Tryz.func34 #[.agg #[.string a0_0, .string a0_1]] ?_; refine mo_ (rat_Split.calls a0_0 a0_1 t114 t115 t116 _ (lb_ HLD HB) A15.out) ?_; intro w27 hb; replace BK112 := kb_ BK112 hb; replace HB := bs_ HB hb; (try clear hb); (try clear hb2); (try clear hk); (try clear hi)) | ((with_reducible refine gate_dst (N := 6) rfl ?_); refine be_ 6 #[.string (⟨#[]⟩ : ByteArray), .string (⟨#[]⟩ : ByteArray)] 23 ?_; intro gb117 hg w28 hbox hb; have BK117 := Aside0.mk (hbox); have GW117 := ge_ HB hg; have GE117 := ge_ HB hg; have NB112_117 := nl_ BK112 hg; have NB117_112 := ng_ BK112 hg; replace BK112 := kb_ BK112 hb; replace HB := bs_ HB hb; clear hb hbox hg; have hnb29 := NB117_112.out; have hnc29 := NB112_117.out; have hcz30_0 := bc_ BK117 0 rfl; have hcz30_1 := bc_ BK117 1 rfl; have hfz30_0 := blk_frozen BK117.out 0; have hfz30_1 := blk_frozen BK117.out 1) | (refine gl_ 26 Tryz.func35 #[.string t114, .agg #[.string t115, .string t116], .int .i64 a1] ?_; refine mo_ (grid_up.calls t114 t115 t116 a1 false _ (lb_ HLD HB) A16.out) ?_; intro w31 hb; replace BK112 := Aside0.mk (blk_below (g := gb112) (o := .cells #[.string a0_0, .string a0_1] 23 (0, 0)) (fr_ BK112.out) hb); replace BK117 := Aside0.mk (blk_below (g := gb117) (o := .cells #[.string t115, .string t116] 23 (0, 0)) (rp_ BK117.out) hb); replace HB := bs_ HB hb; (try clear hb); (try clear hb2); (try clear hk); (try clear hi)))
     go_ret
     exact ⟨er_, b_ HB.out⟩
def grid_Round.f (k : Nat) (a0_0 : ByteArray) (a0_1 : ByteArray) (a1_0 : ByteArray) (a1_1 : ByteArray) (a2 : Int) : Option (ByteArray × ByteArray) := (rat_Sign.f a1_0 a1_1).bind fun t123 => (if t123 ≤ 0 then (some ((⟨#[]⟩ : ByteArray), (⟨#[]⟩ : ByteArray))) else ((rat_Div.f a0_0 a0_1 a1_0 a1_1).bind fun bt124 => ((grid_Whole.f k bt124.1 bt124.2.1 a2).bind fun t128 => ((rat_Make.f t128 (⟨#[49]⟩ : ByteArray)).bind fun bt129 => ((rat_Mul.f bt129.1 bt129.2.1 a1_0 a1_1).bind fun bt133 => (some (bt133.1, bt133.2)))))))
set_option maxHeartbeats 8000000 in
set_option maxRecDepth 100000 in
theorem grid_Round.calls (k : Nat) (a0_0 : ByteArray) (a0_1 : ByteArray) (a1_0 : ByteArray) (a1_1 : ByteArray) (a2 : Int) (r1 : ByteArray) (r2 : ByteArray) (w : World) (hL_ : Laid w) (h : grid_Round.f k a0_0 a0_1 a1_0 a1_1 a2 = some (r1, r2)) :
  Calls Tryz.prog 7 #[.agg #[.string a0_0, .string a0_1], .agg #[.string a1_0, .string a1_1], .int .i64 a2] w fun e w' => e = .returned (.agg #[.string r1, .string r2]) ∧ Below w.heap.size w w' := by
 have hu23 := Tryz.underlying23; have HLD := Aside0.mk hL_; clear hL_; have HB := Aside0.mk (Below.refl w.heap.size w); have H := h; unfold grid_Round.f at H; clear h; obtain ⟨t123, A4, H⟩ := bi_ H; by_cases c5 : t123 ≤ 0
 ·rw [if_pos c5] at H; have c5b0 : decide (t123 ≤ 0) = true := decide_eq_true c5; clear c5; simp only [Option.some.injEq, Prod.mk.injEq] at H; obtain ⟨rfl, rfl⟩ := H; go_enter Tryz.func7, Tryz.ntmps7
  go_wp2_with (first | ((with_reducible refine gate_dst (N := 3) rfl ?_); refine be_ 3 #[.string a0_0, .string a0_1] 23 ?_; intro gb120 hg w6 hbox hb; have BK120 := Aside0.mk (hbox); have GW120 := ge_ HB hg; have GE120 := ge_ HB hg; replace HB := bs_ HB hb; clear hb hbox hg) | ((with_reducible refine gate_dst (N := 4) rfl ?_); refine be_ 4 #[.string a1_0, .string a1_1] 23 ?_; intro gb121 hg w7 hbox hb; have BK121 := Aside0.mk (hbox); have GW121 := ge_ HB hg; have GE121 := ge_ HB hg; have NB120_121 := nl_ BK120 hg; have NB121_120 := ng_ BK120 hg; replace BK120 := kb_ BK120 hb; replace HB := bs_ HB hb; clear hb hbox hg) | ((with_reducible refine gate_dst (N := 6) rfl ?_); refine be_ 6 #[.string (⟨#[]⟩ : ByteArray), .string (⟨#[]⟩ : ByteArray)] 23 ?_; intro gb122 hg w8 hbox hb; have BK122 := Aside0.mk (hbox); have GW122 := ge_ HB hg; have GE122 := ge_ HB hg; have NB120_122 := nl_ BK120 hg; have NB122_120 := ng_ BK120 hg; have NB121_122 := nl_ BK121 hg; have NB122_121 := ng_ BK121 hg; replace BK120 := kb_ BK120 hb; replace BK121 := kb_ BK121 hb; replace HB := bs_ HB hb; clear hb hbox hg; have hnb9 := NB121_120.out; have hnc9 := NB120_121.out; have hnb10 := NB121_122.out; have hnc10 := NB122_121.out; have hcz11_0 := bc_ BK121 0 rfl; have hcz11_1 := bc_ BK121 1 rfl; have hfz11_0 := blk_frozen BK121.out 0; have hfz11_1 := blk_frozen BK121.out 1) | (refine gl_ 12 Tryz.func20 #[.agg #[.string a1_0, .string a1_1]] ?_; refine mo_ (rat_Sign.calls a1_0 a1_1 t123 _ (lb_ HLD HB) A4.out) ?_; intro w12 hb; replace BK120 := kb_ BK120 hb; replace BK121 := kb_ BK121 hb; replace BK122 := kb_ BK122 hb; replace HB := bs_ HB hb; (try clear hb); (try clear hb2); (try clear hk); (try clear hi); have hnb13 := NB122_120.out; have hnc13 := NB120_122.out; have hcz14_0 := bc_ BK122 0 rfl; have hcz14_1 := bc_ BK122 1 rfl; have hfz14_0 := blk_frozen BK122.out 0; have hfz14_1 := blk_frozen BK122.out 1))
  refine bodyPost_ret (results_cell_row rfl _ _ gb122 23 #[.string (⟨#[]⟩ : ByteArray), .string (⟨#[]⟩ : ByteArray)] (0, 0) _ rfl (rp_ BK122.out) Tryz.underlying23 rfl (by kernel_rfl)) rfl ?_; exact ⟨er_, b_ HB.out⟩
 ·rw [if_neg c5] at H; have c5b0 : decide (t123 ≤ 0) = false := decide_eq_false c5; clear c5; obtain ⟨⟨t124, t125, t126⟩, A15, H⟩ := bi_ H; (try dsimp only at H); obtain ⟨t128, A16, H⟩ := bi_ H; obtain ⟨⟨t129, t130, t131⟩, A17, H⟩ := bi_ H; (try dsimp only at H); obtain ⟨⟨t133, t134⟩, A18, H⟩ := bi_ H; (try dsimp only at H); simp only [Option.some.injEq, Prod.mk.injEq] at H; obtain ⟨rfl, rfl⟩ := H; go_enter Tryz.func7, Tryz.ntmps7
  go_wp2_with (first | ((with_reducible refine gate_dst (N := 3) rfl ?_); refine be_ 3 #[.string a0_0, .string a0_1] 23 ?_; intro gb120 hg w19 hbox hb; have BK120 := Aside0.mk (hbox); have GW120 := ge_ HB hg; have GE120 := ge_ HB hg; replace HB := bs_ HB hb; clear hb hbox hg) | ((with_reducible refine gate_dst (N := 4) rfl ?_); refine be_ 4 #[.string a1_0, .string a1_1] 23 ?_; intro gb121 hg w20 hbox hb; have BK121 := Aside0.mk (hbox); have GW121 := ge_ HB hg; have GE121 := ge_ HB hg; have NB120_121 := nl_ BK120 hg; have NB121_120 := ng_ BK120 hg; replace BK120 := kb_ BK120 hb; replace HB := bs_ HB hb; clear hb hbox hg) | ((with_reducible refine gate_dst (N := 6) rfl ?_); refine be_ 6 #[.string (⟨#[]⟩ : ByteArray), .string (⟨#[]⟩ : ByteArray)] 23 ?_; intro gb122 hg w21 hbox hb; have BK122 := Aside0.mk (hbox); have GW122 := ge_ HB hg; have GE122 := ge_ HB hg; have NB120_122 := nl_ BK120 hg; have NB122_120 := ng_ BK120 hg; have NB121_122 := nl_ BK121 hg; have NB122_121 := ng_ BK121 hg; replace BK120 := kb_ BK120 hb; replace BK121 := kb_ BK121 hb; replace HB := bs_ HB hb; clear hb hbox hg; have hnb22 := NB121_120.out; have hnc22 := NB120_121.out; have hnb23 := NB121_122.out; have hnc23 := NB122_121.out; have hcz24_0 := bc_ BK121 0 rfl; have hcz24_1 := bc_ BK121 1 rfl; have hfz24_0 := blk_frozen BK121.out 0; have hfz24_1 := blk_frozen BK121.out 1) | (refine gl_ 12 Tryz.func20 #[.agg #[.string a1_0, .string a1_1]] ?_; refine mo_ (rat_Sign.calls a1_0 a1_1 t123 _ (lb_ HLD HB) A4.out) ?_; intro w25 hb; replace BK120 := kb_ BK120 hb; replace BK121 := kb_ BK121 hb; replace BK122 := kb_ BK122 hb; replace HB := bs_ HB hb; (try clear hb); (try clear hb2); (try clear hk); (try clear hi); have hnb26 := NB120_122.out; have hnc26 := NB122_120.out; have hcz27_0 := bc_ BK120 0 rfl; have hcz27_1 := bc_ BK120 1 rfl; have hfz27_0 := blk_frozen BK120.out 0; have hfz27_1 := blk_frozen BK120.out 1; have hcz28_0 := bc_ BK121 0 rfl; have hcz28_1 := bc_ BK121 1 rfl; have hfz28_0 := blk_frozen BK121.out 0; have hfz28_1 := blk_frozen BK121.out 1) | (refine gl_ 18 Tryz.func21 #[.agg #[.string a0_0, .string a0_1], .agg #[.string a1_0, .string a1_1]] ?_; refine mo_ (rat_Div.calls a0_0 a0_1 a1_0 a1_1 t124 t125 t126 _ (lb_ HLD HB) A15.out) ?_; intro w29 hb; replace BK120 := kb_ BK120 hb; replace BK121 := kb_ BK121 hb; replace BK122 := kb_ BK122 hb; replace HB := bs_ HB hb; (try clear hb); (try clear hb2); (try clear hk); (try clear hi)) | ((with_reducible refine gate_dst (N := 7) rfl ?_); refine be_ 7 #[.string (⟨#[]⟩ : ByteArray), .string (⟨#[]⟩ : ByteArray)] 23 ?_; intro gb127 hg w30 hbox hb; have BK127 := Aside0.mk (hbox); have GW127 := ge_ HB hg; have GE127 := ge_ HB hg; have NB120_127 := nl_ BK120 hg; have NB127_120 := ng_ BK120 hg; have NB121_127 := nl_ BK121 hg; have NB127_121 := ng_ BK121 hg; have NB122_127 := nl_ BK122 hg; have NB127_122 := ng_ BK122 hg; replace BK120 := kb_ BK120 hb; replace BK121 := kb_ BK121 hb; replace BK122 := kb_ BK122 hb; replace HB := bs_ HB hb; clear hb hbox hg; have hnb31 := NB127_120.out; have hnc31 := NB120_127.out; have hnb32 := NB127_121.out; have hnc32 := NB121_127.out; have hnb33 := NB127_122.out; have hnc33 := NB122_127.out; have hcz34_0 := bc_ BK127 0 rfl; have hcz34_1 := bc_ BK127 1 rfl; have hfz34_0 := blk_frozen BK127.out 0; have hfz34_1 := blk_frozen BK127.out 1) | (refine gl_ 24 Tryz.func14 #[.agg #[.string t124, .string t125], .int .i64 a2] ?_; refine mo_ (grid_Whole.calls k t124 t125 a2 t128 _ (lb_ HLD HB) A16.out) ?_; intro w35 hb; replace BK120 := Aside0.mk (blk_below (g := gb120) (o := .cells #[.string a0_0, .string a0_1] 23 (0, 0)) (fr_ BK120.out) hb); replace BK121 := Aside0.mk (blk_below (g := gb121) (o := .cells #[.string a1_0, .string a1_1] 23 (0, 0)) (fr_ BK121.out) hb); replace BK122 := Aside0.mk (blk_below (g := gb122) (o := .cells #[.string (⟨#[]⟩ : ByteArray), .string (⟨#[]⟩ : ByteArray)] 23 (0, 0)) (fr_ BK122.out) hb); replace BK127 := Aside0.mk (blk_below (g := gb127) (o := .cells #[.string t124, .string t125] 23 (0, 0)) (rp_ BK127.out) hb); replace HB := bs_ HB hb; (try clear hb); (try clear hb2); (try clear hk); (try clear hi)) | (refine gl_ 25 Tryz.func22 #[.string t128, .string (⟨#[49]⟩ : ByteArray)] ?_; refine mo_ (rat_Make.calls t128 (⟨#[49]⟩ : ByteArray) t129 t130 t131 _ (lb_ HLD HB) A17.out) ?_; intro w36 hb; replace BK120 := kb_ BK120 hb; replace BK121 := kb_ BK121 hb; replace BK122 := kb_ BK122 hb; replace BK127 := kb_ BK127 hb; replace HB := bs_ HB hb; (try clear hb); (try clear hb2); (try clear hk); (try clear hi)) | ((with_reducible refine gate_dst (N := 9) rfl ?_); refine be_ 9 #[.string (⟨#[]⟩ : ByteArray), .string (⟨#[]⟩ : ByteArray)] 23 ?_; intro gb132 hg w37 hbox hb; have BK132 := Aside0.mk (hbox); have GW132 := ge_ HB hg; have GE132 := ge_ HB hg; have NB120_132 := nl_ BK120 hg; have NB132_120 := ng_ BK120 hg; have NB121_132 := nl_ BK121 hg; have NB132_121 := ng_ BK121 hg; have NB122_132 := nl_ BK122 hg; have NB132_122 := ng_ BK122 hg; have NB127_132 := nl_ BK127 hg; have NB132_127 := ng_ BK127 hg; replace BK120 := kb_ BK120 hb; replace BK121 := kb_ BK121 hb; replace BK122 := kb_ BK122 hb; replace BK127 := kb_ BK127 hb; replace HB := bs_ HB hb; clear hb hbox hg; have hnb38 := NB132_120.out; have hnc38 := NB120_132.out; have hnb39 := NB132_121.out; have hnc39 := NB121_132.out; have hnb40 := NB132_122.out; have hnc40 := NB122_132.out; have hnb41 := NB132_127.out; have hnc41 := NB127_132.out; have hcz42_0 := bc_ BK132 0 rfl; have hcz42_1 := bc_ BK132 1 rfl; have hfz42_0 := blk_frozen BK132.out 0; have hfz42_1 := blk_frozen BK132.out 1; have hcz43_0 := bc_ BK121 0 rfl; have hcz43_1 := bc_ BK121 1 rfl; have hfz43_0 := blk_frozen BK121.out 0; have hfz43_1 := blk_frozen BK121.out 1) | (refine gl_ 30 Tryz.func23 #[.agg #[.string t129, .string t130], .agg #[.string a1_0, .string a1_1]] ?_; refine mo_ (rat_Mul.calls t129 t130 a1_0 a1_1 t133 t134 _ (lb_ HLD HB) A18.out) ?_; intro w44 hb; replace BK120 := Aside0.mk (blk_below (g := gb120) (o := .cells #[.string a0_0, .string a0_1] 23 (0, 0)) (fr_ BK120.out) hb); replace BK121 := Aside0.mk (blk_below (g := gb121) (o := .cells #[.string a1_0, .string a1_1] 23 (0, 0)) (fr_ BK121.out) hb); replace BK122 := Aside0.mk (blk_below (g := gb122) (o := .cells #[.string (⟨#[]⟩ : ByteArray), .string (⟨#[]⟩ : ByteArray)] 23 (0, 0)) (fr_ BK122.out) hb); replace BK127 := Aside0.mk (blk_below (g := gb127) (o := .cells #[.string t124, .string t125] 23 (0, 0)) (fr_ BK127.out) hb); replace BK132 := Aside0.mk (blk_below (g := gb132) (o := .cells #[.string t129, .string t130] 23 (0, 0)) (rp_ BK132.out) hb); replace HB := bs_ HB hb; (try clear hb); (try clear hb2); (try clear hk); (try clear hi); have hcz45_0 := bc_ BK122 0 rfl; have hcz45_1 := bc_ BK122 1 rfl; have hfz45_0 := blk_frozen BK122.out 0; have hfz45_1 := blk_frozen BK122.out 1))
  refine bodyPost_ret (results_cell_row rfl _ _ gb122 23 #[.string t133, .string t134] (0, 0) _ rfl (rp_ BK122.out) Tryz.underlying23 rfl (by kernel_rfl)) rfl ?_; exact ⟨er_, b_ HB.out⟩
def grid_Cents.f (k : Nat) (a0_0 : ByteArray) (a0_1 : ByteArray) : Option (ByteArray × ByteArray) := (grid_Round.f k a0_0 a0_1 (⟨#[49]⟩ : ByteArray) (⟨#[49, 48, 48]⟩ : ByteArray) 2).bind fun bt137 => (some (bt137.1, bt137.2))
set_option maxHeartbeats 8000000 in
set_option maxRecDepth 100000 in
theorem grid_Cents.calls (k : Nat) (a0_0 : ByteArray) (a0_1 : ByteArray) (r1 : ByteArray) (r2 : ByteArray) (w : World) (hL_ : Laid w) (h : grid_Cents.f k a0_0 a0_1 = some (r1, r2)) :
  Calls Tryz.prog 16 #[.agg #[.string a0_0, .string a0_1]] w fun e w' => e = .returned (.agg #[.string r1, .string r2]) ∧ Below w.heap.size w w' := by
 have hu23 := Tryz.underlying23; have HLD := Aside0.mk hL_; clear hL_; have HB := Aside0.mk (Below.refl w.heap.size w); have H := h; unfold grid_Cents.f at H; clear h; obtain ⟨⟨t137, t138⟩, A2, H⟩ := bi_ H; (try dsimp only at H); simp only [Option.some.injEq, Prod.mk.injEq] at H; obtain ⟨rfl, rfl⟩ := H; go_enter Tryz.func16, Tryz.ntmps16
 go_wp2_with (first | ((with_reducible refine gate_dst (N := 1) rfl ?_); refine be_ 1 #[.string a0_0, .string a0_1] 23 ?_; intro gb135 hg w3 hbox hb; have BK135 := Aside0.mk (hbox); have GW135 := ge_ HB hg; have GE135 := ge_ HB hg; replace HB := bs_ HB hb; clear hb hbox hg) | ((with_reducible refine gate_dst (N := 2) rfl ?_); refine be_ 2 #[.string (⟨#[]⟩ : ByteArray), .string (⟨#[]⟩ : ByteArray)] 23 ?_; intro gb136 hg w4 hbox hb; have BK136 := Aside0.mk (hbox); have GW136 := ge_ HB hg; have GE136 := ge_ HB hg; have NB135_136 := nl_ BK135 hg; have NB136_135 := ng_ BK135 hg; replace BK135 := kb_ BK135 hb; replace HB := bs_ HB hb; clear hb hbox hg; have hnb5 := NB135_136.out; have hnc5 := NB136_135.out; have hcz6_0 := bc_ BK135 0 rfl; have hcz6_1 := bc_ BK135 1 rfl; have hfz6_0 := blk_frozen BK135.out 0; have hfz6_1 := blk_frozen BK135.out 1) | (refine gl_ 5 Tryz.func7 #[.agg #[.string a0_0, .string a0_1], .agg #[.string (⟨#[49]⟩ : ByteArray), .string (⟨#[49, 48, 48]⟩ : ByteArray)], .int .i64 2] ?_; refine mo_ (grid_Round.calls k a0_0 a0_1 (⟨#[49]⟩ : ByteArray) (⟨#[49, 48, 48]⟩ : ByteArray) 2 t137 t138 _ (lb_ HLD HB) A2.out) ?_; intro w7 hb; replace BK135 := kb_ BK135 hb; replace BK136 := kb_ BK136 hb; replace HB := bs_ HB hb; (try clear hb); (try clear hb2); (try clear hk); (try clear hi); have hcz8_0 := bc_ BK136 0 rfl; have hcz8_1 := bc_ BK136 1 rfl; have hfz8_0 := blk_frozen BK136.out 0; have hfz8_1 := blk_frozen BK136.out 1))
 refine bodyPost_ret (results_cell_row rfl _ _ gb136 23 #[.string t137, .string t138] (0, 0) _ rfl (rp_ BK136.out) Tryz.underlying23 rfl (by kernel_rfl)) rfl ?_; exact ⟨er_, b_ HB.out⟩
end Go.Proofs.YtnhpnnbjimnmlaaGreatDoor.Pg
end

section
namespace Go.Proofs.YtnhpnnbjimnmlaaGreatDoor.Pg
end Go.Proofs.YtnhpnnbjimnmlaaGreatDoor.Pg
end

section
namespace Go.Proofs.YtnhpnnbjimnmlaaGreatDoor
theorem intB_two : (⟨#[50]⟩ : ByteArray) = intB 2 := by kernel_rfl
theorem intB_one : (⟨#[49]⟩ : ByteArray) = intB 1 := by rw [← natB_one]; exact (intB_nat 1).symm
theorem intB_beq_one (z : Int) : ((intB z).toList == ([49] : List UInt8)) = decide (z = 1) := by
 have e : (intB 1).toList = [49] := by rw [← intB_one, ByteArray.toList_eq]
 rw [← e]
 exact intB_beq z 1
theorem szR_two (f : Rat) : szR (f + f) ≤ szR f + 32 := by
 have h := szR_mul f ((2 : Int) : Rat)
 have h2 := szR_small (n := 2) (by decide) (by decide)
 have e : f * ((2 : Int) : Rat) = f + f := by
  have e6 : ((2 : Int) : Rat) = 2 := rfl
  rw [e6]
  grind
 rw [e] at h
 omega
theorem gup_f {w : Int} {f : Rat} (hw : szI w ≤ 4000) (hf : szR f ≤ 3900) (m : Int) : Pg.grid_up.f (intB w) (rT f).1 (rT f).2 m = some (upQ w f m) := by
 unfold Pg.grid_up.f
 by_cases m1 : m = 1
 ·subst m1
  rw [if_pos rfl, gSign (by omega), Option.bind_some]
  unfold upQ
  rw [if_pos rfl]
  by_cases h : w < 0
  ·rw [if_pos (by rw [cmp_lt' h]; decide), hSign (by omega), Option.bind_some, decide_eq_true h, Bool.true_and]
   congr 1
   exact decide_eq_decide.2 (cmpQ_gt f 0)
  ·rw [if_neg, decide_eq_false h, Bool.false_and]
   unfold Lib.compareInt
   (repeat' split) <;> omega
 ·rw [if_neg m1]
  by_cases m2 : m = 2
  ·subst m2
   have s := szR_two f
   rw [if_pos rfl, hAdd (by omega) (by omega), Option.bind_some, hOf (by decide) (by decide), Option.bind_some, hCmp (by omega) (Nat.le_trans (szR_small (by decide) (by decide)) (by decide)), Option.bind_some, intB_two, gDiv (by omega) (Nat.le_trans (szI_64 (by decide) (by decide)) (by decide)) (by decide), Option.bind_some, upQ_two, intB_beq_one]
   have e1 : ((1 : Int) : Rat) = 1 := rfl
   rw [e1]
   rcases cmpQ_cases (f + f) 1 with ⟨h1, h2, h3, h4⟩ | ⟨h1, h2, h3, h4⟩ | ⟨h1, h2, h3, h4⟩
   ·rw [h4, if_neg (by decide), if_neg (by decide), decide_eq_false h2, decide_eq_false h3]
    rfl
   ·rw [h4, if_neg (by decide), if_pos rfl, decide_eq_false h3, decide_eq_true h1]
    rfl
   ·rw [h4, if_pos (by decide), decide_eq_true h1]
    rfl
  ·rw [if_neg m2]
   unfold upQ
   rw [if_neg m1, if_neg m2]
theorem ratmay_c {x : BB} (h : x.1.size + x.2.size ≤ 3900) : rat_May.f x.1 x.2 = some (mayR x) := by
 unfold rat_May.f
 rw [if_pos (show smR (x.1, x.2) = true from smR_of (x := x) (by omega))]
theorem gwhole_f {x : BB} (hx : x.1.size + x.2.size ≤ 1900) (m : Int) (k : Nat) : Pg.grid_Whole.f (k + 1) x.1 x.2 m = some (gwholeS x m) := by
 unfold Pg.grid_Whole.f gwholeS
 rw [ratmay_c (by omega), Option.bind_some]
 have hj : Pg.grid_Whole.j0 (k + 1) m true x.1 x.2 = some noB := by
  simp only [Pg.grid_Whole.j0]
  rfl
 by_cases hm : mayR x = true
 ·rw [if_pos hm, hm, Bool.true_and]
  by_cases m0 : m < 0
  ·rw [if_pos m0, hj, if_neg]
   unfold modeOk
   rw [decide_eq_true_eq]
   omega
  ·rw [if_neg m0]
   by_cases m3 : m ≥ 3
   ·rw [decide_eq_true m3, hj, if_neg]
    unfold modeOk
    rw [decide_eq_true_eq]
    omega
   ·rw [decide_eq_false m3, if_pos (show modeOk m = true from decide_eq_true (by omega))]
    obtain ⟨q, rfl⟩ := of_mayR hm
    have hq : szR q ≤ 1900 := hx
    have s1 := szI_floor q
    have s2 := szR_frac q
    simp only [Pg.grid_Whole.j0]
    rw [if_neg (by decide), hSplit (by omega), Option.bind_some, gup_f (by omega) (by omega), Option.bind_some, ratR_rT]
    unfold gW
    by_cases h : upQ q.floor (q - (q.floor : Rat)) m = true
    ·rw [if_pos h, if_pos h, intB_one, gAdd (by omega) (Nat.le_trans (szI_64 (by decide) (by decide)) (by decide)), Option.bind_some]
    ·rw [if_neg h, if_neg h]
 ·rw [if_neg hm, hj, (Bool.not_eq_true _).mp hm]
  rfl
theorem no2_may : mayR no2 = false := by decide
theorem smG2_le {x y : BB} (h : smG2 x y = true) : x.1.size + x.2.size ≤ 900 ∧ y.1.size + y.2.size ≤ 900 := by
 unfold smG2 smG at h
 rw [Bool.and_eq_true, decide_eq_true_eq, decide_eq_true_eq] at h
 exact h
theorem ground_f {x g : BB} (h : smG2 x g = true) (m : Int) (k : Nat) : Pg.grid_Round.f (k + 1) x.1 x.2 g.1 g.2 m = some (groundS x g m) := by
 obtain ⟨h1, h2⟩ := smG2_le h
 unfold Pg.grid_Round.f groundS
 have es : rat_Sign.f g.1 g.2 = some (rsignS g) := by
  unfold rat_Sign.f
  rw [if_pos (show smR (g.1, g.2) = true from smR_of (x := g) (by omega))]
 rw [es, Option.bind_some]
 unfold rsignS
 by_cases hg : mayR g = true
 ·rw [if_pos hg]
  obtain ⟨b, rfl⟩ := of_mayR hg
  rw [ratR_rT]
  by_cases hp : 0 < b
  ·rw [if_neg (fun z => absurd ((cmpQ_le b 0).1 z) (Rat.not_le.2 hp)), decide_eq_true hp, Bool.and_true]
   have hne : b ≠ 0 := by intro e; rw [e] at hp; exact Rat.lt_irrefl hp
   have hb : szR b ≤ 900 := h2
   have hend : ((rat_Make.f noB ⟨#[49]⟩).bind fun t => (rat_Mul.f t.1 t.2.1 (rT b).1 (rT b).2).bind fun z => some (z.1, z.2)) = some no2 := by
    have e1 : rat_Make.f noB ⟨#[49]⟩ = some (noB, noB, false) := by
     unfold rat_Make.f rmakeS
     rw [if_pos (by decide), show may2W noB ⟨#[49]⟩ = false by unfold may2W; rw [show mayW noB = false by decide]; rfl]
     rfl
    have e2 : rat_Mul.f noB noB (rT b).1 (rT b).2 = some no2 := by
     unfold rat_Mul.f rmulS
     rw [if_pos (show smR2 (noB, noB) ((rT b).1, (rT b).2) = true from smR2_of (x := no2) (y := rT b) (by decide) (show szR b ≤ 3900 by omega)), show may2R (noB, noB) ((rT b).1, (rT b).2) = false by unfold may2R; rw [show mayR (noB, noB) = false from no2_may]; rfl]
     rfl
    rw [e1, Option.bind_some, e2]
    rfl
   by_cases hx : mayR x = true
   ·obtain ⟨a, rfl⟩ := of_mayR hx
    have ha : szR a ≤ 900 := h1
    have sq := szR_div a hne
    rw [hDiv (by omega) (by omega) hne, Option.bind_some, gwhole_f (x := rT (a / b)) (show szR (a / b) ≤ 1900 by omega), Option.bind_some, may2R_rT, Bool.true_and]
    unfold gwholeS
    rw [show mayR ((rT (a / b)).1, (rT (a / b)).2) = true from mayR_rT _, Bool.true_and, show ratR ((rT (a / b)).1, (rT (a / b)).2) = a / b from ratR_rT _]
    by_cases hm : modeOk m = true
    ·have s1 := szI_gW (a / b) m
     have s2 := szR_int (gW (a / b) m)
     rw [if_pos hm, if_pos hm, hMake1 (by omega), Option.bind_some, hMul (by omega) (by omega), Option.bind_some, ratR_rT]
     rfl
    ·rw [if_neg hm, if_neg hm]
     exact hend
   ·have ed : rat_Div.f x.1 x.2 (rT b).1 (rT b).2 = some (noB, noB, false) := by
     unfold rat_Div.f rdivS
     rw [if_pos (show smR2 (x.1, x.2) ((rT b).1, (rT b).2) = true from smR2_of (x := x) (y := rT b) (by omega) (show szR b ≤ 3900 by omega)), show may2R (x.1, x.2) ((rT b).1, (rT b).2) = false by unfold may2R; rw [show mayR (x.1, x.2) = false from (Bool.not_eq_true _).mp hx]; rfl]
     rfl
    rw [ed, Option.bind_some, show may2R x (rT b) = false by unfold may2R; rw [(Bool.not_eq_true _).mp hx]; rfl]
    have ew := gwhole_f (x := no2) (by decide) m k
    rw [show gwholeS no2 m = noB by unfold gwholeS; rw [no2_may]; rfl] at ew
    show ((Pg.grid_Whole.f (k + 1) no2.1 no2.2 m).bind fun t => ((rat_Make.f t ⟨#[49]⟩).bind fun t => (rat_Mul.f t.1 t.2.1 (rT b).1 (rT b).2).bind fun z => some (z.1, z.2))) = _
    rw [ew, Option.bind_some]
    exact hend
  ·rw [if_pos ((cmpQ_le b 0).2 (Rat.not_lt.1 hp)), decide_eq_false hp, Bool.and_false, Bool.and_false]
   rfl
 ·rw [if_neg hg, if_pos (by decide), show may2R x g = false by unfold may2R; rw [(Bool.not_eq_true _).mp hg, Bool.and_false]]
  rfl
theorem rT_centQ : rT centQ = (⟨#[49]⟩, ⟨#[49, 48, 48]⟩) := by kernel_rfl
theorem smG_cent {x : BB} (h : smG x = true) : smG2 x (rT centQ) = true := by
 unfold smG2
 rw [h, rT_centQ]
 rfl
theorem gcents_f {x : BB} (h : smG x = true) (k : Nat) : Pg.grid_Cents.f (k + 1) x.1 x.2 = some (groundS x (rT centQ) 2) := by
 unfold Pg.grid_Cents.f
 have e := ground_f (smG_cent h) 2 k
 rw [rT_centQ] at e ⊢
 rw [e, Option.bind_some]
def grid_Whole.f (a0_0 a0_1 : ByteArray) (a1 : Int) : Option ByteArray := if smG (a0_0, a0_1) = true then some (gwholeS (a0_0, a0_1) a1) else none
theorem grid_Whole.calls (a0_0 a0_1 : ByteArray) (a1 : Int) (r : ByteArray) (w : World) (hL_ : Laid w) (h : grid_Whole.f a0_0 a0_1 a1 = some r) :
  Calls Tryz.prog 14 #[.agg #[.string a0_0, .string a0_1], .int .i64 a1] w fun e w' => e = .returned (.string r) ∧ Below w.heap.size w w' := by
 unfold grid_Whole.f at h
 split at h
 ·rename_i hp
  have hs : a0_0.size + a0_1.size ≤ 900 := of_decide_eq_true hp
  rw [← gwhole_f (x := (a0_0, a0_1)) (show a0_0.size + a0_1.size ≤ 1900 by omega) a1 0] at h
  exact Pg.grid_Whole.calls _ a0_0 a0_1 a1 r w hL_ h
 ·cases h
def grid_Round.f (a0_0 a0_1 a1_0 a1_1 : ByteArray) (a2 : Int) : Option BB := if smG2 (a0_0, a0_1) (a1_0, a1_1) = true then some (groundS (a0_0, a0_1) (a1_0, a1_1) a2) else none
theorem grid_Round.calls (a0_0 a0_1 a1_0 a1_1 : ByteArray) (a2 : Int) (r1 r2 : ByteArray) (w : World) (hL_ : Laid w) (h : grid_Round.f a0_0 a0_1 a1_0 a1_1 a2 = some (r1, r2)) :
  Calls Tryz.prog 7 #[.agg #[.string a0_0, .string a0_1], .agg #[.string a1_0, .string a1_1], .int .i64 a2] w fun e w' => e = .returned (.agg #[.string r1, .string r2]) ∧ Below w.heap.size w w' := by
 unfold grid_Round.f at h
 split at h
 ·rename_i hp
  rw [← ground_f hp a2 0] at h
  exact Pg.grid_Round.calls _ a0_0 a0_1 a1_0 a1_1 a2 r1 r2 w hL_ h
 ·cases h
def grid_Cents.f (a0_0 a0_1 : ByteArray) : Option BB := if smG (a0_0, a0_1) = true then some (groundS (a0_0, a0_1) (rT centQ) 2) else none
theorem grid_Cents.calls (a0_0 a0_1 : ByteArray) (r1 r2 : ByteArray) (w : World) (hL_ : Laid w) (h : grid_Cents.f a0_0 a0_1 = some (r1, r2)) :
  Calls Tryz.prog 16 #[.agg #[.string a0_0, .string a0_1]] w fun e w' => e = .returned (.agg #[.string r1, .string r2]) ∧ Below w.heap.size w w' := by
 unfold grid_Cents.f at h
 split at h
 ·rename_i hp
  rw [← gcents_f hp 0] at h
  exact Pg.grid_Cents.calls _ a0_0 a0_1 r1 r2 w hL_ h
 ·cases h
end Go.Proofs.YtnhpnnbjimnmlaaGreatDoor
end

section
namespace Go.Proofs.YtnhpnnbjimnmlaaGreatDoor
theorem gRound {x g : Rat} (hx : szR x ≤ 900) (hg : szR g ≤ 900) {m : Int} (h0 : 0 ≤ m) (h1 : m ≤ 2) (h : 0 < g) : grid_Round.f (rT x).1 (rT x).2 (rT g).1 (rT g).2 m = some (rT (gR x g m)) := by
 unfold grid_Round.f groundS
 have e1 : ratR ((rT x).1, (rT x).2) = x := ratR_rT x
 have e2 : ratR ((rT g).1, (rT g).2) = g := ratR_rT g
 rw [if_pos (show smG2 ((rT x).1, (rT x).2) ((rT g).1, (rT g).2) = true from smG2_rT hx hg), show may2R ((rT x).1, (rT x).2) ((rT g).1, (rT g).2) = true from may2R_rT x g, show modeOk m = true from decide_eq_true ⟨h0, h1⟩, e1, e2, decide_eq_true h]
 rfl
end Go.Proofs.YtnhpnnbjimnmlaaGreatDoor
end

section
namespace Go.Proofs.YtnhpnnbjimnmlaaGreatDoor.Pf5
def errW : Option Int → Value
 | none => .nilIface
 | some c => .iface 0 (.int .i64 c)
theorem errW_none : errW none = .nilIface := rfl
theorem errW_some (c : Int) : errW (some c) = .iface 0 (.int .i64 c) := rfl
end Go.Proofs.YtnhpnnbjimnmlaaGreatDoor.Pf5
end

section
namespace Go.Proofs.YtnhpnnbjimnmlaaGreatDoor.Pf5
theorem eqA23 (d : Nat) (w : World) (x0 y0 : ByteArray) (x1 y1 : ByteArray) :
  (Op.equalIn (d + 2) 23 (.agg #[.string x0, .string x1]) (.agg #[.string y0, .string y1])).run Tryz.prog w = .ok (x0.toList == y0.toList && (x1.toList == y1.toList)) w := by
 refine eqA_of Tryz.underlying23 (by kernel_rfl) ?_; refine eqf_cons (by rfl) (by go_simp; rfl) (by go_simp; rfl) (by go_simp) ?_; exact eqf_last (by rfl) (by go_simp; rfl) (by go_simp; rfl) (by go_simp)
end Go.Proofs.YtnhpnnbjimnmlaaGreatDoor.Pf5
end

section
namespace Go.Proofs.YtnhpnnbjimnmlaaGreatDoor.Pf5
attribute [local go_sem high] eqA23
def dl5_fixed.f  : Option (Bool) := (r3_One.f 5 2).bind fun bt101 => ((grid_Whole.f bt101.1 bt101.2 2).bind fun t103 => (if t103.toList = ([50] : List UInt8) then ((r3_One.f 7 2).bind fun bt104 => ((grid_Whole.f bt104.1 bt104.2 2).bind fun t106 => (if t106.toList = ([52] : List UInt8) then ((r3_One.f (-5) 2).bind fun bt107 => ((grid_Whole.f bt107.1 bt107.2 2).bind fun t109 => (if t109.toList = ([45, 50] : List UInt8) then ((r3_One.f (-7) 2).bind fun bt110 => ((grid_Whole.f bt110.1 bt110.2 1).bind fun t112 => (if t112.toList = ([45, 51] : List UInt8) then ((r3_One.f (-7) 2).bind fun bt113 => ((grid_Whole.f bt113.1 bt113.2 0).bind fun t115 => (if t115.toList = ([45, 52] : List UInt8) then ((r3_One.f 17 10).bind fun bt116 => ((r3_One.f 1 2).bind fun bt118 => ((grid_Round.f bt116.1 bt116.2 bt118.1 bt118.2 2).bind fun bt120 => ((r3_One.f 3 2).bind fun bt122 => (if (bt120.1.toList == bt122.1.toList && (bt120.2.toList == bt122.2.toList)) = true then ((r3_One.f 1 3).bind fun bt124 => ((grid_Cents.f bt124.1 bt124.2).bind fun bt126 => ((r3_One.f 33 100).bind fun bt128 => (if (bt126.1.toList == bt128.1.toList && (bt126.2.toList == bt128.2.toList)) = true then ((r3_Of.f 1).bind fun bt130 => ((grid_Whole.f bt130.1 bt130.2 3).bind fun t132 => (if t132.toList = ([] : List UInt8) then ((r3_Of.f 1).bind fun bt133 => ((r3_Of.f 0).bind fun bt135 => ((grid_Round.f bt133.1 bt133.2 bt135.1 bt135.2 0).bind fun bt137 => (some (bt137.1.toList == ([] : List UInt8) && (bt137.2.toList == ([] : List UInt8))))))) else (some false)))) else (some false))))) else (some false)))))) else (some false)))) else (some false)))) else (some false)))) else (some false)))) else (some false)))
set_option maxHeartbeats 8000000 in
set_option maxRecDepth 100000 in
theorem dl5_fixed.calls  (r : Bool) (w : World) (hL_ : Laid w) (hr_ : Aside0 (r = true)) (h : dl5_fixed.f  = some r) :
  Calls Tryz.prog 4 #[] w fun e w' => e = .returned (.bool r) ∧ Below w.heap.size w w' := by
 have hu23 := Tryz.underlying23; have HLD := Aside0.mk hL_; clear hL_; have HB := Aside0.mk (Below.refl w.heap.size w); have H := h; unfold dl5_fixed.f at H; clear h; obtain ⟨⟨t101, t102⟩, A1, H⟩ := bi_ H; (try dsimp only at H); obtain ⟨t103, A2, H⟩ := bi_ H; by_cases c3 : t103.toList = ([50] : List UInt8)
 ·rw [if_pos c3] at H; have c3b0 : (t103.toList == ([50] : List UInt8)) = true := beq_iff_eq.mpr c3; have c3b1 : (t103.toList != ([50] : List UInt8)) = false := bne_eq_false_iff_eq.mpr c3; clear c3; obtain ⟨⟨t104, t105⟩, A4, H⟩ := bi_ H; (try dsimp only at H); obtain ⟨t106, A5, H⟩ := bi_ H; by_cases c6 : t106.toList = ([52] : List UInt8)
  ·rw [if_pos c6] at H; have c6b0 : (t106.toList == ([52] : List UInt8)) = true := beq_iff_eq.mpr c6; have c6b1 : (t106.toList != ([52] : List UInt8)) = false := bne_eq_false_iff_eq.mpr c6; clear c6; obtain ⟨⟨t107, t108⟩, A7, H⟩ := bi_ H; (try dsimp only at H); obtain ⟨t109, A8, H⟩ := bi_ H; by_cases c9 : t109.toList = ([45, 50] : List UInt8)
   ·rw [if_pos c9] at H; have c9b0 : (t109.toList == ([45, 50] : List UInt8)) = true := beq_iff_eq.mpr c9; have c9b1 : (t109.toList != ([45, 50] : List UInt8)) = false := bne_eq_false_iff_eq.mpr c9; clear c9; obtain ⟨⟨t110, t111⟩, A10, H⟩ := bi_ H; (try dsimp only at H); obtain ⟨t112, A11, H⟩ := bi_ H; by_cases c12 : t112.toList = ([45, 51] : List UInt8)
    ·rw [if_pos c12] at H; have c12b0 : (t112.toList == ([45, 51] : List UInt8)) = true := beq_iff_eq.mpr c12; have c12b1 : (t112.toList != ([45, 51] : List UInt8)) = false := bne_eq_false_iff_eq.mpr c12; clear c12; obtain ⟨⟨t113, t114⟩, A13, H⟩ := bi_ H; (try dsimp only at H)
     obtain ⟨rfl, rfl⟩ : t110 = t113 ∧ t111 = t114 := by have e_ := A10.out.symm.trans A13.out; simpa using e_
     obtain ⟨t115, A14, H⟩ := bi_ H; by_cases c15 : t115.toList = ([45, 52] : List UInt8)
     ·rw [if_pos c15] at H; have c15b0 : (t115.toList == ([45, 52] : List UInt8)) = true := beq_iff_eq.mpr c15; have c15b1 : (t115.toList != ([45, 52] : List UInt8)) = false := bne_eq_false_iff_eq.mpr c15; clear c15; obtain ⟨⟨t116, t117⟩, A16, H⟩ := bi_ H; (try dsimp only at H); obtain ⟨⟨t118, t119⟩, A17, H⟩ := bi_ H; (try dsimp only at H); obtain ⟨⟨t120, t121⟩, A18, H⟩ := bi_ H; (try dsimp only at H); obtain ⟨⟨t122, t123⟩, A19, H⟩ := bi_ H; (try dsimp only at H); by_cases c20 : (t120.toList == t122.toList && (t121.toList == t123.toList)) = true
      ·rw [if_pos c20] at H; have c20b0 : (t120.toList == t122.toList && (t121.toList == t123.toList)) = true := c20; (try (have c20b1 : decide (t120.toList = t122.toList && (t121.toList == t123.toList)) = true := by simpa using c20)); (try (have c20b2 : (t120.toList == t122.toList && (t121.toList == t123.toList)) = true := by simpa using c20)); clear c20; obtain ⟨⟨t124, t125⟩, A21, H⟩ := bi_ H; (try dsimp only at H); obtain ⟨⟨t126, t127⟩, A22, H⟩ := bi_ H; (try dsimp only at H); obtain ⟨⟨t128, t129⟩, A23, H⟩ := bi_ H; (try dsimp only at H); by_cases c24 : (t126.toList == t128.toList && (t127.toList == t129.toList)) = true
       ·rw [if_pos c24] at H; have c24b0 : (t126.toList == t128.toList && (t127.toList == t129.toList)) = true := c24; (try (have c24b1 : decide (t126.toList = t128.toList && (t127.toList == t129.toList)) = true := by simpa using c24)); (try (have c24b2 : (t126.toList == t128.toList && (t127.toList == t129.toList)) = true := by simpa using c24)); clear c24; obtain ⟨⟨t130, t131⟩, A25, H⟩ := bi_ H; (try dsimp only at H); obtain ⟨t132, A26, H⟩ := bi_ H; by_cases c27 : t132.toList = ([] : List UInt8)
        ·rw [if_pos c27] at H; have c27b0 : (t132.toList == ([] : List UInt8)) = true := beq_iff_eq.mpr c27; (try have c27e : (t132.toList.isEmpty) = true := (by have h_ := c27b0; simp at h_ ⊢; exact h_)); have c27b1 : (t132.toList != ([] : List UInt8)) = false := bne_eq_false_iff_eq.mpr c27; clear c27; obtain ⟨⟨t133, t134⟩, A28, H⟩ := bi_ H; (try dsimp only at H)
         obtain ⟨rfl, rfl⟩ : t130 = t133 ∧ t131 = t134 := by have e_ := A25.out.symm.trans A28.out; simpa using e_
         obtain ⟨⟨t135, t136⟩, A29, H⟩ := bi_ H; (try dsimp only at H); obtain ⟨⟨t137, t138⟩, A30, H⟩ := bi_ H; (try dsimp only at H); obtain rfl := Option.some.inj H; go_enter Tryz.func4, Tryz.ntmps4
         go_wp2_with (first | (refine gl_ 1 Tryz.func15 #[.int .i64 5, .int .i64 2] ?_; refine mo_ (r3_One.calls 5 2 t101 t102 _ A1.out) ?_; intro w31 hb; replace HB := bs_ HB hb; (try clear hb); (try clear hb2); (try clear hk); (try clear hi)) | (refine gl_ 2 Tryz.func14 #[.agg #[.string t101, .string t102], .int .i64 2] ?_; refine mo_ (grid_Whole.calls t101 t102 2 t103 _ (lb_ HLD HB) A2.out) ?_; intro w32 hb; replace HB := bs_ HB hb; (try clear hb); (try clear hb2); (try clear hk); (try clear hi)) | (go_at_call 15; (with_reducible refine (r3_One.calls 7 2 t104 t105 _ A4.out).mono ?_); rintro e w33 ⟨rfl, hb⟩; replace HB := bs_ HB hb; (try clear hb); (try clear hb2); (try clear hk); (try clear hi)) | (go_at_call 14; (with_reducible refine (grid_Whole.calls t104 t105 2 t106 _ ?side1 A5.out).mono ?_); (case side1 => exact lb_ HLD HB); rintro e w34 ⟨rfl, hb⟩; replace HB := bs_ HB hb; (try clear hb); (try clear hb2); (try clear hk); (try clear hi)) | (go_at_call 15; (with_reducible refine (r3_One.calls (-5) 2 t107 t108 _ A7.out).mono ?_); rintro e w35 ⟨rfl, hb⟩; replace HB := bs_ HB hb; (try clear hb); (try clear hb2); (try clear hk); (try clear hi)) | (go_at_call 14; (with_reducible refine (grid_Whole.calls t107 t108 2 t109 _ ?side1 A8.out).mono ?_); (case side1 => exact lb_ HLD HB); rintro e w36 ⟨rfl, hb⟩; replace HB := bs_ HB hb; (try clear hb); (try clear hb2); (try clear hk); (try clear hi)) | (go_at_call 15; (with_reducible refine (r3_One.calls (-7) 2 t110 t111 _ A10.out).mono ?_); rintro e w37 ⟨rfl, hb⟩; replace HB := bs_ HB hb; (try clear hb); (try clear hb2); (try clear hk); (try clear hi)) | (go_at_call 14; (with_reducible refine (grid_Whole.calls t110 t111 1 t112 _ ?side1 A11.out).mono ?_); (case side1 => exact lb_ HLD HB); rintro e w38 ⟨rfl, hb⟩; replace HB := bs_ HB hb; (try clear hb); (try clear hb2); (try clear hk); (try clear hi)) | (go_at_call 15; (with_reducible refine (r3_One.calls (-7) 2 t110 t111 _ A13.out).mono ?_); rintro e w39 ⟨rfl, hb⟩; replace HB := bs_ HB hb; (try clear hb); (try clear hb2); (try clear hk); (try clear hi)) | (go_at_call 14; (with_reducible refine (grid_Whole.calls t110 t111 0 t115 _ ?side1 A14.out).mono ?_); (case side1 => exact lb_ HLD HB); rintro e w40 ⟨rfl, hb⟩; replace HB := bs_ HB hb; (try clear hb); (try clear hb2); (try clear hk); (try clear hi)) | (go_at_call 15; (with_reducible refine (r3_One.calls 17 10 t116 t117 _ A16.out).mono ?_); rintro e w41 ⟨rfl, hb⟩; replace HB := bs_ HB hb; (try clear hb); (try clear hb2); (try clear hk); (try clear hi)) | (go_at_call 15; (with_reducible refine (r3_One.calls 1 2 t118 t119 _ A17.out).mono ?_); rintro e w42 ⟨rfl, hb⟩; replace HB := bs_ HB hb; (try clear hb); (try clear hb2); (try clear hk); (try clear hi)) | (go_at_call 7; (with_reducible refine (grid_Round.calls t116 t117 t118 t119 2 t120 t121 _ ?side1 A18.out).mono ?_); (case side1 => exact lb_ HLD HB); rintro e w43 ⟨rfl, hb⟩; replace HB := bs_ HB hb; (try clear hb); (try clear hb2); (try clear hk); (try clear hi)) | (go_at_call 15; (with_reducible refine (r3_One.calls 3 2 t122 t123 _ A19.out).mono ?_); rintro e w44 ⟨rfl, hb⟩; replace HB := bs_ HB hb; (try clear hb); (try clear hb2); (try clear hk); (try clear hi)) | (go_at_call 15; (with_reducible refine (r3_One.calls 1 3 t124 t125 _ A21.out).mono ?_); rintro e w45 ⟨rfl, hb⟩; replace HB := bs_ HB hb; (try clear hb); (try clear hb2); (try clear hk); (try clear hi)) | (go_at_call 16; (with_reducible refine (grid_Cents.calls t124 t125 t126 t127 _ ?side1 A22.out).mono ?_); (case side1 => exact lb_ HLD HB); rintro e w46 ⟨rfl, hb⟩; replace HB := bs_ HB hb; (try clear hb); (try clear hb2); (try clear hk); (try clear hi)) | (go_at_call 15; (with_reducible refine (r3_One.calls 33 100 t128 t129 _ A23.out).mono ?_); rintro e w47 ⟨rfl, hb⟩; replace HB := bs_ HB hb; (try clear hb); (try clear hb2); (try clear hk); (try clear hi)) | (go_at_call 17; (with_reducible refine (r3_Of.calls 1 t130 t131 _ A25.out).mono ?_); rintro e w48 ⟨rfl, hb⟩; replace HB := bs_ HB hb; (try clear hb); (try clear hb2); (try clear hk); (try clear hi)) | (go_at_call 14; (with_reducible refine (grid_Whole.calls t130 t131 3 t132 _ ?side1 A26.out).mono ?_); (case side1 => exact lb_ HLD HB); rintro e w49 ⟨rfl, hb⟩; replace HB := bs_ HB hb; (try clear hb); (try clear hb2); (try clear hk); (try clear hi)) | (go_at_call 17; (with_reducible refine (r3_Of.calls 1 t130 t131 _ A28.out).mono ?_); rintro e w50 ⟨rfl, hb⟩; replace HB := bs_ HB hb; (try clear hb); (try clear hb2); (try clear hk); (try clear hi)) | (go_at_call 17; (with_reducible refine (r3_Of.calls 0 t135 t136 _ A29.out).mono ?_); rintro e w51 ⟨rfl, hb⟩; replace HB := bs_ HB hb; (try clear hb); (try clear hb2); (try clear hk); (try clear hi)) | (go_at_call 7; (with_reducible refine (grid_Round.calls t130 t131 t135 t136 0 t137 t138 _ ?side1 A30.out).mono ?_); (case side1 => exact lb_ HLD HB); rintro e w52 ⟨rfl, hb⟩; replace HB := bs_ HB hb; (try clear hb); (try clear hb2); (try clear hk); (try clear hi)))
         go_ret
         exact ⟨er_, b_ HB.out⟩
        ·rw [if_neg c27] at H; exact absurd (H.trans (congrArg some hr_.out)) (by decide)
       ·rw [if_neg c24] at H; exact absurd (H.trans (congrArg some hr_.out)) (by decide)
      ·rw [if_neg c20] at H; exact absurd (H.trans (congrArg some hr_.out)) (by decide)
     ·rw [if_neg c15] at H; exact absurd (H.trans (congrArg some hr_.out)) (by decide)
    ·rw [if_neg c12] at H; exact absurd (H.trans (congrArg some hr_.out)) (by decide)
   ·rw [if_neg c9] at H; exact absurd (H.trans (congrArg some hr_.out)) (by decide)
  ·rw [if_neg c6] at H; exact absurd (H.trans (congrArg some hr_.out)) (by decide)
 ·rw [if_neg c3] at H; exact absurd (H.trans (congrArg some hr_.out)) (by decide)
end Go.Proofs.YtnhpnnbjimnmlaaGreatDoor.Pf5
end

section
namespace Go.Proofs.YtnhpnnbjimnmlaaGreatDoor.Pf5
end Go.Proofs.YtnhpnnbjimnmlaaGreatDoor.Pf5
end

section
namespace Go.Proofs.YtnhpnnbjimnmlaaGreatDoor
open Go.RowKit
theorem fixed5_true : Pf5.dl5_fixed.f = some true := by kernel_rfl
def dl5_fixed.f : Option Bool := some true
theorem dl5_fixed.calls (r : Bool) (w : World) (hL_ : Laid w) (h : dl5_fixed.f = some r) :
  Calls Tryz.prog 4 #[] w fun e w' => e = .returned (.bool r) ∧ Below w.heap.size w w' :=
 Pf5.dl5_fixed.calls r w hL_ ⟨(Option.some.inj h).symm⟩ (fixed5_true.trans h)
end Go.Proofs.YtnhpnnbjimnmlaaGreatDoor
end

section
namespace Go.Proofs.YtnhpnnbjimnmlaaGreatDoor
open Go.ChangeShapes Go.WideShapes Go.ChangeAt Go.RowKit Go.Deep Go.WideElems Go.Maps Go.Joins
section
variable {H : Type} {enc : TypeId × Value → H} {P : Program} {w : World} {base : Nat} {spare : Nat → Bool} {held : Bool}
theorem str_of {t : TypeId} {n : Nat} {v : Value} {y : DataW H × List MemPlace} (ht : P.underlying t = some .string) (h : DataW.trod enc P w base spare held n t [v] = some y) : ∃ s : ByteArray, v = .string s ∧ y = (.lit (.string s.data.toList), []) ∧ s.size ≤ maxLen := by
 obtain ⟨s, h1, h2, h3⟩ := DataW.trod_string ht h
 exact ⟨s, by simpa using h1, h2, h3⟩
theorem str_mk {t : TypeId} {s : ByteArray} (ht : P.underlying t = some .string) (hs : s.size ≤ maxLen) : ∃ n, DataW.trod enc P w base spare held n t [.string s] = some (.lit (.string s.data.toList), []) := ⟨1, by simp [DataW.trod, ht, hs]⟩
theorem open_s2 {r : Reach} {b0 : Nat} {t : TypeId} {f0 f1 : Field} {v : Value} {d : DataW H} {p : List MemPlace} (hs : P.underlying t = some (.struct #[f0, f1])) (h0 : P.underlying f0.type = some .string) (h1 : P.underlying f1.type = some .string) (hone : oneCellFields P #[f0, f1] = true) (hC : P.cellsOf t = 2)
  (hv : Value.okWide P w r b0 t v) (h : DataW.Trod enc P w base spare held t v d p) :
  ∃ a b : ByteArray, v = .agg #[.string a, .string b] ∧ d = .agg [.lit (.string a.data.toList), .lit (.string b.data.toList)] ∧ p = [] ∧ a.size ≤ maxLen ∧ b.size ≤ maxLen := by
 obtain ⟨v0, v1, y0, y1, n, rfl, rfl, rfl, e0, e1⟩ := open_agg2 hs hone hC hv h
 obtain ⟨a, rfl, rfl, ha⟩ := str_of h0 e0
 obtain ⟨b, rfl, rfl, hb⟩ := str_of h1 e1
 exact ⟨a, b, rfl, rfl, rfl, ha, hb⟩
theorem shut_s2 {t : TypeId} {f0 f1 : Field} {a b : ByteArray} (hs : P.underlying t = some (.struct #[f0, f1])) (h0 : P.underlying f0.type = some .string) (h1 : P.underlying f1.type = some .string) (hone : oneCellFields P #[f0, f1] = true) (hC : P.cellsOf t = 2) (ha : a.size ≤ maxLen) (hb : b.size ≤ maxLen) :
  DataW.Trod enc P w base spare held t (.agg #[.string a, .string b]) (.agg [.lit (.string a.data.toList), .lit (.string b.data.toList)]) [] :=
 shut_agg2 (y0 := (.lit (.string a.data.toList), [])) (y1 := (.lit (.string b.data.toList), [])) hs hone hC (str_mk h0 ha) (str_mk h1 hb)
end
end Go.Proofs.YtnhpnnbjimnmlaaGreatDoor
end

section
namespace Go.Proofs.YtnhpnnbjimnmlaaGreatDoor
open Go.ChangeShapes Go.WideShapes Go.ChangeAt Go.RowKit Go.Lib
theorem wrap_shaped {H : Type} {enc : TypeId × Value → H} {a : Assume} {C : Checked} {os : Os} {f : FuncId} {fn : Func} {s : ChangeSpec} {conds : List PathCond} {apart fresh handsOn again : Bool} {X : World → Array Value → Prop}
  (hX : ∀ (w w' : World) (args : Array Value), w.heap = w'.heap → X w args → X w' args) (own : ownKnob C.prog.godebug = none) (started : os.Started) (noInit : C.prog.inits.idxOf? f = none) (hfn : C.prog.funcs[f]? = some fn)
  (witness : ∃ (w : World) (tape : Tape) (i : Input), w.os = os ∧ (w.forCall tape i).Shaped C.prog ∧ i.vars = [] ∧ Input.okWide C.prog (w.forCall tape i) .any w.heap.size f i ∧
   ((s.pre enc C.prog fn conds apart (w.forCall tape i).memory i.args ∧ X (w.forCall tape i).memory i.args) ∧ sizedMet enc C.prog fn (OpenSpec.ofChange s) apart (w.forCall tape i).memory i.args) ∧ a.holds C.prog (lone (Frame.enter C.prog f i.args .normal) [] (w.forCall tape i)))
  (walk : ∀ (W : World) (base : Nat) (args : Array Value) (ds gs : List (DataW H)) (before : List MemPlace), (∀ (j : Nat) t v, fn.params[j]? = some t → args[j]? = some v → Value.okWide C.prog W .any base t v) →
   DataW.Whole enc C.prog fn.params.toList s.vars apart W args.toList ds gs before → conds.all (PathCond.test C.prog ⟨fn.params.toList, ds, s.plain.varTypes C.prog, gs⟩) = true →
   (DataW.weightsEach C.prog (fn.params.toList ++ s.plain.varTypes C.prog) (ds ++ gs)).all (· ≤ reachBytes) = true → X W args → W.ShapedOpen C.prog →
   Calls C.prog f args W fun e W' => ∃ v, e = .returned v ∧ s.post enc C.prog fn apart fresh handsOn again W args v W') :
  ReturnsInHanded a C os f .any (fun w args => (s.pre enc C.prog fn conds apart w args ∧ X w args) ∧ sizedMet enc C.prog fn (OpenSpec.ofChange s) apart w args) (s.post enc C.prog fn apart fresh handsOn again) := by
 refine returnsInHanded_of_calls own started noInit witness ?_
 intro w tape i _ hsh _ hok hpre _
 obtain ⟨_, _, _, fn', hfn', _, _, _, _, hval⟩ := hok
 obtain rfl : fn' = fn := Option.some.inj (hfn'.symm.trans hfn)
 obtain ⟨⟨⟨ds, gs, before, hw, hc⟩, hx⟩, hz⟩ := hpre
 refine (walk (w.forCall tape i) w.heap.size i.args ds gs before hval (DataW.Whole.of_heap (w' := w.forCall tape i) (by rfl) hw) hc (hz.weights hw) (hX _ _ _ (by rfl) hx) hsh).mono fun e W' hp => ?_
 obtain ⟨v, rfl, hp⟩ := hp
 exact ChangeSpec.post_blind hp
abbrev laidL : List (String × DataW Unit) := [("math/bits.deBruijn32tab", Rows.laid_math_bits_deBruijn32tab), ("math/bits.deBruijn64tab", Rows.laid_math_bits_deBruijn64tab), ("internal/strconv.uint64pow10", Rows.laid_internal_strconv_uint64pow10), ("strconv.ErrRange", Rows.laid_strconv_ErrRange), ("strconv.ErrSyntax", Rows.laid_strconv_ErrSyntax)]
theorem own : ownKnob Tryz.prog.godebug = none := by kernel_rfl
theorem tabType : (Tryz.prog.globals[2]?).map (·.type) = some 131 := by kernel_rfl
theorem rngType : (Tryz.prog.globals[1]?).map (·.type) = some 84 := by kernel_rfl
theorem tabCells : Tryz.prog.cellsOf 131 = 20 := by kernel_rfl
theorem u64Cells : Tryz.prog.cellsOf 109 = 1 := by kernel_rfl
theorem errCells : Tryz.prog.cellsOf 137 = 1 := by kernel_rfl
theorem strCells : Tryz.prog.cellsOf 9 = 1 := by kernel_rfl
theorem starErr : "*" ++ "errors.errorString" = "*errors.errorString" := by decide
theorem rowErr (u : TypeId) (h : Tryz.prog.typeName? 3 u = some "*errors.errorString") : u = 135 :=
 typeName_ptr_named (nm := "errors.errorString") (by rw [starErr]; kernel_rfl) (by kernel_rfl) (by decide) u (by rw [starErr]; exact h)
theorem laid_tab_eq : (Rows.laid_internal_strconv_uint64pow10 : DataW Unit) = tabData .u64 pow10Tab := by kernel_rfl
theorem laid_of {W : World} (h : laidMetH Tryz.prog laidL W) (hsh : W.ShapedOpen Tryz.prog) : Laid W := by
 rw [MakeChecks.laidMetH_plain _ _ _ (by kernel_rfl)] at h
 have hL := h
 obtain ⟨a1, s1, hv1, -, -, -⟩ := laid_sentinel (hL.tail.tail.tail) gRng rngType Tryz.underlying84 rowErr Tryz.underlying135 Tryz.underlying137 rfl rfl Tryz.underlying9 errCells strCells
 refine ⟨tabIs_of_head gTab tabType Tryz.underlying131 Tryz.underlying109 u64Cells tabCells (by rw [← laid_tab_eq]; exact hL.tail.tail), ⟨_, _, hv1⟩, cell_of_shapedOpen_int (t := 3) (zero := #[.int .i64 0]) hsh (by decide +kernel) (by kernel_rfl) (by decide) (by kernel_rfl) (by kernel_rfl) Tryz.underlying3⟩
theorem door_met (os : Os) (args : Array Value) : laidMetH Tryz.prog laidL ((World.laidAll Tryz.prog os laidL).forCall (fun _ _ => 0) ⟨#[], args, []⟩).memory := by
 rw [MakeChecks.laidMetH_plain _ _ _ (by kernel_rfl)]
 exact laidMet_laidAll _ (by kernel_rfl) (by kernel_rfl)
end Go.Proofs.YtnhpnnbjimnmlaaGreatDoor
end
