/-
Parts of the proof, in build order: Pz3, Pz4, Pz5, Pz6, Pz7, Pz, Ref3Api, Ref3Done, Pf30, Pf31, Pf32, Pf33, Pf3, Fixed3, NumR, Agg, Rowb.
-/
import Derived.Test.YtmkmldkfaehefaaGreatDoorC1
import Derived.Test.YtmkmldkfaehefaaGreatDoorC4
import Derived.Test.YtmkmldkfaehefaaGreatDoorProg
import Derived.Below
import Derived.Deep.Draws
import Derived.Deep.AppendLies
import Derived.Maps.AppendAt
import Derived.OwnWalk
import Derived.Laws.BytesArg
import Derived.Laws.MakeOwn
import Derived.Laws.OwnMore
import Derived.Deep.OwnRows
import Derived.Tactics
import Derived.Lib.ConvBytes
import Derived.Laws.Slices
import Derived.WalkKit
import Derived.KernelRfl
import Derived.RowKit3
import Derived.Deep.LoopGhost
import Derived.Deep.QuietTactic
import Derived.BigQuiet
import Derived.WideLaws
import Derived.Deep.DeepCutAuto
import Derived.Deep.CutBlock
import Derived.Deep.RegionHeld3
import Derived.Laws.Rows
import Derived.Lib.AppendStr
import Derived.ArgAppend
import Derived.Laws.IdiomCopy
import Derived.OrdersHeld
import Derived.Laws.BitsLemmas
import Derived.RowKit
import Derived.Test.YtmkmldkfaehefaaGreatDoorC0
import Derived.Test.YtmkmldkfaehefaaGreatDoorC2
import Derived.Lib.SmallJoins
import Derived.Laws.IdiomArrays
import Derived.ChangeMaps5
import Derived.Test.YtmkmldkfaehefaaGreatDoorRows
import Derived.ProofKit
import Derived.OpenShut
import Derived.ShutString
import Derived.ChangeOld
import Derived.SizedLaws
import Derived.LaidMore
import Derived.LaidHandle
import Derived.MakeChecks
import Derived.Lib.LaidTab
import Derived.Stop.LaidErr
import Derived.Stop.Joined
import Derived.RowKitTokens
import Derived.JoinedOf
import Derived.JoinedAt
import Derived.ChangeVars
import Derived.ChangeSame
import Derived.LaidLaws
set_option linter.unusedVariables false
set_option linter.unusedSimpArgs false
open Go.RowKit Go.Proofs.YtmkmldkfaehefaaGreatDoorW.PrintWords Go.Proofs.YtmkmldkfaehefaaGreatDoorW.PrintLast Go.Proofs.YtmkmldkfaehefaaGreatDoorW.PrintMore
attribute [local go_sem] max2_int min2_int max_two min_two max_three min_three max_four min_four   -- for this text's walks alone
section
namespace Go.Proofs.YtmkmldkfaehefaaGreatDoor.Pz
def r3_Add.j0 : Nat → Bool → ByteArray → ByteArray → ByteArray → ByteArray → Option (ByteArray × ByteArray)
 | 0, _, _, _, _, _ => none
 | k + 1, x14, x128000, x128001, x129000, x129001 => if x14 = true then (some ((⟨#[]⟩ : ByteArray), (⟨#[]⟩ : ByteArray))) else ((r2_Mul.f x128000 x129001).bind fun t132 => ((r2_Mul.f x129000 x128001).bind fun t133 => ((r2_Add.f t132 t133).bind fun t134 => ((r1_Mul.f x128001 x129001).bind fun t135 => ((r3_Make.f k t134 t135).bind fun bt136 => (some (bt136.1, bt136.2.1)))))))
def r3_Add.f (k : Nat) (a0_0 : ByteArray) (a0_1 : ByteArray) (a1_0 : ByteArray) (a1_1 : ByteArray) : Option (ByteArray × ByteArray) := (r3_May.f a0_0 a0_1).bind fun t130 => (if t130 = true then ((r3_May.f a1_0 a1_1).bind fun t131 => (r3_Add.j0 k (!t131) a0_0 a0_1 a1_0 a1_1)) else (r3_Add.j0 k true a0_0 a0_1 a1_0 a1_1))
def r3_Add.T3 : Bool × List (List Nat × List Nat) := (true, [([], []), ([0], [0]), ([], []), ([2], [2]), ([1, 3], [1, 3]), ([], []), ([5], [5]), ([], []), ([7], [7]), ([6, 8, 4], [6, 8]), ([4, 9, 9], [4, 9]), ([], []), ([11], [11]), ([], []), ([13], [13]), ([12, 14, 10], [12, 14]), ([10, 15, 15], [10, 15]), ([16], [16]), ([17], [17]), ([17], [17]), ([], []), ([20, 18, 16, 0, 1, 2, 3, 4, 5, 6, 7, 8, 9, 10, 11, 12, 13, 14, 15, 16, 17, 18, 20], [18, 20]), ([19, 21, 0, 1, 2, 3, 4, 5, 6, 7, 8, 9, 10, 11, 12, 13, 14, 15, 16, 17, 18, 19, 20, 21], [19])])
def r3_Add.B3 : List Nat := [0, 1, 0, 4, 15, 0, 32, 0, 128, 511, 1023, 0, 2048, 0, 8192, 32767, 65535, 131071, 262143, 262143, 0, 1572863, 4194303]
theorem r3_Add.tab3 : rtab .any (opsOf Tryz.f48 3) = r3_Add.T3 := by kernel_rfl
theorem r3_Add.bits3 : waitsOk r3_Add.T3.2 r3_Add.B3 = true := by kernel_rfl
set_option maxHeartbeats 8000000 in
set_option maxRecDepth 100000 in
theorem r3_Add.calls (k : Nat) (a0_0 : ByteArray) (a0_1 : ByteArray) (a1_0 : ByteArray) (a1_1 : ByteArray) (r1 : ByteArray) (r2 : ByteArray) (w : World) (h : r3_Add.f k a0_0 a0_1 a1_0 a1_1 = some (r1, r2)) :
  Calls Tryz.prog 48 #[.agg #[.string a0_0, .string a0_1], .agg #[.string a1_0, .string a1_1]] w fun e w' => e = .returned (.agg #[.string r1, .string r2]) ∧ Below w.heap.size w w' := by
 have hu35 := Tryz.underlying35; have HB := Aside0.mk (Below.refl w.heap.size w); have H := h; unfold r3_Add.f at H; clear h; have HC3 := Aside0.mk H; clear H; go_enter Tryz.func48, Tryz.ntmps48
 go_upto_region 1 with (first | ((with_reducible refine gate_dst (N := 2) rfl ?_); refine be_ 2 #[.string a0_0, .string a0_1] 35 ?_; intro gb127 hg w4 hbox hb; have BK127 := Aside0.mk (hbox); have GW127 := ge_ HB hg; have GE127 := ge_ HB hg; replace HB := bs_ HB hb; clear hb hbox hg) | ((with_reducible refine gate_dst (N := 3) rfl ?_); refine be_ 3 #[.string a1_0, .string a1_1] 35 ?_; intro gb128 hg w5 hbox hb; have BK128 := Aside0.mk (hbox); have GW128 := ge_ HB hg; have GE128 := ge_ HB hg; have NB127_128 := nl_ BK127 hg; have NB128_127 := ng_ BK127 hg; replace BK127 := kb_ BK127 hb; replace HB := bs_ HB hb; clear hb hbox hg) | ((with_reducible refine gate_dst (N := 4) rfl ?_); refine be_ 4 #[.string (⟨#[]⟩ : ByteArray), .string (⟨#[]⟩ : ByteArray)] 35 ?_; intro gb129 hg w6 hbox hb; have BK129 := Aside0.mk (hbox); have GW129 := ge_ HB hg; have GE129 := ge_ HB hg; have NB127_129 := nl_ BK127 hg; have NB129_127 := ng_ BK127 hg; have NB128_129 := nl_ BK128 hg; have NB129_128 := ng_ BK128 hg; replace BK127 := kb_ BK127 hb; replace BK128 := kb_ BK128 hb; replace HB := bs_ HB hb; clear hb hbox hg))
 (try simp only [Act.put, List.setIfInBounds_toArray, List.set_cons_zero, List.set_cons_succ])
 go_cut [14] (fun v14 wc => ∃ (kq : Nat) (x14_2 : Bool), v14 = .bool x14_2 ∧ Aside0 (r3_Add.j0 kq x14_2 a0_0 a0_1 a1_0 a1_1 = some (r1, r2)) ∧ Aside0 (kq ≤ k) ∧ Aside0 (wc.heap[gb127]? = some (.cells #[.string a0_0, .string a0_1] 35 (0, 0))) ∧ Aside0 (wc.heap[gb128]? = some (.cells #[.string a1_0, .string a1_1] 35 (0, 0))) ∧ Aside0 (wc.heap[gb129]? = some (.cells #[.string (⟨#[]⟩ : ByteArray), .string (⟨#[]⟩ : ByteArray)] 35 (0, 0))) ∧ Aside0 (Below w.heap.size w wc))
 case first =>
  have H := HC3.out; clear HC3; obtain ⟨t130, A7, H⟩ := bi_ H; by_cases c8 : t130 = true
  ·subst c8; rw [if_pos rfl] at H; obtain ⟨t131, A9, H⟩ := bi_ H; have H' := Aside0.mk H; clear H; have hnb10 := NB127_128.out; have hnc10 := NB128_127.out; have hnb11 := NB127_129.out; have hnc11 := NB129_127.out; have hcz12_0 := bc_ BK127 0 rfl; have hcz12_1 := bc_ BK127 1 rfl; have hfz12_0 := blk_frozen BK127.out 0; have hfz12_1 := blk_frozen BK127.out 1
   go_wp2_with (first | (refine gl_ 8 Tryz.func40 #[.agg #[.string a0_0, .string a0_1]] ?_; refine mo_ (r3_May.calls a0_0 a0_1 true _ A7.out) ?_; intro w13 hb; replace BK127 := kb_ BK127 hb; replace BK128 := kb_ BK128 hb; replace BK129 := kb_ BK129 hb; replace HB := bs_ HB hb; (try clear hb); (try clear hb2); (try clear hk); (try clear hi); have hnb14 := NB128_129.out; have hnc14 := NB129_128.out; have hcz15_0 := bc_ BK128 0 rfl; have hcz15_1 := bc_ BK128 1 rfl; have hfz15_0 := blk_frozen BK128.out 0; have hfz15_1 := blk_frozen BK128.out 1) | (go_at_call 40; (with_reducible refine (r3_May.calls a1_0 a1_1 t131 _ A9.out).mono ?_); rintro e w16 ⟨rfl, hb⟩; replace BK127 := kb_ BK127 hb; replace BK128 := kb_ BK128 hb; replace BK129 := kb_ BK129 hb; replace HB := bs_ HB hb; (try clear hb); (try clear hb2); (try clear hk); (try clear hi)))
   go_meet
   case rel => exact ⟨_, (!t131), rl_, H', ⟨by first | omega | exact Nat.le_refl _⟩, ⟨k_ BK127.out⟩, ⟨k_ BK128.out⟩, ⟨k_ BK129.out⟩, ⟨b_ HB.out⟩⟩
  ·replace c8 := Bool.eq_false_iff.mpr c8; subst c8; rw [if_neg nf_] at H; have H' := Aside0.mk H; clear H; have hnb17 := NB127_128.out; have hnc17 := NB128_127.out; have hnb18 := NB127_129.out; have hnc18 := NB129_127.out; have hcz19_0 := bc_ BK127 0 rfl; have hcz19_1 := bc_ BK127 1 rfl; have hfz19_0 := blk_frozen BK127.out 0; have hfz19_1 := blk_frozen BK127.out 1
   go_wp2_with (first | (refine gl_ 8 Tryz.func40 #[.agg #[.string a0_0, .string a0_1]] ?_; refine mo_ (r3_May.calls a0_0 a0_1 false _ A7.out) ?_; intro w20 hb; replace BK127 := kb_ BK127 hb; replace BK128 := kb_ BK128 hb; replace BK129 := kb_ BK129 hb; replace HB := bs_ HB hb; (try clear hb); (try clear hb2); (try clear hk); (try clear hi)))
   go_meet
   case rel => exact ⟨_, (true), rl_, H', ⟨by first | omega | exact Nat.le_refl _⟩, ⟨k_ BK127.out⟩, ⟨k_ BK128.out⟩, ⟨k_ BK129.out⟩, ⟨b_ HB.out⟩⟩
 case rest =>
  clear HC3; (try clear c1); (try clear p2); (try clear c4); (try clear c8); (try clear c10); (try clear c11); (try clear c14); (try clear c17); (try clear c18); (try clear hcz12_0); (try clear hcz12_1); (try clear hcz15_0); (try clear hcz15_1); (try clear hcz19_0); (try clear hcz19_1); (try clear hfz12_0); (try clear hfz12_1); (try clear hfz15_0); (try clear hfz15_1); (try clear hfz19_0); (try clear hfz19_1); obtain ⟨kq, x14_2, rfl, HA, HJ2, BK127, BK128, BK129, HB⟩ := hcut
  cases kq with
  | zero => exact absurd HA.out (by simp [r3_Add.j0])
  | succ kj2 =>
   have H := HA.out; clear HA; simp only [r3_Add.j0] at H; by_cases c21 : x14_2 = true
   ·subst c21; rw [if_pos rfl] at H; simp only [Option.some.injEq, Prod.mk.injEq] at H; obtain ⟨rfl, rfl⟩ := H; have hnb22 := NB129_127.out; have hnc22 := NB127_129.out; have hnb23 := NB129_128.out; have hnc23 := NB128_129.out; have hcz24_0 := bc_ BK129 0 rfl; have hcz24_1 := bc_ BK129 1 rfl; have hfz24_0 := blk_frozen BK129.out 0; have hfz24_1 := blk_frozen BK129.out 1; go_wp2; refine bodyPost_ret (results_cell_row rfl _ _ gb129 35 #[.string (⟨#[]⟩ : ByteArray), .string (⟨#[]⟩ : ByteArray)] (0, 0) _ rfl (rp_ BK129.out) Tryz.underlying35 rfl (by kernel_rfl)) rfl ?_; exact ⟨er_, b_ HB.out⟩
   ·replace c21 := Bool.eq_false_iff.mpr c21; subst c21; rw [if_neg nf_] at H; obtain ⟨t132, A25, H⟩ := bi_ H; obtain ⟨t133, A26, H⟩ := bi_ H; obtain ⟨t134, A27, H⟩ := bi_ H; obtain ⟨t135, A28, H⟩ := bi_ H; obtain ⟨⟨t136, t137, t138⟩, A29, H⟩ := bi_ H; (try dsimp only at H); simp only [Option.some.injEq, Prod.mk.injEq] at H; obtain ⟨rfl, rfl⟩ := H
    try go_wp2
    replace BK127 := Aside0.mk (blk_drew BK127.out); replace BK128 := Aside0.mk (blk_drew BK128.out); replace BK129 := Aside0.mk (blk_drew BK129.out); replace HB := Aside0.mk (below_drew1 HB.out); refine sa_ 23 (fun w' => w'.cell? ⟨gb127, 0, none⟩ = some (.string a0_0) ∧ w'.cell? ⟨gb127, 1, none⟩ = some (.string a0_1) ∧ w'.cell? ⟨gb128, 0, none⟩ = some (.string a1_0) ∧ w'.cell? ⟨gb128, 1, none⟩ = some (.string a1_1)) (fun hHeld => ?_); refine with_tabW r3_Add.tab3 r3_Add.bits3 (fun HT_ HW_ => ?_); generalize wc.drew = w30 at BK127 BK128 BK129 HB hHeld ⊢; refine pu_ 0 17 rfl rfl HT_ ?_; refine pu_ 2 19 rfl rfl HT_ ?_; refine pu_ 5 22 rfl rfl HT_ ?_; refine pu_ 7 24 rfl rfl HT_ ?_; refine pu_ 11 28 rfl rfl HT_ ?_; refine pu_ 13 30 rfl rfl HT_ ?_; refine t4_ 1 18 rfl rfl HT_ HW_ hHeld ?_; refine t4_ 3 20 rfl rfl HT_ HW_ hHeld ?_; refine t4_ 6 23 rfl rfl HT_ HW_ hHeld ?_; refine t4_ 8 25 rfl rfl HT_ HW_ hHeld ?_; refine t4_ 12 29 rfl rfl HT_ HW_ hHeld ?_; refine t4_ 14 31 rfl rfl HT_ HW_ hHeld ?_; refine join_ (σ := Nat) 2 #[true, true, true, true, true, true, true, true, true, true, true, true, true, true, true, true, true, true, true, true, true, false, false] (fun s_ => [(21, .string t132), (26, .string t133), (27, .string t134), (32, .string t135), (33, .tuple #[.agg #[.string t136, .string t137], .bool t138]), (5, .pointer (some ⟨s_, 0, none⟩)), (16, .tuple #[.agg #[.string t136, .string t137], .bool t138]), (34, .agg #[.string t136, .string t137]), (35, .bool t138)]) (fun s_ w' => (w'.cell? ⟨gb127, 0, none⟩ = some (.string a0_0) ∧ w'.cell? ⟨gb127, 1, none⟩ = some (.string a0_1) ∧ w'.cell? ⟨gb128, 0, none⟩ = some (.string a1_0) ∧ w'.cell? ⟨gb128, 1, none⟩ = some (.string a1_1)) ∧ (w'.heap[gb127]? = some (.cells #[.string a0_0, .string a0_1] 35 (0, 0))) ∧ (w'.heap[gb128]? = some (.cells #[.string a1_0, .string a1_1] 35 (0, 0))) ∧ (w'.heap[gb129]? = some (.cells #[.string (⟨#[]⟩ : ByteArray), .string (⟨#[]⟩ : ByteArray)] 35 (0, 0))) ∧ (w'.heap[s_]? = some (.cells #[.string (⟨#[]⟩ : ByteArray), .string (⟨#[]⟩ : ByteArray)] 35 (0, 0))) ∧ (w.heap.size ≤ s_) ∧ (w.heap.size ≤ s_) ∧ (gb127 ≠ s_) ∧ (s_ ≠ gb127) ∧ (gb128 ≠ s_) ∧ (s_ ≠ gb128) ∧ (gb129 ≠ s_) ∧ (s_ ≠ gb129) ∧ (Below w.heap.size w w')) ?_ ?_; rotate_left
    ·intro hJ4_9_10_15_16_20; refine join_ (σ := Unit) 3 #[true, true, true, true, true, true, true, true, true, true, true, true, true, true, true, true, true, true, true, true, false, false, false] (fun s_ => [(21, .string t132), (26, .string t133), (27, .string t134), (32, .string t135), (33, .tuple #[.agg #[.string t136, .string t137], .bool t138]), (16, .tuple #[.agg #[.string t136, .string t137], .bool t138]), (34, .agg #[.string t136, .string t137]), (35, .bool t138)]) (fun s_ w' => (w'.cell? ⟨gb127, 0, none⟩ = some (.string a0_0) ∧ w'.cell? ⟨gb127, 1, none⟩ = some (.string a0_1) ∧ w'.cell? ⟨gb128, 0, none⟩ = some (.string a1_0) ∧ w'.cell? ⟨gb128, 1, none⟩ = some (.string a1_1)) ∧ (w'.heap[gb127]? = some (.cells #[.string a0_0, .string a0_1] 35 (0, 0))) ∧ (w'.heap[gb128]? = some (.cells #[.string a1_0, .string a1_1] 35 (0, 0))) ∧ (w'.heap[gb129]? = some (.cells #[.string (⟨#[]⟩ : ByteArray), .string (⟨#[]⟩ : ByteArray)] 35 (0, 0))) ∧ (Below w.heap.size w w')) ?_ ?_; rotate_left
     ·intro hJ4_9_10_15_16; refine join_ (σ := Nat) 6 #[true, true, true, true, true, true, true, true, true, true, true, true, true, true, true, true, false, false, false, false, true, false, false] (fun s_ => [(21, .string t132), (26, .string t133), (27, .string t134), (32, .string t135), (5, .pointer (some ⟨s_, 0, none⟩))]) (fun s_ w' => (w'.cell? ⟨gb127, 0, none⟩ = some (.string a0_0) ∧ w'.cell? ⟨gb127, 1, none⟩ = some (.string a0_1) ∧ w'.cell? ⟨gb128, 0, none⟩ = some (.string a1_0) ∧ w'.cell? ⟨gb128, 1, none⟩ = some (.string a1_1)) ∧ (w'.heap[gb127]? = some (.cells #[.string a0_0, .string a0_1] 35 (0, 0))) ∧ (w'.heap[gb128]? = some (.cells #[.string a1_0, .string a1_1] 35 (0, 0))) ∧ (w'.heap[gb129]? = some (.cells #[.string (⟨#[]⟩ : ByteArray), .string (⟨#[]⟩ : ByteArray)] 35 (0, 0))) ∧ (w'.heap[s_]? = some (.cells #[.string (⟨#[]⟩ : ByteArray), .string (⟨#[]⟩ : ByteArray)] 35 (0, 0))) ∧ (w.heap.size ≤ s_) ∧ (w.heap.size ≤ s_) ∧ (gb127 ≠ s_) ∧ (s_ ≠ gb127) ∧ (gb128 ≠ s_) ∧ (s_ ≠ gb128) ∧ (gb129 ≠ s_) ∧ (s_ ≠ gb129) ∧ (Below w.heap.size w w')) ?_ ?_; rotate_left
      ·intro hJ4_9_10_15_20; refine join_ (σ := Unit) 7 #[true, true, true, true, true, true, true, true, true, true, true, true, true, true, true, true, false, false, false, false, false, false, false] (fun s_ => [(21, .string t132), (26, .string t133), (27, .string t134), (32, .string t135)]) (fun s_ w' => (w'.cell? ⟨gb127, 0, none⟩ = some (.string a0_0) ∧ w'.cell? ⟨gb127, 1, none⟩ = some (.string a0_1) ∧ w'.cell? ⟨gb128, 0, none⟩ = some (.string a1_0) ∧ w'.cell? ⟨gb128, 1, none⟩ = some (.string a1_1)) ∧ (w'.heap[gb127]? = some (.cells #[.string a0_0, .string a0_1] 35 (0, 0))) ∧ (w'.heap[gb128]? = some (.cells #[.string a1_0, .string a1_1] 35 (0, 0))) ∧ (w'.heap[gb129]? = some (.cells #[.string (⟨#[]⟩ : ByteArray), .string (⟨#[]⟩ : ByteArray)] 35 (0, 0))) ∧ (Below w.heap.size w w')) ?_ ?_; rotate_left
       ·intro hJ4_9_10_15; refine join_ (σ := Nat) 7 #[true, true, true, true, true, true, true, true, true, true, true, true, true, true, true, false, false, false, false, false, true, false, false] (fun s_ => [(21, .string t132), (26, .string t133), (27, .string t134), (5, .pointer (some ⟨s_, 0, none⟩))]) (fun s_ w' => (w'.cell? ⟨gb127, 0, none⟩ = some (.string a0_0) ∧ w'.cell? ⟨gb127, 1, none⟩ = some (.string a0_1) ∧ w'.cell? ⟨gb128, 0, none⟩ = some (.string a1_0) ∧ w'.cell? ⟨gb128, 1, none⟩ = some (.string a1_1)) ∧ (w'.heap[gb127]? = some (.cells #[.string a0_0, .string a0_1] 35 (0, 0))) ∧ (w'.heap[gb128]? = some (.cells #[.string a1_0, .string a1_1] 35 (0, 0))) ∧ (w'.heap[gb129]? = some (.cells #[.string (⟨#[]⟩ : ByteArray), .string (⟨#[]⟩ : ByteArray)] 35 (0, 0))) ∧ (w'.heap[s_]? = some (.cells #[.string (⟨#[]⟩ : ByteArray), .string (⟨#[]⟩ : ByteArray)] 35 (0, 0))) ∧ (w.heap.size ≤ s_) ∧ (w.heap.size ≤ s_) ∧ (gb127 ≠ s_) ∧ (s_ ≠ gb127) ∧ (gb128 ≠ s_) ∧ (s_ ≠ gb128) ∧ (gb129 ≠ s_) ∧ (s_ ≠ gb129) ∧ (Below w.heap.size w w')) ?_ ?_; rotate_left
        ·intro hJ4_9_10_20; refine join_ (σ := Unit) 8 #[true, true, true, true, true, true, true, true, true, true, true, true, true, true, true, false, false, false, false, false, false, false, false] (fun s_ => [(21, .string t132), (26, .string t133), (27, .string t134)]) (fun s_ w' => (w'.cell? ⟨gb127, 0, none⟩ = some (.string a0_0) ∧ w'.cell? ⟨gb127, 1, none⟩ = some (.string a0_1) ∧ w'.cell? ⟨gb128, 0, none⟩ = some (.string a1_0) ∧ w'.cell? ⟨gb128, 1, none⟩ = some (.string a1_1)) ∧ (w'.heap[gb127]? = some (.cells #[.string a0_0, .string a0_1] 35 (0, 0))) ∧ (w'.heap[gb128]? = some (.cells #[.string a1_0, .string a1_1] 35 (0, 0))) ∧ (w'.heap[gb129]? = some (.cells #[.string (⟨#[]⟩ : ByteArray), .string (⟨#[]⟩ : ByteArray)] 35 (0, 0))) ∧ (Below w.heap.size w w')) ?_ ?_; rotate_left
         ·intro hJ4_9_10; refine join_ (σ := Nat) 8 #[true, true, true, true, true, true, true, true, true, true, false, true, true, true, true, false, false, false, false, false, true, false, false] (fun s_ => [(21, .string t132), (26, .string t133), (5, .pointer (some ⟨s_, 0, none⟩))]) (fun s_ w' => (w'.cell? ⟨gb127, 0, none⟩ = some (.string a0_0) ∧ w'.cell? ⟨gb127, 1, none⟩ = some (.string a0_1) ∧ w'.cell? ⟨gb128, 0, none⟩ = some (.string a1_0) ∧ w'.cell? ⟨gb128, 1, none⟩ = some (.string a1_1)) ∧ (w'.heap[gb127]? = some (.cells #[.string a0_0, .string a0_1] 35 (0, 0))) ∧ (w'.heap[gb128]? = some (.cells #[.string a1_0, .string a1_1] 35 (0, 0))) ∧ (w'.heap[gb129]? = some (.cells #[.string (⟨#[]⟩ : ByteArray), .string (⟨#[]⟩ : ByteArray)] 35 (0, 0))) ∧ (w'.heap[s_]? = some (.cells #[.string (⟨#[]⟩ : ByteArray), .string (⟨#[]⟩ : ByteArray)] 35 (0, 0))) ∧ (w.heap.size ≤ s_) ∧ (w.heap.size ≤ s_) ∧ (gb127 ≠ s_) ∧ (s_ ≠ gb127) ∧ (gb128 ≠ s_) ∧ (s_ ≠ gb128) ∧ (gb129 ≠ s_) ∧ (s_ ≠ gb129) ∧ (Below w.heap.size w w')) ?_ ?_; rotate_left
          ·intro hJ4_9_20; refine join_ (σ := Unit) 9 #[true, true, true, true, true, true, true, true, true, true, false, true, true, true, true, false, false, false, false, false, false, false, false] (fun s_ => [(21, .string t132), (26, .string t133)]) (fun s_ w' => (w'.cell? ⟨gb127, 0, none⟩ = some (.string a0_0) ∧ w'.cell? ⟨gb127, 1, none⟩ = some (.string a0_1) ∧ w'.cell? ⟨gb128, 0, none⟩ = some (.string a1_0) ∧ w'.cell? ⟨gb128, 1, none⟩ = some (.string a1_1)) ∧ (w'.heap[gb127]? = some (.cells #[.string a0_0, .string a0_1] 35 (0, 0))) ∧ (w'.heap[gb128]? = some (.cells #[.string a1_0, .string a1_1] 35 (0, 0))) ∧ (w'.heap[gb129]? = some (.cells #[.string (⟨#[]⟩ : ByteArray), .string (⟨#[]⟩ : ByteArray)] 35 (0, 0))) ∧ (Below w.heap.size w w')) ?_ ?_; rotate_left
           ·intro hJ4_9; refine join_ (σ := Nat) 9 #[true, true, true, true, true, true, true, true, true, false, false, true, true, true, true, false, false, false, false, false, true, false, false] (fun s_ => [(21, .string t132), (5, .pointer (some ⟨s_, 0, none⟩))]) (fun s_ w' => (w'.cell? ⟨gb127, 0, none⟩ = some (.string a0_0) ∧ w'.cell? ⟨gb127, 1, none⟩ = some (.string a0_1) ∧ w'.cell? ⟨gb128, 0, none⟩ = some (.string a1_0) ∧ w'.cell? ⟨gb128, 1, none⟩ = some (.string a1_1)) ∧ (w'.heap[gb127]? = some (.cells #[.string a0_0, .string a0_1] 35 (0, 0))) ∧ (w'.heap[gb128]? = some (.cells #[.string a1_0, .string a1_1] 35 (0, 0))) ∧ (w'.heap[gb129]? = some (.cells #[.string (⟨#[]⟩ : ByteArray), .string (⟨#[]⟩ : ByteArray)] 35 (0, 0))) ∧ (w'.heap[s_]? = some (.cells #[.string (⟨#[]⟩ : ByteArray), .string (⟨#[]⟩ : ByteArray)] 35 (0, 0))) ∧ (w.heap.size ≤ s_) ∧ (w.heap.size ≤ s_) ∧ (gb127 ≠ s_) ∧ (s_ ≠ gb127) ∧ (gb128 ≠ s_) ∧ (s_ ≠ gb128) ∧ (gb129 ≠ s_) ∧ (s_ ≠ gb129) ∧ (Below w.heap.size w w')) ?_ ?_; rotate_left
            ·intro hJ4_20; refine join_ (σ := Unit) 10 #[true, true, true, true, true, true, true, true, true, false, false, true, true, true, true, false, false, false, false, false, false, false, false] (fun s_ => [(21, .string t132)]) (fun s_ w' => (w'.cell? ⟨gb127, 0, none⟩ = some (.string a0_0) ∧ w'.cell? ⟨gb127, 1, none⟩ = some (.string a0_1) ∧ w'.cell? ⟨gb128, 0, none⟩ = some (.string a1_0) ∧ w'.cell? ⟨gb128, 1, none⟩ = some (.string a1_1)) ∧ (w'.heap[gb127]? = some (.cells #[.string a0_0, .string a0_1] 35 (0, 0))) ∧ (w'.heap[gb128]? = some (.cells #[.string a1_0, .string a1_1] 35 (0, 0))) ∧ (w'.heap[gb129]? = some (.cells #[.string (⟨#[]⟩ : ByteArray), .string (⟨#[]⟩ : ByteArray)] 35 (0, 0))) ∧ (Below w.heap.size w w')) ?_ ?_; rotate_left
             ·intro hJ4; refine join_ (σ := Nat) 10 #[true, true, true, true, false, true, true, true, true, false, false, true, true, true, true, false, false, false, false, false, true, false, false] (fun s_ => [(5, .pointer (some ⟨s_, 0, none⟩))]) (fun s_ w' => (w'.cell? ⟨gb127, 0, none⟩ = some (.string a0_0) ∧ w'.cell? ⟨gb127, 1, none⟩ = some (.string a0_1) ∧ w'.cell? ⟨gb128, 0, none⟩ = some (.string a1_0) ∧ w'.cell? ⟨gb128, 1, none⟩ = some (.string a1_1)) ∧ (w'.heap[gb127]? = some (.cells #[.string a0_0, .string a0_1] 35 (0, 0))) ∧ (w'.heap[gb128]? = some (.cells #[.string a1_0, .string a1_1] 35 (0, 0))) ∧ (w'.heap[gb129]? = some (.cells #[.string (⟨#[]⟩ : ByteArray), .string (⟨#[]⟩ : ByteArray)] 35 (0, 0))) ∧ (w'.heap[s_]? = some (.cells #[.string (⟨#[]⟩ : ByteArray), .string (⟨#[]⟩ : ByteArray)] 35 (0, 0))) ∧ (w.heap.size ≤ s_) ∧ (w.heap.size ≤ s_) ∧ (gb127 ≠ s_) ∧ (s_ ≠ gb127) ∧ (gb128 ≠ s_) ∧ (s_ ≠ gb128) ∧ (gb129 ≠ s_) ∧ (s_ ≠ gb129) ∧ (Below w.heap.size w w')) ?_ ?_; rotate_left
              ·intro hJ20; refine two_ (i := 4) (j := 20) (Ni := some 21) (Nj := some 5) #[true, true, true, true, true, true, true, true, true, false, false, true, true, true, true, false, false, false, false, false, false, false, false] #[true, true, true, true, false, true, true, true, true, false, false, true, true, true, true, false, false, false, false, false, true, false, false] rfl rfl rfl rfl (two_of HT_.out (by kernel_rfl)) (by decide) (by decide) (fun K hK => ?_) (fun K hK => ?_)
               ·skip; refine gs_ Tryz.func30 #[.string a0_0, .string a1_1] ?_; refine mo_ (r2_Mul.calls a0_0 a1_1 t132 _ A25.out) ?_; intro w31 hb; replace BK127 := kb_ BK127 hb; replace BK128 := kb_ BK128 hb; replace BK129 := kb_ BK129 hb; replace HB := bs_ HB hb; (try clear hb); refine hk_ hK (fun hHeld => ?_); clear hK K; refine nm_ ?_; exact norm_ pa_ (hJ4 () _ ⟨hHeld, (k_ BK127.out), (k_ BK128.out), (k_ BK129.out), (b_ HB.out)⟩)
               ·skip; refine box_step ?hg (N := 5) ?hd (cs := #[.string (⟨#[]⟩ : ByteArray), .string (⟨#[]⟩ : ByteArray)]) (t := 35) ?hr ?_; (case hd => rfl); (case hg => rfl); (case hr => first | (go_simp; done) | (go_simp; rfl)); intro gb139 hg w31 hbox hb; have BK139 := Aside0.mk (hbox); have GW139 := ge_ HB hg; have GE139 := ge_ HB hg; have NB127_139 := nl_ BK127 hg; have NB139_127 := ng_ BK127 hg; have NB128_139 := nl_ BK128 hg; have NB139_128 := ng_ BK128 hg; have NB129_139 := nl_ BK129 hg; have NB139_129 := ng_ BK129 hg; replace BK127 := kb_ BK127 hb; replace BK128 := kb_ BK128 hb; replace BK129 := kb_ BK129 hb; replace HB := bs_ HB hb; clear hb hbox hg; refine hk_ hK (fun hHeld => ?_); clear hK K; refine nm_ ?_; exact norm_ pa_ (hJ20 (gb139) _ ⟨hHeld, (k_ BK127.out), (k_ BK128.out), (k_ BK129.out), (k_ BK139.out), GW139.out, GE139.out, NB127_139.out, NB139_127.out, NB128_139.out, NB139_128.out, NB129_139.out, NB139_129.out, (b_ HB.out)⟩)
              ·skip; rintro gb139 w32 ⟨hS_, h0_, h1_, h2_, h3_, h4_, h5_, h6_, h7_, h8_, h9_, h10_, h11_, h12_⟩; have n0_ : Aside0 (w32.heap[gb127]? = some (.cells #[.string a0_0, .string a0_1] 35 (0, 0))) := ⟨h0_⟩; have n1_ : Aside0 (w32.heap[gb128]? = some (.cells #[.string a1_0, .string a1_1] 35 (0, 0))) := ⟨h1_⟩; have n2_ : Aside0 (w32.heap[gb129]? = some (.cells #[.string (⟨#[]⟩ : ByteArray), .string (⟨#[]⟩ : ByteArray)] 35 (0, 0))) := ⟨h2_⟩; have n3_ : Aside0 (w32.heap[gb139]? = some (.cells #[.string (⟨#[]⟩ : ByteArray), .string (⟨#[]⟩ : ByteArray)] 35 (0, 0))) := ⟨h3_⟩; have n4_ : Aside0 (w.heap.size ≤ gb139) := ⟨h4_⟩; have n5_ : Aside0 (w.heap.size ≤ gb139) := ⟨h5_⟩; have n6_ : Aside0 (gb127 ≠ gb139) := ⟨h6_⟩; have n7_ : Aside0 (gb139 ≠ gb127) := ⟨h7_⟩; have n8_ : Aside0 (gb128 ≠ gb139) := ⟨h8_⟩; have n9_ : Aside0 (gb139 ≠ gb128) := ⟨h9_⟩; have n10_ : Aside0 (gb129 ≠ gb139) := ⟨h10_⟩; have n11_ : Aside0 (gb139 ≠ gb129) := ⟨h11_⟩; have n12_ : Aside0 (Below w.heap.size w w32) := ⟨h12_⟩; clear BK127; clear BK128; clear BK129; clear HB; clear h0_ h1_ h2_ h3_ h4_ h5_ h6_ h7_ h8_ h9_ h10_ h11_ h12_; have BK127 := n0_; have BK128 := n1_; have BK129 := n2_; have BK139 := n3_; have GW139 := n4_; have GE139 := n5_; have NB127_139 := n6_; have NB139_127 := n7_; have NB128_139 := n8_; have NB139_128 := n9_; have NB129_139 := n10_; have NB139_129 := n11_; have HB := n12_; clear n0_ n1_ n2_ n3_ n4_ n5_ n6_ n7_ n8_ n9_ n10_ n11_ n12_; have hHeld : w32.cell? ⟨gb127, 0, none⟩ = some (.string a0_0) ∧ w32.cell? ⟨gb127, 1, none⟩ = some (.string a0_1) ∧ w32.cell? ⟨gb128, 0, none⟩ = some (.string a1_0) ∧ w32.cell? ⟨gb128, 1, none⟩ = some (.string a1_1) := hS_; refine norm_ (a' := ?_) ?_ ?_; rotate_left
               ·simp only [putAll, Act.put, List.setIfInBounds_toArray, List.set_cons_zero, List.set_cons_succ]
                rfl
               refine on_ 4 (some 21) rfl rfl HT_ (fun K hK => ?_); refine gs_ Tryz.func30 #[.string a0_0, .string a1_1] ?_; refine mo_ (r2_Mul.calls a0_0 a1_1 t132 _ A25.out) ?_; intro w33 hb; replace BK127 := kb_ BK127 hb; replace BK128 := kb_ BK128 hb; replace BK129 := kb_ BK129 hb; replace BK139 := kb_ BK139 hb; replace HB := bs_ HB hb; (try clear hb); refine hk_ hK (fun hHeld => ?_); clear hK K; refine nm_ ?_; exact norm_ pa_ (hJ4_20 (gb139) _ ⟨hHeld, (k_ BK127.out), (k_ BK128.out), (k_ BK129.out), (k_ BK139.out), GW139.out, GE139.out, NB127_139.out, NB139_127.out, NB128_139.out, NB139_128.out, NB129_139.out, NB139_129.out, (b_ HB.out)⟩)
             ·skip; rintro _ w32 ⟨hS_, h0_, h1_, h2_, h3_⟩; have n0_ : Aside0 (w32.heap[gb127]? = some (.cells #[.string a0_0, .string a0_1] 35 (0, 0))) := ⟨h0_⟩; have n1_ : Aside0 (w32.heap[gb128]? = some (.cells #[.string a1_0, .string a1_1] 35 (0, 0))) := ⟨h1_⟩; have n2_ : Aside0 (w32.heap[gb129]? = some (.cells #[.string (⟨#[]⟩ : ByteArray), .string (⟨#[]⟩ : ByteArray)] 35 (0, 0))) := ⟨h2_⟩; have n3_ : Aside0 (Below w.heap.size w w32) := ⟨h3_⟩; clear BK127; clear BK128; clear BK129; clear HB; clear h0_ h1_ h2_ h3_; have BK127 := n0_; have BK128 := n1_; have BK129 := n2_; have HB := n3_; clear n0_ n1_ n2_ n3_; have hHeld : w32.cell? ⟨gb127, 0, none⟩ = some (.string a0_0) ∧ w32.cell? ⟨gb127, 1, none⟩ = some (.string a0_1) ∧ w32.cell? ⟨gb128, 0, none⟩ = some (.string a1_0) ∧ w32.cell? ⟨gb128, 1, none⟩ = some (.string a1_1) := hS_; refine norm_ (a' := ?_) ?_ ?_; rotate_left
              ·simp only [putAll, Act.put, List.setIfInBounds_toArray, List.set_cons_zero, List.set_cons_succ]
               rfl
              refine two_ (i := 9) (j := 20) (Ni := some 26) (Nj := some 5) #[true, true, true, true, true, true, true, true, true, true, false, true, true, true, true, false, false, false, false, false, false, false, false] #[true, true, true, true, true, true, true, true, true, false, false, true, true, true, true, false, false, false, false, false, true, false, false] rfl rfl rfl rfl (two_of HT_.out (by kernel_rfl)) (by decide) (by decide) (fun K hK => ?_) (fun K hK => ?_)
              ·skip; refine gs_ Tryz.func30 #[.string a1_0, .string a0_1] ?_; refine mo_ (r2_Mul.calls a1_0 a0_1 t133 _ A26.out) ?_; intro w33 hb; replace BK127 := kb_ BK127 hb; replace BK128 := kb_ BK128 hb; replace BK129 := kb_ BK129 hb; replace HB := bs_ HB hb; (try clear hb); refine hk_ hK (fun hHeld => ?_); clear hK K; refine nm_ ?_; exact norm_ pa_ (hJ4_9 () _ ⟨hHeld, (k_ BK127.out), (k_ BK128.out), (k_ BK129.out), (b_ HB.out)⟩)
              ·skip; refine box_step ?hg (N := 5) ?hd (cs := #[.string (⟨#[]⟩ : ByteArray), .string (⟨#[]⟩ : ByteArray)]) (t := 35) ?hr ?_; (case hd => rfl); (case hg => rfl); (case hr => first | (go_simp; done) | (go_simp; rfl)); intro gb139 hg w33 hbox hb; have BK139 := Aside0.mk (hbox); have GW139 := ge_ HB hg; have GE139 := ge_ HB hg; have NB127_139 := nl_ BK127 hg; have NB139_127 := ng_ BK127 hg; have NB128_139 := nl_ BK128 hg; have NB139_128 := ng_ BK128 hg; have NB129_139 := nl_ BK129 hg; have NB139_129 := ng_ BK129 hg; replace BK127 := kb_ BK127 hb; replace BK128 := kb_ BK128 hb; replace BK129 := kb_ BK129 hb; replace HB := bs_ HB hb; clear hb hbox hg; refine hk_ hK (fun hHeld => ?_); clear hK K; refine nm_ ?_; exact norm_ pa_ (hJ4_20 (gb139) _ ⟨hHeld, (k_ BK127.out), (k_ BK128.out), (k_ BK129.out), (k_ BK139.out), GW139.out, GE139.out, NB127_139.out, NB139_127.out, NB128_139.out, NB139_128.out, NB129_139.out, NB139_129.out, (b_ HB.out)⟩)
            ·skip; rintro gb139 w33 ⟨hS_, h0_, h1_, h2_, h3_, h4_, h5_, h6_, h7_, h8_, h9_, h10_, h11_, h12_⟩; have n0_ : Aside0 (w33.heap[gb127]? = some (.cells #[.string a0_0, .string a0_1] 35 (0, 0))) := ⟨h0_⟩; have n1_ : Aside0 (w33.heap[gb128]? = some (.cells #[.string a1_0, .string a1_1] 35 (0, 0))) := ⟨h1_⟩; have n2_ : Aside0 (w33.heap[gb129]? = some (.cells #[.string (⟨#[]⟩ : ByteArray), .string (⟨#[]⟩ : ByteArray)] 35 (0, 0))) := ⟨h2_⟩; have n3_ : Aside0 (w33.heap[gb139]? = some (.cells #[.string (⟨#[]⟩ : ByteArray), .string (⟨#[]⟩ : ByteArray)] 35 (0, 0))) := ⟨h3_⟩; have n4_ : Aside0 (w.heap.size ≤ gb139) := ⟨h4_⟩; have n5_ : Aside0 (w.heap.size ≤ gb139) := ⟨h5_⟩; have n6_ : Aside0 (gb127 ≠ gb139) := ⟨h6_⟩; have n7_ : Aside0 (gb139 ≠ gb127) := ⟨h7_⟩; have n8_ : Aside0 (gb128 ≠ gb139) := ⟨h8_⟩; have n9_ : Aside0 (gb139 ≠ gb128) := ⟨h9_⟩; have n10_ : Aside0 (gb129 ≠ gb139) := ⟨h10_⟩; have n11_ : Aside0 (gb139 ≠ gb129) := ⟨h11_⟩; have n12_ : Aside0 (Below w.heap.size w w33) := ⟨h12_⟩; clear BK127; clear BK128; clear BK129; clear HB; clear h0_ h1_ h2_ h3_ h4_ h5_ h6_ h7_ h8_ h9_ h10_ h11_ h12_; have BK127 := n0_; have BK128 := n1_; have BK129 := n2_; have BK139 := n3_; have GW139 := n4_; have GE139 := n5_; have NB127_139 := n6_; have NB139_127 := n7_; have NB128_139 := n8_; have NB139_128 := n9_; have NB129_139 := n10_; have NB139_129 := n11_; have HB := n12_; clear n0_ n1_ n2_ n3_ n4_ n5_ n6_ n7_ n8_ n9_ n10_ n11_ n12_; have hHeld : w33.cell? ⟨gb127, 0, none⟩ = some (.string a0_0) ∧ w33.cell? ⟨gb127, 1, none⟩ = some (.string a0_1) ∧ w33.cell? ⟨gb128, 0, none⟩ = some (.string a1_0) ∧ w33.cell? ⟨gb128, 1, none⟩ = some (.string a1_1) := hS_; refine norm_ (a' := ?_) ?_ ?_; rotate_left
             ·simp only [putAll, Act.put, List.setIfInBounds_toArray, List.set_cons_zero, List.set_cons_succ]
              rfl
             refine on_ 9 (some 26) rfl rfl HT_ (fun K hK => ?_); refine gs_ Tryz.func30 #[.string a1_0, .string a0_1] ?_; refine mo_ (r2_Mul.calls a1_0 a0_1 t133 _ A26.out) ?_; intro w34 hb; replace BK127 := kb_ BK127 hb; replace BK128 := kb_ BK128 hb; replace BK129 := kb_ BK129 hb; replace BK139 := kb_ BK139 hb; replace HB := bs_ HB hb; (try clear hb); refine hk_ hK (fun hHeld => ?_); clear hK K; refine nm_ ?_; exact norm_ pa_ (hJ4_9_20 (gb139) _ ⟨hHeld, (k_ BK127.out), (k_ BK128.out), (k_ BK129.out), (k_ BK139.out), GW139.out, GE139.out, NB127_139.out, NB139_127.out, NB128_139.out, NB139_128.out, NB129_139.out, NB139_129.out, (b_ HB.out)⟩)
           ·skip; rintro _ w33 ⟨hS_, h0_, h1_, h2_, h3_⟩; have n0_ : Aside0 (w33.heap[gb127]? = some (.cells #[.string a0_0, .string a0_1] 35 (0, 0))) := ⟨h0_⟩; have n1_ : Aside0 (w33.heap[gb128]? = some (.cells #[.string a1_0, .string a1_1] 35 (0, 0))) := ⟨h1_⟩; have n2_ : Aside0 (w33.heap[gb129]? = some (.cells #[.string (⟨#[]⟩ : ByteArray), .string (⟨#[]⟩ : ByteArray)] 35 (0, 0))) := ⟨h2_⟩; have n3_ : Aside0 (Below w.heap.size w w33) := ⟨h3_⟩; clear BK127; clear BK128; clear BK129; clear HB; clear h0_ h1_ h2_ h3_; have BK127 := n0_; have BK128 := n1_; have BK129 := n2_; have HB := n3_; clear n0_ n1_ n2_ n3_; have hHeld : w33.cell? ⟨gb127, 0, none⟩ = some (.string a0_0) ∧ w33.cell? ⟨gb127, 1, none⟩ = some (.string a0_1) ∧ w33.cell? ⟨gb128, 0, none⟩ = some (.string a1_0) ∧ w33.cell? ⟨gb128, 1, none⟩ = some (.string a1_1) := hS_; refine norm_ (a' := ?_) ?_ ?_; rotate_left
            ·simp only [putAll, Act.put, List.setIfInBounds_toArray, List.set_cons_zero, List.set_cons_succ]
             rfl
            refine two_ (i := 10) (j := 20) (Ni := some 27) (Nj := some 5) #[true, true, true, true, true, true, true, true, true, true, true, true, true, true, true, false, false, false, false, false, false, false, false] #[true, true, true, true, true, true, true, true, true, true, false, true, true, true, true, false, false, false, false, false, true, false, false] rfl rfl rfl rfl (two_of HT_.out (by kernel_rfl)) (by decide) (by decide) (fun K hK => ?_) (fun K hK => ?_)
            ·skip; refine gs_ Tryz.func26 #[.string t132, .string t133] ?_; refine mo_ (r2_Add.calls t132 t133 t134 _ A27.out) ?_; intro w34 hb; replace BK127 := kb_ BK127 hb; replace BK128 := kb_ BK128 hb; replace BK129 := kb_ BK129 hb; replace HB := bs_ HB hb; (try clear hb); refine hk_ hK (fun hHeld => ?_); clear hK K; refine nm_ ?_; exact norm_ pa_ (hJ4_9_10 () _ ⟨hHeld, (k_ BK127.out), (k_ BK128.out), (k_ BK129.out), (b_ HB.out)⟩)
            ·skip; refine box_step ?hg (N := 5) ?hd (cs := #[.string (⟨#[]⟩ : ByteArray), .string (⟨#[]⟩ : ByteArray)]) (t := 35) ?hr ?_; (case hd => rfl); (case hg => rfl); (case hr => first | (go_simp; done) | (go_simp; rfl)); intro gb139 hg w34 hbox hb; have BK139 := Aside0.mk (hbox); have GW139 := ge_ HB hg; have GE139 := ge_ HB hg; have NB127_139 := nl_ BK127 hg; have NB139_127 := ng_ BK127 hg; have NB128_139 := nl_ BK128 hg; have NB139_128 := ng_ BK128 hg; have NB129_139 := nl_ BK129 hg; have NB139_129 := ng_ BK129 hg; replace BK127 := kb_ BK127 hb; replace BK128 := kb_ BK128 hb; replace BK129 := kb_ BK129 hb; replace HB := bs_ HB hb; clear hb hbox hg; refine hk_ hK (fun hHeld => ?_); clear hK K; refine nm_ ?_; exact norm_ pa_ (hJ4_9_20 (gb139) _ ⟨hHeld, (k_ BK127.out), (k_ BK128.out), (k_ BK129.out), (k_ BK139.out), GW139.out, GE139.out, NB127_139.out, NB139_127.out, NB128_139.out, NB139_128.out, NB129_139.out, NB139_129.out, (b_ HB.out)⟩)
          ·skip; rintro gb139 w34 ⟨hS_, h0_, h1_, h2_, h3_, h4_, h5_, h6_, h7_, h8_, h9_, h10_, h11_, h12_⟩; have n0_ : Aside0 (w34.heap[gb127]? = some (.cells #[.string a0_0, .string a0_1] 35 (0, 0))) := ⟨h0_⟩; have n1_ : Aside0 (w34.heap[gb128]? = some (.cells #[.string a1_0, .string a1_1] 35 (0, 0))) := ⟨h1_⟩; have n2_ : Aside0 (w34.heap[gb129]? = some (.cells #[.string (⟨#[]⟩ : ByteArray), .string (⟨#[]⟩ : ByteArray)] 35 (0, 0))) := ⟨h2_⟩; have n3_ : Aside0 (w34.heap[gb139]? = some (.cells #[.string (⟨#[]⟩ : ByteArray), .string (⟨#[]⟩ : ByteArray)] 35 (0, 0))) := ⟨h3_⟩; have n4_ : Aside0 (w.heap.size ≤ gb139) := ⟨h4_⟩; have n5_ : Aside0 (w.heap.size ≤ gb139) := ⟨h5_⟩; have n6_ : Aside0 (gb127 ≠ gb139) := ⟨h6_⟩; have n7_ : Aside0 (gb139 ≠ gb127) := ⟨h7_⟩; have n8_ : Aside0 (gb128 ≠ gb139) := ⟨h8_⟩; have n9_ : Aside0 (gb139 ≠ gb128) := ⟨h9_⟩; have n10_ : Aside0 (gb129 ≠ gb139) := ⟨h10_⟩; have n11_ : Aside0 (gb139 ≠ gb129) := ⟨h11_⟩; have n12_ : Aside0 (Below w.heap.size w w34) := ⟨h12_⟩; clear BK127; clear BK128; clear BK129; clear HB; clear h0_ h1_ h2_ h3_ h4_ h5_ h6_ h7_ h8_ h9_ h10_ h11_ h12_; have BK127 := n0_; have BK128 := n1_; have BK129 := n2_; have BK139 := n3_; have GW139 := n4_; have GE139 := n5_; have NB127_139 := n6_; have NB139_127 := n7_; have NB128_139 := n8_; have NB139_128 := n9_; have NB129_139 := n10_; have NB139_129 := n11_; have HB := n12_; clear n0_ n1_ n2_ n3_ n4_ n5_ n6_ n7_ n8_ n9_ n10_ n11_ n12_; have hHeld : w34.cell? ⟨gb127, 0, none⟩ = some (.string a0_0) ∧ w34.cell? ⟨gb127, 1, none⟩ = some (.string a0_1) ∧ w34.cell? ⟨gb128, 0, none⟩ = some (.string a1_0) ∧ w34.cell? ⟨gb128, 1, none⟩ = some (.string a1_1) := hS_; refine norm_ (a' := ?_) ?_ ?_; rotate_left
           ·simp only [putAll, Act.put, List.setIfInBounds_toArray, List.set_cons_zero, List.set_cons_succ]
            rfl
           refine on_ 10 (some 27) rfl rfl HT_ (fun K hK => ?_); refine gs_ Tryz.func26 #[.string t132, .string t133] ?_; refine mo_ (r2_Add.calls t132 t133 t134 _ A27.out) ?_; intro w35 hb; replace BK127 := kb_ BK127 hb; replace BK128 := kb_ BK128 hb; replace BK129 := kb_ BK129 hb; replace BK139 := kb_ BK139 hb; replace HB := bs_ HB hb; (try clear hb); refine hk_ hK (fun hHeld => ?_); clear hK K; refine nm_ ?_; exact norm_ pa_ (hJ4_9_10_20 (gb139) _ ⟨hHeld, (k_ BK127.out), (k_ BK128.out), (k_ BK129.out), (k_ BK139.out), GW139.out, GE139.out, NB127_139.out, NB139_127.out, NB128_139.out, NB139_128.out, NB129_139.out, NB139_129.out, (b_ HB.out)⟩)
         ·skip; rintro _ w34 ⟨hS_, h0_, h1_, h2_, h3_⟩; have n0_ : Aside0 (w34.heap[gb127]? = some (.cells #[.string a0_0, .string a0_1] 35 (0, 0))) := ⟨h0_⟩; have n1_ : Aside0 (w34.heap[gb128]? = some (.cells #[.string a1_0, .string a1_1] 35 (0, 0))) := ⟨h1_⟩; have n2_ : Aside0 (w34.heap[gb129]? = some (.cells #[.string (⟨#[]⟩ : ByteArray), .string (⟨#[]⟩ : ByteArray)] 35 (0, 0))) := ⟨h2_⟩; have n3_ : Aside0 (Below w.heap.size w w34) := ⟨h3_⟩; clear BK127; clear BK128; clear BK129; clear HB; clear h0_ h1_ h2_ h3_; have BK127 := n0_; have BK128 := n1_; have BK129 := n2_; have HB := n3_; clear n0_ n1_ n2_ n3_; have hHeld : w34.cell? ⟨gb127, 0, none⟩ = some (.string a0_0) ∧ w34.cell? ⟨gb127, 1, none⟩ = some (.string a0_1) ∧ w34.cell? ⟨gb128, 0, none⟩ = some (.string a1_0) ∧ w34.cell? ⟨gb128, 1, none⟩ = some (.string a1_1) := hS_; refine norm_ (a' := ?_) ?_ ?_; rotate_left
          ·simp only [putAll, Act.put, List.setIfInBounds_toArray, List.set_cons_zero, List.set_cons_succ]
           rfl
          refine two_ (i := 15) (j := 20) (Ni := some 32) (Nj := some 5) #[true, true, true, true, true, true, true, true, true, true, true, true, true, true, true, true, false, false, false, false, false, false, false] #[true, true, true, true, true, true, true, true, true, true, true, true, true, true, true, false, false, false, false, false, true, false, false] rfl rfl rfl rfl (two_of HT_.out (by kernel_rfl)) (by decide) (by decide) (fun K hK => ?_) (fun K hK => ?_)
          ·skip; refine gs_ Tryz.func73 #[.string a0_1, .string a1_1] ?_; refine mo_ (r1_Mul.calls a0_1 a1_1 t135 _ A28.out) ?_; intro w35 hb; replace BK127 := kb_ BK127 hb; replace BK128 := kb_ BK128 hb; replace BK129 := kb_ BK129 hb; replace HB := bs_ HB hb; (try clear hb); refine hk_ hK (fun hHeld => ?_); clear hK K; refine nm_ ?_; exact norm_ pa_ (hJ4_9_10_15 () _ ⟨hHeld, (k_ BK127.out), (k_ BK128.out), (k_ BK129.out), (b_ HB.out)⟩)
          ·skip; refine box_step ?hg (N := 5) ?hd (cs := #[.string (⟨#[]⟩ : ByteArray), .string (⟨#[]⟩ : ByteArray)]) (t := 35) ?hr ?_; (case hd => rfl); (case hg => rfl); (case hr => first | (go_simp; done) | (go_simp; rfl)); intro gb139 hg w35 hbox hb; have BK139 := Aside0.mk (hbox); have GW139 := ge_ HB hg; have GE139 := ge_ HB hg; have NB127_139 := nl_ BK127 hg; have NB139_127 := ng_ BK127 hg; have NB128_139 := nl_ BK128 hg; have NB139_128 := ng_ BK128 hg; have NB129_139 := nl_ BK129 hg; have NB139_129 := ng_ BK129 hg; replace BK127 := kb_ BK127 hb; replace BK128 := kb_ BK128 hb; replace BK129 := kb_ BK129 hb; replace HB := bs_ HB hb; clear hb hbox hg; refine hk_ hK (fun hHeld => ?_); clear hK K; refine nm_ ?_; exact norm_ pa_ (hJ4_9_10_20 (gb139) _ ⟨hHeld, (k_ BK127.out), (k_ BK128.out), (k_ BK129.out), (k_ BK139.out), GW139.out, GE139.out, NB127_139.out, NB139_127.out, NB128_139.out, NB139_128.out, NB129_139.out, NB139_129.out, (b_ HB.out)⟩)
        ·skip; rintro gb139 w35 ⟨hS_, h0_, h1_, h2_, h3_, h4_, h5_, h6_, h7_, h8_, h9_, h10_, h11_, h12_⟩; have n0_ : Aside0 (w35.heap[gb127]? = some (.cells #[.string a0_0, .string a0_1] 35 (0, 0))) := ⟨h0_⟩; have n1_ : Aside0 (w35.heap[gb128]? = some (.cells #[.string a1_0, .string a1_1] 35 (0, 0))) := ⟨h1_⟩; have n2_ : Aside0 (w35.heap[gb129]? = some (.cells #[.string (⟨#[]⟩ : ByteArray), .string (⟨#[]⟩ : ByteArray)] 35 (0, 0))) := ⟨h2_⟩; have n3_ : Aside0 (w35.heap[gb139]? = some (.cells #[.string (⟨#[]⟩ : ByteArray), .string (⟨#[]⟩ : ByteArray)] 35 (0, 0))) := ⟨h3_⟩; have n4_ : Aside0 (w.heap.size ≤ gb139) := ⟨h4_⟩; have n5_ : Aside0 (w.heap.size ≤ gb139) := ⟨h5_⟩; have n6_ : Aside0 (gb127 ≠ gb139) := ⟨h6_⟩; have n7_ : Aside0 (gb139 ≠ gb127) := ⟨h7_⟩; have n8_ : Aside0 (gb128 ≠ gb139) := ⟨h8_⟩; have n9_ : Aside0 (gb139 ≠ gb128) := ⟨h9_⟩; have n10_ : Aside0 (gb129 ≠ gb139) := ⟨h10_⟩; have n11_ : Aside0 (gb139 ≠ gb129) := ⟨h11_⟩; have n12_ : Aside0 (Below w.heap.size w w35) := ⟨h12_⟩; clear BK127; clear BK128; clear BK129; clear HB; clear h0_ h1_ h2_ h3_ h4_ h5_ h6_ h7_ h8_ h9_ h10_ h11_ h12_; have BK127 := n0_; have BK128 := n1_; have BK129 := n2_; have BK139 := n3_; have GW139 := n4_; have GE139 := n5_; have NB127_139 := n6_; have NB139_127 := n7_; have NB128_139 := n8_; have NB139_128 := n9_; have NB129_139 := n10_; have NB139_129 := n11_; have HB := n12_; clear n0_ n1_ n2_ n3_ n4_ n5_ n6_ n7_ n8_ n9_ n10_ n11_ n12_; have hHeld : w35.cell? ⟨gb127, 0, none⟩ = some (.string a0_0) ∧ w35.cell? ⟨gb127, 1, none⟩ = some (.string a0_1) ∧ w35.cell? ⟨gb128, 0, none⟩ = some (.string a1_0) ∧ w35.cell? ⟨gb128, 1, none⟩ = some (.string a1_1) := hS_; refine norm_ (a' := ?_) ?_ ?_; rotate_left
         ·simp only [putAll, Act.put, List.setIfInBounds_toArray, List.set_cons_zero, List.set_cons_succ]
          rfl
         refine on_ 15 (some 32) rfl rfl HT_ (fun K hK => ?_); refine gs_ Tryz.func73 #[.string a0_1, .string a1_1] ?_; refine mo_ (r1_Mul.calls a0_1 a1_1 t135 _ A28.out) ?_; intro w36 hb; replace BK127 := kb_ BK127 hb; replace BK128 := kb_ BK128 hb; replace BK129 := kb_ BK129 hb; replace BK139 := kb_ BK139 hb; replace HB := bs_ HB hb; (try clear hb); refine hk_ hK (fun hHeld => ?_); clear hK K; refine nm_ ?_; exact norm_ pa_ (hJ4_9_10_15_20 (gb139) _ ⟨hHeld, (k_ BK127.out), (k_ BK128.out), (k_ BK129.out), (k_ BK139.out), GW139.out, GE139.out, NB127_139.out, NB139_127.out, NB128_139.out, NB139_128.out, NB129_139.out, NB139_129.out, (b_ HB.out)⟩)
       ·skip; rintro _ w35 ⟨hS_, h0_, h1_, h2_, h3_⟩; have n0_ : Aside0 (w35.heap[gb127]? = some (.cells #[.string a0_0, .string a0_1] 35 (0, 0))) := ⟨h0_⟩; have n1_ : Aside0 (w35.heap[gb128]? = some (.cells #[.string a1_0, .string a1_1] 35 (0, 0))) := ⟨h1_⟩; have n2_ : Aside0 (w35.heap[gb129]? = some (.cells #[.string (⟨#[]⟩ : ByteArray), .string (⟨#[]⟩ : ByteArray)] 35 (0, 0))) := ⟨h2_⟩; have n3_ : Aside0 (Below w.heap.size w w35) := ⟨h3_⟩; clear BK127; clear BK128; clear BK129; clear HB; clear h0_ h1_ h2_ h3_; have BK127 := n0_; have BK128 := n1_; have BK129 := n2_; have HB := n3_; clear n0_ n1_ n2_ n3_; have hHeld : w35.cell? ⟨gb127, 0, none⟩ = some (.string a0_0) ∧ w35.cell? ⟨gb127, 1, none⟩ = some (.string a0_1) ∧ w35.cell? ⟨gb128, 0, none⟩ = some (.string a1_0) ∧ w35.cell? ⟨gb128, 1, none⟩ = some (.string a1_1) := hS_; refine norm_ (a' := ?_) ?_ ?_; rotate_left
        ·simp only [putAll, Act.put, List.setIfInBounds_toArray, List.set_cons_zero, List.set_cons_succ]
         rfl
        refine two_ (i := 16) (j := 20) (Ni := some 33) (Nj := some 5) #[true, true, true, true, true, true, true, true, true, true, true, true, true, true, true, true, true, false, false, false, false, false, false] #[true, true, true, true, true, true, true, true, true, true, true, true, true, true, true, true, false, false, false, false, true, false, false] rfl rfl rfl rfl (two_of HT_.out (by kernel_rfl)) (by decide) (by decide) (fun K hK => ?_) (fun K hK => ?_)
        ·skip; refine gs_ Tryz.func34 #[.string t134, .string t135] ?_; refine mo_ (r3_Make.calls kj2 t134 t135 t136 t137 t138 _ A29.out) ?_; intro w36 hb; replace BK127 := kb_ BK127 hb; replace BK128 := kb_ BK128 hb; replace BK129 := kb_ BK129 hb; replace HB := bs_ HB hb; (try clear hb); refine hk_ hK (fun hHeld => ?_); clear hK K; refine nm_ ?_; refine pu_ 17 16 rfl rfl HT_ ?_; refine pu_ 18 34 rfl rfl HT_ ?_; refine pu_ 19 35 rfl rfl HT_ ?_; exact norm_ pa_ (hJ4_9_10_15_16 () _ ⟨hHeld, (k_ BK127.out), (k_ BK128.out), (k_ BK129.out), (b_ HB.out)⟩)
        ·skip; refine box_step ?hg (N := 5) ?hd (cs := #[.string (⟨#[]⟩ : ByteArray), .string (⟨#[]⟩ : ByteArray)]) (t := 35) ?hr ?_; (case hd => rfl); (case hg => rfl); (case hr => first | (go_simp; done) | (go_simp; rfl)); intro gb139 hg w36 hbox hb; have BK139 := Aside0.mk (hbox); have GW139 := ge_ HB hg; have GE139 := ge_ HB hg; have NB127_139 := nl_ BK127 hg; have NB139_127 := ng_ BK127 hg; have NB128_139 := nl_ BK128 hg; have NB139_128 := ng_ BK128 hg; have NB129_139 := nl_ BK129 hg; have NB139_129 := ng_ BK129 hg; replace BK127 := kb_ BK127 hb; replace BK128 := kb_ BK128 hb; replace BK129 := kb_ BK129 hb; replace HB := bs_ HB hb; clear hb hbox hg; refine hk_ hK (fun hHeld => ?_); clear hK K; refine nm_ ?_; exact norm_ pa_ (hJ4_9_10_15_20 (gb139) _ ⟨hHeld, (k_ BK127.out), (k_ BK128.out), (k_ BK129.out), (k_ BK139.out), GW139.out, GE139.out, NB127_139.out, NB139_127.out, NB128_139.out, NB139_128.out, NB129_139.out, NB139_129.out, (b_ HB.out)⟩)
      ·skip; rintro gb139 w36 ⟨hS_, h0_, h1_, h2_, h3_, h4_, h5_, h6_, h7_, h8_, h9_, h10_, h11_, h12_⟩; have n0_ : Aside0 (w36.heap[gb127]? = some (.cells #[.string a0_0, .string a0_1] 35 (0, 0))) := ⟨h0_⟩; have n1_ : Aside0 (w36.heap[gb128]? = some (.cells #[.string a1_0, .string a1_1] 35 (0, 0))) := ⟨h1_⟩; have n2_ : Aside0 (w36.heap[gb129]? = some (.cells #[.string (⟨#[]⟩ : ByteArray), .string (⟨#[]⟩ : ByteArray)] 35 (0, 0))) := ⟨h2_⟩; have n3_ : Aside0 (w36.heap[gb139]? = some (.cells #[.string (⟨#[]⟩ : ByteArray), .string (⟨#[]⟩ : ByteArray)] 35 (0, 0))) := ⟨h3_⟩; have n4_ : Aside0 (w.heap.size ≤ gb139) := ⟨h4_⟩; have n5_ : Aside0 (w.heap.size ≤ gb139) := ⟨h5_⟩; have n6_ : Aside0 (gb127 ≠ gb139) := ⟨h6_⟩; have n7_ : Aside0 (gb139 ≠ gb127) := ⟨h7_⟩; have n8_ : Aside0 (gb128 ≠ gb139) := ⟨h8_⟩; have n9_ : Aside0 (gb139 ≠ gb128) := ⟨h9_⟩; have n10_ : Aside0 (gb129 ≠ gb139) := ⟨h10_⟩; have n11_ : Aside0 (gb139 ≠ gb129) := ⟨h11_⟩; have n12_ : Aside0 (Below w.heap.size w w36) := ⟨h12_⟩; clear BK127; clear BK128; clear BK129; clear HB; clear h0_ h1_ h2_ h3_ h4_ h5_ h6_ h7_ h8_ h9_ h10_ h11_ h12_; have BK127 := n0_; have BK128 := n1_; have BK129 := n2_; have BK139 := n3_; have GW139 := n4_; have GE139 := n5_; have NB127_139 := n6_; have NB139_127 := n7_; have NB128_139 := n8_; have NB139_128 := n9_; have NB129_139 := n10_; have NB139_129 := n11_; have HB := n12_; clear n0_ n1_ n2_ n3_ n4_ n5_ n6_ n7_ n8_ n9_ n10_ n11_ n12_; have hHeld : w36.cell? ⟨gb127, 0, none⟩ = some (.string a0_0) ∧ w36.cell? ⟨gb127, 1, none⟩ = some (.string a0_1) ∧ w36.cell? ⟨gb128, 0, none⟩ = some (.string a1_0) ∧ w36.cell? ⟨gb128, 1, none⟩ = some (.string a1_1) := hS_; refine norm_ (a' := ?_) ?_ ?_; rotate_left
       ·simp only [putAll, Act.put, List.setIfInBounds_toArray, List.set_cons_zero, List.set_cons_succ]
        rfl
       refine on_ 16 (some 33) rfl rfl HT_ (fun K hK => ?_); refine gs_ Tryz.func34 #[.string t134, .string t135] ?_; refine mo_ (r3_Make.calls kj2 t134 t135 t136 t137 t138 _ A29.out) ?_; intro w37 hb; replace BK127 := kb_ BK127 hb; replace BK128 := kb_ BK128 hb; replace BK129 := kb_ BK129 hb; replace BK139 := kb_ BK139 hb; replace HB := bs_ HB hb; (try clear hb); refine hk_ hK (fun hHeld => ?_); clear hK K; refine nm_ ?_; refine pu_ 17 16 rfl rfl HT_ ?_; refine pu_ 18 34 rfl rfl HT_ ?_; refine pu_ 19 35 rfl rfl HT_ ?_; exact norm_ pa_ (hJ4_9_10_15_16_20 (gb139) _ ⟨hHeld, (k_ BK127.out), (k_ BK128.out), (k_ BK129.out), (k_ BK139.out), GW139.out, GE139.out, NB127_139.out, NB139_127.out, NB128_139.out, NB139_128.out, NB129_139.out, NB139_129.out, (b_ HB.out)⟩)
     ·skip; rintro _ w36 ⟨hS_, h0_, h1_, h2_, h3_⟩; have n0_ : Aside0 (w36.heap[gb127]? = some (.cells #[.string a0_0, .string a0_1] 35 (0, 0))) := ⟨h0_⟩; have n1_ : Aside0 (w36.heap[gb128]? = some (.cells #[.string a1_0, .string a1_1] 35 (0, 0))) := ⟨h1_⟩; have n2_ : Aside0 (w36.heap[gb129]? = some (.cells #[.string (⟨#[]⟩ : ByteArray), .string (⟨#[]⟩ : ByteArray)] 35 (0, 0))) := ⟨h2_⟩; have n3_ : Aside0 (Below w.heap.size w w36) := ⟨h3_⟩; clear BK127; clear BK128; clear BK129; clear HB; clear h0_ h1_ h2_ h3_; have BK127 := n0_; have BK128 := n1_; have BK129 := n2_; have HB := n3_; clear n0_ n1_ n2_ n3_; have hHeld : w36.cell? ⟨gb127, 0, none⟩ = some (.string a0_0) ∧ w36.cell? ⟨gb127, 1, none⟩ = some (.string a0_1) ∧ w36.cell? ⟨gb128, 0, none⟩ = some (.string a1_0) ∧ w36.cell? ⟨gb128, 1, none⟩ = some (.string a1_1) := hS_; refine norm_ (a' := ?_) ?_ ?_; rotate_left
      ·simp only [putAll, Act.put, List.setIfInBounds_toArray, List.set_cons_zero, List.set_cons_succ]
       rfl
      refine on_ 20 (some 5) rfl rfl HT_ (fun K hK => ?_); refine box_step ?hg (N := 5) ?hd (cs := #[.string (⟨#[]⟩ : ByteArray), .string (⟨#[]⟩ : ByteArray)]) (t := 35) ?hr ?_; (case hd => rfl); (case hg => rfl); (case hr => first | (go_simp; done) | (go_simp; rfl)); intro gb139 hg w37 hbox hb; have BK139 := Aside0.mk (hbox); have GW139 := ge_ HB hg; have GE139 := ge_ HB hg; have NB127_139 := nl_ BK127 hg; have NB139_127 := ng_ BK127 hg; have NB128_139 := nl_ BK128 hg; have NB139_128 := ng_ BK128 hg; have NB129_139 := nl_ BK129 hg; have NB139_129 := ng_ BK129 hg; replace BK127 := kb_ BK127 hb; replace BK128 := kb_ BK128 hb; replace BK129 := kb_ BK129 hb; replace HB := bs_ HB hb; clear hb hbox hg; refine hk_ hK (fun hHeld => ?_); clear hK K; refine nm_ ?_; exact norm_ pa_ (hJ4_9_10_15_16_20 (gb139) _ ⟨hHeld, (k_ BK127.out), (k_ BK128.out), (k_ BK129.out), (k_ BK139.out), GW139.out, GE139.out, NB127_139.out, NB139_127.out, NB128_139.out, NB139_128.out, NB129_139.out, NB139_129.out, (b_ HB.out)⟩)
    rintro gb139 w37 ⟨hS_, h0_, h1_, h2_, h3_, h4_, h5_, h6_, h7_, h8_, h9_, h10_, h11_, h12_⟩; have n0_ : Aside0 (w37.heap[gb127]? = some (.cells #[.string a0_0, .string a0_1] 35 (0, 0))) := ⟨h0_⟩; have n1_ : Aside0 (w37.heap[gb128]? = some (.cells #[.string a1_0, .string a1_1] 35 (0, 0))) := ⟨h1_⟩; have n2_ : Aside0 (w37.heap[gb129]? = some (.cells #[.string (⟨#[]⟩ : ByteArray), .string (⟨#[]⟩ : ByteArray)] 35 (0, 0))) := ⟨h2_⟩; have n3_ : Aside0 (w37.heap[gb139]? = some (.cells #[.string (⟨#[]⟩ : ByteArray), .string (⟨#[]⟩ : ByteArray)] 35 (0, 0))) := ⟨h3_⟩; have n4_ : Aside0 (w.heap.size ≤ gb139) := ⟨h4_⟩; have n5_ : Aside0 (w.heap.size ≤ gb139) := ⟨h5_⟩; have n6_ : Aside0 (gb127 ≠ gb139) := ⟨h6_⟩; have n7_ : Aside0 (gb139 ≠ gb127) := ⟨h7_⟩; have n8_ : Aside0 (gb128 ≠ gb139) := ⟨h8_⟩; have n9_ : Aside0 (gb139 ≠ gb128) := ⟨h9_⟩; have n10_ : Aside0 (gb129 ≠ gb139) := ⟨h10_⟩; have n11_ : Aside0 (gb139 ≠ gb129) := ⟨h11_⟩; have n12_ : Aside0 (Below w.heap.size w w37) := ⟨h12_⟩; clear BK127; clear BK128; clear BK129; clear HB; clear h0_ h1_ h2_ h3_ h4_ h5_ h6_ h7_ h8_ h9_ h10_ h11_ h12_; have BK127 := n0_; have BK128 := n1_; have BK129 := n2_; have BK139 := n3_; have GW139 := n4_; have GE139 := n5_; have NB127_139 := n6_; have NB139_127 := n7_; have NB128_139 := n8_; have NB139_128 := n9_; have NB129_139 := n10_; have NB139_129 := n11_; have HB := n12_; clear n0_ n1_ n2_ n3_ n4_ n5_ n6_ n7_ n8_ n9_ n10_ n11_ n12_; have hHeld : w37.cell? ⟨gb127, 0, none⟩ = some (.string a0_0) ∧ w37.cell? ⟨gb127, 1, none⟩ = some (.string a0_1) ∧ w37.cell? ⟨gb128, 0, none⟩ = some (.string a1_0) ∧ w37.cell? ⟨gb128, 1, none⟩ = some (.string a1_1) := hS_; refine norm_ (a' := ?_) ?_ ?_; rotate_left
    ·simp only [putAll, Act.put, List.setIfInBounds_toArray, List.set_cons_zero, List.set_cons_succ]
     rfl
    refine on_ 21 none rfl rfl HT_ (fun K hK => ?_); have hs38 := bc_ BK139 0 rfl; have hfs38 := blk_frozen BK139.out 0; have hns38_0 := NB127_139.out; have hns38_1 := NB128_139.out; have hns38_2 := NB129_139.out; have hms38_0 := NB139_127.out; have hms38_1 := NB139_128.out; have hms38_2 := NB139_129.out; have hs39 := bc_ BK139 1 rfl; have hfs39 := blk_frozen BK139.out 1; have hns39_0 := NB127_139.out; have hns39_1 := NB128_139.out; have hns39_2 := NB129_139.out; have hms39_0 := NB139_127.out; have hms39_1 := NB139_128.out; have hms39_2 := NB139_129.out; refine skip_ (w1 := ?_) (by rfl) rfl ?_ ?_; rotate_left
    ·go_simp
     rfl
    refine hf_ hK hHeld (fun hHeld => ?_); clear hK K; refine pu_ 22 6 rfl rfl HT_ ?_; refine done_ (done_of HT_.out (by kernel_rfl)) ?_; have hnb40 := NB139_127.out; have hnc40 := NB127_139.out; have hnb41 := NB139_128.out; have hnc41 := NB128_139.out; have hnb42 := NB139_129.out; have hnc42 := NB129_139.out; have hcz43_0 := bc_ BK139 0 rfl; have hcz43_1 := bc_ BK139 1 rfl; have hfz43_0 := blk_frozen BK139.out 0; have hfz43_1 := blk_frozen BK139.out 1; have hnb44 := NB129_127.out; have hnc44 := NB127_129.out; have hnb45 := NB129_128.out; have hnc45 := NB128_129.out; have hcz46_0 := bc_ BK129 0 rfl; have hcz46_1 := bc_ BK129 1 rfl; have hfz46_0 := blk_frozen BK129.out 0; have hfz46_1 := blk_frozen BK129.out 1
    try go_wp2
    refine bodyPost_ret (results_cell_row rfl _ _ gb129 35 #[.string t136, .string t137] (0, 0) _ rfl (by refine k_ ?_; refine blk_put (cs := #[.string t136, .string (⟨#[]⟩ : ByteArray)]) ?_ 1 _ rfl; refine k_ ?_; refine blk_put (cs := #[.string (⟨#[]⟩ : ByteArray), .string (⟨#[]⟩ : ByteArray)]) ?_ 0 _ rfl; refine k_ ?_; refine blk_far ?_ NB129_139.out _; refine k_ ?_; refine blk_far ?_ NB129_139.out _; refine k_ ?_; exact BK129.out) Tryz.underlying35 rfl (by kernel_rfl)) rfl ?_; exact ⟨er_, b_ HB.out⟩
end Go.Proofs.YtmkmldkfaehefaaGreatDoor.Pz
end

section
namespace Go.Proofs.YtmkmldkfaehefaaGreatDoor.Pz
def r3_Sub.f (k : Nat) (a0_0 : ByteArray) (a0_1 : ByteArray) (a1_0 : ByteArray) (a1_1 : ByteArray) : Option (ByteArray × ByteArray) := (r3_Neg.f a1_0 a1_1).bind fun bt143 => ((r3_Add.f k a0_0 a0_1 bt143.1 bt143.2).bind fun bt145 => (some (bt145.1, bt145.2)))
set_option maxHeartbeats 8000000 in
set_option maxRecDepth 100000 in
theorem r3_Sub.calls (k : Nat) (a0_0 : ByteArray) (a0_1 : ByteArray) (a1_0 : ByteArray) (a1_1 : ByteArray) (r1 : ByteArray) (r2 : ByteArray) (w : World) (h : r3_Sub.f k a0_0 a0_1 a1_0 a1_1 = some (r1, r2)) :
  Calls Tryz.prog 50 #[.agg #[.string a0_0, .string a0_1], .agg #[.string a1_0, .string a1_1]] w fun e w' => e = .returned (.agg #[.string r1, .string r2]) ∧ Below w.heap.size w w' := by
 have hu35 := Tryz.underlying35; have HB := Aside0.mk (Below.refl w.heap.size w); have H := h; unfold r3_Sub.f at H; clear h; obtain ⟨⟨t143, t144⟩, A3, H⟩ := bi_ H; (try dsimp only at H); obtain ⟨⟨t145, t146⟩, A4, H⟩ := bi_ H; (try dsimp only at H); simp only [Option.some.injEq, Prod.mk.injEq] at H; obtain ⟨rfl, rfl⟩ := H; go_enter Tryz.func50, Tryz.ntmps50
 try go_wp2_with (first | ((with_reducible refine gate_dst (N := 2) rfl ?_); refine be_ 2 #[.string a0_0, .string a0_1] 35 ?_; intro gb140 hg w5 hbox hb; have BK140 := Aside0.mk (hbox); have GW140 := ge_ HB hg; have GE140 := ge_ HB hg; replace HB := bs_ HB hb; clear hb hbox hg) | ((with_reducible refine gate_dst (N := 3) rfl ?_); refine be_ 3 #[.string a1_0, .string a1_1] 35 ?_; intro gb141 hg w6 hbox hb; have BK141 := Aside0.mk (hbox); have GW141 := ge_ HB hg; have GE141 := ge_ HB hg; have NB140_141 := nl_ BK140 hg; have NB141_140 := ng_ BK140 hg; replace BK140 := kb_ BK140 hb; replace HB := bs_ HB hb; clear hb hbox hg) | ((with_reducible refine gate_dst (N := 4) rfl ?_); refine be_ 4 #[.string (⟨#[]⟩ : ByteArray), .string (⟨#[]⟩ : ByteArray)] 35 ?_; intro gb142 hg w7 hbox hb; have BK142 := Aside0.mk (hbox); have GW142 := ge_ HB hg; have GE142 := ge_ HB hg; have NB140_142 := nl_ BK140 hg; have NB142_140 := ng_ BK140 hg; have NB141_142 := nl_ BK141 hg; have NB142_141 := ng_ BK141 hg; replace BK140 := kb_ BK140 hb; replace BK141 := kb_ BK141 hb; replace HB := bs_ HB hb; clear hb hbox hg))
 replace BK140 := Aside0.mk (blk_drew BK140.out); replace BK141 := Aside0.mk (blk_drew BK141.out); replace BK142 := Aside0.mk (blk_drew BK142.out); replace HB := Aside0.mk (below_drew1 HB.out); refine sa_ 5 (fun w' => w'.cell? ⟨gb140, 0, none⟩ = some (.string a0_0) ∧ w'.cell? ⟨gb140, 1, none⟩ = some (.string a0_1) ∧ w'.cell? ⟨gb141, 0, none⟩ = some (.string a1_0) ∧ w'.cell? ⟨gb141, 1, none⟩ = some (.string a1_1)) (fun hHeld => ?_); generalize w7.drew = w8 at BK140 BK141 BK142 HB hHeld ⊢; refine take_ (i := 0) (N := some 5) (v := ?_) (a' := ?_) #[true, false, false, false, false] rfl rfl (by kernel_rfl) (fun _ _ _ h => h) (Or.inl ⟨by rfl, ?_⟩) hHeld ?_ ?_; rotate_left
 ·rintro w' ⟨s0, s1, s2, s3⟩; go_simp; with_reducible rfl
 rotate_left
 ·exact ap_
 refine take_ (i := 1) (N := some 6) (v := ?_) (a' := ?_) #[true, true, false, false, false] rfl rfl (by kernel_rfl) (fun _ _ _ h => h) (Or.inl ⟨by rfl, ?_⟩) hHeld ?_ ?_; rotate_left
 ·rintro w' ⟨s0, s1, s2, s3⟩; go_simp; with_reducible rfl
 rotate_left
 ·exact ap_
 refine one_ (i := 2) (N := some 7) #[true, true, true, false, false] rfl rfl (by kernel_rfl) (by decide) (fun K hK => ?_); refine gs_ Tryz.func44 #[.agg #[.string a1_0, .string a1_1]] ?_; refine mo_ (r3_Neg.calls a1_0 a1_1 t143 t144 _ A3.out) ?_; intro w9 hb; replace BK140 := kb_ BK140 hb; replace BK141 := kb_ BK141 hb; replace BK142 := kb_ BK142 hb; replace HB := bs_ HB hb; (try clear hb); refine hk_ hK (fun hHeld => ?_); clear hK K; refine nm_ ?_; refine one_ (i := 3) (N := some 8) #[true, true, true, true, false] rfl rfl (by kernel_rfl) (by decide) (fun K hK => ?_); refine gs_ Tryz.func48 #[.agg #[.string a0_0, .string a0_1], .agg #[.string t143, .string t144]] ?_; refine mo_ (r3_Add.calls k a0_0 a0_1 t143 t144 t145 t146 _ A4.out) ?_; intro w10 hb; replace BK140 := kb_ BK140 hb; replace BK141 := kb_ BK141 hb; replace BK142 := kb_ BK142 hb; replace HB := bs_ HB hb; (try clear hb); refine hk_ hK (fun hHeld => ?_); clear hK K; refine nm_ ?_; refine one_ (i := 4) (N := none) #[true, true, true, true, true] rfl rfl (by kernel_rfl) (by decide) (fun K hK => ?_); have hs11 := bc_ BK142 0 rfl; have hfs11 := blk_frozen BK142.out 0; have hns11_0 := NB140_142.out; have hns11_1 := NB141_142.out; have hms11_0 := NB142_140.out; have hms11_1 := NB142_141.out; have hs12 := bc_ BK142 1 rfl; have hfs12 := blk_frozen BK142.out 1; have hns12_0 := NB140_142.out; have hns12_1 := NB141_142.out; have hms12_0 := NB142_140.out; have hms12_1 := NB142_141.out; refine skip_ (w1 := ?_) (by rfl) rfl ?_ ?_; rotate_left
 ·go_simp
  rfl
 refine hf_ hK hHeld (fun hHeld => ?_); clear hK K; refine done_ (by kernel_rfl) ?_
 try go_wp2
 refine bodyPost_ret (results_cell_row rfl _ _ gb142 35 #[.string t145, .string t146] (0, 0) _ rfl (rp_ BK142.out) Tryz.underlying35 rfl (by kernel_rfl)) rfl ?_; exact ⟨er_, b_ HB.out⟩
def r3_Cmp.f (k : Nat) (a0_0 : ByteArray) (a0_1 : ByteArray) (a1_0 : ByteArray) (a1_1 : ByteArray) : Option (Int) := (r3_Sub.f k a0_0 a0_1 a1_0 a1_1).bind fun bt149 => ((r3_Sign.f bt149.1 bt149.2).bind fun t151 => (some t151))
set_option maxHeartbeats 8000000 in
set_option maxRecDepth 100000 in
theorem r3_Cmp.calls (k : Nat) (a0_0 : ByteArray) (a0_1 : ByteArray) (a1_0 : ByteArray) (a1_1 : ByteArray) (r : Int) (w : World) (h : r3_Cmp.f k a0_0 a0_1 a1_0 a1_1 = some r) :
  Calls Tryz.prog 46 #[.agg #[.string a0_0, .string a0_1], .agg #[.string a1_0, .string a1_1]] w fun e w' => e = .returned (.int .i64 r) ∧ Below w.heap.size w w' := by
 have hu35 := Tryz.underlying35; have HB := Aside0.mk (Below.refl w.heap.size w); have H := h; unfold r3_Cmp.f at H; clear h; obtain ⟨⟨t149, t150⟩, A3, H⟩ := bi_ H; (try dsimp only at H); obtain ⟨t151, A4, H⟩ := bi_ H; obtain rfl := Option.some.inj H; go_enter Tryz.func46, Tryz.ntmps46
 go_wp2_with (first | ((with_reducible refine gate_dst (N := 2) rfl ?_); refine be_ 2 #[.string a0_0, .string a0_1] 35 ?_; intro gb147 hg w5 hbox hb; have BK147 := Aside0.mk (hbox); have GW147 := ge_ HB hg; have GE147 := ge_ HB hg; replace HB := bs_ HB hb; clear hb hbox hg) | ((with_reducible refine gate_dst (N := 3) rfl ?_); refine be_ 3 #[.string a1_0, .string a1_1] 35 ?_; intro gb148 hg w6 hbox hb; have BK148 := Aside0.mk (hbox); have GW148 := ge_ HB hg; have GE148 := ge_ HB hg; have NB147_148 := nl_ BK147 hg; have NB148_147 := ng_ BK147 hg; replace BK147 := kb_ BK147 hb; replace HB := bs_ HB hb; clear hb hbox hg; have hnb7 := NB147_148.out; have hnc7 := NB148_147.out; have hcz8_0 := bc_ BK147 0 rfl; have hcz8_1 := bc_ BK147 1 rfl; have hfz8_0 := blk_frozen BK147.out 0; have hfz8_1 := blk_frozen BK147.out 1; have hcz9_0 := bc_ BK148 0 rfl; have hcz9_1 := bc_ BK148 1 rfl; have hfz9_0 := blk_frozen BK148.out 0; have hfz9_1 := blk_frozen BK148.out 1) | (refine gl_ 7 Tryz.func50 #[.agg #[.string a0_0, .string a0_1], .agg #[.string a1_0, .string a1_1]] ?_; refine mo_ (r3_Sub.calls k a0_0 a0_1 a1_0 a1_1 t149 t150 _ A3.out) ?_; intro w10 hb; replace BK147 := kb_ BK147 hb; replace BK148 := kb_ BK148 hb; replace HB := bs_ HB hb; (try clear hb); (try clear hb2); (try clear hk); (try clear hi)) | (refine gl_ 8 Tryz.func42 #[.agg #[.string t149, .string t150]] ?_; refine mo_ (r3_Sign.calls t149 t150 t151 _ A4.out) ?_; intro w11 hb; replace BK147 := kb_ BK147 hb; replace BK148 := kb_ BK148 hb; replace HB := bs_ HB hb; (try clear hb); (try clear hb2); (try clear hk); (try clear hi)))
 go_ret
 exact ⟨er_, b_ HB.out⟩
end Go.Proofs.YtmkmldkfaehefaaGreatDoor.Pz
end

section
namespace Go.Proofs.YtmkmldkfaehefaaGreatDoor.Pz
def r3_Mul.j0 : Nat → Bool → ByteArray → ByteArray → ByteArray → ByteArray → Option (ByteArray × ByteArray)
 | 0, _, _, _, _, _ => none
 | k + 1, x14, x153000, x153001, x154000, x154001 => if x14 = true then (some ((⟨#[]⟩ : ByteArray), (⟨#[]⟩ : ByteArray))) else ((r2_Mul.f x153000 x154000).bind fun t157 => ((r1_Mul.f x153001 x154001).bind fun t158 => ((r3_Make.f k t157 t158).bind fun bt159 => (some (bt159.1, bt159.2.1)))))
def r3_Mul.f (k : Nat) (a0_0 : ByteArray) (a0_1 : ByteArray) (a1_0 : ByteArray) (a1_1 : ByteArray) : Option (ByteArray × ByteArray) := (r3_May.f a0_0 a0_1).bind fun t155 => (if t155 = true then ((r3_May.f a1_0 a1_1).bind fun t156 => (r3_Mul.j0 k (!t156) a0_0 a0_1 a1_0 a1_1)) else (r3_Mul.j0 k true a0_0 a0_1 a1_0 a1_1))
def r3_Mul.T3 : Bool × List (List Nat × List Nat) := (true, [([], []), ([0], [0]), ([], []), ([2], [2]), ([1, 3], [1, 3]), ([], []), ([5], [5]), ([], []), ([7], [7]), ([6, 8, 4], [6, 8]), ([4, 9, 9], [4, 9]), ([10], [10]), ([11], [11]), ([11], [11]), ([], []), ([14, 12, 10, 0, 1, 2, 3, 4, 5, 6, 7, 8, 9, 10, 11, 12, 14], [12, 14]), ([13, 15, 0, 1, 2, 3, 4, 5, 6, 7, 8, 9, 10, 11, 12, 13, 14, 15], [13])])
def r3_Mul.B3 : List Nat := [0, 1, 0, 4, 15, 0, 32, 0, 128, 511, 1023, 2047, 4095, 4095, 0, 24575, 65535]
theorem r3_Mul.tab3 : rtab .any (opsOf Tryz.f52 3) = r3_Mul.T3 := by kernel_rfl
theorem r3_Mul.bits3 : waitsOk r3_Mul.T3.2 r3_Mul.B3 = true := by kernel_rfl
set_option maxHeartbeats 8000000 in
set_option maxRecDepth 100000 in
theorem r3_Mul.calls (k : Nat) (a0_0 : ByteArray) (a0_1 : ByteArray) (a1_0 : ByteArray) (a1_1 : ByteArray) (r1 : ByteArray) (r2 : ByteArray) (w : World) (h : r3_Mul.f k a0_0 a0_1 a1_0 a1_1 = some (r1, r2)) :
  Calls Tryz.prog 52 #[.agg #[.string a0_0, .string a0_1], .agg #[.string a1_0, .string a1_1]] w fun e w' => e = .returned (.agg #[.string r1, .string r2]) ∧ Below w.heap.size w w' := by
 have hu35 := Tryz.underlying35; have HB := Aside0.mk (Below.refl w.heap.size w); have H := h; unfold r3_Mul.f at H; clear h; have HC3 := Aside0.mk H; clear H; go_enter Tryz.func52, Tryz.ntmps52
 go_upto_region 1 with (first | ((with_reducible refine gate_dst (N := 2) rfl ?_); refine be_ 2 #[.string a0_0, .string a0_1] 35 ?_; intro gb152 hg w4 hbox hb; have BK152 := Aside0.mk (hbox); have GW152 := ge_ HB hg; have GE152 := ge_ HB hg; replace HB := bs_ HB hb; clear hb hbox hg) | ((with_reducible refine gate_dst (N := 3) rfl ?_); refine be_ 3 #[.string a1_0, .string a1_1] 35 ?_; intro gb153 hg w5 hbox hb; have BK153 := Aside0.mk (hbox); have GW153 := ge_ HB hg; have GE153 := ge_ HB hg; have NB152_153 := nl_ BK152 hg; have NB153_152 := ng_ BK152 hg; replace BK152 := kb_ BK152 hb; replace HB := bs_ HB hb; clear hb hbox hg) | ((with_reducible refine gate_dst (N := 4) rfl ?_); refine be_ 4 #[.string (⟨#[]⟩ : ByteArray), .string (⟨#[]⟩ : ByteArray)] 35 ?_; intro gb154 hg w6 hbox hb; have BK154 := Aside0.mk (hbox); have GW154 := ge_ HB hg; have GE154 := ge_ HB hg; have NB152_154 := nl_ BK152 hg; have NB154_152 := ng_ BK152 hg; have NB153_154 := nl_ BK153 hg; have NB154_153 := ng_ BK153 hg; replace BK152 := kb_ BK152 hb; replace BK153 := kb_ BK153 hb; replace HB := bs_ HB hb; clear hb hbox hg))
 (try simp only [Act.put, List.setIfInBounds_toArray, List.set_cons_zero, List.set_cons_succ])
 go_cut [14] (fun v14 wc => ∃ (kq : Nat) (x14_2 : Bool), v14 = .bool x14_2 ∧ Aside0 (r3_Mul.j0 kq x14_2 a0_0 a0_1 a1_0 a1_1 = some (r1, r2)) ∧ Aside0 (kq ≤ k) ∧ Aside0 (wc.heap[gb152]? = some (.cells #[.string a0_0, .string a0_1] 35 (0, 0))) ∧ Aside0 (wc.heap[gb153]? = some (.cells #[.string a1_0, .string a1_1] 35 (0, 0))) ∧ Aside0 (wc.heap[gb154]? = some (.cells #[.string (⟨#[]⟩ : ByteArray), .string (⟨#[]⟩ : ByteArray)] 35 (0, 0))) ∧ Aside0 (Below w.heap.size w wc))
 case first =>
  have H := HC3.out; clear HC3; obtain ⟨t155, A7, H⟩ := bi_ H; by_cases c8 : t155 = true
  ·subst c8; rw [if_pos rfl] at H; obtain ⟨t156, A9, H⟩ := bi_ H; have H' := Aside0.mk H; clear H; have hnb10 := NB152_153.out; have hnc10 := NB153_152.out; have hnb11 := NB152_154.out; have hnc11 := NB154_152.out; have hcz12_0 := bc_ BK152 0 rfl; have hcz12_1 := bc_ BK152 1 rfl; have hfz12_0 := blk_frozen BK152.out 0; have hfz12_1 := blk_frozen BK152.out 1
   go_wp2_with (first | (refine gl_ 8 Tryz.func40 #[.agg #[.string a0_0, .string a0_1]] ?_; refine mo_ (r3_May.calls a0_0 a0_1 true _ A7.out) ?_; intro w13 hb; replace BK152 := kb_ BK152 hb; replace BK153 := kb_ BK153 hb; replace BK154 := kb_ BK154 hb; replace HB := bs_ HB hb; (try clear hb); (try clear hb2); (try clear hk); (try clear hi); have hnb14 := NB153_154.out; have hnc14 := NB154_153.out; have hcz15_0 := bc_ BK153 0 rfl; have hcz15_1 := bc_ BK153 1 rfl; have hfz15_0 := blk_frozen BK153.out 0; have hfz15_1 := blk_frozen BK153.out 1) | (go_at_call 40; (with_reducible refine (r3_May.calls a1_0 a1_1 t156 _ A9.out).mono ?_); rintro e w16 ⟨rfl, hb⟩; replace BK152 := kb_ BK152 hb; replace BK153 := kb_ BK153 hb; replace BK154 := kb_ BK154 hb; replace HB := bs_ HB hb; (try clear hb); (try clear hb2); (try clear hk); (try clear hi)))
   go_meet
   case rel => exact ⟨_, (!t156), rl_, H', ⟨by first | omega | exact Nat.le_refl _⟩, ⟨k_ BK152.out⟩, ⟨k_ BK153.out⟩, ⟨k_ BK154.out⟩, ⟨b_ HB.out⟩⟩
  ·replace c8 := Bool.eq_false_iff.mpr c8; subst c8; rw [if_neg nf_] at H; have H' := Aside0.mk H; clear H; have hnb17 := NB152_153.out; have hnc17 := NB153_152.out; have hnb18 := NB152_154.out; have hnc18 := NB154_152.out; have hcz19_0 := bc_ BK152 0 rfl; have hcz19_1 := bc_ BK152 1 rfl; have hfz19_0 := blk_frozen BK152.out 0; have hfz19_1 := blk_frozen BK152.out 1
   go_wp2_with (first | (refine gl_ 8 Tryz.func40 #[.agg #[.string a0_0, .string a0_1]] ?_; refine mo_ (r3_May.calls a0_0 a0_1 false _ A7.out) ?_; intro w20 hb; replace BK152 := kb_ BK152 hb; replace BK153 := kb_ BK153 hb; replace BK154 := kb_ BK154 hb; replace HB := bs_ HB hb; (try clear hb); (try clear hb2); (try clear hk); (try clear hi)))
   go_meet
   case rel => exact ⟨_, (true), rl_, H', ⟨by first | omega | exact Nat.le_refl _⟩, ⟨k_ BK152.out⟩, ⟨k_ BK153.out⟩, ⟨k_ BK154.out⟩, ⟨b_ HB.out⟩⟩
 case rest =>
  clear HC3; (try clear c1); (try clear p2); (try clear c4); (try clear c5); (try clear c8); (try clear c10); (try clear c11); (try clear c14); (try clear c17); (try clear c18); (try clear hcz12_0); (try clear hcz12_1); (try clear hcz15_0); (try clear hcz15_1); (try clear hcz19_0); (try clear hcz19_1); (try clear hfz12_0); (try clear hfz12_1); (try clear hfz15_0); (try clear hfz15_1); (try clear hfz19_0); (try clear hfz19_1); obtain ⟨kq, x14_2, rfl, HA, HJ2, BK152, BK153, BK154, HB⟩ := hcut
  cases kq with
  | zero => exact absurd HA.out (by simp [r3_Mul.j0])
  | succ kj2 =>
   have H := HA.out; clear HA; simp only [r3_Mul.j0] at H; by_cases c21 : x14_2 = true
   ·subst c21; rw [if_pos rfl] at H; simp only [Option.some.injEq, Prod.mk.injEq] at H; obtain ⟨rfl, rfl⟩ := H; have hnb22 := NB154_152.out; have hnc22 := NB152_154.out; have hnb23 := NB154_153.out; have hnc23 := NB153_154.out; have hcz24_0 := bc_ BK154 0 rfl; have hcz24_1 := bc_ BK154 1 rfl; have hfz24_0 := blk_frozen BK154.out 0; have hfz24_1 := blk_frozen BK154.out 1; go_wp2; refine bodyPost_ret (results_cell_row rfl _ _ gb154 35 #[.string (⟨#[]⟩ : ByteArray), .string (⟨#[]⟩ : ByteArray)] (0, 0) _ rfl (rp_ BK154.out) Tryz.underlying35 rfl (by kernel_rfl)) rfl ?_; exact ⟨er_, b_ HB.out⟩
   ·replace c21 := Bool.eq_false_iff.mpr c21; subst c21; rw [if_neg nf_] at H; obtain ⟨t157, A25, H⟩ := bi_ H; obtain ⟨t158, A26, H⟩ := bi_ H; obtain ⟨⟨t159, t160, t161⟩, A27, H⟩ := bi_ H; (try dsimp only at H); simp only [Option.some.injEq, Prod.mk.injEq] at H; obtain ⟨rfl, rfl⟩ := H
    try go_wp2
    replace BK152 := Aside0.mk (blk_drew BK152.out); replace BK153 := Aside0.mk (blk_drew BK153.out); replace BK154 := Aside0.mk (blk_drew BK154.out); replace HB := Aside0.mk (below_drew1 HB.out); refine sa_ 17 (fun w' => w'.cell? ⟨gb152, 0, none⟩ = some (.string a0_0) ∧ w'.cell? ⟨gb152, 1, none⟩ = some (.string a0_1) ∧ w'.cell? ⟨gb153, 0, none⟩ = some (.string a1_0) ∧ w'.cell? ⟨gb153, 1, none⟩ = some (.string a1_1)) (fun hHeld => ?_); refine with_tabW r3_Mul.tab3 r3_Mul.bits3 (fun HT_ HW_ => ?_); generalize wc.drew = w28 at BK152 BK153 BK154 HB hHeld ⊢; refine pu_ 0 17 rfl rfl HT_ ?_; refine pu_ 2 19 rfl rfl HT_ ?_; refine pu_ 5 22 rfl rfl HT_ ?_; refine pu_ 7 24 rfl rfl HT_ ?_; refine t4_ 1 18 rfl rfl HT_ HW_ hHeld ?_; refine t4_ 3 20 rfl rfl HT_ HW_ hHeld ?_; refine t4_ 6 23 rfl rfl HT_ HW_ hHeld ?_; refine t4_ 8 25 rfl rfl HT_ HW_ hHeld ?_; refine join_ (σ := Nat) 2 #[true, true, true, true, true, true, true, true, true, true, true, true, true, true, true, false, false] (fun s_ => [(21, .string t157), (26, .string t158), (27, .tuple #[.agg #[.string t159, .string t160], .bool t161]), (5, .pointer (some ⟨s_, 0, none⟩)), (16, .tuple #[.agg #[.string t159, .string t160], .bool t161]), (28, .agg #[.string t159, .string t160]), (29, .bool t161)]) (fun s_ w' => (w'.cell? ⟨gb152, 0, none⟩ = some (.string a0_0) ∧ w'.cell? ⟨gb152, 1, none⟩ = some (.string a0_1) ∧ w'.cell? ⟨gb153, 0, none⟩ = some (.string a1_0) ∧ w'.cell? ⟨gb153, 1, none⟩ = some (.string a1_1)) ∧ (w'.heap[gb152]? = some (.cells #[.string a0_0, .string a0_1] 35 (0, 0))) ∧ (w'.heap[gb153]? = some (.cells #[.string a1_0, .string a1_1] 35 (0, 0))) ∧ (w'.heap[gb154]? = some (.cells #[.string (⟨#[]⟩ : ByteArray), .string (⟨#[]⟩ : ByteArray)] 35 (0, 0))) ∧ (w'.heap[s_]? = some (.cells #[.string (⟨#[]⟩ : ByteArray), .string (⟨#[]⟩ : ByteArray)] 35 (0, 0))) ∧ (w.heap.size ≤ s_) ∧ (w.heap.size ≤ s_) ∧ (gb152 ≠ s_) ∧ (s_ ≠ gb152) ∧ (gb153 ≠ s_) ∧ (s_ ≠ gb153) ∧ (gb154 ≠ s_) ∧ (s_ ≠ gb154) ∧ (Below w.heap.size w w')) ?_ ?_; rotate_left
    ·intro hCont; refine two_ (i := 4) (j := 14) (Ni := some 21) (Nj := some 5) #[true, true, true, true, true, true, true, true, true, false, false, false, false, false, false, false, false] #[true, true, true, true, false, true, true, true, true, false, false, false, false, false, true, false, false] rfl rfl rfl rfl (two_of HT_.out (by kernel_rfl)) (by decide) (by decide) (fun K hK => ?_) (fun K hK => ?_)
     ·skip; refine gs_ Tryz.func30 #[.string a0_0, .string a1_0] ?_; refine mo_ (r2_Mul.calls a0_0 a1_0 t157 _ A25.out) ?_; intro w29 hb; replace BK152 := kb_ BK152 hb; replace BK153 := kb_ BK153 hb; replace BK154 := kb_ BK154 hb; replace HB := bs_ HB hb; (try clear hb); refine hk_ hK (fun hHeld => ?_); clear hK K; refine nm_ ?_; refine two_ (i := 9) (j := 14) (Ni := some 26) (Nj := some 5) #[true, true, true, true, true, true, true, true, true, true, false, false, false, false, false, false, false] #[true, true, true, true, true, true, true, true, true, false, false, false, false, false, true, false, false] rfl rfl rfl rfl (two_of HT_.out (by kernel_rfl)) (by decide) (by decide) (fun K hK => ?_) (fun K hK => ?_)
      ·skip; refine gs_ Tryz.func73 #[.string a0_1, .string a1_1] ?_; refine mo_ (r1_Mul.calls a0_1 a1_1 t158 _ A26.out) ?_; intro w30 hb; replace BK152 := kb_ BK152 hb; replace BK153 := kb_ BK153 hb; replace BK154 := kb_ BK154 hb; replace HB := bs_ HB hb; (try clear hb); refine hk_ hK (fun hHeld => ?_); clear hK K; refine nm_ ?_; refine two_ (i := 10) (j := 14) (Ni := some 27) (Nj := some 5) #[true, true, true, true, true, true, true, true, true, true, true, false, false, false, false, false, false] #[true, true, true, true, true, true, true, true, true, true, false, false, false, false, true, false, false] rfl rfl rfl rfl (two_of HT_.out (by kernel_rfl)) (by decide) (by decide) (fun K hK => ?_) (fun K hK => ?_)
       ·skip; refine gs_ Tryz.func34 #[.string t157, .string t158] ?_; refine mo_ (r3_Make.calls kj2 t157 t158 t159 t160 t161 _ A27.out) ?_; intro w31 hb; replace BK152 := kb_ BK152 hb; replace BK153 := kb_ BK153 hb; replace BK154 := kb_ BK154 hb; replace HB := bs_ HB hb; (try clear hb); refine hk_ hK (fun hHeld => ?_); clear hK K; refine nm_ ?_; refine pu_ 11 16 rfl rfl HT_ ?_; refine pu_ 12 28 rfl rfl HT_ ?_; refine pu_ 13 29 rfl rfl HT_ ?_; refine on_ 14 (some 5) rfl rfl HT_ (fun K hK => ?_); refine box_step ?hg (N := 5) ?hd (cs := #[.string (⟨#[]⟩ : ByteArray), .string (⟨#[]⟩ : ByteArray)]) (t := 35) ?hr ?_; (case hd => rfl); (case hg => rfl); (case hr => first | (go_simp; done) | (go_simp; rfl)); intro gb162 hg w32 hbox hb; have BK162 := Aside0.mk (hbox); have GW162 := ge_ HB hg; have GE162 := ge_ HB hg; have NB152_162 := nl_ BK152 hg; have NB162_152 := ng_ BK152 hg; have NB153_162 := nl_ BK153 hg; have NB162_153 := ng_ BK153 hg; have NB154_162 := nl_ BK154 hg; have NB162_154 := ng_ BK154 hg; replace BK152 := kb_ BK152 hb; replace BK153 := kb_ BK153 hb; replace BK154 := kb_ BK154 hb; replace HB := bs_ HB hb; clear hb hbox hg; refine hk_ hK (fun hHeld => ?_); clear hK K; refine nm_ ?_; exact norm_ pa_ (hCont (gb162) _ ⟨hHeld, (k_ BK152.out), (k_ BK153.out), (k_ BK154.out), (k_ BK162.out), GW162.out, GE162.out, NB152_162.out, NB162_152.out, NB153_162.out, NB162_153.out, NB154_162.out, NB162_154.out, (b_ HB.out)⟩)
       ·skip; refine box_step ?hg (N := 5) ?hd (cs := #[.string (⟨#[]⟩ : ByteArray), .string (⟨#[]⟩ : ByteArray)]) (t := 35) ?hr ?_; (case hd => rfl); (case hg => rfl); (case hr => first | (go_simp; done) | (go_simp; rfl)); intro gb162 hg w31 hbox hb; have BK162 := Aside0.mk (hbox); have GW162 := ge_ HB hg; have GE162 := ge_ HB hg; have NB152_162 := nl_ BK152 hg; have NB162_152 := ng_ BK152 hg; have NB153_162 := nl_ BK153 hg; have NB162_153 := ng_ BK153 hg; have NB154_162 := nl_ BK154 hg; have NB162_154 := ng_ BK154 hg; replace BK152 := kb_ BK152 hb; replace BK153 := kb_ BK153 hb; replace BK154 := kb_ BK154 hb; replace HB := bs_ HB hb; clear hb hbox hg; refine hk_ hK (fun hHeld => ?_); clear hK K; refine nm_ ?_; refine on_ 10 (some 27) rfl rfl HT_ (fun K hK => ?_); refine gs_ Tryz.func34 #[.string t157, .string t158] ?_; refine mo_ (r3_Make.calls kj2 t157 t158 t159 t160 t161 _ A27.out) ?_; intro w32 hb; replace BK152 := kb_ BK152 hb; replace BK153 := kb_ BK153 hb; replace BK154 := kb_ BK154 hb; replace BK162 := kb_ BK162 hb; replace HB := bs_ HB hb; (try clear hb); refine hk_ hK (fun hHeld => ?_); clear hK K; refine nm_ ?_; refine pu_ 11 16 rfl rfl HT_ ?_; refine pu_ 12 28 rfl rfl HT_ ?_; refine pu_ 13 29 rfl rfl HT_ ?_; exact norm_ pa_ (hCont (gb162) _ ⟨hHeld, (k_ BK152.out), (k_ BK153.out), (k_ BK154.out), (k_ BK162.out), GW162.out, GE162.out, NB152_162.out, NB162_152.out, NB153_162.out, NB162_153.out, NB154_162.out, NB162_154.out, (b_ HB.out)⟩)
      ·skip; refine box_step ?hg (N := 5) ?hd (cs := #[.string (⟨#[]⟩ : ByteArray), .string (⟨#[]⟩ : ByteArray)]) (t := 35) ?hr ?_; (case hd => rfl); (case hg => rfl); (case hr => first | (go_simp; done) | (go_simp; rfl)); intro gb162 hg w30 hbox hb; have BK162 := Aside0.mk (hbox); have GW162 := ge_ HB hg; have GE162 := ge_ HB hg; have NB152_162 := nl_ BK152 hg; have NB162_152 := ng_ BK152 hg; have NB153_162 := nl_ BK153 hg; have NB162_153 := ng_ BK153 hg; have NB154_162 := nl_ BK154 hg; have NB162_154 := ng_ BK154 hg; replace BK152 := kb_ BK152 hb; replace BK153 := kb_ BK153 hb; replace BK154 := kb_ BK154 hb; replace HB := bs_ HB hb; clear hb hbox hg; refine hk_ hK (fun hHeld => ?_); clear hK K; refine nm_ ?_; refine on_ 9 (some 26) rfl rfl HT_ (fun K hK => ?_); refine gs_ Tryz.func73 #[.string a0_1, .string a1_1] ?_; refine mo_ (r1_Mul.calls a0_1 a1_1 t158 _ A26.out) ?_; intro w31 hb; replace BK152 := kb_ BK152 hb; replace BK153 := kb_ BK153 hb; replace BK154 := kb_ BK154 hb; replace BK162 := kb_ BK162 hb; replace HB := bs_ HB hb; (try clear hb); refine hk_ hK (fun hHeld => ?_); clear hK K; refine nm_ ?_; refine on_ 10 (some 27) rfl rfl HT_ (fun K hK => ?_); refine gs_ Tryz.func34 #[.string t157, .string t158] ?_; refine mo_ (r3_Make.calls kj2 t157 t158 t159 t160 t161 _ A27.out) ?_; intro w32 hb; replace BK152 := kb_ BK152 hb; replace BK153 := kb_ BK153 hb; replace BK154 := kb_ BK154 hb; replace BK162 := kb_ BK162 hb; replace HB := bs_ HB hb; (try clear hb); refine hk_ hK (fun hHeld => ?_); clear hK K; refine nm_ ?_; refine pu_ 11 16 rfl rfl HT_ ?_; refine pu_ 12 28 rfl rfl HT_ ?_; refine pu_ 13 29 rfl rfl HT_ ?_; exact norm_ pa_ (hCont (gb162) _ ⟨hHeld, (k_ BK152.out), (k_ BK153.out), (k_ BK154.out), (k_ BK162.out), GW162.out, GE162.out, NB152_162.out, NB162_152.out, NB153_162.out, NB162_153.out, NB154_162.out, NB162_154.out, (b_ HB.out)⟩)
     ·skip; refine box_step ?hg (N := 5) ?hd (cs := #[.string (⟨#[]⟩ : ByteArray), .string (⟨#[]⟩ : ByteArray)]) (t := 35) ?hr ?_; (case hd => rfl); (case hg => rfl); (case hr => first | (go_simp; done) | (go_simp; rfl)); intro gb162 hg w29 hbox hb; have BK162 := Aside0.mk (hbox); have GW162 := ge_ HB hg; have GE162 := ge_ HB hg; have NB152_162 := nl_ BK152 hg; have NB162_152 := ng_ BK152 hg; have NB153_162 := nl_ BK153 hg; have NB162_153 := ng_ BK153 hg; have NB154_162 := nl_ BK154 hg; have NB162_154 := ng_ BK154 hg; replace BK152 := kb_ BK152 hb; replace BK153 := kb_ BK153 hb; replace BK154 := kb_ BK154 hb; replace HB := bs_ HB hb; clear hb hbox hg; refine hk_ hK (fun hHeld => ?_); clear hK K; refine nm_ ?_; refine on_ 4 (some 21) rfl rfl HT_ (fun K hK => ?_); refine gs_ Tryz.func30 #[.string a0_0, .string a1_0] ?_; refine mo_ (r2_Mul.calls a0_0 a1_0 t157 _ A25.out) ?_; intro w30 hb; replace BK152 := kb_ BK152 hb; replace BK153 := kb_ BK153 hb; replace BK154 := kb_ BK154 hb; replace BK162 := kb_ BK162 hb; replace HB := bs_ HB hb; (try clear hb); refine hk_ hK (fun hHeld => ?_); clear hK K; refine nm_ ?_; refine on_ 9 (some 26) rfl rfl HT_ (fun K hK => ?_); refine gs_ Tryz.func73 #[.string a0_1, .string a1_1] ?_; refine mo_ (r1_Mul.calls a0_1 a1_1 t158 _ A26.out) ?_; intro w31 hb; replace BK152 := kb_ BK152 hb; replace BK153 := kb_ BK153 hb; replace BK154 := kb_ BK154 hb; replace BK162 := kb_ BK162 hb; replace HB := bs_ HB hb; (try clear hb); refine hk_ hK (fun hHeld => ?_); clear hK K; refine nm_ ?_; refine on_ 10 (some 27) rfl rfl HT_ (fun K hK => ?_); refine gs_ Tryz.func34 #[.string t157, .string t158] ?_; refine mo_ (r3_Make.calls kj2 t157 t158 t159 t160 t161 _ A27.out) ?_; intro w32 hb; replace BK152 := kb_ BK152 hb; replace BK153 := kb_ BK153 hb; replace BK154 := kb_ BK154 hb; replace BK162 := kb_ BK162 hb; replace HB := bs_ HB hb; (try clear hb); refine hk_ hK (fun hHeld => ?_); clear hK K; refine nm_ ?_; refine pu_ 11 16 rfl rfl HT_ ?_; refine pu_ 12 28 rfl rfl HT_ ?_; refine pu_ 13 29 rfl rfl HT_ ?_; exact norm_ pa_ (hCont (gb162) _ ⟨hHeld, (k_ BK152.out), (k_ BK153.out), (k_ BK154.out), (k_ BK162.out), GW162.out, GE162.out, NB152_162.out, NB162_152.out, NB153_162.out, NB162_153.out, NB154_162.out, NB162_154.out, (b_ HB.out)⟩)
    rintro gb162 w33 ⟨hS_, h0_, h1_, h2_, h3_, h4_, h5_, h6_, h7_, h8_, h9_, h10_, h11_, h12_⟩; have n0_ : Aside0 (w33.heap[gb152]? = some (.cells #[.string a0_0, .string a0_1] 35 (0, 0))) := ⟨h0_⟩; have n1_ : Aside0 (w33.heap[gb153]? = some (.cells #[.string a1_0, .string a1_1] 35 (0, 0))) := ⟨h1_⟩; have n2_ : Aside0 (w33.heap[gb154]? = some (.cells #[.string (⟨#[]⟩ : ByteArray), .string (⟨#[]⟩ : ByteArray)] 35 (0, 0))) := ⟨h2_⟩; have n3_ : Aside0 (w33.heap[gb162]? = some (.cells #[.string (⟨#[]⟩ : ByteArray), .string (⟨#[]⟩ : ByteArray)] 35 (0, 0))) := ⟨h3_⟩; have n4_ : Aside0 (w.heap.size ≤ gb162) := ⟨h4_⟩; have n5_ : Aside0 (w.heap.size ≤ gb162) := ⟨h5_⟩; have n6_ : Aside0 (gb152 ≠ gb162) := ⟨h6_⟩; have n7_ : Aside0 (gb162 ≠ gb152) := ⟨h7_⟩; have n8_ : Aside0 (gb153 ≠ gb162) := ⟨h8_⟩; have n9_ : Aside0 (gb162 ≠ gb153) := ⟨h9_⟩; have n10_ : Aside0 (gb154 ≠ gb162) := ⟨h10_⟩; have n11_ : Aside0 (gb162 ≠ gb154) := ⟨h11_⟩; have n12_ : Aside0 (Below w.heap.size w w33) := ⟨h12_⟩; clear BK152; clear BK153; clear BK154; clear HB; clear h0_ h1_ h2_ h3_ h4_ h5_ h6_ h7_ h8_ h9_ h10_ h11_ h12_; have BK152 := n0_; have BK153 := n1_; have BK154 := n2_; have BK162 := n3_; have GW162 := n4_; have GE162 := n5_; have NB152_162 := n6_; have NB162_152 := n7_; have NB153_162 := n8_; have NB162_153 := n9_; have NB154_162 := n10_; have NB162_154 := n11_; have HB := n12_; clear n0_ n1_ n2_ n3_ n4_ n5_ n6_ n7_ n8_ n9_ n10_ n11_ n12_; have hHeld : w33.cell? ⟨gb152, 0, none⟩ = some (.string a0_0) ∧ w33.cell? ⟨gb152, 1, none⟩ = some (.string a0_1) ∧ w33.cell? ⟨gb153, 0, none⟩ = some (.string a1_0) ∧ w33.cell? ⟨gb153, 1, none⟩ = some (.string a1_1) := hS_; refine norm_ (a' := ?_) ?_ ?_; rotate_left
    ·simp only [putAll, Act.put, List.setIfInBounds_toArray, List.set_cons_zero, List.set_cons_succ]
     rfl
    refine on_ 15 none rfl rfl HT_ (fun K hK => ?_); have hs34 := bc_ BK162 0 rfl; have hfs34 := blk_frozen BK162.out 0; have hns34_0 := NB152_162.out; have hns34_1 := NB153_162.out; have hns34_2 := NB154_162.out; have hms34_0 := NB162_152.out; have hms34_1 := NB162_153.out; have hms34_2 := NB162_154.out; have hs35 := bc_ BK162 1 rfl; have hfs35 := blk_frozen BK162.out 1; have hns35_0 := NB152_162.out; have hns35_1 := NB153_162.out; have hns35_2 := NB154_162.out; have hms35_0 := NB162_152.out; have hms35_1 := NB162_153.out; have hms35_2 := NB162_154.out; refine skip_ (w1 := ?_) (by rfl) rfl ?_ ?_; rotate_left
    ·go_simp
     rfl
    refine hf_ hK hHeld (fun hHeld => ?_); clear hK K; refine pu_ 16 6 rfl rfl HT_ ?_; refine done_ (done_of HT_.out (by kernel_rfl)) ?_; have hnb36 := NB162_152.out; have hnc36 := NB152_162.out; have hnb37 := NB162_153.out; have hnc37 := NB153_162.out; have hnb38 := NB162_154.out; have hnc38 := NB154_162.out; have hcz39_0 := bc_ BK162 0 rfl; have hcz39_1 := bc_ BK162 1 rfl; have hfz39_0 := blk_frozen BK162.out 0; have hfz39_1 := blk_frozen BK162.out 1; have hnb40 := NB154_152.out; have hnc40 := NB152_154.out; have hnb41 := NB154_153.out; have hnc41 := NB153_154.out; have hcz42_0 := bc_ BK154 0 rfl; have hcz42_1 := bc_ BK154 1 rfl; have hfz42_0 := blk_frozen BK154.out 0; have hfz42_1 := blk_frozen BK154.out 1
    try go_wp2
    refine bodyPost_ret (results_cell_row rfl _ _ gb154 35 #[.string t159, .string t160] (0, 0) _ rfl (by refine k_ ?_; refine blk_put (cs := #[.string t159, .string (⟨#[]⟩ : ByteArray)]) ?_ 1 _ rfl; refine k_ ?_; refine blk_put (cs := #[.string (⟨#[]⟩ : ByteArray), .string (⟨#[]⟩ : ByteArray)]) ?_ 0 _ rfl; refine k_ ?_; refine blk_far ?_ NB154_162.out _; refine k_ ?_; refine blk_far ?_ NB154_162.out _; refine k_ ?_; exact BK154.out) Tryz.underlying35 rfl (by kernel_rfl)) rfl ?_; exact ⟨er_, b_ HB.out⟩
end Go.Proofs.YtmkmldkfaehefaaGreatDoor.Pz
end

section
namespace Go.Proofs.YtmkmldkfaehefaaGreatDoor.Pz
def r3_Div.j0 : Nat → Bool → ByteArray → ByteArray → ByteArray → ByteArray → Option (ByteArray × ByteArray × Bool)
 | 0, _, _, _, _, _ => none
 | k + 1, x13, x164000, x164001, x165000, x165001 => if x13 = true then (some ((⟨#[]⟩ : ByteArray), (⟨#[]⟩ : ByteArray), false)) else ((r2_Mul.f x164000 x165001).bind fun t168 => ((r2_Mul.f x164001 x165000).bind fun t169 => ((r3_Make.f k t168 t169).bind fun bt170 => (some (bt170.1, bt170.2.1, bt170.2.2)))))
def r3_Div.f (k : Nat) (a0_0 : ByteArray) (a0_1 : ByteArray) (a1_0 : ByteArray) (a1_1 : ByteArray) : Option (ByteArray × ByteArray × Bool) := (r3_May.f a0_0 a0_1).bind fun t166 => (if t166 = true then ((r3_May.f a1_0 a1_1).bind fun t167 => (r3_Div.j0 k (!t167) a0_0 a0_1 a1_0 a1_1)) else (r3_Div.j0 k true a0_0 a0_1 a1_0 a1_1))
def r3_Div.T3 : Bool × List (List Nat × List Nat) := (true, [([], []), ([0], [0]), ([], []), ([2], [2]), ([1, 3], [1, 3]), ([], []), ([5], [5]), ([], []), ([7], [7]), ([6, 8, 4], [6, 8]), ([4, 9, 9], [4, 9]), ([10], [10]), ([10], [10]), ([11, 10, 0, 1, 2, 3, 4, 5, 6, 7, 8, 9, 10, 11, 12], [11]), ([12, 13, 0, 1, 2, 3, 4, 5, 6, 7, 8, 9, 10, 11, 12, 13], [12])])
def r3_Div.B3 : List Nat := [0, 1, 0, 4, 15, 0, 32, 0, 128, 511, 1023, 2047, 2047, 8191, 16383]
theorem r3_Div.tab3 : rtab .any (opsOf Tryz.f36 3) = r3_Div.T3 := by kernel_rfl
theorem r3_Div.bits3 : waitsOk r3_Div.T3.2 r3_Div.B3 = true := by kernel_rfl
set_option maxHeartbeats 8000000 in
set_option maxRecDepth 100000 in
theorem r3_Div.calls (k : Nat) (a0_0 : ByteArray) (a0_1 : ByteArray) (a1_0 : ByteArray) (a1_1 : ByteArray) (r1 : ByteArray) (r2 : ByteArray) (r3 : Bool) (w : World) (h : r3_Div.f k a0_0 a0_1 a1_0 a1_1 = some (r1, r2, r3)) :
  Calls Tryz.prog 36 #[.agg #[.string a0_0, .string a0_1], .agg #[.string a1_0, .string a1_1]] w fun e w' => e = .returned (.tuple #[.agg #[.string r1, .string r2], .bool r3]) ∧ Below w.heap.size w w' := by
 have hu35 := Tryz.underlying35; have HB := Aside0.mk (Below.refl w.heap.size w); have H := h; unfold r3_Div.f at H; clear h; have HC3 := Aside0.mk H; clear H; go_enter Tryz.func36, Tryz.ntmps36
 go_upto_region 1 with (first | ((with_reducible refine gate_dst (N := 2) rfl ?_); refine be_ 2 #[.string a0_0, .string a0_1] 35 ?_; intro gb163 hg w4 hbox hb; have BK163 := Aside0.mk (hbox); have GW163 := ge_ HB hg; have GE163 := ge_ HB hg; replace HB := bs_ HB hb; clear hb hbox hg) | ((with_reducible refine gate_dst (N := 3) rfl ?_); refine be_ 3 #[.string a1_0, .string a1_1] 35 ?_; intro gb164 hg w5 hbox hb; have BK164 := Aside0.mk (hbox); have GW164 := ge_ HB hg; have GE164 := ge_ HB hg; have NB163_164 := nl_ BK163 hg; have NB164_163 := ng_ BK163 hg; replace BK163 := kb_ BK163 hb; replace HB := bs_ HB hb; clear hb hbox hg) | ((with_reducible refine gate_dst (N := 4) rfl ?_); refine be_ 4 #[.string (⟨#[]⟩ : ByteArray), .string (⟨#[]⟩ : ByteArray)] 35 ?_; intro gb165 hg w6 hbox hb; have BK165 := Aside0.mk (hbox); have GW165 := ge_ HB hg; have GE165 := ge_ HB hg; have NB163_165 := nl_ BK163 hg; have NB165_163 := ng_ BK163 hg; have NB164_165 := nl_ BK164 hg; have NB165_164 := ng_ BK164 hg; replace BK163 := kb_ BK163 hb; replace BK164 := kb_ BK164 hb; replace HB := bs_ HB hb; clear hb hbox hg))
 (try simp only [Act.put, List.setIfInBounds_toArray, List.set_cons_zero, List.set_cons_succ])
 go_cut [13] (fun v13 wc => ∃ (kq : Nat) (x13_2 : Bool), v13 = .bool x13_2 ∧ Aside0 (r3_Div.j0 kq x13_2 a0_0 a0_1 a1_0 a1_1 = some (r1, r2, r3)) ∧ Aside0 (kq ≤ k) ∧ Aside0 (wc.heap[gb163]? = some (.cells #[.string a0_0, .string a0_1] 35 (0, 0))) ∧ Aside0 (wc.heap[gb164]? = some (.cells #[.string a1_0, .string a1_1] 35 (0, 0))) ∧ Aside0 (wc.heap[gb165]? = some (.cells #[.string (⟨#[]⟩ : ByteArray), .string (⟨#[]⟩ : ByteArray)] 35 (0, 0))) ∧ Aside0 (Below w.heap.size w wc))
 case first =>
  have H := HC3.out; clear HC3; obtain ⟨t166, A7, H⟩ := bi_ H; by_cases c8 : t166 = true
  ·subst c8; rw [if_pos rfl] at H; obtain ⟨t167, A9, H⟩ := bi_ H; have H' := Aside0.mk H; clear H; have hnb10 := NB163_164.out; have hnc10 := NB164_163.out; have hnb11 := NB163_165.out; have hnc11 := NB165_163.out; have hcz12_0 := bc_ BK163 0 rfl; have hcz12_1 := bc_ BK163 1 rfl; have hfz12_0 := blk_frozen BK163.out 0; have hfz12_1 := blk_frozen BK163.out 1
   go_wp2_with (first | (refine gl_ 7 Tryz.func40 #[.agg #[.string a0_0, .string a0_1]] ?_; refine mo_ (r3_May.calls a0_0 a0_1 true _ A7.out) ?_; intro w13 hb; replace BK163 := kb_ BK163 hb; replace BK164 := kb_ BK164 hb; replace BK165 := kb_ BK165 hb; replace HB := bs_ HB hb; (try clear hb); (try clear hb2); (try clear hk); (try clear hi); have hnb14 := NB164_165.out; have hnc14 := NB165_164.out; have hcz15_0 := bc_ BK164 0 rfl; have hcz15_1 := bc_ BK164 1 rfl; have hfz15_0 := blk_frozen BK164.out 0; have hfz15_1 := blk_frozen BK164.out 1) | (go_at_call 40; (with_reducible refine (r3_May.calls a1_0 a1_1 t167 _ A9.out).mono ?_); rintro e w16 ⟨rfl, hb⟩; replace BK163 := kb_ BK163 hb; replace BK164 := kb_ BK164 hb; replace BK165 := kb_ BK165 hb; replace HB := bs_ HB hb; (try clear hb); (try clear hb2); (try clear hk); (try clear hi)))
   go_meet
   case rel => exact ⟨_, (!t167), rl_, H', ⟨by first | omega | exact Nat.le_refl _⟩, ⟨k_ BK163.out⟩, ⟨k_ BK164.out⟩, ⟨k_ BK165.out⟩, ⟨b_ HB.out⟩⟩
  ·replace c8 := Bool.eq_false_iff.mpr c8; subst c8; rw [if_neg nf_] at H; have H' := Aside0.mk H; clear H; have hnb17 := NB163_164.out; have hnc17 := NB164_163.out; have hnb18 := NB163_165.out; have hnc18 := NB165_163.out; have hcz19_0 := bc_ BK163 0 rfl; have hcz19_1 := bc_ BK163 1 rfl; have hfz19_0 := blk_frozen BK163.out 0; have hfz19_1 := blk_frozen BK163.out 1
   go_wp2_with (first | (refine gl_ 7 Tryz.func40 #[.agg #[.string a0_0, .string a0_1]] ?_; refine mo_ (r3_May.calls a0_0 a0_1 false _ A7.out) ?_; intro w20 hb; replace BK163 := kb_ BK163 hb; replace BK164 := kb_ BK164 hb; replace BK165 := kb_ BK165 hb; replace HB := bs_ HB hb; (try clear hb); (try clear hb2); (try clear hk); (try clear hi)))
   go_meet
   case rel => exact ⟨_, (true), rl_, H', ⟨by first | omega | exact Nat.le_refl _⟩, ⟨k_ BK163.out⟩, ⟨k_ BK164.out⟩, ⟨k_ BK165.out⟩, ⟨b_ HB.out⟩⟩
 case rest =>
  clear HC3; (try clear c1); (try clear p2); (try clear c3); (try clear c4); (try clear c8); (try clear c10); (try clear c11); (try clear c14); (try clear c17); (try clear c18); (try clear hcz12_0); (try clear hcz12_1); (try clear hcz15_0); (try clear hcz15_1); (try clear hcz19_0); (try clear hcz19_1); (try clear hfz12_0); (try clear hfz12_1); (try clear hfz15_0); (try clear hfz15_1); (try clear hfz19_0); (try clear hfz19_1); obtain ⟨kq, x13_2, rfl, HA, HJ2, BK163, BK164, BK165, HB⟩ := hcut
  cases kq with
  | zero => exact absurd HA.out (by simp [r3_Div.j0])
  | succ kj2 =>
   have H := HA.out; clear HA; simp only [r3_Div.j0] at H; by_cases c21 : x13_2 = true
   ·subst c21; rw [if_pos rfl] at H; simp only [Option.some.injEq, Prod.mk.injEq] at H; obtain ⟨rfl, rfl, rfl⟩ := H; have hnb22 := NB165_163.out; have hnc22 := NB163_165.out; have hnb23 := NB165_164.out; have hnc23 := NB164_165.out; have hcz24_0 := bc_ BK165 0 rfl; have hcz24_1 := bc_ BK165 1 rfl; have hfz24_0 := blk_frozen BK165.out 0; have hfz24_1 := blk_frozen BK165.out 1; go_wp2; refine bodyPost_ret (results_ct rfl _ _ gb165 35 #[.string (⟨#[]⟩ : ByteArray), .string (⟨#[]⟩ : ByteArray)] (0, 0) _ rfl (rp_ BK165.out) Tryz.underlying35 rfl (by kernel_rfl)) rfl ?_; exact ⟨er_, b_ HB.out⟩
   ·replace c21 := Bool.eq_false_iff.mpr c21; subst c21; rw [if_neg nf_] at H; obtain ⟨t168, A25, H⟩ := bi_ H; obtain ⟨t169, A26, H⟩ := bi_ H; obtain ⟨⟨t170, t171, t172⟩, A27, H⟩ := bi_ H; (try dsimp only at H); simp only [Option.some.injEq, Prod.mk.injEq] at H; obtain ⟨rfl, rfl, rfl⟩ := H
    try go_wp2
    replace BK163 := Aside0.mk (blk_drew BK163.out); replace BK164 := Aside0.mk (blk_drew BK164.out); replace BK165 := Aside0.mk (blk_drew BK165.out); replace HB := Aside0.mk (below_drew1 HB.out); refine sa_ 15 (fun w' => w'.cell? ⟨gb163, 0, none⟩ = some (.string a0_0) ∧ w'.cell? ⟨gb163, 1, none⟩ = some (.string a0_1) ∧ w'.cell? ⟨gb164, 0, none⟩ = some (.string a1_0) ∧ w'.cell? ⟨gb164, 1, none⟩ = some (.string a1_1)) (fun hHeld => ?_); refine with_tabW r3_Div.tab3 r3_Div.bits3 (fun HT_ HW_ => ?_); generalize wc.drew = w28 at BK163 BK164 BK165 HB hHeld ⊢; refine pu_ 0 15 rfl rfl HT_ ?_; refine pu_ 2 17 rfl rfl HT_ ?_; refine pu_ 5 20 rfl rfl HT_ ?_; refine pu_ 7 22 rfl rfl HT_ ?_; refine t4_ 1 16 rfl rfl HT_ HW_ hHeld ?_; refine t4_ 3 18 rfl rfl HT_ HW_ hHeld ?_; refine t4_ 6 21 rfl rfl HT_ HW_ hHeld ?_; refine t4_ 8 23 rfl rfl HT_ HW_ hHeld ?_; refine on_ 4 (some 19) rfl rfl HT_ (fun K hK => ?_); refine gs_ Tryz.func30 #[.string a0_0, .string a1_1] ?_; refine mo_ (r2_Mul.calls a0_0 a1_1 t168 _ A25.out) ?_; intro w29 hb; replace BK163 := kb_ BK163 hb; replace BK164 := kb_ BK164 hb; replace BK165 := kb_ BK165 hb; replace HB := bs_ HB hb; (try clear hb); refine hk_ hK (fun hHeld => ?_); clear hK K; refine nm_ ?_; refine on_ 9 (some 24) rfl rfl HT_ (fun K hK => ?_); refine gs_ Tryz.func30 #[.string a0_1, .string a1_0] ?_; refine mo_ (r2_Mul.calls a0_1 a1_0 t169 _ A26.out) ?_; intro w30 hb; replace BK163 := kb_ BK163 hb; replace BK164 := kb_ BK164 hb; replace BK165 := kb_ BK165 hb; replace HB := bs_ HB hb; (try clear hb); refine hk_ hK (fun hHeld => ?_); clear hK K; refine nm_ ?_; refine on_ 10 (some 25) rfl rfl HT_ (fun K hK => ?_); refine gs_ Tryz.func34 #[.string t168, .string t169] ?_; refine mo_ (r3_Make.calls kj2 t168 t169 t170 t171 t172 _ A27.out) ?_; intro w31 hb; replace BK163 := kb_ BK163 hb; replace BK164 := kb_ BK164 hb; replace BK165 := kb_ BK165 hb; replace HB := bs_ HB hb; (try clear hb); refine hk_ hK (fun hHeld => ?_); clear hK K; refine nm_ ?_; refine pu_ 11 26 rfl rfl HT_ ?_; refine pu_ 12 27 rfl rfl HT_ ?_; refine on_ 13 none rfl rfl HT_ (fun K hK => ?_); have hs32 := bc_ BK165 0 rfl; have hfs32 := blk_frozen BK165.out 0; have hns32_0 := NB163_165.out; have hns32_1 := NB164_165.out; have hms32_0 := NB165_163.out; have hms32_1 := NB165_164.out; have hs33 := bc_ BK165 1 rfl; have hfs33 := blk_frozen BK165.out 1; have hns33_0 := NB163_165.out; have hns33_1 := NB164_165.out; have hms33_0 := NB165_163.out; have hms33_1 := NB165_164.out; refine skip_ (w1 := ?_) (by rfl) rfl ?_ ?_; rotate_left
    ·go_simp
     rfl
    refine hf_ hK hHeld (fun hHeld => ?_); clear hK K; refine pu_ 14 5 rfl rfl HT_ ?_; refine done_ (done_of HT_.out (by kernel_rfl)) ?_
    try go_wp2
    refine bodyPost_ret (results_ct rfl _ _ gb165 35 #[.string t170, .string t171] (0, 0) _ rfl (rp_ BK165.out) Tryz.underlying35 rfl (by kernel_rfl)) rfl ?_; exact ⟨er_, b_ HB.out⟩
def r3_Split.f (k : Nat) (a0_0 : ByteArray) (a0_1 : ByteArray) : Option (ByteArray × ByteArray × ByteArray) := (r3_May.f a0_0 a0_1).bind fun t175 => (if t175 = true then ((r2_Div.f a0_0 a0_1).bind fun bt176 => ((r3_Make.f k bt176.2.1 a0_1).bind fun bt179 => (some (bt176.1, bt179.1, bt179.2.1)))) else (some ((⟨#[]⟩ : ByteArray), (⟨#[]⟩ : ByteArray), (⟨#[]⟩ : ByteArray))))
set_option maxHeartbeats 8000000 in
set_option maxRecDepth 100000 in
theorem r3_Split.calls (k : Nat) (a0_0 : ByteArray) (a0_1 : ByteArray) (r1 : ByteArray) (r2 : ByteArray) (r3 : ByteArray) (w : World) (h : r3_Split.f k a0_0 a0_1 = some (r1, r2, r3)) :
  Calls Tryz.prog 38 #[.agg #[.string a0_0, .string a0_1]] w fun e w' => e = .returned (.tuple #[.string r1, .agg #[.string r2, .string r3]]) ∧ Below w.heap.size w w' := by
 have hu35 := Tryz.underlying35; have HB := Aside0.mk (Below.refl w.heap.size w); have H := h; unfold r3_Split.f at H; clear h; obtain ⟨t175, A2, H⟩ := bi_ H; by_cases c3 : t175 = true
 ·subst c3; rw [if_pos rfl] at H; obtain ⟨⟨t176, t177, t178⟩, A4, H⟩ := bi_ H; (try dsimp only at H); obtain ⟨⟨t179, t180, t181⟩, A5, H⟩ := bi_ H; (try dsimp only at H); simp only [Option.some.injEq, Prod.mk.injEq] at H; obtain ⟨rfl, rfl, rfl⟩ := H; go_enter Tryz.func38, Tryz.ntmps38
  try go_wp2_with (first | ((with_reducible refine gate_dst (N := 1) rfl ?_); refine be_ 1 #[.string a0_0, .string a0_1] 35 ?_; intro gb173 hg w6 hbox hb; have BK173 := Aside0.mk (hbox); have GW173 := ge_ HB hg; have GE173 := ge_ HB hg; replace HB := bs_ HB hb; clear hb hbox hg) | ((with_reducible refine gate_dst (N := 3) rfl ?_); refine be_ 3 #[.string (⟨#[]⟩ : ByteArray), .string (⟨#[]⟩ : ByteArray)] 35 ?_; intro gb174 hg w7 hbox hb; have BK174 := Aside0.mk (hbox); have GW174 := ge_ HB hg; have GE174 := ge_ HB hg; have NB173_174 := nl_ BK173 hg; have NB174_173 := ng_ BK173 hg; replace BK173 := kb_ BK173 hb; replace HB := bs_ HB hb; clear hb hbox hg; have hnb8 := NB173_174.out; have hnc8 := NB174_173.out; have hcz9_0 := bc_ BK173 0 rfl; have hcz9_1 := bc_ BK173 1 rfl; have hfz9_0 := blk_frozen BK173.out 0; have hfz9_1 := blk_frozen BK173.out 1) | (refine gl_ 10 Tryz.func40 #[.agg #[.string a0_0, .string a0_1]] ?_; refine mo_ (r3_May.calls a0_0 a0_1 true _ A2.out) ?_; intro w10 hb; replace BK173 := kb_ BK173 hb; replace BK174 := kb_ BK174 hb; replace HB := bs_ HB hb; (try clear hb); (try clear hb2); (try clear hk); (try clear hi); have hcz11_0 := bc_ BK173 0 rfl; have hcz11_1 := bc_ BK173 1 rfl; have hfz11_0 := blk_frozen BK173.out 0; have hfz11_1 := blk_frozen BK173.out 1) | (refine gl_ 18 Tryz.func12 #[.string a0_0, .string a0_1] ?_; refine mo_ (r2_Div.calls a0_0 a0_1 t176 t177 t178 _ A4.out) ?_; intro w12 hb; replace BK173 := kb_ BK173 hb; replace BK174 := kb_ BK174 hb; replace HB := bs_ HB hb; (try clear hb); (try clear hb2); (try clear hk); (try clear hi); have hcz13_0 := bc_ BK173 0 rfl; have hcz13_1 := bc_ BK173 1 rfl; have hfz13_0 := blk_frozen BK173.out 0; have hfz13_1 := blk_frozen BK173.out 1) | (refine gl_ 26 Tryz.func34 #[.string t177, .string a0_1] ?_; refine mo_ (r3_Make.calls k t177 a0_1 t179 t180 t181 _ A5.out) ?_; intro w14 hb; replace BK173 := kb_ BK173 hb; replace BK174 := kb_ BK174 hb; replace HB := bs_ HB hb; (try clear hb); (try clear hb2); (try clear hk); (try clear hi)) | ((with_reducible refine gate_dst (N := 7) rfl ?_); refine be_ 7 #[.string (⟨#[]⟩ : ByteArray), .string (⟨#[]⟩ : ByteArray)] 35 ?_; intro gb182 hg w15 hbox hb; have BK182 := Aside0.mk (hbox); have GW182 := ge_ HB hg; have GE182 := ge_ HB hg; have NB173_182 := nl_ BK173 hg; have NB182_173 := ng_ BK173 hg; have NB174_182 := nl_ BK174 hg; have NB182_174 := ng_ BK174 hg; replace BK173 := kb_ BK173 hb; replace BK174 := kb_ BK174 hb; replace HB := bs_ HB hb; clear hb hbox hg; have hnb16 := NB182_173.out; have hnc16 := NB173_182.out; have hnb17 := NB182_174.out; have hnc17 := NB174_182.out; have hcz18_0 := bc_ BK182 0 rfl; have hcz18_1 := bc_ BK182 1 rfl; have hfz18_0 := blk_frozen BK182.out 0; have hfz18_1 := blk_frozen BK182.out 1))
  have n0_ : Aside0 (((w15.setCell ⟨gb182, 0, none⟩ (.string t179)).setCell ⟨gb182, 1, none⟩ (.string t180)).heap[gb173]? = some (.cells #[.string a0_0, .string a0_1] 35 (0, 0))) := ⟨fr_ BK173.out⟩; have n1_ : Aside0 (((w15.setCell ⟨gb182, 0, none⟩ (.string t179)).setCell ⟨gb182, 1, none⟩ (.string t180)).heap[gb174]? = some (.cells #[.string (⟨#[]⟩ : ByteArray), .string (⟨#[]⟩ : ByteArray)] 35 (0, 0))) := ⟨fr_ BK174.out⟩; have n2_ : Aside0 (((w15.setCell ⟨gb182, 0, none⟩ (.string t179)).setCell ⟨gb182, 1, none⟩ (.string t180)).heap[gb182]? = some (.cells #[.string t179, .string t180] 35 (0, 0))) := ⟨rp_ BK182.out⟩; have n3_ : Aside0 (Below w.heap.size w ((w15.setCell ⟨gb182, 0, none⟩ (.string t179)).setCell ⟨gb182, 1, none⟩ (.string t180))) := ⟨b_ HB.out⟩; (try clear BK173); (try clear BK174); (try clear BK182); (try clear HB); generalize ((w15.setCell ⟨gb182, 0, none⟩ (.string t179)).setCell ⟨gb182, 1, none⟩ (.string t180)) = w19 at n0_ n1_ n2_ n3_ ⊢; have BK173 := n0_; have BK174 := n1_; have BK182 := n2_; have HB := n3_; clear n0_ n1_ n2_ n3_; replace BK173 := Aside0.mk (blk_drew BK173.out); replace BK174 := Aside0.mk (blk_drew BK174.out); replace BK182 := Aside0.mk (blk_drew BK182.out); replace HB := Aside0.mk (below_drew1 HB.out); refine sa_ 4 (fun w' => w'.cell? ⟨gb182, 0, none⟩ = some (.string t179) ∧ w'.cell? ⟨gb182, 1, none⟩ = some (.string t180)) (fun hHeld => ?_); generalize w19.drew = w20 at BK173 BK174 BK182 HB hHeld ⊢; refine pure_ (i := 0) (N := some 29) (v := ?_) (a' := ?_) #[true, false, false, false] rfl rfl (by kernel_rfl) (fun _ _ _ h => h) (Or.inl ⟨by rfl, ?_⟩) ?_ ?_; rotate_left
  ·intro w'; go_simp; with_reducible rfl
  rotate_left
  ·exact ap_
  refine pure_ (i := 2) (N := some 2) (v := ?_) (a' := ?_) #[true, false, true, false] rfl rfl (by kernel_rfl) (fun _ _ _ h => h) (Or.inl ⟨by rfl, ?_⟩) ?_ ?_; rotate_left
  ·intro w'; go_simp; with_reducible rfl
  rotate_left
  ·exact ap_
  refine take_ (i := 1) (N := some 30) (v := ?_) (a' := ?_) #[true, true, true, false] rfl rfl (by kernel_rfl) (fun _ _ _ h => h) (Or.inl ⟨by rfl, ?_⟩) hHeld ?_ ?_; rotate_left
  ·rintro w' ⟨s0, s1⟩; go_simp; with_reducible rfl
  rotate_left
  ·exact ap_
  refine one_ (i := 3) (N := none) #[true, true, true, true] rfl rfl (by kernel_rfl) (by decide) (fun K hK => ?_); have hs21 := bc_ BK174 0 rfl; have hfs21 := blk_frozen BK174.out 0; have hns21_0 := NB173_174.out; have hns21_2 := NB182_174.out; have hms21_0 := NB174_173.out; have hms21_2 := NB174_182.out; have hs22 := bc_ BK174 1 rfl; have hfs22 := blk_frozen BK174.out 1; have hns22_0 := NB173_174.out; have hns22_2 := NB182_174.out; have hms22_0 := NB174_173.out; have hms22_2 := NB174_182.out; refine skip_ (w1 := ?_) (by rfl) rfl ?_ ?_; rotate_left
  ·go_simp
   rfl
  refine hf_ hK hHeld (fun hHeld => ?_); clear hK K; refine done_ (by kernel_rfl) ?_
  try go_wp2
  refine bodyPost_ret (results_tc rfl _ _ gb174 35 #[.string t179, .string t180] (0, 0) _ rfl (rp_ BK174.out) Tryz.underlying35 rfl (by kernel_rfl)) rfl ?_; exact ⟨er_, b_ HB.out⟩
 ·replace c3 := Bool.eq_false_iff.mpr c3; subst c3; rw [if_neg nf_] at H; simp only [Option.some.injEq, Prod.mk.injEq] at H; obtain ⟨rfl, rfl, rfl⟩ := H; go_enter Tryz.func38, Tryz.ntmps38
  go_wp2_with (first | ((with_reducible refine gate_dst (N := 1) rfl ?_); refine be_ 1 #[.string a0_0, .string a0_1] 35 ?_; intro gb173 hg w23 hbox hb; have BK173 := Aside0.mk (hbox); have GW173 := ge_ HB hg; have GE173 := ge_ HB hg; replace HB := bs_ HB hb; clear hb hbox hg) | ((with_reducible refine gate_dst (N := 3) rfl ?_); refine be_ 3 #[.string (⟨#[]⟩ : ByteArray), .string (⟨#[]⟩ : ByteArray)] 35 ?_; intro gb174 hg w24 hbox hb; have BK174 := Aside0.mk (hbox); have GW174 := ge_ HB hg; have GE174 := ge_ HB hg; have NB173_174 := nl_ BK173 hg; have NB174_173 := ng_ BK173 hg; replace BK173 := kb_ BK173 hb; replace HB := bs_ HB hb; clear hb hbox hg; have hnb25 := NB173_174.out; have hnc25 := NB174_173.out; have hcz26_0 := bc_ BK173 0 rfl; have hcz26_1 := bc_ BK173 1 rfl; have hfz26_0 := blk_frozen BK173.out 0; have hfz26_1 := blk_frozen BK173.out 1) | (refine gl_ 10 Tryz.func40 #[.agg #[.string a0_0, .string a0_1]] ?_; refine mo_ (r3_May.calls a0_0 a0_1 false _ A2.out) ?_; intro w27 hb; replace BK173 := kb_ BK173 hb; replace BK174 := kb_ BK174 hb; replace HB := bs_ HB hb; (try clear hb); (try clear hb2); (try clear hk); (try clear hi); have hcz28_0 := bc_ BK174 0 rfl; have hcz28_1 := bc_ BK174 1 rfl; have hfz28_0 := blk_frozen BK174.out 0; have hfz28_1 := blk_frozen BK174.out 1))
  refine bodyPost_ret (results_tc rfl _ _ gb174 35 #[.string (⟨#[]⟩ : ByteArray), .string (⟨#[]⟩ : ByteArray)] (0, 0) _ rfl (rp_ BK174.out) Tryz.underlying35 rfl (by kernel_rfl)) rfl ?_; exact ⟨er_, b_ HB.out⟩
def r3_Short.l0 : Nat → List (S35) → Int → Option (Bool)
 | 0, _, _ => none
 | k + 1, x0, x3 => if x3 < (x0.length : Int) then (if 0 ≤ x3 then (if (((rd_T35 x0 x3).f0).size : Int) > 100 then (some false) else (if (((rd_T35 x0 x3).f1).size : Int) > 100 then (some false) else (r3_Short.l0 k x0 (wrap64 (x3 + 1))))) else (none)) else (some true)
def r3_Short.f (k : Nat) (l0 : List (S35)) : Option (Bool) := r3_Short.l0 k l0 0
set_option maxHeartbeats 8000000 in
set_option maxRecDepth 100000 in
theorem r3_Short.calls (k : Nat) (A0 : Option Addr) (c0 : Nat) (l0 : List (S35)) (r : Bool) (w : World) (hr0 : Kd.C k35 w A0 l0.length l0) (hc0 : l0.length ≤ c0) (h : r3_Short.f k l0 = some r) :
  Calls Tryz.prog 31 #[.slice A0 l0.length c0] w fun e w' => e = .returned (.bool r) ∧ Drawn0 w w' := by
 have HR0 := Aside0.mk hr0; have HC0 := Aside0.mk hc0; clear hr0 hc0; have H := h; unfold r3_Short.f at H; clear h; have H' := Aside0.mk H; clear H; go_enter Tryz.func31, Tryz.ntmps31; go_wp2
 go_loopg [3] k (fun kq v3 w' => ∃ (x3_1 : Int), v3 = .int .i64 x3_1 ∧ Aside0 (r3_Short.l0 kq l0 x3_1 = some r) ∧ Aside0 (kq ≤ k) ∧ Drawn0 w w')
 case atStart => exact ⟨(0), rl_, H', ⟨Nat.le_refl _⟩, d0_⟩
 case round =>
  clear H'; obtain ⟨x3_1, rfl, HA, HK1, ⟨m1, rfl⟩⟩ := hrel
  cases gk with
  | zero => exact absurd HA.out (by simp [r3_Short.l0])
  | succ k1 =>
   have H := HA.out; clear HA; simp only [r3_Short.l0] at H; by_cases c2 : x3_1 < (l0.length : Int)
   ·rw [if_pos c2] at H; have c2b0 : decide (x3_1 < (l0.length : Int)) = true := decide_eq_true c2; clear c2; by_cases c3 : 0 ≤ x3_1
    ·rw [if_pos c3] at H; have c3b0 : decide (0 ≤ x3_1) = true := decide_eq_true c3; clear c3; by_cases c4 : (((rd_T35 l0 x3_1).f0).size : Int) > 100
     ·rw [if_pos c4] at H; have c4b0 : decide (100 < (((rd_T35 l0 x3_1).f0).size : Int)) = true := decide_eq_true c4; have c4b1 : decide (100 < ((rd_T35 l0 x3_1).f0).size) = true := decide_eq_true (by omega); clear c4; obtain rfl := Option.some.inj H; have p183 : 0 ≤ (x3_1 : Int) := of_decide_eq_true as_f; have q183 : x3_1 < (l0.length : Int) := of_decide_eq_true as_f; obtain ⟨ad183, e183, hx183_0, hx183_1⟩ := at_T35 HR0.out x3_1 p183 q183
      cases e183
      replace p183 := eq_true p183; replace q183 := eq_true q183; go_wp2
      go_ret
      exact ⟨by first | rfl | (simp; done) | (simp [*]; done), d0_⟩
     ·rw [if_neg c4] at H; have c4b0 : decide (100 < (((rd_T35 l0 x3_1).f0).size : Int)) = false := decide_eq_false c4; have c4b1 : decide (100 < ((rd_T35 l0 x3_1).f0).size) = false := decide_eq_false (by omega); clear c4; by_cases c5 : (((rd_T35 l0 x3_1).f1).size : Int) > 100
      ·rw [if_pos c5] at H; have c5b0 : decide (100 < (((rd_T35 l0 x3_1).f1).size : Int)) = true := decide_eq_true c5; have c5b1 : decide (100 < ((rd_T35 l0 x3_1).f1).size) = true := decide_eq_true (by omega); clear c5; obtain rfl := Option.some.inj H; have p183 : 0 ≤ (x3_1 : Int) := of_decide_eq_true as_f; have q183 : x3_1 < (l0.length : Int) := of_decide_eq_true as_f; obtain ⟨ad183, e183, hx183_0, hx183_1⟩ := at_T35 HR0.out x3_1 p183 q183
       cases e183
       replace p183 := eq_true p183; replace q183 := eq_true q183; have p184 : 0 ≤ (x3_1 : Int) := of_decide_eq_true as_f; have q184 : x3_1 < (l0.length : Int) := of_decide_eq_true as_f; obtain ⟨ad184, e184, hx184_0, hx184_1⟩ := at_T35 HR0.out x3_1 p184 q184; obtain rfl : ad183 = ad184 := (by injection e184); replace p184 := eq_true p184; replace q184 := eq_true q184; go_wp2
       go_ret
       exact ⟨by first | rfl | (simp; done) | (simp [*]; done), d0_⟩
      ·rw [if_neg c5] at H; have c5b0 : decide (100 < (((rd_T35 l0 x3_1).f1).size : Int)) = false := decide_eq_false c5; have c5b1 : decide (100 < ((rd_T35 l0 x3_1).f1).size) = false := decide_eq_false (by omega); clear c5; have H' := Aside0.mk H; clear H; have p183 : 0 ≤ (x3_1 : Int) := of_decide_eq_true as_f; have q183 : x3_1 < (l0.length : Int) := of_decide_eq_true as_f; obtain ⟨ad183, e183, hx183_0, hx183_1⟩ := at_T35 HR0.out x3_1 p183 q183
       cases e183
       replace p183 := eq_true p183; replace q183 := eq_true q183; have p184 : 0 ≤ (x3_1 : Int) := of_decide_eq_true as_f; have q184 : x3_1 < (l0.length : Int) := of_decide_eq_true as_f; obtain ⟨ad184, e184, hx184_0, hx184_1⟩ := at_T35 HR0.out x3_1 p184 q184; obtain rfl : ad183 = ad184 := (by injection e184); replace p184 := eq_true p184; replace q184 := eq_true q184; go_wp2
       go_roundg k1
       case measure => have := HK1.out; omega
       case rel => exact ⟨(wrap64 (x3_1 + 1)), rl_, H', ⟨by have := HK1.out; omega⟩, d0_⟩
    ·rw [if_neg c3] at H; exact absurd H (by simp)
   ·rw [if_neg c2] at H; have c2b0 : decide (x3_1 < (l0.length : Int)) = false := decide_eq_false c2; clear c2; obtain rfl := Option.some.inj H; go_wp2
    go_ret
    exact ⟨by first | rfl | (simp; done) | (simp [*]; done), d0_⟩
def r3_Good.l0 : Nat → List (S35) → Int → Option (Bool)
 | 0, _, _ => none
 | k + 1, x0, x3 => if x3 < (x0.length : Int) then (if 0 ≤ x3 then (if x3 ≤ (wrap64 (x3 + 1)) then (if (wrap64 (x3 + 1)) ≤ (x0.length : Int) then ((r3_Short.f k ((x0.take ((wrap64 (x3 + 1)) : Int).toNat).drop (x3 : Int).toNat)).bind fun t189 => (if t189 = true then ((r3_May.f ((rd_T35 x0 x3).f0) ((rd_T35 x0 x3).f1)).bind fun t191 => (if t191 = true then (r3_Good.l0 k x0 (wrap64 (x3 + 1))) else (some false))) else (some false))) else (none)) else (none)) else (none)) else (some true)
def r3_Good.f (k : Nat) (l0 : List (S35)) : Option (Bool) := r3_Good.l0 k l0 0
set_option maxHeartbeats 8000000 in
set_option maxRecDepth 100000 in
theorem r3_Good.calls (k : Nat) (A0 : Option Addr) (c0 : Nat) (l0 : List (S35)) (r : Bool) (w : World) (hr0 : Kd.C k35 w A0 l0.length l0) (hc0 : l0.length ≤ c0) (h : r3_Good.f k l0 = some r) :
  Calls Tryz.prog 53 #[.slice A0 l0.length c0] w fun e w' => e = .returned (.bool r) ∧ Below w.heap.size w w' := by
 have hu35 := Tryz.underlying35; have HR0 := Aside0.mk hr0; have HC0 := Aside0.mk hc0; clear hr0 hc0; have HB := Aside0.mk (Below.refl w.heap.size w); have H := h; unfold r3_Good.f at H; clear h; have H' := Aside0.mk H; clear H; go_enter Tryz.func53, Tryz.ntmps53; go_wp2
 go_loopg [3] k (fun kq v3 w' => ∃ (x3_1 : Int), v3 = .int .i64 x3_1 ∧ Aside0 (r3_Good.l0 kq l0 x3_1 = some r) ∧ Aside0 (kq ≤ k) ∧ Aside0 (Below w.heap.size w w'))
 case atStart => exact ⟨(0), rl_, H', ⟨Nat.le_refl _⟩, ⟨b_ HB.out⟩⟩
 case round =>
  clear H'; obtain ⟨x3_1, rfl, HA, HK1, HB⟩ := hrel
  cases gk with
  | zero => exact absurd HA.out (by simp [r3_Good.l0])
  | succ k1 =>
   have H := HA.out; clear HA; simp only [r3_Good.l0] at H; by_cases c2 : x3_1 < (l0.length : Int)
   ·rw [if_pos c2] at H; have c2b0 : decide (x3_1 < (l0.length : Int)) = true := decide_eq_true c2; clear c2; by_cases c3 : 0 ≤ x3_1
    ·rw [if_pos c3] at H; have c3b0 := eq_true c3; have c3b1 : decide (0 ≤ x3_1) = true := decide_eq_true c3; clear c3; by_cases c4 : x3_1 ≤ (wrap64 (x3_1 + 1))
     ·rw [if_pos c4] at H; have c4b0 := eq_true c4; have c4b1 : decide (x3_1 ≤ (wrap64 (x3_1 + 1))) = true := decide_eq_true c4
      have c4b1w : decide (x3_1 ≤ (IntKind.i64.wrap (x3_1 + 1))) = true := by simp only [i64_w]; exact c4b1
      by_cases c5 : (wrap64 (x3_1 + 1)) ≤ (l0.length : Int)
      ·rw [if_pos c5] at H; have c5b0 := eq_true c5; have c5b1 : decide ((wrap64 (x3_1 + 1)) ≤ (l0.length : Int)) = true := decide_eq_true c5
       have c5b1w : decide ((IntKind.i64.wrap (x3_1 + 1)) ≤ (l0.length : Int)) = true := by simp only [i64_w]; exact c5b1
       obtain ⟨y185, hy185⟩ : ∃ y_ : List (S35), y_ = ((l0.take ((wrap64 (x3_1 + 1)) : Int).toNat).drop (x3_1 : Int).toNat) := ⟨_, rfl⟩
       replace H : ((r3_Short.f k1 y185).bind fun t189 => (if t189 = true then ((r3_May.f ((rd_T35 l0 x3_1).f0) ((rd_T35 l0 x3_1).f1)).bind fun t191 => (if t191 = true then (r3_Good.l0 k1 l0 (wrap64 (x3_1 + 1))) else (some false))) else (some false))) = some r := by first | (rw [hy185]; with_reducible exact H) | (have H2_ := (Option.bind_some _ _).symm.trans H; rw [hy185]; with_reducible exact H2_) | (have H2_ := (Option.bind_some _ _).symm.trans H; with_reducible exact H2_) | with_reducible exact H | (rw [hy185]; exact H) | exact H
       have Ny185 := Aside0.mk hy185; clear hy185; obtain ⟨t189, A6, H⟩ := bi_ H; by_cases c7 : t189 = true
       ·subst c7; rw [if_pos rfl] at H; obtain ⟨t191, A8, H⟩ := bi_ H; by_cases c9 : t191 = true
        ·subst c9; rw [if_pos rfl] at H; have H' := Aside0.mk H; clear H; have q10 : ((wrap64 (x3_1 + 1)) : Int) ≤ ((l0.length : Int) : Int) := of_decide_eq_true as_f; obtain ⟨i010, hi010, _, hsz10, _⟩ := info_parts info35; have hroom10 : l0.length ≤ c0 := HC0.out; have hC10 : Kd.C k35 _ A0 l0.length l0 := HR0.out; have ql10 : (x3_1 : Int) ≤ ((wrap64 (x3_1 + 1)) : Int) := of_decide_eq_true as_f; have q010 : (0 : Int) ≤ (x3_1 : Int) := of_decide_eq_true as_f; have hcut10 := cut_mid (P := Tryz.prog) 38 35 .i64 .i64 Tryz.underlying38 hi010 2 hsz10 A0 l0.length c0 x3_1 (wrap64 (x3_1 + 1)) q010 ql10 q10 hroom10; have hr10 := Kd.C_mid (lo := (x3_1 : Int).toNat) (hi := ((wrap64 (x3_1 + 1)) : Int).toNat) (c := c0) hC10 (by omega) (by omega) hroom10; obtain ⟨A10, hA10⟩ : ∃ A1, A1 = (if c0 = (x3_1 : Int).toNat then A0 else (A0 : Option Addr).map (·.add ((x3_1 : Int).toNat * 2))) := ⟨_, rfl⟩; obtain ⟨c10, hc10⟩ : ∃ c1, c1 = c0 - (x3_1 : Int).toNat := ⟨_, rfl⟩; have hy10 : y185.length = ((wrap64 (x3_1 + 1)) : Int).toNat - (x3_1 : Int).toNat := (by rw [Ny185.out, List.length_drop, List.length_take] <;> omega); rw [show ((l0).take ((wrap64 (x3_1 + 1)) : Int).toNat).drop (x3_1 : Int).toNat = y185 from Ny185.out.symm] at hr10; replace hr10 : Kd.C k35 _ A10 y185.length y185 := (by rw [hA10]; exact hr10); rw [← hy10, ← hA10, ← hc10] at hcut10; have HR188 := Aside0.mk hr10; have HC188 := Aside0.mk (show y185.length ≤ c10 from by rw [hy10, hc10]; exact Nat.sub_le_sub_right (Nat.le_trans (by omega) hroom10) _); clear hr10 hC10 hroom10 hi010 hsz10 hc10; have KY10 := Aside0.mk hy10; have KA10 := Aside0.mk hA10; clear hy10 hA10; replace q10 := eq_true q10
         go_wp2_with (first | (refine gl_ 15 Tryz.func31 #[.slice A10 y185.length c10] ?_; refine mo_ (r3_Short.calls k1 _ _ y185 true _ (c_ (Kd.C_below HR188.out HB.out)) (HC188.out) A6.out) ?_; rintro w' ⟨nd, rfl⟩; have p190 : 0 ≤ (x3_1 : Int) := of_decide_eq_true as_f; have q190 : x3_1 < (l0.length : Int) := of_decide_eq_true as_f; obtain ⟨ad190, e190, hx190_0, hx190_1⟩ := at_T35 HR0.out x3_1 p190 q190; cases e190; replace hx190_0 := (HB.out.cell (World.block_lt_of_cell? w _ hx190_0)).trans hx190_0; replace hx190_1 := (HB.out.cell (World.block_lt_of_cell? w _ hx190_1)).trans hx190_1; replace p190 := eq_true p190; replace q190 := eq_true q190) | (go_at_call 40; (with_reducible refine (r3_May.calls ((rd_T35 l0 x3_1).f0) ((rd_T35 l0 x3_1).f1) true _ A8.out).mono ?_); rintro e w11 ⟨rfl, hb⟩; replace HB := bs_ HB hb; (try clear hb); (try clear hb2); (try clear hk); (try clear hi)))
         go_roundg k1
         case measure => have := HK1.out; omega
         case rel => exact ⟨(wrap64 (x3_1 + 1)), rl_, H', ⟨by have := HK1.out; omega⟩, ⟨b_ HB.out⟩⟩
        ·replace c9 := Bool.eq_false_iff.mpr c9; subst c9; rw [if_neg nf_] at H; obtain rfl := Option.some.inj H; have q12 : ((wrap64 (x3_1 + 1)) : Int) ≤ ((l0.length : Int) : Int) := of_decide_eq_true as_f; obtain ⟨i012, hi012, _, hsz12, _⟩ := info_parts info35; have hroom12 : l0.length ≤ c0 := HC0.out; have hC12 : Kd.C k35 _ A0 l0.length l0 := HR0.out; have ql12 : (x3_1 : Int) ≤ ((wrap64 (x3_1 + 1)) : Int) := of_decide_eq_true as_f; have q012 : (0 : Int) ≤ (x3_1 : Int) := of_decide_eq_true as_f; have hcut12 := cut_mid (P := Tryz.prog) 38 35 .i64 .i64 Tryz.underlying38 hi012 2 hsz12 A0 l0.length c0 x3_1 (wrap64 (x3_1 + 1)) q012 ql12 q12 hroom12; have hr12 := Kd.C_mid (lo := (x3_1 : Int).toNat) (hi := ((wrap64 (x3_1 + 1)) : Int).toNat) (c := c0) hC12 (by omega) (by omega) hroom12; obtain ⟨A12, hA12⟩ : ∃ A1, A1 = (if c0 = (x3_1 : Int).toNat then A0 else (A0 : Option Addr).map (·.add ((x3_1 : Int).toNat * 2))) := ⟨_, rfl⟩; obtain ⟨c12, hc12⟩ : ∃ c1, c1 = c0 - (x3_1 : Int).toNat := ⟨_, rfl⟩; have hy12 : y185.length = ((wrap64 (x3_1 + 1)) : Int).toNat - (x3_1 : Int).toNat := (by rw [Ny185.out, List.length_drop, List.length_take] <;> omega); rw [show ((l0).take ((wrap64 (x3_1 + 1)) : Int).toNat).drop (x3_1 : Int).toNat = y185 from Ny185.out.symm] at hr12; replace hr12 : Kd.C k35 _ A12 y185.length y185 := (by rw [hA12]; exact hr12); rw [← hy12, ← hA12, ← hc12] at hcut12; have HR188 := Aside0.mk hr12; have HC188 := Aside0.mk (show y185.length ≤ c12 from by rw [hy12, hc12]; exact Nat.sub_le_sub_right (Nat.le_trans (by omega) hroom12) _); clear hr12 hC12 hroom12 hi012 hsz12 hc12; have KY12 := Aside0.mk hy12; have KA12 := Aside0.mk hA12; clear hy12 hA12; replace q12 := eq_true q12
         go_wp2_with (first | (refine gl_ 15 Tryz.func31 #[.slice A12 y185.length c12] ?_; refine mo_ (r3_Short.calls k1 _ _ y185 true _ (c_ (Kd.C_below HR188.out HB.out)) (HC188.out) A6.out) ?_; rintro w' ⟨nd, rfl⟩; have p190 : 0 ≤ (x3_1 : Int) := of_decide_eq_true as_f; have q190 : x3_1 < (l0.length : Int) := of_decide_eq_true as_f; obtain ⟨ad190, e190, hx190_0, hx190_1⟩ := at_T35 HR0.out x3_1 p190 q190; cases e190; replace hx190_0 := (HB.out.cell (World.block_lt_of_cell? w _ hx190_0)).trans hx190_0; replace hx190_1 := (HB.out.cell (World.block_lt_of_cell? w _ hx190_1)).trans hx190_1; replace p190 := eq_true p190; replace q190 := eq_true q190) | (go_at_call 40; (with_reducible refine (r3_May.calls ((rd_T35 l0 x3_1).f0) ((rd_T35 l0 x3_1).f1) false _ A8.out).mono ?_); rintro e w13 ⟨rfl, hb⟩; replace HB := bs_ HB hb; (try clear hb); (try clear hb2); (try clear hk); (try clear hi)))
         go_ret
         exact ⟨er_, b_ HB.out⟩
       ·replace c7 := Bool.eq_false_iff.mpr c7; subst c7; rw [if_neg nf_] at H; obtain rfl := Option.some.inj H; have q14 : ((wrap64 (x3_1 + 1)) : Int) ≤ ((l0.length : Int) : Int) := of_decide_eq_true as_f; obtain ⟨i014, hi014, _, hsz14, _⟩ := info_parts info35; have hroom14 : l0.length ≤ c0 := HC0.out; have hC14 : Kd.C k35 _ A0 l0.length l0 := HR0.out; have ql14 : (x3_1 : Int) ≤ ((wrap64 (x3_1 + 1)) : Int) := of_decide_eq_true as_f; have q014 : (0 : Int) ≤ (x3_1 : Int) := of_decide_eq_true as_f; have hcut14 := cut_mid (P := Tryz.prog) 38 35 .i64 .i64 Tryz.underlying38 hi014 2 hsz14 A0 l0.length c0 x3_1 (wrap64 (x3_1 + 1)) q014 ql14 q14 hroom14; have hr14 := Kd.C_mid (lo := (x3_1 : Int).toNat) (hi := ((wrap64 (x3_1 + 1)) : Int).toNat) (c := c0) hC14 (by omega) (by omega) hroom14; obtain ⟨A14, hA14⟩ : ∃ A1, A1 = (if c0 = (x3_1 : Int).toNat then A0 else (A0 : Option Addr).map (·.add ((x3_1 : Int).toNat * 2))) := ⟨_, rfl⟩; obtain ⟨c14, hc14⟩ : ∃ c1, c1 = c0 - (x3_1 : Int).toNat := ⟨_, rfl⟩; have hy14 : y185.length = ((wrap64 (x3_1 + 1)) : Int).toNat - (x3_1 : Int).toNat := (by rw [Ny185.out, List.length_drop, List.length_take] <;> omega); rw [show ((l0).take ((wrap64 (x3_1 + 1)) : Int).toNat).drop (x3_1 : Int).toNat = y185 from Ny185.out.symm] at hr14; replace hr14 : Kd.C k35 _ A14 y185.length y185 := (by rw [hA14]; exact hr14); rw [← hy14, ← hA14, ← hc14] at hcut14; have HR188 := Aside0.mk hr14; have HC188 := Aside0.mk (show y185.length ≤ c14 from by rw [hy14, hc14]; exact Nat.sub_le_sub_right (Nat.le_trans (by omega) hroom14) _); clear hr14 hC14 hroom14 hi014 hsz14 hc14; have KY14 := Aside0.mk hy14; have KA14 := Aside0.mk hA14; clear hy14 hA14; replace q14 := eq_true q14
        go_wp2_with (first | (refine gl_ 15 Tryz.func31 #[.slice A14 y185.length c14] ?_; refine mo_ (r3_Short.calls k1 _ _ y185 false _ (c_ (Kd.C_below HR188.out HB.out)) (HC188.out) A6.out) ?_; rintro w' ⟨nd, rfl⟩))
        go_ret
        exact ⟨er_, b_ HB.out⟩
      ·rw [if_neg c5] at H; exact absurd H (by simp)
     ·rw [if_neg c4] at H; exact absurd H (by simp)
    ·rw [if_neg c3] at H; exact absurd H (by simp)
   ·rw [if_neg c2] at H; have c2b0 : decide (x3_1 < (l0.length : Int)) = false := decide_eq_false c2; clear c2; obtain rfl := Option.some.inj H; go_wp2
    go_ret
    exact ⟨er_, b_ HB.out⟩
end Go.Proofs.YtmkmldkfaehefaaGreatDoor.Pz
end

section
namespace Go.Proofs.YtmkmldkfaehefaaGreatDoor.Pz
def r3_One.f (k : Nat) (a0 : Int) (a1 : Int) : Option (ByteArray × ByteArray) := (r2_Of.f a0).bind fun t193 => ((r2_Of.f a1).bind fun t194 => ((r3_Make.f k t193 t194).bind fun bt195 => (some (bt195.1, bt195.2.1))))
set_option maxHeartbeats 8000000 in
set_option maxRecDepth 100000 in
theorem r3_One.calls (k : Nat) (a0 : Int) (a1 : Int) (r1 : ByteArray) (r2 : ByteArray) (w : World) (h : r3_One.f k a0 a1 = some (r1, r2)) :
  Calls Tryz.prog 74 #[.int .i64 a0, .int .i64 a1] w fun e w' => e = .returned (.agg #[.string r1, .string r2]) ∧ Below w.heap.size w w' := by
 have hu35 := Tryz.underlying35; have HB := Aside0.mk (Below.refl w.heap.size w); have H := h; unfold r3_One.f at H; clear h; obtain ⟨t193, A3, H⟩ := bi_ H; obtain ⟨t194, A4, H⟩ := bi_ H; obtain ⟨⟨t195, t196, t197⟩, A5, H⟩ := bi_ H; (try dsimp only at H); simp only [Option.some.injEq, Prod.mk.injEq] at H; obtain ⟨rfl, rfl⟩ := H; go_enter Tryz.func74, Tryz.ntmps74
 go_wp2_with (first | ((with_reducible refine gate_dst (N := 4) rfl ?_); refine be_ 4 #[.string (⟨#[]⟩ : ByteArray), .string (⟨#[]⟩ : ByteArray)] 35 ?_; intro gb192 hg w6 hbox hb; have BK192 := Aside0.mk (hbox); have GW192 := ge_ HB hg; have GE192 := ge_ HB hg; replace HB := bs_ HB hb; clear hb hbox hg) | (refine gl_ 9 Tryz.func16 #[.int .i64 a0] ?_; refine mo_ (r2_Of.calls a0 t193 _ A3.out) ?_; intro w7 hb; replace BK192 := kb_ BK192 hb; replace HB := bs_ HB hb; (try clear hb); (try clear hb2); (try clear hk); (try clear hi)) | (refine gl_ 11 Tryz.func16 #[.int .i64 a1] ?_; refine mo_ (r2_Of.calls a1 t194 _ A4.out) ?_; intro w8 hb; replace BK192 := kb_ BK192 hb; replace HB := bs_ HB hb; (try clear hb); (try clear hb2); (try clear hk); (try clear hi)) | (refine gl_ 12 Tryz.func34 #[.string t193, .string t194] ?_; refine mo_ (r3_Make.calls k t193 t194 t195 t196 t197 _ A5.out) ?_; intro w9 hb; replace BK192 := kb_ BK192 hb; replace HB := bs_ HB hb; (try clear hb); (try clear hb2); (try clear hk); (try clear hi)) | ((with_reducible refine gate_dst (N := 5) rfl ?_); refine be_ 5 #[.string (⟨#[]⟩ : ByteArray), .string (⟨#[]⟩ : ByteArray)] 35 ?_; intro gb198 hg w10 hbox hb; have BK198 := Aside0.mk (hbox); have GW198 := ge_ HB hg; have GE198 := ge_ HB hg; have NB192_198 := nl_ BK192 hg; have NB198_192 := ng_ BK192 hg; replace BK192 := kb_ BK192 hb; replace HB := bs_ HB hb; clear hb hbox hg; have hnb11 := NB198_192.out; have hnc11 := NB192_198.out; have hcz12_0 := bc_ BK198 0 rfl; have hcz12_1 := bc_ BK198 1 rfl; have hfz12_0 := blk_frozen BK198.out 0; have hfz12_1 := blk_frozen BK198.out 1; have hcz13_0 := bc_ BK192 0 rfl; have hcz13_1 := bc_ BK192 1 rfl; have hfz13_0 := blk_frozen BK192.out 0; have hfz13_1 := blk_frozen BK192.out 1))
 refine bodyPost_ret (results_cell_row rfl _ _ gb192 35 #[.string t195, .string t196] (0, 0) _ rfl (by refine k_ ?_; refine blk_put (cs := #[.string t195, .string (⟨#[]⟩ : ByteArray)]) ?_ 1 _ rfl; refine k_ ?_; refine blk_put (cs := #[.string (⟨#[]⟩ : ByteArray), .string (⟨#[]⟩ : ByteArray)]) ?_ 0 _ rfl; refine k_ ?_; refine blk_far ?_ NB192_198.out _; refine k_ ?_; refine blk_far ?_ NB192_198.out _; refine k_ ?_; exact BK192.out) Tryz.underlying35 rfl (by kernel_rfl)) rfl ?_; exact ⟨er_, b_ HB.out⟩
end Go.Proofs.YtmkmldkfaehefaaGreatDoor.Pz
end

section
namespace Go.Proofs.YtmkmldkfaehefaaGreatDoor.Pz
end Go.Proofs.YtmkmldkfaehefaaGreatDoor.Pz
end

section
namespace Go.Proofs.YtmkmldkfaehefaaGreatDoor
theorem smr_int {x : Int} (h : szI x ≤ 20000) : smr (intB x) = true := decide_eq_true h
theorem smr2_int {x y : Int} (hx : szI x ≤ 20000) (hy : szI y ≤ 20000) : smr2 (intB x) (intB y) = true := by
 unfold smr2
 rw [smr_int hx, smr_int hy]
 rfl
theorem qAbs {x : Int} (hx : szI x ≤ 20000) : r2_Abs.f (intB x) = some (natB x.natAbs) := by
 unfold r2_Abs.f wabsS
 rw [if_pos (smr_int hx), if_pos (mayW_int x), numW_int]
theorem qNeg {x : Int} (hx : szI x ≤ 20000) : r2_Neg.f (intB x) = some (intB (-x)) := by
 unfold r2_Neg.f wnegS
 rw [if_pos (smr_int hx), if_pos (mayW_int x), numW_int]
theorem qSign {x : Int} (hx : szI x ≤ 20000) : r2_Sign.f (intB x) = some (Lib.compareInt x 0) := by
 unfold r2_Sign.f wsignS
 rw [if_pos (smr_int hx), if_pos (mayW_int x), numW_int]
theorem qAdd {x y : Int} (hx : szI x ≤ 20000) (hy : szI y ≤ 20000) : r2_Add.f (intB x) (intB y) = some (intB (x + y)) := by
 unfold r2_Add.f waddS
 rw [if_pos (smr2_int hx hy), if_pos (may2W_int' x y), numW_int, numW_int]
theorem qMul {x y : Int} (hx : szI x ≤ 20000) (hy : szI y ≤ 20000) : r2_Mul.f (intB x) (intB y) = some (intB (x * y)) := by
 unfold r2_Mul.f wmulS
 rw [if_pos (smr2_int hx hy), if_pos (may2W_int' x y), numW_int, numW_int]
theorem qMulN {x : Int} {n : Nat} (hx : szI x ≤ 20000) (hn : sz n ≤ 20000) : r2_Mul.f (intB x) (natB n) = some (intB (x * (n : Int))) := by
 rw [← intB_nat]
 exact qMul hx (by rw [szI_nat]; exact hn)
theorem qNMul {x : Int} {n : Nat} (hx : szI x ≤ 20000) (hn : sz n ≤ 20000) : r2_Mul.f (natB n) (intB x) = some (intB ((n : Int) * x)) := by
 rw [← intB_nat]
 exact qMul (by rw [szI_nat]; exact hn) hx
theorem qDiv {x y : Int} (hx : szI x ≤ 20000) (hy : szI y ≤ 20000) (h : y ≠ 0) : r2_Div.f (intB x) (intB y) = some (intB (x / y), intB (x % y), true) := by
 unfold r2_Div.f wdivS
 rw [if_pos (smr2_int hx hy), may2W_int', Bool.true_and, numW_int, numW_int, if_pos (decide_eq_true h)]
theorem rGcd {m n : Nat} (hm : sz m ≤ 50000) (hn : sz n ≤ 50000) : r1_Gcd.f (natB m) (natB n) = some (natB (Nat.gcd m n)) := by
 unfold r1_Gcd.f gcdS
 rw [if_pos (sm2_natB hm hn), if_pos (may2_natB m n), numB_natB, numB_natB]
theorem natB_beq_one' (m : Nat) : ((natB m).toList == ([49] : List UInt8)) = (m == 1) := by
 rw [Bool.eq_iff_iff, beq_iff_eq, beq_iff_eq, natB_toList_one]
theorem r3may_f {a b : ByteArray} (ha : a.size ≤ 20000) (hb : b.size ≤ 20000) : Pz.r3_May.f a b = some (mayR (a, b)) := by
 unfold Pz.r3_May.f mayR
 rw [rMay2 (by omega), Option.bind_some]
 by_cases h1 : mayW a = true
 ·rw [if_pos h1, rMay (by omega), Option.bind_some]
  by_cases h2 : mayB b = true
  ·obtain ⟨z, rfl⟩ := of_mayW h1
   obtain ⟨n, rfl, e2⟩ := of_may h2
   have s1 : szI z ≤ 20000 := ha
   have s2 : sz n ≤ 20000 := hb
   have s3 := le_szI z
   rw [if_pos h2, h1, h2, numW_int, numB_natB]
   by_cases h3 : n = 0
   ·rw [if_pos (natB_toList_zero.2 h3), h3]
    rfl
   ·rw [if_neg (fun e => h3 (natB_toList_zero.1 e)), qAbs (by omega), Option.bind_some, rGcd (by omega) (by omega), Option.bind_some, natB_beq_one', decide_eq_true h3]
    rfl
  ·rw [if_neg h2, h1, (Bool.not_eq_true _).mp h2]
   rfl
 ·rw [if_neg h1, (Bool.not_eq_true _).mp h1]
  rfl
theorem gcd_le_l' {x y : Int} (hy : y ≠ 0) : sz (Nat.gcd x.natAbs y.natAbs) ≤ szI y := by
 have h := sz_mono (Nat.gcd_le_right x.natAbs (show 0 < y.natAbs by omega))
 have := le_szI y
 omega
theorem mk_core {x y : Int} (hy : 0 < y) (hx : szI x ≤ 20000) (hs : szI y ≤ 20000) (k : Nat) : Pz.r3_Make.j1 (k + 1) (intB x) (intB y) = some ((rT (Rat.divInt x y)).1, (rT (Rat.divInt x y)).2, true) := by
 have s3 := le_szI x
 have s4 := le_szI y
 have s5 := gcd_le_l' (x := x) (show y ≠ 0 by omega)
 have hg : ((Nat.gcd x.natAbs y.natAbs : Nat) : Int) ≠ 0 := by
  have := Nat.gcd_pos_of_pos_right x.natAbs (show 0 < y.natAbs by omega)
  omega
 have h1 := red_num (x := x) (y := y) (by omega)
 have h2 := red_den (x := x) (y := y) (by omega)
 rw [if_neg (by omega)] at h1
 have e : intB y = natB y.natAbs := by rw [intB_nonneg (by omega)]; congr 1; omega
 have e' : (y.natAbs : Int) = y := by omega
 simp only [Pz.r3_Make.j1]
 rw [qAbs (by omega), Option.bind_some, e, rGcd (by omega) (by omega), Option.bind_some, ← e, ← intB_nat, qDiv (by omega) (by rw [szI_nat]; omega) hg, Option.bind_some, qDiv (by omega) (by rw [szI_nat]; omega) hg, Option.bind_some]
 rw [e'] at h2
 show some (intB _, intB _, true) = some (intB _, natB _, true)
 rw [h1, h2, intB_nat]
theorem mk_f {x y : Int} (hx : szI x ≤ 19000) (hs : szI y ≤ 19000) (k : Nat) : Pz.r3_Make.f (k + 2) (intB x) (intB y) = some (if y = 0 then (noB, noB, false) else ((rT (Rat.divInt x y)).1, (rT (Rat.divInt x y)).2, true)) := by
 unfold Pz.r3_Make.f
 rw [rMay2 (show szI x ≤ 50000 by omega), Option.bind_some, if_pos (mayW_int x), rMay2 (show szI y ≤ 50000 by omega), Option.bind_some, if_pos (mayW_int y), intB_beq_zero]
 show Pz.r3_Make.j0 (k + 1 + 1) _ _ _ = _
 simp only [Pz.r3_Make.j0]
 by_cases h0 : y = 0
 ·rw [if_pos (decide_eq_true h0), if_pos h0]
  rfl
 ·rw [if_neg (by rw [decide_eq_true_eq]; exact h0), if_neg h0, qSign (by omega), Option.bind_some]
  by_cases h : y < 0
  ·have n1 := szI_neg x
   have n2 := szI_neg y
   rw [if_pos (by rw [cmp_lt' h]; decide), qNeg (by omega), Option.bind_some, qNeg (by omega), Option.bind_some, mk_core (by omega) (by omega) (by omega), Rat.neg_divInt_neg]
  ·rw [if_neg (by rw [cmp_gt' (by omega)]; decide), mk_core (by omega) (by omega) (by omega)]
theorem mk_nf {x : Int} {n : Nat} (hy : n ≠ 0) (hx : szI x ≤ 19000) (hs : sz n ≤ 19000) (k : Nat) : Pz.r3_Make.f (k + 2) (intB x) (natB n) = some ((rT (Rat.divInt x (n : Int))).1, (rT (Rat.divInt x (n : Int))).2, true) := by
 rw [← intB_nat, mk_f hx (by rw [szI_nat]; exact hs), if_neg (by omega)]
theorem r3make_f {a b : ByteArray} (ha : a.size ≤ 19000) (hb : b.size ≤ 19000) (k : Nat) : Pz.r3_Make.f (k + 1) a b = some ((rmakeS a b).1.1, (rmakeS a b).1.2, (rmakeS a b).2) ∨ k = 0 := by
 by_cases hk : k = 0
 ·exact .inr hk
 obtain ⟨k, rfl⟩ : ∃ m, k = m + 1 := ⟨k - 1, by omega⟩
 refine .inl ?_
 by_cases h1 : mayW a = true
 ·by_cases h2 : mayW b = true
  ·obtain ⟨x, rfl⟩ := of_mayW h1
   obtain ⟨y, rfl⟩ := of_mayW h2
   rw [mk_f ha hb]
   unfold rmakeS
   rw [may2W_int', Bool.true_and, numW_int, numW_int]
   by_cases h3 : y = 0
   ·rw [if_pos h3, if_neg (by rw [h3]; decide)]
    rfl
   ·rw [if_neg h3, if_pos (decide_eq_true h3)]
  ·unfold Pz.r3_Make.f rmakeS
   rw [rMay2 (by omega), Option.bind_some, if_pos h1, rMay2 (by omega), Option.bind_some, if_neg h2, show may2W a b = false by unfold may2W; rw [h1, (Bool.not_eq_true _).mp h2]; rfl]
   rfl
 ·unfold Pz.r3_Make.f rmakeS
  rw [rMay2 (by omega), Option.bind_some, if_neg h1, show may2W a b = false by unfold may2W; rw [(Bool.not_eq_true _).mp h1]; rfl]
  rfl
theorem r3make_f2 {a b : ByteArray} (ha : a.size ≤ 19000) (hb : b.size ≤ 19000) (k : Nat) : Pz.r3_Make.f (k + 2) a b = some ((rmakeS a b).1.1, (rmakeS a b).1.2, (rmakeS a b).2) := (r3make_f ha hb (k + 1)).resolve_right (by omega)
theorem r3sign_f {x : BB} (ha : x.1.size ≤ 20000) (hb : x.2.size ≤ 20000) : Pz.r3_Sign.f x.1 x.2 = some (rsignS x) := by
 unfold Pz.r3_Sign.f rsignS
 rw [r3may_f ha hb, Option.bind_some]
 by_cases h : mayR x = true
 ·obtain ⟨q, rfl⟩ := of_mayR h
  have s1 : szI q.num ≤ 20000 := ha
  rw [if_pos h, if_pos h, ratR_rT]
  show ((r2_Sign.f (intB q.num)).bind fun t => some t) = _
  rw [qSign (by omega), Option.bind_some, ← signQ_cmp]
  rfl
 ·rw [if_neg h, if_neg h]
theorem r3neg_f {x : BB} (ha : x.1.size ≤ 20000) (hb : x.2.size ≤ 20000) : Pz.r3_Neg.f x.1 x.2 = some (rnegS x) := by
 unfold Pz.r3_Neg.f rnegS
 rw [r3may_f ha hb, Option.bind_some]
 by_cases h : mayR x = true
 ·obtain ⟨q, rfl⟩ := of_mayR h
  have s1 : szI q.num ≤ 20000 := ha
  rw [if_pos h, if_pos h, ratR_rT]
  show ((r2_Neg.f (intB q.num)).bind fun t => some (t, natB q.den)) = some (intB (-q).num, natB (-q).den)
  rw [qNeg (by omega), Option.bind_some, Rat.neg_num, Rat.neg_den]
 ·rw [if_neg h, if_neg h]
  rfl
theorem sm_rT' {q : Rat} (h : smR (rT q) = true) : szI q.num ≤ 4000 ∧ sz q.den ≤ 4000 := smR_le h
theorem r3two {x y : BB} (hm : ¬ may2R x y = true) (h : mayR x = true) : mayR y = false := (Bool.not_eq_true _).mp (fun h2 => hm (by unfold may2R; rw [h, h2]; rfl))
theorem r3add_f {x y : BB} (hx : smR x = true) (hy : smR y = true) (k : Nat) : Pz.r3_Add.f (k + 3) x.1 x.2 y.1 y.2 = some (raddS x y) := by
 have h1 := smR_le hx
 have h2 := smR_le hy
 unfold Pz.r3_Add.f raddS
 rw [r3may_f (by omega) (by omega), Option.bind_some]
 rcases casesR x y with ⟨p, q, rfl, rfl⟩ | hm
 ·have h1 := sm_rT' hx
  have h2 := sm_rT' hy
  have s1 := szI_mul p.num (q.den : Int)
  have s2 := szI_mul q.num (p.den : Int)
  rw [szI_nat] at s1 s2
  have s3 := szI_add (p.num * (q.den : Int)) (q.num * (p.den : Int))
  have s4 := sz_mul p.den q.den
  rw [if_pos (mayR_rT p), r3may_f (by omega) (by omega), Option.bind_some, if_pos (may2R_rT p q), ratR_rT, ratR_rT, show mayR ((rT q).1, (rT q).2) = true from mayR_rT q]
  show Pz.r3_Add.j0 (k + 2 + 1) _ (intB p.num) (natB p.den) (intB q.num) (natB q.den) = _
  simp only [Pz.r3_Add.j0]
  rw [if_neg (by decide), qMulN (by omega) (by omega), Option.bind_some, qMulN (by omega) (by omega), Option.bind_some, qAdd (by omega) (by omega), Option.bind_some, rMul (by omega) (by omega), Option.bind_some, mk_nf (Nat.mul_ne_zero p.den_nz q.den_nz) (by omega) (by omega), Option.bind_some, Int.natCast_mul, add_parts]
 ·rw [if_neg hm]
  by_cases h : mayR x = true
  ·rw [if_pos h, r3may_f (by omega) (by omega), Option.bind_some, show mayR (y.1, y.2) = false from r3two hm h]
   show Pz.r3_Add.j0 (k + 2 + 1) _ _ _ _ _ = _
   simp only [Pz.r3_Add.j0]
   rfl
  ·rw [if_neg h]
   show Pz.r3_Add.j0 (k + 2 + 1) _ _ _ _ _ = _
   simp only [Pz.r3_Add.j0]
   rfl
theorem rneg_sm' {y : BB} (hy : y.1.size ≤ 3999 ∧ y.2.size ≤ 4000) : smR (rnegS y) = true := by
 unfold rnegS
 by_cases h : mayR y = true
 ·obtain ⟨q, rfl⟩ := of_mayR h
  have h1 : szI q.num ≤ 3999 := hy.1
  have h2 : sz q.den ≤ 4000 := hy.2
  have h3 := szI_neg q.num
  rw [if_pos h, ratR_rT]
  refine decide_eq_true ⟨?_, ?_⟩
  ·show szI (-q).num ≤ 4000
   rw [Rat.neg_num]
   omega
  ·show sz (-q).den ≤ 4000
   rw [Rat.neg_den]
   exact h2
 ·rw [if_neg h]
  rfl
theorem add_neg_S' {x y : BB} : raddS x (rnegS y) = rsubS x y := by
 unfold raddS rsubS rnegS
 by_cases h : mayR y = true
 ·rw [if_pos h]
  have e : may2R x (rT (-ratR y)) = may2R x y := by unfold may2R; rw [mayR_rT, h]
  rw [e, ratR_rT, ← Rat.sub_eq_add_neg]
 ·have e : may2R x y = false := by unfold may2R; rw [(Bool.not_eq_true _).mp h, Bool.and_false]
  have e2 : may2R x no2 = false := by unfold may2R; rw [show mayR no2 = false by decide, Bool.and_false]
  rw [if_neg h, e, e2]
  rfl
theorem r3sub_f {x y : BB} (hx : smR x = true) (hy : y.1.size ≤ 3999 ∧ y.2.size ≤ 4000) (k : Nat) : Pz.r3_Sub.f (k + 3) x.1 x.2 y.1 y.2 = some (rsubS x y) := by
 unfold Pz.r3_Sub.f
 rw [r3neg_f (by omega) (by omega), Option.bind_some, r3add_f hx (rneg_sm' hy), Option.bind_some, add_neg_S']
theorem cmpQ_sub (x y : Rat) : cmpQ (x - y) 0 = cmpQ x y := by
 unfold cmpQ
 have e1 : x - y < 0 ↔ x < y := by constructor <;> intro h <;> grind
 have e2 : 0 < x - y ↔ y < x := by constructor <;> intro h <;> grind
 simp only [e1, e2]
theorem r3cmp_f {x y : BB} (hx : smR x = true) (hy : y.1.size ≤ 3999 ∧ y.2.size ≤ 4000) (k : Nat) : Pz.r3_Cmp.f (k + 3) x.1 x.2 y.1 y.2 = some (rcmpS x y) := by
 unfold Pz.r3_Cmp.f
 rw [r3sub_f hx hy, Option.bind_some]
 rcases casesR x y with ⟨p, q, rfl, rfl⟩ | hm
 ·have h1 := sm_rT' hx
  have h2 : szI q.num ≤ 3999 ∧ sz q.den ≤ 4000 := hy
  have hs : (rsubS (rT p) (rT q)).1.size ≤ 20000 ∧ (rsubS (rT p) (rT q)).2.size ≤ 20000 := by
   unfold rsubS
   rw [if_pos (may2R_rT p q), ratR_rT, ratR_rT]
   have e : p - q = Rat.divInt (p.num * (q.den : Int) + (-q).num * (p.den : Int)) ((p.den : Int) * (q.den : Int)) := by
    have := add_parts p (-q)
    rw [Rat.neg_den] at this
    rw [this, Rat.sub_eq_add_neg]
   have hne : (p.den : Int) * (q.den : Int) ≠ 0 := Int.mul_ne_zero (den_ne p) (den_ne q)
   have t1 := sz_den_le (p.num * (q.den : Int) + (-q).num * (p.den : Int)) hne
   have t2 := sz_num_le (p.num * (q.den : Int) + (-q).num * (p.den : Int)) hne
   rw [← e] at t1 t2
   have s1 := szI_mul p.num (q.den : Int)
   have s2 := szI_mul (-q).num (p.den : Int)
   have s3 := szI_add (p.num * (q.den : Int)) ((-q).num * (p.den : Int))
   have s4 := szI_mul (p.den : Int) (q.den : Int)
   have s5 := szI_neg q.num
   rw [szI_nat] at s1 s2 s4
   rw [szI_nat] at s4
   rw [Rat.neg_num] at s2 s3 t2
   constructor
   ·show szI (p - q).num ≤ _
    omega
   ·show sz (p - q).den ≤ _
    omega
  rw [r3sign_f hs.1 hs.2, Option.bind_some]
  unfold rsignS rsubS rcmpS
  rw [if_pos (may2R_rT p q), if_pos (may2R_rT p q), ratR_rT, ratR_rT, if_pos (mayR_rT _), ratR_rT, cmpQ_sub]
 ·have e : rsubS x y = no2 := by unfold rsubS; rw [if_neg hm]
  rw [e, r3sign_f (by decide) (by decide), Option.bind_some]
  unfold rcmpS rsignS
  rw [if_neg hm, if_neg (by decide)]
theorem r3mul_f {x y : BB} (hx : smR x = true) (hy : smR y = true) (k : Nat) : Pz.r3_Mul.f (k + 3) x.1 x.2 y.1 y.2 = some (rmulS x y) := by
 have h1 := smR_le hx
 have h2 := smR_le hy
 unfold Pz.r3_Mul.f rmulS
 rw [r3may_f (by omega) (by omega), Option.bind_some]
 rcases casesR x y with ⟨p, q, rfl, rfl⟩ | hm
 ·have h1 := sm_rT' hx
  have h2 := sm_rT' hy
  have s1 := szI_mul p.num q.num
  have s4 := sz_mul p.den q.den
  rw [if_pos (mayR_rT p), r3may_f (by omega) (by omega), Option.bind_some, if_pos (may2R_rT p q), ratR_rT, ratR_rT, show mayR ((rT q).1, (rT q).2) = true from mayR_rT q]
  show Pz.r3_Mul.j0 (k + 2 + 1) _ (intB p.num) (natB p.den) (intB q.num) (natB q.den) = _
  simp only [Pz.r3_Mul.j0]
  rw [if_neg (by decide), qMul (by omega) (by omega), Option.bind_some, rMul (by omega) (by omega), Option.bind_some, mk_nf (Nat.mul_ne_zero p.den_nz q.den_nz) (by omega) (by omega), Option.bind_some, Int.natCast_mul, mul_parts]
 ·rw [if_neg hm]
  by_cases h : mayR x = true
  ·rw [if_pos h, r3may_f (by omega) (by omega), Option.bind_some, show mayR (y.1, y.2) = false from r3two hm h]
   show Pz.r3_Mul.j0 (k + 2 + 1) _ _ _ _ _ = _
   simp only [Pz.r3_Mul.j0]
   rfl
  ·rw [if_neg h]
   show Pz.r3_Mul.j0 (k + 2 + 1) _ _ _ _ _ = _
   simp only [Pz.r3_Mul.j0]
   rfl
theorem r3div_f {x y : BB} (hx : smR x = true) (hy : smR y = true) (k : Nat) : Pz.r3_Div.f (k + 3) x.1 x.2 y.1 y.2 = some ((rdivS x y).1.1, (rdivS x y).1.2, (rdivS x y).2) := by
 have h1 := smR_le hx
 have h2 := smR_le hy
 unfold Pz.r3_Div.f rdivS
 rw [r3may_f (by omega) (by omega), Option.bind_some]
 rcases casesR x y with ⟨p, q, rfl, rfl⟩ | hm
 ·have h1 := sm_rT' hx
  have h2 := sm_rT' hy
  have s1 := szI_mul p.num (q.den : Int)
  have s2 := szI_mul (p.den : Int) q.num
  rw [szI_nat] at s1 s2
  rw [if_pos (mayR_rT p), r3may_f (by omega) (by omega), Option.bind_some, may2R_rT, Bool.true_and, ratR_rT, ratR_rT, show mayR ((rT q).1, (rT q).2) = true from mayR_rT q]
  show Pz.r3_Div.j0 (k + 2 + 1) _ (intB p.num) (natB p.den) (intB q.num) (natB q.den) = _
  simp only [Pz.r3_Div.j0]
  rw [if_neg (by decide), qMulN (by omega) (by omega), Option.bind_some, qNMul (by omega) (by omega), Option.bind_some, mk_f (by omega) (by omega), Option.bind_some]
  by_cases h : q = 0
  ·subst h
   rw [if_pos (by rw [show (0 : Rat).num = 0 from rfl, Int.mul_zero]), if_neg (by decide)]
   rfl
  ·have hn := num_ne h
   rw [if_neg (Int.mul_ne_zero (den_ne p) hn), if_pos (decide_eq_true h), div_parts]
 ·rw [(Bool.not_eq_true _).mp hm]
  by_cases h : mayR x = true
  ·rw [if_pos h, r3may_f (by omega) (by omega), Option.bind_some, show mayR (y.1, y.2) = false from r3two hm h]
   show Pz.r3_Div.j0 (k + 2 + 1) _ _ _ _ _ = _
   simp only [Pz.r3_Div.j0]
   rfl
  ·rw [if_neg h]
   show Pz.r3_Div.j0 (k + 2 + 1) _ _ _ _ _ = _
   simp only [Pz.r3_Div.j0]
   rfl
theorem r3split_f {x : BB} (hx : smR x = true) (k : Nat) : Pz.r3_Split.f (k + 2) x.1 x.2 = some (rsplitS x) := by
 have h0 := smR_le hx
 unfold Pz.r3_Split.f rsplitS
 rw [r3may_f (by omega) (by omega), Option.bind_some]
 by_cases h : mayR x = true
 ·obtain ⟨q, rfl⟩ := of_mayR h
  have h1 := sm_rT' hx
  rw [if_pos h, if_pos h, ratR_rT]
  have s1 := szI_mod q.num (den_ne q)
  rw [szI_nat] at s1
  have e : r2_Div.f (intB q.num) (natB q.den) = some (intB (q.num / (q.den : Int)), intB (q.num % (q.den : Int)), true) := by
   rw [← intB_nat]
   exact qDiv (by omega) (by rw [szI_nat]; omega) (den_ne q)
  show ((r2_Div.f (intB q.num) (natB q.den)).bind fun t => ((Pz.r3_Make.f (k + 2) t.2.1 (natB q.den)).bind fun z => some (t.1, z.1, z.2.1))) = _
  rw [e, Option.bind_some, mk_nf q.den_nz (by omega) (by omega), Option.bind_some, split_parts, Rat.floor_def]
 ·rw [if_neg h, if_neg h]
  rfl
theorem szI_64 {n : Int} (h0 : -9223372036854775808 ≤ n) (h1 : n ≤ 9223372036854775807) : szI n ≤ 21 := by
 have h := szI_le n
 have h2 : sz n.natAbs ≤ 20 := sz_le (by omega) (by omega)
 omega
theorem r3one_f (a b : Int) (h0 : -9223372036854775808 ≤ a) (h1 : a ≤ 9223372036854775807) (h2 : -9223372036854775808 ≤ b) (h3 : b ≤ 9223372036854775807) (k : Nat) : Pz.r3_One.f (k + 2) a b = some (if b = 0 then no2 else rT (Rat.divInt a b)) := by
 unfold Pz.r3_One.f r2_Of.f
 have s1 := szI_64 h0 h1
 have s2 := szI_64 h2 h3
 rw [if_pos ⟨h0, h1⟩, Option.bind_some, if_pos ⟨h2, h3⟩, Option.bind_some, mk_f (by omega) (by omega), Option.bind_some]
 by_cases h : b = 0
 ·rw [if_pos h, if_pos h]
  rfl
 ·rw [if_neg h, if_neg h]
def bbS (x : Pz.S35) : BB := (x.f0, x.f1)
def shortR (x : Pz.S35) : Bool := decide (x.f0.size ≤ 100) && decide (x.f1.size ≤ 100)
def goodR (x : Pz.S35) : Bool := shortR x && mayR (bbS x)
theorem r3short_loop (l : List Pz.S35) (hl : l.length ≤ 50000) : ∀ (d i k : Nat), i + d = l.length → d + 1 ≤ k → Pz.r3_Short.l0 k l (i : Int) = some ((l.drop i).all shortR)
 | 0, i, k, hi, hk => by
  obtain ⟨k, rfl⟩ : ∃ m, k = m + 1 := ⟨k - 1, by omega⟩
  simp only [Pz.r3_Short.l0]
  rw [if_neg (by omega), List.drop_of_length_le (by omega)]
  rfl
 | d + 1, i, k, hi, hk => by
  obtain ⟨k, rfl⟩ : ∃ m, k = m + 1 := ⟨k - 1, by omega⟩
  have hlt : i < l.length := by omega
  have e : Pz.rd_T35 l (i : Int) = l[i] := by
   unfold Pz.rd_T35
   rw [Int.toNat_natCast, List.getD_eq_getElem?_getD, List.getElem?_eq_getElem hlt]
   rfl
  simp only [Pz.r3_Short.l0]
  rw [if_pos (by omega), if_pos (by omega), e, List.drop_eq_getElem_cons hlt, List.all_cons, w64 (by omega) (by omega)]
  have ih := r3short_loop l hl d (i + 1) k (by omega) (by omega)
  unfold shortR at ih ⊢
  by_cases h1 : (l[i]).f0.size ≤ 100
  ·rw [if_neg (by omega), decide_eq_true h1]
   by_cases h2 : (l[i]).f1.size ≤ 100
   ·rw [if_neg (by omega), decide_eq_true h2]
    exact ih
   ·rw [if_pos (by omega), decide_eq_false h2]
    rfl
  ·rw [if_pos (by omega), decide_eq_false h1]
   rfl
theorem r3short_f (l : List Pz.S35) (hl : l.length ≤ 50000) (k : Nat) (hk : l.length + 1 ≤ k) : Pz.r3_Short.f k l = some (l.all shortR) := r3short_loop l hl l.length 0 k (by omega) hk
theorem r3good_loop (l : List Pz.S35) (hl : l.length ≤ 50000) : ∀ (d i k : Nat), i + d = l.length → d + 3 ≤ k → Pz.r3_Good.l0 k l (i : Int) = some ((l.drop i).all goodR)
 | 0, i, k, hi, hk => by
  obtain ⟨k, rfl⟩ : ∃ m, k = m + 1 := ⟨k - 1, by omega⟩
  simp only [Pz.r3_Good.l0]
  rw [if_neg (by omega), List.drop_of_length_le (by omega)]
  rfl
 | d + 1, i, k, hi, hk => by
  obtain ⟨k, rfl⟩ : ∃ m, k = m + 1 := ⟨k - 1, by omega⟩
  have hlt : i < l.length := by omega
  have e : Pz.rd_T35 l (i : Int) = l[i] := by
   unfold Pz.rd_T35
   rw [Int.toNat_natCast, List.getD_eq_getElem?_getD, List.getElem?_eq_getElem hlt]
   rfl
  have e2 : (l.take ((i : Int) + 1).toNat).drop ((i : Int)).toNat = [l[i]] := by
   have e3 : ((i : Int) + 1).toNat = i + 1 := by omega
   rw [e3, Int.toNat_natCast, List.take_add_one, List.getElem?_eq_getElem hlt, List.drop_append_of_le_length (by rw [List.length_take]; omega), List.drop_of_length_le (by rw [List.length_take]; omega)]
   rfl
  simp only [Pz.r3_Good.l0]
  rw [if_pos (by omega), if_pos (by omega), w64 (x := (i : Int) + 1) (by omega) (by omega), if_pos (by omega), if_pos (by omega), e2, r3short_f [l[i]] (by simp) k (by simp; omega), Option.bind_some, e, List.drop_eq_getElem_cons hlt, List.all_cons, List.all_cons, List.all_nil, Bool.and_true]
  have ih := r3good_loop l hl d (i + 1) k (by omega) (by omega)
  by_cases h1 : shortR l[i] = true
  ·have h1' := h1
   unfold shortR at h1'
   rw [Bool.and_eq_true, decide_eq_true_eq, decide_eq_true_eq] at h1'
   rw [if_pos h1, r3may_f (by omega) (by omega), Option.bind_some]
   by_cases h2 : mayR (l[i].f0, l[i].f1) = true
   ·have eg : goodR l[i] = true := by unfold goodR bbS; rw [h1, h2]; rfl
    rw [if_pos h2, eg, Bool.true_and]
    exact ih
   ·have eg : goodR l[i] = false := by unfold goodR bbS; rw [h1, (Bool.not_eq_true _).mp h2]; rfl
    rw [if_neg h2, eg]
    rfl
  ·have eg : goodR l[i] = false := by unfold goodR; rw [(Bool.not_eq_true _).mp h1]; rfl
   rw [if_neg h1, eg]
   rfl
theorem r3good_f (l : List Pz.S35) (hl : l.length ≤ 50000) (k : Nat) (hk : l.length + 3 ≤ k) : Pz.r3_Good.f k l = some (l.all goodR) := r3good_loop l hl l.length 0 k (by omega) hk
def r3_Short.f (l0 : List Pz.S35) : Option Bool := if l0.length ≤ 50000 then some (l0.all shortR) else none
theorem r3_Short.calls (A0 : Option Addr) (c0 : Nat) (l0 : List Pz.S35) (r : Bool) (w : World) (hr0 : Kd.C Pz.k35 w A0 l0.length l0) (hc0 : l0.length ≤ c0) (h : r3_Short.f l0 = some r) :
  Calls Tryz.prog 31 #[.slice A0 l0.length c0] w fun e w' => e = .returned (.bool r) ∧ Below w.heap.size w w' := by
 unfold r3_Short.f at h
 split at h
 ·rename_i hp
  rw [← r3short_f l0 hp _ (Nat.le_refl _)] at h
  exact (Pz.r3_Short.calls _ A0 c0 l0 r w hr0 hc0 h).mono fun e w' ⟨he, hw⟩ => ⟨he, drawn_below hw⟩
 ·cases h
def r3_Good.f (l0 : List Pz.S35) : Option Bool := if l0.length ≤ 50000 then some (l0.all goodR) else none
theorem r3_Good.calls (A0 : Option Addr) (c0 : Nat) (l0 : List Pz.S35) (r : Bool) (w : World) (hr0 : Kd.C Pz.k35 w A0 l0.length l0) (hc0 : l0.length ≤ c0) (h : r3_Good.f l0 = some r) :
  Calls Tryz.prog 53 #[.slice A0 l0.length c0] w fun e w' => e = .returned (.bool r) ∧ Below w.heap.size w w' := by
 unfold r3_Good.f at h
 split at h
 ·rename_i hp
  rw [← r3good_f l0 hp _ (Nat.le_refl _)] at h
  exact Pz.r3_Good.calls _ A0 c0 l0 r w hr0 hc0 h
 ·cases h
def r3_One.f (a0 a1 : Int) : Option BB := if (-9223372036854775808 ≤ a0 ∧ a0 ≤ 9223372036854775807) ∧ -9223372036854775808 ≤ a1 ∧ a1 ≤ 9223372036854775807 then some (if a1 = 0 then no2 else rT (Rat.divInt a0 a1)) else none
theorem r3_One.calls (a0 a1 : Int) (r1 r2 : ByteArray) (w : World) (h : r3_One.f a0 a1 = some (r1, r2)) :
  Calls Tryz.prog 74 #[.int .i64 a0, .int .i64 a1] w fun e w' => e = .returned (.agg #[.string r1, .string r2]) ∧ Below w.heap.size w w' := by
 unfold r3_One.f at h
 split at h
 ·rename_i hp
  rw [← r3one_f a0 a1 hp.1.1 hp.1.2 hp.2.1 hp.2.2 0] at h
  exact Pz.r3_One.calls _ a0 a1 r1 r2 w h
 ·cases h
end Go.Proofs.YtmkmldkfaehefaaGreatDoor
end

section
namespace Go.Proofs.YtmkmldkfaehefaaGreatDoor
def r3_May.f (a0_0 a0_1 : ByteArray) : Option (Bool) := if smR (a0_0, a0_1) = true then some (mayR (a0_0, a0_1)) else none
theorem r3_May.calls (a0_0 a0_1 : ByteArray) (r : Bool) (w : World) (h : r3_May.f a0_0 a0_1 = some r) :
  Calls Tryz.prog 40 #[.agg #[.string a0_0, .string a0_1]] w fun e w' => e = .returned (.bool r) ∧ Below w.heap.size w w' := by
 unfold r3_May.f at h
 split at h
 ·rename_i hp
  have hs := smR_le hp
  rw [← r3may_f (a := a0_0) (b := a0_1) (Nat.le_trans hs.1 (by decide)) (Nat.le_trans hs.2 (by decide))] at h
  exact Pz.r3_May.calls a0_0 a0_1 r w h
 ·cases h
def r3_Make.f (a0 a1 : ByteArray) : Option (ByteArray × ByteArray × Bool) := if smR (a0, a1) = true then some ((rmakeS a0 a1).1.1, (rmakeS a0 a1).1.2, (rmakeS a0 a1).2) else none
theorem r3_Make.calls (a0 a1 : ByteArray) (r1 : ByteArray) (r2 : ByteArray) (r3 : Bool) (w : World) (h : r3_Make.f a0 a1 = some (r1, r2, r3)) :
  Calls Tryz.prog 34 #[.string a0, .string a1] w fun e w' => e = .returned (.tuple #[.agg #[.string r1, .string r2], .bool r3]) ∧ Below w.heap.size w w' := by
 unfold r3_Make.f at h
 split at h
 ·rename_i hp
  have hs := smR_le hp
  rw [← r3make_f2 (a := a0) (b := a1) (Nat.le_trans hs.1 (by decide)) (Nat.le_trans hs.2 (by decide)) 0] at h
  exact Pz.r3_Make.calls _ a0 a1 r1 r2 r3 w h
 ·cases h
def r3_Sign.f (a0_0 a0_1 : ByteArray) : Option (Int) := if smR (a0_0, a0_1) = true then some (rsignS (a0_0, a0_1)) else none
theorem r3_Sign.calls (a0_0 a0_1 : ByteArray) (r : Int) (w : World) (h : r3_Sign.f a0_0 a0_1 = some r) :
  Calls Tryz.prog 42 #[.agg #[.string a0_0, .string a0_1]] w fun e w' => e = .returned (.int .i64 r) ∧ Below w.heap.size w w' := by
 unfold r3_Sign.f at h
 split at h
 ·rename_i hp
  have hs := smR_le hp
  rw [← r3sign_f (x := (a0_0, a0_1)) (Nat.le_trans hs.1 (by decide)) (Nat.le_trans hs.2 (by decide))] at h
  exact Pz.r3_Sign.calls a0_0 a0_1 r w h
 ·cases h
def r3_Neg.f (a0_0 a0_1 : ByteArray) : Option (ByteArray × ByteArray) := if smR (a0_0, a0_1) = true then some (rnegS (a0_0, a0_1)) else none
theorem r3_Neg.calls (a0_0 a0_1 : ByteArray) (r1 : ByteArray) (r2 : ByteArray) (w : World) (h : r3_Neg.f a0_0 a0_1 = some (r1, r2)) :
  Calls Tryz.prog 44 #[.agg #[.string a0_0, .string a0_1]] w fun e w' => e = .returned (.agg #[.string r1, .string r2]) ∧ Below w.heap.size w w' := by
 unfold r3_Neg.f at h
 split at h
 ·rename_i hp
  have hs := smR_le hp
  rw [← r3neg_f (x := (a0_0, a0_1)) (Nat.le_trans hs.1 (by decide)) (Nat.le_trans hs.2 (by decide))] at h
  exact Pz.r3_Neg.calls a0_0 a0_1 r1 r2 w h
 ·cases h
def r3_Cmp.f (a0_0 a0_1 a1_0 a1_1 : ByteArray) : Option (Int) := if smR2 (a0_0, a0_1) (a1_0, a1_1) = true then some (rcmpS (a0_0, a0_1) (a1_0, a1_1)) else none
theorem r3_Cmp.calls (a0_0 a0_1 a1_0 a1_1 : ByteArray) (r : Int) (w : World) (h : r3_Cmp.f a0_0 a0_1 a1_0 a1_1 = some r) :
  Calls Tryz.prog 46 #[.agg #[.string a0_0, .string a0_1], .agg #[.string a1_0, .string a1_1]] w fun e w' => e = .returned (.int .i64 r) ∧ Below w.heap.size w w' := by
 unfold r3_Cmp.f at h
 split at h
 ·rename_i hp
  have hs := smR2_le hp
  rw [← r3cmp_f (x := (a0_0, a0_1)) (y := (a1_0, a1_1)) hs.1 hs.2.2 0] at h
  exact Pz.r3_Cmp.calls _ a0_0 a0_1 a1_0 a1_1 r w h
 ·cases h
def r3_Add.f (a0_0 a0_1 a1_0 a1_1 : ByteArray) : Option (ByteArray × ByteArray) := if smR2 (a0_0, a0_1) (a1_0, a1_1) = true then some (raddS (a0_0, a0_1) (a1_0, a1_1)) else none
theorem r3_Add.calls (a0_0 a0_1 a1_0 a1_1 : ByteArray) (r1 : ByteArray) (r2 : ByteArray) (w : World) (h : r3_Add.f a0_0 a0_1 a1_0 a1_1 = some (r1, r2)) :
  Calls Tryz.prog 48 #[.agg #[.string a0_0, .string a0_1], .agg #[.string a1_0, .string a1_1]] w fun e w' => e = .returned (.agg #[.string r1, .string r2]) ∧ Below w.heap.size w w' := by
 unfold r3_Add.f at h
 split at h
 ·rename_i hp
  have hs := smR2_le hp
  rw [← r3add_f (x := (a0_0, a0_1)) (y := (a1_0, a1_1)) hs.1 hs.2.1 0] at h
  exact Pz.r3_Add.calls _ a0_0 a0_1 a1_0 a1_1 r1 r2 w h
 ·cases h
def r3_Sub.f (a0_0 a0_1 a1_0 a1_1 : ByteArray) : Option (ByteArray × ByteArray) := if smR2 (a0_0, a0_1) (a1_0, a1_1) = true then some (rsubS (a0_0, a0_1) (a1_0, a1_1)) else none
theorem r3_Sub.calls (a0_0 a0_1 a1_0 a1_1 : ByteArray) (r1 : ByteArray) (r2 : ByteArray) (w : World) (h : r3_Sub.f a0_0 a0_1 a1_0 a1_1 = some (r1, r2)) :
  Calls Tryz.prog 50 #[.agg #[.string a0_0, .string a0_1], .agg #[.string a1_0, .string a1_1]] w fun e w' => e = .returned (.agg #[.string r1, .string r2]) ∧ Below w.heap.size w w' := by
 unfold r3_Sub.f at h
 split at h
 ·rename_i hp
  have hs := smR2_le hp
  rw [← r3sub_f (x := (a0_0, a0_1)) (y := (a1_0, a1_1)) hs.1 hs.2.2 0] at h
  exact Pz.r3_Sub.calls _ a0_0 a0_1 a1_0 a1_1 r1 r2 w h
 ·cases h
def r3_Mul.f (a0_0 a0_1 a1_0 a1_1 : ByteArray) : Option (ByteArray × ByteArray) := if smR2 (a0_0, a0_1) (a1_0, a1_1) = true then some (rmulS (a0_0, a0_1) (a1_0, a1_1)) else none
theorem r3_Mul.calls (a0_0 a0_1 a1_0 a1_1 : ByteArray) (r1 : ByteArray) (r2 : ByteArray) (w : World) (h : r3_Mul.f a0_0 a0_1 a1_0 a1_1 = some (r1, r2)) :
  Calls Tryz.prog 52 #[.agg #[.string a0_0, .string a0_1], .agg #[.string a1_0, .string a1_1]] w fun e w' => e = .returned (.agg #[.string r1, .string r2]) ∧ Below w.heap.size w w' := by
 unfold r3_Mul.f at h
 split at h
 ·rename_i hp
  have hs := smR2_le hp
  rw [← r3mul_f (x := (a0_0, a0_1)) (y := (a1_0, a1_1)) hs.1 hs.2.1 0] at h
  exact Pz.r3_Mul.calls _ a0_0 a0_1 a1_0 a1_1 r1 r2 w h
 ·cases h
def r3_Div.f (a0_0 a0_1 a1_0 a1_1 : ByteArray) : Option (ByteArray × ByteArray × Bool) := if smR2 (a0_0, a0_1) (a1_0, a1_1) = true then some ((rdivS (a0_0, a0_1) (a1_0, a1_1)).1.1, (rdivS (a0_0, a0_1) (a1_0, a1_1)).1.2, (rdivS (a0_0, a0_1) (a1_0, a1_1)).2) else none
theorem r3_Div.calls (a0_0 a0_1 a1_0 a1_1 : ByteArray) (r1 : ByteArray) (r2 : ByteArray) (r3 : Bool) (w : World) (h : r3_Div.f a0_0 a0_1 a1_0 a1_1 = some (r1, r2, r3)) :
  Calls Tryz.prog 36 #[.agg #[.string a0_0, .string a0_1], .agg #[.string a1_0, .string a1_1]] w fun e w' => e = .returned (.tuple #[.agg #[.string r1, .string r2], .bool r3]) ∧ Below w.heap.size w w' := by
 unfold r3_Div.f at h
 split at h
 ·rename_i hp
  have hs := smR2_le hp
  rw [← r3div_f (x := (a0_0, a0_1)) (y := (a1_0, a1_1)) hs.1 hs.2.1 0] at h
  exact Pz.r3_Div.calls _ a0_0 a0_1 a1_0 a1_1 r1 r2 r3 w h
 ·cases h
def r3_Split.f (a0_0 a0_1 : ByteArray) : Option (ByteArray × ByteArray × ByteArray) := if smR (a0_0, a0_1) = true then some (rsplitS (a0_0, a0_1)) else none
theorem r3_Split.calls (a0_0 a0_1 : ByteArray) (r1 : ByteArray) (r2 : ByteArray) (r3 : ByteArray) (w : World) (h : r3_Split.f a0_0 a0_1 = some (r1, r2, r3)) :
  Calls Tryz.prog 38 #[.agg #[.string a0_0, .string a0_1]] w fun e w' => e = .returned (.tuple #[.string r1, .agg #[.string r2, .string r3]]) ∧ Below w.heap.size w w' := by
 unfold r3_Split.f at h
 split at h
 ·rename_i hp
  rw [← r3split_f (x := (a0_0, a0_1)) hp 0] at h
  exact Pz.r3_Split.calls _ a0_0 a0_1 r1 r2 r3 w h
 ·cases h
end Go.Proofs.YtmkmldkfaehefaaGreatDoor
end

section
namespace Go.Proofs.YtmkmldkfaehefaaGreatDoor.Pf3
def errW : Option Int → Value
 | none => .nilIface
 | some c => .iface 0 (.int .i64 c)
theorem errW_none : errW none = .nilIface := rfl
theorem errW_some (c : Int) : errW (some c) = .iface 0 (.int .i64 c) := rfl
end Go.Proofs.YtmkmldkfaehefaaGreatDoor.Pf3
end

section
namespace Go.Proofs.YtmkmldkfaehefaaGreatDoor.Pf3
theorem eqA35 (d : Nat) (w : World) (x0 y0 : ByteArray) (x1 y1 : ByteArray) :
  (Op.equalIn (d + 2) 35 (.agg #[.string x0, .string x1]) (.agg #[.string y0, .string y1])).run Tryz.prog w = .ok (x0.toList == y0.toList && (x1.toList == y1.toList)) w := by
 refine eqA_of Tryz.underlying35 (by kernel_rfl) ?_; refine eqf_cons (by rfl) (by go_simp; rfl) (by go_simp; rfl) (by go_simp) ?_; exact eqf_last (by rfl) (by go_simp; rfl) (by go_simp; rfl) (by go_simp)
end Go.Proofs.YtmkmldkfaehefaaGreatDoor.Pf3
end

section
namespace Go.Proofs.YtmkmldkfaehefaaGreatDoor.Pf3
end Go.Proofs.YtmkmldkfaehefaaGreatDoor.Pf3
end

section
namespace Go.Proofs.YtmkmldkfaehefaaGreatDoor.Pf3
attribute [local go_sem high] eqA35
def dl3_fixed.f  : Option (Bool) := (r3_One.f 1 2).bind fun bt101 => ((r3_One.f 1 3).bind fun bt103 => ((rat_Div.f bt101.1 bt101.2 bt103.1 bt103.2).bind fun bt107 => ((rat_Of.f 0).bind fun bt111 => ((rat_Div.f bt101.1 bt101.2 bt111.1 bt111.2).bind fun bt113 => ((r3_One.f (-7) 2).bind fun bt117 => ((rat_Split.f bt117.1 bt117.2).bind fun bt119 => ((rat_Make.f (⟨#[54]⟩ : ByteArray) (⟨#[45, 52]⟩ : ByteArray)).bind fun bt123 => ((rat_Make.f (⟨#[49]⟩ : ByteArray) (⟨#[48]⟩ : ByteArray)).bind fun bt127 => ((rat_Add.f bt101.1 bt101.2 bt103.1 bt103.2).bind fun bt131 => ((r3_One.f 5 6).bind fun bt133 => (if (bt131.1.toList == bt133.1.toList && (bt131.2.toList == bt133.2.toList)) = true then ((rat_Sub.f bt103.1 bt103.2 bt101.1 bt101.2).bind fun bt135 => ((r3_One.f (-1) 6).bind fun bt137 => (if (bt135.1.toList == bt137.1.toList && (bt135.2.toList == bt137.2.toList)) = true then ((rat_Mul.f bt101.1 bt101.2 bt103.1 bt103.2).bind fun bt139 => ((r3_One.f 1 6).bind fun bt141 => (if (bt139.1.toList == bt141.1.toList && (bt139.2.toList == bt141.2.toList)) = true then ((r3_One.f 3 2).bind fun bt143 => (if (bt107.1.toList == bt143.1.toList && (bt107.2.1.toList == bt143.2.toList)) = true then (if bt107.2.2 = true then (if bt113.2.2 = true then (some false) else (if bt119.1.toList = ([45, 52] : List UInt8) then (if (bt119.2.1.toList == bt101.1.toList && (bt119.2.2.toList == bt101.2.toList)) = true then ((r3_One.f (-3) 2).bind fun bt145 => (if (bt123.1.toList == bt145.1.toList && (bt123.2.1.toList == bt145.2.toList)) = true then (if bt123.2.2 = true then (if bt127.2.2 = true then (some false) else ((rat_Cmp.f bt101.1 bt101.2 bt103.1 bt103.2).bind fun t147 => (if t147 = 1 then ((rat_Neg.f bt101.1 bt101.2).bind fun bt148 => ((rat_Sign.f bt148.1 bt148.2).bind fun t150 => (if t150 = (-1) then ((rat_Of.f 0).bind fun bt151 => ((rat_May.f bt151.1 bt151.2).bind fun t153 => (if t153 = true then ((rat_May.f (⟨#[]⟩ : ByteArray) (⟨#[]⟩ : ByteArray)).bind fun t154 => (if t154 = true then (some false) else ((rat_May.f (⟨#[50]⟩ : ByteArray) (⟨#[52]⟩ : ByteArray)).bind fun t155 => (some (!t155))))) else (some false)))) else (some false)))) else (some false)))) else (some false)) else (some false))) else (some false)) else (some false))) else (some false)) else (some false))) else (some false)))) else (some false)))) else (some false))))))))))))
def dl3_fixed.T3 : Bool × List (List Nat × List Nat) := (true, [([], []), ([], []), ([0, 1, 1], [0, 1]), ([2], [2]), ([3], [3]), ([3], [3]), ([], []), ([6, 4, 2, 0, 1, 2, 3, 4, 6], [4, 6]), ([5, 7, 0, 1, 2, 3, 4, 5, 6, 7], [5])])
def dl3_fixed.B3 : List Nat := [0, 0, 3, 7, 15, 15, 0, 95, 255]
theorem dl3_fixed.tab3 : rtab .any (opsOf Tryz.f32 3) = dl3_fixed.T3 := by kernel_rfl
theorem dl3_fixed.bits3 : waitsOk dl3_fixed.T3.2 dl3_fixed.B3 = true := by kernel_rfl
def dl3_fixed.T7 : Bool × List (List Nat × List Nat) := (true, [([], []), ([], []), ([0, 1], [0, 1]), ([2], []), ([2, 3], [2, 3]), ([4, 3], [4]), ([5], [5]), ([5], [5]), ([6, 7, 5, 5], [5, 6, 7]), ([8, 5], [5]), ([8, 9, 5], [5, 8, 9]), ([5, 10], [5, 10]), ([11, 9], [11]), ([12], [12]), ([12], [12]), ([13, 14, 12, 12], [12, 13, 14]), ([15, 12], [12]), ([15, 16, 12], [12, 15, 16]), ([12, 17], [12, 17]), ([18, 16], [18]), ([19], [19]), ([19, 19], [19]), ([20, 21, 19], [19, 20, 21]), ([19, 22], [19, 22]), ([23, 21], [23]), ([24], [24]), ([24, 25], [24, 25]), ([26, 24], [26]), ([27], [27]), ([28, 27], [27, 28]), ([27, 29], [27, 29]), ([30, 27], [30]), ([31], [31]), ([32, 31], [31, 32]), ([31, 33], [31, 33]), ([34, 31], [34]), ([35], [35]), ([35], [35]), ([36, 37, 35], [35, 36, 37]), ([35, 38], [35, 38]), ([39, 35], [39]), ([40], [40]), ([40, 40], [40]), ([41, 42, 40], [40, 41, 42]), ([40, 43], [40, 43]), ([44, 42], [44]), ([45], [45]), ([45, 46], [45, 46]), ([47, 45], [47]), ([48], [48]), ([49, 48], [48, 49]), ([48, 50], [48, 50]), ([51, 48], [51]), ([52], [52]), ([52], [52]), ([53, 54, 52, 52], [52, 53, 54]), ([55, 52], [52, 55]), ([52, 56], [52, 56]), ([57, 55], [57]), ([58], [58]), ([59, 58, 58], [58, 59]), ([60, 60, 58], [58, 60]), ([61, 58], [58, 61]), ([58, 62], [58, 62]), ([63, 61], [63]), ([64, 64], [64]), ([65, 65, 64], [64, 65]), ([64, 66], [64, 66]), ([67, 66], [67]), ([68], [68]), ([69, 68, 68], [68, 69]), ([70, 68], [68, 70]), ([68, 71], [68, 71]), ([72, 70], [72]), ([73], [73]), ([74, 73, 73], [73, 74]), ([75, 73], [73, 75]), ([73, 76], [73, 76]), ([77, 75, 0, 1, 2, 3, 4, 5, 6, 7, 8, 9, 10, 11, 12, 13, 14, 15, 16, 17, 18, 19, 20, 21, 22, 23, 24, 25, 26, 27, 28, 29, 30, 31, 32, 33, 34, 35, 36, 37, 38, 39, 40, 41, 42, 43, 44, 45, 46, 47, 48, 49, 50, 51, 52, 53, 54, 55, 56, 57, 58, 59, 60, 61, 62, 63, 64, 65, 66, 67, 68, 69, 70, 71, 72, 73, 74, 75, 76, 77], [77])])
def dl3_fixed.B7 : List Nat := [0, 0, 3, 7, 15, 31, 63, 63, 255, 511, 1023, 2047, 4095, 8191, 8191, 32767, 65535, 131071, 262143, 524287, 1048575, 1048575, 4194303, 8388607, 16777215, 33554431, 67108863, 134217727, 268435455, 536870911, 1073741823, 2147483647, 4294967295, 8589934591, 17179869183, 34359738367, 68719476735, 68719476735, 274877906943, 549755813887, 1099511627775, 2199023255551, 2199023255551, 8796093022207, 17592186044415, 35184372088831, 70368744177663, 140737488355327, 281474976710655, 562949953421311, 1125899906842623, 2251799813685247, 4503599627370495, 9007199254740991, 9007199254740991, 36028797018963967, 72057594037927935, 144115188075855871, 288230376151711743, 576460752303423487, 1152921504606846975, 2305843009213693951, 4611686018427387903, 9223372036854775807, 18446744073709551615, 36893488147419103231, 73786976294838206463, 147573952589676412927, 295147905179352825855, 590295810358705651711, 1180591620717411303423, 2361183241434822606847, 4722366482869645213695, 9444732965739290427391, 18889465931478580854783, 37778931862957161709567, 75557863725914323419135, 151115727451828646838271, 302231454903657293676543]
theorem dl3_fixed.tab7 : rtab .any (opsOf Tryz.f32 7) = dl3_fixed.T7 := by kernel_rfl
theorem dl3_fixed.bits7 : waitsOk dl3_fixed.T7.2 dl3_fixed.B7 = true := by kernel_rfl
set_option maxHeartbeats 8000000 in
set_option maxRecDepth 100000 in
theorem dl3_fixed.calls  (r : Bool) (w : World) (hL_ : Laid w) (hr_ : Aside0 (r = true)) (h : dl3_fixed.f  = some r) :
  Calls Tryz.prog 32 #[] w fun e w' => e = .returned (.bool r) ∧ Below w.heap.size w w' := by
 have hu35 := Tryz.underlying35; have HLD := Aside0.mk hL_; clear hL_; have HB := Aside0.mk (Below.refl w.heap.size w); have H := h; unfold dl3_fixed.f at H; clear h; obtain ⟨⟨t101, t102⟩, A1, H⟩ := bi_ H; (try dsimp only at H); obtain ⟨⟨t103, t104⟩, A2, H⟩ := bi_ H; (try dsimp only at H); obtain ⟨⟨t107, t108, t109⟩, A3, H⟩ := bi_ H; (try dsimp only at H); obtain ⟨⟨t111, t112⟩, A4, H⟩ := bi_ H; (try dsimp only at H); obtain ⟨⟨t113, t114, t115⟩, A5, H⟩ := bi_ H; (try dsimp only at H); obtain ⟨⟨t117, t118⟩, A6, H⟩ := bi_ H; (try dsimp only at H); obtain ⟨⟨t119, t120, t121⟩, A7, H⟩ := bi_ H; (try dsimp only at H); obtain ⟨⟨t123, t124, t125⟩, A8, H⟩ := bi_ H; (try dsimp only at H); obtain ⟨⟨t127, t128, t129⟩, A9, H⟩ := bi_ H; (try dsimp only at H); obtain ⟨⟨t131, t132⟩, A10, H⟩ := bi_ H; (try dsimp only at H); obtain ⟨⟨t133, t134⟩, A11, H⟩ := bi_ H; (try dsimp only at H); by_cases c12 : (t131.toList == t133.toList && (t132.toList == t134.toList)) = true
 ·rw [if_pos c12] at H; have c12b0 : (t131.toList == t133.toList && (t132.toList == t134.toList)) = true := c12; (try (have c12b1 : decide (t131.toList = t133.toList && (t132.toList == t134.toList)) = true := by simpa using c12)); (try (have c12b2 : (t131.toList == t133.toList && (t132.toList == t134.toList)) = true := by simpa using c12)); clear c12; obtain ⟨⟨t135, t136⟩, A13, H⟩ := bi_ H; (try dsimp only at H); obtain ⟨⟨t137, t138⟩, A14, H⟩ := bi_ H; (try dsimp only at H); by_cases c15 : (t135.toList == t137.toList && (t136.toList == t138.toList)) = true
  ·rw [if_pos c15] at H; have c15b0 : (t135.toList == t137.toList && (t136.toList == t138.toList)) = true := c15; (try (have c15b1 : decide (t135.toList = t137.toList && (t136.toList == t138.toList)) = true := by simpa using c15)); (try (have c15b2 : (t135.toList == t137.toList && (t136.toList == t138.toList)) = true := by simpa using c15)); clear c15; obtain ⟨⟨t139, t140⟩, A16, H⟩ := bi_ H; (try dsimp only at H); obtain ⟨⟨t141, t142⟩, A17, H⟩ := bi_ H; (try dsimp only at H); by_cases c18 : (t139.toList == t141.toList && (t140.toList == t142.toList)) = true
   ·rw [if_pos c18] at H; have c18b0 : (t139.toList == t141.toList && (t140.toList == t142.toList)) = true := c18; (try (have c18b1 : decide (t139.toList = t141.toList && (t140.toList == t142.toList)) = true := by simpa using c18)); (try (have c18b2 : (t139.toList == t141.toList && (t140.toList == t142.toList)) = true := by simpa using c18)); clear c18; obtain ⟨⟨t143, t144⟩, A19, H⟩ := bi_ H; (try dsimp only at H); by_cases c20 : (t107.toList == t143.toList && (t108.toList == t144.toList)) = true
    ·rw [if_pos c20] at H; have c20b0 : (t107.toList == t143.toList && (t108.toList == t144.toList)) = true := c20; (try (have c20b1 : decide (t107.toList = t143.toList && (t108.toList == t144.toList)) = true := by simpa using c20)); (try (have c20b2 : (t107.toList == t143.toList && (t108.toList == t144.toList)) = true := by simpa using c20)); clear c20; by_cases c21 : t109 = true
     ·subst c21; rw [if_pos rfl] at H; by_cases c22 : t115 = true
      ·subst c22
       have H1 : (some false) = some r := by rw [if_pos rfl] at H; exact H
       exact absurd (H1.trans (congrArg some hr_.out)) (by decide)
      ·replace c22 := Bool.eq_false_iff.mpr c22; subst c22; rw [if_neg nf_] at H; by_cases c77 : t119.toList = ([45, 52] : List UInt8)
       ·rw [if_pos c77] at H; have c77b0 : (t119.toList == ([45, 52] : List UInt8)) = true := beq_iff_eq.mpr c77; have c77b1 : (t119.toList != ([45, 52] : List UInt8)) = false := bne_eq_false_iff_eq.mpr c77; clear c77; by_cases c78 : (t120.toList == t101.toList && (t121.toList == t102.toList)) = true
        ·rw [if_pos c78] at H; have c78b0 : (t120.toList == t101.toList && (t121.toList == t102.toList)) = true := c78; (try (have c78b1 : decide (t120.toList = t101.toList && (t121.toList == t102.toList)) = true := by simpa using c78)); (try (have c78b2 : (t120.toList == t101.toList && (t121.toList == t102.toList)) = true := by simpa using c78)); clear c78; obtain ⟨⟨t145, t146⟩, A79, H⟩ := bi_ H; (try dsimp only at H); by_cases c80 : (t123.toList == t145.toList && (t124.toList == t146.toList)) = true
         ·rw [if_pos c80] at H; have c80b0 : (t123.toList == t145.toList && (t124.toList == t146.toList)) = true := c80; (try (have c80b1 : decide (t123.toList = t145.toList && (t124.toList == t146.toList)) = true := by simpa using c80)); (try (have c80b2 : (t123.toList == t145.toList && (t124.toList == t146.toList)) = true := by simpa using c80)); clear c80; by_cases c81 : t125 = true
          ·subst c81; rw [if_pos rfl] at H; by_cases c82 : t129 = true
           ·subst c82
            have H1 : (some false) = some r := by rw [if_pos rfl] at H; exact H
            exact absurd (H1.trans (congrArg some hr_.out)) (by decide)
           ·replace c82 := Bool.eq_false_iff.mpr c82; subst c82; rw [if_neg nf_] at H; obtain ⟨t147, A138, H⟩ := bi_ H; by_cases c139 : t147 = 1
            ·rw [if_pos c139] at H; have c139b0 : (t147 == 1) = true := beq_iff_eq.mpr c139; have c139b1 : (t147 != 1) = false := bne_eq_false_iff_eq.mpr c139; clear c139; obtain ⟨⟨t148, t149⟩, A140, H⟩ := bi_ H; (try dsimp only at H); obtain ⟨t150, A141, H⟩ := bi_ H; by_cases c142 : t150 = (-1)
             ·rw [if_pos c142] at H; have c142b0 : (t150 == (-1)) = true := beq_iff_eq.mpr c142; have c142b1 : (t150 != (-1)) = false := bne_eq_false_iff_eq.mpr c142; clear c142; obtain ⟨⟨t151, t152⟩, A143, H⟩ := bi_ H; (try dsimp only at H); obtain ⟨t153, A144, H⟩ := bi_ H; by_cases c145 : t153 = true
              ·subst c145; rw [if_pos rfl] at H; obtain ⟨t154, A146, H⟩ := bi_ H; by_cases c147 : t154 = true
               ·subst c147
                have H1 : (some false) = some r := by rw [if_pos rfl] at H; exact H
                exact absurd (H1.trans (congrArg some hr_.out)) (by decide)
               ·replace c147 := Bool.eq_false_iff.mpr c147; subst c147; rw [if_neg nf_] at H; obtain ⟨t155, A209, H⟩ := bi_ H; obtain rfl := Option.some.inj H; go_enter Tryz.func32, Tryz.ntmps32
                try go_wp2_with (first | (refine gl_ 13 Tryz.func74 #[.int .i64 1, .int .i64 2] ?_; refine mo_ (r3_One.calls 1 2 t101 t102 _ A1.out) ?_; intro w210 hb; replace HB := bs_ HB hb; (try clear hb); (try clear hb2); (try clear hk); (try clear hi)) | (refine gl_ 14 Tryz.func74 #[.int .i64 1, .int .i64 3] ?_; refine mo_ (r3_One.calls 1 3 t103 t104 _ A2.out) ?_; intro w211 hb; replace HB := bs_ HB hb; (try clear hb); (try clear hb2); (try clear hk); (try clear hi)) | ((with_reducible refine gate_dst (N := 1) rfl ?_); refine be_ 1 #[.string (⟨#[]⟩ : ByteArray), .string (⟨#[]⟩ : ByteArray)] 35 ?_; intro gb105 hg w212 hbox hb; have BK105 := Aside0.mk (hbox); have GW105 := ge_ HB hg; have GE105 := ge_ HB hg; replace HB := bs_ HB hb; clear hb hbox hg) | ((with_reducible refine gate_dst (N := 2) rfl ?_); refine be_ 2 #[.string (⟨#[]⟩ : ByteArray), .string (⟨#[]⟩ : ByteArray)] 35 ?_; intro gb106 hg w213 hbox hb; have BK106 := Aside0.mk (hbox); have GW106 := ge_ HB hg; have GE106 := ge_ HB hg; have NB105_106 := nl_ BK105 hg; have NB106_105 := ng_ BK105 hg; replace BK105 := kb_ BK105 hb; replace HB := bs_ HB hb; clear hb hbox hg; have hnb214 := NB105_106.out; have hnc214 := NB106_105.out; have hcz215_0 := bc_ BK105 0 rfl; have hcz215_1 := bc_ BK105 1 rfl; have hfz215_0 := blk_frozen BK105.out 0; have hfz215_1 := blk_frozen BK105.out 1; have hcz216_0 := bc_ BK106 0 rfl; have hcz216_1 := bc_ BK106 1 rfl; have hfz216_0 := blk_frozen BK106.out 0; have hfz216_1 := blk_frozen BK106.out 1) | (refine gl_ 18 Tryz.func35 #[.agg #[.string t101, .string t102], .agg #[.string t103, .string t104]] ?_; refine mo_ (rat_Div.calls t101 t102 t103 t104 t107 t108 true _ (lb_ HLD HB) A3.out) ?_; intro w217 hb; replace BK105 := Aside0.mk (blk_below (g := gb105) (o := .cells #[.string t101, .string t102] 35 (0, 0)) (by refine k_ ?_; refine blk_far ?_ NB105_106.out _; refine k_ ?_; refine blk_far ?_ NB105_106.out _; refine k_ ?_; refine blk_put (cs := #[.string t101, .string (⟨#[]⟩ : ByteArray)]) ?_ 1 _ rfl; refine k_ ?_; refine blk_put (cs := #[.string (⟨#[]⟩ : ByteArray), .string (⟨#[]⟩ : ByteArray)]) ?_ 0 _ rfl; refine k_ ?_; exact BK105.out) hb); replace BK106 := Aside0.mk (blk_below (g := gb106) (o := .cells #[.string t103, .string t104] 35 (0, 0)) (by refine k_ ?_; refine blk_put (cs := #[.string t103, .string (⟨#[]⟩ : ByteArray)]) ?_ 1 _ rfl; refine k_ ?_; refine blk_put (cs := #[.string (⟨#[]⟩ : ByteArray), .string (⟨#[]⟩ : ByteArray)]) ?_ 0 _ rfl; refine k_ ?_; refine blk_far ?_ NB106_105.out _; refine k_ ?_; refine blk_far ?_ NB106_105.out _; refine k_ ?_; exact BK106.out) hb); replace HB := bs_ HB hb; (try clear hb); (try clear hb2); (try clear hk); (try clear hi)) | ((with_reducible refine gate_dst (N := 3) rfl ?_); refine be_ 3 #[.string (⟨#[]⟩ : ByteArray), .string (⟨#[]⟩ : ByteArray)] 35 ?_; intro gb110 hg w218 hbox hb; have BK110 := Aside0.mk (hbox); have GW110 := ge_ HB hg; have GE110 := ge_ HB hg; have NB105_110 := nl_ BK105 hg; have NB110_105 := ng_ BK105 hg; have NB106_110 := nl_ BK106 hg; have NB110_106 := ng_ BK106 hg; replace BK105 := kb_ BK105 hb; replace BK106 := kb_ BK106 hb; replace HB := bs_ HB hb; clear hb hbox hg; have hnb219 := NB110_105.out; have hnc219 := NB105_110.out; have hnb220 := NB110_106.out; have hnc220 := NB106_110.out; have hcz221_0 := bc_ BK110 0 rfl; have hcz221_1 := bc_ BK110 1 rfl; have hfz221_0 := blk_frozen BK110.out 0; have hfz221_1 := blk_frozen BK110.out 1))
                have n0_ : Aside0 (((w218.setCell ⟨gb110, 0, none⟩ (.string t107)).setCell ⟨gb110, 1, none⟩ (.string t108)).heap[gb105]? = some (.cells #[.string t101, .string t102] 35 (0, 0))) := ⟨fr_ BK105.out⟩; have n1_ : Aside0 (((w218.setCell ⟨gb110, 0, none⟩ (.string t107)).setCell ⟨gb110, 1, none⟩ (.string t108)).heap[gb106]? = some (.cells #[.string t103, .string t104] 35 (0, 0))) := ⟨fr_ BK106.out⟩; have n2_ : Aside0 (((w218.setCell ⟨gb110, 0, none⟩ (.string t107)).setCell ⟨gb110, 1, none⟩ (.string t108)).heap[gb110]? = some (.cells #[.string t107, .string t108] 35 (0, 0))) := ⟨rp_ BK110.out⟩; have n3_ : Aside0 (Below w.heap.size w ((w218.setCell ⟨gb110, 0, none⟩ (.string t107)).setCell ⟨gb110, 1, none⟩ (.string t108))) := ⟨b_ HB.out⟩; (try clear BK105); (try clear BK106); (try clear BK110); (try clear HB); generalize ((w218.setCell ⟨gb110, 0, none⟩ (.string t107)).setCell ⟨gb110, 1, none⟩ (.string t108)) = w222 at n0_ n1_ n2_ n3_ ⊢; have BK105 := n0_; have BK106 := n1_; have BK110 := n2_; have HB := n3_; clear n0_ n1_ n2_ n3_; replace BK105 := Aside0.mk (blk_drew BK105.out); replace BK106 := Aside0.mk (blk_drew BK106.out); replace BK110 := Aside0.mk (blk_drew BK110.out); replace HB := Aside0.mk (below_drew1 HB.out); refine sa_ 9 (fun w' => w'.cell? ⟨gb105, 0, none⟩ = some (.string t101) ∧ w'.cell? ⟨gb105, 1, none⟩ = some (.string t102)) (fun hHeld => ?_); refine with_tabW dl3_fixed.tab3 dl3_fixed.bits3 (fun HT_ HW_ => ?_); generalize w222.drew = w223 at BK105 BK106 BK110 HB hHeld ⊢; refine t2_ 0 22 rfl rfl HT_ HW_ hHeld ?_; refine join_ (σ := Nat) 2 #[true, true, true, true, true, true, true, false, false] (fun s_ => [(23, .agg #[.string t111, .string t112]), (24, .tuple #[.agg #[.string t113, .string t114], .bool false]), (5, .pointer (some ⟨s_, 0, none⟩)), (21, .tuple #[.agg #[.string t113, .string t114], .bool false]), (25, .agg #[.string t113, .string t114]), (26, .bool false)]) (fun s_ w' => (w'.cell? ⟨gb105, 0, none⟩ = some (.string t101) ∧ w'.cell? ⟨gb105, 1, none⟩ = some (.string t102)) ∧ (w'.heap[gb105]? = some (.cells #[.string t101, .string t102] 35 (0, 0))) ∧ (w'.heap[gb106]? = some (.cells #[.string t103, .string t104] 35 (0, 0))) ∧ (w'.heap[gb110]? = some (.cells #[.string t107, .string t108] 35 (0, 0))) ∧ (w'.heap[s_]? = some (.cells #[.string (⟨#[]⟩ : ByteArray), .string (⟨#[]⟩ : ByteArray)] 35 (0, 0))) ∧ (w.heap.size ≤ s_) ∧ (w.heap.size ≤ s_) ∧ (gb105 ≠ s_) ∧ (s_ ≠ gb105) ∧ (gb106 ≠ s_) ∧ (s_ ≠ gb106) ∧ (gb110 ≠ s_) ∧ (s_ ≠ gb110) ∧ (Below w.heap.size w w')) ?_ ?_; rotate_left
                ·intro hCont; refine two_ (i := 1) (j := 6) (Ni := some 23) (Nj := some 5) #[true, true, false, false, false, false, false, false, false] #[true, false, false, false, false, false, true, false, false] rfl rfl rfl rfl (two_of HT_.out (by kernel_rfl)) (by decide) (by decide) (fun K hK => ?_) (fun K hK => ?_)
                 ·skip; refine gs_ Tryz.func54 #[.int .i64 0] ?_; refine mo_ (rat_Of.calls 0 t111 t112 _ (lb_ HLD HB) A4.out) ?_; intro w224 hb; replace BK105 := kb_ BK105 hb; replace BK106 := kb_ BK106 hb; replace BK110 := kb_ BK110 hb; replace HB := bs_ HB hb; (try clear hb); refine hk_ hK (fun hHeld => ?_); clear hK K; refine nm_ ?_; refine two_ (i := 2) (j := 6) (Ni := some 24) (Nj := some 5) #[true, true, true, false, false, false, false, false, false] #[true, true, false, false, false, false, true, false, false] rfl rfl rfl rfl (two_of HT_.out (by kernel_rfl)) (by decide) (by decide) (fun K hK => ?_) (fun K hK => ?_)
                  ·skip; refine gs_ Tryz.func35 #[.agg #[.string t101, .string t102], .agg #[.string t111, .string t112]] ?_; refine mo_ (rat_Div.calls t101 t102 t111 t112 t113 t114 false _ (lb_ HLD HB) A5.out) ?_; intro w225 hb; replace BK105 := kb_ BK105 hb; replace BK106 := kb_ BK106 hb; replace BK110 := kb_ BK110 hb; replace HB := bs_ HB hb; (try clear hb); refine hk_ hK (fun hHeld => ?_); clear hK K; refine nm_ ?_; refine pu_ 3 21 rfl rfl HT_ ?_; refine pu_ 4 25 rfl rfl HT_ ?_; refine pu_ 5 26 rfl rfl HT_ ?_; refine on_ 6 (some 5) rfl rfl HT_ (fun K hK => ?_); refine box_step ?hg (N := 5) ?hd (cs := #[.string (⟨#[]⟩ : ByteArray), .string (⟨#[]⟩ : ByteArray)]) (t := 35) ?hr ?_; (case hd => rfl); (case hg => rfl); (case hr => first | (go_simp; done) | (go_simp; rfl)); intro gb116 hg w226 hbox hb; have BK116 := Aside0.mk (hbox); have GW116 := ge_ HB hg; have GE116 := ge_ HB hg; have NB105_116 := nl_ BK105 hg; have NB116_105 := ng_ BK105 hg; have NB106_116 := nl_ BK106 hg; have NB116_106 := ng_ BK106 hg; have NB110_116 := nl_ BK110 hg; have NB116_110 := ng_ BK110 hg; replace BK105 := kb_ BK105 hb; replace BK106 := kb_ BK106 hb; replace BK110 := kb_ BK110 hb; replace HB := bs_ HB hb; clear hb hbox hg; refine hk_ hK (fun hHeld => ?_); clear hK K; refine nm_ ?_; exact norm_ pa_ (hCont (gb116) _ ⟨hHeld, (k_ BK105.out), (k_ BK106.out), (k_ BK110.out), (k_ BK116.out), GW116.out, GE116.out, NB105_116.out, NB116_105.out, NB106_116.out, NB116_106.out, NB110_116.out, NB116_110.out, (b_ HB.out)⟩)
                  ·skip; refine box_step ?hg (N := 5) ?hd (cs := #[.string (⟨#[]⟩ : ByteArray), .string (⟨#[]⟩ : ByteArray)]) (t := 35) ?hr ?_; (case hd => rfl); (case hg => rfl); (case hr => first | (go_simp; done) | (go_simp; rfl)); intro gb116 hg w225 hbox hb; have BK116 := Aside0.mk (hbox); have GW116 := ge_ HB hg; have GE116 := ge_ HB hg; have NB105_116 := nl_ BK105 hg; have NB116_105 := ng_ BK105 hg; have NB106_116 := nl_ BK106 hg; have NB116_106 := ng_ BK106 hg; have NB110_116 := nl_ BK110 hg; have NB116_110 := ng_ BK110 hg; replace BK105 := kb_ BK105 hb; replace BK106 := kb_ BK106 hb; replace BK110 := kb_ BK110 hb; replace HB := bs_ HB hb; clear hb hbox hg; refine hk_ hK (fun hHeld => ?_); clear hK K; refine nm_ ?_; refine on_ 2 (some 24) rfl rfl HT_ (fun K hK => ?_); refine gs_ Tryz.func35 #[.agg #[.string t101, .string t102], .agg #[.string t111, .string t112]] ?_; refine mo_ (rat_Div.calls t101 t102 t111 t112 t113 t114 false _ (lb_ HLD HB) A5.out) ?_; intro w226 hb; replace BK105 := kb_ BK105 hb; replace BK106 := kb_ BK106 hb; replace BK110 := kb_ BK110 hb; replace BK116 := kb_ BK116 hb; replace HB := bs_ HB hb; (try clear hb); refine hk_ hK (fun hHeld => ?_); clear hK K; refine nm_ ?_; refine pu_ 3 21 rfl rfl HT_ ?_; refine pu_ 4 25 rfl rfl HT_ ?_; refine pu_ 5 26 rfl rfl HT_ ?_; exact norm_ pa_ (hCont (gb116) _ ⟨hHeld, (k_ BK105.out), (k_ BK106.out), (k_ BK110.out), (k_ BK116.out), GW116.out, GE116.out, NB105_116.out, NB116_105.out, NB106_116.out, NB116_106.out, NB110_116.out, NB116_110.out, (b_ HB.out)⟩)
                 ·skip; refine box_step ?hg (N := 5) ?hd (cs := #[.string (⟨#[]⟩ : ByteArray), .string (⟨#[]⟩ : ByteArray)]) (t := 35) ?hr ?_; (case hd => rfl); (case hg => rfl); (case hr => first | (go_simp; done) | (go_simp; rfl)); intro gb116 hg w224 hbox hb; have BK116 := Aside0.mk (hbox); have GW116 := ge_ HB hg; have GE116 := ge_ HB hg; have NB105_116 := nl_ BK105 hg; have NB116_105 := ng_ BK105 hg; have NB106_116 := nl_ BK106 hg; have NB116_106 := ng_ BK106 hg; have NB110_116 := nl_ BK110 hg; have NB116_110 := ng_ BK110 hg; replace BK105 := kb_ BK105 hb; replace BK106 := kb_ BK106 hb; replace BK110 := kb_ BK110 hb; replace HB := bs_ HB hb; clear hb hbox hg; refine hk_ hK (fun hHeld => ?_); clear hK K; refine nm_ ?_; refine on_ 1 (some 23) rfl rfl HT_ (fun K hK => ?_); refine gs_ Tryz.func54 #[.int .i64 0] ?_; refine mo_ (rat_Of.calls 0 t111 t112 _ (lb_ HLD HB) A4.out) ?_; intro w225 hb; replace BK105 := kb_ BK105 hb; replace BK106 := kb_ BK106 hb; replace BK110 := kb_ BK110 hb; replace BK116 := kb_ BK116 hb; replace HB := bs_ HB hb; (try clear hb); refine hk_ hK (fun hHeld => ?_); clear hK K; refine nm_ ?_; refine on_ 2 (some 24) rfl rfl HT_ (fun K hK => ?_); refine gs_ Tryz.func35 #[.agg #[.string t101, .string t102], .agg #[.string t111, .string t112]] ?_; refine mo_ (rat_Div.calls t101 t102 t111 t112 t113 t114 false _ (lb_ HLD HB) A5.out) ?_; intro w226 hb; replace BK105 := kb_ BK105 hb; replace BK106 := kb_ BK106 hb; replace BK110 := kb_ BK110 hb; replace BK116 := kb_ BK116 hb; replace HB := bs_ HB hb; (try clear hb); refine hk_ hK (fun hHeld => ?_); clear hK K; refine nm_ ?_; refine pu_ 3 21 rfl rfl HT_ ?_; refine pu_ 4 25 rfl rfl HT_ ?_; refine pu_ 5 26 rfl rfl HT_ ?_; exact norm_ pa_ (hCont (gb116) _ ⟨hHeld, (k_ BK105.out), (k_ BK106.out), (k_ BK110.out), (k_ BK116.out), GW116.out, GE116.out, NB105_116.out, NB116_105.out, NB106_116.out, NB116_106.out, NB110_116.out, NB116_110.out, (b_ HB.out)⟩)
                rintro gb116 w227 ⟨hS_, h0_, h1_, h2_, h3_, h4_, h5_, h6_, h7_, h8_, h9_, h10_, h11_, h12_⟩; have n0_ : Aside0 (w227.heap[gb105]? = some (.cells #[.string t101, .string t102] 35 (0, 0))) := ⟨h0_⟩; have n1_ : Aside0 (w227.heap[gb106]? = some (.cells #[.string t103, .string t104] 35 (0, 0))) := ⟨h1_⟩; have n2_ : Aside0 (w227.heap[gb110]? = some (.cells #[.string t107, .string t108] 35 (0, 0))) := ⟨h2_⟩; have n3_ : Aside0 (w227.heap[gb116]? = some (.cells #[.string (⟨#[]⟩ : ByteArray), .string (⟨#[]⟩ : ByteArray)] 35 (0, 0))) := ⟨h3_⟩; have n4_ : Aside0 (w.heap.size ≤ gb116) := ⟨h4_⟩; have n5_ : Aside0 (w.heap.size ≤ gb116) := ⟨h5_⟩; have n6_ : Aside0 (gb105 ≠ gb116) := ⟨h6_⟩; have n7_ : Aside0 (gb116 ≠ gb105) := ⟨h7_⟩; have n8_ : Aside0 (gb106 ≠ gb116) := ⟨h8_⟩; have n9_ : Aside0 (gb116 ≠ gb106) := ⟨h9_⟩; have n10_ : Aside0 (gb110 ≠ gb116) := ⟨h10_⟩; have n11_ : Aside0 (gb116 ≠ gb110) := ⟨h11_⟩; have n12_ : Aside0 (Below w.heap.size w w227) := ⟨h12_⟩; clear BK105; clear BK106; clear BK110; clear HB; clear h0_ h1_ h2_ h3_ h4_ h5_ h6_ h7_ h8_ h9_ h10_ h11_ h12_; have BK105 := n0_; have BK106 := n1_; have BK110 := n2_; have BK116 := n3_; have GW116 := n4_; have GE116 := n5_; have NB105_116 := n6_; have NB116_105 := n7_; have NB106_116 := n8_; have NB116_106 := n9_; have NB110_116 := n10_; have NB116_110 := n11_; have HB := n12_; clear n0_ n1_ n2_ n3_ n4_ n5_ n6_ n7_ n8_ n9_ n10_ n11_ n12_; have hHeld : w227.cell? ⟨gb105, 0, none⟩ = some (.string t101) ∧ w227.cell? ⟨gb105, 1, none⟩ = some (.string t102) := hS_; refine norm_ (a' := ?_) ?_ ?_; rotate_left
                ·simp only [putAll, Act.put, List.setIfInBounds_toArray, List.set_cons_zero, List.set_cons_succ]
                 rfl
                refine on_ 7 none rfl rfl HT_ (fun K hK => ?_); have hs228 := bc_ BK116 0 rfl; have hfs228 := blk_frozen BK116.out 0; have hns228_0 := NB105_116.out; have hns228_1 := NB106_116.out; have hns228_2 := NB110_116.out; have hms228_0 := NB116_105.out; have hms228_1 := NB116_106.out; have hms228_2 := NB116_110.out; have hs229 := bc_ BK116 1 rfl; have hfs229 := blk_frozen BK116.out 1; have hns229_0 := NB105_116.out; have hns229_1 := NB106_116.out; have hns229_2 := NB110_116.out; have hms229_0 := NB116_105.out; have hms229_1 := NB116_106.out; have hms229_2 := NB116_110.out; refine skip_ (w1 := ?_) (by rfl) rfl ?_ ?_; rotate_left
                ·go_simp
                 rfl
                refine hf_ hK hHeld (fun hHeld => ?_); clear hK K; refine pu_ 8 6 rfl rfl HT_ ?_; refine done_ (done_of HT_.out (by kernel_rfl)) ?_
                try go_wp2_with (first | (refine gl_ 28 Tryz.func74 #[.int .i64 (-7), .int .i64 2] ?_; refine mo_ (r3_One.calls (-7) 2 t117 t118 _ A6.out) ?_; intro w230 hb; replace BK105 := Aside0.mk (blk_below (g := gb105) (o := .cells #[.string t101, .string t102] 35 (0, 0)) (fr_ BK105.out) hb); replace BK106 := Aside0.mk (blk_below (g := gb106) (o := .cells #[.string t103, .string t104] 35 (0, 0)) (fr_ BK106.out) hb); replace BK110 := Aside0.mk (blk_below (g := gb110) (o := .cells #[.string t107, .string t108] 35 (0, 0)) (fr_ BK110.out) hb); replace BK116 := Aside0.mk (blk_below (g := gb116) (o := .cells #[.string t113, .string t114] 35 (0, 0)) (rp_ BK116.out) hb); replace HB := bs_ HB hb; (try clear hb); (try clear hb2); (try clear hk); (try clear hi)) | (refine gl_ 29 Tryz.func37 #[.agg #[.string t117, .string t118]] ?_; refine mo_ (rat_Split.calls t117 t118 t119 t120 t121 _ (lb_ HLD HB) A7.out) ?_; intro w231 hb; replace BK105 := kb_ BK105 hb; replace BK106 := kb_ BK106 hb; replace BK110 := kb_ BK110 hb; replace BK116 := kb_ BK116 hb; replace HB := bs_ HB hb; (try clear hb); (try clear hb2); (try clear hk); (try clear hi)) | ((with_reducible refine gate_dst (N := 8) rfl ?_); refine be_ 8 #[.string (⟨#[]⟩ : ByteArray), .string (⟨#[]⟩ : ByteArray)] 35 ?_; intro gb122 hg w232 hbox hb; have BK122 := Aside0.mk (hbox); have GW122 := ge_ HB hg; have GE122 := ge_ HB hg; have NB105_122 := nl_ BK105 hg; have NB122_105 := ng_ BK105 hg; have NB106_122 := nl_ BK106 hg; have NB122_106 := ng_ BK106 hg; have NB110_122 := nl_ BK110 hg; have NB122_110 := ng_ BK110 hg; have NB116_122 := nl_ BK116 hg; have NB122_116 := ng_ BK116 hg; replace BK105 := kb_ BK105 hb; replace BK106 := kb_ BK106 hb; replace BK110 := kb_ BK110 hb; replace BK116 := kb_ BK116 hb; replace HB := bs_ HB hb; clear hb hbox hg; have hnb233 := NB122_105.out; have hnc233 := NB105_122.out; have hnb234 := NB122_106.out; have hnc234 := NB106_122.out; have hnb235 := NB122_110.out; have hnc235 := NB110_122.out; have hnb236 := NB122_116.out; have hnc236 := NB116_122.out; have hcz237_0 := bc_ BK122 0 rfl; have hcz237_1 := bc_ BK122 1 rfl; have hfz237_0 := blk_frozen BK122.out 0; have hfz237_1 := blk_frozen BK122.out 1) | (refine gl_ 33 Tryz.func33 #[.string (⟨#[54]⟩ : ByteArray), .string (⟨#[45, 52]⟩ : ByteArray)] ?_; refine mo_ (rat_Make.calls (⟨#[54]⟩ : ByteArray) (⟨#[45, 52]⟩ : ByteArray) t123 t124 true _ (lb_ HLD HB) A8.out) ?_; intro w238 hb; replace BK105 := Aside0.mk (blk_below (g := gb105) (o := .cells #[.string t101, .string t102] 35 (0, 0)) (fr_ BK105.out) hb); replace BK106 := Aside0.mk (blk_below (g := gb106) (o := .cells #[.string t103, .string t104] 35 (0, 0)) (fr_ BK106.out) hb); replace BK110 := Aside0.mk (blk_below (g := gb110) (o := .cells #[.string t107, .string t108] 35 (0, 0)) (fr_ BK110.out) hb); replace BK116 := Aside0.mk (blk_below (g := gb116) (o := .cells #[.string t113, .string t114] 35 (0, 0)) (fr_ BK116.out) hb); replace BK122 := Aside0.mk (blk_below (g := gb122) (o := .cells #[.string t120, .string t121] 35 (0, 0)) (rp_ BK122.out) hb); replace HB := bs_ HB hb; (try clear hb); (try clear hb2); (try clear hk); (try clear hi)) | ((with_reducible refine gate_dst (N := 9) rfl ?_); refine be_ 9 #[.string (⟨#[]⟩ : ByteArray), .string (⟨#[]⟩ : ByteArray)] 35 ?_; intro gb126 hg w239 hbox hb; have BK126 := Aside0.mk (hbox); have GW126 := ge_ HB hg; have GE126 := ge_ HB hg; have NB105_126 := nl_ BK105 hg; have NB126_105 := ng_ BK105 hg; have NB106_126 := nl_ BK106 hg; have NB126_106 := ng_ BK106 hg; have NB110_126 := nl_ BK110 hg; have NB126_110 := ng_ BK110 hg; have NB116_126 := nl_ BK116 hg; have NB126_116 := ng_ BK116 hg; have NB122_126 := nl_ BK122 hg; have NB126_122 := ng_ BK122 hg; replace BK105 := kb_ BK105 hb; replace BK106 := kb_ BK106 hb; replace BK110 := kb_ BK110 hb; replace BK116 := kb_ BK116 hb; replace BK122 := kb_ BK122 hb; replace HB := bs_ HB hb; clear hb hbox hg; have hnb240 := NB126_105.out; have hnc240 := NB105_126.out; have hnb241 := NB126_106.out; have hnc241 := NB106_126.out; have hnb242 := NB126_110.out; have hnc242 := NB110_126.out; have hnb243 := NB126_116.out; have hnc243 := NB116_126.out; have hnb244 := NB126_122.out; have hnc244 := NB122_126.out; have hcz245_0 := bc_ BK126 0 rfl; have hcz245_1 := bc_ BK126 1 rfl; have hfz245_0 := blk_frozen BK126.out 0; have hfz245_1 := blk_frozen BK126.out 1) | (refine gl_ 37 Tryz.func33 #[.string (⟨#[49]⟩ : ByteArray), .string (⟨#[48]⟩ : ByteArray)] ?_; refine mo_ (rat_Make.calls (⟨#[49]⟩ : ByteArray) (⟨#[48]⟩ : ByteArray) t127 t128 false _ (lb_ HLD HB) A9.out) ?_; intro w246 hb; replace BK105 := Aside0.mk (blk_below (g := gb105) (o := .cells #[.string t101, .string t102] 35 (0, 0)) (fr_ BK105.out) hb); replace BK106 := Aside0.mk (blk_below (g := gb106) (o := .cells #[.string t103, .string t104] 35 (0, 0)) (fr_ BK106.out) hb); replace BK110 := Aside0.mk (blk_below (g := gb110) (o := .cells #[.string t107, .string t108] 35 (0, 0)) (fr_ BK110.out) hb); replace BK116 := Aside0.mk (blk_below (g := gb116) (o := .cells #[.string t113, .string t114] 35 (0, 0)) (fr_ BK116.out) hb); replace BK122 := Aside0.mk (blk_below (g := gb122) (o := .cells #[.string t120, .string t121] 35 (0, 0)) (fr_ BK122.out) hb); replace BK126 := Aside0.mk (blk_below (g := gb126) (o := .cells #[.string t123, .string t124] 35 (0, 0)) (rp_ BK126.out) hb); replace HB := bs_ HB hb; (try clear hb); (try clear hb2); (try clear hk); (try clear hi)) | ((with_reducible refine gate_dst (N := 11) rfl ?_); refine be_ 11 #[.string (⟨#[]⟩ : ByteArray), .string (⟨#[]⟩ : ByteArray)] 35 ?_; intro gb130 hg w247 hbox hb; have BK130 := Aside0.mk (hbox); have GW130 := ge_ HB hg; have GE130 := ge_ HB hg; have NB105_130 := nl_ BK105 hg; have NB130_105 := ng_ BK105 hg; have NB106_130 := nl_ BK106 hg; have NB130_106 := ng_ BK106 hg; have NB110_130 := nl_ BK110 hg; have NB130_110 := ng_ BK110 hg; have NB116_130 := nl_ BK116 hg; have NB130_116 := ng_ BK116 hg; have NB122_130 := nl_ BK122 hg; have NB130_122 := ng_ BK122 hg; have NB126_130 := nl_ BK126 hg; have NB130_126 := ng_ BK126 hg; replace BK105 := kb_ BK105 hb; replace BK106 := kb_ BK106 hb; replace BK110 := kb_ BK110 hb; replace BK116 := kb_ BK116 hb; replace BK122 := kb_ BK122 hb; replace BK126 := kb_ BK126 hb; replace HB := bs_ HB hb; clear hb hbox hg; have hnb248 := NB130_105.out; have hnc248 := NB105_130.out; have hnb249 := NB130_106.out; have hnc249 := NB106_130.out; have hnb250 := NB130_110.out; have hnc250 := NB110_130.out; have hnb251 := NB130_116.out; have hnc251 := NB116_130.out; have hnb252 := NB130_122.out; have hnc252 := NB122_130.out; have hnb253 := NB130_126.out; have hnc253 := NB126_130.out; have hcz254_0 := bc_ BK130 0 rfl; have hcz254_1 := bc_ BK130 1 rfl; have hfz254_0 := blk_frozen BK130.out 0; have hfz254_1 := blk_frozen BK130.out 1))
                have n0_ : Aside0 (((w247.setCell ⟨gb130, 0, none⟩ (.string t127)).setCell ⟨gb130, 1, none⟩ (.string t128)).heap[gb105]? = some (.cells #[.string t101, .string t102] 35 (0, 0))) := ⟨fr_ BK105.out⟩; have n1_ : Aside0 (((w247.setCell ⟨gb130, 0, none⟩ (.string t127)).setCell ⟨gb130, 1, none⟩ (.string t128)).heap[gb106]? = some (.cells #[.string t103, .string t104] 35 (0, 0))) := ⟨fr_ BK106.out⟩; have n2_ : Aside0 (((w247.setCell ⟨gb130, 0, none⟩ (.string t127)).setCell ⟨gb130, 1, none⟩ (.string t128)).heap[gb110]? = some (.cells #[.string t107, .string t108] 35 (0, 0))) := ⟨fr_ BK110.out⟩; have n3_ : Aside0 (((w247.setCell ⟨gb130, 0, none⟩ (.string t127)).setCell ⟨gb130, 1, none⟩ (.string t128)).heap[gb116]? = some (.cells #[.string t113, .string t114] 35 (0, 0))) := ⟨fr_ BK116.out⟩; have n4_ : Aside0 (((w247.setCell ⟨gb130, 0, none⟩ (.string t127)).setCell ⟨gb130, 1, none⟩ (.string t128)).heap[gb122]? = some (.cells #[.string t120, .string t121] 35 (0, 0))) := ⟨fr_ BK122.out⟩; have n5_ : Aside0 (((w247.setCell ⟨gb130, 0, none⟩ (.string t127)).setCell ⟨gb130, 1, none⟩ (.string t128)).heap[gb126]? = some (.cells #[.string t123, .string t124] 35 (0, 0))) := ⟨fr_ BK126.out⟩; have n6_ : Aside0 (((w247.setCell ⟨gb130, 0, none⟩ (.string t127)).setCell ⟨gb130, 1, none⟩ (.string t128)).heap[gb130]? = some (.cells #[.string t127, .string t128] 35 (0, 0))) := ⟨rp_ BK130.out⟩; have n7_ : Aside0 (Below w.heap.size w ((w247.setCell ⟨gb130, 0, none⟩ (.string t127)).setCell ⟨gb130, 1, none⟩ (.string t128))) := ⟨b_ HB.out⟩; (try clear BK105); (try clear BK106); (try clear BK110); (try clear BK116); (try clear BK122); (try clear BK126); (try clear BK130); (try clear HB); generalize ((w247.setCell ⟨gb130, 0, none⟩ (.string t127)).setCell ⟨gb130, 1, none⟩ (.string t128)) = w255 at n0_ n1_ n2_ n3_ n4_ n5_ n6_ n7_ ⊢; have BK105 := n0_; have BK106 := n1_; have BK110 := n2_; have BK116 := n3_; have BK122 := n4_; have BK126 := n5_; have BK130 := n6_; have HB := n7_; clear n0_ n1_ n2_ n3_ n4_ n5_ n6_ n7_; replace BK105 := Aside0.mk (blk_drew BK105.out); replace BK106 := Aside0.mk (blk_drew BK106.out); replace BK110 := Aside0.mk (blk_drew BK110.out); replace BK116 := Aside0.mk (blk_drew BK116.out); replace BK122 := Aside0.mk (blk_drew BK122.out); replace BK126 := Aside0.mk (blk_drew BK126.out); replace BK130 := Aside0.mk (blk_drew BK130.out); replace HB := Aside0.mk (below_drew1 HB.out); refine sa_ 79 (fun w' => w'.cell? ⟨gb105, 0, none⟩ = some (.string t101) ∧ w'.cell? ⟨gb105, 1, none⟩ = some (.string t102) ∧ w'.cell? ⟨gb106, 0, none⟩ = some (.string t103) ∧ w'.cell? ⟨gb106, 1, none⟩ = some (.string t104) ∧ w'.cell? ⟨gb110, 0, none⟩ = some (.string t107) ∧ w'.cell? ⟨gb110, 1, none⟩ = some (.string t108) ∧ w'.cell? ⟨gb122, 0, none⟩ = some (.string t120) ∧ w'.cell? ⟨gb122, 1, none⟩ = some (.string t121) ∧ w'.cell? ⟨gb126, 0, none⟩ = some (.string t123) ∧ w'.cell? ⟨gb126, 1, none⟩ = some (.string t124)) (fun hHeld => ?_); refine with_tabW dl3_fixed.tab7 dl3_fixed.bits7 (fun HT_ HW_ => ?_); generalize w255.drew = w256 at BK105 BK106 BK110 BK116 BK122 BK126 BK130 HB hHeld ⊢; refine t10_ 0 40 rfl rfl HT_ HW_ hHeld ?_; refine t10_ 1 41 rfl rfl HT_ HW_ hHeld ?_; refine on_ 2 (some 42) rfl rfl HT_ (fun K hK => ?_); refine gs_ Tryz.func47 #[.agg #[.string t101, .string t102], .agg #[.string t103, .string t104]] ?_; refine mo_ (rat_Add.calls t101 t102 t103 t104 t131 t132 _ (lb_ HLD HB) A10.out) ?_; intro w257 hb; replace BK105 := kb_ BK105 hb; replace BK106 := kb_ BK106 hb; replace BK110 := kb_ BK110 hb; replace BK116 := kb_ BK116 hb; replace BK122 := kb_ BK122 hb; replace BK126 := kb_ BK126 hb; replace BK130 := kb_ BK130 hb; replace HB := bs_ HB hb; (try clear hb); refine hk_ hK (fun hHeld => ?_); clear hK K; refine nm_ ?_; refine on_ 3 (some 43) rfl rfl HT_ (fun K hK => ?_); refine gs_ Tryz.func74 #[.int .i64 5, .int .i64 6] ?_; refine mo_ (r3_One.calls 5 6 t133 t134 _ A11.out) ?_; intro w258 hb; replace BK105 := kb_ BK105 hb; replace BK106 := kb_ BK106 hb; replace BK110 := kb_ BK110 hb; replace BK116 := kb_ BK116 hb; replace BK122 := kb_ BK122 hb; replace BK126 := kb_ BK126 hb; replace BK130 := kb_ BK130 hb; replace HB := bs_ HB hb; (try clear hb); refine hk_ hK (fun hHeld => ?_); clear hK K; refine nm_ ?_; refine pu_ 4 44 rfl rfl HT_ ?_; refine pu_ 5 45 rfl rfl HT_ ?_; refine t10_ 6 46 rfl rfl HT_ HW_ hHeld ?_; refine t10_ 7 47 rfl rfl HT_ HW_ hHeld ?_; refine on_ 8 (some 48) rfl rfl HT_ (fun K hK => ?_); refine gs_ Tryz.func49 #[.agg #[.string t103, .string t104], .agg #[.string t101, .string t102]] ?_; refine mo_ (rat_Sub.calls t103 t104 t101 t102 t135 t136 _ (lb_ HLD HB) A13.out) ?_; intro w259 hb; replace BK105 := kb_ BK105 hb; replace BK106 := kb_ BK106 hb; replace BK110 := kb_ BK110 hb; replace BK116 := kb_ BK116 hb; replace BK122 := kb_ BK122 hb; replace BK126 := kb_ BK126 hb; replace BK130 := kb_ BK130 hb; replace HB := bs_ HB hb; (try clear hb); refine hk_ hK (fun hHeld => ?_); clear hK K; refine nm_ ?_; refine on_ 9 (some 49) rfl rfl HT_ (fun K hK => ?_); refine gs_ Tryz.func74 #[.int .i64 (-1), .int .i64 6] ?_; refine mo_ (r3_One.calls (-1) 6 t137 t138 _ A14.out) ?_; intro w260 hb; replace BK105 := kb_ BK105 hb; replace BK106 := kb_ BK106 hb; replace BK110 := kb_ BK110 hb; replace BK116 := kb_ BK116 hb; replace BK122 := kb_ BK122 hb; replace BK126 := kb_ BK126 hb; replace BK130 := kb_ BK130 hb; replace HB := bs_ HB hb; (try clear hb); refine hk_ hK (fun hHeld => ?_); clear hK K; refine nm_ ?_; refine pu_ 10 50 rfl rfl HT_ ?_; refine pu_ 11 51 rfl rfl HT_ ?_; refine pu_ 12 52 rfl rfl HT_ ?_; refine t10_ 13 53 rfl rfl HT_ HW_ hHeld ?_; refine t10_ 14 54 rfl rfl HT_ HW_ hHeld ?_; refine on_ 15 (some 55) rfl rfl HT_ (fun K hK => ?_); refine gs_ Tryz.func51 #[.agg #[.string t101, .string t102], .agg #[.string t103, .string t104]] ?_; refine mo_ (rat_Mul.calls t101 t102 t103 t104 t139 t140 _ (lb_ HLD HB) A16.out) ?_; intro w261 hb; replace BK105 := kb_ BK105 hb; replace BK106 := kb_ BK106 hb; replace BK110 := kb_ BK110 hb; replace BK116 := kb_ BK116 hb; replace BK122 := kb_ BK122 hb; replace BK126 := kb_ BK126 hb; replace BK130 := kb_ BK130 hb; replace HB := bs_ HB hb; (try clear hb); refine hk_ hK (fun hHeld => ?_); clear hK K; refine nm_ ?_; refine on_ 16 (some 56) rfl rfl HT_ (fun K hK => ?_); refine gs_ Tryz.func74 #[.int .i64 1, .int .i64 6] ?_; refine mo_ (r3_One.calls 1 6 t141 t142 _ A17.out) ?_; intro w262 hb; replace BK105 := kb_ BK105 hb; replace BK106 := kb_ BK106 hb; replace BK110 := kb_ BK110 hb; replace BK116 := kb_ BK116 hb; replace BK122 := kb_ BK122 hb; replace BK126 := kb_ BK126 hb; replace BK130 := kb_ BK130 hb; replace HB := bs_ HB hb; (try clear hb); refine hk_ hK (fun hHeld => ?_); clear hK K; refine nm_ ?_; refine pu_ 17 57 rfl rfl HT_ ?_; refine pu_ 18 58 rfl rfl HT_ ?_; refine pu_ 19 59 rfl rfl HT_ ?_; refine t10_ 20 60 rfl rfl HT_ HW_ hHeld ?_; refine on_ 21 (some 61) rfl rfl HT_ (fun K hK => ?_); refine gs_ Tryz.func74 #[.int .i64 3, .int .i64 2] ?_; refine mo_ (r3_One.calls 3 2 t143 t144 _ A19.out) ?_; intro w263 hb; replace BK105 := kb_ BK105 hb; replace BK106 := kb_ BK106 hb; replace BK110 := kb_ BK110 hb; replace BK116 := kb_ BK116 hb; replace BK122 := kb_ BK122 hb; replace BK126 := kb_ BK126 hb; replace BK130 := kb_ BK130 hb; replace HB := bs_ HB hb; (try clear hb); refine hk_ hK (fun hHeld => ?_); clear hK K; refine nm_ ?_; refine pu_ 22 62 rfl rfl HT_ ?_; refine pu_ 23 63 rfl rfl HT_ ?_; refine pu_ 24 64 rfl rfl HT_ ?_; refine pu_ 25 65 rfl rfl HT_ ?_; refine pu_ 26 66 rfl rfl HT_ ?_; refine pu_ 27 67 rfl rfl HT_ ?_; refine pu_ 28 68 rfl rfl HT_ ?_; refine pu_ 29 69 rfl rfl HT_ ?_; refine pu_ 30 70 rfl rfl HT_ ?_; refine pu_ 31 71 rfl rfl HT_ ?_; refine pu_ 32 72 rfl rfl HT_ ?_; refine pu_ 33 73 rfl rfl HT_ ?_; refine pu_ 34 74 rfl rfl HT_ ?_; refine pu_ 35 75 rfl rfl HT_ ?_; refine t10_ 36 76 rfl rfl HT_ HW_ hHeld ?_; refine t10_ 37 77 rfl rfl HT_ HW_ hHeld ?_; refine pu_ 38 78 rfl rfl HT_ ?_; refine pu_ 39 79 rfl rfl HT_ ?_; refine pu_ 40 80 rfl rfl HT_ ?_; refine t10_ 41 81 rfl rfl HT_ HW_ hHeld ?_; refine on_ 42 (some 82) rfl rfl HT_ (fun K hK => ?_); refine gs_ Tryz.func74 #[.int .i64 (-3), .int .i64 2] ?_; refine mo_ (r3_One.calls (-3) 2 t145 t146 _ A79.out) ?_; intro w264 hb; replace BK105 := kb_ BK105 hb; replace BK106 := kb_ BK106 hb; replace BK110 := kb_ BK110 hb; replace BK116 := kb_ BK116 hb; replace BK122 := kb_ BK122 hb; replace BK126 := kb_ BK126 hb; replace BK130 := kb_ BK130 hb; replace HB := bs_ HB hb; (try clear hb); refine hk_ hK (fun hHeld => ?_); clear hK K; refine nm_ ?_; refine pu_ 43 83 rfl rfl HT_ ?_; refine pu_ 44 84 rfl rfl HT_ ?_; refine pu_ 45 85 rfl rfl HT_ ?_; refine pu_ 46 86 rfl rfl HT_ ?_; refine pu_ 47 87 rfl rfl HT_ ?_; refine pu_ 48 88 rfl rfl HT_ ?_; refine pu_ 49 89 rfl rfl HT_ ?_; refine pu_ 50 90 rfl rfl HT_ ?_; refine pu_ 51 91 rfl rfl HT_ ?_; refine pu_ 52 92 rfl rfl HT_ ?_; refine t10_ 53 93 rfl rfl HT_ HW_ hHeld ?_; refine t10_ 54 94 rfl rfl HT_ HW_ hHeld ?_; refine on_ 55 (some 95) rfl rfl HT_ (fun K hK => ?_); refine gs_ Tryz.func45 #[.agg #[.string t101, .string t102], .agg #[.string t103, .string t104]] ?_; refine mo_ (rat_Cmp.calls t101 t102 t103 t104 t147 _ (lb_ HLD HB) A138.out) ?_; intro w265 hb; replace BK105 := kb_ BK105 hb; replace BK106 := kb_ BK106 hb; replace BK110 := kb_ BK110 hb; replace BK116 := kb_ BK116 hb; replace BK122 := kb_ BK122 hb; replace BK126 := kb_ BK126 hb; replace BK130 := kb_ BK130 hb; replace HB := bs_ HB hb; (try clear hb); refine hk_ hK (fun hHeld => ?_); clear hK K; refine nm_ ?_; refine pu_ 56 96 rfl rfl HT_ ?_; refine pu_ 57 97 rfl rfl HT_ ?_; refine pu_ 58 98 rfl rfl HT_ ?_; refine t10_ 59 99 rfl rfl HT_ HW_ hHeld ?_; refine on_ 60 (some 100) rfl rfl HT_ (fun K hK => ?_); refine gs_ Tryz.func43 #[.agg #[.string t101, .string t102]] ?_; refine mo_ (rat_Neg.calls t101 t102 t148 t149 _ (lb_ HLD HB) A140.out) ?_; intro w266 hb; replace BK105 := kb_ BK105 hb; replace BK106 := kb_ BK106 hb; replace BK110 := kb_ BK110 hb; replace BK116 := kb_ BK116 hb; replace BK122 := kb_ BK122 hb; replace BK126 := kb_ BK126 hb; replace BK130 := kb_ BK130 hb; replace HB := bs_ HB hb; (try clear hb); refine hk_ hK (fun hHeld => ?_); clear hK K; refine nm_ ?_; refine on_ 61 (some 101) rfl rfl HT_ (fun K hK => ?_); refine gs_ Tryz.func41 #[.agg #[.string t148, .string t149]] ?_; refine mo_ (rat_Sign.calls t148 t149 t150 _ (lb_ HLD HB) A141.out) ?_; intro w267 hb; replace BK105 := kb_ BK105 hb; replace BK106 := kb_ BK106 hb; replace BK110 := kb_ BK110 hb; replace BK116 := kb_ BK116 hb; replace BK122 := kb_ BK122 hb; replace BK126 := kb_ BK126 hb; replace BK130 := kb_ BK130 hb; replace HB := bs_ HB hb; (try clear hb); refine hk_ hK (fun hHeld => ?_); clear hK K; refine nm_ ?_; refine pu_ 62 102 rfl rfl HT_ ?_; refine pu_ 63 103 rfl rfl HT_ ?_; refine pu_ 64 104 rfl rfl HT_ ?_; refine on_ 65 (some 105) rfl rfl HT_ (fun K hK => ?_); refine gs_ Tryz.func54 #[.int .i64 0] ?_; refine mo_ (rat_Of.calls 0 t151 t152 _ (lb_ HLD HB) A143.out) ?_; intro w268 hb; replace BK105 := kb_ BK105 hb; replace BK106 := kb_ BK106 hb; replace BK110 := kb_ BK110 hb; replace BK116 := kb_ BK116 hb; replace BK122 := kb_ BK122 hb; replace BK126 := kb_ BK126 hb; replace BK130 := kb_ BK130 hb; replace HB := bs_ HB hb; (try clear hb); refine hk_ hK (fun hHeld => ?_); clear hK K; refine nm_ ?_; refine on_ 66 (some 106) rfl rfl HT_ (fun K hK => ?_); refine gs_ Tryz.func39 #[.agg #[.string t151, .string t152]] ?_; refine mo_ (rat_May.calls t151 t152 true _ (lb_ HLD HB) A144.out) ?_; intro w269 hb; replace BK105 := kb_ BK105 hb; replace BK106 := kb_ BK106 hb; replace BK110 := kb_ BK110 hb; replace BK116 := kb_ BK116 hb; replace BK122 := kb_ BK122 hb; replace BK126 := kb_ BK126 hb; replace BK130 := kb_ BK130 hb; replace HB := bs_ HB hb; (try clear hb); refine hk_ hK (fun hHeld => ?_); clear hK K; refine nm_ ?_; refine pu_ 67 107 rfl rfl HT_ ?_; refine pu_ 68 108 rfl rfl HT_ ?_; refine pu_ 69 109 rfl rfl HT_ ?_; refine on_ 70 (some 110) rfl rfl HT_ (fun K hK => ?_); refine gs_ Tryz.func39 #[.agg #[.string (⟨#[]⟩ : ByteArray), .string (⟨#[]⟩ : ByteArray)]] ?_; refine mo_ (rat_May.calls (⟨#[]⟩ : ByteArray) (⟨#[]⟩ : ByteArray) false _ (lb_ HLD HB) A146.out) ?_; intro w270 hb; replace BK105 := kb_ BK105 hb; replace BK106 := kb_ BK106 hb; replace BK110 := kb_ BK110 hb; replace BK116 := kb_ BK116 hb; replace BK122 := kb_ BK122 hb; replace BK126 := kb_ BK126 hb; replace BK130 := kb_ BK130 hb; replace HB := bs_ HB hb; (try clear hb); refine hk_ hK (fun hHeld => ?_); clear hK K; refine nm_ ?_; refine pu_ 71 111 rfl rfl HT_ ?_; refine pu_ 72 112 rfl rfl HT_ ?_; refine pu_ 73 113 rfl rfl HT_ ?_; refine pu_ 74 114 rfl rfl HT_ ?_; refine on_ 75 (some 115) rfl rfl HT_ (fun K hK => ?_); refine gs_ Tryz.func39 #[.agg #[.string (⟨#[50]⟩ : ByteArray), .string (⟨#[52]⟩ : ByteArray)]] ?_; refine mo_ (rat_May.calls (⟨#[50]⟩ : ByteArray) (⟨#[52]⟩ : ByteArray) t155 _ (lb_ HLD HB) A209.out) ?_; intro w271 hb; replace BK105 := kb_ BK105 hb; replace BK106 := kb_ BK106 hb; replace BK110 := kb_ BK110 hb; replace BK116 := kb_ BK116 hb; replace BK122 := kb_ BK122 hb; replace BK126 := kb_ BK126 hb; replace BK130 := kb_ BK130 hb; replace HB := bs_ HB hb; (try clear hb); refine hk_ hK (fun hHeld => ?_); clear hK K; refine nm_ ?_; refine pu_ 76 116 rfl rfl HT_ ?_; refine pu_ 77 117 rfl rfl HT_ ?_; refine pu_ 78 0 rfl rfl HT_ ?_; refine done_ (done_of HT_.out (by kernel_rfl)) ?_
                try go_wp2
                go_ret
                exact ⟨er_, b_ HB.out⟩
              ·replace c145 := Bool.eq_false_iff.mpr c145; subst c145
               have H1 : (some false) = some r := by rw [if_neg (show ¬ (false = true) by decide)] at H; exact H
               exact absurd (H1.trans (congrArg some hr_.out)) (by decide)
             ·rw [if_neg c142] at H; exact absurd (H.trans (congrArg some hr_.out)) (by decide)
            ·rw [if_neg c139] at H; exact absurd (H.trans (congrArg some hr_.out)) (by decide)
          ·replace c81 := Bool.eq_false_iff.mpr c81; subst c81
           have H1 : (some false) = some r := by rw [if_neg (show ¬ (false = true) by decide)] at H; exact H
           exact absurd (H1.trans (congrArg some hr_.out)) (by decide)
         ·rw [if_neg c80] at H; exact absurd (H.trans (congrArg some hr_.out)) (by decide)
        ·rw [if_neg c78] at H; exact absurd (H.trans (congrArg some hr_.out)) (by decide)
       ·rw [if_neg c77] at H; exact absurd (H.trans (congrArg some hr_.out)) (by decide)
     ·replace c21 := Bool.eq_false_iff.mpr c21; subst c21
      have H1 : (some false) = some r := by rw [if_neg (show ¬ (false = true) by decide)] at H; exact H
      exact absurd (H1.trans (congrArg some hr_.out)) (by decide)
    ·rw [if_neg c20] at H; exact absurd (H.trans (congrArg some hr_.out)) (by decide)
   ·rw [if_neg c18] at H; exact absurd (H.trans (congrArg some hr_.out)) (by decide)
  ·rw [if_neg c15] at H; exact absurd (H.trans (congrArg some hr_.out)) (by decide)
 ·rw [if_neg c12] at H; exact absurd (H.trans (congrArg some hr_.out)) (by decide)
end Go.Proofs.YtmkmldkfaehefaaGreatDoor.Pf3
end

section
namespace Go.Proofs.YtmkmldkfaehefaaGreatDoor.Pf3
end Go.Proofs.YtmkmldkfaehefaaGreatDoor.Pf3
end

section
namespace Go.Proofs.YtmkmldkfaehefaaGreatDoor
open Go.RowKit
theorem fixed3_true : Pf3.dl3_fixed.f = some true := by kernel_rfl
def dl3_fixed.f : Option Bool := some true
theorem dl3_fixed.calls (r : Bool) (w : World) (hL_ : Laid w) (h : dl3_fixed.f = some r) :
  Calls Tryz.prog 32 #[] w fun e w' => e = .returned (.bool r) ∧ Below w.heap.size w w' :=
 Pf3.dl3_fixed.calls r w hL_ ⟨(Option.some.inj h).symm⟩ (fixed3_true.trans h)
end Go.Proofs.YtmkmldkfaehefaaGreatDoor
end

section
namespace Go.Proofs.YtmkmldkfaehefaaGreatDoor
theorem szR_small {n : Int} (h0 : -9223372036854775808 ≤ n) (h1 : n ≤ 9223372036854775807) : szR (n : Rat) ≤ 22 := by
 have h := szI_64 h0 h1
 rw [szR_int]
 omega
theorem szR_zero : szR 0 ≤ 22 := szR_small (n := 0) (by decide) (by decide)
theorem smR_rT {q : Rat} (h : szR q ≤ 3999) : smR (rT q) = true := decide_eq_true ⟨Nat.le_trans (le_szR_num q) (by omega), Nat.le_trans (le_szR_den q) (by omega)⟩
theorem smR2_rT {p q : Rat} (hp : szR p ≤ 3999) (hq : szR q ≤ 3999) : smR2 (rT p) (rT q) = true := by
 unfold smR2
 rw [smR_rT hp, Bool.true_and]
 exact decide_eq_true ⟨Nat.le_trans (le_szR_num q) hq, Nat.le_trans (le_szR_den q) hq⟩
theorem hAdd {p q : Rat} (hp : szR p ≤ 3999) (hq : szR q ≤ 3999) : rat_Add.f (rT p).1 (rT p).2 (rT q).1 (rT q).2 = some (rT (p + q)) := by
 unfold rat_Add.f raddS
 rw [if_pos (smR2_rT hp hq), if_pos (may2R_rT p q), ratR_rT, ratR_rT]
theorem hSub {p q : Rat} (hp : szR p ≤ 3999) (hq : szR q ≤ 3999) : rat_Sub.f (rT p).1 (rT p).2 (rT q).1 (rT q).2 = some (rT (p - q)) := by
 unfold rat_Sub.f rsubS
 rw [if_pos (smR2_rT hp hq), if_pos (may2R_rT p q), ratR_rT, ratR_rT]
theorem hMul {p q : Rat} (hp : szR p ≤ 3999) (hq : szR q ≤ 3999) : rat_Mul.f (rT p).1 (rT p).2 (rT q).1 (rT q).2 = some (rT (p * q)) := by
 unfold rat_Mul.f rmulS
 rw [if_pos (smR2_rT hp hq), if_pos (may2R_rT p q), ratR_rT, ratR_rT]
theorem hCmp {p q : Rat} (hp : szR p ≤ 3999) (hq : szR q ≤ 3999) : rat_Cmp.f (rT p).1 (rT p).2 (rT q).1 (rT q).2 = some (cmpQ p q) := by
 unfold rat_Cmp.f rcmpS
 rw [if_pos (smR2_rT hp hq), if_pos (may2R_rT p q), ratR_rT, ratR_rT]
theorem hDiv {p q : Rat} (hp : szR p ≤ 3999) (hq : szR q ≤ 3999) (h : q ≠ 0) : rat_Div.f (rT p).1 (rT p).2 (rT q).1 (rT q).2 = some ((rT (p / q)).1, (rT (p / q)).2, true) := by
 unfold rat_Div.f rdivS
 rw [if_pos (smR2_rT hp hq), may2R_rT p q, Bool.true_and, ratR_rT, ratR_rT, if_pos (decide_eq_true h)]
theorem hDiv0 {p : Rat} (hp : szR p ≤ 3999) : rat_Div.f (rT p).1 (rT p).2 (rT 0).1 (rT 0).2 = some (noB, noB, false) := by
 unfold rat_Div.f rdivS
 rw [if_pos (smR2_rT hp (Nat.le_trans szR_zero (by decide))), may2R_rT p 0, Bool.true_and, ratR_rT, ratR_rT, if_neg (by decide)]
 rfl
theorem hSign {p : Rat} (hp : szR p ≤ 3999) : rat_Sign.f (rT p).1 (rT p).2 = some (cmpQ p 0) := by
 unfold rat_Sign.f rsignS
 rw [if_pos (smR_rT hp), if_pos (mayR_rT p), ratR_rT]
theorem hMay {p : Rat} (hp : szR p ≤ 3999) : rat_May.f (rT p).1 (rT p).2 = some true := by
 unfold rat_May.f
 rw [if_pos (smR_rT hp)]
 exact congrArg some (mayR_rT p)
theorem hSplit {p : Rat} (hp : szR p ≤ 3999) : rat_Split.f (rT p).1 (rT p).2 = some (intB p.floor, (rT (p - (p.floor : Rat))).1, (rT (p - (p.floor : Rat))).2) := by
 unfold rat_Split.f rsplitS
 rw [if_pos (smR_rT hp), if_pos (mayR_rT p), ratR_rT]
theorem hMake {x y : Int} (hx : szI x ≤ 4000) (hy : szI y ≤ 4000) (h : y ≠ 0) : rat_Make.f (intB x) (intB y) = some ((rT (Rat.divInt x y)).1, (rT (Rat.divInt x y)).2, true) := by
 unfold rat_Make.f rmakeS
 rw [if_pos (show smR (intB x, intB y) = true from decide_eq_true ⟨hx, hy⟩), may2W_int' x y, Bool.true_and, numW_int, numW_int, if_pos (decide_eq_true h)]
theorem divInt_one (x : Int) : Rat.divInt x 1 = (x : Rat) := by
 have h := Rat.num_divInt_den (x : Rat)
 rw [Rat.num_intCast, Rat.den_intCast] at h
 exact h
theorem hMake1 {x : Int} (hx : szI x ≤ 4000) : rat_Make.f (intB x) ⟨#[49]⟩ = some ((rT (x : Rat)).1, (rT (x : Rat)).2, true) := by
 have e : (⟨#[49]⟩ : ByteArray) = intB 1 := by rw [← natB_one]; exact (intB_nat 1).symm
 rw [e, hMake hx (Nat.le_trans (szI_64 (by decide) (by decide)) (by decide)) (by decide), divInt_one]
theorem hOf {n : Int} (h0 : -9223372036854775808 ≤ n) (h1 : n ≤ 9223372036854775807) : rat_Of.f n = some (rT (n : Rat)) := by
 unfold rat_Of.f
 rw [if_pos ⟨h0, h1⟩]
theorem rT_beq (p q : Rat) : ((rT p).1.toList == (rT q).1.toList && ((rT p).2.toList == (rT q).2.toList)) = decide (p = q) := by
 rw [Bool.eq_iff_iff, Bool.and_eq_true, beq_iff_eq, beq_iff_eq, toList_inj, toList_inj, decide_eq_true_eq, ← rT_inj, Prod.ext_iff]
theorem rT_bne (p q : Rat) : (!((rT p).1.toList == (rT q).1.toList) || (!((rT p).2.toList == (rT q).2.toList))) = !decide (p = q) := by
 rw [← rT_beq, Bool.not_and]
theorem goods3 {a b c d e f : ByteArray} : r3_Good.f [⟨a, b⟩, ⟨c, d⟩, ⟨e, f⟩] = some (goodR ⟨a, b⟩ && (goodR ⟨c, d⟩ && goodR ⟨e, f⟩)) := by
 unfold r3_Good.f
 rw [if_pos (by simp)]
 simp [List.all_cons]
theorem goods1 {a b : ByteArray} : r3_Good.f [⟨a, b⟩] = some (goodR ⟨a, b⟩) := by
 unfold r3_Good.f
 rw [if_pos (by simp)]
 simp [List.all_cons]
theorem of_good {a b : ByteArray} (h : goodR ⟨a, b⟩ = true) : ∃ q, a = (rT q).1 ∧ b = (rT q).2 ∧ szR q ≤ 200 := by
 unfold goodR bbS shortR at h
 rw [Bool.and_eq_true, Bool.and_eq_true, decide_eq_true_eq, decide_eq_true_eq] at h
 obtain ⟨⟨h1, h2⟩, h3⟩ := h
 obtain ⟨q, e, s⟩ := of_mayR' h3
 refine ⟨q, congrArg Prod.fst e, congrArg Prod.snd e, ?_⟩
 rw [s]
 have h1' : a.size ≤ 100 := h1
 have h2' : b.size ≤ 100 := h2
 show a.size + b.size ≤ 200
 omega
theorem cmpQ_cases (x y : Rat) : (x < y ∧ ¬ y < x ∧ x ≠ y ∧ cmpQ x y = -1) ∨ (x = y ∧ ¬ x < y ∧ ¬ y < x ∧ cmpQ x y = 0) ∨ (y < x ∧ ¬ x < y ∧ x ≠ y ∧ cmpQ x y = 1) := by
 have h : (x < y ∧ ¬ y < x ∧ x ≠ y) ∨ (x = y ∧ ¬ y < x ∧ ¬ x < y) ∨ (y < x ∧ ¬ x < y ∧ x ≠ y) := by grind
 unfold cmpQ
 rcases h with ⟨h1, h2, h3⟩ | ⟨h1, h2, h3⟩ | ⟨h1, h2, h3⟩
 ·exact .inl ⟨h1, h2, h3, if_pos h1⟩
 ·exact .inr (.inl ⟨h1, h3, h2, by rw [if_neg h3, if_neg h2]⟩)
 ·exact .inr (.inr ⟨h1, h2, h3, by rw [if_neg h2, if_pos h1]⟩)
theorem cmpQ_same {x y u v : Rat} (h1 : x < y ↔ u < v) (h2 : y < x ↔ v < u) : cmpQ x y = cmpQ u v := by
 unfold cmpQ
 simp only [h1, h2]
theorem cmpQ_rev (x y : Rat) : wrap64 (-cmpQ y x) = cmpQ x y := by
 rcases cmpQ_cases x y with ⟨h1, h2, h3, h4⟩ | ⟨h1, h2, h3, h4⟩ | ⟨h1, h2, h3, h4⟩
 ·rw [h4, show cmpQ y x = 1 by unfold cmpQ; rw [if_neg h2, if_pos h1], w64 (by decide) (by decide)]
 ·rw [h4, show cmpQ y x = 0 by unfold cmpQ; rw [if_neg h3, if_neg h2], w64 (by decide) (by decide)]; rfl
 ·rw [h4, show cmpQ y x = -1 by unfold cmpQ; rw [if_pos h1], w64 (by decide) (by decide)]; rfl
theorem cmpQ_zero (x y : Rat) : (cmpQ x y == 0) = decide (x = y) := by
 rw [Bool.eq_iff_iff, beq_iff_eq, decide_eq_true_eq]
 rcases cmpQ_cases x y with ⟨h1, h2, h3, h4⟩ | ⟨h1, h2, h3, h4⟩ | ⟨h1, h2, h3, h4⟩ <;> rw [h4] <;> simp [h1, h3]
theorem cmpQ_ne (x y : Rat) : (cmpQ x y != 0) = !decide (x = y) := by
 rw [← cmpQ_zero]
 rfl
end Go.Proofs.YtmkmldkfaehefaaGreatDoor
end

section
namespace Go.Proofs.YtmkmldkfaehefaaGreatDoor
open Go.ChangeShapes Go.WideShapes Go.ChangeAt Go.RowKit Go.Deep Go.WideElems Go.Maps Go.Joins
section
variable {H : Type} {enc : TypeId × Value → H} {P : Program} {w : World} {base : Nat} {spare : Nat → Bool} {held : Bool}
theorem str_of {t : TypeId} {n : Nat} {v : Value} {y : DataW H × List MemPlace} (ht : P.underlying t = some .string) (h : DataW.trod enc P w base spare held n t [v] = some y) : ∃ s : ByteArray, v = .string s ∧ y = (.lit (.string s.data.toList), []) ∧ s.size ≤ maxLen := by
 obtain ⟨s, h1, h2, h3⟩ := DataW.trod_string ht h
 exact ⟨s, by simpa using h1, h2, h3⟩
theorem str_mk {t : TypeId} {s : ByteArray} (ht : P.underlying t = some .string) (hs : s.size ≤ maxLen) : ∃ n, DataW.trod enc P w base spare held n t [.string s] = some (.lit (.string s.data.toList), []) := ⟨1, by simp [DataW.trod, ht, hs]⟩
theorem open_s2 {r : Reach} {b0 : Nat} {t : TypeId} {f0 f1 : Field} {v : Value} {d : DataW H} {p : List MemPlace} (hs : P.underlying t = some (.struct #[f0, f1])) (h0 : P.underlying f0.type = some .string) (h1 : P.underlying f1.type = some .string) (hone : oneCellFields P #[f0, f1] = true) (hC : P.cellsOf t = 2)
  (hv : Value.okWide P w r b0 t v) (h : DataW.Trod enc P w base spare held t v d p) :
  ∃ a b : ByteArray, v = .agg #[.string a, .string b] ∧ d = .agg [.lit (.string a.data.toList), .lit (.string b.data.toList)] ∧ p = [] ∧ a.size ≤ maxLen ∧ b.size ≤ maxLen := by
 obtain ⟨v0, v1, y0, y1, n, rfl, rfl, rfl, e0, e1⟩ := open_agg2 hs hone hC hv h
 obtain ⟨a, rfl, rfl, ha⟩ := str_of h0 e0
 obtain ⟨b, rfl, rfl, hb⟩ := str_of h1 e1
 exact ⟨a, b, rfl, rfl, rfl, ha, hb⟩
theorem shut_s2 {t : TypeId} {f0 f1 : Field} {a b : ByteArray} (hs : P.underlying t = some (.struct #[f0, f1])) (h0 : P.underlying f0.type = some .string) (h1 : P.underlying f1.type = some .string) (hone : oneCellFields P #[f0, f1] = true) (hC : P.cellsOf t = 2) (ha : a.size ≤ maxLen) (hb : b.size ≤ maxLen) :
  DataW.Trod enc P w base spare held t (.agg #[.string a, .string b]) (.agg [.lit (.string a.data.toList), .lit (.string b.data.toList)]) [] :=
 shut_agg2 (y0 := (.lit (.string a.data.toList), [])) (y1 := (.lit (.string b.data.toList), [])) hs hone hC (str_mk h0 ha) (str_mk h1 hb)
theorem trod_array2 {t e : TypeId} {fuel : Nat} {c0 c1 : Value} {x : DataW H × List MemPlace} (ht : P.underlying t = some (.array 2 e)) (hce : P.cellsOf e = 1) (h : DataW.trod enc P w base spare held fuel t [c0, c1] = some x) :
  ∃ y0 y1 n, x = (.agg [y0.1, y1.1], y0.2 ++ y1.2) ∧ DataW.trod enc P w base spare held n e [c0] = some y0 ∧ DataW.trod enc P w base spare held n e [c1] = some y1 := by
 cases fuel with
 | zero => simp [DataW.trod] at h
 | succ n =>
  unfold DataW.trod at h
  rw [ht] at h
  have r2 : List.range 2 = [0, 1] := rfl
  simp [r2, hce] at h
  obtain ⟨_, h⟩ := h
  cases h0 : DataW.trod enc P w base spare held n e [c0] with
  | none => simp [h0] at h
  | some y0 =>
   cases h1 : DataW.trod enc P w base spare held n e [c1] with
   | none => simp [h0, h1] at h
   | some y1 =>
    simp [h0, h1] at h
    exact ⟨y0, y1, n, h.symm, h0, h1⟩
theorem okWide_array {r : Reach} {b0 : Nat} {t e : TypeId} {n : Nat} {v : Value} (ht : P.underlying t = some (.array n e)) (h : Value.okWide P w r b0 t v) : ∃ cs, v = .agg cs ∧ cs.size = P.cellsOf t := by
 obtain ⟨cs, h1, h2, _⟩ : ∃ cs, v = .agg cs ∧ cs.size = P.cellsOf t ∧ Row.okWide P w r b0 t cs := by simpa [Value.okWide, ht] using h
 exact ⟨cs, h1, h2⟩
theorem open_a2 {r : Reach} {b0 : Nat} {t e : TypeId} {v : Value} {d : DataW H} {p : List MemPlace} (hs : P.underlying t = some (.array 2 e)) (h0 : P.underlying e = some .string) (hce : P.cellsOf e = 1) (hC : P.cellsOf t = 2)
  (hv : Value.okWide P w r b0 t v) (h : DataW.Trod enc P w base spare held t v d p) :
  ∃ a b : ByteArray, v = .agg #[.string a, .string b] ∧ d = .agg [.lit (.string a.data.toList), .lit (.string b.data.toList)] ∧ p = [] ∧ a.size ≤ maxLen ∧ b.size ≤ maxLen := by
 obtain ⟨cs, rfl, hsz⟩ := okWide_array hs hv
 obtain ⟨c0, c1, rfl⟩ := array2 (hsz.trans hC)
 obtain ⟨fuel, hf⟩ := h
 obtain ⟨y0, y1, n, hx, e0, e1⟩ := trod_array2 hs hce (by simpa [Value.cells] using hf)
 obtain ⟨a, rfl, rfl, ha⟩ := str_of h0 e0
 obtain ⟨b, rfl, rfl, hb⟩ := str_of h0 e1
 simp only [Prod.mk.injEq] at hx
 exact ⟨a, b, rfl, hx.1, hx.2, ha, hb⟩
theorem shut_a2 {t e : TypeId} {a b : ByteArray} (hs : P.underlying t = some (.array 2 e)) (h0 : P.underlying e = some .string) (hce : P.cellsOf e = 1) (hC : P.cellsOf t = 2) (ha : a.size ≤ maxLen) (hb : b.size ≤ maxLen) :
  DataW.Trod enc P w base spare held t (.agg #[.string a, .string b]) (.agg [.lit (.string a.data.toList), .lit (.string b.data.toList)]) [] :=
 ⟨2, by simp [DataW.trod, Value.cells, hs, h0, hce, hC, ha, hb, show List.range 2 = [0, 1] from rfl]⟩
theorem open_a3 {r : Reach} {b0 : Nat} {t e : TypeId} {v : Value} {d : DataW H} {p : List MemPlace} (hs : P.underlying t = some (.array 3 e)) (h0 : P.underlying e = some .string) (hce : P.cellsOf e = 1) (hC : P.cellsOf t = 3)
  (hv : Value.okWide P w r b0 t v) (h : DataW.Trod enc P w base spare held t v d p) :
  ∃ a b c : ByteArray, v = .agg #[.string a, .string b, .string c] ∧ d = .agg [.lit (.string a.data.toList), .lit (.string b.data.toList), .lit (.string c.data.toList)] ∧ p = [] ∧ a.size ≤ maxLen ∧ b.size ≤ maxLen ∧ c.size ≤ maxLen := by
 obtain ⟨cs, rfl, hsz⟩ := okWide_array hs hv
 obtain ⟨c0, c1, c2, rfl⟩ := array3 (hsz.trans hC)
 obtain ⟨fuel, hf⟩ := h
 obtain ⟨y0, y1, y2, n, hx, e0, e1, e2⟩ := trod_array3 hs hce (by simpa [Value.cells] using hf)
 obtain ⟨a, rfl, rfl, ha⟩ := str_of h0 e0
 obtain ⟨b, rfl, rfl, hb⟩ := str_of h0 e1
 obtain ⟨c, rfl, rfl, hc⟩ := str_of h0 e2
 simp only [Prod.mk.injEq] at hx
 exact ⟨a, b, c, rfl, hx.1, hx.2, ha, hb, hc⟩
theorem shut_a3 {t e : TypeId} {a b c : ByteArray} (hs : P.underlying t = some (.array 3 e)) (h0 : P.underlying e = some .string) (hce : P.cellsOf e = 1) (hC : P.cellsOf t = 3) (ha : a.size ≤ maxLen) (hb : b.size ≤ maxLen) (hc : c.size ≤ maxLen) :
  DataW.Trod enc P w base spare held t (.agg #[.string a, .string b, .string c]) (.agg [.lit (.string a.data.toList), .lit (.string b.data.toList), .lit (.string c.data.toList)]) [] :=
 ⟨2, by simp [DataW.trod, Value.cells, hs, h0, hce, hC, ha, hb, hc, show List.range 3 = [0, 1, 2] from rfl]⟩
end
end Go.Proofs.YtmkmldkfaehefaaGreatDoor
end

section
namespace Go.Proofs.YtmkmldkfaehefaaGreatDoor
open Go.ChangeShapes Go.WideShapes Go.ChangeAt Go.RowKit Go.Lib
open Go.ChangeMaps (open_string shut_string)
abbrev laidL : List (String × DataW Unit) := [("math/bits.deBruijn32tab", Rows.laid_math_bits_deBruijn32tab), ("math/bits.deBruijn64tab", Rows.laid_math_bits_deBruijn64tab), ("internal/strconv.uint64pow10", Rows.laid_internal_strconv_uint64pow10), ("strconv.ErrRange", Rows.laid_strconv_ErrRange), ("strconv.ErrSyntax", Rows.laid_strconv_ErrSyntax)]
theorem own : ownKnob Tryz.prog.godebug = none := by kernel_rfl
theorem tabType : (Tryz.prog.globals[0]?).map (·.type) = some 123 := by kernel_rfl
theorem rngType : (Tryz.prog.globals[2]?).map (·.type) = some 92 := by kernel_rfl
theorem tabCells : Tryz.prog.cellsOf 123 = 20 := by kernel_rfl
theorem u64Cells : Tryz.prog.cellsOf 109 = 1 := by kernel_rfl
theorem errCells : Tryz.prog.cellsOf 144 = 1 := by kernel_rfl
theorem strCells : Tryz.prog.cellsOf 9 = 1 := by kernel_rfl
theorem starErr : "*" ++ "errors.errorString" = "*errors.errorString" := by decide
theorem rowErr (u : TypeId) (h : Tryz.prog.typeName? 3 u = some "*errors.errorString") : u = 142 :=
 typeName_ptr_named (nm := "errors.errorString") (by rw [starErr]; kernel_rfl) (by kernel_rfl) (by decide) u (by rw [starErr]; exact h)
theorem laid_tab_eq : (Rows.laid_internal_strconv_uint64pow10 : DataW Unit) = tabData .u64 pow10Tab := by kernel_rfl
theorem laid_of {W : World} (h : laidMetH Tryz.prog laidL W) : Laid W := by
 rw [MakeChecks.laidMetH_plain _ _ _ (by kernel_rfl)] at h
 have hL := h
 obtain ⟨a1, s1, hv1, -, -, -⟩ := laid_sentinel (hL.tail.tail.tail) gRng rngType Tryz.underlying92 rowErr Tryz.underlying142 Tryz.underlying144 rfl rfl Tryz.underlying9 errCells strCells
 refine ⟨tabIs_of_head gTab tabType Tryz.underlying123 Tryz.underlying109 u64Cells tabCells (by rw [← laid_tab_eq]; exact hL.tail.tail), ⟨_, _, hv1⟩⟩
theorem door_met (os : Os) (args : Array Value) : laidMetH Tryz.prog laidL ((World.doorLaid Tryz.prog 4000 os).forCall (fun _ _ => 0) ⟨#[], args, []⟩).memory :=
 laidMetH_of_parts3 (fuel := 8) (laidMet_of_run' 8 (by kernel_rfl) (by kernel_rfl)) (by kernel_rfl) (by kernel_rfl)
end Go.Proofs.YtmkmldkfaehefaaGreatDoor
end
