/-
Parts of the proof, in build order: Pz3, Pz4, Pz5, Pz6, Pz7, Pz, Ref3Api, Ref3Done, NumR0, Ref3Of, NumG0, GridS, GridW, Pg0, Pg1, Pg, GridApi, NumG, Ph0, Ph1, Ph2, Ph3, Ph4, Ph, Ref5Api, Pf50, Pf51.
-/
import Derived.Test.YtmfcpapfikbomaaGreatDoorD1
import Derived.Test.YtmfcpapfikbomaaGreatDoorD4
import Derived.KernelRfl
import Derived.Test.YtmfcpapfikbomaaGreatDoorD3
import Derived.Test.YtmfcpapfikbomaaGreatDoorProg
import Derived.Below
import Derived.Deep.Draws
import Derived.Deep.AppendLies
import Derived.Maps.AppendAt
import Derived.OwnWalk
import Derived.Laws.BytesArg
import Derived.Laws.MakeOwn
import Derived.Laws.OwnMore
import Derived.Deep.OwnRows
import Derived.Tactics
import Derived.Lib.ConvBytes
import Derived.Laws.Slices
import Derived.WalkKit
import Derived.RowKit3
import Derived.Deep.LoopGhost
import Derived.Deep.QuietTactic
import Derived.BigQuiet
import Derived.WideLaws
import Derived.Deep.DeepCutAuto
import Derived.Deep.CutBlock
import Derived.Deep.RegionHeld3
import Derived.Laws.Rows
import Derived.Lib.AppendStr
import Derived.ArgAppend
import Derived.Laws.IdiomCopy
import Derived.OrdersHeld
import Derived.Laws.BitsLemmas
import Derived.RowKit
import Derived.Test.YtmfcpapfikbomaaGreatDoorD0
import Derived.Test.YtmfcpapfikbomaaGreatDoorD2
set_option linter.unusedVariables false
set_option linter.unusedSimpArgs false
open Go.RowKit Go.Proofs.YtmfcpapfikbomaaGreatDoorW.PrintWords Go.Proofs.YtmfcpapfikbomaaGreatDoorW.PrintLast Go.Proofs.YtmfcpapfikbomaaGreatDoorW.PrintMore
attribute [local go_sem] max2_int min2_int max_two min_two max_three min_three max_four min_four   -- for this text's walks alone
section
namespace Go.Proofs.YtmfcpapfikbomaaGreatDoor.Pz
def r3_Add.j0 : Nat → Bool → ByteArray → ByteArray → ByteArray → ByteArray → Option (ByteArray × ByteArray)
 | 0, _, _, _, _, _ => none
 | k + 1, x14, x130000, x130001, x131000, x131001 => if x14 = true then (some ((⟨#[]⟩ : ByteArray), (⟨#[]⟩ : ByteArray))) else ((r2_Mul.f x130000 x131001).bind fun t134 => ((r2_Mul.f x131000 x130001).bind fun t135 => ((r2_Add.f t134 t135).bind fun t136 => ((r1_Mul.f x130001 x131001).bind fun t137 => ((r3_Make.f k t136 t137).bind fun bt138 => (some (bt138.1, bt138.2.1)))))))
def r3_Add.f (k : Nat) (a0_0 : ByteArray) (a0_1 : ByteArray) (a1_0 : ByteArray) (a1_1 : ByteArray) : Option (ByteArray × ByteArray) := (r3_May.f a0_0 a0_1).bind fun t132 => (if t132 = true then ((r3_May.f a1_0 a1_1).bind fun t133 => (r3_Add.j0 k (!t133) a0_0 a0_1 a1_0 a1_1)) else (r3_Add.j0 k true a0_0 a0_1 a1_0 a1_1))
def r3_Add.T3 : Bool × List (List Nat × List Nat) := (true, [([], []), ([0], [0]), ([], []), ([2], [2]), ([1, 3], [1, 3]), ([], []), ([5], [5]), ([], []), ([7], [7]), ([6, 8, 4], [6, 8]), ([4, 9, 9], [4, 9]), ([], []), ([11], [11]), ([], []), ([13], [13]), ([12, 14, 10], [12, 14]), ([10, 15, 15], [10, 15]), ([16], [16]), ([17], [17]), ([17], [17]), ([], []), ([20, 18, 16, 0, 1, 2, 3, 4, 5, 6, 7, 8, 9, 10, 11, 12, 13, 14, 15, 16, 17, 18, 20], [18, 20]), ([19, 21, 0, 1, 2, 3, 4, 5, 6, 7, 8, 9, 10, 11, 12, 13, 14, 15, 16, 17, 18, 19, 20, 21], [19])])
def r3_Add.B3 : List Nat := [0, 1, 0, 4, 15, 0, 32, 0, 128, 511, 1023, 0, 2048, 0, 8192, 32767, 65535, 131071, 262143, 262143, 0, 1572863, 4194303]
theorem r3_Add.tab3 : rtab .any (opsOf Tryz.f24 3) = r3_Add.T3 := by kernel_rfl
theorem r3_Add.bits3 : waitsOk r3_Add.T3.2 r3_Add.B3 = true := by kernel_rfl
set_option maxHeartbeats 8000000 in
set_option maxRecDepth 100000 in
theorem r3_Add.calls (k : Nat) (a0_0 : ByteArray) (a0_1 : ByteArray) (a1_0 : ByteArray) (a1_1 : ByteArray) (r1 : ByteArray) (r2 : ByteArray) (w : World) (h : r3_Add.f k a0_0 a0_1 a1_0 a1_1 = some (r1, r2)) :
  Calls Tryz.prog 24 #[.agg #[.string a0_0, .string a0_1], .agg #[.string a1_0, .string a1_1]] w fun e w' => e = .returned (.agg #[.string r1, .string r2]) ∧ Below w.heap.size w w' := by
 have hu23 := Tryz.underlying23; have HB := Aside0.mk (Below.refl w.heap.size w); have H := h; unfold r3_Add.f at H; clear h; have HC3 := Aside0.mk H; clear H; go_enter Tryz.func24, Tryz.ntmps24
 go_upto_region 1 with (first | ((with_reducible refine gate_dst (N := 2) rfl ?_); refine be_ 2 #[.string a0_0, .string a0_1] 23 ?_; intro gb129 hg w4 hbox hb; have BK129 := Aside0.mk (hbox); have GW129 := ge_ HB hg; have GE129 := ge_ HB hg; replace HB := bs_ HB hb; clear hb hbox hg) | ((with_reducible refine gate_dst (N := 3) rfl ?_); refine be_ 3 #[.string a1_0, .string a1_1] 23 ?_; intro gb130 hg w5 hbox hb; have BK130 := Aside0.mk (hbox); have GW130 := ge_ HB hg; have GE130 := ge_ HB hg; have NB129_130 := nl_ BK129 hg; have NB130_129 := ng_ BK129 hg; replace BK129 := kb_ BK129 hb; replace HB := bs_ HB hb; clear hb hbox hg) | ((with_reducible refine gate_dst (N := 4) rfl ?_); refine be_ 4 #[.string (⟨#[]⟩ : ByteArray), .string (⟨#[]⟩ : ByteArray)] 23 ?_; intro gb131 hg w6 hbox hb; have BK131 := Aside0.mk (hbox); have GW131 := ge_ HB hg; have GE131 := ge_ HB hg; have NB129_131 := nl_ BK129 hg; have NB131_129 := ng_ BK129 hg; have NB130_131 := nl_ BK130 hg; have NB131_130 := ng_ BK130 hg; replace BK129 := kb_ BK129 hb; replace BK130 := kb_ BK130 hb; replace HB := bs_ HB hb; clear hb hbox hg))
 (try simp only [Act.put, List.setIfInBounds_toArray, List.set_cons_zero, List.set_cons_succ])
 go_cut [14] (fun v14 wc => ∃ (kq : Nat) (x14_2 : Bool), v14 = .bool x14_2 ∧ Aside0 (r3_Add.j0 kq x14_2 a0_0 a0_1 a1_0 a1_1 = some (r1, r2)) ∧ Aside0 (kq ≤ k) ∧ Aside0 (wc.heap[gb129]? = some (.cells #[.string a0_0, .string a0_1] 23 (0, 0))) ∧ Aside0 (wc.heap[gb130]? = some (.cells #[.string a1_0, .string a1_1] 23 (0, 0))) ∧ Aside0 (wc.heap[gb131]? = some (.cells #[.string (⟨#[]⟩ : ByteArray), .string (⟨#[]⟩ : ByteArray)] 23 (0, 0))) ∧ Aside0 (Below w.heap.size w wc))
 case first =>
  have H := HC3.out; clear HC3; obtain ⟨t132, A7, H⟩ := bi_ H; by_cases c8 : t132 = true
  ·subst c8; rw [if_pos rfl] at H; obtain ⟨t133, A9, H⟩ := bi_ H; have H' := Aside0.mk H; clear H; have hnb10 := NB129_130.out; have hnc10 := NB130_129.out; have hnb11 := NB129_131.out; have hnc11 := NB131_129.out; have hcz12_0 := bc_ BK129 0 rfl; have hcz12_1 := bc_ BK129 1 rfl; have hfz12_0 := blk_frozen BK129.out 0; have hfz12_1 := blk_frozen BK129.out 1
   go_wp2_with (first | (refine gl_ 8 Tryz.func22 #[.agg #[.string a0_0, .string a0_1]] ?_; refine mo_ (r3_May.calls a0_0 a0_1 true _ A7.out) ?_; intro w13 hb; replace BK129 := kb_ BK129 hb; replace BK130 := kb_ BK130 hb; replace BK131 := kb_ BK131 hb; replace HB := bs_ HB hb; (try clear hb); (try clear hb2); (try clear hk); (try clear hi); have hnb14 := NB130_131.out; have hnc14 := NB131_130.out; have hcz15_0 := bc_ BK130 0 rfl; have hcz15_1 := bc_ BK130 1 rfl; have hfz15_0 := blk_frozen BK130.out 0; have hfz15_1 := blk_frozen BK130.out 1) | (go_at_call 22; (with_reducible refine (r3_May.calls a1_0 a1_1 t133 _ A9.out).mono ?_); rintro e w16 ⟨rfl, hb⟩; replace BK129 := kb_ BK129 hb; replace BK130 := kb_ BK130 hb; replace BK131 := kb_ BK131 hb; replace HB := bs_ HB hb; (try clear hb); (try clear hb2); (try clear hk); (try clear hi)))
   go_meet
   case rel => exact ⟨_, (!t133), rl_, H', ⟨by first | omega | exact Nat.le_refl _⟩, ⟨k_ BK129.out⟩, ⟨k_ BK130.out⟩, ⟨k_ BK131.out⟩, ⟨b_ HB.out⟩⟩
  ·replace c8 := Bool.eq_false_iff.mpr c8; subst c8; rw [if_neg nf_] at H; have H' := Aside0.mk H; clear H; have hnb17 := NB129_130.out; have hnc17 := NB130_129.out; have hnb18 := NB129_131.out; have hnc18 := NB131_129.out; have hcz19_0 := bc_ BK129 0 rfl; have hcz19_1 := bc_ BK129 1 rfl; have hfz19_0 := blk_frozen BK129.out 0; have hfz19_1 := blk_frozen BK129.out 1
   go_wp2_with (first | (refine gl_ 8 Tryz.func22 #[.agg #[.string a0_0, .string a0_1]] ?_; refine mo_ (r3_May.calls a0_0 a0_1 false _ A7.out) ?_; intro w20 hb; replace BK129 := kb_ BK129 hb; replace BK130 := kb_ BK130 hb; replace BK131 := kb_ BK131 hb; replace HB := bs_ HB hb; (try clear hb); (try clear hb2); (try clear hk); (try clear hi)))
   go_meet
   case rel => exact ⟨_, (true), rl_, H', ⟨by first | omega | exact Nat.le_refl _⟩, ⟨k_ BK129.out⟩, ⟨k_ BK130.out⟩, ⟨k_ BK131.out⟩, ⟨b_ HB.out⟩⟩
 case rest =>
  clear HC3; (try clear c1); (try clear c2); (try clear p2); (try clear c8); (try clear c10); (try clear c11); (try clear c14); (try clear c17); (try clear c18); (try clear hcz12_0); (try clear hcz12_1); (try clear hcz15_0); (try clear hcz15_1); (try clear hcz19_0); (try clear hcz19_1); (try clear hfz12_0); (try clear hfz12_1); (try clear hfz15_0); (try clear hfz15_1); (try clear hfz19_0); (try clear hfz19_1); obtain ⟨kq, x14_2, rfl, HA, HJ2, BK129, BK130, BK131, HB⟩ := hcut
  cases kq with
  | zero => exact absurd HA.out (by simp [r3_Add.j0])
  | succ kj2 =>
   have H := HA.out; clear HA; simp only [r3_Add.j0] at H; by_cases c21 : x14_2 = true
   ·subst c21; rw [if_pos rfl] at H; simp only [Option.some.injEq, Prod.mk.injEq] at H; obtain ⟨rfl, rfl⟩ := H; have hnb22 := NB131_129.out; have hnc22 := NB129_131.out; have hnb23 := NB131_130.out; have hnc23 := NB130_131.out; have hcz24_0 := bc_ BK131 0 rfl; have hcz24_1 := bc_ BK131 1 rfl; have hfz24_0 := blk_frozen BK131.out 0; have hfz24_1 := blk_frozen BK131.out 1; go_wp2; refine bodyPost_ret (results_cell_row rfl _ _ gb131 23 #[.string (⟨#[]⟩ : ByteArray), .string (⟨#[]⟩ : ByteArray)] (0, 0) _ rfl (rp_ BK131.out) Tryz.underlying23 rfl (by kernel_rfl)) rfl ?_; exact ⟨er_, b_ HB.out⟩
   ·replace c21 := Bool.eq_false_iff.mpr c21; subst c21; rw [if_neg nf_] at H; obtain ⟨t134, A25, H⟩ := bi_ H; obtain ⟨t135, A26, H⟩ := bi_ H; obtain ⟨t136, A27, H⟩ := bi_ H; obtain ⟨t137, A28, H⟩ := bi_ H; obtain ⟨⟨t138, t139, t140⟩, A29, H⟩ := bi_ H; (try dsimp only at H); simp only [Option.some.injEq, Prod.mk.injEq] at H; obtain ⟨rfl, rfl⟩ := H
    try go_wp2
    replace BK129 := Aside0.mk (blk_drew BK129.out); replace BK130 := Aside0.mk (blk_drew BK130.out); replace BK131 := Aside0.mk (blk_drew BK131.out); replace HB := Aside0.mk (below_drew1 HB.out); refine sa_ 23 (fun w' => w'.cell? ⟨gb129, 0, none⟩ = some (.string a0_0) ∧ w'.cell? ⟨gb129, 1, none⟩ = some (.string a0_1) ∧ w'.cell? ⟨gb130, 0, none⟩ = some (.string a1_0) ∧ w'.cell? ⟨gb130, 1, none⟩ = some (.string a1_1)) (fun hHeld => ?_); refine with_tabW r3_Add.tab3 r3_Add.bits3 (fun HT_ HW_ => ?_); generalize wc.drew = w30 at BK129 BK130 BK131 HB hHeld ⊢; refine pu_ 0 17 rfl rfl HT_ ?_; refine pu_ 2 19 rfl rfl HT_ ?_; refine pu_ 5 22 rfl rfl HT_ ?_; refine pu_ 7 24 rfl rfl HT_ ?_; refine pu_ 11 28 rfl rfl HT_ ?_; refine pu_ 13 30 rfl rfl HT_ ?_; refine t4_ 1 18 rfl rfl HT_ HW_ hHeld ?_; refine t4_ 3 20 rfl rfl HT_ HW_ hHeld ?_; refine t4_ 6 23 rfl rfl HT_ HW_ hHeld ?_; refine t4_ 8 25 rfl rfl HT_ HW_ hHeld ?_; refine t4_ 12 29 rfl rfl HT_ HW_ hHeld ?_; refine t4_ 14 31 rfl rfl HT_ HW_ hHeld ?_; refine join_ (σ := Nat) 2 #[true, true, true, true, true, true, true, true, true, true, true, true, true, true, true, true, true, true, true, true, true, false, false] (fun s_ => [(21, .string t134), (26, .string t135), (27, .string t136), (32, .string t137), (33, .tuple #[.agg #[.string t138, .string t139], .bool t140]), (5, .pointer (some ⟨s_, 0, none⟩)), (16, .tuple #[.agg #[.string t138, .string t139], .bool t140]), (34, .agg #[.string t138, .string t139]), (35, .bool t140)]) (fun s_ w' => (w'.cell? ⟨gb129, 0, none⟩ = some (.string a0_0) ∧ w'.cell? ⟨gb129, 1, none⟩ = some (.string a0_1) ∧ w'.cell? ⟨gb130, 0, none⟩ = some (.string a1_0) ∧ w'.cell? ⟨gb130, 1, none⟩ = some (.string a1_1)) ∧ (w'.heap[gb129]? = some (.cells #[.string a0_0, .string a0_1] 23 (0, 0))) ∧ (w'.heap[gb130]? = some (.cells #[.string a1_0, .string a1_1] 23 (0, 0))) ∧ (w'.heap[gb131]? = some (.cells #[.string (⟨#[]⟩ : ByteArray), .string (⟨#[]⟩ : ByteArray)] 23 (0, 0))) ∧ (w'.heap[s_]? = some (.cells #[.string (⟨#[]⟩ : ByteArray), .string (⟨#[]⟩ : ByteArray)] 23 (0, 0))) ∧ (w.heap.size ≤ s_) ∧ (w.heap.size ≤ s_) ∧ (gb129 ≠ s_) ∧ (s_ ≠ gb129) ∧ (gb130 ≠ s_) ∧ (s_ ≠ gb130) ∧ (gb131 ≠ s_) ∧ (s_ ≠ gb131) ∧ (Below w.heap.size w w')) ?_ ?_; rotate_left
    ·intro hJ4_9_10_15_16_20; refine join_ (σ := Unit) 3 #[true, true, true, true, true, true, true, true, true, true, true, true, true, true, true, true, true, true, true, true, false, false, false] (fun s_ => [(21, .string t134), (26, .string t135), (27, .string t136), (32, .string t137), (33, .tuple #[.agg #[.string t138, .string t139], .bool t140]), (16, .tuple #[.agg #[.string t138, .string t139], .bool t140]), (34, .agg #[.string t138, .string t139]), (35, .bool t140)]) (fun s_ w' => (w'.cell? ⟨gb129, 0, none⟩ = some (.string a0_0) ∧ w'.cell? ⟨gb129, 1, none⟩ = some (.string a0_1) ∧ w'.cell? ⟨gb130, 0, none⟩ = some (.string a1_0) ∧ w'.cell? ⟨gb130, 1, none⟩ = some (.string a1_1)) ∧ (w'.heap[gb129]? = some (.cells #[.string a0_0, .string a0_1] 23 (0, 0))) ∧ (w'.heap[gb130]? = some (.cells #[.string a1_0, .string a1_1] 23 (0, 0))) ∧ (w'.heap[gb131]? = some (.cells #[.string (⟨#[]⟩ : ByteArray), .string (⟨#[]⟩ : ByteArray)] 23 (0, 0))) ∧ (Below w.heap.size w w')) ?_ ?_; rotate_left
     ·intro hJ4_9_10_15_16; refine join_ (σ := Nat) 6 #[true, true, true, true, true, true, true, true, true, true, true, true, true, true, true, true, false, false, false, false, true, false, false] (fun s_ => [(21, .string t134), (26, .string t135), (27, .string t136), (32, .string t137), (5, .pointer (some ⟨s_, 0, none⟩))]) (fun s_ w' => (w'.cell? ⟨gb129, 0, none⟩ = some (.string a0_0) ∧ w'.cell? ⟨gb129, 1, none⟩ = some (.string a0_1) ∧ w'.cell? ⟨gb130, 0, none⟩ = some (.string a1_0) ∧ w'.cell? ⟨gb130, 1, none⟩ = some (.string a1_1)) ∧ (w'.heap[gb129]? = some (.cells #[.string a0_0, .string a0_1] 23 (0, 0))) ∧ (w'.heap[gb130]? = some (.cells #[.string a1_0, .string a1_1] 23 (0, 0))) ∧ (w'.heap[gb131]? = some (.cells #[.string (⟨#[]⟩ : ByteArray), .string (⟨#[]⟩ : ByteArray)] 23 (0, 0))) ∧ (w'.heap[s_]? = some (.cells #[.string (⟨#[]⟩ : ByteArray), .string (⟨#[]⟩ : ByteArray)] 23 (0, 0))) ∧ (w.heap.size ≤ s_) ∧ (w.heap.size ≤ s_) ∧ (gb129 ≠ s_) ∧ (s_ ≠ gb129) ∧ (gb130 ≠ s_) ∧ (s_ ≠ gb130) ∧ (gb131 ≠ s_) ∧ (s_ ≠ gb131) ∧ (Below w.heap.size w w')) ?_ ?_; rotate_left
      ·intro hJ4_9_10_15_20; refine join_ (σ := Unit) 7 #[true, true, true, true, true, true, true, true, true, true, true, true, true, true, true, true, false, false, false, false, false, false, false] (fun s_ => [(21, .string t134), (26, .string t135), (27, .string t136), (32, .string t137)]) (fun s_ w' => (w'.cell? ⟨gb129, 0, none⟩ = some (.string a0_0) ∧ w'.cell? ⟨gb129, 1, none⟩ = some (.string a0_1) ∧ w'.cell? ⟨gb130, 0, none⟩ = some (.string a1_0) ∧ w'.cell? ⟨gb130, 1, none⟩ = some (.string a1_1)) ∧ (w'.heap[gb129]? = some (.cells #[.string a0_0, .string a0_1] 23 (0, 0))) ∧ (w'.heap[gb130]? = some (.cells #[.string a1_0, .string a1_1] 23 (0, 0))) ∧ (w'.heap[gb131]? = some (.cells #[.string (⟨#[]⟩ : ByteArray), .string (⟨#[]⟩ : ByteArray)] 23 (0, 0))) ∧ (Below w.heap.size w w')) ?_ ?_; rotate_left
       ·intro hJ4_9_10_15; refine join_ (σ := Nat) 7 #[true, true, true, true, true, true, true, true, true, true, true, true, true, true, true, false, false, false, false, false, true, false, false] (fun s_ => [(21, .string t134), (26, .string t135), (27, .string t136), (5, .pointer (some ⟨s_, 0, none⟩))]) (fun s_ w' => (w'.cell? ⟨gb129, 0, none⟩ = some (.string a0_0) ∧ w'.cell? ⟨gb129, 1, none⟩ = some (.string a0_1) ∧ w'.cell? ⟨gb130, 0, none⟩ = some (.string a1_0) ∧ w'.cell? ⟨gb130, 1, none⟩ = some (.string a1_1)) ∧ (w'.heap[gb129]? = some (.cells #[.string a0_0, .string a0_1] 23 (0, 0))) ∧ (w'.heap[gb130]? = some (.cells #[.string a1_0, .string a1_1] 23 (0, 0))) ∧ (w'.heap[gb131]? = some (.cells #[.string (⟨#[]⟩ : ByteArray), .string (⟨#[]⟩ : ByteArray)] 23 (0, 0))) ∧ (w'.heap[s_]? = some (.cells #[.string (⟨#[]⟩ : ByteArray), .string (⟨#[]⟩ : ByteArray)] 23 (0, 0))) ∧ (w.heap.size ≤ s_) ∧ (w.heap.size ≤ s_) ∧ (gb129 ≠ s_) ∧ (s_ ≠ gb129) ∧ (gb130 ≠ s_) ∧ (s_ ≠ gb130) ∧ (gb131 ≠ s_) ∧ (s_ ≠ gb131) ∧ (Below w.heap.size w w')) ?_ ?_; rotate_left
        ·intro hJ4_9_10_20; refine join_ (σ := Unit) 8 #[true, true, true, true, true, true, true, true, true, true, true, true, true, true, true, false, false, false, false, false, false, false, false] (fun s_ => [(21, .string t134), (26, .string t135), (27, .string t136)]) (fun s_ w' => (w'.cell? ⟨gb129, 0, none⟩ = some (.string a0_0) ∧ w'.cell? ⟨gb129, 1, none⟩ = some (.string a0_1) ∧ w'.cell? ⟨gb130, 0, none⟩ = some (.string a1_0) ∧ w'.cell? ⟨gb130, 1, none⟩ = some (.string a1_1)) ∧ (w'.heap[gb129]? = some (.cells #[.string a0_0, .string a0_1] 23 (0, 0))) ∧ (w'.heap[gb130]? = some (.cells #[.string a1_0, .string a1_1] 23 (0, 0))) ∧ (w'.heap[gb131]? = some (.cells #[.string (⟨#[]⟩ : ByteArray), .string (⟨#[]⟩ : ByteArray)] 23 (0, 0))) ∧ (Below w.heap.size w w')) ?_ ?_; rotate_left
         ·intro hJ4_9_10; refine join_ (σ := Nat) 8 #[true, true, true, true, true, true, true, true, true, true, false, true, true, true, true, false, false, false, false, false, true, false, false] (fun s_ => [(21, .string t134), (26, .string t135), (5, .pointer (some ⟨s_, 0, none⟩))]) (fun s_ w' => (w'.cell? ⟨gb129, 0, none⟩ = some (.string a0_0) ∧ w'.cell? ⟨gb129, 1, none⟩ = some (.string a0_1) ∧ w'.cell? ⟨gb130, 0, none⟩ = some (.string a1_0) ∧ w'.cell? ⟨gb130, 1, none⟩ = some (.string a1_1)) ∧ (w'.heap[gb129]? = some (.cells #[.string a0_0, .string a0_1] 23 (0, 0))) ∧ (w'.heap[gb130]? = some (.cells #[.string a1_0, .string a1_1] 23 (0, 0))) ∧ (w'.heap[gb131]? = some (.cells #[.string (⟨#[]⟩ : ByteArray), .string (⟨#[]⟩ : ByteArray)] 23 (0, 0))) ∧ (w'.heap[s_]? = some (.cells #[.string (⟨#[]⟩ : ByteArray), .string (⟨#[]⟩ : ByteArray)] 23 (0, 0))) ∧ (w.heap.size ≤ s_) ∧ (w.heap.size ≤ s_) ∧ (gb129 ≠ s_) ∧ (s_ ≠ gb129) ∧ (gb130 ≠ s_) ∧ (s_ ≠ gb130) ∧ (gb131 ≠ s_) ∧ (s_ ≠ gb131) ∧ (Below w.heap.size w w')) ?_ ?_; rotate_left
          ·intro hJ4_9_20; refine join_ (σ := Unit) 9 #[true, true, true, true, true, true, true, true, true, true, false, true, true, true, true, false, false, false, false, false, false, false, false] (fun s_ => [(21, .string t134), (26, .string t135)]) (fun s_ w' => (w'.cell? ⟨gb129, 0, none⟩ = some (.string a0_0) ∧ w'.cell? ⟨gb129, 1, none⟩ = some (.string a0_1) ∧ w'.cell? ⟨gb130, 0, none⟩ = some (.string a1_0) ∧ w'.cell? ⟨gb130, 1, none⟩ = some (.string a1_1)) ∧ (w'.heap[gb129]? = some (.cells #[.string a0_0, .string a0_1] 23 (0, 0))) ∧ (w'.heap[gb130]? = some (.cells #[.string a1_0, .string a1_1] 23 (0, 0))) ∧ (w'.heap[gb131]? = some (.cells #[.string (⟨#[]⟩ : ByteArray), .string (⟨#[]⟩ : ByteArray)] 23 (0, 0))) ∧ (Below w.heap.size w w')) ?_ ?_; rotate_left
           ·intro hJ4_9; refine join_ (σ := Nat) 9 #[true, true, true, true, true, true, true, true, true, false, false, true, true, true, true, false, false, false, false, false, true, false, false] (fun s_ => [(21, .string t134), (5, .pointer (some ⟨s_, 0, none⟩))]) (fun s_ w' => (w'.cell? ⟨gb129, 0, none⟩ = some (.string a0_0) ∧ w'.cell? ⟨gb129, 1, none⟩ = some (.string a0_1) ∧ w'.cell? ⟨gb130, 0, none⟩ = some (.string a1_0) ∧ w'.cell? ⟨gb130, 1, none⟩ = some (.string a1_1)) ∧ (w'.heap[gb129]? = some (.cells #[.string a0_0, .string a0_1] 23 (0, 0))) ∧ (w'.heap[gb130]? = some (.cells #[.string a1_0, .string a1_1] 23 (0, 0))) ∧ (w'.heap[gb131]? = some (.cells #[.string (⟨#[]⟩ : ByteArray), .string (⟨#[]⟩ : ByteArray)] 23 (0, 0))) ∧ (w'.heap[s_]? = some (.cells #[.string (⟨#[]⟩ : ByteArray), .string (⟨#[]⟩ : ByteArray)] 23 (0, 0))) ∧ (w.heap.size ≤ s_) ∧ (w.heap.size ≤ s_) ∧ (gb129 ≠ s_) ∧ (s_ ≠ gb129) ∧ (gb130 ≠ s_) ∧ (s_ ≠ gb130) ∧ (gb131 ≠ s_) ∧ (s_ ≠ gb131) ∧ (Below w.heap.size w w')) ?_ ?_; rotate_left
            ·intro hJ4_20; refine join_ (σ := Unit) 10 #[true, true, true, true, true, true, true, true, true, false, false, true, true, true, true, false, false, false, false, false, false, false, false] (fun s_ => [(21, .string t134)]) (fun s_ w' => (w'.cell? ⟨gb129, 0, none⟩ = some (.string a0_0) ∧ w'.cell? ⟨gb129, 1, none⟩ = some (.string a0_1) ∧ w'.cell? ⟨gb130, 0, none⟩ = some (.string a1_0) ∧ w'.cell? ⟨gb130, 1, none⟩ = some (.string a1_1)) ∧ (w'.heap[gb129]? = some (.cells #[.string a0_0, .string a0_1] 23 (0, 0))) ∧ (w'.heap[gb130]? = some (.cells #[.string a1_0, .string a1_1] 23 (0, 0))) ∧ (w'.heap[gb131]? = some (.cells #[.string (⟨#[]⟩ : ByteArray), .string (⟨#[]⟩ : ByteArray)] 23 (0, 0))) ∧ (Below w.heap.size w w')) ?_ ?_; rotate_left
             ·intro hJ4; refine join_ (σ := Nat) 10 #[true, true, true, true, false, true, true, true, true, false, false, true, true, true, true, false, false, false, false, false, true, false, false] (fun s_ => [(5, .pointer (some ⟨s_, 0, none⟩))]) (fun s_ w' => (w'.cell? ⟨gb129, 0, none⟩ = some (.string a0_0) ∧ w'.cell? ⟨gb129, 1, none⟩ = some (.string a0_1) ∧ w'.cell? ⟨gb130, 0, none⟩ = some (.string a1_0) ∧ w'.cell? ⟨gb130, 1, none⟩ = some (.string a1_1)) ∧ (w'.heap[gb129]? = some (.cells #[.string a0_0, .string a0_1] 23 (0, 0))) ∧ (w'.heap[gb130]? = some (.cells #[.string a1_0, .string a1_1] 23 (0, 0))) ∧ (w'.heap[gb131]? = some (.cells #[.string (⟨#[]⟩ : ByteArray), .string (⟨#[]⟩ : ByteArray)] 23 (0, 0))) ∧ (w'.heap[s_]? = some (.cells #[.string (⟨#[]⟩ : ByteArray), .string (⟨#[]⟩ : ByteArray)] 23 (0, 0))) ∧ (w.heap.size ≤ s_) ∧ (w.heap.size ≤ s_) ∧ (gb129 ≠ s_) ∧ (s_ ≠ gb129) ∧ (gb130 ≠ s_) ∧ (s_ ≠ gb130) ∧ (gb131 ≠ s_) ∧ (s_ ≠ gb131) ∧ (Below w.heap.size w w')) ?_ ?_; rotate_left
              ·intro hJ20; refine two_ (i := 4) (j := 20) (Ni := some 21) (Nj := some 5) #[true, true, true, true, true, true, true, true, true, false, false, true, true, true, true, false, false, false, false, false, false, false, false] #[true, true, true, true, false, true, true, true, true, false, false, true, true, true, true, false, false, false, false, false, true, false, false] rfl rfl rfl rfl (two_of HT_.out (by kernel_rfl)) (by decide) (by decide) (fun K hK => ?_) (fun K hK => ?_)
               ·skip; refine gs_ Tryz.func41 #[.string a0_0, .string a1_1] ?_; refine mo_ (r2_Mul.calls a0_0 a1_1 t134 _ A25.out) ?_; intro w31 hb; replace BK129 := kb_ BK129 hb; replace BK130 := kb_ BK130 hb; replace BK131 := kb_ BK131 hb; replace HB := bs_ HB hb; (try clear hb); refine hk_ hK (fun hHeld => ?_); clear hK K; refine nm_ ?_; exact norm_ pa_ (hJ4 () _ ⟨hHeld, (k_ BK129.out), (k_ BK130.out), (k_ BK131.out), (b_ HB.out)⟩)
               ·skip; refine box_step ?hg (N := 5) ?hd (cs := #[.string (⟨#[]⟩ : ByteArray), .string (⟨#[]⟩ : ByteArray)]) (t := 23) ?hr ?_; (case hd => rfl); (case hg => rfl); (case hr => first | (go_simp; done) | (go_simp; rfl)); intro gb141 hg w31 hbox hb; have BK141 := Aside0.mk (hbox); have GW141 := ge_ HB hg; have GE141 := ge_ HB hg; have NB129_141 := nl_ BK129 hg; have NB141_129 := ng_ BK129 hg; have NB130_141 := nl_ BK130 hg; have NB141_130 := ng_ BK130 hg; have NB131_141 := nl_ BK131 hg; have NB141_131 := ng_ BK131 hg; replace BK129 := kb_ BK129 hb; replace BK130 := kb_ BK130 hb; replace BK131 := kb_ BK131 hb; replace HB := bs_ HB hb; clear hb hbox hg; refine hk_ hK (fun hHeld => ?_); clear hK K; refine nm_ ?_; exact norm_ pa_ (hJ20 (gb141) _ ⟨hHeld, (k_ BK129.out), (k_ BK130.out), (k_ BK131.out), (k_ BK141.out), GW141.out, GE141.out, NB129_141.out, NB141_129.out, NB130_141.out, NB141_130.out, NB131_141.out, NB141_131.out, (b_ HB.out)⟩)
              ·skip; rintro gb141 w32 ⟨hS_, h0_, h1_, h2_, h3_, h4_, h5_, h6_, h7_, h8_, h9_, h10_, h11_, h12_⟩; have n0_ : Aside0 (w32.heap[gb129]? = some (.cells #[.string a0_0, .string a0_1] 23 (0, 0))) := ⟨h0_⟩; have n1_ : Aside0 (w32.heap[gb130]? = some (.cells #[.string a1_0, .string a1_1] 23 (0, 0))) := ⟨h1_⟩; have n2_ : Aside0 (w32.heap[gb131]? = some (.cells #[.string (⟨#[]⟩ : ByteArray), .string (⟨#[]⟩ : ByteArray)] 23 (0, 0))) := ⟨h2_⟩; have n3_ : Aside0 (w32.heap[gb141]? = some (.cells #[.string (⟨#[]⟩ : ByteArray), .string (⟨#[]⟩ : ByteArray)] 23 (0, 0))) := ⟨h3_⟩; have n4_ : Aside0 (w.heap.size ≤ gb141) := ⟨h4_⟩; have n5_ : Aside0 (w.heap.size ≤ gb141) := ⟨h5_⟩; have n6_ : Aside0 (gb129 ≠ gb141) := ⟨h6_⟩; have n7_ : Aside0 (gb141 ≠ gb129) := ⟨h7_⟩; have n8_ : Aside0 (gb130 ≠ gb141) := ⟨h8_⟩; have n9_ : Aside0 (gb141 ≠ gb130) := ⟨h9_⟩; have n10_ : Aside0 (gb131 ≠ gb141) := ⟨h10_⟩; have n11_ : Aside0 (gb141 ≠ gb131) := ⟨h11_⟩; have n12_ : Aside0 (Below w.heap.size w w32) := ⟨h12_⟩; clear BK129; clear BK130; clear BK131; clear HB; clear h0_ h1_ h2_ h3_ h4_ h5_ h6_ h7_ h8_ h9_ h10_ h11_ h12_; have BK129 := n0_; have BK130 := n1_; have BK131 := n2_; have BK141 := n3_; have GW141 := n4_; have GE141 := n5_; have NB129_141 := n6_; have NB141_129 := n7_; have NB130_141 := n8_; have NB141_130 := n9_; have NB131_141 := n10_; have NB141_131 := n11_; have HB := n12_; clear n0_ n1_ n2_ n3_ n4_ n5_ n6_ n7_ n8_ n9_ n10_ n11_ n12_; have hHeld : w32.cell? ⟨gb129, 0, none⟩ = some (.string a0_0) ∧ w32.cell? ⟨gb129, 1, none⟩ = some (.string a0_1) ∧ w32.cell? ⟨gb130, 0, none⟩ = some (.string a1_0) ∧ w32.cell? ⟨gb130, 1, none⟩ = some (.string a1_1) := hS_; refine norm_ (a' := ?_) ?_ ?_; rotate_left
               ·simp only [putAll, Act.put, List.setIfInBounds_toArray, List.set_cons_zero, List.set_cons_succ]
                rfl
               refine on_ 4 (some 21) rfl rfl HT_ (fun K hK => ?_); refine gs_ Tryz.func41 #[.string a0_0, .string a1_1] ?_; refine mo_ (r2_Mul.calls a0_0 a1_1 t134 _ A25.out) ?_; intro w33 hb; replace BK129 := kb_ BK129 hb; replace BK130 := kb_ BK130 hb; replace BK131 := kb_ BK131 hb; replace BK141 := kb_ BK141 hb; replace HB := bs_ HB hb; (try clear hb); refine hk_ hK (fun hHeld => ?_); clear hK K; refine nm_ ?_; exact norm_ pa_ (hJ4_20 (gb141) _ ⟨hHeld, (k_ BK129.out), (k_ BK130.out), (k_ BK131.out), (k_ BK141.out), GW141.out, GE141.out, NB129_141.out, NB141_129.out, NB130_141.out, NB141_130.out, NB131_141.out, NB141_131.out, (b_ HB.out)⟩)
             ·skip; rintro _ w32 ⟨hS_, h0_, h1_, h2_, h3_⟩; have n0_ : Aside0 (w32.heap[gb129]? = some (.cells #[.string a0_0, .string a0_1] 23 (0, 0))) := ⟨h0_⟩; have n1_ : Aside0 (w32.heap[gb130]? = some (.cells #[.string a1_0, .string a1_1] 23 (0, 0))) := ⟨h1_⟩; have n2_ : Aside0 (w32.heap[gb131]? = some (.cells #[.string (⟨#[]⟩ : ByteArray), .string (⟨#[]⟩ : ByteArray)] 23 (0, 0))) := ⟨h2_⟩; have n3_ : Aside0 (Below w.heap.size w w32) := ⟨h3_⟩; clear BK129; clear BK130; clear BK131; clear HB; clear h0_ h1_ h2_ h3_; have BK129 := n0_; have BK130 := n1_; have BK131 := n2_; have HB := n3_; clear n0_ n1_ n2_ n3_; have hHeld : w32.cell? ⟨gb129, 0, none⟩ = some (.string a0_0) ∧ w32.cell? ⟨gb129, 1, none⟩ = some (.string a0_1) ∧ w32.cell? ⟨gb130, 0, none⟩ = some (.string a1_0) ∧ w32.cell? ⟨gb130, 1, none⟩ = some (.string a1_1) := hS_; refine norm_ (a' := ?_) ?_ ?_; rotate_left
              ·simp only [putAll, Act.put, List.setIfInBounds_toArray, List.set_cons_zero, List.set_cons_succ]
               rfl
              refine two_ (i := 9) (j := 20) (Ni := some 26) (Nj := some 5) #[true, true, true, true, true, true, true, true, true, true, false, true, true, true, true, false, false, false, false, false, false, false, false] #[true, true, true, true, true, true, true, true, true, false, false, true, true, true, true, false, false, false, false, false, true, false, false] rfl rfl rfl rfl (two_of HT_.out (by kernel_rfl)) (by decide) (by decide) (fun K hK => ?_) (fun K hK => ?_)
              ·skip; refine gs_ Tryz.func41 #[.string a1_0, .string a0_1] ?_; refine mo_ (r2_Mul.calls a1_0 a0_1 t135 _ A26.out) ?_; intro w33 hb; replace BK129 := kb_ BK129 hb; replace BK130 := kb_ BK130 hb; replace BK131 := kb_ BK131 hb; replace HB := bs_ HB hb; (try clear hb); refine hk_ hK (fun hHeld => ?_); clear hK K; refine nm_ ?_; exact norm_ pa_ (hJ4_9 () _ ⟨hHeld, (k_ BK129.out), (k_ BK130.out), (k_ BK131.out), (b_ HB.out)⟩)
              ·skip; refine box_step ?hg (N := 5) ?hd (cs := #[.string (⟨#[]⟩ : ByteArray), .string (⟨#[]⟩ : ByteArray)]) (t := 23) ?hr ?_; (case hd => rfl); (case hg => rfl); (case hr => first | (go_simp; done) | (go_simp; rfl)); intro gb141 hg w33 hbox hb; have BK141 := Aside0.mk (hbox); have GW141 := ge_ HB hg; have GE141 := ge_ HB hg; have NB129_141 := nl_ BK129 hg; have NB141_129 := ng_ BK129 hg; have NB130_141 := nl_ BK130 hg; have NB141_130 := ng_ BK130 hg; have NB131_141 := nl_ BK131 hg; have NB141_131 := ng_ BK131 hg; replace BK129 := kb_ BK129 hb; replace BK130 := kb_ BK130 hb; replace BK131 := kb_ BK131 hb; replace HB := bs_ HB hb; clear hb hbox hg; refine hk_ hK (fun hHeld => ?_); clear hK K; refine nm_ ?_; exact norm_ pa_ (hJ4_20 (gb141) _ ⟨hHeld, (k_ BK129.out), (k_ BK130.out), (k_ BK131.out), (k_ BK141.out), GW141.out, GE141.out, NB129_141.out, NB141_129.out, NB130_141.out, NB141_130.out, NB131_141.out, NB141_131.out, (b_ HB.out)⟩)
            ·skip; rintro gb141 w33 ⟨hS_, h0_, h1_, h2_, h3_, h4_, h5_, h6_, h7_, h8_, h9_, h10_, h11_, h12_⟩; have n0_ : Aside0 (w33.heap[gb129]? = some (.cells #[.string a0_0, .string a0_1] 23 (0, 0))) := ⟨h0_⟩; have n1_ : Aside0 (w33.heap[gb130]? = some (.cells #[.string a1_0, .string a1_1] 23 (0, 0))) := ⟨h1_⟩; have n2_ : Aside0 (w33.heap[gb131]? = some (.cells #[.string (⟨#[]⟩ : ByteArray), .string (⟨#[]⟩ : ByteArray)] 23 (0, 0))) := ⟨h2_⟩; have n3_ : Aside0 (w33.heap[gb141]? = some (.cells #[.string (⟨#[]⟩ : ByteArray), .string (⟨#[]⟩ : ByteArray)] 23 (0, 0))) := ⟨h3_⟩; have n4_ : Aside0 (w.heap.size ≤ gb141) := ⟨h4_⟩; have n5_ : Aside0 (w.heap.size ≤ gb141) := ⟨h5_⟩; have n6_ : Aside0 (gb129 ≠ gb141) := ⟨h6_⟩; have n7_ : Aside0 (gb141 ≠ gb129) := ⟨h7_⟩; have n8_ : Aside0 (gb130 ≠ gb141) := ⟨h8_⟩; have n9_ : Aside0 (gb141 ≠ gb130) := ⟨h9_⟩; have n10_ : Aside0 (gb131 ≠ gb141) := ⟨h10_⟩; have n11_ : Aside0 (gb141 ≠ gb131) := ⟨h11_⟩; have n12_ : Aside0 (Below w.heap.size w w33) := ⟨h12_⟩; clear BK129; clear BK130; clear BK131; clear HB; clear h0_ h1_ h2_ h3_ h4_ h5_ h6_ h7_ h8_ h9_ h10_ h11_ h12_; have BK129 := n0_; have BK130 := n1_; have BK131 := n2_; have BK141 := n3_; have GW141 := n4_; have GE141 := n5_; have NB129_141 := n6_; have NB141_129 := n7_; have NB130_141 := n8_; have NB141_130 := n9_; have NB131_141 := n10_; have NB141_131 := n11_; have HB := n12_; clear n0_ n1_ n2_ n3_ n4_ n5_ n6_ n7_ n8_ n9_ n10_ n11_ n12_; have hHeld : w33.cell? ⟨gb129, 0, none⟩ = some (.string a0_0) ∧ w33.cell? ⟨gb129, 1, none⟩ = some (.string a0_1) ∧ w33.cell? ⟨gb130, 0, none⟩ = some (.string a1_0) ∧ w33.cell? ⟨gb130, 1, none⟩ = some (.string a1_1) := hS_; refine norm_ (a' := ?_) ?_ ?_; rotate_left
             ·simp only [putAll, Act.put, List.setIfInBounds_toArray, List.set_cons_zero, List.set_cons_succ]
              rfl
             refine on_ 9 (some 26) rfl rfl HT_ (fun K hK => ?_); refine gs_ Tryz.func41 #[.string a1_0, .string a0_1] ?_; refine mo_ (r2_Mul.calls a1_0 a0_1 t135 _ A26.out) ?_; intro w34 hb; replace BK129 := kb_ BK129 hb; replace BK130 := kb_ BK130 hb; replace BK131 := kb_ BK131 hb; replace BK141 := kb_ BK141 hb; replace HB := bs_ HB hb; (try clear hb); refine hk_ hK (fun hHeld => ?_); clear hK K; refine nm_ ?_; exact norm_ pa_ (hJ4_9_20 (gb141) _ ⟨hHeld, (k_ BK129.out), (k_ BK130.out), (k_ BK131.out), (k_ BK141.out), GW141.out, GE141.out, NB129_141.out, NB141_129.out, NB130_141.out, NB141_130.out, NB131_141.out, NB141_131.out, (b_ HB.out)⟩)
           ·skip; rintro _ w33 ⟨hS_, h0_, h1_, h2_, h3_⟩; have n0_ : Aside0 (w33.heap[gb129]? = some (.cells #[.string a0_0, .string a0_1] 23 (0, 0))) := ⟨h0_⟩; have n1_ : Aside0 (w33.heap[gb130]? = some (.cells #[.string a1_0, .string a1_1] 23 (0, 0))) := ⟨h1_⟩; have n2_ : Aside0 (w33.heap[gb131]? = some (.cells #[.string (⟨#[]⟩ : ByteArray), .string (⟨#[]⟩ : ByteArray)] 23 (0, 0))) := ⟨h2_⟩; have n3_ : Aside0 (Below w.heap.size w w33) := ⟨h3_⟩; clear BK129; clear BK130; clear BK131; clear HB; clear h0_ h1_ h2_ h3_; have BK129 := n0_; have BK130 := n1_; have BK131 := n2_; have HB := n3_; clear n0_ n1_ n2_ n3_; have hHeld : w33.cell? ⟨gb129, 0, none⟩ = some (.string a0_0) ∧ w33.cell? ⟨gb129, 1, none⟩ = some (.string a0_1) ∧ w33.cell? ⟨gb130, 0, none⟩ = some (.string a1_0) ∧ w33.cell? ⟨gb130, 1, none⟩ = some (.string a1_1) := hS_; refine norm_ (a' := ?_) ?_ ?_; rotate_left
            ·simp only [putAll, Act.put, List.setIfInBounds_toArray, List.set_cons_zero, List.set_cons_succ]
             rfl
            refine two_ (i := 10) (j := 20) (Ni := some 27) (Nj := some 5) #[true, true, true, true, true, true, true, true, true, true, true, true, true, true, true, false, false, false, false, false, false, false, false] #[true, true, true, true, true, true, true, true, true, true, false, true, true, true, true, false, false, false, false, false, true, false, false] rfl rfl rfl rfl (two_of HT_.out (by kernel_rfl)) (by decide) (by decide) (fun K hK => ?_) (fun K hK => ?_)
            ·skip; refine gs_ Tryz.func33 #[.string t134, .string t135] ?_; refine mo_ (r2_Add.calls t134 t135 t136 _ A27.out) ?_; intro w34 hb; replace BK129 := kb_ BK129 hb; replace BK130 := kb_ BK130 hb; replace BK131 := kb_ BK131 hb; replace HB := bs_ HB hb; (try clear hb); refine hk_ hK (fun hHeld => ?_); clear hK K; refine nm_ ?_; exact norm_ pa_ (hJ4_9_10 () _ ⟨hHeld, (k_ BK129.out), (k_ BK130.out), (k_ BK131.out), (b_ HB.out)⟩)
            ·skip; refine box_step ?hg (N := 5) ?hd (cs := #[.string (⟨#[]⟩ : ByteArray), .string (⟨#[]⟩ : ByteArray)]) (t := 23) ?hr ?_; (case hd => rfl); (case hg => rfl); (case hr => first | (go_simp; done) | (go_simp; rfl)); intro gb141 hg w34 hbox hb; have BK141 := Aside0.mk (hbox); have GW141 := ge_ HB hg; have GE141 := ge_ HB hg; have NB129_141 := nl_ BK129 hg; have NB141_129 := ng_ BK129 hg; have NB130_141 := nl_ BK130 hg; have NB141_130 := ng_ BK130 hg; have NB131_141 := nl_ BK131 hg; have NB141_131 := ng_ BK131 hg; replace BK129 := kb_ BK129 hb; replace BK130 := kb_ BK130 hb; replace BK131 := kb_ BK131 hb; replace HB := bs_ HB hb; clear hb hbox hg; refine hk_ hK (fun hHeld => ?_); clear hK K; refine nm_ ?_; exact norm_ pa_ (hJ4_9_20 (gb141) _ ⟨hHeld, (k_ BK129.out), (k_ BK130.out), (k_ BK131.out), (k_ BK141.out), GW141.out, GE141.out, NB129_141.out, NB141_129.out, NB130_141.out, NB141_130.out, NB131_141.out, NB141_131.out, (b_ HB.out)⟩)
          ·skip; rintro gb141 w34 ⟨hS_, h0_, h1_, h2_, h3_, h4_, h5_, h6_, h7_, h8_, h9_, h10_, h11_, h12_⟩; have n0_ : Aside0 (w34.heap[gb129]? = some (.cells #[.string a0_0, .string a0_1] 23 (0, 0))) := ⟨h0_⟩; have n1_ : Aside0 (w34.heap[gb130]? = some (.cells #[.string a1_0, .string a1_1] 23 (0, 0))) := ⟨h1_⟩; have n2_ : Aside0 (w34.heap[gb131]? = some (.cells #[.string (⟨#[]⟩ : ByteArray), .string (⟨#[]⟩ : ByteArray)] 23 (0, 0))) := ⟨h2_⟩; have n3_ : Aside0 (w34.heap[gb141]? = some (.cells #[.string (⟨#[]⟩ : ByteArray), .string (⟨#[]⟩ : ByteArray)] 23 (0, 0))) := ⟨h3_⟩; have n4_ : Aside0 (w.heap.size ≤ gb141) := ⟨h4_⟩; have n5_ : Aside0 (w.heap.size ≤ gb141) := ⟨h5_⟩; have n6_ : Aside0 (gb129 ≠ gb141) := ⟨h6_⟩; have n7_ : Aside0 (gb141 ≠ gb129) := ⟨h7_⟩; have n8_ : Aside0 (gb130 ≠ gb141) := ⟨h8_⟩; have n9_ : Aside0 (gb141 ≠ gb130) := ⟨h9_⟩; have n10_ : Aside0 (gb131 ≠ gb141) := ⟨h10_⟩; have n11_ : Aside0 (gb141 ≠ gb131) := ⟨h11_⟩; have n12_ : Aside0 (Below w.heap.size w w34) := ⟨h12_⟩; clear BK129; clear BK130; clear BK131; clear HB; clear h0_ h1_ h2_ h3_ h4_ h5_ h6_ h7_ h8_ h9_ h10_ h11_ h12_; have BK129 := n0_; have BK130 := n1_; have BK131 := n2_; have BK141 := n3_; have GW141 := n4_; have GE141 := n5_; have NB129_141 := n6_; have NB141_129 := n7_; have NB130_141 := n8_; have NB141_130 := n9_; have NB131_141 := n10_; have NB141_131 := n11_; have HB := n12_; clear n0_ n1_ n2_ n3_ n4_ n5_ n6_ n7_ n8_ n9_ n10_ n11_ n12_; have hHeld : w34.cell? ⟨gb129, 0, none⟩ = some (.string a0_0) ∧ w34.cell? ⟨gb129, 1, none⟩ = some (.string a0_1) ∧ w34.cell? ⟨gb130, 0, none⟩ = some (.string a1_0) ∧ w34.cell? ⟨gb130, 1, none⟩ = some (.string a1_1) := hS_; refine norm_ (a' := ?_) ?_ ?_; rotate_left
           ·simp only [putAll, Act.put, List.setIfInBounds_toArray, List.set_cons_zero, List.set_cons_succ]
            rfl
           refine on_ 10 (some 27) rfl rfl HT_ (fun K hK => ?_); refine gs_ Tryz.func33 #[.string t134, .string t135] ?_; refine mo_ (r2_Add.calls t134 t135 t136 _ A27.out) ?_; intro w35 hb; replace BK129 := kb_ BK129 hb; replace BK130 := kb_ BK130 hb; replace BK131 := kb_ BK131 hb; replace BK141 := kb_ BK141 hb; replace HB := bs_ HB hb; (try clear hb); refine hk_ hK (fun hHeld => ?_); clear hK K; refine nm_ ?_; exact norm_ pa_ (hJ4_9_10_20 (gb141) _ ⟨hHeld, (k_ BK129.out), (k_ BK130.out), (k_ BK131.out), (k_ BK141.out), GW141.out, GE141.out, NB129_141.out, NB141_129.out, NB130_141.out, NB141_130.out, NB131_141.out, NB141_131.out, (b_ HB.out)⟩)
         ·skip; rintro _ w34 ⟨hS_, h0_, h1_, h2_, h3_⟩; have n0_ : Aside0 (w34.heap[gb129]? = some (.cells #[.string a0_0, .string a0_1] 23 (0, 0))) := ⟨h0_⟩; have n1_ : Aside0 (w34.heap[gb130]? = some (.cells #[.string a1_0, .string a1_1] 23 (0, 0))) := ⟨h1_⟩; have n2_ : Aside0 (w34.heap[gb131]? = some (.cells #[.string (⟨#[]⟩ : ByteArray), .string (⟨#[]⟩ : ByteArray)] 23 (0, 0))) := ⟨h2_⟩; have n3_ : Aside0 (Below w.heap.size w w34) := ⟨h3_⟩; clear BK129; clear BK130; clear BK131; clear HB; clear h0_ h1_ h2_ h3_; have BK129 := n0_; have BK130 := n1_; have BK131 := n2_; have HB := n3_; clear n0_ n1_ n2_ n3_; have hHeld : w34.cell? ⟨gb129, 0, none⟩ = some (.string a0_0) ∧ w34.cell? ⟨gb129, 1, none⟩ = some (.string a0_1) ∧ w34.cell? ⟨gb130, 0, none⟩ = some (.string a1_0) ∧ w34.cell? ⟨gb130, 1, none⟩ = some (.string a1_1) := hS_; refine norm_ (a' := ?_) ?_ ?_; rotate_left
          ·simp only [putAll, Act.put, List.setIfInBounds_toArray, List.set_cons_zero, List.set_cons_succ]
           rfl
          refine two_ (i := 15) (j := 20) (Ni := some 32) (Nj := some 5) #[true, true, true, true, true, true, true, true, true, true, true, true, true, true, true, true, false, false, false, false, false, false, false] #[true, true, true, true, true, true, true, true, true, true, true, true, true, true, true, false, false, false, false, false, true, false, false] rfl rfl rfl rfl (two_of HT_.out (by kernel_rfl)) (by decide) (by decide) (fun K hK => ?_) (fun K hK => ?_)
          ·skip; refine gs_ Tryz.func47 #[.string a0_1, .string a1_1] ?_; refine mo_ (r1_Mul.calls a0_1 a1_1 t137 _ A28.out) ?_; intro w35 hb; replace BK129 := kb_ BK129 hb; replace BK130 := kb_ BK130 hb; replace BK131 := kb_ BK131 hb; replace HB := bs_ HB hb; (try clear hb); refine hk_ hK (fun hHeld => ?_); clear hK K; refine nm_ ?_; exact norm_ pa_ (hJ4_9_10_15 () _ ⟨hHeld, (k_ BK129.out), (k_ BK130.out), (k_ BK131.out), (b_ HB.out)⟩)
          ·skip; refine box_step ?hg (N := 5) ?hd (cs := #[.string (⟨#[]⟩ : ByteArray), .string (⟨#[]⟩ : ByteArray)]) (t := 23) ?hr ?_; (case hd => rfl); (case hg => rfl); (case hr => first | (go_simp; done) | (go_simp; rfl)); intro gb141 hg w35 hbox hb; have BK141 := Aside0.mk (hbox); have GW141 := ge_ HB hg; have GE141 := ge_ HB hg; have NB129_141 := nl_ BK129 hg; have NB141_129 := ng_ BK129 hg; have NB130_141 := nl_ BK130 hg; have NB141_130 := ng_ BK130 hg; have NB131_141 := nl_ BK131 hg; have NB141_131 := ng_ BK131 hg; replace BK129 := kb_ BK129 hb; replace BK130 := kb_ BK130 hb; replace BK131 := kb_ BK131 hb; replace HB := bs_ HB hb; clear hb hbox hg; refine hk_ hK (fun hHeld => ?_); clear hK K; refine nm_ ?_; exact norm_ pa_ (hJ4_9_10_20 (gb141) _ ⟨hHeld, (k_ BK129.out), (k_ BK130.out), (k_ BK131.out), (k_ BK141.out), GW141.out, GE141.out, NB129_141.out, NB141_129.out, NB130_141.out, NB141_130.out, NB131_141.out, NB141_131.out, (b_ HB.out)⟩)
        ·skip; rintro gb141 w35 ⟨hS_, h0_, h1_, h2_, h3_, h4_, h5_, h6_, h7_, h8_, h9_, h10_, h11_, h12_⟩; have n0_ : Aside0 (w35.heap[gb129]? = some (.cells #[.string a0_0, .string a0_1] 23 (0, 0))) := ⟨h0_⟩; have n1_ : Aside0 (w35.heap[gb130]? = some (.cells #[.string a1_0, .string a1_1] 23 (0, 0))) := ⟨h1_⟩; have n2_ : Aside0 (w35.heap[gb131]? = some (.cells #[.string (⟨#[]⟩ : ByteArray), .string (⟨#[]⟩ : ByteArray)] 23 (0, 0))) := ⟨h2_⟩; have n3_ : Aside0 (w35.heap[gb141]? = some (.cells #[.string (⟨#[]⟩ : ByteArray), .string (⟨#[]⟩ : ByteArray)] 23 (0, 0))) := ⟨h3_⟩; have n4_ : Aside0 (w.heap.size ≤ gb141) := ⟨h4_⟩; have n5_ : Aside0 (w.heap.size ≤ gb141) := ⟨h5_⟩; have n6_ : Aside0 (gb129 ≠ gb141) := ⟨h6_⟩; have n7_ : Aside0 (gb141 ≠ gb129) := ⟨h7_⟩; have n8_ : Aside0 (gb130 ≠ gb141) := ⟨h8_⟩; have n9_ : Aside0 (gb141 ≠ gb130) := ⟨h9_⟩; have n10_ : Aside0 (gb131 ≠ gb141) := ⟨h10_⟩; have n11_ : Aside0 (gb141 ≠ gb131) := ⟨h11_⟩; have n12_ : Aside0 (Below w.heap.size w w35) := ⟨h12_⟩; clear BK129; clear BK130; clear BK131; clear HB; clear h0_ h1_ h2_ h3_ h4_ h5_ h6_ h7_ h8_ h9_ h10_ h11_ h12_; have BK129 := n0_; have BK130 := n1_; have BK131 := n2_; have BK141 := n3_; have GW141 := n4_; have GE141 := n5_; have NB129_141 := n6_; have NB141_129 := n7_; have NB130_141 := n8_; have NB141_130 := n9_; have NB131_141 := n10_; have NB141_131 := n11_; have HB := n12_; clear n0_ n1_ n2_ n3_ n4_ n5_ n6_ n7_ n8_ n9_ n10_ n11_ n12_; have hHeld : w35.cell? ⟨gb129, 0, none⟩ = some (.string a0_0) ∧ w35.cell? ⟨gb129, 1, none⟩ = some (.string a0_1) ∧ w35.cell? ⟨gb130, 0, none⟩ = some (.string a1_0) ∧ w35.cell? ⟨gb130, 1, none⟩ = some (.string a1_1) := hS_; refine norm_ (a' := ?_) ?_ ?_; rotate_left
         ·simp only [putAll, Act.put, List.setIfInBounds_toArray, List.set_cons_zero, List.set_cons_succ]
          rfl
         refine on_ 15 (some 32) rfl rfl HT_ (fun K hK => ?_); refine gs_ Tryz.func47 #[.string a0_1, .string a1_1] ?_; refine mo_ (r1_Mul.calls a0_1 a1_1 t137 _ A28.out) ?_; intro w36 hb; replace BK129 := kb_ BK129 hb; replace BK130 := kb_ BK130 hb; replace BK131 := kb_ BK131 hb; replace BK141 := kb_ BK141 hb; replace HB := bs_ HB hb; (try clear hb); refine hk_ hK (fun hHeld => ?_); clear hK K; refine nm_ ?_; exact norm_ pa_ (hJ4_9_10_15_20 (gb141) _ ⟨hHeld, (k_ BK129.out), (k_ BK130.out), (k_ BK131.out), (k_ BK141.out), GW141.out, GE141.out, NB129_141.out, NB141_129.out, NB130_141.out, NB141_130.out, NB131_141.out, NB141_131.out, (b_ HB.out)⟩)
       ·skip; rintro _ w35 ⟨hS_, h0_, h1_, h2_, h3_⟩; have n0_ : Aside0 (w35.heap[gb129]? = some (.cells #[.string a0_0, .string a0_1] 23 (0, 0))) := ⟨h0_⟩; have n1_ : Aside0 (w35.heap[gb130]? = some (.cells #[.string a1_0, .string a1_1] 23 (0, 0))) := ⟨h1_⟩; have n2_ : Aside0 (w35.heap[gb131]? = some (.cells #[.string (⟨#[]⟩ : ByteArray), .string (⟨#[]⟩ : ByteArray)] 23 (0, 0))) := ⟨h2_⟩; have n3_ : Aside0 (Below w.heap.size w w35) := ⟨h3_⟩; clear BK129; clear BK130; clear BK131; clear HB; clear h0_ h1_ h2_ h3_; have BK129 := n0_; have BK130 := n1_; have BK131 := n2_; have HB := n3_; clear n0_ n1_ n2_ n3_; have hHeld : w35.cell? ⟨gb129, 0, none⟩ = some (.string a0_0) ∧ w35.cell? ⟨gb129, 1, none⟩ = some (.string a0_1) ∧ w35.cell? ⟨gb130, 0, none⟩ = some (.string a1_0) ∧ w35.cell? ⟨gb130, 1, none⟩ = some (.string a1_1) := hS_; refine norm_ (a' := ?_) ?_ ?_; rotate_left
        ·simp only [putAll, Act.put, List.setIfInBounds_toArray, List.set_cons_zero, List.set_cons_succ]
         rfl
        refine two_ (i := 16) (j := 20) (Ni := some 33) (Nj := some 5) #[true, true, true, true, true, true, true, true, true, true, true, true, true, true, true, true, true, false, false, false, false, false, false] #[true, true, true, true, true, true, true, true, true, true, true, true, true, true, true, true, false, false, false, false, true, false, false] rfl rfl rfl rfl (two_of HT_.out (by kernel_rfl)) (by decide) (by decide) (fun K hK => ?_) (fun K hK => ?_)
        ·skip; refine gs_ Tryz.func40 #[.string t136, .string t137] ?_; refine mo_ (r3_Make.calls kj2 t136 t137 t138 t139 t140 _ A29.out) ?_; intro w36 hb; replace BK129 := kb_ BK129 hb; replace BK130 := kb_ BK130 hb; replace BK131 := kb_ BK131 hb; replace HB := bs_ HB hb; (try clear hb); refine hk_ hK (fun hHeld => ?_); clear hK K; refine nm_ ?_; refine pu_ 17 16 rfl rfl HT_ ?_; refine pu_ 18 34 rfl rfl HT_ ?_; refine pu_ 19 35 rfl rfl HT_ ?_; exact norm_ pa_ (hJ4_9_10_15_16 () _ ⟨hHeld, (k_ BK129.out), (k_ BK130.out), (k_ BK131.out), (b_ HB.out)⟩)
        ·skip; refine box_step ?hg (N := 5) ?hd (cs := #[.string (⟨#[]⟩ : ByteArray), .string (⟨#[]⟩ : ByteArray)]) (t := 23) ?hr ?_; (case hd => rfl); (case hg => rfl); (case hr => first | (go_simp; done) | (go_simp; rfl)); intro gb141 hg w36 hbox hb; have BK141 := Aside0.mk (hbox); have GW141 := ge_ HB hg; have GE141 := ge_ HB hg; have NB129_141 := nl_ BK129 hg; have NB141_129 := ng_ BK129 hg; have NB130_141 := nl_ BK130 hg; have NB141_130 := ng_ BK130 hg; have NB131_141 := nl_ BK131 hg; have NB141_131 := ng_ BK131 hg; replace BK129 := kb_ BK129 hb; replace BK130 := kb_ BK130 hb; replace BK131 := kb_ BK131 hb; replace HB := bs_ HB hb; clear hb hbox hg; refine hk_ hK (fun hHeld => ?_); clear hK K; refine nm_ ?_; exact norm_ pa_ (hJ4_9_10_15_20 (gb141) _ ⟨hHeld, (k_ BK129.out), (k_ BK130.out), (k_ BK131.out), (k_ BK141.out), GW141.out, GE141.out, NB129_141.out, NB141_129.out, NB130_141.out, NB141_130.out, NB131_141.out, NB141_131.out, (b_ HB.out)⟩)
      ·skip; rintro gb141 w36 ⟨hS_, h0_, h1_, h2_, h3_, h4_, h5_, h6_, h7_, h8_, h9_, h10_, h11_, h12_⟩; have n0_ : Aside0 (w36.heap[gb129]? = some (.cells #[.string a0_0, .string a0_1] 23 (0, 0))) := ⟨h0_⟩; have n1_ : Aside0 (w36.heap[gb130]? = some (.cells #[.string a1_0, .string a1_1] 23 (0, 0))) := ⟨h1_⟩; have n2_ : Aside0 (w36.heap[gb131]? = some (.cells #[.string (⟨#[]⟩ : ByteArray), .string (⟨#[]⟩ : ByteArray)] 23 (0, 0))) := ⟨h2_⟩; have n3_ : Aside0 (w36.heap[gb141]? = some (.cells #[.string (⟨#[]⟩ : ByteArray), .string (⟨#[]⟩ : ByteArray)] 23 (0, 0))) := ⟨h3_⟩; have n4_ : Aside0 (w.heap.size ≤ gb141) := ⟨h4_⟩; have n5_ : Aside0 (w.heap.size ≤ gb141) := ⟨h5_⟩; have n6_ : Aside0 (gb129 ≠ gb141) := ⟨h6_⟩; have n7_ : Aside0 (gb141 ≠ gb129) := ⟨h7_⟩; have n8_ : Aside0 (gb130 ≠ gb141) := ⟨h8_⟩; have n9_ : Aside0 (gb141 ≠ gb130) := ⟨h9_⟩; have n10_ : Aside0 (gb131 ≠ gb141) := ⟨h10_⟩; have n11_ : Aside0 (gb141 ≠ gb131) := ⟨h11_⟩; have n12_ : Aside0 (Below w.heap.size w w36) := ⟨h12_⟩; clear BK129; clear BK130; clear BK131; clear HB; clear h0_ h1_ h2_ h3_ h4_ h5_ h6_ h7_ h8_ h9_ h10_ h11_ h12_; have BK129 := n0_; have BK130 := n1_; have BK131 := n2_; have BK141 := n3_; have GW141 := n4_; have GE141 := n5_; have NB129_141 := n6_; have NB141_129 := n7_; have NB130_141 := n8_; have NB141_130 := n9_; have NB131_141 := n10_; have NB141_131 := n11_; have HB := n12_; clear n0_ n1_ n2_ n3_ n4_ n5_ n6_ n7_ n8_ n9_ n10_ n11_ n12_; have hHeld : w36.cell? ⟨gb129, 0, none⟩ = some (.string a0_0) ∧ w36.cell? ⟨gb129, 1, none⟩ = some (.string a0_1) ∧ w36.cell? ⟨gb130, 0, none⟩ = some (.string a1_0) ∧ w36.cell? ⟨gb130, 1, none⟩ = some (.string a1_1) := hS_; refine norm_ (a' := ?_) ?_ ?_; rotate_left
       ·simp only [putAll, Act.put, List.setIfInBounds_toArray, List.set_cons_zero, List.set_cons_succ]
        rfl
       refine on_ 16 (some 33) rfl rfl HT_ (fun K hK => ?_); refine gs_ Tryz.func40 #[.string t136, .string t137] ?_; refine mo_ (r3_Make.calls kj2 t136 t137 t138 t139 t140 _ A29.out) ?_; intro w37 hb; replace BK129 := kb_ BK129 hb; replace BK130 := kb_ BK130 hb; replace BK131 := kb_ BK131 hb; replace BK141 := kb_ BK141 hb; replace HB := bs_ HB hb; (try clear hb); refine hk_ hK (fun hHeld => ?_); clear hK K; refine nm_ ?_; refine pu_ 17 16 rfl rfl HT_ ?_; refine pu_ 18 34 rfl rfl HT_ ?_; refine pu_ 19 35 rfl rfl HT_ ?_; exact norm_ pa_ (hJ4_9_10_15_16_20 (gb141) _ ⟨hHeld, (k_ BK129.out), (k_ BK130.out), (k_ BK131.out), (k_ BK141.out), GW141.out, GE141.out, NB129_141.out, NB141_129.out, NB130_141.out, NB141_130.out, NB131_141.out, NB141_131.out, (b_ HB.out)⟩)
     ·skip; rintro _ w36 ⟨hS_, h0_, h1_, h2_, h3_⟩; have n0_ : Aside0 (w36.heap[gb129]? = some (.cells #[.string a0_0, .string a0_1] 23 (0, 0))) := ⟨h0_⟩; have n1_ : Aside0 (w36.heap[gb130]? = some (.cells #[.string a1_0, .string a1_1] 23 (0, 0))) := ⟨h1_⟩; have n2_ : Aside0 (w36.heap[gb131]? = some (.cells #[.string (⟨#[]⟩ : ByteArray), .string (⟨#[]⟩ : ByteArray)] 23 (0, 0))) := ⟨h2_⟩; have n3_ : Aside0 (Below w.heap.size w w36) := ⟨h3_⟩; clear BK129; clear BK130; clear BK131; clear HB; clear h0_ h1_ h2_ h3_; have BK129 := n0_; have BK130 := n1_; have BK131 := n2_; have HB := n3_; clear n0_ n1_ n2_ n3_; have hHeld : w36.cell? ⟨gb129, 0, none⟩ = some (.string a0_0) ∧ w36.cell? ⟨gb129, 1, none⟩ = some (.string a0_1) ∧ w36.cell? ⟨gb130, 0, none⟩ = some (.string a1_0) ∧ w36.cell? ⟨gb130, 1, none⟩ = some (.string a1_1) := hS_; refine norm_ (a' := ?_) ?_ ?_; rotate_left
      ·simp only [putAll, Act.put, List.setIfInBounds_toArray, List.set_cons_zero, List.set_cons_succ]
       rfl
      refine on_ 20 (some 5) rfl rfl HT_ (fun K hK => ?_); refine box_step ?hg (N := 5) ?hd (cs := #[.string (⟨#[]⟩ : ByteArray), .string (⟨#[]⟩ : ByteArray)]) (t := 23) ?hr ?_; (case hd => rfl); (case hg => rfl); (case hr => first | (go_simp; done) | (go_simp; rfl)); intro gb141 hg w37 hbox hb; have BK141 := Aside0.mk (hbox); have GW141 := ge_ HB hg; have GE141 := ge_ HB hg; have NB129_141 := nl_ BK129 hg; have NB141_129 := ng_ BK129 hg; have NB130_141 := nl_ BK130 hg; have NB141_130 := ng_ BK130 hg; have NB131_141 := nl_ BK131 hg; have NB141_131 := ng_ BK131 hg; replace BK129 := kb_ BK129 hb; replace BK130 := kb_ BK130 hb; replace BK131 := kb_ BK131 hb; replace HB := bs_ HB hb; clear hb hbox hg; refine hk_ hK (fun hHeld => ?_); clear hK K; refine nm_ ?_; exact norm_ pa_ (hJ4_9_10_15_16_20 (gb141) _ ⟨hHeld, (k_ BK129.out), (k_ BK130.out), (k_ BK131.out), (k_ BK141.out), GW141.out, GE141.out, NB129_141.out, NB141_129.out, NB130_141.out, NB141_130.out, NB131_141.out, NB141_131.out, (b_ HB.out)⟩)
    rintro gb141 w37 ⟨hS_, h0_, h1_, h2_, h3_, h4_, h5_, h6_, h7_, h8_, h9_, h10_, h11_, h12_⟩; have n0_ : Aside0 (w37.heap[gb129]? = some (.cells #[.string a0_0, .string a0_1] 23 (0, 0))) := ⟨h0_⟩; have n1_ : Aside0 (w37.heap[gb130]? = some (.cells #[.string a1_0, .string a1_1] 23 (0, 0))) := ⟨h1_⟩; have n2_ : Aside0 (w37.heap[gb131]? = some (.cells #[.string (⟨#[]⟩ : ByteArray), .string (⟨#[]⟩ : ByteArray)] 23 (0, 0))) := ⟨h2_⟩; have n3_ : Aside0 (w37.heap[gb141]? = some (.cells #[.string (⟨#[]⟩ : ByteArray), .string (⟨#[]⟩ : ByteArray)] 23 (0, 0))) := ⟨h3_⟩; have n4_ : Aside0 (w.heap.size ≤ gb141) := ⟨h4_⟩; have n5_ : Aside0 (w.heap.size ≤ gb141) := ⟨h5_⟩; have n6_ : Aside0 (gb129 ≠ gb141) := ⟨h6_⟩; have n7_ : Aside0 (gb141 ≠ gb129) := ⟨h7_⟩; have n8_ : Aside0 (gb130 ≠ gb141) := ⟨h8_⟩; have n9_ : Aside0 (gb141 ≠ gb130) := ⟨h9_⟩; have n10_ : Aside0 (gb131 ≠ gb141) := ⟨h10_⟩; have n11_ : Aside0 (gb141 ≠ gb131) := ⟨h11_⟩; have n12_ : Aside0 (Below w.heap.size w w37) := ⟨h12_⟩; clear BK129; clear BK130; clear BK131; clear HB; clear h0_ h1_ h2_ h3_ h4_ h5_ h6_ h7_ h8_ h9_ h10_ h11_ h12_; have BK129 := n0_; have BK130 := n1_; have BK131 := n2_; have BK141 := n3_; have GW141 := n4_; have GE141 := n5_; have NB129_141 := n6_; have NB141_129 := n7_; have NB130_141 := n8_; have NB141_130 := n9_; have NB131_141 := n10_; have NB141_131 := n11_; have HB := n12_; clear n0_ n1_ n2_ n3_ n4_ n5_ n6_ n7_ n8_ n9_ n10_ n11_ n12_; have hHeld : w37.cell? ⟨gb129, 0, none⟩ = some (.string a0_0) ∧ w37.cell? ⟨gb129, 1, none⟩ = some (.string a0_1) ∧ w37.cell? ⟨gb130, 0, none⟩ = some (.string a1_0) ∧ w37.cell? ⟨gb130, 1, none⟩ = some (.string a1_1) := hS_; refine norm_ (a' := ?_) ?_ ?_; rotate_left
    ·simp only [putAll, Act.put, List.setIfInBounds_toArray, List.set_cons_zero, List.set_cons_succ]
     rfl
    refine on_ 21 none rfl rfl HT_ (fun K hK => ?_); have hs38 := bc_ BK141 0 rfl; have hfs38 := blk_frozen BK141.out 0; have hns38_0 := NB129_141.out; have hns38_1 := NB130_141.out; have hns38_2 := NB131_141.out; have hms38_0 := NB141_129.out; have hms38_1 := NB141_130.out; have hms38_2 := NB141_131.out; have hs39 := bc_ BK141 1 rfl; have hfs39 := blk_frozen BK141.out 1; have hns39_0 := NB129_141.out; have hns39_1 := NB130_141.out; have hns39_2 := NB131_141.out; have hms39_0 := NB141_129.out; have hms39_1 := NB141_130.out; have hms39_2 := NB141_131.out; refine skip_ (w1 := ?_) (by rfl) rfl ?_ ?_; rotate_left
    ·go_simp
     rfl
    refine hf_ hK hHeld (fun hHeld => ?_); clear hK K; refine pu_ 22 6 rfl rfl HT_ ?_; refine done_ (done_of HT_.out (by kernel_rfl)) ?_; have hnb40 := NB141_129.out; have hnc40 := NB129_141.out; have hnb41 := NB141_130.out; have hnc41 := NB130_141.out; have hnb42 := NB141_131.out; have hnc42 := NB131_141.out; have hcz43_0 := bc_ BK141 0 rfl; have hcz43_1 := bc_ BK141 1 rfl; have hfz43_0 := blk_frozen BK141.out 0; have hfz43_1 := blk_frozen BK141.out 1; have hnb44 := NB131_129.out; have hnc44 := NB129_131.out; have hnb45 := NB131_130.out; have hnc45 := NB130_131.out; have hcz46_0 := bc_ BK131 0 rfl; have hcz46_1 := bc_ BK131 1 rfl; have hfz46_0 := blk_frozen BK131.out 0; have hfz46_1 := blk_frozen BK131.out 1
    try go_wp2
    refine bodyPost_ret (results_cell_row rfl _ _ gb131 23 #[.string t138, .string t139] (0, 0) _ rfl (by refine k_ ?_; refine blk_put (cs := #[.string t138, .string (⟨#[]⟩ : ByteArray)]) ?_ 1 _ rfl; refine k_ ?_; refine blk_put (cs := #[.string (⟨#[]⟩ : ByteArray), .string (⟨#[]⟩ : ByteArray)]) ?_ 0 _ rfl; refine k_ ?_; refine blk_far ?_ NB131_141.out _; refine k_ ?_; refine blk_far ?_ NB131_141.out _; refine k_ ?_; exact BK131.out) Tryz.underlying23 rfl (by kernel_rfl)) rfl ?_; exact ⟨er_, b_ HB.out⟩
end Go.Proofs.YtmfcpapfikbomaaGreatDoor.Pz
end

section
namespace Go.Proofs.YtmfcpapfikbomaaGreatDoor.Pz
def r3_Sub.f (k : Nat) (a0_0 : ByteArray) (a0_1 : ByteArray) (a1_0 : ByteArray) (a1_1 : ByteArray) : Option (ByteArray × ByteArray) := (r3_Neg.f a1_0 a1_1).bind fun bt145 => ((r3_Add.f k a0_0 a0_1 bt145.1 bt145.2).bind fun bt147 => (some (bt147.1, bt147.2)))
set_option maxHeartbeats 8000000 in
set_option maxRecDepth 100000 in
theorem r3_Sub.calls (k : Nat) (a0_0 : ByteArray) (a0_1 : ByteArray) (a1_0 : ByteArray) (a1_1 : ByteArray) (r1 : ByteArray) (r2 : ByteArray) (w : World) (h : r3_Sub.f k a0_0 a0_1 a1_0 a1_1 = some (r1, r2)) :
  Calls Tryz.prog 20 #[.agg #[.string a0_0, .string a0_1], .agg #[.string a1_0, .string a1_1]] w fun e w' => e = .returned (.agg #[.string r1, .string r2]) ∧ Below w.heap.size w w' := by
 have hu23 := Tryz.underlying23; have HB := Aside0.mk (Below.refl w.heap.size w); have H := h; unfold r3_Sub.f at H; clear h; obtain ⟨⟨t145, t146⟩, A3, H⟩ := bi_ H; (try dsimp only at H); obtain ⟨⟨t147, t148⟩, A4, H⟩ := bi_ H; (try dsimp only at H); simp only [Option.some.injEq, Prod.mk.injEq] at H; obtain ⟨rfl, rfl⟩ := H; go_enter Tryz.func20, Tryz.ntmps20
 try go_wp2_with (first | ((with_reducible refine gate_dst (N := 2) rfl ?_); refine be_ 2 #[.string a0_0, .string a0_1] 23 ?_; intro gb142 hg w5 hbox hb; have BK142 := Aside0.mk (hbox); have GW142 := ge_ HB hg; have GE142 := ge_ HB hg; replace HB := bs_ HB hb; clear hb hbox hg) | ((with_reducible refine gate_dst (N := 3) rfl ?_); refine be_ 3 #[.string a1_0, .string a1_1] 23 ?_; intro gb143 hg w6 hbox hb; have BK143 := Aside0.mk (hbox); have GW143 := ge_ HB hg; have GE143 := ge_ HB hg; have NB142_143 := nl_ BK142 hg; have NB143_142 := ng_ BK142 hg; replace BK142 := kb_ BK142 hb; replace HB := bs_ HB hb; clear hb hbox hg) | ((with_reducible refine gate_dst (N := 4) rfl ?_); refine be_ 4 #[.string (⟨#[]⟩ : ByteArray), .string (⟨#[]⟩ : ByteArray)] 23 ?_; intro gb144 hg w7 hbox hb; have BK144 := Aside0.mk (hbox); have GW144 := ge_ HB hg; have GE144 := ge_ HB hg; have NB142_144 := nl_ BK142 hg; have NB144_142 := ng_ BK142 hg; have NB143_144 := nl_ BK143 hg; have NB144_143 := ng_ BK143 hg; replace BK142 := kb_ BK142 hb; replace BK143 := kb_ BK143 hb; replace HB := bs_ HB hb; clear hb hbox hg))
 replace BK142 := Aside0.mk (blk_drew BK142.out); replace BK143 := Aside0.mk (blk_drew BK143.out); replace BK144 := Aside0.mk (blk_drew BK144.out); replace HB := Aside0.mk (below_drew1 HB.out); refine sa_ 5 (fun w' => w'.cell? ⟨gb142, 0, none⟩ = some (.string a0_0) ∧ w'.cell? ⟨gb142, 1, none⟩ = some (.string a0_1) ∧ w'.cell? ⟨gb143, 0, none⟩ = some (.string a1_0) ∧ w'.cell? ⟨gb143, 1, none⟩ = some (.string a1_1)) (fun hHeld => ?_); generalize w7.drew = w8 at BK142 BK143 BK144 HB hHeld ⊢; refine take_ (i := 0) (N := some 5) (v := ?_) (a' := ?_) #[true, false, false, false, false] rfl rfl (by kernel_rfl) (fun _ _ _ h => h) (Or.inl ⟨by rfl, ?_⟩) hHeld ?_ ?_; rotate_left
 ·rintro w' ⟨s0, s1, s2, s3⟩; go_simp; with_reducible rfl
 rotate_left
 ·exact ap_
 refine take_ (i := 1) (N := some 6) (v := ?_) (a' := ?_) #[true, true, false, false, false] rfl rfl (by kernel_rfl) (fun _ _ _ h => h) (Or.inl ⟨by rfl, ?_⟩) hHeld ?_ ?_; rotate_left
 ·rintro w' ⟨s0, s1, s2, s3⟩; go_simp; with_reducible rfl
 rotate_left
 ·exact ap_
 refine one_ (i := 2) (N := some 7) #[true, true, true, false, false] rfl rfl (by kernel_rfl) (by decide) (fun K hK => ?_); refine gs_ Tryz.func21 #[.agg #[.string a1_0, .string a1_1]] ?_; refine mo_ (r3_Neg.calls a1_0 a1_1 t145 t146 _ A3.out) ?_; intro w9 hb; replace BK142 := kb_ BK142 hb; replace BK143 := kb_ BK143 hb; replace BK144 := kb_ BK144 hb; replace HB := bs_ HB hb; (try clear hb); refine hk_ hK (fun hHeld => ?_); clear hK K; refine nm_ ?_; refine one_ (i := 3) (N := some 8) #[true, true, true, true, false] rfl rfl (by kernel_rfl) (by decide) (fun K hK => ?_); refine gs_ Tryz.func24 #[.agg #[.string a0_0, .string a0_1], .agg #[.string t145, .string t146]] ?_; refine mo_ (r3_Add.calls k a0_0 a0_1 t145 t146 t147 t148 _ A4.out) ?_; intro w10 hb; replace BK142 := kb_ BK142 hb; replace BK143 := kb_ BK143 hb; replace BK144 := kb_ BK144 hb; replace HB := bs_ HB hb; (try clear hb); refine hk_ hK (fun hHeld => ?_); clear hK K; refine nm_ ?_; refine one_ (i := 4) (N := none) #[true, true, true, true, true] rfl rfl (by kernel_rfl) (by decide) (fun K hK => ?_); have hs11 := bc_ BK144 0 rfl; have hfs11 := blk_frozen BK144.out 0; have hns11_0 := NB142_144.out; have hns11_1 := NB143_144.out; have hms11_0 := NB144_142.out; have hms11_1 := NB144_143.out; have hs12 := bc_ BK144 1 rfl; have hfs12 := blk_frozen BK144.out 1; have hns12_0 := NB142_144.out; have hns12_1 := NB143_144.out; have hms12_0 := NB144_142.out; have hms12_1 := NB144_143.out; refine skip_ (w1 := ?_) (by rfl) rfl ?_ ?_; rotate_left
 ·go_simp
  rfl
 refine hf_ hK hHeld (fun hHeld => ?_); clear hK K; refine done_ (by kernel_rfl) ?_
 try go_wp2
 refine bodyPost_ret (results_cell_row rfl _ _ gb144 23 #[.string t147, .string t148] (0, 0) _ rfl (rp_ BK144.out) Tryz.underlying23 rfl (by kernel_rfl)) rfl ?_; exact ⟨er_, b_ HB.out⟩
def r3_Cmp.f (k : Nat) (a0_0 : ByteArray) (a0_1 : ByteArray) (a1_0 : ByteArray) (a1_1 : ByteArray) : Option (Int) := (r3_Sub.f k a0_0 a0_1 a1_0 a1_1).bind fun bt151 => ((r3_Sign.f bt151.1 bt151.2).bind fun t153 => (some t153))
set_option maxHeartbeats 8000000 in
set_option maxRecDepth 100000 in
theorem r3_Cmp.calls (k : Nat) (a0_0 : ByteArray) (a0_1 : ByteArray) (a1_0 : ByteArray) (a1_1 : ByteArray) (r : Int) (w : World) (h : r3_Cmp.f k a0_0 a0_1 a1_0 a1_1 = some r) :
  Calls Tryz.prog 23 #[.agg #[.string a0_0, .string a0_1], .agg #[.string a1_0, .string a1_1]] w fun e w' => e = .returned (.int .i64 r) ∧ Below w.heap.size w w' := by
 have hu23 := Tryz.underlying23; have HB := Aside0.mk (Below.refl w.heap.size w); have H := h; unfold r3_Cmp.f at H; clear h; obtain ⟨⟨t151, t152⟩, A3, H⟩ := bi_ H; (try dsimp only at H); obtain ⟨t153, A4, H⟩ := bi_ H; obtain rfl := Option.some.inj H; go_enter Tryz.func23, Tryz.ntmps23
 go_wp2_with (first | ((with_reducible refine gate_dst (N := 2) rfl ?_); refine be_ 2 #[.string a0_0, .string a0_1] 23 ?_; intro gb149 hg w5 hbox hb; have BK149 := Aside0.mk (hbox); have GW149 := ge_ HB hg; have GE149 := ge_ HB hg; replace HB := bs_ HB hb; clear hb hbox hg) | ((with_reducible refine gate_dst (N := 3) rfl ?_); refine be_ 3 #[.string a1_0, .string a1_1] 23 ?_; intro gb150 hg w6 hbox hb; have BK150 := Aside0.mk (hbox); have GW150 := ge_ HB hg; have GE150 := ge_ HB hg; have NB149_150 := nl_ BK149 hg; have NB150_149 := ng_ BK149 hg; replace BK149 := kb_ BK149 hb; replace HB := bs_ HB hb; clear hb hbox hg; have hnb7 := NB149_150.out; have hnc7 := NB150_149.out; have hcz8_0 := bc_ BK149 0 rfl; have hcz8_1 := bc_ BK149 1 rfl; have hfz8_0 := blk_frozen BK149.out 0; have hfz8_1 := blk_frozen BK149.out 1; have hcz9_0 := bc_ BK150 0 rfl; have hcz9_1 := bc_ BK150 1 rfl; have hfz9_0 := blk_frozen BK150.out 0; have hfz9_1 := blk_frozen BK150.out 1) | (refine gl_ 7 Tryz.func20 #[.agg #[.string a0_0, .string a0_1], .agg #[.string a1_0, .string a1_1]] ?_; refine mo_ (r3_Sub.calls k a0_0 a0_1 a1_0 a1_1 t151 t152 _ A3.out) ?_; intro w10 hb; replace BK149 := kb_ BK149 hb; replace BK150 := kb_ BK150 hb; replace HB := bs_ HB hb; (try clear hb); (try clear hb2); (try clear hk); (try clear hi)) | (refine gl_ 8 Tryz.func18 #[.agg #[.string t151, .string t152]] ?_; refine mo_ (r3_Sign.calls t151 t152 t153 _ A4.out) ?_; intro w11 hb; replace BK149 := kb_ BK149 hb; replace BK150 := kb_ BK150 hb; replace HB := bs_ HB hb; (try clear hb); (try clear hb2); (try clear hk); (try clear hi)))
 go_ret
 exact ⟨er_, b_ HB.out⟩
end Go.Proofs.YtmfcpapfikbomaaGreatDoor.Pz
end

section
namespace Go.Proofs.YtmfcpapfikbomaaGreatDoor.Pz
def r3_Mul.j0 : Nat → Bool → ByteArray → ByteArray → ByteArray → ByteArray → Option (ByteArray × ByteArray)
 | 0, _, _, _, _, _ => none
 | k + 1, x14, x155000, x155001, x156000, x156001 => if x14 = true then (some ((⟨#[]⟩ : ByteArray), (⟨#[]⟩ : ByteArray))) else ((r2_Mul.f x155000 x156000).bind fun t159 => ((r1_Mul.f x155001 x156001).bind fun t160 => ((r3_Make.f k t159 t160).bind fun bt161 => (some (bt161.1, bt161.2.1)))))
def r3_Mul.f (k : Nat) (a0_0 : ByteArray) (a0_1 : ByteArray) (a1_0 : ByteArray) (a1_1 : ByteArray) : Option (ByteArray × ByteArray) := (r3_May.f a0_0 a0_1).bind fun t157 => (if t157 = true then ((r3_May.f a1_0 a1_1).bind fun t158 => (r3_Mul.j0 k (!t158) a0_0 a0_1 a1_0 a1_1)) else (r3_Mul.j0 k true a0_0 a0_1 a1_0 a1_1))
def r3_Mul.T3 : Bool × List (List Nat × List Nat) := (true, [([], []), ([0], [0]), ([], []), ([2], [2]), ([1, 3], [1, 3]), ([], []), ([5], [5]), ([], []), ([7], [7]), ([6, 8, 4], [6, 8]), ([4, 9, 9], [4, 9]), ([10], [10]), ([11], [11]), ([11], [11]), ([], []), ([14, 12, 10, 0, 1, 2, 3, 4, 5, 6, 7, 8, 9, 10, 11, 12, 14], [12, 14]), ([13, 15, 0, 1, 2, 3, 4, 5, 6, 7, 8, 9, 10, 11, 12, 13, 14, 15], [13])])
def r3_Mul.B3 : List Nat := [0, 1, 0, 4, 15, 0, 32, 0, 128, 511, 1023, 2047, 4095, 4095, 0, 24575, 65535]
theorem r3_Mul.tab3 : rtab .any (opsOf Tryz.f25 3) = r3_Mul.T3 := by kernel_rfl
theorem r3_Mul.bits3 : waitsOk r3_Mul.T3.2 r3_Mul.B3 = true := by kernel_rfl
set_option maxHeartbeats 8000000 in
set_option maxRecDepth 100000 in
theorem r3_Mul.calls (k : Nat) (a0_0 : ByteArray) (a0_1 : ByteArray) (a1_0 : ByteArray) (a1_1 : ByteArray) (r1 : ByteArray) (r2 : ByteArray) (w : World) (h : r3_Mul.f k a0_0 a0_1 a1_0 a1_1 = some (r1, r2)) :
  Calls Tryz.prog 25 #[.agg #[.string a0_0, .string a0_1], .agg #[.string a1_0, .string a1_1]] w fun e w' => e = .returned (.agg #[.string r1, .string r2]) ∧ Below w.heap.size w w' := by
 have hu23 := Tryz.underlying23; have HB := Aside0.mk (Below.refl w.heap.size w); have H := h; unfold r3_Mul.f at H; clear h; have HC3 := Aside0.mk H; clear H; go_enter Tryz.func25, Tryz.ntmps25
 go_upto_region 1 with (first | ((with_reducible refine gate_dst (N := 2) rfl ?_); refine be_ 2 #[.string a0_0, .string a0_1] 23 ?_; intro gb154 hg w4 hbox hb; have BK154 := Aside0.mk (hbox); have GW154 := ge_ HB hg; have GE154 := ge_ HB hg; replace HB := bs_ HB hb; clear hb hbox hg) | ((with_reducible refine gate_dst (N := 3) rfl ?_); refine be_ 3 #[.string a1_0, .string a1_1] 23 ?_; intro gb155 hg w5 hbox hb; have BK155 := Aside0.mk (hbox); have GW155 := ge_ HB hg; have GE155 := ge_ HB hg; have NB154_155 := nl_ BK154 hg; have NB155_154 := ng_ BK154 hg; replace BK154 := kb_ BK154 hb; replace HB := bs_ HB hb; clear hb hbox hg) | ((with_reducible refine gate_dst (N := 4) rfl ?_); refine be_ 4 #[.string (⟨#[]⟩ : ByteArray), .string (⟨#[]⟩ : ByteArray)] 23 ?_; intro gb156 hg w6 hbox hb; have BK156 := Aside0.mk (hbox); have GW156 := ge_ HB hg; have GE156 := ge_ HB hg; have NB154_156 := nl_ BK154 hg; have NB156_154 := ng_ BK154 hg; have NB155_156 := nl_ BK155 hg; have NB156_155 := ng_ BK155 hg; replace BK154 := kb_ BK154 hb; replace BK155 := kb_ BK155 hb; replace HB := bs_ HB hb; clear hb hbox hg))
 (try simp only [Act.put, List.setIfInBounds_toArray, List.set_cons_zero, List.set_cons_succ])
 go_cut [14] (fun v14 wc => ∃ (kq : Nat) (x14_2 : Bool), v14 = .bool x14_2 ∧ Aside0 (r3_Mul.j0 kq x14_2 a0_0 a0_1 a1_0 a1_1 = some (r1, r2)) ∧ Aside0 (kq ≤ k) ∧ Aside0 (wc.heap[gb154]? = some (.cells #[.string a0_0, .string a0_1] 23 (0, 0))) ∧ Aside0 (wc.heap[gb155]? = some (.cells #[.string a1_0, .string a1_1] 23 (0, 0))) ∧ Aside0 (wc.heap[gb156]? = some (.cells #[.string (⟨#[]⟩ : ByteArray), .string (⟨#[]⟩ : ByteArray)] 23 (0, 0))) ∧ Aside0 (Below w.heap.size w wc))
 case first =>
  have H := HC3.out; clear HC3; obtain ⟨t157, A7, H⟩ := bi_ H; by_cases c8 : t157 = true
  ·subst c8; rw [if_pos rfl] at H; obtain ⟨t158, A9, H⟩ := bi_ H; have H' := Aside0.mk H; clear H; have hnb10 := NB154_155.out; have hnc10 := NB155_154.out; have hnb11 := NB154_156.out; have hnc11 := NB156_154.out; have hcz12_0 := bc_ BK154 0 rfl; have hcz12_1 := bc_ BK154 1 rfl; have hfz12_0 := blk_frozen BK154.out 0; have hfz12_1 := blk_frozen BK154.out 1
   go_wp2_with (first | (refine gl_ 8 Tryz.func22 #[.agg #[.string a0_0, .string a0_1]] ?_; refine mo_ (r3_May.calls a0_0 a0_1 true _ A7.out) ?_; intro w13 hb; replace BK154 := kb_ BK154 hb; replace BK155 := kb_ BK155 hb; replace BK156 := kb_ BK156 hb; replace HB := bs_ HB hb; (try clear hb); (try clear hb2); (try clear hk); (try clear hi); have hnb14 := NB155_156.out; have hnc14 := NB156_155.out; have hcz15_0 := bc_ BK155 0 rfl; have hcz15_1 := bc_ BK155 1 rfl; have hfz15_0 := blk_frozen BK155.out 0; have hfz15_1 := blk_frozen BK155.out 1) | (go_at_call 22; (with_reducible refine (r3_May.calls a1_0 a1_1 t158 _ A9.out).mono ?_); rintro e w16 ⟨rfl, hb⟩; replace BK154 := kb_ BK154 hb; replace BK155 := kb_ BK155 hb; replace BK156 := kb_ BK156 hb; replace HB := bs_ HB hb; (try clear hb); (try clear hb2); (try clear hk); (try clear hi)))
   go_meet
   case rel => exact ⟨_, (!t158), rl_, H', ⟨by first | omega | exact Nat.le_refl _⟩, ⟨k_ BK154.out⟩, ⟨k_ BK155.out⟩, ⟨k_ BK156.out⟩, ⟨b_ HB.out⟩⟩
  ·replace c8 := Bool.eq_false_iff.mpr c8; subst c8; rw [if_neg nf_] at H; have H' := Aside0.mk H; clear H; have hnb17 := NB154_155.out; have hnc17 := NB155_154.out; have hnb18 := NB154_156.out; have hnc18 := NB156_154.out; have hcz19_0 := bc_ BK154 0 rfl; have hcz19_1 := bc_ BK154 1 rfl; have hfz19_0 := blk_frozen BK154.out 0; have hfz19_1 := blk_frozen BK154.out 1
   go_wp2_with (first | (refine gl_ 8 Tryz.func22 #[.agg #[.string a0_0, .string a0_1]] ?_; refine mo_ (r3_May.calls a0_0 a0_1 false _ A7.out) ?_; intro w20 hb; replace BK154 := kb_ BK154 hb; replace BK155 := kb_ BK155 hb; replace BK156 := kb_ BK156 hb; replace HB := bs_ HB hb; (try clear hb); (try clear hb2); (try clear hk); (try clear hi)))
   go_meet
   case rel => exact ⟨_, (true), rl_, H', ⟨by first | omega | exact Nat.le_refl _⟩, ⟨k_ BK154.out⟩, ⟨k_ BK155.out⟩, ⟨k_ BK156.out⟩, ⟨b_ HB.out⟩⟩
 case rest =>
  clear HC3; (try clear c1); (try clear c2); (try clear p2); (try clear c8); (try clear c10); (try clear c11); (try clear c14); (try clear c17); (try clear c18); (try clear hcz12_0); (try clear hcz12_1); (try clear hcz15_0); (try clear hcz15_1); (try clear hcz19_0); (try clear hcz19_1); (try clear hfz12_0); (try clear hfz12_1); (try clear hfz15_0); (try clear hfz15_1); (try clear hfz19_0); (try clear hfz19_1); obtain ⟨kq, x14_2, rfl, HA, HJ2, BK154, BK155, BK156, HB⟩ := hcut
  cases kq with
  | zero => exact absurd HA.out (by simp [r3_Mul.j0])
  | succ kj2 =>
   have H := HA.out; clear HA; simp only [r3_Mul.j0] at H; by_cases c21 : x14_2 = true
   ·subst c21; rw [if_pos rfl] at H; simp only [Option.some.injEq, Prod.mk.injEq] at H; obtain ⟨rfl, rfl⟩ := H; have hnb22 := NB156_154.out; have hnc22 := NB154_156.out; have hnb23 := NB156_155.out; have hnc23 := NB155_156.out; have hcz24_0 := bc_ BK156 0 rfl; have hcz24_1 := bc_ BK156 1 rfl; have hfz24_0 := blk_frozen BK156.out 0; have hfz24_1 := blk_frozen BK156.out 1; go_wp2; refine bodyPost_ret (results_cell_row rfl _ _ gb156 23 #[.string (⟨#[]⟩ : ByteArray), .string (⟨#[]⟩ : ByteArray)] (0, 0) _ rfl (rp_ BK156.out) Tryz.underlying23 rfl (by kernel_rfl)) rfl ?_; exact ⟨er_, b_ HB.out⟩
   ·replace c21 := Bool.eq_false_iff.mpr c21; subst c21; rw [if_neg nf_] at H; obtain ⟨t159, A25, H⟩ := bi_ H; obtain ⟨t160, A26, H⟩ := bi_ H; obtain ⟨⟨t161, t162, t163⟩, A27, H⟩ := bi_ H; (try dsimp only at H); simp only [Option.some.injEq, Prod.mk.injEq] at H; obtain ⟨rfl, rfl⟩ := H
    try go_wp2
    replace BK154 := Aside0.mk (blk_drew BK154.out); replace BK155 := Aside0.mk (blk_drew BK155.out); replace BK156 := Aside0.mk (blk_drew BK156.out); replace HB := Aside0.mk (below_drew1 HB.out); refine sa_ 17 (fun w' => w'.cell? ⟨gb154, 0, none⟩ = some (.string a0_0) ∧ w'.cell? ⟨gb154, 1, none⟩ = some (.string a0_1) ∧ w'.cell? ⟨gb155, 0, none⟩ = some (.string a1_0) ∧ w'.cell? ⟨gb155, 1, none⟩ = some (.string a1_1)) (fun hHeld => ?_); refine with_tabW r3_Mul.tab3 r3_Mul.bits3 (fun HT_ HW_ => ?_); generalize wc.drew = w28 at BK154 BK155 BK156 HB hHeld ⊢; refine pu_ 0 17 rfl rfl HT_ ?_; refine pu_ 2 19 rfl rfl HT_ ?_; refine pu_ 5 22 rfl rfl HT_ ?_; refine pu_ 7 24 rfl rfl HT_ ?_; refine t4_ 1 18 rfl rfl HT_ HW_ hHeld ?_; refine t4_ 3 20 rfl rfl HT_ HW_ hHeld ?_; refine t4_ 6 23 rfl rfl HT_ HW_ hHeld ?_; refine t4_ 8 25 rfl rfl HT_ HW_ hHeld ?_; refine join_ (σ := Nat) 2 #[true, true, true, true, true, true, true, true, true, true, true, true, true, true, true, false, false] (fun s_ => [(21, .string t159), (26, .string t160), (27, .tuple #[.agg #[.string t161, .string t162], .bool t163]), (5, .pointer (some ⟨s_, 0, none⟩)), (16, .tuple #[.agg #[.string t161, .string t162], .bool t163]), (28, .agg #[.string t161, .string t162]), (29, .bool t163)]) (fun s_ w' => (w'.cell? ⟨gb154, 0, none⟩ = some (.string a0_0) ∧ w'.cell? ⟨gb154, 1, none⟩ = some (.string a0_1) ∧ w'.cell? ⟨gb155, 0, none⟩ = some (.string a1_0) ∧ w'.cell? ⟨gb155, 1, none⟩ = some (.string a1_1)) ∧ (w'.heap[gb154]? = some (.cells #[.string a0_0, .string a0_1] 23 (0, 0))) ∧ (w'.heap[gb155]? = some (.cells #[.string a1_0, .string a1_1] 23 (0, 0))) ∧ (w'.heap[gb156]? = some (.cells #[.string (⟨#[]⟩ : ByteArray), .string (⟨#[]⟩ : ByteArray)] 23 (0, 0))) ∧ (w'.heap[s_]? = some (.cells #[.string (⟨#[]⟩ : ByteArray), .string (⟨#[]⟩ : ByteArray)] 23 (0, 0))) ∧ (w.heap.size ≤ s_) ∧ (w.heap.size ≤ s_) ∧ (gb154 ≠ s_) ∧ (s_ ≠ gb154) ∧ (gb155 ≠ s_) ∧ (s_ ≠ gb155) ∧ (gb156 ≠ s_) ∧ (s_ ≠ gb156) ∧ (Below w.heap.size w w')) ?_ ?_; rotate_left
    ·intro hCont; refine two_ (i := 4) (j := 14) (Ni := some 21) (Nj := some 5) #[true, true, true, true, true, true, true, true, true, false, false, false, false, false, false, false, false] #[true, true, true, true, false, true, true, true, true, false, false, false, false, false, true, false, false] rfl rfl rfl rfl (two_of HT_.out (by kernel_rfl)) (by decide) (by decide) (fun K hK => ?_) (fun K hK => ?_)
     ·skip; refine gs_ Tryz.func41 #[.string a0_0, .string a1_0] ?_; refine mo_ (r2_Mul.calls a0_0 a1_0 t159 _ A25.out) ?_; intro w29 hb; replace BK154 := kb_ BK154 hb; replace BK155 := kb_ BK155 hb; replace BK156 := kb_ BK156 hb; replace HB := bs_ HB hb; (try clear hb); refine hk_ hK (fun hHeld => ?_); clear hK K; refine nm_ ?_; refine two_ (i := 9) (j := 14) (Ni := some 26) (Nj := some 5) #[true, true, true, true, true, true, true, true, true, true, false, false, false, false, false, false, false] #[true, true, true, true, true, true, true, true, true, false, false, false, false, false, true, false, false] rfl rfl rfl rfl (two_of HT_.out (by kernel_rfl)) (by decide) (by decide) (fun K hK => ?_) (fun K hK => ?_)
      ·skip; refine gs_ Tryz.func47 #[.string a0_1, .string a1_1] ?_; refine mo_ (r1_Mul.calls a0_1 a1_1 t160 _ A26.out) ?_; intro w30 hb; replace BK154 := kb_ BK154 hb; replace BK155 := kb_ BK155 hb; replace BK156 := kb_ BK156 hb; replace HB := bs_ HB hb; (try clear hb); refine hk_ hK (fun hHeld => ?_); clear hK K; refine nm_ ?_; refine two_ (i := 10) (j := 14) (Ni := some 27) (Nj := some 5) #[true, true, true, true, true, true, true, true, true, true, true, false, false, false, false, false, false] #[true, true, true, true, true, true, true, true, true, true, false, false, false, false, true, false, false] rfl rfl rfl rfl (two_of HT_.out (by kernel_rfl)) (by decide) (by decide) (fun K hK => ?_) (fun K hK => ?_)
       ·skip; refine gs_ Tryz.func40 #[.string t159, .string t160] ?_; refine mo_ (r3_Make.calls kj2 t159 t160 t161 t162 t163 _ A27.out) ?_; intro w31 hb; replace BK154 := kb_ BK154 hb; replace BK155 := kb_ BK155 hb; replace BK156 := kb_ BK156 hb; replace HB := bs_ HB hb; (try clear hb); refine hk_ hK (fun hHeld => ?_); clear hK K; refine nm_ ?_; refine pu_ 11 16 rfl rfl HT_ ?_; refine pu_ 12 28 rfl rfl HT_ ?_; refine pu_ 13 29 rfl rfl HT_ ?_; refine on_ 14 (some 5) rfl rfl HT_ (fun K hK => ?_); refine box_step ?hg (N := 5) ?hd (cs := #[.string (⟨#[]⟩ : ByteArray), .string (⟨#[]⟩ : ByteArray)]) (t := 23) ?hr ?_; (case hd => rfl); (case hg => rfl); (case hr => first | (go_simp; done) | (go_simp; rfl)); intro gb164 hg w32 hbox hb; have BK164 := Aside0.mk (hbox); have GW164 := ge_ HB hg; have GE164 := ge_ HB hg; have NB154_164 := nl_ BK154 hg; have NB164_154 := ng_ BK154 hg; have NB155_164 := nl_ BK155 hg; have NB164_155 := ng_ BK155 hg; have NB156_164 := nl_ BK156 hg; have NB164_156 := ng_ BK156 hg; replace BK154 := kb_ BK154 hb; replace BK155 := kb_ BK155 hb; replace BK156 := kb_ BK156 hb; replace HB := bs_ HB hb; clear hb hbox hg; refine hk_ hK (fun hHeld => ?_); clear hK K; refine nm_ ?_; exact norm_ pa_ (hCont (gb164) _ ⟨hHeld, (k_ BK154.out), (k_ BK155.out), (k_ BK156.out), (k_ BK164.out), GW164.out, GE164.out, NB154_164.out, NB164_154.out, NB155_164.out, NB164_155.out, NB156_164.out, NB164_156.out, (b_ HB.out)⟩)
       ·skip; refine box_step ?hg (N := 5) ?hd (cs := #[.string (⟨#[]⟩ : ByteArray), .string (⟨#[]⟩ : ByteArray)]) (t := 23) ?hr ?_; (case hd => rfl); (case hg => rfl); (case hr => first | (go_simp; done) | (go_simp; rfl)); intro gb164 hg w31 hbox hb; have BK164 := Aside0.mk (hbox); have GW164 := ge_ HB hg; have GE164 := ge_ HB hg; have NB154_164 := nl_ BK154 hg; have NB164_154 := ng_ BK154 hg; have NB155_164 := nl_ BK155 hg; have NB164_155 := ng_ BK155 hg; have NB156_164 := nl_ BK156 hg; have NB164_156 := ng_ BK156 hg; replace BK154 := kb_ BK154 hb; replace BK155 := kb_ BK155 hb; replace BK156 := kb_ BK156 hb; replace HB := bs_ HB hb; clear hb hbox hg; refine hk_ hK (fun hHeld => ?_); clear hK K; refine nm_ ?_; refine on_ 10 (some 27) rfl rfl HT_ (fun K hK => ?_); refine gs_ Tryz.func40 #[.string t159, .string t160] ?_; refine mo_ (r3_Make.calls kj2 t159 t160 t161 t162 t163 _ A27.out) ?_; intro w32 hb; replace BK154 := kb_ BK154 hb; replace BK155 := kb_ BK155 hb; replace BK156 := kb_ BK156 hb; replace BK164 := kb_ BK164 hb; replace HB := bs_ HB hb; (try clear hb); refine hk_ hK (fun hHeld => ?_); clear hK K; refine nm_ ?_; refine pu_ 11 16 rfl rfl HT_ ?_; refine pu_ 12 28 rfl rfl HT_ ?_; refine pu_ 13 29 rfl rfl HT_ ?_; exact norm_ pa_ (hCont (gb164) _ ⟨hHeld, (k_ BK154.out), (k_ BK155.out), (k_ BK156.out), (k_ BK164.out), GW164.out, GE164.out, NB154_164.out, NB164_154.out, NB155_164.out, NB164_155.out, NB156_164.out, NB164_156.out, (b_ HB.out)⟩)
      ·skip; refine box_step ?hg (N := 5) ?hd (cs := #[.string (⟨#[]⟩ : ByteArray), .string (⟨#[]⟩ : ByteArray)]) (t := 23) ?hr ?_; (case hd => rfl); (case hg => rfl); (case hr => first | (go_simp; done) | (go_simp; rfl)); intro gb164 hg w30 hbox hb; have BK164 := Aside0.mk (hbox); have GW164 := ge_ HB hg; have GE164 := ge_ HB hg; have NB154_164 := nl_ BK154 hg; have NB164_154 := ng_ BK154 hg; have NB155_164 := nl_ BK155 hg; have NB164_155 := ng_ BK155 hg; have NB156_164 := nl_ BK156 hg; have NB164_156 := ng_ BK156 hg; replace BK154 := kb_ BK154 hb; replace BK155 := kb_ BK155 hb; replace BK156 := kb_ BK156 hb; replace HB := bs_ HB hb; clear hb hbox hg; refine hk_ hK (fun hHeld => ?_); clear hK K; refine nm_ ?_; refine on_ 9 (some 26) rfl rfl HT_ (fun K hK => ?_); refine gs_ Tryz.func47 #[.string a0_1, .string a1_1] ?_; refine mo_ (r1_Mul.calls a0_1 a1_1 t160 _ A26.out) ?_; intro w31 hb; replace BK154 := kb_ BK154 hb; replace BK155 := kb_ BK155 hb; replace BK156 := kb_ BK156 hb; replace BK164 := kb_ BK164 hb; replace HB := bs_ HB hb; (try clear hb); refine hk_ hK (fun hHeld => ?_); clear hK K; refine nm_ ?_; refine on_ 10 (some 27) rfl rfl HT_ (fun K hK => ?_); refine gs_ Tryz.func40 #[.string t159, .string t160] ?_; refine mo_ (r3_Make.calls kj2 t159 t160 t161 t162 t163 _ A27.out) ?_; intro w32 hb; replace BK154 := kb_ BK154 hb; replace BK155 := kb_ BK155 hb; replace BK156 := kb_ BK156 hb; replace BK164 := kb_ BK164 hb; replace HB := bs_ HB hb; (try clear hb); refine hk_ hK (fun hHeld => ?_); clear hK K; refine nm_ ?_; refine pu_ 11 16 rfl rfl HT_ ?_; refine pu_ 12 28 rfl rfl HT_ ?_; refine pu_ 13 29 rfl rfl HT_ ?_; exact norm_ pa_ (hCont (gb164) _ ⟨hHeld, (k_ BK154.out), (k_ BK155.out), (k_ BK156.out), (k_ BK164.out), GW164.out, GE164.out, NB154_164.out, NB164_154.out, NB155_164.out, NB164_155.out, NB156_164.out, NB164_156.out, (b_ HB.out)⟩)
     ·skip; refine box_step ?hg (N := 5) ?hd (cs := #[.string (⟨#[]⟩ : ByteArray), .string (⟨#[]⟩ : ByteArray)]) (t := 23) ?hr ?_; (case hd => rfl); (case hg => rfl); (case hr => first | (go_simp; done) | (go_simp; rfl)); intro gb164 hg w29 hbox hb; have BK164 := Aside0.mk (hbox); have GW164 := ge_ HB hg; have GE164 := ge_ HB hg; have NB154_164 := nl_ BK154 hg; have NB164_154 := ng_ BK154 hg; have NB155_164 := nl_ BK155 hg; have NB164_155 := ng_ BK155 hg; have NB156_164 := nl_ BK156 hg; have NB164_156 := ng_ BK156 hg; replace BK154 := kb_ BK154 hb; replace BK155 := kb_ BK155 hb; replace BK156 := kb_ BK156 hb; replace HB := bs_ HB hb; clear hb hbox hg; refine hk_ hK (fun hHeld => ?_); clear hK K; refine nm_ ?_; refine on_ 4 (some 21) rfl rfl HT_ (fun K hK => ?_); refine gs_ Tryz.func41 #[.string a0_0, .string a1_0] ?_; refine mo_ (r2_Mul.calls a0_0 a1_0 t159 _ A25.out) ?_; intro w30 hb; replace BK154 := kb_ BK154 hb; replace BK155 := kb_ BK155 hb; replace BK156 := kb_ BK156 hb; replace BK164 := kb_ BK164 hb; replace HB := bs_ HB hb; (try clear hb); refine hk_ hK (fun hHeld => ?_); clear hK K; refine nm_ ?_; refine on_ 9 (some 26) rfl rfl HT_ (fun K hK => ?_); refine gs_ Tryz.func47 #[.string a0_1, .string a1_1] ?_; refine mo_ (r1_Mul.calls a0_1 a1_1 t160 _ A26.out) ?_; intro w31 hb; replace BK154 := kb_ BK154 hb; replace BK155 := kb_ BK155 hb; replace BK156 := kb_ BK156 hb; replace BK164 := kb_ BK164 hb; replace HB := bs_ HB hb; (try clear hb); refine hk_ hK (fun hHeld => ?_); clear hK K; refine nm_ ?_; refine on_ 10 (some 27) rfl rfl HT_ (fun K hK => ?_); refine gs_ Tryz.func40 #[.string t159, .string t160] ?_; refine mo_ (r3_Make.calls kj2 t159 t160 t161 t162 t163 _ A27.out) ?_; intro w32 hb; replace BK154 := kb_ BK154 hb; replace BK155 := kb_ BK155 hb; replace BK156 := kb_ BK156 hb; replace BK164 := kb_ BK164 hb; replace HB := bs_ HB hb; (try clear hb); refine hk_ hK (fun hHeld => ?_); clear hK K; refine nm_ ?_; refine pu_ 11 16 rfl rfl HT_ ?_; refine pu_ 12 28 rfl rfl HT_ ?_; refine pu_ 13 29 rfl rfl HT_ ?_; exact norm_ pa_ (hCont (gb164) _ ⟨hHeld, (k_ BK154.out), (k_ BK155.out), (k_ BK156.out), (k_ BK164.out), GW164.out, GE164.out, NB154_164.out, NB164_154.out, NB155_164.out, NB164_155.out, NB156_164.out, NB164_156.out, (b_ HB.out)⟩)
    rintro gb164 w33 ⟨hS_, h0_, h1_, h2_, h3_, h4_, h5_, h6_, h7_, h8_, h9_, h10_, h11_, h12_⟩; have n0_ : Aside0 (w33.heap[gb154]? = some (.cells #[.string a0_0, .string a0_1] 23 (0, 0))) := ⟨h0_⟩; have n1_ : Aside0 (w33.heap[gb155]? = some (.cells #[.string a1_0, .string a1_1] 23 (0, 0))) := ⟨h1_⟩; have n2_ : Aside0 (w33.heap[gb156]? = some (.cells #[.string (⟨#[]⟩ : ByteArray), .string (⟨#[]⟩ : ByteArray)] 23 (0, 0))) := ⟨h2_⟩; have n3_ : Aside0 (w33.heap[gb164]? = some (.cells #[.string (⟨#[]⟩ : ByteArray), .string (⟨#[]⟩ : ByteArray)] 23 (0, 0))) := ⟨h3_⟩; have n4_ : Aside0 (w.heap.size ≤ gb164) := ⟨h4_⟩; have n5_ : Aside0 (w.heap.size ≤ gb164) := ⟨h5_⟩; have n6_ : Aside0 (gb154 ≠ gb164) := ⟨h6_⟩; have n7_ : Aside0 (gb164 ≠ gb154) := ⟨h7_⟩; have n8_ : Aside0 (gb155 ≠ gb164) := ⟨h8_⟩; have n9_ : Aside0 (gb164 ≠ gb155) := ⟨h9_⟩; have n10_ : Aside0 (gb156 ≠ gb164) := ⟨h10_⟩; have n11_ : Aside0 (gb164 ≠ gb156) := ⟨h11_⟩; have n12_ : Aside0 (Below w.heap.size w w33) := ⟨h12_⟩; clear BK154; clear BK155; clear BK156; clear HB; clear h0_ h1_ h2_ h3_ h4_ h5_ h6_ h7_ h8_ h9_ h10_ h11_ h12_; have BK154 := n0_; have BK155 := n1_; have BK156 := n2_; have BK164 := n3_; have GW164 := n4_; have GE164 := n5_; have NB154_164 := n6_; have NB164_154 := n7_; have NB155_164 := n8_; have NB164_155 := n9_; have NB156_164 := n10_; have NB164_156 := n11_; have HB := n12_; clear n0_ n1_ n2_ n3_ n4_ n5_ n6_ n7_ n8_ n9_ n10_ n11_ n12_; have hHeld : w33.cell? ⟨gb154, 0, none⟩ = some (.string a0_0) ∧ w33.cell? ⟨gb154, 1, none⟩ = some (.string a0_1) ∧ w33.cell? ⟨gb155, 0, none⟩ = some (.string a1_0) ∧ w33.cell? ⟨gb155, 1, none⟩ = some (.string a1_1) := hS_; refine norm_ (a' := ?_) ?_ ?_; rotate_left
    ·simp only [putAll, Act.put, List.setIfInBounds_toArray, List.set_cons_zero, List.set_cons_succ]
     rfl
    refine on_ 15 none rfl rfl HT_ (fun K hK => ?_); have hs34 := bc_ BK164 0 rfl; have hfs34 := blk_frozen BK164.out 0; have hns34_0 := NB154_164.out; have hns34_1 := NB155_164.out; have hns34_2 := NB156_164.out; have hms34_0 := NB164_154.out; have hms34_1 := NB164_155.out; have hms34_2 := NB164_156.out; have hs35 := bc_ BK164 1 rfl; have hfs35 := blk_frozen BK164.out 1; have hns35_0 := NB154_164.out; have hns35_1 := NB155_164.out; have hns35_2 := NB156_164.out; have hms35_0 := NB164_154.out; have hms35_1 := NB164_155.out; have hms35_2 := NB164_156.out; refine skip_ (w1 := ?_) (by rfl) rfl ?_ ?_; rotate_left
    ·go_simp
     rfl
    refine hf_ hK hHeld (fun hHeld => ?_); clear hK K; refine pu_ 16 6 rfl rfl HT_ ?_; refine done_ (done_of HT_.out (by kernel_rfl)) ?_; have hnb36 := NB164_154.out; have hnc36 := NB154_164.out; have hnb37 := NB164_155.out; have hnc37 := NB155_164.out; have hnb38 := NB164_156.out; have hnc38 := NB156_164.out; have hcz39_0 := bc_ BK164 0 rfl; have hcz39_1 := bc_ BK164 1 rfl; have hfz39_0 := blk_frozen BK164.out 0; have hfz39_1 := blk_frozen BK164.out 1; have hnb40 := NB156_154.out; have hnc40 := NB154_156.out; have hnb41 := NB156_155.out; have hnc41 := NB155_156.out; have hcz42_0 := bc_ BK156 0 rfl; have hcz42_1 := bc_ BK156 1 rfl; have hfz42_0 := blk_frozen BK156.out 0; have hfz42_1 := blk_frozen BK156.out 1
    try go_wp2
    refine bodyPost_ret (results_cell_row rfl _ _ gb156 23 #[.string t161, .string t162] (0, 0) _ rfl (by refine k_ ?_; refine blk_put (cs := #[.string t161, .string (⟨#[]⟩ : ByteArray)]) ?_ 1 _ rfl; refine k_ ?_; refine blk_put (cs := #[.string (⟨#[]⟩ : ByteArray), .string (⟨#[]⟩ : ByteArray)]) ?_ 0 _ rfl; refine k_ ?_; refine blk_far ?_ NB156_164.out _; refine k_ ?_; refine blk_far ?_ NB156_164.out _; refine k_ ?_; exact BK156.out) Tryz.underlying23 rfl (by kernel_rfl)) rfl ?_; exact ⟨er_, b_ HB.out⟩
end Go.Proofs.YtmfcpapfikbomaaGreatDoor.Pz
end

section
namespace Go.Proofs.YtmfcpapfikbomaaGreatDoor.Pz
def r3_Div.j0 : Nat → Bool → ByteArray → ByteArray → ByteArray → ByteArray → Option (ByteArray × ByteArray × Bool)
 | 0, _, _, _, _, _ => none
 | k + 1, x13, x166000, x166001, x167000, x167001 => if x13 = true then (some ((⟨#[]⟩ : ByteArray), (⟨#[]⟩ : ByteArray), false)) else ((r2_Mul.f x166000 x167001).bind fun t170 => ((r2_Mul.f x166001 x167000).bind fun t171 => ((r3_Make.f k t170 t171).bind fun bt172 => (some (bt172.1, bt172.2.1, bt172.2.2)))))
def r3_Div.f (k : Nat) (a0_0 : ByteArray) (a0_1 : ByteArray) (a1_0 : ByteArray) (a1_1 : ByteArray) : Option (ByteArray × ByteArray × Bool) := (r3_May.f a0_0 a0_1).bind fun t168 => (if t168 = true then ((r3_May.f a1_0 a1_1).bind fun t169 => (r3_Div.j0 k (!t169) a0_0 a0_1 a1_0 a1_1)) else (r3_Div.j0 k true a0_0 a0_1 a1_0 a1_1))
def r3_Div.T3 : Bool × List (List Nat × List Nat) := (true, [([], []), ([0], [0]), ([], []), ([2], [2]), ([1, 3], [1, 3]), ([], []), ([5], [5]), ([], []), ([7], [7]), ([6, 8, 4], [6, 8]), ([4, 9, 9], [4, 9]), ([10], [10]), ([10], [10]), ([11, 10, 0, 1, 2, 3, 4, 5, 6, 7, 8, 9, 10, 11, 12], [11]), ([12, 13, 0, 1, 2, 3, 4, 5, 6, 7, 8, 9, 10, 11, 12, 13], [12])])
def r3_Div.B3 : List Nat := [0, 1, 0, 4, 15, 0, 32, 0, 128, 511, 1023, 2047, 2047, 8191, 16383]
theorem r3_Div.tab3 : rtab .any (opsOf Tryz.f19 3) = r3_Div.T3 := by kernel_rfl
theorem r3_Div.bits3 : waitsOk r3_Div.T3.2 r3_Div.B3 = true := by kernel_rfl
set_option maxHeartbeats 8000000 in
set_option maxRecDepth 100000 in
theorem r3_Div.calls (k : Nat) (a0_0 : ByteArray) (a0_1 : ByteArray) (a1_0 : ByteArray) (a1_1 : ByteArray) (r1 : ByteArray) (r2 : ByteArray) (r3 : Bool) (w : World) (h : r3_Div.f k a0_0 a0_1 a1_0 a1_1 = some (r1, r2, r3)) :
  Calls Tryz.prog 19 #[.agg #[.string a0_0, .string a0_1], .agg #[.string a1_0, .string a1_1]] w fun e w' => e = .returned (.tuple #[.agg #[.string r1, .string r2], .bool r3]) ∧ Below w.heap.size w w' := by
 have hu23 := Tryz.underlying23; have HB := Aside0.mk (Below.refl w.heap.size w); have H := h; unfold r3_Div.f at H; clear h; have HC3 := Aside0.mk H; clear H; go_enter Tryz.func19, Tryz.ntmps19
 go_upto_region 1 with (first | ((with_reducible refine gate_dst (N := 2) rfl ?_); refine be_ 2 #[.string a0_0, .string a0_1] 23 ?_; intro gb165 hg w4 hbox hb; have BK165 := Aside0.mk (hbox); have GW165 := ge_ HB hg; have GE165 := ge_ HB hg; replace HB := bs_ HB hb; clear hb hbox hg) | ((with_reducible refine gate_dst (N := 3) rfl ?_); refine be_ 3 #[.string a1_0, .string a1_1] 23 ?_; intro gb166 hg w5 hbox hb; have BK166 := Aside0.mk (hbox); have GW166 := ge_ HB hg; have GE166 := ge_ HB hg; have NB165_166 := nl_ BK165 hg; have NB166_165 := ng_ BK165 hg; replace BK165 := kb_ BK165 hb; replace HB := bs_ HB hb; clear hb hbox hg) | ((with_reducible refine gate_dst (N := 4) rfl ?_); refine be_ 4 #[.string (⟨#[]⟩ : ByteArray), .string (⟨#[]⟩ : ByteArray)] 23 ?_; intro gb167 hg w6 hbox hb; have BK167 := Aside0.mk (hbox); have GW167 := ge_ HB hg; have GE167 := ge_ HB hg; have NB165_167 := nl_ BK165 hg; have NB167_165 := ng_ BK165 hg; have NB166_167 := nl_ BK166 hg; have NB167_166 := ng_ BK166 hg; replace BK165 := kb_ BK165 hb; replace BK166 := kb_ BK166 hb; replace HB := bs_ HB hb; clear hb hbox hg))
 (try simp only [Act.put, List.setIfInBounds_toArray, List.set_cons_zero, List.set_cons_succ])
 go_cut [13] (fun v13 wc => ∃ (kq : Nat) (x13_2 : Bool), v13 = .bool x13_2 ∧ Aside0 (r3_Div.j0 kq x13_2 a0_0 a0_1 a1_0 a1_1 = some (r1, r2, r3)) ∧ Aside0 (kq ≤ k) ∧ Aside0 (wc.heap[gb165]? = some (.cells #[.string a0_0, .string a0_1] 23 (0, 0))) ∧ Aside0 (wc.heap[gb166]? = some (.cells #[.string a1_0, .string a1_1] 23 (0, 0))) ∧ Aside0 (wc.heap[gb167]? = some (.cells #[.string (⟨#[]⟩ : ByteArray), .string (⟨#[]⟩ : ByteArray)] 23 (0, 0))) ∧ Aside0 (Below w.heap.size w wc))
 case first =>
  have H := HC3.out; clear HC3; obtain ⟨t168, A7, H⟩ := bi_ H; by_cases c8 : t168 = true
  ·subst c8; rw [if_pos rfl] at H; obtain ⟨t169, A9, H⟩ := bi_ H; have H' := Aside0.mk H; clear H; have hnb10 := NB165_166.out; have hnc10 := NB166_165.out; have hnb11 := NB165_167.out; have hnc11 := NB167_165.out; have hcz12_0 := bc_ BK165 0 rfl; have hcz12_1 := bc_ BK165 1 rfl; have hfz12_0 := blk_frozen BK165.out 0; have hfz12_1 := blk_frozen BK165.out 1
   go_wp2_with (first | (refine gl_ 7 Tryz.func22 #[.agg #[.string a0_0, .string a0_1]] ?_; refine mo_ (r3_May.calls a0_0 a0_1 true _ A7.out) ?_; intro w13 hb; replace BK165 := kb_ BK165 hb; replace BK166 := kb_ BK166 hb; replace BK167 := kb_ BK167 hb; replace HB := bs_ HB hb; (try clear hb); (try clear hb2); (try clear hk); (try clear hi); have hnb14 := NB166_167.out; have hnc14 := NB167_166.out; have hcz15_0 := bc_ BK166 0 rfl; have hcz15_1 := bc_ BK166 1 rfl; have hfz15_0 := blk_frozen BK166.out 0; have hfz15_1 := blk_frozen BK166.out 1) | (go_at_call 22; (with_reducible refine (r3_May.calls a1_0 a1_1 t169 _ A9.out).mono ?_); rintro e w16 ⟨rfl, hb⟩; replace BK165 := kb_ BK165 hb; replace BK166 := kb_ BK166 hb; replace BK167 := kb_ BK167 hb; replace HB := bs_ HB hb; (try clear hb); (try clear hb2); (try clear hk); (try clear hi)))
   go_meet
   case rel => exact ⟨_, (!t169), rl_, H', ⟨by first | omega | exact Nat.le_refl _⟩, ⟨k_ BK165.out⟩, ⟨k_ BK166.out⟩, ⟨k_ BK167.out⟩, ⟨b_ HB.out⟩⟩
  ·replace c8 := Bool.eq_false_iff.mpr c8; subst c8; rw [if_neg nf_] at H; have H' := Aside0.mk H; clear H; have hnb17 := NB165_166.out; have hnc17 := NB166_165.out; have hnb18 := NB165_167.out; have hnc18 := NB167_165.out; have hcz19_0 := bc_ BK165 0 rfl; have hcz19_1 := bc_ BK165 1 rfl; have hfz19_0 := blk_frozen BK165.out 0; have hfz19_1 := blk_frozen BK165.out 1
   go_wp2_with (first | (refine gl_ 7 Tryz.func22 #[.agg #[.string a0_0, .string a0_1]] ?_; refine mo_ (r3_May.calls a0_0 a0_1 false _ A7.out) ?_; intro w20 hb; replace BK165 := kb_ BK165 hb; replace BK166 := kb_ BK166 hb; replace BK167 := kb_ BK167 hb; replace HB := bs_ HB hb; (try clear hb); (try clear hb2); (try clear hk); (try clear hi)))
   go_meet
   case rel => exact ⟨_, (true), rl_, H', ⟨by first | omega | exact Nat.le_refl _⟩, ⟨k_ BK165.out⟩, ⟨k_ BK166.out⟩, ⟨k_ BK167.out⟩, ⟨b_ HB.out⟩⟩
 case rest =>
  clear HC3; (try clear c1); (try clear c2); (try clear p2); (try clear c8); (try clear c10); (try clear c11); (try clear c14); (try clear c17); (try clear c18); (try clear c19); (try clear hcz12_0); (try clear hcz12_1); (try clear hcz15_0); (try clear hcz15_1); (try clear hcz19_0); (try clear hcz19_1); (try clear hfz12_0); (try clear hfz12_1); (try clear hfz15_0); (try clear hfz15_1); (try clear hfz19_0); (try clear hfz19_1); obtain ⟨kq, x13_2, rfl, HA, HJ2, BK165, BK166, BK167, HB⟩ := hcut
  cases kq with
  | zero => exact absurd HA.out (by simp [r3_Div.j0])
  | succ kj2 =>
   have H := HA.out; clear HA; simp only [r3_Div.j0] at H; by_cases c21 : x13_2 = true
   ·subst c21; rw [if_pos rfl] at H; simp only [Option.some.injEq, Prod.mk.injEq] at H; obtain ⟨rfl, rfl, rfl⟩ := H; have hnb22 := NB167_165.out; have hnc22 := NB165_167.out; have hnb23 := NB167_166.out; have hnc23 := NB166_167.out; have hcz24_0 := bc_ BK167 0 rfl; have hcz24_1 := bc_ BK167 1 rfl; have hfz24_0 := blk_frozen BK167.out 0; have hfz24_1 := blk_frozen BK167.out 1; go_wp2; refine bodyPost_ret (results_ct rfl _ _ gb167 23 #[.string (⟨#[]⟩ : ByteArray), .string (⟨#[]⟩ : ByteArray)] (0, 0) _ rfl (rp_ BK167.out) Tryz.underlying23 rfl (by kernel_rfl)) rfl ?_; exact ⟨er_, b_ HB.out⟩
   ·replace c21 := Bool.eq_false_iff.mpr c21; subst c21; rw [if_neg nf_] at H; obtain ⟨t170, A25, H⟩ := bi_ H; obtain ⟨t171, A26, H⟩ := bi_ H; obtain ⟨⟨t172, t173, t174⟩, A27, H⟩ := bi_ H; (try dsimp only at H); simp only [Option.some.injEq, Prod.mk.injEq] at H; obtain ⟨rfl, rfl, rfl⟩ := H
    try go_wp2
    replace BK165 := Aside0.mk (blk_drew BK165.out); replace BK166 := Aside0.mk (blk_drew BK166.out); replace BK167 := Aside0.mk (blk_drew BK167.out); replace HB := Aside0.mk (below_drew1 HB.out); refine sa_ 15 (fun w' => w'.cell? ⟨gb165, 0, none⟩ = some (.string a0_0) ∧ w'.cell? ⟨gb165, 1, none⟩ = some (.string a0_1) ∧ w'.cell? ⟨gb166, 0, none⟩ = some (.string a1_0) ∧ w'.cell? ⟨gb166, 1, none⟩ = some (.string a1_1)) (fun hHeld => ?_); refine with_tabW r3_Div.tab3 r3_Div.bits3 (fun HT_ HW_ => ?_); generalize wc.drew = w28 at BK165 BK166 BK167 HB hHeld ⊢; refine pu_ 0 15 rfl rfl HT_ ?_; refine pu_ 2 17 rfl rfl HT_ ?_; refine pu_ 5 20 rfl rfl HT_ ?_; refine pu_ 7 22 rfl rfl HT_ ?_; refine t4_ 1 16 rfl rfl HT_ HW_ hHeld ?_; refine t4_ 3 18 rfl rfl HT_ HW_ hHeld ?_; refine t4_ 6 21 rfl rfl HT_ HW_ hHeld ?_; refine t4_ 8 23 rfl rfl HT_ HW_ hHeld ?_; refine on_ 4 (some 19) rfl rfl HT_ (fun K hK => ?_); refine gs_ Tryz.func41 #[.string a0_0, .string a1_1] ?_; refine mo_ (r2_Mul.calls a0_0 a1_1 t170 _ A25.out) ?_; intro w29 hb; replace BK165 := kb_ BK165 hb; replace BK166 := kb_ BK166 hb; replace BK167 := kb_ BK167 hb; replace HB := bs_ HB hb; (try clear hb); refine hk_ hK (fun hHeld => ?_); clear hK K; refine nm_ ?_; refine on_ 9 (some 24) rfl rfl HT_ (fun K hK => ?_); refine gs_ Tryz.func41 #[.string a0_1, .string a1_0] ?_; refine mo_ (r2_Mul.calls a0_1 a1_0 t171 _ A26.out) ?_; intro w30 hb; replace BK165 := kb_ BK165 hb; replace BK166 := kb_ BK166 hb; replace BK167 := kb_ BK167 hb; replace HB := bs_ HB hb; (try clear hb); refine hk_ hK (fun hHeld => ?_); clear hK K; refine nm_ ?_; refine on_ 10 (some 25) rfl rfl HT_ (fun K hK => ?_); refine gs_ Tryz.func40 #[.string t170, .string t171] ?_; refine mo_ (r3_Make.calls kj2 t170 t171 t172 t173 t174 _ A27.out) ?_; intro w31 hb; replace BK165 := kb_ BK165 hb; replace BK166 := kb_ BK166 hb; replace BK167 := kb_ BK167 hb; replace HB := bs_ HB hb; (try clear hb); refine hk_ hK (fun hHeld => ?_); clear hK K; refine nm_ ?_; refine pu_ 11 26 rfl rfl HT_ ?_; refine pu_ 12 27 rfl rfl HT_ ?_; refine on_ 13 none rfl rfl HT_ (fun K hK => ?_); have hs32 := bc_ BK167 0 rfl; have hfs32 := blk_frozen BK167.out 0; have hns32_0 := NB165_167.out; have hns32_1 := NB166_167.out; have hms32_0 := NB167_165.out; have hms32_1 := NB167_166.out; have hs33 := bc_ BK167 1 rfl; have hfs33 := blk_frozen BK167.out 1; have hns33_0 := NB165_167.out; have hns33_1 := NB166_167.out; have hms33_0 := NB167_165.out; have hms33_1 := NB167_166.out; refine skip_ (w1 := ?_) (by rfl) rfl ?_ ?_; rotate_left
    ·go_simp
     rfl
    refine hf_ hK hHeld (fun hHeld => ?_); clear hK K; refine pu_ 14 5 rfl rfl HT_ ?_; refine done_ (done_of HT_.out (by kernel_rfl)) ?_
    try go_wp2
    refine bodyPost_ret (results_ct rfl _ _ gb167 23 #[.string t172, .string t173] (0, 0) _ rfl (rp_ BK167.out) Tryz.underlying23 rfl (by kernel_rfl)) rfl ?_; exact ⟨er_, b_ HB.out⟩
def r3_Split.f (k : Nat) (a0_0 : ByteArray) (a0_1 : ByteArray) : Option (ByteArray × ByteArray × ByteArray) := (r3_May.f a0_0 a0_1).bind fun t177 => (if t177 = true then ((r2_Div.f a0_0 a0_1).bind fun bt178 => ((r3_Make.f k bt178.2.1 a0_1).bind fun bt181 => (some (bt178.1, bt181.1, bt181.2.1)))) else (some ((⟨#[]⟩ : ByteArray), (⟨#[]⟩ : ByteArray), (⟨#[]⟩ : ByteArray))))
set_option maxHeartbeats 8000000 in
set_option maxRecDepth 100000 in
theorem r3_Split.calls (k : Nat) (a0_0 : ByteArray) (a0_1 : ByteArray) (r1 : ByteArray) (r2 : ByteArray) (r3 : ByteArray) (w : World) (h : r3_Split.f k a0_0 a0_1 = some (r1, r2, r3)) :
  Calls Tryz.prog 32 #[.agg #[.string a0_0, .string a0_1]] w fun e w' => e = .returned (.tuple #[.string r1, .agg #[.string r2, .string r3]]) ∧ Below w.heap.size w w' := by
 have hu23 := Tryz.underlying23; have HB := Aside0.mk (Below.refl w.heap.size w); have H := h; unfold r3_Split.f at H; clear h; obtain ⟨t177, A2, H⟩ := bi_ H; by_cases c3 : t177 = true
 ·subst c3; rw [if_pos rfl] at H; obtain ⟨⟨t178, t179, t180⟩, A4, H⟩ := bi_ H; (try dsimp only at H); obtain ⟨⟨t181, t182, t183⟩, A5, H⟩ := bi_ H; (try dsimp only at H); simp only [Option.some.injEq, Prod.mk.injEq] at H; obtain ⟨rfl, rfl, rfl⟩ := H; go_enter Tryz.func32, Tryz.ntmps32
  try go_wp2_with (first | ((with_reducible refine gate_dst (N := 1) rfl ?_); refine be_ 1 #[.string a0_0, .string a0_1] 23 ?_; intro gb175 hg w6 hbox hb; have BK175 := Aside0.mk (hbox); have GW175 := ge_ HB hg; have GE175 := ge_ HB hg; replace HB := bs_ HB hb; clear hb hbox hg) | ((with_reducible refine gate_dst (N := 3) rfl ?_); refine be_ 3 #[.string (⟨#[]⟩ : ByteArray), .string (⟨#[]⟩ : ByteArray)] 23 ?_; intro gb176 hg w7 hbox hb; have BK176 := Aside0.mk (hbox); have GW176 := ge_ HB hg; have GE176 := ge_ HB hg; have NB175_176 := nl_ BK175 hg; have NB176_175 := ng_ BK175 hg; replace BK175 := kb_ BK175 hb; replace HB := bs_ HB hb; clear hb hbox hg; have hnb8 := NB175_176.out; have hnc8 := NB176_175.out; have hcz9_0 := bc_ BK175 0 rfl; have hcz9_1 := bc_ BK175 1 rfl; have hfz9_0 := blk_frozen BK175.out 0; have hfz9_1 := blk_frozen BK175.out 1) | (refine gl_ 10 Tryz.func22 #[.agg #[.string a0_0, .string a0_1]] ?_; refine mo_ (r3_May.calls a0_0 a0_1 true _ A2.out) ?_; intro w10 hb; replace BK175 := kb_ BK175 hb; replace BK176 := kb_ BK176 hb; replace HB := bs_ HB hb; (try clear hb); (try clear hb2); (try clear hk); (try clear hi); have hcz11_0 := bc_ BK175 0 rfl; have hcz11_1 := bc_ BK175 1 rfl; have hfz11_0 := blk_frozen BK175.out 0; have hfz11_1 := blk_frozen BK175.out 1) | (refine gl_ 18 Tryz.func34 #[.string a0_0, .string a0_1] ?_; refine mo_ (r2_Div.calls a0_0 a0_1 t178 t179 t180 _ A4.out) ?_; intro w12 hb; replace BK175 := kb_ BK175 hb; replace BK176 := kb_ BK176 hb; replace HB := bs_ HB hb; (try clear hb); (try clear hb2); (try clear hk); (try clear hi); have hcz13_0 := bc_ BK175 0 rfl; have hcz13_1 := bc_ BK175 1 rfl; have hfz13_0 := blk_frozen BK175.out 0; have hfz13_1 := blk_frozen BK175.out 1) | (refine gl_ 26 Tryz.func40 #[.string t179, .string a0_1] ?_; refine mo_ (r3_Make.calls k t179 a0_1 t181 t182 t183 _ A5.out) ?_; intro w14 hb; replace BK175 := kb_ BK175 hb; replace BK176 := kb_ BK176 hb; replace HB := bs_ HB hb; (try clear hb); (try clear hb2); (try clear hk); (try clear hi)) | ((with_reducible refine gate_dst (N := 7) rfl ?_); refine be_ 7 #[.string (⟨#[]⟩ : ByteArray), .string (⟨#[]⟩ : ByteArray)] 23 ?_; intro gb184 hg w15 hbox hb; have BK184 := Aside0.mk (hbox); have GW184 := ge_ HB hg; have GE184 := ge_ HB hg; have NB175_184 := nl_ BK175 hg; have NB184_175 := ng_ BK175 hg; have NB176_184 := nl_ BK176 hg; have NB184_176 := ng_ BK176 hg; replace BK175 := kb_ BK175 hb; replace BK176 := kb_ BK176 hb; replace HB := bs_ HB hb; clear hb hbox hg; have hnb16 := NB184_175.out; have hnc16 := NB175_184.out; have hnb17 := NB184_176.out; have hnc17 := NB176_184.out; have hcz18_0 := bc_ BK184 0 rfl; have hcz18_1 := bc_ BK184 1 rfl; have hfz18_0 := blk_frozen BK184.out 0; have hfz18_1 := blk_frozen BK184.out 1))
  have n0_ : Aside0 (((w15.setCell ⟨gb184, 0, none⟩ (.string t181)).setCell ⟨gb184, 1, none⟩ (.string t182)).heap[gb175]? = some (.cells #[.string a0_0, .string a0_1] 23 (0, 0))) := ⟨fr_ BK175.out⟩; have n1_ : Aside0 (((w15.setCell ⟨gb184, 0, none⟩ (.string t181)).setCell ⟨gb184, 1, none⟩ (.string t182)).heap[gb176]? = some (.cells #[.string (⟨#[]⟩ : ByteArray), .string (⟨#[]⟩ : ByteArray)] 23 (0, 0))) := ⟨fr_ BK176.out⟩; have n2_ : Aside0 (((w15.setCell ⟨gb184, 0, none⟩ (.string t181)).setCell ⟨gb184, 1, none⟩ (.string t182)).heap[gb184]? = some (.cells #[.string t181, .string t182] 23 (0, 0))) := ⟨rp_ BK184.out⟩; have n3_ : Aside0 (Below w.heap.size w ((w15.setCell ⟨gb184, 0, none⟩ (.string t181)).setCell ⟨gb184, 1, none⟩ (.string t182))) := ⟨b_ HB.out⟩; (try clear BK175); (try clear BK176); (try clear BK184); (try clear HB); generalize ((w15.setCell ⟨gb184, 0, none⟩ (.string t181)).setCell ⟨gb184, 1, none⟩ (.string t182)) = w19 at n0_ n1_ n2_ n3_ ⊢; have BK175 := n0_; have BK176 := n1_; have BK184 := n2_; have HB := n3_; clear n0_ n1_ n2_ n3_; replace BK175 := Aside0.mk (blk_drew BK175.out); replace BK176 := Aside0.mk (blk_drew BK176.out); replace BK184 := Aside0.mk (blk_drew BK184.out); replace HB := Aside0.mk (below_drew1 HB.out); refine sa_ 4 (fun w' => w'.cell? ⟨gb184, 0, none⟩ = some (.string t181) ∧ w'.cell? ⟨gb184, 1, none⟩ = some (.string t182)) (fun hHeld => ?_); generalize w19.drew = w20 at BK175 BK176 BK184 HB hHeld ⊢; refine pure_ (i := 0) (N := some 29) (v := ?_) (a' := ?_) #[true, false, false, false] rfl rfl (by kernel_rfl) (fun _ _ _ h => h) (Or.inl ⟨by rfl, ?_⟩) ?_ ?_; rotate_left
  ·intro w'; go_simp; with_reducible rfl
  rotate_left
  ·exact ap_
  refine pure_ (i := 2) (N := some 2) (v := ?_) (a' := ?_) #[true, false, true, false] rfl rfl (by kernel_rfl) (fun _ _ _ h => h) (Or.inl ⟨by rfl, ?_⟩) ?_ ?_; rotate_left
  ·intro w'; go_simp; with_reducible rfl
  rotate_left
  ·exact ap_
  refine take_ (i := 1) (N := some 30) (v := ?_) (a' := ?_) #[true, true, true, false] rfl rfl (by kernel_rfl) (fun _ _ _ h => h) (Or.inl ⟨by rfl, ?_⟩) hHeld ?_ ?_; rotate_left
  ·rintro w' ⟨s0, s1⟩; go_simp; with_reducible rfl
  rotate_left
  ·exact ap_
  refine one_ (i := 3) (N := none) #[true, true, true, true] rfl rfl (by kernel_rfl) (by decide) (fun K hK => ?_); have hs21 := bc_ BK176 0 rfl; have hfs21 := blk_frozen BK176.out 0; have hns21_0 := NB175_176.out; have hns21_2 := NB184_176.out; have hms21_0 := NB176_175.out; have hms21_2 := NB176_184.out; have hs22 := bc_ BK176 1 rfl; have hfs22 := blk_frozen BK176.out 1; have hns22_0 := NB175_176.out; have hns22_2 := NB184_176.out; have hms22_0 := NB176_175.out; have hms22_2 := NB176_184.out; refine skip_ (w1 := ?_) (by rfl) rfl ?_ ?_; rotate_left
  ·go_simp
   rfl
  refine hf_ hK hHeld (fun hHeld => ?_); clear hK K; refine done_ (by kernel_rfl) ?_
  try go_wp2
  refine bodyPost_ret (results_tc rfl _ _ gb176 23 #[.string t181, .string t182] (0, 0) _ rfl (rp_ BK176.out) Tryz.underlying23 rfl (by kernel_rfl)) rfl ?_; exact ⟨er_, b_ HB.out⟩
 ·replace c3 := Bool.eq_false_iff.mpr c3; subst c3; rw [if_neg nf_] at H; simp only [Option.some.injEq, Prod.mk.injEq] at H; obtain ⟨rfl, rfl, rfl⟩ := H; go_enter Tryz.func32, Tryz.ntmps32
  go_wp2_with (first | ((with_reducible refine gate_dst (N := 1) rfl ?_); refine be_ 1 #[.string a0_0, .string a0_1] 23 ?_; intro gb175 hg w23 hbox hb; have BK175 := Aside0.mk (hbox); have GW175 := ge_ HB hg; have GE175 := ge_ HB hg; replace HB := bs_ HB hb; clear hb hbox hg) | ((with_reducible refine gate_dst (N := 3) rfl ?_); refine be_ 3 #[.string (⟨#[]⟩ : ByteArray), .string (⟨#[]⟩ : ByteArray)] 23 ?_; intro gb176 hg w24 hbox hb; have BK176 := Aside0.mk (hbox); have GW176 := ge_ HB hg; have GE176 := ge_ HB hg; have NB175_176 := nl_ BK175 hg; have NB176_175 := ng_ BK175 hg; replace BK175 := kb_ BK175 hb; replace HB := bs_ HB hb; clear hb hbox hg; have hnb25 := NB175_176.out; have hnc25 := NB176_175.out; have hcz26_0 := bc_ BK175 0 rfl; have hcz26_1 := bc_ BK175 1 rfl; have hfz26_0 := blk_frozen BK175.out 0; have hfz26_1 := blk_frozen BK175.out 1) | (refine gl_ 10 Tryz.func22 #[.agg #[.string a0_0, .string a0_1]] ?_; refine mo_ (r3_May.calls a0_0 a0_1 false _ A2.out) ?_; intro w27 hb; replace BK175 := kb_ BK175 hb; replace BK176 := kb_ BK176 hb; replace HB := bs_ HB hb; (try clear hb); (try clear hb2); (try clear hk); (try clear hi); have hcz28_0 := bc_ BK176 0 rfl; have hcz28_1 := bc_ BK176 1 rfl; have hfz28_0 := blk_frozen BK176.out 0; have hfz28_1 := blk_frozen BK176.out 1))
  refine bodyPost_ret (results_tc rfl _ _ gb176 23 #[.string (⟨#[]⟩ : ByteArray), .string (⟨#[]⟩ : ByteArray)] (0, 0) _ rfl (rp_ BK176.out) Tryz.underlying23 rfl (by kernel_rfl)) rfl ?_; exact ⟨er_, b_ HB.out⟩
def r3_Short.l0 : Nat → List (S23) → Int → Option (Bool)
 | 0, _, _ => none
 | k + 1, x0, x3 => if x3 < (x0.length : Int) then (if 0 ≤ x3 then (if (((rd_T23 x0 x3).f0).size : Int) > 100 then (some false) else (if (((rd_T23 x0 x3).f1).size : Int) > 100 then (some false) else (r3_Short.l0 k x0 (wrap64 (x3 + 1))))) else (none)) else (some true)
def r3_Short.f (k : Nat) (l0 : List (S23)) : Option (Bool) := r3_Short.l0 k l0 0
set_option maxHeartbeats 8000000 in
set_option maxRecDepth 100000 in
theorem r3_Short.calls (k : Nat) (A0 : Option Addr) (c0 : Nat) (l0 : List (S23)) (r : Bool) (w : World) (hr0 : Kd.C k23 w A0 l0.length l0) (hc0 : l0.length ≤ c0) (h : r3_Short.f k l0 = some r) :
  Calls Tryz.prog 9 #[.slice A0 l0.length c0] w fun e w' => e = .returned (.bool r) ∧ Drawn0 w w' := by
 have HR0 := Aside0.mk hr0; have HC0 := Aside0.mk hc0; clear hr0 hc0; have H := h; unfold r3_Short.f at H; clear h; have H' := Aside0.mk H; clear H; go_enter Tryz.func9, Tryz.ntmps9; go_wp2
 go_loopg [3] k (fun kq v3 w' => ∃ (x3_1 : Int), v3 = .int .i64 x3_1 ∧ Aside0 (r3_Short.l0 kq l0 x3_1 = some r) ∧ Aside0 (kq ≤ k) ∧ Drawn0 w w')
 case atStart => exact ⟨(0), rl_, H', ⟨Nat.le_refl _⟩, d0_⟩
 case round =>
  clear H'; obtain ⟨x3_1, rfl, HA, HK1, ⟨m1, rfl⟩⟩ := hrel
  cases gk with
  | zero => exact absurd HA.out (by simp [r3_Short.l0])
  | succ k1 =>
   have H := HA.out; clear HA; simp only [r3_Short.l0] at H; by_cases c2 : x3_1 < (l0.length : Int)
   ·rw [if_pos c2] at H; have c2b0 : decide (x3_1 < (l0.length : Int)) = true := decide_eq_true c2; clear c2; by_cases c3 : 0 ≤ x3_1
    ·rw [if_pos c3] at H; have c3b0 : decide (0 ≤ x3_1) = true := decide_eq_true c3; clear c3; by_cases c4 : (((rd_T23 l0 x3_1).f0).size : Int) > 100
     ·rw [if_pos c4] at H; have c4b0 : decide (100 < (((rd_T23 l0 x3_1).f0).size : Int)) = true := decide_eq_true c4; have c4b1 : decide (100 < ((rd_T23 l0 x3_1).f0).size) = true := decide_eq_true (by omega); clear c4; obtain rfl := Option.some.inj H; have p185 : 0 ≤ (x3_1 : Int) := of_decide_eq_true as_f; have q185 : x3_1 < (l0.length : Int) := of_decide_eq_true as_f; obtain ⟨ad185, e185, hx185_0, hx185_1⟩ := at_T23 HR0.out x3_1 p185 q185
      cases e185
      replace p185 := eq_true p185; replace q185 := eq_true q185; go_wp2
      go_ret
      exact ⟨by first | rfl | (simp; done) | (simp [*]; done), d0_⟩
     ·rw [if_neg c4] at H; have c4b0 : decide (100 < (((rd_T23 l0 x3_1).f0).size : Int)) = false := decide_eq_false c4; have c4b1 : decide (100 < ((rd_T23 l0 x3_1).f0).size) = false := decide_eq_false (by omega); clear c4; by_cases c5 : (((rd_T23 l0 x3_1).f1).size : Int) > 100
      ·rw [if_pos c5] at H; have c5b0 : decide (100 < (((rd_T23 l0 x3_1).f1).size : Int)) = true := decide_eq_true c5; have c5b1 : decide (100 < ((rd_T23 l0 x3_1).f1).size) = true := decide_eq_true (by omega); clear c5; obtain rfl := Option.some.inj H; have p185 : 0 ≤ (x3_1 : Int) := of_decide_eq_true as_f; have q185 : x3_1 < (l0.length : Int) := of_decide_eq_true as_f; obtain ⟨ad185, e185, hx185_0, hx185_1⟩ := at_T23 HR0.out x3_1 p185 q185
       cases e185
       replace p185 := eq_true p185; replace q185 := eq_true q185; have p186 : 0 ≤ (x3_1 : Int) := of_decide_eq_true as_f; have q186 : x3_1 < (l0.length : Int) := of_decide_eq_true as_f; obtain ⟨ad186, e186, hx186_0, hx186_1⟩ := at_T23 HR0.out x3_1 p186 q186; obtain rfl : ad185 = ad186 := (by injection e186); replace p186 := eq_true p186; replace q186 := eq_true q186; go_wp2
       go_ret
       exact ⟨by first | rfl | (simp; done) | (simp [*]; done), d0_⟩
      ·rw [if_neg c5] at H; have c5b0 : decide (100 < (((rd_T23 l0 x3_1).f1).size : Int)) = false := decide_eq_false c5; have c5b1 : decide (100 < ((rd_T23 l0 x3_1).f1).size) = false := decide_eq_false (by omega); clear c5; have H' := Aside0.mk H; clear H; have p185 : 0 ≤ (x3_1 : Int) := of_decide_eq_true as_f; have q185 : x3_1 < (l0.length : Int) := of_decide_eq_true as_f; obtain ⟨ad185, e185, hx185_0, hx185_1⟩ := at_T23 HR0.out x3_1 p185 q185
       cases e185
       replace p185 := eq_true p185; replace q185 := eq_true q185; have p186 : 0 ≤ (x3_1 : Int) := of_decide_eq_true as_f; have q186 : x3_1 < (l0.length : Int) := of_decide_eq_true as_f; obtain ⟨ad186, e186, hx186_0, hx186_1⟩ := at_T23 HR0.out x3_1 p186 q186; obtain rfl : ad185 = ad186 := (by injection e186); replace p186 := eq_true p186; replace q186 := eq_true q186; go_wp2
       go_roundg k1
       case measure => have := HK1.out; omega
       case rel => exact ⟨(wrap64 (x3_1 + 1)), rl_, H', ⟨by have := HK1.out; omega⟩, d0_⟩
    ·rw [if_neg c3] at H; exact absurd H (by simp)
   ·rw [if_neg c2] at H; have c2b0 : decide (x3_1 < (l0.length : Int)) = false := decide_eq_false c2; clear c2; obtain rfl := Option.some.inj H; go_wp2
    go_ret
    exact ⟨by first | rfl | (simp; done) | (simp [*]; done), d0_⟩
end Go.Proofs.YtmfcpapfikbomaaGreatDoor.Pz
end

section
namespace Go.Proofs.YtmfcpapfikbomaaGreatDoor.Pz
def r3_One.f (k : Nat) (a0 : Int) (a1 : Int) : Option (ByteArray × ByteArray) := (r2_Of.f a0).bind fun t195 => ((r2_Of.f a1).bind fun t196 => ((r3_Make.f k t195 t196).bind fun bt197 => (some (bt197.1, bt197.2.1))))
set_option maxHeartbeats 8000000 in
set_option maxRecDepth 100000 in
theorem r3_One.calls (k : Nat) (a0 : Int) (a1 : Int) (r1 : ByteArray) (r2 : ByteArray) (w : World) (h : r3_One.f k a0 a1 = some (r1, r2)) :
  Calls Tryz.prog 27 #[.int .i64 a0, .int .i64 a1] w fun e w' => e = .returned (.agg #[.string r1, .string r2]) ∧ Below w.heap.size w w' := by
 have hu23 := Tryz.underlying23; have HB := Aside0.mk (Below.refl w.heap.size w); have H := h; unfold r3_One.f at H; clear h; obtain ⟨t195, A3, H⟩ := bi_ H; obtain ⟨t196, A4, H⟩ := bi_ H; obtain ⟨⟨t197, t198, t199⟩, A5, H⟩ := bi_ H; (try dsimp only at H); simp only [Option.some.injEq, Prod.mk.injEq] at H; obtain ⟨rfl, rfl⟩ := H; go_enter Tryz.func27, Tryz.ntmps27
 go_wp2_with (first | ((with_reducible refine gate_dst (N := 4) rfl ?_); refine be_ 4 #[.string (⟨#[]⟩ : ByteArray), .string (⟨#[]⟩ : ByteArray)] 23 ?_; intro gb194 hg w6 hbox hb; have BK194 := Aside0.mk (hbox); have GW194 := ge_ HB hg; have GE194 := ge_ HB hg; replace HB := bs_ HB hb; clear hb hbox hg) | (refine gl_ 9 Tryz.func48 #[.int .i64 a0] ?_; refine mo_ (r2_Of.calls a0 t195 _ A3.out) ?_; intro w7 hb; replace BK194 := kb_ BK194 hb; replace HB := bs_ HB hb; (try clear hb); (try clear hb2); (try clear hk); (try clear hi)) | (refine gl_ 11 Tryz.func48 #[.int .i64 a1] ?_; refine mo_ (r2_Of.calls a1 t196 _ A4.out) ?_; intro w8 hb; replace BK194 := kb_ BK194 hb; replace HB := bs_ HB hb; (try clear hb); (try clear hb2); (try clear hk); (try clear hi)) | (refine gl_ 12 Tryz.func40 #[.string t195, .string t196] ?_; refine mo_ (r3_Make.calls k t195 t196 t197 t198 t199 _ A5.out) ?_; intro w9 hb; replace BK194 := kb_ BK194 hb; replace HB := bs_ HB hb; (try clear hb); (try clear hb2); (try clear hk); (try clear hi)) | ((with_reducible refine gate_dst (N := 5) rfl ?_); refine be_ 5 #[.string (⟨#[]⟩ : ByteArray), .string (⟨#[]⟩ : ByteArray)] 23 ?_; intro gb200 hg w10 hbox hb; have BK200 := Aside0.mk (hbox); have GW200 := ge_ HB hg; have GE200 := ge_ HB hg; have NB194_200 := nl_ BK194 hg; have NB200_194 := ng_ BK194 hg; replace BK194 := kb_ BK194 hb; replace HB := bs_ HB hb; clear hb hbox hg; have hnb11 := NB200_194.out; have hnc11 := NB194_200.out; have hcz12_0 := bc_ BK200 0 rfl; have hcz12_1 := bc_ BK200 1 rfl; have hfz12_0 := blk_frozen BK200.out 0; have hfz12_1 := blk_frozen BK200.out 1; have hcz13_0 := bc_ BK194 0 rfl; have hcz13_1 := bc_ BK194 1 rfl; have hfz13_0 := blk_frozen BK194.out 0; have hfz13_1 := blk_frozen BK194.out 1))
 refine bodyPost_ret (results_cell_row rfl _ _ gb194 23 #[.string t197, .string t198] (0, 0) _ rfl (by refine k_ ?_; refine blk_put (cs := #[.string t197, .string (⟨#[]⟩ : ByteArray)]) ?_ 1 _ rfl; refine k_ ?_; refine blk_put (cs := #[.string (⟨#[]⟩ : ByteArray), .string (⟨#[]⟩ : ByteArray)]) ?_ 0 _ rfl; refine k_ ?_; refine blk_far ?_ NB194_200.out _; refine k_ ?_; refine blk_far ?_ NB194_200.out _; refine k_ ?_; exact BK194.out) Tryz.underlying23 rfl (by kernel_rfl)) rfl ?_; exact ⟨er_, b_ HB.out⟩
end Go.Proofs.YtmfcpapfikbomaaGreatDoor.Pz
end

section
namespace Go.Proofs.YtmfcpapfikbomaaGreatDoor.Pz
end Go.Proofs.YtmfcpapfikbomaaGreatDoor.Pz
end

section
namespace Go.Proofs.YtmfcpapfikbomaaGreatDoor
theorem smr_int {x : Int} (h : szI x ≤ 20000) : smr (intB x) = true := decide_eq_true h
theorem smr2_int {x y : Int} (hx : szI x ≤ 20000) (hy : szI y ≤ 20000) : smr2 (intB x) (intB y) = true := by
 unfold smr2
 rw [smr_int hx, smr_int hy]
 rfl
theorem qAbs {x : Int} (hx : szI x ≤ 20000) : r2_Abs.f (intB x) = some (natB x.natAbs) := by
 unfold r2_Abs.f wabsS
 rw [if_pos (smr_int hx), if_pos (mayW_int x), numW_int]
theorem qNeg {x : Int} (hx : szI x ≤ 20000) : r2_Neg.f (intB x) = some (intB (-x)) := by
 unfold r2_Neg.f wnegS
 rw [if_pos (smr_int hx), if_pos (mayW_int x), numW_int]
theorem qSign {x : Int} (hx : szI x ≤ 20000) : r2_Sign.f (intB x) = some (Lib.compareInt x 0) := by
 unfold r2_Sign.f wsignS
 rw [if_pos (smr_int hx), if_pos (mayW_int x), numW_int]
theorem qAdd {x y : Int} (hx : szI x ≤ 20000) (hy : szI y ≤ 20000) : r2_Add.f (intB x) (intB y) = some (intB (x + y)) := by
 unfold r2_Add.f waddS
 rw [if_pos (smr2_int hx hy), if_pos (may2W_int' x y), numW_int, numW_int]
theorem qMul {x y : Int} (hx : szI x ≤ 20000) (hy : szI y ≤ 20000) : r2_Mul.f (intB x) (intB y) = some (intB (x * y)) := by
 unfold r2_Mul.f wmulS
 rw [if_pos (smr2_int hx hy), if_pos (may2W_int' x y), numW_int, numW_int]
theorem qMulN {x : Int} {n : Nat} (hx : szI x ≤ 20000) (hn : sz n ≤ 20000) : r2_Mul.f (intB x) (natB n) = some (intB (x * (n : Int))) := by
 rw [← intB_nat]
 exact qMul hx (by rw [szI_nat]; exact hn)
theorem qNMul {x : Int} {n : Nat} (hx : szI x ≤ 20000) (hn : sz n ≤ 20000) : r2_Mul.f (natB n) (intB x) = some (intB ((n : Int) * x)) := by
 rw [← intB_nat]
 exact qMul (by rw [szI_nat]; exact hn) hx
theorem qDiv {x y : Int} (hx : szI x ≤ 20000) (hy : szI y ≤ 20000) (h : y ≠ 0) : r2_Div.f (intB x) (intB y) = some (intB (x / y), intB (x % y), true) := by
 unfold r2_Div.f wdivS
 rw [if_pos (smr2_int hx hy), may2W_int', Bool.true_and, numW_int, numW_int, if_pos (decide_eq_true h)]
theorem rGcd {m n : Nat} (hm : sz m ≤ 50000) (hn : sz n ≤ 50000) : r1_Gcd.f (natB m) (natB n) = some (natB (Nat.gcd m n)) := by
 unfold r1_Gcd.f gcdS
 rw [if_pos (sm2_natB hm hn), if_pos (may2_natB m n), numB_natB, numB_natB]
theorem natB_beq_one' (m : Nat) : ((natB m).toList == ([49] : List UInt8)) = (m == 1) := by
 rw [Bool.eq_iff_iff, beq_iff_eq, beq_iff_eq, natB_toList_one]
theorem r3may_f {a b : ByteArray} (ha : a.size ≤ 20000) (hb : b.size ≤ 20000) : Pz.r3_May.f a b = some (mayR (a, b)) := by
 unfold Pz.r3_May.f mayR
 rw [rMay2 (by omega), Option.bind_some]
 by_cases h1 : mayW a = true
 ·rw [if_pos h1, rMay (by omega), Option.bind_some]
  by_cases h2 : mayB b = true
  ·obtain ⟨z, rfl⟩ := of_mayW h1
   obtain ⟨n, rfl, e2⟩ := of_may h2
   have s1 : szI z ≤ 20000 := ha
   have s2 : sz n ≤ 20000 := hb
   have s3 := le_szI z
   rw [if_pos h2, h1, h2, numW_int, numB_natB]
   by_cases h3 : n = 0
   ·rw [if_pos (natB_toList_zero.2 h3), h3]
    rfl
   ·rw [if_neg (fun e => h3 (natB_toList_zero.1 e)), qAbs (by omega), Option.bind_some, rGcd (by omega) (by omega), Option.bind_some, natB_beq_one', decide_eq_true h3]
    rfl
  ·rw [if_neg h2, h1, (Bool.not_eq_true _).mp h2]
   rfl
 ·rw [if_neg h1, (Bool.not_eq_true _).mp h1]
  rfl
theorem gcd_le_l' {x y : Int} (hy : y ≠ 0) : sz (Nat.gcd x.natAbs y.natAbs) ≤ szI y := by
 have h := sz_mono (Nat.gcd_le_right x.natAbs (show 0 < y.natAbs by omega))
 have := le_szI y
 omega
theorem mk_core {x y : Int} (hy : 0 < y) (hx : szI x ≤ 20000) (hs : szI y ≤ 20000) (k : Nat) : Pz.r3_Make.j1 (k + 1) (intB x) (intB y) = some ((rT (Rat.divInt x y)).1, (rT (Rat.divInt x y)).2, true) := by
 have s3 := le_szI x
 have s4 := le_szI y
 have s5 := gcd_le_l' (x := x) (show y ≠ 0 by omega)
 have hg : ((Nat.gcd x.natAbs y.natAbs : Nat) : Int) ≠ 0 := by
  have := Nat.gcd_pos_of_pos_right x.natAbs (show 0 < y.natAbs by omega)
  omega
 have h1 := red_num (x := x) (y := y) (by omega)
 have h2 := red_den (x := x) (y := y) (by omega)
 rw [if_neg (by omega)] at h1
 have e : intB y = natB y.natAbs := by rw [intB_nonneg (by omega)]; congr 1; omega
 have e' : (y.natAbs : Int) = y := by omega
 simp only [Pz.r3_Make.j1]
 rw [qAbs (by omega), Option.bind_some, e, rGcd (by omega) (by omega), Option.bind_some, ← e, ← intB_nat, qDiv (by omega) (by rw [szI_nat]; omega) hg, Option.bind_some, qDiv (by omega) (by rw [szI_nat]; omega) hg, Option.bind_some]
 rw [e'] at h2
 show some (intB _, intB _, true) = some (intB _, natB _, true)
 rw [h1, h2, intB_nat]
theorem mk_f {x y : Int} (hx : szI x ≤ 19000) (hs : szI y ≤ 19000) (k : Nat) : Pz.r3_Make.f (k + 2) (intB x) (intB y) = some (if y = 0 then (noB, noB, false) else ((rT (Rat.divInt x y)).1, (rT (Rat.divInt x y)).2, true)) := by
 unfold Pz.r3_Make.f
 rw [rMay2 (show szI x ≤ 50000 by omega), Option.bind_some, if_pos (mayW_int x), rMay2 (show szI y ≤ 50000 by omega), Option.bind_some, if_pos (mayW_int y), intB_beq_zero]
 show Pz.r3_Make.j0 (k + 1 + 1) _ _ _ = _
 simp only [Pz.r3_Make.j0]
 by_cases h0 : y = 0
 ·rw [if_pos (decide_eq_true h0), if_pos h0]
  rfl
 ·rw [if_neg (by rw [decide_eq_true_eq]; exact h0), if_neg h0, qSign (by omega), Option.bind_some]
  by_cases h : y < 0
  ·have n1 := szI_neg x
   have n2 := szI_neg y
   rw [if_pos (by rw [cmp_lt' h]; decide), qNeg (by omega), Option.bind_some, qNeg (by omega), Option.bind_some, mk_core (by omega) (by omega) (by omega), Rat.neg_divInt_neg]
  ·rw [if_neg (by rw [cmp_gt' (by omega)]; decide), mk_core (by omega) (by omega) (by omega)]
theorem mk_nf {x : Int} {n : Nat} (hy : n ≠ 0) (hx : szI x ≤ 19000) (hs : sz n ≤ 19000) (k : Nat) : Pz.r3_Make.f (k + 2) (intB x) (natB n) = some ((rT (Rat.divInt x (n : Int))).1, (rT (Rat.divInt x (n : Int))).2, true) := by
 rw [← intB_nat, mk_f hx (by rw [szI_nat]; exact hs), if_neg (by omega)]
theorem r3make_f {a b : ByteArray} (ha : a.size ≤ 19000) (hb : b.size ≤ 19000) (k : Nat) : Pz.r3_Make.f (k + 1) a b = some ((rmakeS a b).1.1, (rmakeS a b).1.2, (rmakeS a b).2) ∨ k = 0 := by
 by_cases hk : k = 0
 ·exact .inr hk
 obtain ⟨k, rfl⟩ : ∃ m, k = m + 1 := ⟨k - 1, by omega⟩
 refine .inl ?_
 by_cases h1 : mayW a = true
 ·by_cases h2 : mayW b = true
  ·obtain ⟨x, rfl⟩ := of_mayW h1
   obtain ⟨y, rfl⟩ := of_mayW h2
   rw [mk_f ha hb]
   unfold rmakeS
   rw [may2W_int', Bool.true_and, numW_int, numW_int]
   by_cases h3 : y = 0
   ·rw [if_pos h3, if_neg (by rw [h3]; decide)]
    rfl
   ·rw [if_neg h3, if_pos (decide_eq_true h3)]
  ·unfold Pz.r3_Make.f rmakeS
   rw [rMay2 (by omega), Option.bind_some, if_pos h1, rMay2 (by omega), Option.bind_some, if_neg h2, show may2W a b = false by unfold may2W; rw [h1, (Bool.not_eq_true _).mp h2]; rfl]
   rfl
 ·unfold Pz.r3_Make.f rmakeS
  rw [rMay2 (by omega), Option.bind_some, if_neg h1, show may2W a b = false by unfold may2W; rw [(Bool.not_eq_true _).mp h1]; rfl]
  rfl
theorem r3make_f2 {a b : ByteArray} (ha : a.size ≤ 19000) (hb : b.size ≤ 19000) (k : Nat) : Pz.r3_Make.f (k + 2) a b = some ((rmakeS a b).1.1, (rmakeS a b).1.2, (rmakeS a b).2) := (r3make_f ha hb (k + 1)).resolve_right (by omega)
theorem r3sign_f {x : BB} (ha : x.1.size ≤ 20000) (hb : x.2.size ≤ 20000) : Pz.r3_Sign.f x.1 x.2 = some (rsignS x) := by
 unfold Pz.r3_Sign.f rsignS
 rw [r3may_f ha hb, Option.bind_some]
 by_cases h : mayR x = true
 ·obtain ⟨q, rfl⟩ := of_mayR h
  have s1 : szI q.num ≤ 20000 := ha
  rw [if_pos h, if_pos h, ratR_rT]
  show ((r2_Sign.f (intB q.num)).bind fun t => some t) = _
  rw [qSign (by omega), Option.bind_some, ← signQ_cmp]
  rfl
 ·rw [if_neg h, if_neg h]
theorem r3neg_f {x : BB} (ha : x.1.size ≤ 20000) (hb : x.2.size ≤ 20000) : Pz.r3_Neg.f x.1 x.2 = some (rnegS x) := by
 unfold Pz.r3_Neg.f rnegS
 rw [r3may_f ha hb, Option.bind_some]
 by_cases h : mayR x = true
 ·obtain ⟨q, rfl⟩ := of_mayR h
  have s1 : szI q.num ≤ 20000 := ha
  rw [if_pos h, if_pos h, ratR_rT]
  show ((r2_Neg.f (intB q.num)).bind fun t => some (t, natB q.den)) = some (intB (-q).num, natB (-q).den)
  rw [qNeg (by omega), Option.bind_some, Rat.neg_num, Rat.neg_den]
 ·rw [if_neg h, if_neg h]
  rfl
theorem sm_rT' {q : Rat} (h : smR (rT q) = true) : szI q.num ≤ 4000 ∧ sz q.den ≤ 4000 := smR_le h
theorem r3two {x y : BB} (hm : ¬ may2R x y = true) (h : mayR x = true) : mayR y = false := (Bool.not_eq_true _).mp (fun h2 => hm (by unfold may2R; rw [h, h2]; rfl))
theorem r3add_f {x y : BB} (hx : smR x = true) (hy : smR y = true) (k : Nat) : Pz.r3_Add.f (k + 3) x.1 x.2 y.1 y.2 = some (raddS x y) := by
 have h1 := smR_le hx
 have h2 := smR_le hy
 unfold Pz.r3_Add.f raddS
 rw [r3may_f (by omega) (by omega), Option.bind_some]
 rcases casesR x y with ⟨p, q, rfl, rfl⟩ | hm
 ·have h1 := sm_rT' hx
  have h2 := sm_rT' hy
  have s1 := szI_mul p.num (q.den : Int)
  have s2 := szI_mul q.num (p.den : Int)
  rw [szI_nat] at s1 s2
  have s3 := szI_add (p.num * (q.den : Int)) (q.num * (p.den : Int))
  have s4 := sz_mul p.den q.den
  rw [if_pos (mayR_rT p), r3may_f (by omega) (by omega), Option.bind_some, if_pos (may2R_rT p q), ratR_rT, ratR_rT, show mayR ((rT q).1, (rT q).2) = true from mayR_rT q]
  show Pz.r3_Add.j0 (k + 2 + 1) _ (intB p.num) (natB p.den) (intB q.num) (natB q.den) = _
  simp only [Pz.r3_Add.j0]
  rw [if_neg (by decide), qMulN (by omega) (by omega), Option.bind_some, qMulN (by omega) (by omega), Option.bind_some, qAdd (by omega) (by omega), Option.bind_some, rMul (by omega) (by omega), Option.bind_some, mk_nf (Nat.mul_ne_zero p.den_nz q.den_nz) (by omega) (by omega), Option.bind_some, Int.natCast_mul, add_parts]
 ·rw [if_neg hm]
  by_cases h : mayR x = true
  ·rw [if_pos h, r3may_f (by omega) (by omega), Option.bind_some, show mayR (y.1, y.2) = false from r3two hm h]
   show Pz.r3_Add.j0 (k + 2 + 1) _ _ _ _ _ = _
   simp only [Pz.r3_Add.j0]
   rfl
  ·rw [if_neg h]
   show Pz.r3_Add.j0 (k + 2 + 1) _ _ _ _ _ = _
   simp only [Pz.r3_Add.j0]
   rfl
theorem rneg_sm' {y : BB} (hy : y.1.size ≤ 3999 ∧ y.2.size ≤ 4000) : smR (rnegS y) = true := by
 unfold rnegS
 by_cases h : mayR y = true
 ·obtain ⟨q, rfl⟩ := of_mayR h
  have h1 : szI q.num ≤ 3999 := hy.1
  have h2 : sz q.den ≤ 4000 := hy.2
  have h3 := szI_neg q.num
  rw [if_pos h, ratR_rT]
  refine decide_eq_true ⟨?_, ?_⟩
  ·show szI (-q).num ≤ 4000
   rw [Rat.neg_num]
   omega
  ·show sz (-q).den ≤ 4000
   rw [Rat.neg_den]
   exact h2
 ·rw [if_neg h]
  rfl
theorem add_neg_S' {x y : BB} : raddS x (rnegS y) = rsubS x y := by
 unfold raddS rsubS rnegS
 by_cases h : mayR y = true
 ·rw [if_pos h]
  have e : may2R x (rT (-ratR y)) = may2R x y := by unfold may2R; rw [mayR_rT, h]
  rw [e, ratR_rT, ← Rat.sub_eq_add_neg]
 ·have e : may2R x y = false := by unfold may2R; rw [(Bool.not_eq_true _).mp h, Bool.and_false]
  have e2 : may2R x no2 = false := by unfold may2R; rw [show mayR no2 = false by decide, Bool.and_false]
  rw [if_neg h, e, e2]
  rfl
theorem r3sub_f {x y : BB} (hx : smR x = true) (hy : y.1.size ≤ 3999 ∧ y.2.size ≤ 4000) (k : Nat) : Pz.r3_Sub.f (k + 3) x.1 x.2 y.1 y.2 = some (rsubS x y) := by
 unfold Pz.r3_Sub.f
 rw [r3neg_f (by omega) (by omega), Option.bind_some, r3add_f hx (rneg_sm' hy), Option.bind_some, add_neg_S']
theorem cmpQ_sub (x y : Rat) : cmpQ (x - y) 0 = cmpQ x y := by
 unfold cmpQ
 have e1 : x - y < 0 ↔ x < y := by constructor <;> intro h <;> grind
 have e2 : 0 < x - y ↔ y < x := by constructor <;> intro h <;> grind
 simp only [e1, e2]
theorem r3cmp_f {x y : BB} (hx : smR x = true) (hy : y.1.size ≤ 3999 ∧ y.2.size ≤ 4000) (k : Nat) : Pz.r3_Cmp.f (k + 3) x.1 x.2 y.1 y.2 = some (rcmpS x y) := by
 unfold Pz.r3_Cmp.f
 rw [r3sub_f hx hy, Option.bind_some]
 rcases casesR x y with ⟨p, q, rfl, rfl⟩ | hm
 ·have h1 := sm_rT' hx
  have h2 : szI q.num ≤ 3999 ∧ sz q.den ≤ 4000 := hy
  have hs : (rsubS (rT p) (rT q)).1.size ≤ 20000 ∧ (rsubS (rT p) (rT q)).2.size ≤ 20000 := by
   unfold rsubS
   rw [if_pos (may2R_rT p q), ratR_rT, ratR_rT]
   have e : p - q = Rat.divInt (p.num * (q.den : Int) + (-q).num * (p.den : Int)) ((p.den : Int) * (q.den : Int)) := by
    have := add_parts p (-q)
    rw [Rat.neg_den] at this
    rw [this, Rat.sub_eq_add_neg]
   have hne : (p.den : Int) * (q.den : Int) ≠ 0 := Int.mul_ne_zero (den_ne p) (den_ne q)
   have t1 := sz_den_le (p.num * (q.den : Int) + (-q).num * (p.den : Int)) hne
   have t2 := sz_num_le (p.num * (q.den : Int) + (-q).num * (p.den : Int)) hne
   rw [← e] at t1 t2
   have s1 := szI_mul p.num (q.den : Int)
   have s2 := szI_mul (-q).num (p.den : Int)
   have s3 := szI_add (p.num * (q.den : Int)) ((-q).num * (p.den : Int))
   have s4 := szI_mul (p.den : Int) (q.den : Int)
   have s5 := szI_neg q.num
   rw [szI_nat] at s1 s2 s4
   rw [szI_nat] at s4
   rw [Rat.neg_num] at s2 s3 t2
   constructor
   ·show szI (p - q).num ≤ _
    omega
   ·show sz (p - q).den ≤ _
    omega
  rw [r3sign_f hs.1 hs.2, Option.bind_some]
  unfold rsignS rsubS rcmpS
  rw [if_pos (may2R_rT p q), if_pos (may2R_rT p q), ratR_rT, ratR_rT, if_pos (mayR_rT _), ratR_rT, cmpQ_sub]
 ·have e : rsubS x y = no2 := by unfold rsubS; rw [if_neg hm]
  rw [e, r3sign_f (by decide) (by decide), Option.bind_some]
  unfold rcmpS rsignS
  rw [if_neg hm, if_neg (by decide)]
theorem r3mul_f {x y : BB} (hx : smR x = true) (hy : smR y = true) (k : Nat) : Pz.r3_Mul.f (k + 3) x.1 x.2 y.1 y.2 = some (rmulS x y) := by
 have h1 := smR_le hx
 have h2 := smR_le hy
 unfold Pz.r3_Mul.f rmulS
 rw [r3may_f (by omega) (by omega), Option.bind_some]
 rcases casesR x y with ⟨p, q, rfl, rfl⟩ | hm
 ·have h1 := sm_rT' hx
  have h2 := sm_rT' hy
  have s1 := szI_mul p.num q.num
  have s4 := sz_mul p.den q.den
  rw [if_pos (mayR_rT p), r3may_f (by omega) (by omega), Option.bind_some, if_pos (may2R_rT p q), ratR_rT, ratR_rT, show mayR ((rT q).1, (rT q).2) = true from mayR_rT q]
  show Pz.r3_Mul.j0 (k + 2 + 1) _ (intB p.num) (natB p.den) (intB q.num) (natB q.den) = _
  simp only [Pz.r3_Mul.j0]
  rw [if_neg (by decide), qMul (by omega) (by omega), Option.bind_some, rMul (by omega) (by omega), Option.bind_some, mk_nf (Nat.mul_ne_zero p.den_nz q.den_nz) (by omega) (by omega), Option.bind_some, Int.natCast_mul, mul_parts]
 ·rw [if_neg hm]
  by_cases h : mayR x = true
  ·rw [if_pos h, r3may_f (by omega) (by omega), Option.bind_some, show mayR (y.1, y.2) = false from r3two hm h]
   show Pz.r3_Mul.j0 (k + 2 + 1) _ _ _ _ _ = _
   simp only [Pz.r3_Mul.j0]
   rfl
  ·rw [if_neg h]
   show Pz.r3_Mul.j0 (k + 2 + 1) _ _ _ _ _ = _
   simp only [Pz.r3_Mul.j0]
   rfl
theorem r3div_f {x y : BB} (hx : smR x = true) (hy : smR y = true) (k : Nat) : Pz.r3_Div.f (k + 3) x.1 x.2 y.1 y.2 = some ((rdivS x y).1.1, (rdivS x y).1.2, (rdivS x y).2) := by
 have h1 := smR_le hx
 have h2 := smR_le hy
 unfold Pz.r3_Div.f rdivS
 rw [r3may_f (by omega) (by omega), Option.bind_some]
 rcases casesR x y with ⟨p, q, rfl, rfl⟩ | hm
 ·have h1 := sm_rT' hx
  have h2 := sm_rT' hy
  have s1 := szI_mul p.num (q.den : Int)
  have s2 := szI_mul (p.den : Int) q.num
  rw [szI_nat] at s1 s2
  rw [if_pos (mayR_rT p), r3may_f (by omega) (by omega), Option.bind_some, may2R_rT, Bool.true_and, ratR_rT, ratR_rT, show mayR ((rT q).1, (rT q).2) = true from mayR_rT q]
  show Pz.r3_Div.j0 (k + 2 + 1) _ (intB p.num) (natB p.den) (intB q.num) (natB q.den) = _
  simp only [Pz.r3_Div.j0]
  rw [if_neg (by decide), qMulN (by omega) (by omega), Option.bind_some, qNMul (by omega) (by omega), Option.bind_some, mk_f (by omega) (by omega), Option.bind_some]
  by_cases h : q = 0
  ·subst h
   rw [if_pos (by rw [show (0 : Rat).num = 0 from rfl, Int.mul_zero]), if_neg (by decide)]
   rfl
  ·have hn := num_ne h
   rw [if_neg (Int.mul_ne_zero (den_ne p) hn), if_pos (decide_eq_true h), div_parts]
 ·rw [(Bool.not_eq_true _).mp hm]
  by_cases h : mayR x = true
  ·rw [if_pos h, r3may_f (by omega) (by omega), Option.bind_some, show mayR (y.1, y.2) = false from r3two hm h]
   show Pz.r3_Div.j0 (k + 2 + 1) _ _ _ _ _ = _
   simp only [Pz.r3_Div.j0]
   rfl
  ·rw [if_neg h]
   show Pz.r3_Div.j0 (k + 2 + 1) _ _ _ _ _ = _
   simp only [Pz.r3_Div.j0]
   rfl
theorem r3split_f {x : BB} (hx : smR x = true) (k : Nat) : Pz.r3_Split.f (k + 2) x.1 x.2 = some (rsplitS x) := by
 have h0 := smR_le hx
 unfold Pz.r3_Split.f rsplitS
 rw [r3may_f (by omega) (by omega), Option.bind_some]
 by_cases h : mayR x = true
 ·obtain ⟨q, rfl⟩ := of_mayR h
  have h1 := sm_rT' hx
  rw [if_pos h, if_pos h, ratR_rT]
  have s1 := szI_mod q.num (den_ne q)
  rw [szI_nat] at s1
  have e : r2_Div.f (intB q.num) (natB q.den) = some (intB (q.num / (q.den : Int)), intB (q.num % (q.den : Int)), true) := by
   rw [← intB_nat]
   exact qDiv (by omega) (by rw [szI_nat]; omega) (den_ne q)
  show ((r2_Div.f (intB q.num) (natB q.den)).bind fun t => ((Pz.r3_Make.f (k + 2) t.2.1 (natB q.den)).bind fun z => some (t.1, z.1, z.2.1))) = _
  rw [e, Option.bind_some, mk_nf q.den_nz (by omega) (by omega), Option.bind_some, split_parts, Rat.floor_def]
 ·rw [if_neg h, if_neg h]
  rfl
theorem szI_64 {n : Int} (h0 : -9223372036854775808 ≤ n) (h1 : n ≤ 9223372036854775807) : szI n ≤ 21 := by
 have h := szI_le n
 have h2 : sz n.natAbs ≤ 20 := sz_le (by omega) (by omega)
 omega
theorem r3one_f (a b : Int) (h0 : -9223372036854775808 ≤ a) (h1 : a ≤ 9223372036854775807) (h2 : -9223372036854775808 ≤ b) (h3 : b ≤ 9223372036854775807) (k : Nat) : Pz.r3_One.f (k + 2) a b = some (if b = 0 then no2 else rT (Rat.divInt a b)) := by
 unfold Pz.r3_One.f r2_Of.f
 have s1 := szI_64 h0 h1
 have s2 := szI_64 h2 h3
 rw [if_pos ⟨h0, h1⟩, Option.bind_some, if_pos ⟨h2, h3⟩, Option.bind_some, mk_f (by omega) (by omega), Option.bind_some]
 by_cases h : b = 0
 ·rw [if_pos h, if_pos h]
  rfl
 ·rw [if_neg h, if_neg h]
def shortR (x : Pz.S23) : Bool := decide (x.f0.size ≤ 100) && decide (x.f1.size ≤ 100)
theorem r3short_loop (l : List Pz.S23) (hl : l.length ≤ 50000) : ∀ (d i k : Nat), i + d = l.length → d + 1 ≤ k → Pz.r3_Short.l0 k l (i : Int) = some ((l.drop i).all shortR)
 | 0, i, k, hi, hk => by
  obtain ⟨k, rfl⟩ : ∃ m, k = m + 1 := ⟨k - 1, by omega⟩
  simp only [Pz.r3_Short.l0]
  rw [if_neg (by omega), List.drop_of_length_le (by omega)]
  rfl
 | d + 1, i, k, hi, hk => by
  obtain ⟨k, rfl⟩ : ∃ m, k = m + 1 := ⟨k - 1, by omega⟩
  have hlt : i < l.length := by omega
  have e : Pz.rd_T23 l (i : Int) = l[i] := by
   unfold Pz.rd_T23
   rw [Int.toNat_natCast, List.getD_eq_getElem?_getD, List.getElem?_eq_getElem hlt]
   rfl
  simp only [Pz.r3_Short.l0]
  rw [if_pos (by omega), if_pos (by omega), e, List.drop_eq_getElem_cons hlt, List.all_cons, w64 (by omega) (by omega)]
  have ih := r3short_loop l hl d (i + 1) k (by omega) (by omega)
  unfold shortR at ih ⊢
  by_cases h1 : (l[i]).f0.size ≤ 100
  ·rw [if_neg (by omega), decide_eq_true h1]
   by_cases h2 : (l[i]).f1.size ≤ 100
   ·rw [if_neg (by omega), decide_eq_true h2]
    exact ih
   ·rw [if_pos (by omega), decide_eq_false h2]
    rfl
  ·rw [if_pos (by omega), decide_eq_false h1]
   rfl
theorem r3short_f (l : List Pz.S23) (hl : l.length ≤ 50000) (k : Nat) (hk : l.length + 1 ≤ k) : Pz.r3_Short.f k l = some (l.all shortR) := r3short_loop l hl l.length 0 k (by omega) hk
def r3_Short.f (l0 : List Pz.S23) : Option Bool := if l0.length ≤ 50000 then some (l0.all shortR) else none
theorem r3_Short.calls (A0 : Option Addr) (c0 : Nat) (l0 : List Pz.S23) (r : Bool) (w : World) (hr0 : Kd.C Pz.k23 w A0 l0.length l0) (hc0 : l0.length ≤ c0) (h : r3_Short.f l0 = some r) :
  Calls Tryz.prog 9 #[.slice A0 l0.length c0] w fun e w' => e = .returned (.bool r) ∧ Below w.heap.size w w' := by
 unfold r3_Short.f at h
 split at h
 ·rename_i hp
  rw [← r3short_f l0 hp _ (Nat.le_refl _)] at h
  exact (Pz.r3_Short.calls _ A0 c0 l0 r w hr0 hc0 h).mono fun e w' ⟨he, hw⟩ => ⟨he, drawn_below hw⟩
 ·cases h
def r3_One.f (a0 a1 : Int) : Option BB := if (-9223372036854775808 ≤ a0 ∧ a0 ≤ 9223372036854775807) ∧ -9223372036854775808 ≤ a1 ∧ a1 ≤ 9223372036854775807 then some (if a1 = 0 then no2 else rT (Rat.divInt a0 a1)) else none
theorem r3_One.calls (a0 a1 : Int) (r1 r2 : ByteArray) (w : World) (h : r3_One.f a0 a1 = some (r1, r2)) :
  Calls Tryz.prog 27 #[.int .i64 a0, .int .i64 a1] w fun e w' => e = .returned (.agg #[.string r1, .string r2]) ∧ Below w.heap.size w w' := by
 unfold r3_One.f at h
 split at h
 ·rename_i hp
  rw [← r3one_f a0 a1 hp.1.1 hp.1.2 hp.2.1 hp.2.2 0] at h
  exact Pz.r3_One.calls _ a0 a1 r1 r2 w h
 ·cases h
end Go.Proofs.YtmfcpapfikbomaaGreatDoor
end

section
namespace Go.Proofs.YtmfcpapfikbomaaGreatDoor
def r3_May.f (a0_0 a0_1 : ByteArray) : Option (Bool) := if smR (a0_0, a0_1) = true then some (mayR (a0_0, a0_1)) else none
theorem r3_May.calls (a0_0 a0_1 : ByteArray) (r : Bool) (w : World) (h : r3_May.f a0_0 a0_1 = some r) :
  Calls Tryz.prog 22 #[.agg #[.string a0_0, .string a0_1]] w fun e w' => e = .returned (.bool r) ∧ Below w.heap.size w w' := by
 unfold r3_May.f at h
 split at h
 ·rename_i hp
  have hs := smR_le hp
  rw [← r3may_f (a := a0_0) (b := a0_1) (Nat.le_trans hs.1 (by decide)) (Nat.le_trans hs.2 (by decide))] at h
  exact Pz.r3_May.calls a0_0 a0_1 r w h
 ·cases h
def r3_Make.f (a0 a1 : ByteArray) : Option (ByteArray × ByteArray × Bool) := if smR (a0, a1) = true then some ((rmakeS a0 a1).1.1, (rmakeS a0 a1).1.2, (rmakeS a0 a1).2) else none
theorem r3_Make.calls (a0 a1 : ByteArray) (r1 : ByteArray) (r2 : ByteArray) (r3 : Bool) (w : World) (h : r3_Make.f a0 a1 = some (r1, r2, r3)) :
  Calls Tryz.prog 40 #[.string a0, .string a1] w fun e w' => e = .returned (.tuple #[.agg #[.string r1, .string r2], .bool r3]) ∧ Below w.heap.size w w' := by
 unfold r3_Make.f at h
 split at h
 ·rename_i hp
  have hs := smR_le hp
  rw [← r3make_f2 (a := a0) (b := a1) (Nat.le_trans hs.1 (by decide)) (Nat.le_trans hs.2 (by decide)) 0] at h
  exact Pz.r3_Make.calls _ a0 a1 r1 r2 r3 w h
 ·cases h
def r3_Sign.f (a0_0 a0_1 : ByteArray) : Option (Int) := if smR (a0_0, a0_1) = true then some (rsignS (a0_0, a0_1)) else none
theorem r3_Sign.calls (a0_0 a0_1 : ByteArray) (r : Int) (w : World) (h : r3_Sign.f a0_0 a0_1 = some r) :
  Calls Tryz.prog 18 #[.agg #[.string a0_0, .string a0_1]] w fun e w' => e = .returned (.int .i64 r) ∧ Below w.heap.size w w' := by
 unfold r3_Sign.f at h
 split at h
 ·rename_i hp
  have hs := smR_le hp
  rw [← r3sign_f (x := (a0_0, a0_1)) (Nat.le_trans hs.1 (by decide)) (Nat.le_trans hs.2 (by decide))] at h
  exact Pz.r3_Sign.calls a0_0 a0_1 r w h
 ·cases h
def r3_Neg.f (a0_0 a0_1 : ByteArray) : Option (ByteArray × ByteArray) := if smR (a0_0, a0_1) = true then some (rnegS (a0_0, a0_1)) else none
theorem r3_Neg.calls (a0_0 a0_1 : ByteArray) (r1 : ByteArray) (r2 : ByteArray) (w : World) (h : r3_Neg.f a0_0 a0_1 = some (r1, r2)) :
  Calls Tryz.prog 21 #[.agg #[.string a0_0, .string a0_1]] w fun e w' => e = .returned (.agg #[.string r1, .string r2]) ∧ Below w.heap.size w w' := by
 unfold r3_Neg.f at h
 split at h
 ·rename_i hp
  have hs := smR_le hp
  rw [← r3neg_f (x := (a0_0, a0_1)) (Nat.le_trans hs.1 (by decide)) (Nat.le_trans hs.2 (by decide))] at h
  exact Pz.r3_Neg.calls a0_0 a0_1 r1 r2 w h
 ·cases h
def r3_Cmp.f (a0_0 a0_1 a1_0 a1_1 : ByteArray) : Option (Int) := if smR2 (a0_0, a0_1) (a1_0, a1_1) = true then some (rcmpS (a0_0, a0_1) (a1_0, a1_1)) else none
theorem r3_Cmp.calls (a0_0 a0_1 a1_0 a1_1 : ByteArray) (r : Int) (w : World) (h : r3_Cmp.f a0_0 a0_1 a1_0 a1_1 = some r) :
  Calls Tryz.prog 23 #[.agg #[.string a0_0, .string a0_1], .agg #[.string a1_0, .string a1_1]] w fun e w' => e = .returned (.int .i64 r) ∧ Below w.heap.size w w' := by
 unfold r3_Cmp.f at h
 split at h
 ·rename_i hp
  have hs := smR2_le hp
  rw [← r3cmp_f (x := (a0_0, a0_1)) (y := (a1_0, a1_1)) hs.1 hs.2.2 0] at h
  exact Pz.r3_Cmp.calls _ a0_0 a0_1 a1_0 a1_1 r w h
 ·cases h
def r3_Add.f (a0_0 a0_1 a1_0 a1_1 : ByteArray) : Option (ByteArray × ByteArray) := if smR2 (a0_0, a0_1) (a1_0, a1_1) = true then some (raddS (a0_0, a0_1) (a1_0, a1_1)) else none
theorem r3_Add.calls (a0_0 a0_1 a1_0 a1_1 : ByteArray) (r1 : ByteArray) (r2 : ByteArray) (w : World) (h : r3_Add.f a0_0 a0_1 a1_0 a1_1 = some (r1, r2)) :
  Calls Tryz.prog 24 #[.agg #[.string a0_0, .string a0_1], .agg #[.string a1_0, .string a1_1]] w fun e w' => e = .returned (.agg #[.string r1, .string r2]) ∧ Below w.heap.size w w' := by
 unfold r3_Add.f at h
 split at h
 ·rename_i hp
  have hs := smR2_le hp
  rw [← r3add_f (x := (a0_0, a0_1)) (y := (a1_0, a1_1)) hs.1 hs.2.1 0] at h
  exact Pz.r3_Add.calls _ a0_0 a0_1 a1_0 a1_1 r1 r2 w h
 ·cases h
def r3_Sub.f (a0_0 a0_1 a1_0 a1_1 : ByteArray) : Option (ByteArray × ByteArray) := if smR2 (a0_0, a0_1) (a1_0, a1_1) = true then some (rsubS (a0_0, a0_1) (a1_0, a1_1)) else none
theorem r3_Sub.calls (a0_0 a0_1 a1_0 a1_1 : ByteArray) (r1 : ByteArray) (r2 : ByteArray) (w : World) (h : r3_Sub.f a0_0 a0_1 a1_0 a1_1 = some (r1, r2)) :
  Calls Tryz.prog 20 #[.agg #[.string a0_0, .string a0_1], .agg #[.string a1_0, .string a1_1]] w fun e w' => e = .returned (.agg #[.string r1, .string r2]) ∧ Below w.heap.size w w' := by
 unfold r3_Sub.f at h
 split at h
 ·rename_i hp
  have hs := smR2_le hp
  rw [← r3sub_f (x := (a0_0, a0_1)) (y := (a1_0, a1_1)) hs.1 hs.2.2 0] at h
  exact Pz.r3_Sub.calls _ a0_0 a0_1 a1_0 a1_1 r1 r2 w h
 ·cases h
def r3_Mul.f (a0_0 a0_1 a1_0 a1_1 : ByteArray) : Option (ByteArray × ByteArray) := if smR2 (a0_0, a0_1) (a1_0, a1_1) = true then some (rmulS (a0_0, a0_1) (a1_0, a1_1)) else none
theorem r3_Mul.calls (a0_0 a0_1 a1_0 a1_1 : ByteArray) (r1 : ByteArray) (r2 : ByteArray) (w : World) (h : r3_Mul.f a0_0 a0_1 a1_0 a1_1 = some (r1, r2)) :
  Calls Tryz.prog 25 #[.agg #[.string a0_0, .string a0_1], .agg #[.string a1_0, .string a1_1]] w fun e w' => e = .returned (.agg #[.string r1, .string r2]) ∧ Below w.heap.size w w' := by
 unfold r3_Mul.f at h
 split at h
 ·rename_i hp
  have hs := smR2_le hp
  rw [← r3mul_f (x := (a0_0, a0_1)) (y := (a1_0, a1_1)) hs.1 hs.2.1 0] at h
  exact Pz.r3_Mul.calls _ a0_0 a0_1 a1_0 a1_1 r1 r2 w h
 ·cases h
def r3_Div.f (a0_0 a0_1 a1_0 a1_1 : ByteArray) : Option (ByteArray × ByteArray × Bool) := if smR2 (a0_0, a0_1) (a1_0, a1_1) = true then some ((rdivS (a0_0, a0_1) (a1_0, a1_1)).1.1, (rdivS (a0_0, a0_1) (a1_0, a1_1)).1.2, (rdivS (a0_0, a0_1) (a1_0, a1_1)).2) else none
theorem r3_Div.calls (a0_0 a0_1 a1_0 a1_1 : ByteArray) (r1 : ByteArray) (r2 : ByteArray) (r3 : Bool) (w : World) (h : r3_Div.f a0_0 a0_1 a1_0 a1_1 = some (r1, r2, r3)) :
  Calls Tryz.prog 19 #[.agg #[.string a0_0, .string a0_1], .agg #[.string a1_0, .string a1_1]] w fun e w' => e = .returned (.tuple #[.agg #[.string r1, .string r2], .bool r3]) ∧ Below w.heap.size w w' := by
 unfold r3_Div.f at h
 split at h
 ·rename_i hp
  have hs := smR2_le hp
  rw [← r3div_f (x := (a0_0, a0_1)) (y := (a1_0, a1_1)) hs.1 hs.2.1 0] at h
  exact Pz.r3_Div.calls _ a0_0 a0_1 a1_0 a1_1 r1 r2 r3 w h
 ·cases h
def r3_Split.f (a0_0 a0_1 : ByteArray) : Option (ByteArray × ByteArray × ByteArray) := if smR (a0_0, a0_1) = true then some (rsplitS (a0_0, a0_1)) else none
theorem r3_Split.calls (a0_0 a0_1 : ByteArray) (r1 : ByteArray) (r2 : ByteArray) (r3 : ByteArray) (w : World) (h : r3_Split.f a0_0 a0_1 = some (r1, r2, r3)) :
  Calls Tryz.prog 32 #[.agg #[.string a0_0, .string a0_1]] w fun e w' => e = .returned (.tuple #[.string r1, .agg #[.string r2, .string r3]]) ∧ Below w.heap.size w w' := by
 unfold r3_Split.f at h
 split at h
 ·rename_i hp
  rw [← r3split_f (x := (a0_0, a0_1)) hp 0] at h
  exact Pz.r3_Split.calls _ a0_0 a0_1 r1 r2 r3 w h
 ·cases h
end Go.Proofs.YtmfcpapfikbomaaGreatDoor
end

section
namespace Go.Proofs.YtmfcpapfikbomaaGreatDoor
theorem szR_small {n : Int} (h0 : -9223372036854775808 ≤ n) (h1 : n ≤ 9223372036854775807) : szR (n : Rat) ≤ 22 := by
 have h := szI_64 h0 h1
 rw [szR_int]
 omega
theorem smR_rT {q : Rat} (h : szR q ≤ 3999) : smR (rT q) = true := decide_eq_true ⟨Nat.le_trans (le_szR_num q) (by omega), Nat.le_trans (le_szR_den q) (by omega)⟩
theorem smR2_rT {p q : Rat} (hp : szR p ≤ 3999) (hq : szR q ≤ 3999) : smR2 (rT p) (rT q) = true := by
 unfold smR2
 rw [smR_rT hp, Bool.true_and]
 exact decide_eq_true ⟨Nat.le_trans (le_szR_num q) hq, Nat.le_trans (le_szR_den q) hq⟩
theorem hAdd {p q : Rat} (hp : szR p ≤ 3999) (hq : szR q ≤ 3999) : rat_Add.f (rT p).1 (rT p).2 (rT q).1 (rT q).2 = some (rT (p + q)) := by
 unfold rat_Add.f raddS
 rw [if_pos (smR2_rT hp hq), if_pos (may2R_rT p q), ratR_rT, ratR_rT]
theorem hMul {p q : Rat} (hp : szR p ≤ 3999) (hq : szR q ≤ 3999) : rat_Mul.f (rT p).1 (rT p).2 (rT q).1 (rT q).2 = some (rT (p * q)) := by
 unfold rat_Mul.f rmulS
 rw [if_pos (smR2_rT hp hq), if_pos (may2R_rT p q), ratR_rT, ratR_rT]
theorem hCmp {p q : Rat} (hp : szR p ≤ 3999) (hq : szR q ≤ 3999) : rat_Cmp.f (rT p).1 (rT p).2 (rT q).1 (rT q).2 = some (cmpQ p q) := by
 unfold rat_Cmp.f rcmpS
 rw [if_pos (smR2_rT hp hq), if_pos (may2R_rT p q), ratR_rT, ratR_rT]
theorem hDiv {p q : Rat} (hp : szR p ≤ 3999) (hq : szR q ≤ 3999) (h : q ≠ 0) : rat_Div.f (rT p).1 (rT p).2 (rT q).1 (rT q).2 = some ((rT (p / q)).1, (rT (p / q)).2, true) := by
 unfold rat_Div.f rdivS
 rw [if_pos (smR2_rT hp hq), may2R_rT p q, Bool.true_and, ratR_rT, ratR_rT, if_pos (decide_eq_true h)]
theorem hSign {p : Rat} (hp : szR p ≤ 3999) : rat_Sign.f (rT p).1 (rT p).2 = some (cmpQ p 0) := by
 unfold rat_Sign.f rsignS
 rw [if_pos (smR_rT hp), if_pos (mayR_rT p), ratR_rT]
theorem hSplit {p : Rat} (hp : szR p ≤ 3999) : rat_Split.f (rT p).1 (rT p).2 = some (intB p.floor, (rT (p - (p.floor : Rat))).1, (rT (p - (p.floor : Rat))).2) := by
 unfold rat_Split.f rsplitS
 rw [if_pos (smR_rT hp), if_pos (mayR_rT p), ratR_rT]
theorem hMake {x y : Int} (hx : szI x ≤ 4000) (hy : szI y ≤ 4000) (h : y ≠ 0) : rat_Make.f (intB x) (intB y) = some ((rT (Rat.divInt x y)).1, (rT (Rat.divInt x y)).2, true) := by
 unfold rat_Make.f rmakeS
 rw [if_pos (show smR (intB x, intB y) = true from decide_eq_true ⟨hx, hy⟩), may2W_int' x y, Bool.true_and, numW_int, numW_int, if_pos (decide_eq_true h)]
theorem divInt_one (x : Int) : Rat.divInt x 1 = (x : Rat) := by
 have h := Rat.num_divInt_den (x : Rat)
 rw [Rat.num_intCast, Rat.den_intCast] at h
 exact h
theorem hMake1 {x : Int} (hx : szI x ≤ 4000) : rat_Make.f (intB x) ⟨#[49]⟩ = some ((rT (x : Rat)).1, (rT (x : Rat)).2, true) := by
 have e : (⟨#[49]⟩ : ByteArray) = intB 1 := by rw [← natB_one]; exact (intB_nat 1).symm
 rw [e, hMake hx (Nat.le_trans (szI_64 (by decide) (by decide)) (by decide)) (by decide), divInt_one]
theorem hOf {n : Int} (h0 : -9223372036854775808 ≤ n) (h1 : n ≤ 9223372036854775807) : rat_Of.f n = some (rT (n : Rat)) := by
 unfold rat_Of.f
 rw [if_pos ⟨h0, h1⟩]
theorem rT_beq (p q : Rat) : ((rT p).1.toList == (rT q).1.toList && ((rT p).2.toList == (rT q).2.toList)) = decide (p = q) := by
 rw [Bool.eq_iff_iff, Bool.and_eq_true, beq_iff_eq, beq_iff_eq, toList_inj, toList_inj, decide_eq_true_eq, ← rT_inj, Prod.ext_iff]
theorem cmpQ_cases (x y : Rat) : (x < y ∧ ¬ y < x ∧ x ≠ y ∧ cmpQ x y = -1) ∨ (x = y ∧ ¬ x < y ∧ ¬ y < x ∧ cmpQ x y = 0) ∨ (y < x ∧ ¬ x < y ∧ x ≠ y ∧ cmpQ x y = 1) := by
 have h : (x < y ∧ ¬ y < x ∧ x ≠ y) ∨ (x = y ∧ ¬ y < x ∧ ¬ x < y) ∨ (y < x ∧ ¬ x < y ∧ x ≠ y) := by grind
 unfold cmpQ
 rcases h with ⟨h1, h2, h3⟩ | ⟨h1, h2, h3⟩ | ⟨h1, h2, h3⟩
 ·exact .inl ⟨h1, h2, h3, if_pos h1⟩
 ·exact .inr (.inl ⟨h1, h3, h2, by rw [if_neg h3, if_neg h2]⟩)
 ·exact .inr (.inr ⟨h1, h2, h3, by rw [if_neg h2, if_pos h1]⟩)
end Go.Proofs.YtmfcpapfikbomaaGreatDoor
end

section
namespace Go.Proofs.YtmfcpapfikbomaaGreatDoor
theorem r3of_f (n : Int) (h0 : -9223372036854775808 ≤ n) (h1 : n ≤ 9223372036854775807) : Pz.r3_Of.f n = some (rT (n : Rat)) := by
 unfold Pz.r3_Of.f r2_Of.f
 rw [if_pos ⟨h0, h1⟩, Option.bind_some, ← natB_one]
 rfl
def r3_Of.f (a0 : Int) : Option (ByteArray × ByteArray) := if -9223372036854775808 ≤ a0 ∧ a0 ≤ 9223372036854775807 then some (rT (a0 : Rat)) else none
theorem r3_Of.calls (a0 : Int) (r1 : ByteArray) (r2 : ByteArray) (w : World) (h : r3_Of.f a0 = some (r1, r2)) :
  Calls Tryz.prog 26 #[.int .i64 a0] w fun e w' => e = .returned (.agg #[.string r1, .string r2]) ∧ Below w.heap.size w w' := by
 unfold r3_Of.f at h
 split at h
 ·rename_i hp
  rw [← r3of_f a0 hp.1 hp.2] at h
  exact Pz.r3_Of.calls a0 r1 r2 w h
 ·cases h
end Go.Proofs.YtmfcpapfikbomaaGreatDoor
end

section
namespace Go.Proofs.YtmfcpapfikbomaaGreatDoor
theorem kSub {p q : Rat} (hp : szR p ≤ 3999) (hq : szR q ≤ 3999) : r3_Sub.f (rT p).1 (rT p).2 (rT q).1 (rT q).2 = some (rT (p - q)) := by
 unfold r3_Sub.f rsubS
 rw [if_pos (smR2_rT hp hq), if_pos (may2R_rT p q), ratR_rT, ratR_rT]
theorem kMul {p q : Rat} (hp : szR p ≤ 3999) (hq : szR q ≤ 3999) : r3_Mul.f (rT p).1 (rT p).2 (rT q).1 (rT q).2 = some (rT (p * q)) := by
 unfold r3_Mul.f rmulS
 rw [if_pos (smR2_rT hp hq), if_pos (may2R_rT p q), ratR_rT, ratR_rT]
theorem kCmp {p q : Rat} (hp : szR p ≤ 3999) (hq : szR q ≤ 3999) : r3_Cmp.f (rT p).1 (rT p).2 (rT q).1 (rT q).2 = some (cmpQ p q) := by
 unfold r3_Cmp.f rcmpS
 rw [if_pos (smR2_rT hp hq), if_pos (may2R_rT p q), ratR_rT, ratR_rT]
theorem kDiv {p q : Rat} (hp : szR p ≤ 3999) (hq : szR q ≤ 3999) (h : q ≠ 0) : r3_Div.f (rT p).1 (rT p).2 (rT q).1 (rT q).2 = some ((rT (p / q)).1, (rT (p / q)).2, true) := by
 unfold r3_Div.f rdivS
 rw [if_pos (smR2_rT hp hq), may2R_rT p q, Bool.true_and, ratR_rT, ratR_rT, if_pos (decide_eq_true h)]
theorem kSign {p : Rat} (hp : szR p ≤ 3999) : r3_Sign.f (rT p).1 (rT p).2 = some (cmpQ p 0) := by
 unfold r3_Sign.f rsignS
 rw [if_pos (smR_rT hp), if_pos (mayR_rT p), ratR_rT]
end Go.Proofs.YtmfcpapfikbomaaGreatDoor
end

section
namespace Go.Proofs.YtmfcpapfikbomaaGreatDoor
def upQ (w : Int) (f : Rat) (mode : Int) : Bool :=
 if mode = 1 then decide (w < 0) && decide (0 < f) else if mode = 2 then (decide (1 < f + f) || (decide (f + f = 1) && decide (w % 2 = 1))) else false
def gW (x : Rat) (mode : Int) : Int := if upQ x.floor (x - (x.floor : Rat)) mode = true then x.floor + 1 else x.floor
def gR (x g : Rat) (mode : Int) : Rat := (gW (x / g) mode : Rat) * g
theorem fl1 (x : Rat) : (x.floor : Rat) ≤ x := Rat.floor_le x
theorem fl2 (x : Rat) : x < (x.floor : Rat) + 1 := by
 have h := @Rat.lt_floor_add_one x
 exact_mod_cast h
theorem cast1 (n : Int) : ((n + 1 : Int) : Rat) = (n : Rat) + 1 := by rw [Rat.intCast_add]; rfl
theorem upQ_two (w : Int) (f : Rat) : upQ w f 2 = (decide (1 < f + f) || (decide (f + f = 1) && decide (w % 2 = 1))) := by
 unfold upQ
 rw [if_neg (by decide), if_pos rfl]
theorem gW_cases (x : Rat) (mode : Int) : (gW x mode = x.floor ∨ (gW x mode = x.floor + 1 ∧ 0 < x - (x.floor : Rat))) := by
 unfold gW upQ
 have h1 := fl1 x
 by_cases m1 : mode = 1
 ·simp only [m1, if_true, Bool.and_eq_true, decide_eq_true_eq]
  split
  ·rename_i h; exact .inr ⟨rfl, h.2⟩
  ·exact .inl rfl
 ·by_cases m2 : mode = 2
  ·subst m2
   have e := upQ_two x.floor (x - (x.floor : Rat))
   unfold upQ at e
   rw [e]
   split
   ·rename_i h
    refine .inr ⟨rfl, ?_⟩
    generalize x - (x.floor : Rat) = f at *
    simp only [Bool.or_eq_true, Bool.and_eq_true, decide_eq_true_eq] at h
    rcases h with h | h <;> grind
   ·exact .inl rfl
  ·rw [if_neg m1, if_neg m2]
   exact .inl rfl
end Go.Proofs.YtmfcpapfikbomaaGreatDoor
end

section
namespace Go.Proofs.YtmfcpapfikbomaaGreatDoor
def modeOk (m : Int) : Bool := decide (0 ≤ m ∧ m ≤ 2)
def gwholeS (x : BB) (m : Int) : ByteArray := if (mayR x && modeOk m) = true then intB (gW (ratR x) m) else noB
def groundS (x g : BB) (m : Int) : BB := if (may2R x g && (modeOk m && decide (0 < ratR g))) = true then rT (gR (ratR x) (ratR g) m) else no2
def centQ : Rat := Rat.divInt 1 100
def smG (x : BB) : Bool := decide (x.1.size + x.2.size ≤ 900)
def smG2 (x y : BB) : Bool := smG x && smG y
theorem smR_of {x : BB} (h : x.1.size + x.2.size ≤ 3900) : smR x = true := decide_eq_true ⟨Nat.le_trans (Nat.le_add_right _ x.2.size) (by omega), Nat.le_trans (Nat.le_add_left _ x.1.size) (by omega)⟩
theorem smR2_of {x y : BB} (h : x.1.size + x.2.size ≤ 3900) (h2 : y.1.size + y.2.size ≤ 3900) : smR2 x y = true := by
 unfold smR2
 rw [smR_of h, Bool.true_and]
 exact decide_eq_true ⟨Nat.le_trans (Nat.le_add_right _ y.2.size) (by omega), Nat.le_trans (Nat.le_add_left _ y.1.size) (by omega)⟩
theorem szI_one : szI 1 = 1 := by
 have h : szI ((1 : Nat) : Int) = sz 1 := szI_nat 1
 rw [show (1 : Int) = ((1 : Nat) : Int) from rfl, h]
 exact Nat.le_antisymm (sz_le (by omega) (by omega)) (sz_pos 1)
theorem szI_gW (x : Rat) (m : Int) : szI (gW x m) ≤ szR x + 6 := by
 have h := szI_floor x
 rcases gW_cases x m with e | ⟨e, _⟩
 ·rw [e]; omega
 ·rw [e]
  have h1 := szI_add x.floor 1
  rw [szI_one] at h1
  omega
theorem cmpQ_cases' (x y : Rat) : (x < y ∧ cmpQ x y = -1) ∨ (x = y ∧ cmpQ x y = 0) ∨ (y < x ∧ cmpQ x y = 1) := by
 have h : (x < y ∧ ¬ y < x) ∨ (x = y ∧ ¬ y < x ∧ ¬ x < y) ∨ (y < x ∧ ¬ x < y) := by grind
 unfold cmpQ
 rcases h with ⟨h1, h2⟩ | ⟨h1, h2, h3⟩ | ⟨h1, h2⟩
 ·exact .inl ⟨h1, if_pos h1⟩
 ·exact .inr (.inl ⟨h1, by rw [if_neg h3, if_neg h2]⟩)
 ·exact .inr (.inr ⟨h1, by rw [if_neg h2, if_pos h1]⟩)
theorem cmpQ_le (x y : Rat) : cmpQ x y ≤ 0 ↔ x ≤ y := by
 rcases cmpQ_cases' x y with ⟨h1, h4⟩ | ⟨h1, h4⟩ | ⟨h1, h4⟩ <;> rw [h4]
 ·exact ⟨fun _ => Rat.le_of_lt h1, fun _ => by decide⟩
 ·exact ⟨fun _ => by rw [h1]; exact Rat.le_refl, fun _ => by decide⟩
 ·exact ⟨fun h => absurd h (by decide), fun h => absurd h1 (Rat.not_lt.2 h)⟩
theorem cmpQ_lt (x y : Rat) : cmpQ x y < 0 ↔ x < y := by
 rcases cmpQ_cases' x y with ⟨h1, h4⟩ | ⟨h1, h4⟩ | ⟨h1, h4⟩ <;> rw [h4]
 ·exact ⟨fun _ => h1, fun _ => by decide⟩
 ·exact ⟨fun h => absurd h (by decide), fun h => by rw [h1] at h; exact absurd h Rat.lt_irrefl⟩
 ·exact ⟨fun h => absurd h (by decide), fun h => absurd (Rat.le_of_lt h1) (Rat.not_le.2 h)⟩
theorem cmpQ_gt (x y : Rat) : cmpQ x y > 0 ↔ y < x := by
 rcases cmpQ_cases' x y with ⟨h1, h4⟩ | ⟨h1, h4⟩ | ⟨h1, h4⟩ <;> rw [h4]
 ·exact ⟨fun h => absurd h (by decide), fun h => absurd (Rat.le_of_lt h1) (Rat.not_le.2 h)⟩
 ·exact ⟨fun h => absurd h (by decide), fun h => by rw [h1] at h; exact absurd h Rat.lt_irrefl⟩
 ·exact ⟨fun _ => h1, fun _ => by decide⟩
theorem castlt {a b : Int} : (a : Rat) < (b : Rat) ↔ a < b := Rat.intCast_lt_intCast
theorem castle {a b : Int} : (a : Rat) ≤ (b : Rat) ↔ a ≤ b := Rat.intCast_le_intCast
end Go.Proofs.YtmfcpapfikbomaaGreatDoor
end

section
namespace Go.Proofs.YtmfcpapfikbomaaGreatDoor.Pg
def errW : Option Int → Value
 | none => .nilIface
 | some c => .iface 0 (.int .i64 c)
theorem errW_none : errW none = .nilIface := rfl
theorem errW_some (c : Int) : errW (some c) = .iface 0 (.int .i64 c) := rfl
end Go.Proofs.YtmfcpapfikbomaaGreatDoor.Pg
end

section
namespace Go.Proofs.YtmfcpapfikbomaaGreatDoor.Pg
def grid_up.f (a0 : ByteArray) (a1_0 : ByteArray) (a1_1 : ByteArray) (a2 : Int) : Option (Bool) := if a2 = 1 then ((whole_Sign.f a0).bind fun t102 => (if t102 < 0 then ((rat_Sign.f a1_0 a1_1).bind fun t103 => (some (decide (t103 > 0)))) else (some false))) else (if a2 = 2 then ((rat_Add.f a1_0 a1_1 a1_0 a1_1).bind fun bt104 => ((rat_Of.f 1).bind fun bt106 => ((rat_Cmp.f bt104.1 bt104.2 bt106.1 bt106.2).bind fun t108 => ((whole_Div.f a0 (⟨#[50]⟩ : ByteArray)).bind fun bt109 => (if t108 > 0 then (some true) else (if t108 = 0 then (some (bt109.2.1.toList == ([49] : List UInt8))) else (some false))))))) else (some false))
set_option maxHeartbeats 8000000 in
set_option maxRecDepth 100000 in
theorem grid_up.calls (a0 : ByteArray) (a1_0 : ByteArray) (a1_1 : ByteArray) (a2 : Int) (r : Bool) (w : World) (hL_ : Laid w) (h : grid_up.f a0 a1_0 a1_1 a2 = some r) :
  Calls Tryz.prog 30 #[.string a0, .agg #[.string a1_0, .string a1_1], .int .i64 a2] w fun e w' => e = .returned (.bool r) ∧ Below w.heap.size w w' := by
 have hu23 := Tryz.underlying23; have HLD := Aside0.mk hL_; clear hL_; have HB := Aside0.mk (Below.refl w.heap.size w); have H := h; unfold grid_up.f at H; clear h; by_cases c4 : a2 = 1
 ·rw [if_pos c4] at H; have c4b0 : (a2 == 1) = true := beq_iff_eq.mpr c4; have c4b1 : (a2 != 1) = false := bne_eq_false_iff_eq.mpr c4; clear c4; obtain ⟨t102, A5, H⟩ := bi_ H; by_cases c6 : t102 < 0
  ·rw [if_pos c6] at H; have c6b0 : decide (t102 < 0) = true := decide_eq_true c6; clear c6; obtain ⟨t103, A7, H⟩ := bi_ H; obtain rfl := Option.some.inj H; go_enter Tryz.func30, Tryz.ntmps30
   go_wp2_with (first | ((with_reducible refine gate_dst (N := 4) rfl ?_); refine be_ 4 #[.string a1_0, .string a1_1] 23 ?_; intro gb101 hg w8 hbox hb; have BK101 := Aside0.mk (hbox); have GW101 := ge_ HB hg; have GE101 := ge_ HB hg; replace HB := bs_ HB hb; clear hb hbox hg) | (refine gl_ 15 Tryz.func55 #[.string a0] ?_; refine mo_ (whole_Sign.calls a0 t102 _ A5.out) ?_; intro w9 hb; replace BK101 := kb_ BK101 hb; replace HB := bs_ HB hb; (try clear hb); (try clear hb2); (try clear hk); (try clear hi); have hcz10_0 := bc_ BK101 0 rfl; have hcz10_1 := bc_ BK101 1 rfl; have hfz10_0 := blk_frozen BK101.out 0; have hfz10_1 := blk_frozen BK101.out 1) | (go_at_call 35; (with_reducible refine (rat_Sign.calls a1_0 a1_1 t103 _ ?side1 A7.out).mono ?_); (case side1 => exact lb_ HLD HB); rintro e w11 ⟨rfl, hb⟩; replace BK101 := kb_ BK101 hb; replace HB := bs_ HB hb; (try clear hb); (try clear hb2); (try clear hk); (try clear hi)))
   go_ret
   exact ⟨er_, b_ HB.out⟩
  ·rw [if_neg c6] at H; have c6b0 : decide (t102 < 0) = false := decide_eq_false c6; clear c6; obtain rfl := Option.some.inj H; go_enter Tryz.func30, Tryz.ntmps30
   go_wp2_with (first | ((with_reducible refine gate_dst (N := 4) rfl ?_); refine be_ 4 #[.string a1_0, .string a1_1] 23 ?_; intro gb101 hg w12 hbox hb; have BK101 := Aside0.mk (hbox); have GW101 := ge_ HB hg; have GE101 := ge_ HB hg; replace HB := bs_ HB hb; clear hb hbox hg) | (refine gl_ 15 Tryz.func55 #[.string a0] ?_; refine mo_ (whole_Sign.calls a0 t102 _ A5.out) ?_; intro w13 hb; replace BK101 := kb_ BK101 hb; replace HB := bs_ HB hb; (try clear hb); (try clear hb2); (try clear hk); (try clear hi)))
   go_ret
   exact ⟨er_, b_ HB.out⟩
 ·rw [if_neg c4] at H; have c4b0 : (a2 == 1) = false := beq_eq_false_iff_ne.mpr c4; have c4b1 : (a2 != 1) = true := bne_iff_ne.mpr c4; by_cases c14 : a2 = 2
  ·rw [if_pos c14] at H; have c14b0 : (a2 == 2) = true := beq_iff_eq.mpr c14; have c14b1 : (a2 != 2) = false := bne_eq_false_iff_eq.mpr c14; clear c14; obtain ⟨⟨t104, t105⟩, A15, H⟩ := bi_ H; (try dsimp only at H); obtain ⟨⟨t106, t107⟩, A16, H⟩ := bi_ H; (try dsimp only at H); obtain ⟨t108, A17, H⟩ := bi_ H; obtain ⟨⟨t109, t110, t111⟩, A18, H⟩ := bi_ H; (try dsimp only at H); by_cases c19 : t108 > 0
   ·rw [if_pos c19] at H; have c19b0 : decide (0 < t108) = true := decide_eq_true c19; clear c19; obtain rfl := Option.some.inj H; go_enter Tryz.func30, Tryz.ntmps30
    go_wp2_with (first | ((with_reducible refine gate_dst (N := 4) rfl ?_); refine be_ 4 #[.string a1_0, .string a1_1] 23 ?_; intro gb101 hg w20 hbox hb; have BK101 := Aside0.mk (hbox); have GW101 := ge_ HB hg; have GE101 := ge_ HB hg; replace HB := bs_ HB hb; clear hb hbox hg; have hcz21_0 := bc_ BK101 0 rfl; have hcz21_1 := bc_ BK101 1 rfl; have hfz21_0 := blk_frozen BK101.out 0; have hfz21_1 := blk_frozen BK101.out 1) | (refine gl_ 26 Tryz.func57 #[.agg #[.string a1_0, .string a1_1], .agg #[.string a1_0, .string a1_1]] ?_; refine mo_ (rat_Add.calls a1_0 a1_1 a1_0 a1_1 t104 t105 _ (lb_ HLD HB) A15.out) ?_; intro w22 hb; replace BK101 := kb_ BK101 hb; replace HB := bs_ HB hb; (try clear hb); (try clear hb2); (try clear hk); (try clear hi)) | (refine gl_ 27 Tryz.func58 #[.int .i64 1] ?_; refine mo_ (rat_Of.calls 1 t106 t107 _ (lb_ HLD HB) A16.out) ?_; intro w23 hb; replace BK101 := kb_ BK101 hb; replace HB := bs_ HB hb; (try clear hb); (try clear hb2); (try clear hk); (try clear hi)) | (refine gl_ 28 Tryz.func56 #[.agg #[.string t104, .string t105], .agg #[.string t106, .string t107]] ?_; refine mo_ (rat_Cmp.calls t104 t105 t106 t107 t108 _ (lb_ HLD HB) A17.out) ?_; intro w24 hb; replace BK101 := kb_ BK101 hb; replace HB := bs_ HB hb; (try clear hb); (try clear hb2); (try clear hk); (try clear hi)) | (refine gl_ 31 Tryz.func53 #[.string a0, .string (⟨#[50]⟩ : ByteArray)] ?_; refine mo_ (whole_Div.calls a0 (⟨#[50]⟩ : ByteArray) t109 t110 t111 _ (lb_ HLD HB) A18.out) ?_; intro w25 hb; replace BK101 := kb_ BK101 hb; replace HB := bs_ HB hb; (try clear hb); (try clear hb2); (try clear hk); (try clear hi)))
    go_ret
    exact ⟨er_, b_ HB.out⟩
   ·rw [if_neg c19] at H; have c19b0 : decide (0 < t108) = false := decide_eq_false c19; clear c19; by_cases c26 : t108 = 0
    ·rw [if_pos c26] at H; have c26b0 : (t108 == 0) = true := beq_iff_eq.mpr c26; have c26b1 : (t108 != 0) = false := bne_eq_false_iff_eq.mpr c26; clear c26; obtain rfl := Option.some.inj H; go_enter Tryz.func30, Tryz.ntmps30
     go_wp2_with (first | ((with_reducible refine gate_dst (N := 4) rfl ?_); refine be_ 4 #[.string a1_0, .string a1_1] 23 ?_; intro gb101 hg w27 hbox hb; have BK101 := Aside0.mk (hbox); have GW101 := ge_ HB hg; have GE101 := ge_ HB hg; replace HB := bs_ HB hb; clear hb hbox hg; have hcz28_0 := bc_ BK101 0 rfl; have hcz28_1 := bc_ BK101 1 rfl; have hfz28_0 := blk_frozen BK101.out 0; have hfz28_1 := blk_frozen BK101.out 1) | (refine gl_ 26 Tryz.func57 #[.agg #[.string a1_0, .string a1_1], .agg #[.string a1_0, .string a1_1]] ?_; refine mo_ (rat_Add.calls a1_0 a1_1 a1_0 a1_1 t104 t105 _ (lb_ HLD HB) A15.out) ?_; intro w29 hb; replace BK101 := kb_ BK101 hb; replace HB := bs_ HB hb; (try clear hb); (try clear hb2); (try clear hk); (try clear hi)) | (refine gl_ 27 Tryz.func58 #[.int .i64 1] ?_; refine mo_ (rat_Of.calls 1 t106 t107 _ (lb_ HLD HB) A16.out) ?_; intro w30 hb; replace BK101 := kb_ BK101 hb; replace HB := bs_ HB hb; (try clear hb); (try clear hb2); (try clear hk); (try clear hi)) | (refine gl_ 28 Tryz.func56 #[.agg #[.string t104, .string t105], .agg #[.string t106, .string t107]] ?_; refine mo_ (rat_Cmp.calls t104 t105 t106 t107 t108 _ (lb_ HLD HB) A17.out) ?_; intro w31 hb; replace BK101 := kb_ BK101 hb; replace HB := bs_ HB hb; (try clear hb); (try clear hb2); (try clear hk); (try clear hi)) | (refine gl_ 31 Tryz.func53 #[.string a0, .string (⟨#[50]⟩ : ByteArray)] ?_; refine mo_ (whole_Div.calls a0 (⟨#[50]⟩ : ByteArray) t109 t110 t111 _ (lb_ HLD HB) A18.out) ?_; intro w32 hb; replace BK101 := kb_ BK101 hb; replace HB := bs_ HB hb; (try clear hb); (try clear hb2); (try clear hk); (try clear hi)))
     go_ret
     exact ⟨er_, b_ HB.out⟩
    ·rw [if_neg c26] at H; have c26b0 : (t108 == 0) = false := beq_eq_false_iff_ne.mpr c26; have c26b1 : (t108 != 0) = true := bne_iff_ne.mpr c26; obtain rfl := Option.some.inj H; go_enter Tryz.func30, Tryz.ntmps30
     go_wp2_with (first | ((with_reducible refine gate_dst (N := 4) rfl ?_); refine be_ 4 #[.string a1_0, .string a1_1] 23 ?_; intro gb101 hg w33 hbox hb; have BK101 := Aside0.mk (hbox); have GW101 := ge_ HB hg; have GE101 := ge_ HB hg; replace HB := bs_ HB hb; clear hb hbox hg; have hcz34_0 := bc_ BK101 0 rfl; have hcz34_1 := bc_ BK101 1 rfl; have hfz34_0 := blk_frozen BK101.out 0; have hfz34_1 := blk_frozen BK101.out 1) | (refine gl_ 26 Tryz.func57 #[.agg #[.string a1_0, .string a1_1], .agg #[.string a1_0, .string a1_1]] ?_; refine mo_ (rat_Add.calls a1_0 a1_1 a1_0 a1_1 t104 t105 _ (lb_ HLD HB) A15.out) ?_; intro w35 hb; replace BK101 := kb_ BK101 hb; replace HB := bs_ HB hb; (try clear hb); (try clear hb2); (try clear hk); (try clear hi)) | (refine gl_ 27 Tryz.func58 #[.int .i64 1] ?_; refine mo_ (rat_Of.calls 1 t106 t107 _ (lb_ HLD HB) A16.out) ?_; intro w36 hb; replace BK101 := kb_ BK101 hb; replace HB := bs_ HB hb; (try clear hb); (try clear hb2); (try clear hk); (try clear hi)) | (refine gl_ 28 Tryz.func56 #[.agg #[.string t104, .string t105], .agg #[.string t106, .string t107]] ?_; refine mo_ (rat_Cmp.calls t104 t105 t106 t107 t108 _ (lb_ HLD HB) A17.out) ?_; intro w37 hb; replace BK101 := kb_ BK101 hb; replace HB := bs_ HB hb; (try clear hb); (try clear hb2); (try clear hk); (try clear hi)) | (refine gl_ 31 Tryz.func53 #[.string a0, .string (⟨#[50]⟩ : ByteArray)] ?_; refine mo_ (whole_Div.calls a0 (⟨#[50]⟩ : ByteArray) t109 t110 t111 _ (lb_ HLD HB) A18.out) ?_; intro w38 hb; replace BK101 := kb_ BK101 hb; replace HB := bs_ HB hb; (try clear hb); (try clear hb2); (try clear hk); (try clear hi)))
     go_ret
     exact ⟨er_, b_ HB.out⟩
  ·rw [if_neg c14] at H; have c14b0 : (a2 == 2) = false := beq_eq_false_iff_ne.mpr c14; have c14b1 : (a2 != 2) = true := bne_iff_ne.mpr c14; obtain rfl := Option.some.inj H; go_enter Tryz.func30, Tryz.ntmps30
   go_wp2_with (first | ((with_reducible refine gate_dst (N := 4) rfl ?_); refine be_ 4 #[.string a1_0, .string a1_1] 23 ?_; intro gb101 hg w39 hbox hb; have BK101 := Aside0.mk (hbox); have GW101 := ge_ HB hg; have GE101 := ge_ HB hg; replace HB := bs_ HB hb; clear hb hbox hg))
   go_ret
   exact ⟨er_, b_ HB.out⟩
def grid_Whole.j0 : Nat → Int → Bool → ByteArray → ByteArray → Option (ByteArray)
 | 0, _, _, _, _ => none
 | k + 1, x1, x17, x113000, x113001 => if x17 = true then (some (⟨#[]⟩ : ByteArray)) else ((rat_Split.f x113000 x113001).bind fun bt114 => ((grid_up.f bt114.1 bt114.2.1 bt114.2.2 x1).bind fun t118 => (if t118 = true then ((whole_Add.f bt114.1 (⟨#[49]⟩ : ByteArray)).bind fun t119 => (some t119)) else (some bt114.1))))
def grid_Whole.f (k : Nat) (a0_0 : ByteArray) (a0_1 : ByteArray) (a1 : Int) : Option (ByteArray) := (rat_May.f a0_0 a0_1).bind fun t113 => (if t113 = true then (if a1 < 0 then (grid_Whole.j0 k a1 true a0_0 a0_1) else (grid_Whole.j0 k a1 (decide (a1 ≥ 3)) a0_0 a0_1)) else (grid_Whole.j0 k a1 true a0_0 a0_1))
set_option maxHeartbeats 8000000 in
set_option maxRecDepth 100000 in
theorem grid_Whole.calls (k : Nat) (a0_0 : ByteArray) (a0_1 : ByteArray) (a1 : Int) (r : ByteArray) (w : World) (hL_ : Laid w) (h : grid_Whole.f k a0_0 a0_1 a1 = some r) :
  Calls Tryz.prog 11 #[.agg #[.string a0_0, .string a0_1], .int .i64 a1] w fun e w' => e = .returned (.string r) ∧ Below w.heap.size w w' := by
 have hu23 := Tryz.underlying23; have HLD := Aside0.mk hL_; clear hL_; have HB := Aside0.mk (Below.refl w.heap.size w); have H := h; unfold grid_Whole.f at H; clear h; have HC3 := Aside0.mk H; clear H; go_enter Tryz.func11, Tryz.ntmps11
 go_upto_region 1 with (first | ((with_reducible refine gate_dst (N := 2) rfl ?_); refine be_ 2 #[.string a0_0, .string a0_1] 23 ?_; intro gb112 hg w4 hbox hb; have BK112 := Aside0.mk (hbox); have GW112 := ge_ HB hg; have GE112 := ge_ HB hg; replace HB := bs_ HB hb; clear hb hbox hg))
 (try simp only [Act.put, List.setIfInBounds_toArray, List.set_cons_zero, List.set_cons_succ])
 go_cut [17] (fun v17 wc => ∃ (kq : Nat) (x17_2 : Bool), v17 = .bool x17_2 ∧ Aside0 (grid_Whole.j0 kq a1 x17_2 a0_0 a0_1 = some r) ∧ Aside0 (kq ≤ k) ∧ Aside0 (wc.heap[gb112]? = some (.cells #[.string a0_0, .string a0_1] 23 (0, 0))) ∧ Aside0 (Below w.heap.size w wc))
 case first =>
  have H := HC3.out; clear HC3; obtain ⟨t113, A5, H⟩ := bi_ H; by_cases c6 : t113 = true
  ·subst c6; rw [if_pos rfl] at H; by_cases c7 : a1 < 0
   ·rw [if_pos c7] at H; have c7b0 : decide (a1 < 0) = true := decide_eq_true c7; clear c7; (first | rw [c7b0] | (simp only [i64_w, i32_w]; rw [c7b0]) | skip); have H' := Aside0.mk H; clear H; have hcz8_0 := bc_ BK112 0 rfl; have hcz8_1 := bc_ BK112 1 rfl; have hfz8_0 := blk_frozen BK112.out 0; have hfz8_1 := blk_frozen BK112.out 1
    go_wp2_with (first | (refine gl_ 8 Tryz.func28 #[.agg #[.string a0_0, .string a0_1]] ?_; refine mo_ (rat_May.calls a0_0 a0_1 true _ (lb_ HLD HB) A5.out) ?_; intro w9 hb; replace BK112 := kb_ BK112 hb; replace HB := bs_ HB hb; (try clear hb); (try clear hb2); (try clear hk); (try clear hi)))
    go_meet
    case rel => exact ⟨_, (true), rl_, H', ⟨by first | omega | exact Nat.le_refl _⟩, ⟨k_ BK112.out⟩, ⟨b_ HB.out⟩⟩
   ·rw [if_neg c7] at H; have c7b0 : decide (a1 < 0) = false := decide_eq_false c7; clear c7; (first | rw [c7b0] | (simp only [i64_w, i32_w]; rw [c7b0]) | skip); have H' := Aside0.mk H; clear H; have hcz10_0 := bc_ BK112 0 rfl; have hcz10_1 := bc_ BK112 1 rfl; have hfz10_0 := blk_frozen BK112.out 0; have hfz10_1 := blk_frozen BK112.out 1
    go_wp2_with (first | (refine gl_ 8 Tryz.func28 #[.agg #[.string a0_0, .string a0_1]] ?_; refine mo_ (rat_May.calls a0_0 a0_1 true _ (lb_ HLD HB) A5.out) ?_; intro w11 hb; replace BK112 := kb_ BK112 hb; replace HB := bs_ HB hb; (try clear hb); (try clear hb2); (try clear hk); (try clear hi)))
    go_meet
    case rel => exact ⟨_, (decide (a1 ≥ 3)), rl_, H', ⟨by first | omega | exact Nat.le_refl _⟩, ⟨k_ BK112.out⟩, ⟨b_ HB.out⟩⟩
  ·replace c6 := Bool.eq_false_iff.mpr c6; subst c6; rw [if_neg nf_] at H; have H' := Aside0.mk H; clear H; have hcz12_0 := bc_ BK112 0 rfl; have hcz12_1 := bc_ BK112 1 rfl; have hfz12_0 := blk_frozen BK112.out 0; have hfz12_1 := blk_frozen BK112.out 1
   go_wp2_with (first | (refine gl_ 8 Tryz.func28 #[.agg #[.string a0_0, .string a0_1]] ?_; refine mo_ (rat_May.calls a0_0 a0_1 false _ (lb_ HLD HB) A5.out) ?_; intro w13 hb; replace BK112 := kb_ BK112 hb; replace HB := bs_ HB hb; (try clear hb); (try clear hb2); (try clear hk); (try clear hi)))
   go_meet
   case rel => exact ⟨_, (true), rl_, H', ⟨by first | omega | exact Nat.le_refl _⟩, ⟨k_ BK112.out⟩, ⟨b_ HB.out⟩⟩
 case rest =>
  clear HC3; (try clear c1); (try clear c2); (try clear p2); (try clear c6); (try clear c7); (try clear c7b0); (try clear c11); (try clear hcz10_0); (try clear hcz10_1); (try clear hcz12_0); (try clear hcz12_1); (try clear hcz8_0); (try clear hcz8_1); (try clear hfz10_0); (try clear hfz10_1); (try clear hfz12_0); (try clear hfz12_1); (try clear hfz8_0); (try clear hfz8_1); obtain ⟨kq, x17_2, rfl, HA, HJ2, BK112, HB⟩ := hcut
  cases kq with
  | zero => exact absurd HA.out (by simp [grid_Whole.j0])
  | succ kj2 =>
   have H := HA.out; clear HA; simp only [grid_Whole.j0] at H; by_cases c14 : x17_2 = true
   ·subst c14; rw [if_pos rfl] at H; obtain rfl := Option.some.inj H; go_wp2
    go_ret
    exact ⟨er_, b_ HB.out⟩
   ·replace c14 := Bool.eq_false_iff.mpr c14; subst c14; rw [if_neg nf_] at H; obtain ⟨⟨t114, t115, t116⟩, A15, H⟩ := bi_ H; (try dsimp only at H); obtain ⟨t118, A16, H⟩ := bi_ H; by_cases c17 : t118 = true
    ·subst c17; rw [if_pos rfl] at H; obtain ⟨t119, A18, H⟩ := bi_ H; obtain rfl := Option.some.inj H; have hcz19_0 := bc_ BK112 0 rfl; have hcz19_1 := bc_ BK112 1 rfl; have hfz19_0 := blk_frozen BK112.out 0; have hfz19_1 := blk_frozen BK112.out 1
     go_wp2_with (first | (refine gl_ 20 Tryz.func29 #[.agg #[.string a0_0, .string a0_1]] ?_; refine mo_ (rat_Split.calls a0_0 a0_1 t114 t115 t116 _ (lb_ HLD HB) A15.out) ?_; intro w20 hb; replace BK112 := kb_ BK112 hb; replace HB := bs_ HB hb; (try clear hb); (try clear hb2); (try clear hk); (try clear hi)) | ((with_reducible refine gate_dst (N := 6) rfl ?_); refine be_ 6 #[.string (⟨#[]⟩ : ByteArray), .string (⟨#[]⟩ : ByteArray)] 23 ?_; intro gb117 hg w21 hbox hb; have BK117 := Aside0.mk (hbox); have GW117 := ge_ HB hg; have GE117 := ge_ HB hg; have NB112_117 := nl_ BK112 hg; have NB117_112 := ng_ BK112 hg; replace BK112 := kb_ BK112 hb; replace HB := bs_ HB hb; clear hb hbox hg; have hnb22 := NB117_112.out; have hnc22 := NB112_117.out; have hcz23_0 := bc_ BK117 0 rfl; have hcz23_1 := bc_ BK117 1 rfl; have hfz23_0 := blk_frozen BK117.out 0; have hfz23_1 := blk_frozen BK117.out 1) | (refine gl_ 26 Tryz.func30 #[.string t114, .agg #[.string t115, .string t116], .int .i64 a1] ?_; refine mo_ (grid_up.calls t114 t115 t116 a1 true _ (lb_ HLD HB) A16.out) ?_; intro w24 hb; replace BK112 := Aside0.mk (blk_below (g := gb112) (o := .cells #[.string a0_0, .string a0_1] 23 (0, 0)) (fr_ BK112.out) hb); replace BK117 := Aside0.mk (blk_below (g := gb117) (o := .cells #[.string t115, .string t116] 23 (0, 0)) (rp_ BK117.out) hb); replace HB := bs_ HB hb; (try clear hb); (try clear hb2); (try clear hk); (try clear hi)) | (refine gl_ 28 Tryz.func31 #[.string t114, .string (⟨#[49]⟩ : ByteArray)] ?_; refine mo_ (whole_Add.calls t114 (⟨#[49]⟩ : ByteArray) t119 _ (lb_ HLD HB) A18.out) ?_; intro w25 hb; replace BK112 := kb_ BK112 hb; replace BK117 := kb_ BK117 hb; replace HB := bs_ HB hb; (try clear hb); (try clear hb2); (try clear hk); (try clear hi)))
     go_ret
     exact ⟨er_, b_ HB.out⟩
    ·replace c17 := Bool.eq_false_iff.mpr c17; subst c17; rw [if_neg nf_] at H; obtain rfl := Option.some.inj H; have hcz26_0 := bc_ BK112 0 rfl; have hcz26_1 := bc_ BK112 1 rfl; have hfz26_0 := blk_frozen BK112.out 0; have hfz26_1 := blk_frozen BK112.out 1
     go_wp2_with (first | (refine gl_ 20 Tryz.func29 #[.agg #[.string a0_0, .string a0_1]] ?_; refine mo_ (rat_Split.calls a0_0 a0_1 t114 t115 t116 _ (lb_ HLD HB) A15.out) ?_; intro w27 hb; replace BK112 := kb_ BK112 hb; replace HB := bs_ HB hb; (try clear hb); (try clear hb2); (try clear hk); (try clear hi)) | ((with_reducible refine gate_dst (N := 6) rfl ?_); refine be_ 6 #[.string (⟨#[]⟩ : ByteArray), .string (⟨#[]⟩ : ByteArray)] 23 ?_; intro gb117 hg w28 hbox hb; have BK117 := Aside0.mk (hbox); have GW117 := ge_ HB hg; have GE117 := ge_ HB hg; have NB112_117 := nl_ BK112 hg; have NB117_112 := ng_ BK112 hg; replace BK112 := kb_ BK112 hb; replace HB := bs_ HB hb; clear hb hbox hg; have hnb29 := NB117_112.out; have hnc29 := NB112_117.out; have hcz30_0 := bc_ BK117 0 rfl; have hcz30_1 := bc_ BK117 1 rfl; have hfz30_0 := blk_frozen BK117.out 0; have hfz30_1 := blk_frozen BK117.out 1) | (refine gl_ 26 Tryz.func30 #[.string t114, .agg #[.string t115, .string t116], .int .i64 a1] ?_; refine mo_ (grid_up.calls t114 t115 t116 a1 false _ (lb_ HLD HB) A16.out) ?_; intro w31 hb; replace BK112 := Aside0.mk (blk_below (g := gb112) (o := .cells #[.string a0_0, .string a0_1] 23 (0, 0)) (fr_ BK112.out) hb); replace BK117 := Aside0.mk (blk_below (g := gb117) (o := .cells #[.string t115, .string t116] 23 (0, 0)) (rp_ BK117.out) hb); replace HB := bs_ HB hb; (try clear hb); (try clear hb2); (try clear hk); (try clear hi)))
     go_ret
     exact ⟨er_, b_ HB.out⟩
def grid_Round.f (k : Nat) (a0_0 : ByteArray) (a0_1 : ByteArray) (a1_0 : ByteArray) (a1_1 : ByteArray) (a2 : Int) : Option (ByteArray × ByteArray) := (rat_Sign.f a1_0 a1_1).bind fun t123 => (if t123 ≤ 0 then (some ((⟨#[]⟩ : ByteArray), (⟨#[]⟩ : ByteArray))) else ((rat_Div.f a0_0 a0_1 a1_0 a1_1).bind fun bt124 => ((grid_Whole.f k bt124.1 bt124.2.1 a2).bind fun t128 => ((rat_Make.f t128 (⟨#[49]⟩ : ByteArray)).bind fun bt129 => ((rat_Mul.f bt129.1 bt129.2.1 a1_0 a1_1).bind fun bt133 => (some (bt133.1, bt133.2)))))))
set_option maxHeartbeats 8000000 in
set_option maxRecDepth 100000 in
theorem grid_Round.calls (k : Nat) (a0_0 : ByteArray) (a0_1 : ByteArray) (a1_0 : ByteArray) (a1_1 : ByteArray) (a2 : Int) (r1 : ByteArray) (r2 : ByteArray) (w : World) (hL_ : Laid w) (h : grid_Round.f k a0_0 a0_1 a1_0 a1_1 a2 = some (r1, r2)) :
  Calls Tryz.prog 13 #[.agg #[.string a0_0, .string a0_1], .agg #[.string a1_0, .string a1_1], .int .i64 a2] w fun e w' => e = .returned (.agg #[.string r1, .string r2]) ∧ Below w.heap.size w w' := by
 have hu23 := Tryz.underlying23; have HLD := Aside0.mk hL_; clear hL_; have HB := Aside0.mk (Below.refl w.heap.size w); have H := h; unfold grid_Round.f at H; clear h; obtain ⟨t123, A4, H⟩ := bi_ H; by_cases c5 : t123 ≤ 0
 ·rw [if_pos c5] at H; have c5b0 : decide (t123 ≤ 0) = true := decide_eq_true c5; clear c5; simp only [Option.some.injEq, Prod.mk.injEq] at H; obtain ⟨rfl, rfl⟩ := H; go_enter Tryz.func13, Tryz.ntmps13
  go_wp2_with (first | ((with_reducible refine gate_dst (N := 3) rfl ?_); refine be_ 3 #[.string a0_0, .string a0_1] 23 ?_; intro gb120 hg w6 hbox hb; have BK120 := Aside0.mk (hbox); have GW120 := ge_ HB hg; have GE120 := ge_ HB hg; replace HB := bs_ HB hb; clear hb hbox hg) | ((with_reducible refine gate_dst (N := 4) rfl ?_); refine be_ 4 #[.string a1_0, .string a1_1] 23 ?_; intro gb121 hg w7 hbox hb; have BK121 := Aside0.mk (hbox); have GW121 := ge_ HB hg; have GE121 := ge_ HB hg; have NB120_121 := nl_ BK120 hg; have NB121_120 := ng_ BK120 hg; replace BK120 := kb_ BK120 hb; replace HB := bs_ HB hb; clear hb hbox hg) | ((with_reducible refine gate_dst (N := 6) rfl ?_); refine be_ 6 #[.string (⟨#[]⟩ : ByteArray), .string (⟨#[]⟩ : ByteArray)] 23 ?_; intro gb122 hg w8 hbox hb; have BK122 := Aside0.mk (hbox); have GW122 := ge_ HB hg; have GE122 := ge_ HB hg; have NB120_122 := nl_ BK120 hg; have NB122_120 := ng_ BK120 hg; have NB121_122 := nl_ BK121 hg; have NB122_121 := ng_ BK121 hg; replace BK120 := kb_ BK120 hb; replace BK121 := kb_ BK121 hb; replace HB := bs_ HB hb; clear hb hbox hg; have hnb9 := NB121_120.out; have hnc9 := NB120_121.out; have hnb10 := NB121_122.out; have hnc10 := NB122_121.out; have hcz11_0 := bc_ BK121 0 rfl; have hcz11_1 := bc_ BK121 1 rfl; have hfz11_0 := blk_frozen BK121.out 0; have hfz11_1 := blk_frozen BK121.out 1) | (refine gl_ 12 Tryz.func35 #[.agg #[.string a1_0, .string a1_1]] ?_; refine mo_ (rat_Sign.calls a1_0 a1_1 t123 _ (lb_ HLD HB) A4.out) ?_; intro w12 hb; replace BK120 := kb_ BK120 hb; replace BK121 := kb_ BK121 hb; replace BK122 := kb_ BK122 hb; replace HB := bs_ HB hb; (try clear hb); (try clear hb2); (try clear hk); (try clear hi); have hnb13 := NB122_120.out; have hnc13 := NB120_122.out; have hcz14_0 := bc_ BK122 0 rfl; have hcz14_1 := bc_ BK122 1 rfl; have hfz14_0 := blk_frozen BK122.out 0; have hfz14_1 := blk_frozen BK122.out 1))
  refine bodyPost_ret (results_cell_row rfl _ _ gb122 23 #[.string (⟨#[]⟩ : ByteArray), .string (⟨#[]⟩ : ByteArray)] (0, 0) _ rfl (rp_ BK122.out) Tryz.underlying23 rfl (by kernel_rfl)) rfl ?_; exact ⟨er_, b_ HB.out⟩
 ·rw [if_neg c5] at H; have c5b0 : decide (t123 ≤ 0) = false := decide_eq_false c5; clear c5; obtain ⟨⟨t124, t125, t126⟩, A15, H⟩ := bi_ H; (try dsimp only at H); obtain ⟨t128, A16, H⟩ := bi_ H; obtain ⟨⟨t129, t130, t131⟩, A17, H⟩ := bi_ H; (try dsimp only at H); obtain ⟨⟨t133, t134⟩, A18, H⟩ := bi_ H; (try dsimp only at H); simp only [Option.some.injEq, Prod.mk.injEq] at H; obtain ⟨rfl, rfl⟩ := H; go_enter Tryz.func13, Tryz.ntmps13
  go_wp2_with (first | ((with_reducible refine gate_dst (N := 3) rfl ?_); refine be_ 3 #[.string a0_0, .string a0_1] 23 ?_; intro gb120 hg w19 hbox hb; have BK120 := Aside0.mk (hbox); have GW120 := ge_ HB hg; have GE120 := ge_ HB hg; replace HB := bs_ HB hb; clear hb hbox hg) | ((with_reducible refine gate_dst (N := 4) rfl ?_); refine be_ 4 #[.string a1_0, .string a1_1] 23 ?_; intro gb121 hg w20 hbox hb; have BK121 := Aside0.mk (hbox); have GW121 := ge_ HB hg; have GE121 := ge_ HB hg; have NB120_121 := nl_ BK120 hg; have NB121_120 := ng_ BK120 hg; replace BK120 := kb_ BK120 hb; replace HB := bs_ HB hb; clear hb hbox hg) | ((with_reducible refine gate_dst (N := 6) rfl ?_); refine be_ 6 #[.string (⟨#[]⟩ : ByteArray), .string (⟨#[]⟩ : ByteArray)] 23 ?_; intro gb122 hg w21 hbox hb; have BK122 := Aside0.mk (hbox); have GW122 := ge_ HB hg; have GE122 := ge_ HB hg; have NB120_122 := nl_ BK120 hg; have NB122_120 := ng_ BK120 hg; have NB121_122 := nl_ BK121 hg; have NB122_121 := ng_ BK121 hg; replace BK120 := kb_ BK120 hb; replace BK121 := kb_ BK121 hb; replace HB := bs_ HB hb; clear hb hbox hg; have hnb22 := NB121_120.out; have hnc22 := NB120_121.out; have hnb23 := NB121_122.out; have hnc23 := NB122_121.out; have hcz24_0 := bc_ BK121 0 rfl; have hcz24_1 := bc_ BK121 1 rfl; have hfz24_0 := blk_frozen BK121.out 0; have hfz24_1 := blk_frozen BK121.out 1) | (refine gl_ 12 Tryz.func35 #[.agg #[.string a1_0, .string a1_1]] ?_; refine mo_ (rat_Sign.calls a1_0 a1_1 t123 _ (lb_ HLD HB) A4.out) ?_; intro w25 hb; replace BK120 := kb_ BK120 hb; replace BK121 := kb_ BK121 hb; replace BK122 := kb_ BK122 hb; replace HB := bs_ HB hb; (try clear hb); (try clear hb2); (try clear hk); (try clear hi); have hnb26 := NB120_122.out; have hnc26 := NB122_120.out; have hcz27_0 := bc_ BK120 0 rfl; have hcz27_1 := bc_ BK120 1 rfl; have hfz27_0 := blk_frozen BK120.out 0; have hfz27_1 := blk_frozen BK120.out 1; have hcz28_0 := bc_ BK121 0 rfl; have hcz28_1 := bc_ BK121 1 rfl; have hfz28_0 := blk_frozen BK121.out 0; have hfz28_1 := blk_frozen BK121.out 1) | (refine gl_ 18 Tryz.func36 #[.agg #[.string a0_0, .string a0_1], .agg #[.string a1_0, .string a1_1]] ?_; refine mo_ (rat_Div.calls a0_0 a0_1 a1_0 a1_1 t124 t125 t126 _ (lb_ HLD HB) A15.out) ?_; intro w29 hb; replace BK120 := kb_ BK120 hb; replace BK121 := kb_ BK121 hb; replace BK122 := kb_ BK122 hb; replace HB := bs_ HB hb; (try clear hb); (try clear hb2); (try clear hk); (try clear hi)) | ((with_reducible refine gate_dst (N := 7) rfl ?_); refine be_ 7 #[.string (⟨#[]⟩ : ByteArray), .string (⟨#[]⟩ : ByteArray)] 23 ?_; intro gb127 hg w30 hbox hb; have BK127 := Aside0.mk (hbox); have GW127 := ge_ HB hg; have GE127 := ge_ HB hg; have NB120_127 := nl_ BK120 hg; have NB127_120 := ng_ BK120 hg; have NB121_127 := nl_ BK121 hg; have NB127_121 := ng_ BK121 hg; have NB122_127 := nl_ BK122 hg; have NB127_122 := ng_ BK122 hg; replace BK120 := kb_ BK120 hb; replace BK121 := kb_ BK121 hb; replace BK122 := kb_ BK122 hb; replace HB := bs_ HB hb; clear hb hbox hg; have hnb31 := NB127_120.out; have hnc31 := NB120_127.out; have hnb32 := NB127_121.out; have hnc32 := NB121_127.out; have hnb33 := NB127_122.out; have hnc33 := NB122_127.out; have hcz34_0 := bc_ BK127 0 rfl; have hcz34_1 := bc_ BK127 1 rfl; have hfz34_0 := blk_frozen BK127.out 0; have hfz34_1 := blk_frozen BK127.out 1) | (refine gl_ 24 Tryz.func11 #[.agg #[.string t124, .string t125], .int .i64 a2] ?_; refine mo_ (grid_Whole.calls k t124 t125 a2 t128 _ (lb_ HLD HB) A16.out) ?_; intro w35 hb; replace BK120 := Aside0.mk (blk_below (g := gb120) (o := .cells #[.string a0_0, .string a0_1] 23 (0, 0)) (fr_ BK120.out) hb); replace BK121 := Aside0.mk (blk_below (g := gb121) (o := .cells #[.string a1_0, .string a1_1] 23 (0, 0)) (fr_ BK121.out) hb); replace BK122 := Aside0.mk (blk_below (g := gb122) (o := .cells #[.string (⟨#[]⟩ : ByteArray), .string (⟨#[]⟩ : ByteArray)] 23 (0, 0)) (fr_ BK122.out) hb); replace BK127 := Aside0.mk (blk_below (g := gb127) (o := .cells #[.string t124, .string t125] 23 (0, 0)) (rp_ BK127.out) hb); replace HB := bs_ HB hb; (try clear hb); (try clear hb2); (try clear hk); (try clear hi)) | (refine gl_ 25 Tryz.func37 #[.string t128, .string (⟨#[49]⟩ : ByteArray)] ?_; refine mo_ (rat_Make.calls t128 (⟨#[49]⟩ : ByteArray) t129 t130 t131 _ (lb_ HLD HB) A17.out) ?_; intro w36 hb; replace BK120 := kb_ BK120 hb; replace BK121 := kb_ BK121 hb; replace BK122 := kb_ BK122 hb; replace BK127 := kb_ BK127 hb; replace HB := bs_ HB hb; (try clear hb); (try clear hb2); (try clear hk); (try clear hi)) | ((with_reducible refine gate_dst (N := 9) rfl ?_); refine be_ 9 #[.string (⟨#[]⟩ : ByteArray), .string (⟨#[]⟩ : ByteArray)] 23 ?_; intro gb132 hg w37 hbox hb; have BK132 := Aside0.mk (hbox); have GW132 := ge_ HB hg; have GE132 := ge_ HB hg; have NB120_132 := nl_ BK120 hg; have NB132_120 := ng_ BK120 hg; have NB121_132 := nl_ BK121 hg; have NB132_121 := ng_ BK121 hg; have NB122_132 := nl_ BK122 hg; have NB132_122 := ng_ BK122 hg; have NB127_132 := nl_ BK127 hg; have NB132_127 := ng_ BK127 hg; replace BK120 := kb_ BK120 hb; replace BK121 := kb_ BK121 hb; replace BK122 := kb_ BK122 hb; replace BK127 := kb_ BK127 hb; replace HB := bs_ HB hb; clear hb hbox hg; have hnb38 := NB132_120.out; have hnc38 := NB120_132.out; have hnb39 := NB132_121.out; have hnc39 := NB121_132.out; have hnb40 := NB132_122.out; have hnc40 := NB122_132.out; have hnb41 := NB132_127.out; have hnc41 := NB127_132.out; have hcz42_0 := bc_ BK132 0 rfl; have hcz42_1 := bc_ BK132 1 rfl; have hfz42_0 := blk_frozen BK132.out 0; have hfz42_1 := blk_frozen BK132.out 1; have hcz43_0 := bc_ BK121 0 rfl; have hcz43_1 := bc_ BK121 1 rfl; have hfz43_0 := blk_frozen BK121.out 0; have hfz43_1 := blk_frozen BK121.out 1) | (refine gl_ 30 Tryz.func38 #[.agg #[.string t129, .string t130], .agg #[.string a1_0, .string a1_1]] ?_; refine mo_ (rat_Mul.calls t129 t130 a1_0 a1_1 t133 t134 _ (lb_ HLD HB) A18.out) ?_; intro w44 hb; replace BK120 := Aside0.mk (blk_below (g := gb120) (o := .cells #[.string a0_0, .string a0_1] 23 (0, 0)) (fr_ BK120.out) hb); replace BK121 := Aside0.mk (blk_below (g := gb121) (o := .cells #[.string a1_0, .string a1_1] 23 (0, 0)) (fr_ BK121.out) hb); replace BK122 := Aside0.mk (blk_below (g := gb122) (o := .cells #[.string (⟨#[]⟩ : ByteArray), .string (⟨#[]⟩ : ByteArray)] 23 (0, 0)) (fr_ BK122.out) hb); replace BK127 := Aside0.mk (blk_below (g := gb127) (o := .cells #[.string t124, .string t125] 23 (0, 0)) (fr_ BK127.out) hb); replace BK132 := Aside0.mk (blk_below (g := gb132) (o := .cells #[.string t129, .string t130] 23 (0, 0)) (rp_ BK132.out) hb); replace HB := bs_ HB hb; (try clear hb); (try clear hb2); (try clear hk); (try clear hi); have hcz45_0 := bc_ BK122 0 rfl; have hcz45_1 := bc_ BK122 1 rfl; have hfz45_0 := blk_frozen BK122.out 0; have hfz45_1 := blk_frozen BK122.out 1))
  refine bodyPost_ret (results_cell_row rfl _ _ gb122 23 #[.string t133, .string t134] (0, 0) _ rfl (rp_ BK122.out) Tryz.underlying23 rfl (by kernel_rfl)) rfl ?_; exact ⟨er_, b_ HB.out⟩
def grid_Cents.f (k : Nat) (a0_0 : ByteArray) (a0_1 : ByteArray) : Option (ByteArray × ByteArray) := (grid_Round.f k a0_0 a0_1 (⟨#[49]⟩ : ByteArray) (⟨#[49, 48, 48]⟩ : ByteArray) 2).bind fun bt137 => (some (bt137.1, bt137.2))
set_option maxHeartbeats 8000000 in
set_option maxRecDepth 100000 in
theorem grid_Cents.calls (k : Nat) (a0_0 : ByteArray) (a0_1 : ByteArray) (r1 : ByteArray) (r2 : ByteArray) (w : World) (hL_ : Laid w) (h : grid_Cents.f k a0_0 a0_1 = some (r1, r2)) :
  Calls Tryz.prog 15 #[.agg #[.string a0_0, .string a0_1]] w fun e w' => e = .returned (.agg #[.string r1, .string r2]) ∧ Below w.heap.size w w' := by
 have hu23 := Tryz.underlying23; have HLD := Aside0.mk hL_; clear hL_; have HB := Aside0.mk (Below.refl w.heap.size w); have H := h; unfold grid_Cents.f at H; clear h; obtain ⟨⟨t137, t138⟩, A2, H⟩ := bi_ H; (try dsimp only at H); simp only [Option.some.injEq, Prod.mk.injEq] at H; obtain ⟨rfl, rfl⟩ := H; go_enter Tryz.func15, Tryz.ntmps15
 go_wp2_with (first | ((with_reducible refine gate_dst (N := 1) rfl ?_); refine be_ 1 #[.string a0_0, .string a0_1] 23 ?_; intro gb135 hg w3 hbox hb; have BK135 := Aside0.mk (hbox); have GW135 := ge_ HB hg; have GE135 := ge_ HB hg; replace HB := bs_ HB hb; clear hb hbox hg) | ((with_reducible refine gate_dst (N := 2) rfl ?_); refine be_ 2 #[.string (⟨#[]⟩ : ByteArray), .string (⟨#[]⟩ : ByteArray)] 23 ?_; intro gb136 hg w4 hbox hb; have BK136 := Aside0.mk (hbox); have GW136 := ge_ HB hg; have GE136 := ge_ HB hg; have NB135_136 := nl_ BK135 hg; have NB136_135 := ng_ BK135 hg; replace BK135 := kb_ BK135 hb; replace HB := bs_ HB hb; clear hb hbox hg; have hnb5 := NB135_136.out; have hnc5 := NB136_135.out; have hcz6_0 := bc_ BK135 0 rfl; have hcz6_1 := bc_ BK135 1 rfl; have hfz6_0 := blk_frozen BK135.out 0; have hfz6_1 := blk_frozen BK135.out 1) | (refine gl_ 5 Tryz.func13 #[.agg #[.string a0_0, .string a0_1], .agg #[.string (⟨#[49]⟩ : ByteArray), .string (⟨#[49, 48, 48]⟩ : ByteArray)], .int .i64 2] ?_; refine mo_ (grid_Round.calls k a0_0 a0_1 (⟨#[49]⟩ : ByteArray) (⟨#[49, 48, 48]⟩ : ByteArray) 2 t137 t138 _ (lb_ HLD HB) A2.out) ?_; intro w7 hb; replace BK135 := kb_ BK135 hb; replace BK136 := kb_ BK136 hb; replace HB := bs_ HB hb; (try clear hb); (try clear hb2); (try clear hk); (try clear hi); have hcz8_0 := bc_ BK136 0 rfl; have hcz8_1 := bc_ BK136 1 rfl; have hfz8_0 := blk_frozen BK136.out 0; have hfz8_1 := blk_frozen BK136.out 1))
 refine bodyPost_ret (results_cell_row rfl _ _ gb136 23 #[.string t137, .string t138] (0, 0) _ rfl (rp_ BK136.out) Tryz.underlying23 rfl (by kernel_rfl)) rfl ?_; exact ⟨er_, b_ HB.out⟩
end Go.Proofs.YtmfcpapfikbomaaGreatDoor.Pg
end

section
namespace Go.Proofs.YtmfcpapfikbomaaGreatDoor.Pg
end Go.Proofs.YtmfcpapfikbomaaGreatDoor.Pg
end

section
namespace Go.Proofs.YtmfcpapfikbomaaGreatDoor
theorem intB_two : (⟨#[50]⟩ : ByteArray) = intB 2 := by kernel_rfl
theorem intB_one : (⟨#[49]⟩ : ByteArray) = intB 1 := by rw [← natB_one]; exact (intB_nat 1).symm
theorem intB_beq_one (z : Int) : ((intB z).toList == ([49] : List UInt8)) = decide (z = 1) := by
 have e : (intB 1).toList = [49] := by rw [← intB_one, ByteArray.toList_eq]
 rw [← e]
 exact intB_beq z 1
theorem szR_two (f : Rat) : szR (f + f) ≤ szR f + 32 := by
 have h := szR_mul f ((2 : Int) : Rat)
 have h2 := szR_small (n := 2) (by decide) (by decide)
 have e : f * ((2 : Int) : Rat) = f + f := by
  have e6 : ((2 : Int) : Rat) = 2 := rfl
  rw [e6]
  grind
 rw [e] at h
 omega
theorem gup_f {w : Int} {f : Rat} (hw : szI w ≤ 4000) (hf : szR f ≤ 3900) (m : Int) : Pg.grid_up.f (intB w) (rT f).1 (rT f).2 m = some (upQ w f m) := by
 unfold Pg.grid_up.f
 by_cases m1 : m = 1
 ·subst m1
  rw [if_pos rfl, gSign (by omega), Option.bind_some]
  unfold upQ
  rw [if_pos rfl]
  by_cases h : w < 0
  ·rw [if_pos (by rw [cmp_lt' h]; decide), hSign (by omega), Option.bind_some, decide_eq_true h, Bool.true_and]
   congr 1
   exact decide_eq_decide.2 (cmpQ_gt f 0)
  ·rw [if_neg, decide_eq_false h, Bool.false_and]
   unfold Lib.compareInt
   (repeat' split) <;> omega
 ·rw [if_neg m1]
  by_cases m2 : m = 2
  ·subst m2
   have s := szR_two f
   rw [if_pos rfl, hAdd (by omega) (by omega), Option.bind_some, hOf (by decide) (by decide), Option.bind_some, hCmp (by omega) (Nat.le_trans (szR_small (by decide) (by decide)) (by decide)), Option.bind_some, intB_two, gDiv (by omega) (Nat.le_trans (szI_64 (by decide) (by decide)) (by decide)) (by decide), Option.bind_some, upQ_two, intB_beq_one]
   have e1 : ((1 : Int) : Rat) = 1 := rfl
   rw [e1]
   rcases cmpQ_cases (f + f) 1 with ⟨h1, h2, h3, h4⟩ | ⟨h1, h2, h3, h4⟩ | ⟨h1, h2, h3, h4⟩
   ·rw [h4, if_neg (by decide), if_neg (by decide), decide_eq_false h2, decide_eq_false h3]
    rfl
   ·rw [h4, if_neg (by decide), if_pos rfl, decide_eq_false h3, decide_eq_true h1]
    rfl
   ·rw [h4, if_pos (by decide), decide_eq_true h1]
    rfl
  ·rw [if_neg m2]
   unfold upQ
   rw [if_neg m1, if_neg m2]
theorem ratmay_c {x : BB} (h : x.1.size + x.2.size ≤ 3900) : rat_May.f x.1 x.2 = some (mayR x) := by
 unfold rat_May.f
 rw [if_pos (show smR (x.1, x.2) = true from smR_of (x := x) (by omega))]
theorem gwhole_f {x : BB} (hx : x.1.size + x.2.size ≤ 1900) (m : Int) (k : Nat) : Pg.grid_Whole.f (k + 1) x.1 x.2 m = some (gwholeS x m) := by
 unfold Pg.grid_Whole.f gwholeS
 rw [ratmay_c (by omega), Option.bind_some]
 have hj : Pg.grid_Whole.j0 (k + 1) m true x.1 x.2 = some noB := by
  simp only [Pg.grid_Whole.j0]
  rfl
 by_cases hm : mayR x = true
 ·rw [if_pos hm, hm, Bool.true_and]
  by_cases m0 : m < 0
  ·rw [if_pos m0, hj, if_neg]
   unfold modeOk
   rw [decide_eq_true_eq]
   omega
  ·rw [if_neg m0]
   by_cases m3 : m ≥ 3
   ·rw [decide_eq_true m3, hj, if_neg]
    unfold modeOk
    rw [decide_eq_true_eq]
    omega
   ·rw [decide_eq_false m3, if_pos (show modeOk m = true from decide_eq_true (by omega))]
    obtain ⟨q, rfl⟩ := of_mayR hm
    have hq : szR q ≤ 1900 := hx
    have s1 := szI_floor q
    have s2 := szR_frac q
    simp only [Pg.grid_Whole.j0]
    rw [if_neg (by decide), hSplit (by omega), Option.bind_some, gup_f (by omega) (by omega), Option.bind_some, ratR_rT]
    unfold gW
    by_cases h : upQ q.floor (q - (q.floor : Rat)) m = true
    ·rw [if_pos h, if_pos h, intB_one, gAdd (by omega) (Nat.le_trans (szI_64 (by decide) (by decide)) (by decide)), Option.bind_some]
    ·rw [if_neg h, if_neg h]
 ·rw [if_neg hm, hj, (Bool.not_eq_true _).mp hm]
  rfl
theorem no2_may : mayR no2 = false := by decide
theorem smG2_le {x y : BB} (h : smG2 x y = true) : x.1.size + x.2.size ≤ 900 ∧ y.1.size + y.2.size ≤ 900 := by
 unfold smG2 smG at h
 rw [Bool.and_eq_true, decide_eq_true_eq, decide_eq_true_eq] at h
 exact h
theorem ground_f {x g : BB} (h : smG2 x g = true) (m : Int) (k : Nat) : Pg.grid_Round.f (k + 1) x.1 x.2 g.1 g.2 m = some (groundS x g m) := by
 obtain ⟨h1, h2⟩ := smG2_le h
 unfold Pg.grid_Round.f groundS
 have es : rat_Sign.f g.1 g.2 = some (rsignS g) := by
  unfold rat_Sign.f
  rw [if_pos (show smR (g.1, g.2) = true from smR_of (x := g) (by omega))]
 rw [es, Option.bind_some]
 unfold rsignS
 by_cases hg : mayR g = true
 ·rw [if_pos hg]
  obtain ⟨b, rfl⟩ := of_mayR hg
  rw [ratR_rT]
  by_cases hp : 0 < b
  ·rw [if_neg (fun z => absurd ((cmpQ_le b 0).1 z) (Rat.not_le.2 hp)), decide_eq_true hp, Bool.and_true]
   have hne : b ≠ 0 := by intro e; rw [e] at hp; exact Rat.lt_irrefl hp
   have hb : szR b ≤ 900 := h2
   have hend : ((rat_Make.f noB ⟨#[49]⟩).bind fun t => (rat_Mul.f t.1 t.2.1 (rT b).1 (rT b).2).bind fun z => some (z.1, z.2)) = some no2 := by
    have e1 : rat_Make.f noB ⟨#[49]⟩ = some (noB, noB, false) := by
     unfold rat_Make.f rmakeS
     rw [if_pos (by decide), show may2W noB ⟨#[49]⟩ = false by unfold may2W; rw [show mayW noB = false by decide]; rfl]
     rfl
    have e2 : rat_Mul.f noB noB (rT b).1 (rT b).2 = some no2 := by
     unfold rat_Mul.f rmulS
     rw [if_pos (show smR2 (noB, noB) ((rT b).1, (rT b).2) = true from smR2_of (x := no2) (y := rT b) (by decide) (show szR b ≤ 3900 by omega)), show may2R (noB, noB) ((rT b).1, (rT b).2) = false by unfold may2R; rw [show mayR (noB, noB) = false from no2_may]; rfl]
     rfl
    rw [e1, Option.bind_some, e2]
    rfl
   by_cases hx : mayR x = true
   ·obtain ⟨a, rfl⟩ := of_mayR hx
    have ha : szR a ≤ 900 := h1
    have sq := szR_div a hne
    rw [hDiv (by omega) (by omega) hne, Option.bind_some, gwhole_f (x := rT (a / b)) (show szR (a / b) ≤ 1900 by omega), Option.bind_some, may2R_rT, Bool.true_and]
    unfold gwholeS
    rw [show mayR ((rT (a / b)).1, (rT (a / b)).2) = true from mayR_rT _, Bool.true_and, show ratR ((rT (a / b)).1, (rT (a / b)).2) = a / b from ratR_rT _]
    by_cases hm : modeOk m = true
    ·have s1 := szI_gW (a / b) m
     have s2 := szR_int (gW (a / b) m)
     rw [if_pos hm, if_pos hm, hMake1 (by omega), Option.bind_some, hMul (by omega) (by omega), Option.bind_some, ratR_rT]
     rfl
    ·rw [if_neg hm, if_neg hm]
     exact hend
   ·have ed : rat_Div.f x.1 x.2 (rT b).1 (rT b).2 = some (noB, noB, false) := by
     unfold rat_Div.f rdivS
     rw [if_pos (show smR2 (x.1, x.2) ((rT b).1, (rT b).2) = true from smR2_of (x := x) (y := rT b) (by omega) (show szR b ≤ 3900 by omega)), show may2R (x.1, x.2) ((rT b).1, (rT b).2) = false by unfold may2R; rw [show mayR (x.1, x.2) = false from (Bool.not_eq_true _).mp hx]; rfl]
     rfl
    rw [ed, Option.bind_some, show may2R x (rT b) = false by unfold may2R; rw [(Bool.not_eq_true _).mp hx]; rfl]
    have ew := gwhole_f (x := no2) (by decide) m k
    rw [show gwholeS no2 m = noB by unfold gwholeS; rw [no2_may]; rfl] at ew
    show ((Pg.grid_Whole.f (k + 1) no2.1 no2.2 m).bind fun t => ((rat_Make.f t ⟨#[49]⟩).bind fun t => (rat_Mul.f t.1 t.2.1 (rT b).1 (rT b).2).bind fun z => some (z.1, z.2))) = _
    rw [ew, Option.bind_some]
    exact hend
  ·rw [if_pos ((cmpQ_le b 0).2 (Rat.not_lt.1 hp)), decide_eq_false hp, Bool.and_false, Bool.and_false]
   rfl
 ·rw [if_neg hg, if_pos (by decide), show may2R x g = false by unfold may2R; rw [(Bool.not_eq_true _).mp hg, Bool.and_false]]
  rfl
theorem rT_centQ : rT centQ = (⟨#[49]⟩, ⟨#[49, 48, 48]⟩) := by kernel_rfl
theorem smG_cent {x : BB} (h : smG x = true) : smG2 x (rT centQ) = true := by
 unfold smG2
 rw [h, rT_centQ]
 rfl
theorem gcents_f {x : BB} (h : smG x = true) (k : Nat) : Pg.grid_Cents.f (k + 1) x.1 x.2 = some (groundS x (rT centQ) 2) := by
 unfold Pg.grid_Cents.f
 have e := ground_f (smG_cent h) 2 k
 rw [rT_centQ] at e ⊢
 rw [e, Option.bind_some]
def grid_Whole.f (a0_0 a0_1 : ByteArray) (a1 : Int) : Option ByteArray := if smG (a0_0, a0_1) = true then some (gwholeS (a0_0, a0_1) a1) else none
theorem grid_Whole.calls (a0_0 a0_1 : ByteArray) (a1 : Int) (r : ByteArray) (w : World) (hL_ : Laid w) (h : grid_Whole.f a0_0 a0_1 a1 = some r) :
  Calls Tryz.prog 11 #[.agg #[.string a0_0, .string a0_1], .int .i64 a1] w fun e w' => e = .returned (.string r) ∧ Below w.heap.size w w' := by
 unfold grid_Whole.f at h
 split at h
 ·rename_i hp
  have hs : a0_0.size + a0_1.size ≤ 900 := of_decide_eq_true hp
  rw [← gwhole_f (x := (a0_0, a0_1)) (show a0_0.size + a0_1.size ≤ 1900 by omega) a1 0] at h
  exact Pg.grid_Whole.calls _ a0_0 a0_1 a1 r w hL_ h
 ·cases h
def grid_Round.f (a0_0 a0_1 a1_0 a1_1 : ByteArray) (a2 : Int) : Option BB := if smG2 (a0_0, a0_1) (a1_0, a1_1) = true then some (groundS (a0_0, a0_1) (a1_0, a1_1) a2) else none
theorem grid_Round.calls (a0_0 a0_1 a1_0 a1_1 : ByteArray) (a2 : Int) (r1 r2 : ByteArray) (w : World) (hL_ : Laid w) (h : grid_Round.f a0_0 a0_1 a1_0 a1_1 a2 = some (r1, r2)) :
  Calls Tryz.prog 13 #[.agg #[.string a0_0, .string a0_1], .agg #[.string a1_0, .string a1_1], .int .i64 a2] w fun e w' => e = .returned (.agg #[.string r1, .string r2]) ∧ Below w.heap.size w w' := by
 unfold grid_Round.f at h
 split at h
 ·rename_i hp
  rw [← ground_f hp a2 0] at h
  exact Pg.grid_Round.calls _ a0_0 a0_1 a1_0 a1_1 a2 r1 r2 w hL_ h
 ·cases h
def grid_Cents.f (a0_0 a0_1 : ByteArray) : Option BB := if smG (a0_0, a0_1) = true then some (groundS (a0_0, a0_1) (rT centQ) 2) else none
theorem grid_Cents.calls (a0_0 a0_1 : ByteArray) (r1 r2 : ByteArray) (w : World) (hL_ : Laid w) (h : grid_Cents.f a0_0 a0_1 = some (r1, r2)) :
  Calls Tryz.prog 15 #[.agg #[.string a0_0, .string a0_1]] w fun e w' => e = .returned (.agg #[.string r1, .string r2]) ∧ Below w.heap.size w w' := by
 unfold grid_Cents.f at h
 split at h
 ·rename_i hp
  rw [← gcents_f hp 0] at h
  exact Pg.grid_Cents.calls _ a0_0 a0_1 r1 r2 w hL_ h
 ·cases h
end Go.Proofs.YtmfcpapfikbomaaGreatDoor
end

section
namespace Go.Proofs.YtmfcpapfikbomaaGreatDoor
end Go.Proofs.YtmfcpapfikbomaaGreatDoor
end

section
namespace Go.Proofs.YtmfcpapfikbomaaGreatDoor.Ph
def errW : Option Int → Value
 | none => .nilIface
 | some c => .iface 0 (.int .i64 c)
theorem errW_none : errW none = .nilIface := rfl
theorem errW_some (c : Int) : errW (some c) = .iface 0 (.int .i64 c) := rfl
end Go.Proofs.YtmfcpapfikbomaaGreatDoor.Ph
end

section
namespace Go.Proofs.YtmfcpapfikbomaaGreatDoor.Ph
theorem eqA23 (d : Nat) (w : World) (x0 y0 : ByteArray) (x1 y1 : ByteArray) :
  (Op.equalIn (d + 2) 23 (.agg #[.string x0, .string x1]) (.agg #[.string y0, .string y1])).run Tryz.prog w = .ok (x0.toList == y0.toList && (x1.toList == y1.toList)) w := by
 refine eqA_of Tryz.underlying23 (by kernel_rfl) ?_; refine eqf_cons (by rfl) (by go_simp; rfl) (by go_simp; rfl) (by go_simp) ?_; exact eqf_last (by rfl) (by go_simp; rfl) (by go_simp; rfl) (by go_simp)
end Go.Proofs.YtmfcpapfikbomaaGreatDoor.Ph
end

section
namespace Go.Proofs.YtmfcpapfikbomaaGreatDoor.Ph
end Go.Proofs.YtmfcpapfikbomaaGreatDoor.Ph
end

section
namespace Go.Proofs.YtmfcpapfikbomaaGreatDoor.Ph
attribute [local go_sem high] eqA23
mutual
def r5_Whole.j0 : Nat → Int → Bool → ByteArray → ByteArray → Option (ByteArray)
 | 0, _, _, _, _ => none
 | k + 1, x1, x24, x102000, x102001 => if x24 = true then (some (⟨#[]⟩ : ByteArray)) else ((r3_Split.f x102000 x102001).bind fun bt103 => ((r2_Add.f bt103.1 (⟨#[49]⟩ : ByteArray)).bind fun t107 => (if x1 = 0 then (r5_Whole.j1 k x1 bt103.1 t107 true x102000 x102001 bt103.1 (⟨#[49]⟩ : ByteArray) t107 (⟨#[49]⟩ : ByteArray)) else (r5_Whole.j1 k x1 bt103.1 t107 (bt103.1.toList == x102000.toList && (([49] : List UInt8) == x102001.toList)) x102000 x102001 bt103.1 (⟨#[49]⟩ : ByteArray) t107 (⟨#[49]⟩ : ByteArray)))))
def r5_Whole.j1 : Nat → Int → ByteArray → ByteArray → Bool → ByteArray → ByteArray → ByteArray → ByteArray → ByteArray → ByteArray → Option (ByteArray)
 | 0, _, _, _, _, _, _, _, _, _, _ => none
 | k + 1, x1, x5, x7, x42, x102000, x102001, x109000, x109001, x110000, x110001 => if x42 = true then (some x5) else (if x1 = 1 then ((r3_Sign.f x102000 x102001).bind fun t110 => (if t110 < 0 then (some x7) else (some x5))) else ((r3_Sub.f x102000 x102001 x109000 x109001).bind fun bt111 => ((r3_Sub.f x110000 x110001 x102000 x102001).bind fun bt113 => ((r3_Cmp.f bt111.1 bt111.2 bt113.1 bt113.2).bind fun t115 => ((r2_Div.f x5 (⟨#[50]⟩ : ByteArray)).bind fun bt116 => (if t115 < 0 then (some x5) else (if t115 = 0 then (if bt116.2.1.toList = ([48] : List UInt8) then (some x5) else (some x7)) else (some x7))))))))
end
def r5_Whole.f (k : Nat) (a0_0 : ByteArray) (a0_1 : ByteArray) (a1 : Int) : Option (ByteArray) := (r3_May.f a0_0 a0_1).bind fun t102 => (if t102 = true then (if a1 < 0 then (r5_Whole.j0 k a1 true a0_0 a0_1) else (r5_Whole.j0 k a1 (decide (a1 > 2)) a0_0 a0_1)) else (r5_Whole.j0 k a1 true a0_0 a0_1))
def r5_Whole.T12 : Bool × List (List Nat × List Nat) := (true, [([], []), ([], []), ([0, 1], [0, 1]), ([], []), ([], []), ([3, 4, 2], [3, 4]), ([2, 5, 5], [2, 5]), ([6, 6, 0, 1, 2, 3, 4, 5, 6], [6])])
def r5_Whole.B12 : List Nat := [0, 0, 3, 0, 0, 31, 63, 127]
theorem r5_Whole.tab12 : rtab .any (opsOf Tryz.f12 12) = r5_Whole.T12 := by kernel_rfl
theorem r5_Whole.bits12 : waitsOk r5_Whole.T12.2 r5_Whole.B12 = true := by kernel_rfl
set_option maxHeartbeats 8000000 in
set_option maxRecDepth 100000 in
theorem r5_Whole.calls (k : Nat) (a0_0 : ByteArray) (a0_1 : ByteArray) (a1 : Int) (r : ByteArray) (w : World) (h : r5_Whole.f k a0_0 a0_1 a1 = some r) :
  Calls Tryz.prog 12 #[.agg #[.string a0_0, .string a0_1], .int .i64 a1] w fun e w' => e = .returned (.string r) ∧ Below w.heap.size w w' := by
 have hu23 := Tryz.underlying23; have HB := Aside0.mk (Below.refl w.heap.size w); have H := h; unfold r5_Whole.f at H; clear h; have HC3 := Aside0.mk H; clear H; go_enter Tryz.func12, Tryz.ntmps12
 go_upto_region 1 with (first | ((with_reducible refine gate_dst (N := 2) rfl ?_); refine be_ 2 #[.string a0_0, .string a0_1] 23 ?_; intro gb101 hg w4 hbox hb; have BK101 := Aside0.mk (hbox); have GW101 := ge_ HB hg; have GE101 := ge_ HB hg; replace HB := bs_ HB hb; clear hb hbox hg))
 (try simp only [Act.put, List.setIfInBounds_toArray, List.set_cons_zero, List.set_cons_succ])
 go_cut [24] (fun v24 wc => ∃ (kq : Nat) (x24_2 : Bool), v24 = .bool x24_2 ∧ Aside0 (r5_Whole.j0 kq a1 x24_2 a0_0 a0_1 = some r) ∧ Aside0 (kq ≤ k) ∧ Aside0 (wc.heap[gb101]? = some (.cells #[.string a0_0, .string a0_1] 23 (0, 0))) ∧ Aside0 (Below w.heap.size w wc))
 case first =>
  have H := HC3.out; clear HC3; obtain ⟨t102, A5, H⟩ := bi_ H; by_cases c6 : t102 = true
  ·subst c6; rw [if_pos rfl] at H; by_cases c7 : a1 < 0
   ·rw [if_pos c7] at H; have c7b0 : decide (a1 < 0) = true := decide_eq_true c7; clear c7; (first | rw [c7b0] | (simp only [i64_w, i32_w]; rw [c7b0]) | skip); have H' := Aside0.mk H; clear H; have hcz8_0 := bc_ BK101 0 rfl; have hcz8_1 := bc_ BK101 1 rfl; have hfz8_0 := blk_frozen BK101.out 0; have hfz8_1 := blk_frozen BK101.out 1
    go_wp2_with (first | (refine gl_ 15 Tryz.func22 #[.agg #[.string a0_0, .string a0_1]] ?_; refine mo_ (r3_May.calls a0_0 a0_1 true _ A5.out) ?_; intro w9 hb; replace BK101 := kb_ BK101 hb; replace HB := bs_ HB hb; (try clear hb); (try clear hb2); (try clear hk); (try clear hi)))
    go_meet
    case rel => exact ⟨_, (true), rl_, H', ⟨by first | omega | exact Nat.le_refl _⟩, ⟨k_ BK101.out⟩, ⟨b_ HB.out⟩⟩
   ·rw [if_neg c7] at H; have c7b0 : decide (a1 < 0) = false := decide_eq_false c7; clear c7; (first | rw [c7b0] | (simp only [i64_w, i32_w]; rw [c7b0]) | skip); have H' := Aside0.mk H; clear H; have hcz10_0 := bc_ BK101 0 rfl; have hcz10_1 := bc_ BK101 1 rfl; have hfz10_0 := blk_frozen BK101.out 0; have hfz10_1 := blk_frozen BK101.out 1
    go_wp2_with (first | (refine gl_ 15 Tryz.func22 #[.agg #[.string a0_0, .string a0_1]] ?_; refine mo_ (r3_May.calls a0_0 a0_1 true _ A5.out) ?_; intro w11 hb; replace BK101 := kb_ BK101 hb; replace HB := bs_ HB hb; (try clear hb); (try clear hb2); (try clear hk); (try clear hi)))
    go_meet
    case rel => exact ⟨_, (decide (a1 > 2)), rl_, H', ⟨by first | omega | exact Nat.le_refl _⟩, ⟨k_ BK101.out⟩, ⟨b_ HB.out⟩⟩
  ·replace c6 := Bool.eq_false_iff.mpr c6; subst c6; rw [if_neg nf_] at H; have H' := Aside0.mk H; clear H; have hcz12_0 := bc_ BK101 0 rfl; have hcz12_1 := bc_ BK101 1 rfl; have hfz12_0 := blk_frozen BK101.out 0; have hfz12_1 := blk_frozen BK101.out 1
   go_wp2_with (first | (refine gl_ 15 Tryz.func22 #[.agg #[.string a0_0, .string a0_1]] ?_; refine mo_ (r3_May.calls a0_0 a0_1 false _ A5.out) ?_; intro w13 hb; replace BK101 := kb_ BK101 hb; replace HB := bs_ HB hb; (try clear hb); (try clear hb2); (try clear hk); (try clear hi)))
   go_meet
   case rel => exact ⟨_, (true), rl_, H', ⟨by first | omega | exact Nat.le_refl _⟩, ⟨k_ BK101.out⟩, ⟨b_ HB.out⟩⟩
 case rest =>
  clear HC3; (try clear c1); (try clear c2); (try clear p2); (try clear c6); (try clear c7); (try clear c7b0); (try clear c12); (try clear hcz10_0); (try clear hcz10_1); (try clear hcz12_0); (try clear hcz12_1); (try clear hcz8_0); (try clear hcz8_1); (try clear hfz10_0); (try clear hfz10_1); (try clear hfz12_0); (try clear hfz12_1); (try clear hfz8_0); (try clear hfz8_1); obtain ⟨kq, x24_2, rfl, HA, HJ2, BK101, HB⟩ := hcut
  cases kq with
  | zero => exact absurd HA.out (by simp [r5_Whole.j0])
  | succ kj2 =>
   have H := HA.out; clear HA; simp only [r5_Whole.j0] at H; by_cases c14 : x24_2 = true
   ·subst c14; rw [if_pos rfl] at H; obtain rfl := Option.some.inj H; go_wp2
    go_ret
    exact ⟨er_, b_ HB.out⟩
   ·replace c14 := Bool.eq_false_iff.mpr c14; subst c14; rw [if_neg nf_] at H; obtain ⟨⟨t103, t104, t105⟩, A15, H⟩ := bi_ H; (try dsimp only at H); obtain ⟨t107, A16, H⟩ := bi_ H; have HC17 := Aside0.mk H; clear H; have hcz18_0 := bc_ BK101 0 rfl; have hcz18_1 := bc_ BK101 1 rfl; have hfz18_0 := blk_frozen BK101.out 0; have hfz18_1 := blk_frozen BK101.out 1
    go_upto_region 6 with (first | (refine gl_ 27 Tryz.func32 #[.agg #[.string a0_0, .string a0_1]] ?_; refine mo_ (r3_Split.calls a0_0 a0_1 t103 t104 t105 _ A15.out) ?_; intro w19 hb; replace BK101 := kb_ BK101 hb; replace HB := bs_ HB hb; (try clear hb); (try clear hb2); (try clear hk); (try clear hi)) | ((with_reducible refine gate_dst (N := 6) rfl ?_); refine be_ 6 #[.string (⟨#[]⟩ : ByteArray), .string (⟨#[]⟩ : ByteArray)] 23 ?_; intro gb106 hg w20 hbox hb; have BK106 := Aside0.mk (hbox); have GW106 := ge_ HB hg; have GE106 := ge_ HB hg; have NB101_106 := nl_ BK101 hg; have NB106_101 := ng_ BK101 hg; replace BK101 := kb_ BK101 hb; replace HB := bs_ HB hb; clear hb hbox hg; have hnb21 := NB106_101.out; have hnc21 := NB101_106.out; have hcz22_0 := bc_ BK106 0 rfl; have hcz22_1 := bc_ BK106 1 rfl; have hfz22_0 := blk_frozen BK106.out 0; have hfz22_1 := blk_frozen BK106.out 1) | (refine gl_ 31 Tryz.func33 #[.string t103, .string (⟨#[49]⟩ : ByteArray)] ?_; refine mo_ (r2_Add.calls t103 (⟨#[49]⟩ : ByteArray) t107 _ A16.out) ?_; intro w23 hb; replace BK101 := Aside0.mk (blk_below (g := gb101) (o := .cells #[.string a0_0, .string a0_1] 23 (0, 0)) (fr_ BK101.out) hb); replace BK106 := Aside0.mk (blk_below (g := gb106) (o := .cells #[.string t104, .string t105] 23 (0, 0)) (rp_ BK106.out) hb); replace HB := bs_ HB hb; (try clear hb); (try clear hb2); (try clear hk); (try clear hi)) | ((with_reducible refine gate_dst (N := 8) rfl ?_); refine be_ 8 #[.string (⟨#[]⟩ : ByteArray), .string (⟨#[]⟩ : ByteArray)] 23 ?_; intro gb108 hg w24 hbox hb; have BK108 := Aside0.mk (hbox); have GW108 := ge_ HB hg; have GE108 := ge_ HB hg; have NB101_108 := nl_ BK101 hg; have NB108_101 := ng_ BK101 hg; have NB106_108 := nl_ BK106 hg; have NB108_106 := ng_ BK106 hg; replace BK101 := kb_ BK101 hb; replace BK106 := kb_ BK106 hb; replace HB := bs_ HB hb; clear hb hbox hg) | ((with_reducible refine gate_dst (N := 9) rfl ?_); refine be_ 9 #[.string (⟨#[]⟩ : ByteArray), .string (⟨#[]⟩ : ByteArray)] 23 ?_; intro gb109 hg w25 hbox hb; have BK109 := Aside0.mk (hbox); have GW109 := ge_ HB hg; have GE109 := ge_ HB hg; have NB101_109 := nl_ BK101 hg; have NB109_101 := ng_ BK101 hg; have NB106_109 := nl_ BK106 hg; have NB109_106 := ng_ BK106 hg; have NB108_109 := nl_ BK108 hg; have NB109_108 := ng_ BK108 hg; replace BK101 := kb_ BK101 hb; replace BK106 := kb_ BK106 hb; replace BK108 := kb_ BK108 hb; replace HB := bs_ HB hb; clear hb hbox hg; have hnb26 := NB108_101.out; have hnc26 := NB101_108.out; have hnb27 := NB108_106.out; have hnc27 := NB106_108.out; have hnb28 := NB108_109.out; have hnc28 := NB109_108.out; have hcz29_0 := bc_ BK108 0 rfl; have hcz29_1 := bc_ BK108 1 rfl; have hfz29_0 := blk_frozen BK108.out 0; have hfz29_1 := blk_frozen BK108.out 1; have hnb30 := NB109_101.out; have hnc30 := NB101_109.out; have hnb31 := NB109_106.out; have hnc31 := NB106_109.out; have hcz32_0 := bc_ BK109 0 rfl; have hcz32_1 := bc_ BK109 1 rfl; have hfz32_0 := blk_frozen BK109.out 0; have hfz32_1 := blk_frozen BK109.out 1))
    (try simp only [Act.put, List.setIfInBounds_toArray, List.set_cons_zero, List.set_cons_succ])
    go_cut [42] (fun v42 wc => ∃ (kq : Nat) (x42_16 : Bool), v42 = .bool x42_16 ∧ Aside0 (r5_Whole.j1 kq a1 t103 t107 x42_16 a0_0 a0_1 t103 (⟨#[49]⟩ : ByteArray) t107 (⟨#[49]⟩ : ByteArray) = some r) ∧ Aside0 (kq ≤ kj2) ∧ Aside0 (wc.heap[gb101]? = some (.cells #[.string a0_0, .string a0_1] 23 (0, 0))) ∧ Aside0 (wc.heap[gb106]? = some (.cells #[.string t104, .string t105] 23 (0, 0))) ∧ Aside0 (wc.heap[gb108]? = some (.cells #[.string t103, .string (⟨#[49]⟩ : ByteArray)] 23 (0, 0))) ∧ Aside0 (wc.heap[gb109]? = some (.cells #[.string t107, .string (⟨#[49]⟩ : ByteArray)] 23 (0, 0))) ∧ Aside0 (Below w.heap.size w wc))
    case first =>
     have H := HC17.out; clear HC17; by_cases c33 : a1 = 0
     ·rw [if_pos c33] at H; have c33b0 : (a1 == 0) = true := beq_iff_eq.mpr c33; have c33b1 : (a1 != 0) = false := bne_eq_false_iff_eq.mpr c33; clear c33; (first | rw [c33b0] | (simp only [i64_w, i32_w]; rw [c33b0]) | skip); have H' := Aside0.mk H; clear H; go_wp2
      go_meet
      case rel => exact ⟨_, (true), rl_, H', ⟨by have := HJ2.out; first | omega | exact Nat.le_refl _⟩, ⟨fr_ BK101.out⟩, ⟨fr_ BK106.out⟩, ⟨by refine k_ ?_; refine blk_far ?_ NB108_109.out _; refine k_ ?_; refine blk_far ?_ NB108_109.out _; refine k_ ?_; refine blk_put (cs := #[.string t103, .string (⟨#[]⟩ : ByteArray)]) ?_ 1 _ rfl; refine k_ ?_; refine blk_put (cs := #[.string (⟨#[]⟩ : ByteArray), .string (⟨#[]⟩ : ByteArray)]) ?_ 0 _ rfl; refine k_ ?_; exact BK108.out⟩, ⟨by refine k_ ?_; refine blk_put (cs := #[.string t107, .string (⟨#[]⟩ : ByteArray)]) ?_ 1 _ rfl; refine k_ ?_; refine blk_put (cs := #[.string (⟨#[]⟩ : ByteArray), .string (⟨#[]⟩ : ByteArray)]) ?_ 0 _ rfl; refine k_ ?_; refine blk_far ?_ NB109_108.out _; refine k_ ?_; refine blk_far ?_ NB109_108.out _; refine k_ ?_; exact BK109.out⟩, ⟨b_ HB.out⟩⟩
     ·rw [if_neg c33] at H; have c33b0 : (a1 == 0) = false := beq_eq_false_iff_ne.mpr c33; have c33b1 : (a1 != 0) = true := bne_iff_ne.mpr c33; (first | rw [c33b0] | (simp only [i64_w, i32_w]; rw [c33b0]) | skip); have H' := Aside0.mk H; clear H; have hnb34 := NB108_101.out; have hnc34 := NB101_108.out; have hnb35 := NB108_106.out; have hnc35 := NB106_108.out; have hnb36 := NB108_109.out; have hnc36 := NB109_108.out; have hcz37_0 := bc_ BK108 0 rfl; have hcz37_1 := bc_ BK108 1 rfl; have hfz37_0 := blk_frozen BK108.out 0; have hfz37_1 := blk_frozen BK108.out 1; have hnb38 := NB101_106.out; have hnc38 := NB106_101.out; have hnb39 := NB101_109.out; have hnc39 := NB109_101.out; have hcz40_0 := bc_ BK101 0 rfl; have hcz40_1 := bc_ BK101 1 rfl; have hfz40_0 := blk_frozen BK101.out 0; have hfz40_1 := blk_frozen BK101.out 1; go_wp2
      go_meet
      case rel => exact ⟨_, ((t103.toList == a0_0.toList && (([49] : List UInt8) == a0_1.toList))), rl_, H', ⟨by have := HJ2.out; first | omega | exact Nat.le_refl _⟩, ⟨fr_ BK101.out⟩, ⟨fr_ BK106.out⟩, ⟨by refine k_ ?_; refine blk_far ?_ NB108_109.out _; refine k_ ?_; refine blk_far ?_ NB108_109.out _; refine k_ ?_; refine blk_put (cs := #[.string t103, .string (⟨#[]⟩ : ByteArray)]) ?_ 1 _ rfl; refine k_ ?_; refine blk_put (cs := #[.string (⟨#[]⟩ : ByteArray), .string (⟨#[]⟩ : ByteArray)]) ?_ 0 _ rfl; refine k_ ?_; exact BK108.out⟩, ⟨by refine k_ ?_; refine blk_put (cs := #[.string t107, .string (⟨#[]⟩ : ByteArray)]) ?_ 1 _ rfl; refine k_ ?_; refine blk_put (cs := #[.string (⟨#[]⟩ : ByteArray), .string (⟨#[]⟩ : ByteArray)]) ?_ 0 _ rfl; refine k_ ?_; refine blk_far ?_ NB109_108.out _; refine k_ ?_; refine blk_far ?_ NB109_108.out _; refine k_ ?_; exact BK109.out⟩, ⟨b_ HB.out⟩⟩
    case rest =>
     clear HC17; (try clear c1); (try clear c2); (try clear p2); (try clear c3); (try clear c6); (try clear c7); (try clear c7b0); (try clear c12); (try clear c14); (try clear c21); (try clear c22); (try clear c26); (try clear c27); (try clear c28); (try clear c30); (try clear c31); (try clear c32); (try clear c33); (try clear c33b0); (try clear c33b1); (try clear c34); (try clear c35); (try clear c36); (try clear c38); (try clear c39); (try clear hcz10_0); (try clear hcz10_1); (try clear hcz12_0); (try clear hcz12_1); (try clear hcz18_0); (try clear hcz18_1); (try clear hcz22_0); (try clear hcz22_1); (try clear hcz29_0); (try clear hcz29_1); (try clear hcz32_0); (try clear hcz32_1); (try clear hcz37_0); (try clear hcz37_1); (try clear hcz40_0); (try clear hcz40_1); (try clear hcz8_0); (try clear hcz8_1); (try clear hfz10_0); (try clear hfz10_1); (try clear hfz12_0); (try clear hfz12_1); (try clear hfz18_0); (try clear hfz18_1); (try clear hfz22_0); (try clear hfz22_1); (try clear hfz29_0); (try clear hfz29_1); (try clear hfz32_0); (try clear hfz32_1); (try clear hfz37_0); (try clear hfz37_1); (try clear hfz40_0); (try clear hfz40_1); (try clear hfz8_0); (try clear hfz8_1); (try clear p2); obtain ⟨kq, x42_16, rfl, HA, HJ16, BK101, BK106, BK108, BK109, HB⟩ := hcut
     cases kq with
     | zero => exact absurd HA.out (by simp [r5_Whole.j1])
     | succ kj16 =>
      have H := HA.out; clear HA; simp only [r5_Whole.j1] at H; by_cases c41 : x42_16 = true
      ·subst c41; rw [if_pos rfl] at H; obtain rfl := Option.some.inj H; go_wp2
       go_ret
       exact ⟨er_, b_ HB.out⟩
      ·replace c41 := Bool.eq_false_iff.mpr c41; subst c41; rw [if_neg nf_] at H; by_cases c42 : a1 = 1
       ·rw [if_pos c42] at H; have c42b0 : (a1 == 1) = true := beq_iff_eq.mpr c42; have c42b1 : (a1 != 1) = false := bne_eq_false_iff_eq.mpr c42; clear c42; obtain ⟨t110, A43, H⟩ := bi_ H; by_cases c44 : t110 < 0
        ·rw [if_pos c44] at H; have c44b0 : decide (t110 < 0) = true := decide_eq_true c44; clear c44; obtain rfl := Option.some.inj H; have hnb45 := NB101_106.out; have hnc45 := NB106_101.out; have hnb46 := NB101_108.out; have hnc46 := NB108_101.out; have hnb47 := NB101_109.out; have hnc47 := NB109_101.out; have hcz48_0 := bc_ BK101 0 rfl; have hcz48_1 := bc_ BK101 1 rfl; have hfz48_0 := blk_frozen BK101.out 0; have hfz48_1 := blk_frozen BK101.out 1
         go_wp2_with (first | (refine gl_ 47 Tryz.func18 #[.agg #[.string a0_0, .string a0_1]] ?_; refine mo_ (r3_Sign.calls a0_0 a0_1 t110 _ A43.out) ?_; intro w49 hb; replace BK101 := kb_ BK101 hb; replace BK106 := kb_ BK106 hb; replace BK108 := kb_ BK108 hb; replace BK109 := kb_ BK109 hb; replace HB := bs_ HB hb; (try clear hb); (try clear hb2); (try clear hk); (try clear hi)))
         go_ret
         exact ⟨er_, b_ HB.out⟩
        ·rw [if_neg c44] at H; have c44b0 : decide (t110 < 0) = false := decide_eq_false c44; clear c44; obtain rfl := Option.some.inj H; have hnb50 := NB101_106.out; have hnc50 := NB106_101.out; have hnb51 := NB101_108.out; have hnc51 := NB108_101.out; have hnb52 := NB101_109.out; have hnc52 := NB109_101.out; have hcz53_0 := bc_ BK101 0 rfl; have hcz53_1 := bc_ BK101 1 rfl; have hfz53_0 := blk_frozen BK101.out 0; have hfz53_1 := blk_frozen BK101.out 1
         go_wp2_with (first | (refine gl_ 47 Tryz.func18 #[.agg #[.string a0_0, .string a0_1]] ?_; refine mo_ (r3_Sign.calls a0_0 a0_1 t110 _ A43.out) ?_; intro w54 hb; replace BK101 := kb_ BK101 hb; replace BK106 := kb_ BK106 hb; replace BK108 := kb_ BK108 hb; replace BK109 := kb_ BK109 hb; replace HB := bs_ HB hb; (try clear hb); (try clear hb2); (try clear hk); (try clear hi)))
         go_ret
         exact ⟨er_, b_ HB.out⟩
       ·rw [if_neg c42] at H; have c42b0 : (a1 == 1) = false := beq_eq_false_iff_ne.mpr c42; have c42b1 : (a1 != 1) = true := bne_iff_ne.mpr c42; obtain ⟨⟨t111, t112⟩, A55, H⟩ := bi_ H; (try dsimp only at H); obtain ⟨⟨t113, t114⟩, A56, H⟩ := bi_ H; (try dsimp only at H); obtain ⟨t115, A57, H⟩ := bi_ H; obtain ⟨⟨t116, t117, t118⟩, A58, H⟩ := bi_ H; (try dsimp only at H); by_cases c59 : t115 < 0
        ·rw [if_pos c59] at H; have c59b0 : decide (t115 < 0) = true := decide_eq_true c59; clear c59; obtain rfl := Option.some.inj H
         try go_wp2
         replace BK101 := Aside0.mk (blk_drew BK101.out); replace BK106 := Aside0.mk (blk_drew BK106.out); replace BK108 := Aside0.mk (blk_drew BK108.out); replace BK109 := Aside0.mk (blk_drew BK109.out); replace HB := Aside0.mk (below_drew1 HB.out); refine sa_ 8 (fun w' => w'.cell? ⟨gb101, 0, none⟩ = some (.string a0_0) ∧ w'.cell? ⟨gb101, 1, none⟩ = some (.string a0_1) ∧ w'.cell? ⟨gb108, 0, none⟩ = some (.string t103) ∧ w'.cell? ⟨gb108, 1, none⟩ = some (.string (⟨#[49]⟩ : ByteArray)) ∧ w'.cell? ⟨gb109, 0, none⟩ = some (.string t107) ∧ w'.cell? ⟨gb109, 1, none⟩ = some (.string (⟨#[49]⟩ : ByteArray))) (fun hHeld => ?_); refine with_tabW r5_Whole.tab12 r5_Whole.bits12 (fun HT_ HW_ => ?_); generalize wc.drew = w60 at BK101 BK106 BK108 BK109 HB hHeld ⊢; refine t6_ 0 51 rfl rfl HT_ HW_ hHeld ?_; refine t6_ 1 52 rfl rfl HT_ HW_ hHeld ?_; refine t6_ 3 54 rfl rfl HT_ HW_ hHeld ?_; refine t6_ 4 55 rfl rfl HT_ HW_ hHeld ?_; refine on_ 2 (some 53) rfl rfl HT_ (fun K hK => ?_); refine gs_ Tryz.func20 #[.agg #[.string a0_0, .string a0_1], .agg #[.string t103, .string (⟨#[49]⟩ : ByteArray)]] ?_; refine mo_ (r3_Sub.calls a0_0 a0_1 t103 (⟨#[49]⟩ : ByteArray) t111 t112 _ A55.out) ?_; intro w61 hb; replace BK101 := kb_ BK101 hb; replace BK106 := kb_ BK106 hb; replace BK108 := kb_ BK108 hb; replace BK109 := kb_ BK109 hb; replace HB := bs_ HB hb; (try clear hb); refine hk_ hK (fun hHeld => ?_); clear hK K; refine nm_ ?_; refine on_ 5 (some 56) rfl rfl HT_ (fun K hK => ?_); refine gs_ Tryz.func20 #[.agg #[.string t107, .string (⟨#[49]⟩ : ByteArray)], .agg #[.string a0_0, .string a0_1]] ?_; refine mo_ (r3_Sub.calls t107 (⟨#[49]⟩ : ByteArray) a0_0 a0_1 t113 t114 _ A56.out) ?_; intro w62 hb; replace BK101 := kb_ BK101 hb; replace BK106 := kb_ BK106 hb; replace BK108 := kb_ BK108 hb; replace BK109 := kb_ BK109 hb; replace HB := bs_ HB hb; (try clear hb); refine hk_ hK (fun hHeld => ?_); clear hK K; refine nm_ ?_; refine on_ 6 (some 57) rfl rfl HT_ (fun K hK => ?_); refine gs_ Tryz.func23 #[.agg #[.string t111, .string t112], .agg #[.string t113, .string t114]] ?_; refine mo_ (r3_Cmp.calls t111 t112 t113 t114 t115 _ A57.out) ?_; intro w63 hb; replace BK101 := kb_ BK101 hb; replace BK106 := kb_ BK106 hb; replace BK108 := kb_ BK108 hb; replace BK109 := kb_ BK109 hb; replace HB := bs_ HB hb; (try clear hb); refine hk_ hK (fun hHeld => ?_); clear hK K; refine nm_ ?_; refine pu_ 7 10 rfl rfl HT_ ?_; refine done_ (done_of HT_.out (by kernel_rfl)) ?_
         try go_wp2_with (first | (refine gl_ 60 Tryz.func34 #[.string t103, .string (⟨#[50]⟩ : ByteArray)] ?_; refine mo_ (r2_Div.calls t103 (⟨#[50]⟩ : ByteArray) t116 t117 t118 _ A58.out) ?_; intro w64 hb; replace BK101 := kb_ BK101 hb; replace BK106 := kb_ BK106 hb; replace BK108 := kb_ BK108 hb; replace BK109 := kb_ BK109 hb; replace HB := bs_ HB hb; (try clear hb); (try clear hb2); (try clear hk); (try clear hi)))
         go_ret
         exact ⟨er_, b_ HB.out⟩
        ·rw [if_neg c59] at H; have c59b0 : decide (t115 < 0) = false := decide_eq_false c59; clear c59; by_cases c65 : t115 = 0
         ·rw [if_pos c65] at H; have c65b0 : (t115 == 0) = true := beq_iff_eq.mpr c65; have c65b1 : (t115 != 0) = false := bne_eq_false_iff_eq.mpr c65; clear c65; by_cases c66 : t117.toList = ([48] : List UInt8)
          ·rw [if_pos c66] at H; have c66b0 : (t117.toList == ([48] : List UInt8)) = true := beq_iff_eq.mpr c66; have c66b1 : (t117.toList != ([48] : List UInt8)) = false := bne_eq_false_iff_eq.mpr c66; clear c66; obtain rfl := Option.some.inj H
           try go_wp2
           replace BK101 := Aside0.mk (blk_drew BK101.out); replace BK106 := Aside0.mk (blk_drew BK106.out); replace BK108 := Aside0.mk (blk_drew BK108.out); replace BK109 := Aside0.mk (blk_drew BK109.out); replace HB := Aside0.mk (below_drew1 HB.out); refine sa_ 8 (fun w' => w'.cell? ⟨gb101, 0, none⟩ = some (.string a0_0) ∧ w'.cell? ⟨gb101, 1, none⟩ = some (.string a0_1) ∧ w'.cell? ⟨gb108, 0, none⟩ = some (.string t103) ∧ w'.cell? ⟨gb108, 1, none⟩ = some (.string (⟨#[49]⟩ : ByteArray)) ∧ w'.cell? ⟨gb109, 0, none⟩ = some (.string t107) ∧ w'.cell? ⟨gb109, 1, none⟩ = some (.string (⟨#[49]⟩ : ByteArray))) (fun hHeld => ?_); refine with_tabW r5_Whole.tab12 r5_Whole.bits12 (fun HT_ HW_ => ?_); generalize wc.drew = w67 at BK101 BK106 BK108 BK109 HB hHeld ⊢; refine t6_ 0 51 rfl rfl HT_ HW_ hHeld ?_; refine t6_ 1 52 rfl rfl HT_ HW_ hHeld ?_; refine t6_ 3 54 rfl rfl HT_ HW_ hHeld ?_; refine t6_ 4 55 rfl rfl HT_ HW_ hHeld ?_; refine on_ 2 (some 53) rfl rfl HT_ (fun K hK => ?_); refine gs_ Tryz.func20 #[.agg #[.string a0_0, .string a0_1], .agg #[.string t103, .string (⟨#[49]⟩ : ByteArray)]] ?_; refine mo_ (r3_Sub.calls a0_0 a0_1 t103 (⟨#[49]⟩ : ByteArray) t111 t112 _ A55.out) ?_; intro w68 hb; replace BK101 := kb_ BK101 hb; replace BK106 := kb_ BK106 hb; replace BK108 := kb_ BK108 hb; replace BK109 := kb_ BK109 hb; replace HB := bs_ HB hb; (try clear hb); refine hk_ hK (fun hHeld => ?_); clear hK K; refine nm_ ?_; refine on_ 5 (some 56) rfl rfl HT_ (fun K hK => ?_); refine gs_ Tryz.func20 #[.agg #[.string t107, .string (⟨#[49]⟩ : ByteArray)], .agg #[.string a0_0, .string a0_1]] ?_; refine mo_ (r3_Sub.calls t107 (⟨#[49]⟩ : ByteArray) a0_0 a0_1 t113 t114 _ A56.out) ?_; intro w69 hb; replace BK101 := kb_ BK101 hb; replace BK106 := kb_ BK106 hb; replace BK108 := kb_ BK108 hb; replace BK109 := kb_ BK109 hb; replace HB := bs_ HB hb; (try clear hb); refine hk_ hK (fun hHeld => ?_); clear hK K; refine nm_ ?_; refine on_ 6 (some 57) rfl rfl HT_ (fun K hK => ?_); refine gs_ Tryz.func23 #[.agg #[.string t111, .string t112], .agg #[.string t113, .string t114]] ?_; refine mo_ (r3_Cmp.calls t111 t112 t113 t114 t115 _ A57.out) ?_; intro w70 hb; replace BK101 := kb_ BK101 hb; replace BK106 := kb_ BK106 hb; replace BK108 := kb_ BK108 hb; replace BK109 := kb_ BK109 hb; replace HB := bs_ HB hb; (try clear hb); refine hk_ hK (fun hHeld => ?_); clear hK K; refine nm_ ?_; refine pu_ 7 10 rfl rfl HT_ ?_; refine done_ (done_of HT_.out (by kernel_rfl)) ?_
           try go_wp2_with (first | (refine gl_ 60 Tryz.func34 #[.string t103, .string (⟨#[50]⟩ : ByteArray)] ?_; refine mo_ (r2_Div.calls t103 (⟨#[50]⟩ : ByteArray) t116 t117 t118 _ A58.out) ?_; intro w71 hb; replace BK101 := kb_ BK101 hb; replace BK106 := kb_ BK106 hb; replace BK108 := kb_ BK108 hb; replace BK109 := kb_ BK109 hb; replace HB := bs_ HB hb; (try clear hb); (try clear hb2); (try clear hk); (try clear hi)))
           go_ret
           exact ⟨er_, b_ HB.out⟩
          ·rw [if_neg c66] at H; have c66b0 : (t117.toList == ([48] : List UInt8)) = false := beq_eq_false_iff_ne.mpr c66; have c66b1 : (t117.toList != ([48] : List UInt8)) = true := bne_iff_ne.mpr c66; obtain rfl := Option.some.inj H
           try go_wp2
           replace BK101 := Aside0.mk (blk_drew BK101.out); replace BK106 := Aside0.mk (blk_drew BK106.out); replace BK108 := Aside0.mk (blk_drew BK108.out); replace BK109 := Aside0.mk (blk_drew BK109.out); replace HB := Aside0.mk (below_drew1 HB.out); refine sa_ 8 (fun w' => w'.cell? ⟨gb101, 0, none⟩ = some (.string a0_0) ∧ w'.cell? ⟨gb101, 1, none⟩ = some (.string a0_1) ∧ w'.cell? ⟨gb108, 0, none⟩ = some (.string t103) ∧ w'.cell? ⟨gb108, 1, none⟩ = some (.string (⟨#[49]⟩ : ByteArray)) ∧ w'.cell? ⟨gb109, 0, none⟩ = some (.string t107) ∧ w'.cell? ⟨gb109, 1, none⟩ = some (.string (⟨#[49]⟩ : ByteArray))) (fun hHeld => ?_); refine with_tabW r5_Whole.tab12 r5_Whole.bits12 (fun HT_ HW_ => ?_); generalize wc.drew = w72 at BK101 BK106 BK108 BK109 HB hHeld ⊢; refine t6_ 0 51 rfl rfl HT_ HW_ hHeld ?_; refine t6_ 1 52 rfl rfl HT_ HW_ hHeld ?_; refine t6_ 3 54 rfl rfl HT_ HW_ hHeld ?_; refine t6_ 4 55 rfl rfl HT_ HW_ hHeld ?_; refine on_ 2 (some 53) rfl rfl HT_ (fun K hK => ?_); refine gs_ Tryz.func20 #[.agg #[.string a0_0, .string a0_1], .agg #[.string t103, .string (⟨#[49]⟩ : ByteArray)]] ?_; refine mo_ (r3_Sub.calls a0_0 a0_1 t103 (⟨#[49]⟩ : ByteArray) t111 t112 _ A55.out) ?_; intro w73 hb; replace BK101 := kb_ BK101 hb; replace BK106 := kb_ BK106 hb; replace BK108 := kb_ BK108 hb; replace BK109 := kb_ BK109 hb; replace HB := bs_ HB hb; (try clear hb); refine hk_ hK (fun hHeld => ?_); clear hK K; refine nm_ ?_; refine on_ 5 (some 56) rfl rfl HT_ (fun K hK => ?_); refine gs_ Tryz.func20 #[.agg #[.string t107, .string (⟨#[49]⟩ : ByteArray)], .agg #[.string a0_0, .string a0_1]] ?_; refine mo_ (r3_Sub.calls t107 (⟨#[49]⟩ : ByteArray) a0_0 a0_1 t113 t114 _ A56.out) ?_; intro w74 hb; replace BK101 := kb_ BK101 hb; replace BK106 := kb_ BK106 hb; replace BK108 := kb_ BK108 hb; replace BK109 := kb_ BK109 hb; replace HB := bs_ HB hb; (try clear hb); refine hk_ hK (fun hHeld => ?_); clear hK K; refine nm_ ?_; refine on_ 6 (some 57) rfl rfl HT_ (fun K hK => ?_); refine gs_ Tryz.func23 #[.agg #[.string t111, .string t112], .agg #[.string t113, .string t114]] ?_; refine mo_ (r3_Cmp.calls t111 t112 t113 t114 t115 _ A57.out) ?_; intro w75 hb; replace BK101 := kb_ BK101 hb; replace BK106 := kb_ BK106 hb; replace BK108 := kb_ BK108 hb; replace BK109 := kb_ BK109 hb; replace HB := bs_ HB hb; (try clear hb); refine hk_ hK (fun hHeld => ?_); clear hK K; refine nm_ ?_; refine pu_ 7 10 rfl rfl HT_ ?_; refine done_ (done_of HT_.out (by kernel_rfl)) ?_
           try go_wp2_with (first | (refine gl_ 60 Tryz.func34 #[.string t103, .string (⟨#[50]⟩ : ByteArray)] ?_; refine mo_ (r2_Div.calls t103 (⟨#[50]⟩ : ByteArray) t116 t117 t118 _ A58.out) ?_; intro w76 hb; replace BK101 := kb_ BK101 hb; replace BK106 := kb_ BK106 hb; replace BK108 := kb_ BK108 hb; replace BK109 := kb_ BK109 hb; replace HB := bs_ HB hb; (try clear hb); (try clear hb2); (try clear hk); (try clear hi)))
           go_ret
           exact ⟨er_, b_ HB.out⟩
         ·rw [if_neg c65] at H; have c65b0 : (t115 == 0) = false := beq_eq_false_iff_ne.mpr c65; have c65b1 : (t115 != 0) = true := bne_iff_ne.mpr c65; obtain rfl := Option.some.inj H
          try go_wp2
          replace BK101 := Aside0.mk (blk_drew BK101.out); replace BK106 := Aside0.mk (blk_drew BK106.out); replace BK108 := Aside0.mk (blk_drew BK108.out); replace BK109 := Aside0.mk (blk_drew BK109.out); replace HB := Aside0.mk (below_drew1 HB.out); refine sa_ 8 (fun w' => w'.cell? ⟨gb101, 0, none⟩ = some (.string a0_0) ∧ w'.cell? ⟨gb101, 1, none⟩ = some (.string a0_1) ∧ w'.cell? ⟨gb108, 0, none⟩ = some (.string t103) ∧ w'.cell? ⟨gb108, 1, none⟩ = some (.string (⟨#[49]⟩ : ByteArray)) ∧ w'.cell? ⟨gb109, 0, none⟩ = some (.string t107) ∧ w'.cell? ⟨gb109, 1, none⟩ = some (.string (⟨#[49]⟩ : ByteArray))) (fun hHeld => ?_); refine with_tabW r5_Whole.tab12 r5_Whole.bits12 (fun HT_ HW_ => ?_); generalize wc.drew = w77 at BK101 BK106 BK108 BK109 HB hHeld ⊢; refine t6_ 0 51 rfl rfl HT_ HW_ hHeld ?_; refine t6_ 1 52 rfl rfl HT_ HW_ hHeld ?_; refine t6_ 3 54 rfl rfl HT_ HW_ hHeld ?_; refine t6_ 4 55 rfl rfl HT_ HW_ hHeld ?_; refine on_ 2 (some 53) rfl rfl HT_ (fun K hK => ?_); refine gs_ Tryz.func20 #[.agg #[.string a0_0, .string a0_1], .agg #[.string t103, .string (⟨#[49]⟩ : ByteArray)]] ?_; refine mo_ (r3_Sub.calls a0_0 a0_1 t103 (⟨#[49]⟩ : ByteArray) t111 t112 _ A55.out) ?_; intro w78 hb; replace BK101 := kb_ BK101 hb; replace BK106 := kb_ BK106 hb; replace BK108 := kb_ BK108 hb; replace BK109 := kb_ BK109 hb; replace HB := bs_ HB hb; (try clear hb); refine hk_ hK (fun hHeld => ?_); clear hK K; refine nm_ ?_; refine on_ 5 (some 56) rfl rfl HT_ (fun K hK => ?_); refine gs_ Tryz.func20 #[.agg #[.string t107, .string (⟨#[49]⟩ : ByteArray)], .agg #[.string a0_0, .string a0_1]] ?_; refine mo_ (r3_Sub.calls t107 (⟨#[49]⟩ : ByteArray) a0_0 a0_1 t113 t114 _ A56.out) ?_; intro w79 hb; replace BK101 := kb_ BK101 hb; replace BK106 := kb_ BK106 hb; replace BK108 := kb_ BK108 hb; replace BK109 := kb_ BK109 hb; replace HB := bs_ HB hb; (try clear hb); refine hk_ hK (fun hHeld => ?_); clear hK K; refine nm_ ?_; refine on_ 6 (some 57) rfl rfl HT_ (fun K hK => ?_); refine gs_ Tryz.func23 #[.agg #[.string t111, .string t112], .agg #[.string t113, .string t114]] ?_; refine mo_ (r3_Cmp.calls t111 t112 t113 t114 t115 _ A57.out) ?_; intro w80 hb; replace BK101 := kb_ BK101 hb; replace BK106 := kb_ BK106 hb; replace BK108 := kb_ BK108 hb; replace BK109 := kb_ BK109 hb; replace HB := bs_ HB hb; (try clear hb); refine hk_ hK (fun hHeld => ?_); clear hK K; refine nm_ ?_; refine pu_ 7 10 rfl rfl HT_ ?_; refine done_ (done_of HT_.out (by kernel_rfl)) ?_
          try go_wp2_with (first | (refine gl_ 60 Tryz.func34 #[.string t103, .string (⟨#[50]⟩ : ByteArray)] ?_; refine mo_ (r2_Div.calls t103 (⟨#[50]⟩ : ByteArray) t116 t117 t118 _ A58.out) ?_; intro w81 hb; replace BK101 := kb_ BK101 hb; replace BK106 := kb_ BK106 hb; replace BK108 := kb_ BK108 hb; replace BK109 := kb_ BK109 hb; replace HB := bs_ HB hb; (try clear hb); (try clear hb2); (try clear hk); (try clear hi)))
          go_ret
          exact ⟨er_, b_ HB.out⟩
end Go.Proofs.YtmfcpapfikbomaaGreatDoor.Ph
end

section
namespace Go.Proofs.YtmfcpapfikbomaaGreatDoor.Ph
def r5_Round.f (k : Nat) (a0_0 : ByteArray) (a0_1 : ByteArray) (a1_0 : ByteArray) (a1_1 : ByteArray) (a2 : Int) : Option (ByteArray × ByteArray) := (r3_Sign.f a1_0 a1_1).bind fun t122 => (if t122 ≤ 0 then (some ((⟨#[]⟩ : ByteArray), (⟨#[]⟩ : ByteArray))) else ((r3_Div.f a0_0 a0_1 a1_0 a1_1).bind fun bt123 => ((r5_Whole.f k bt123.1 bt123.2.1 a2).bind fun t127 => (if t127.toList = ([] : List UInt8) then (some ((⟨#[]⟩ : ByteArray), (⟨#[]⟩ : ByteArray))) else ((r3_Mul.f t127 (⟨#[49]⟩ : ByteArray) a1_0 a1_1).bind fun bt128 => (some (bt128.1, bt128.2)))))))
set_option maxHeartbeats 8000000 in
set_option maxRecDepth 100000 in
theorem r5_Round.calls (k : Nat) (a0_0 : ByteArray) (a0_1 : ByteArray) (a1_0 : ByteArray) (a1_1 : ByteArray) (a2 : Int) (r1 : ByteArray) (r2 : ByteArray) (w : World) (h : r5_Round.f k a0_0 a0_1 a1_0 a1_1 a2 = some (r1, r2)) :
  Calls Tryz.prog 14 #[.agg #[.string a0_0, .string a0_1], .agg #[.string a1_0, .string a1_1], .int .i64 a2] w fun e w' => e = .returned (.agg #[.string r1, .string r2]) ∧ Below w.heap.size w w' := by
 have hu23 := Tryz.underlying23; have HB := Aside0.mk (Below.refl w.heap.size w); have H := h; unfold r5_Round.f at H; clear h; obtain ⟨t122, A4, H⟩ := bi_ H; by_cases c5 : t122 ≤ 0
 ·rw [if_pos c5] at H; have c5b0 : decide (t122 ≤ 0) = true := decide_eq_true c5; clear c5; simp only [Option.some.injEq, Prod.mk.injEq] at H; obtain ⟨rfl, rfl⟩ := H; go_enter Tryz.func14, Tryz.ntmps14
  go_wp2_with (first | ((with_reducible refine gate_dst (N := 3) rfl ?_); refine be_ 3 #[.string a0_0, .string a0_1] 23 ?_; intro gb119 hg w6 hbox hb; have BK119 := Aside0.mk (hbox); have GW119 := ge_ HB hg; have GE119 := ge_ HB hg; replace HB := bs_ HB hb; clear hb hbox hg) | ((with_reducible refine gate_dst (N := 4) rfl ?_); refine be_ 4 #[.string a1_0, .string a1_1] 23 ?_; intro gb120 hg w7 hbox hb; have BK120 := Aside0.mk (hbox); have GW120 := ge_ HB hg; have GE120 := ge_ HB hg; have NB119_120 := nl_ BK119 hg; have NB120_119 := ng_ BK119 hg; replace BK119 := kb_ BK119 hb; replace HB := bs_ HB hb; clear hb hbox hg) | ((with_reducible refine gate_dst (N := 6) rfl ?_); refine be_ 6 #[.string (⟨#[]⟩ : ByteArray), .string (⟨#[]⟩ : ByteArray)] 23 ?_; intro gb121 hg w8 hbox hb; have BK121 := Aside0.mk (hbox); have GW121 := ge_ HB hg; have GE121 := ge_ HB hg; have NB119_121 := nl_ BK119 hg; have NB121_119 := ng_ BK119 hg; have NB120_121 := nl_ BK120 hg; have NB121_120 := ng_ BK120 hg; replace BK119 := kb_ BK119 hb; replace BK120 := kb_ BK120 hb; replace HB := bs_ HB hb; clear hb hbox hg; have hnb9 := NB120_119.out; have hnc9 := NB119_120.out; have hnb10 := NB120_121.out; have hnc10 := NB121_120.out; have hcz11_0 := bc_ BK120 0 rfl; have hcz11_1 := bc_ BK120 1 rfl; have hfz11_0 := blk_frozen BK120.out 0; have hfz11_1 := blk_frozen BK120.out 1) | (refine gl_ 11 Tryz.func18 #[.agg #[.string a1_0, .string a1_1]] ?_; refine mo_ (r3_Sign.calls a1_0 a1_1 t122 _ A4.out) ?_; intro w12 hb; replace BK119 := kb_ BK119 hb; replace BK120 := kb_ BK120 hb; replace BK121 := kb_ BK121 hb; replace HB := bs_ HB hb; (try clear hb); (try clear hb2); (try clear hk); (try clear hi); have hnb13 := NB121_119.out; have hnc13 := NB119_121.out; have hcz14_0 := bc_ BK121 0 rfl; have hcz14_1 := bc_ BK121 1 rfl; have hfz14_0 := blk_frozen BK121.out 0; have hfz14_1 := blk_frozen BK121.out 1))
  refine bodyPost_ret (results_cell_row rfl _ _ gb121 23 #[.string (⟨#[]⟩ : ByteArray), .string (⟨#[]⟩ : ByteArray)] (0, 0) _ rfl (rp_ BK121.out) Tryz.underlying23 rfl (by kernel_rfl)) rfl ?_; exact ⟨er_, b_ HB.out⟩
 ·rw [if_neg c5] at H; have c5b0 : decide (t122 ≤ 0) = false := decide_eq_false c5; clear c5; obtain ⟨⟨t123, t124, t125⟩, A15, H⟩ := bi_ H; (try dsimp only at H); obtain ⟨t127, A16, H⟩ := bi_ H; by_cases c17 : t127.toList = ([] : List UInt8)
  ·rw [if_pos c17] at H; have c17b0 : (t127.toList == ([] : List UInt8)) = true := beq_iff_eq.mpr c17; have c17b1 : (t127.toList != ([] : List UInt8)) = false := bne_eq_false_iff_eq.mpr c17; clear c17; simp only [Option.some.injEq, Prod.mk.injEq] at H; obtain ⟨rfl, rfl⟩ := H; go_enter Tryz.func14, Tryz.ntmps14
   go_wp2_with (first | ((with_reducible refine gate_dst (N := 3) rfl ?_); refine be_ 3 #[.string a0_0, .string a0_1] 23 ?_; intro gb119 hg w18 hbox hb; have BK119 := Aside0.mk (hbox); have GW119 := ge_ HB hg; have GE119 := ge_ HB hg; replace HB := bs_ HB hb; clear hb hbox hg) | ((with_reducible refine gate_dst (N := 4) rfl ?_); refine be_ 4 #[.string a1_0, .string a1_1] 23 ?_; intro gb120 hg w19 hbox hb; have BK120 := Aside0.mk (hbox); have GW120 := ge_ HB hg; have GE120 := ge_ HB hg; have NB119_120 := nl_ BK119 hg; have NB120_119 := ng_ BK119 hg; replace BK119 := kb_ BK119 hb; replace HB := bs_ HB hb; clear hb hbox hg) | ((with_reducible refine gate_dst (N := 6) rfl ?_); refine be_ 6 #[.string (⟨#[]⟩ : ByteArray), .string (⟨#[]⟩ : ByteArray)] 23 ?_; intro gb121 hg w20 hbox hb; have BK121 := Aside0.mk (hbox); have GW121 := ge_ HB hg; have GE121 := ge_ HB hg; have NB119_121 := nl_ BK119 hg; have NB121_119 := ng_ BK119 hg; have NB120_121 := nl_ BK120 hg; have NB121_120 := ng_ BK120 hg; replace BK119 := kb_ BK119 hb; replace BK120 := kb_ BK120 hb; replace HB := bs_ HB hb; clear hb hbox hg; have hnb21 := NB120_119.out; have hnc21 := NB119_120.out; have hnb22 := NB120_121.out; have hnc22 := NB121_120.out; have hcz23_0 := bc_ BK120 0 rfl; have hcz23_1 := bc_ BK120 1 rfl; have hfz23_0 := blk_frozen BK120.out 0; have hfz23_1 := blk_frozen BK120.out 1) | (refine gl_ 11 Tryz.func18 #[.agg #[.string a1_0, .string a1_1]] ?_; refine mo_ (r3_Sign.calls a1_0 a1_1 t122 _ A4.out) ?_; intro w24 hb; replace BK119 := kb_ BK119 hb; replace BK120 := kb_ BK120 hb; replace BK121 := kb_ BK121 hb; replace HB := bs_ HB hb; (try clear hb); (try clear hb2); (try clear hk); (try clear hi); have hnb25 := NB119_121.out; have hnc25 := NB121_119.out; have hcz26_0 := bc_ BK119 0 rfl; have hcz26_1 := bc_ BK119 1 rfl; have hfz26_0 := blk_frozen BK119.out 0; have hfz26_1 := blk_frozen BK119.out 1; have hcz27_0 := bc_ BK120 0 rfl; have hcz27_1 := bc_ BK120 1 rfl; have hfz27_0 := blk_frozen BK120.out 0; have hfz27_1 := blk_frozen BK120.out 1) | (refine gl_ 17 Tryz.func19 #[.agg #[.string a0_0, .string a0_1], .agg #[.string a1_0, .string a1_1]] ?_; refine mo_ (r3_Div.calls a0_0 a0_1 a1_0 a1_1 t123 t124 t125 _ A15.out) ?_; intro w28 hb; replace BK119 := kb_ BK119 hb; replace BK120 := kb_ BK120 hb; replace BK121 := kb_ BK121 hb; replace HB := bs_ HB hb; (try clear hb); (try clear hb2); (try clear hk); (try clear hi)) | ((with_reducible refine gate_dst (N := 7) rfl ?_); refine be_ 7 #[.string (⟨#[]⟩ : ByteArray), .string (⟨#[]⟩ : ByteArray)] 23 ?_; intro gb126 hg w29 hbox hb; have BK126 := Aside0.mk (hbox); have GW126 := ge_ HB hg; have GE126 := ge_ HB hg; have NB119_126 := nl_ BK119 hg; have NB126_119 := ng_ BK119 hg; have NB120_126 := nl_ BK120 hg; have NB126_120 := ng_ BK120 hg; have NB121_126 := nl_ BK121 hg; have NB126_121 := ng_ BK121 hg; replace BK119 := kb_ BK119 hb; replace BK120 := kb_ BK120 hb; replace BK121 := kb_ BK121 hb; replace HB := bs_ HB hb; clear hb hbox hg; have hnb30 := NB126_119.out; have hnc30 := NB119_126.out; have hnb31 := NB126_120.out; have hnc31 := NB120_126.out; have hnb32 := NB126_121.out; have hnc32 := NB121_126.out; have hcz33_0 := bc_ BK126 0 rfl; have hcz33_1 := bc_ BK126 1 rfl; have hfz33_0 := blk_frozen BK126.out 0; have hfz33_1 := blk_frozen BK126.out 1) | (refine gl_ 22 Tryz.func12 #[.agg #[.string t123, .string t124], .int .i64 a2] ?_; refine mo_ (r5_Whole.calls k t123 t124 a2 t127 _ A16.out) ?_; intro w34 hb; replace BK119 := Aside0.mk (blk_below (g := gb119) (o := .cells #[.string a0_0, .string a0_1] 23 (0, 0)) (fr_ BK119.out) hb); replace BK120 := Aside0.mk (blk_below (g := gb120) (o := .cells #[.string a1_0, .string a1_1] 23 (0, 0)) (fr_ BK120.out) hb); replace BK121 := Aside0.mk (blk_below (g := gb121) (o := .cells #[.string (⟨#[]⟩ : ByteArray), .string (⟨#[]⟩ : ByteArray)] 23 (0, 0)) (fr_ BK121.out) hb); replace BK126 := Aside0.mk (blk_below (g := gb126) (o := .cells #[.string t123, .string t124] 23 (0, 0)) (rp_ BK126.out) hb); replace HB := bs_ HB hb; (try clear hb); (try clear hb2); (try clear hk); (try clear hi); have hcz35_0 := bc_ BK121 0 rfl; have hcz35_1 := bc_ BK121 1 rfl; have hfz35_0 := blk_frozen BK121.out 0; have hfz35_1 := blk_frozen BK121.out 1))
   refine bodyPost_ret (results_cell_row rfl _ _ gb121 23 #[.string (⟨#[]⟩ : ByteArray), .string (⟨#[]⟩ : ByteArray)] (0, 0) _ rfl (rp_ BK121.out) Tryz.underlying23 rfl (by kernel_rfl)) rfl ?_; exact ⟨er_, b_ HB.out⟩
  ·rw [if_neg c17] at H; have c17b0 : (t127.toList == ([] : List UInt8)) = false := beq_eq_false_iff_ne.mpr c17; have c17b1 : (t127.toList != ([] : List UInt8)) = true := bne_iff_ne.mpr c17; obtain ⟨⟨t128, t129⟩, A36, H⟩ := bi_ H; (try dsimp only at H); simp only [Option.some.injEq, Prod.mk.injEq] at H; obtain ⟨rfl, rfl⟩ := H; go_enter Tryz.func14, Tryz.ntmps14
   go_wp2_with (first | ((with_reducible refine gate_dst (N := 3) rfl ?_); refine be_ 3 #[.string a0_0, .string a0_1] 23 ?_; intro gb119 hg w37 hbox hb; have BK119 := Aside0.mk (hbox); have GW119 := ge_ HB hg; have GE119 := ge_ HB hg; replace HB := bs_ HB hb; clear hb hbox hg) | ((with_reducible refine gate_dst (N := 4) rfl ?_); refine be_ 4 #[.string a1_0, .string a1_1] 23 ?_; intro gb120 hg w38 hbox hb; have BK120 := Aside0.mk (hbox); have GW120 := ge_ HB hg; have GE120 := ge_ HB hg; have NB119_120 := nl_ BK119 hg; have NB120_119 := ng_ BK119 hg; replace BK119 := kb_ BK119 hb; replace HB := bs_ HB hb; clear hb hbox hg) | ((with_reducible refine gate_dst (N := 6) rfl ?_); refine be_ 6 #[.string (⟨#[]⟩ : ByteArray), .string (⟨#[]⟩ : ByteArray)] 23 ?_; intro gb121 hg w39 hbox hb; have BK121 := Aside0.mk (hbox); have GW121 := ge_ HB hg; have GE121 := ge_ HB hg; have NB119_121 := nl_ BK119 hg; have NB121_119 := ng_ BK119 hg; have NB120_121 := nl_ BK120 hg; have NB121_120 := ng_ BK120 hg; replace BK119 := kb_ BK119 hb; replace BK120 := kb_ BK120 hb; replace HB := bs_ HB hb; clear hb hbox hg; have hnb40 := NB120_119.out; have hnc40 := NB119_120.out; have hnb41 := NB120_121.out; have hnc41 := NB121_120.out; have hcz42_0 := bc_ BK120 0 rfl; have hcz42_1 := bc_ BK120 1 rfl; have hfz42_0 := blk_frozen BK120.out 0; have hfz42_1 := blk_frozen BK120.out 1) | (refine gl_ 11 Tryz.func18 #[.agg #[.string a1_0, .string a1_1]] ?_; refine mo_ (r3_Sign.calls a1_0 a1_1 t122 _ A4.out) ?_; intro w43 hb; replace BK119 := kb_ BK119 hb; replace BK120 := kb_ BK120 hb; replace BK121 := kb_ BK121 hb; replace HB := bs_ HB hb; (try clear hb); (try clear hb2); (try clear hk); (try clear hi); have hnb44 := NB119_121.out; have hnc44 := NB121_119.out; have hcz45_0 := bc_ BK119 0 rfl; have hcz45_1 := bc_ BK119 1 rfl; have hfz45_0 := blk_frozen BK119.out 0; have hfz45_1 := blk_frozen BK119.out 1; have hcz46_0 := bc_ BK120 0 rfl; have hcz46_1 := bc_ BK120 1 rfl; have hfz46_0 := blk_frozen BK120.out 0; have hfz46_1 := blk_frozen BK120.out 1) | (refine gl_ 17 Tryz.func19 #[.agg #[.string a0_0, .string a0_1], .agg #[.string a1_0, .string a1_1]] ?_; refine mo_ (r3_Div.calls a0_0 a0_1 a1_0 a1_1 t123 t124 t125 _ A15.out) ?_; intro w47 hb; replace BK119 := kb_ BK119 hb; replace BK120 := kb_ BK120 hb; replace BK121 := kb_ BK121 hb; replace HB := bs_ HB hb; (try clear hb); (try clear hb2); (try clear hk); (try clear hi)) | ((with_reducible refine gate_dst (N := 7) rfl ?_); refine be_ 7 #[.string (⟨#[]⟩ : ByteArray), .string (⟨#[]⟩ : ByteArray)] 23 ?_; intro gb126 hg w48 hbox hb; have BK126 := Aside0.mk (hbox); have GW126 := ge_ HB hg; have GE126 := ge_ HB hg; have NB119_126 := nl_ BK119 hg; have NB126_119 := ng_ BK119 hg; have NB120_126 := nl_ BK120 hg; have NB126_120 := ng_ BK120 hg; have NB121_126 := nl_ BK121 hg; have NB126_121 := ng_ BK121 hg; replace BK119 := kb_ BK119 hb; replace BK120 := kb_ BK120 hb; replace BK121 := kb_ BK121 hb; replace HB := bs_ HB hb; clear hb hbox hg; have hnb49 := NB126_119.out; have hnc49 := NB119_126.out; have hnb50 := NB126_120.out; have hnc50 := NB120_126.out; have hnb51 := NB126_121.out; have hnc51 := NB121_126.out; have hcz52_0 := bc_ BK126 0 rfl; have hcz52_1 := bc_ BK126 1 rfl; have hfz52_0 := blk_frozen BK126.out 0; have hfz52_1 := blk_frozen BK126.out 1) | (refine gl_ 22 Tryz.func12 #[.agg #[.string t123, .string t124], .int .i64 a2] ?_; refine mo_ (r5_Whole.calls k t123 t124 a2 t127 _ A16.out) ?_; intro w53 hb; replace BK119 := Aside0.mk (blk_below (g := gb119) (o := .cells #[.string a0_0, .string a0_1] 23 (0, 0)) (fr_ BK119.out) hb); replace BK120 := Aside0.mk (blk_below (g := gb120) (o := .cells #[.string a1_0, .string a1_1] 23 (0, 0)) (fr_ BK120.out) hb); replace BK121 := Aside0.mk (blk_below (g := gb121) (o := .cells #[.string (⟨#[]⟩ : ByteArray), .string (⟨#[]⟩ : ByteArray)] 23 (0, 0)) (fr_ BK121.out) hb); replace BK126 := Aside0.mk (blk_below (g := gb126) (o := .cells #[.string t123, .string t124] 23 (0, 0)) (rp_ BK126.out) hb); replace HB := bs_ HB hb; (try clear hb); (try clear hb2); (try clear hk); (try clear hi); have hcz54_0 := bc_ BK120 0 rfl; have hcz54_1 := bc_ BK120 1 rfl; have hfz54_0 := blk_frozen BK120.out 0; have hfz54_1 := blk_frozen BK120.out 1) | (refine gl_ 29 Tryz.func25 #[.agg #[.string t127, .string (⟨#[49]⟩ : ByteArray)], .agg #[.string a1_0, .string a1_1]] ?_; refine mo_ (r3_Mul.calls t127 (⟨#[49]⟩ : ByteArray) a1_0 a1_1 t128 t129 _ A36.out) ?_; intro w55 hb; replace BK119 := kb_ BK119 hb; replace BK120 := kb_ BK120 hb; replace BK121 := kb_ BK121 hb; replace BK126 := kb_ BK126 hb; replace HB := bs_ HB hb; (try clear hb); (try clear hb2); (try clear hk); (try clear hi); have hcz56_0 := bc_ BK121 0 rfl; have hcz56_1 := bc_ BK121 1 rfl; have hfz56_0 := blk_frozen BK121.out 0; have hfz56_1 := blk_frozen BK121.out 1))
   refine bodyPost_ret (results_cell_row rfl _ _ gb121 23 #[.string t128, .string t129] (0, 0) _ rfl (rp_ BK121.out) Tryz.underlying23 rfl (by kernel_rfl)) rfl ?_; exact ⟨er_, b_ HB.out⟩
def r5_Cents.f (k : Nat) (a0_0 : ByteArray) (a0_1 : ByteArray) : Option (ByteArray × ByteArray) := (r3_One.f 1 100).bind fun bt132 => ((r5_Round.f k a0_0 a0_1 bt132.1 bt132.2 2).bind fun bt134 => (some (bt134.1, bt134.2)))
set_option maxHeartbeats 8000000 in
set_option maxRecDepth 100000 in
theorem r5_Cents.calls (k : Nat) (a0_0 : ByteArray) (a0_1 : ByteArray) (r1 : ByteArray) (r2 : ByteArray) (w : World) (h : r5_Cents.f k a0_0 a0_1 = some (r1, r2)) :
  Calls Tryz.prog 16 #[.agg #[.string a0_0, .string a0_1]] w fun e w' => e = .returned (.agg #[.string r1, .string r2]) ∧ Below w.heap.size w w' := by
 have hu23 := Tryz.underlying23; have HB := Aside0.mk (Below.refl w.heap.size w); have H := h; unfold r5_Cents.f at H; clear h; obtain ⟨⟨t132, t133⟩, A2, H⟩ := bi_ H; (try dsimp only at H); obtain ⟨⟨t134, t135⟩, A3, H⟩ := bi_ H; (try dsimp only at H); simp only [Option.some.injEq, Prod.mk.injEq] at H; obtain ⟨rfl, rfl⟩ := H; go_enter Tryz.func16, Tryz.ntmps16
 try go_wp2_with (first | ((with_reducible refine gate_dst (N := 1) rfl ?_); refine be_ 1 #[.string a0_0, .string a0_1] 23 ?_; intro gb130 hg w4 hbox hb; have BK130 := Aside0.mk (hbox); have GW130 := ge_ HB hg; have GE130 := ge_ HB hg; replace HB := bs_ HB hb; clear hb hbox hg) | ((with_reducible refine gate_dst (N := 2) rfl ?_); refine be_ 2 #[.string (⟨#[]⟩ : ByteArray), .string (⟨#[]⟩ : ByteArray)] 23 ?_; intro gb131 hg w5 hbox hb; have BK131 := Aside0.mk (hbox); have GW131 := ge_ HB hg; have GE131 := ge_ HB hg; have NB130_131 := nl_ BK130 hg; have NB131_130 := ng_ BK130 hg; replace BK130 := kb_ BK130 hb; replace HB := bs_ HB hb; clear hb hbox hg))
 replace BK130 := Aside0.mk (blk_drew BK130.out); replace BK131 := Aside0.mk (blk_drew BK131.out); replace HB := Aside0.mk (below_drew1 HB.out); refine sa_ 4 (fun w' => w'.cell? ⟨gb130, 0, none⟩ = some (.string a0_0) ∧ w'.cell? ⟨gb130, 1, none⟩ = some (.string a0_1)) (fun hHeld => ?_); generalize w5.drew = w6 at BK130 BK131 HB hHeld ⊢; refine take_ (i := 0) (N := some 3) (v := ?_) (a' := ?_) #[true, false, false, false] rfl rfl (by kernel_rfl) (fun _ _ _ h => h) (Or.inl ⟨by rfl, ?_⟩) hHeld ?_ ?_; rotate_left
 ·rintro w' ⟨s0, s1⟩; go_simp; with_reducible rfl
 rotate_left
 ·exact ap_
 refine one_ (i := 1) (N := some 4) #[true, true, false, false] rfl rfl (by kernel_rfl) (by decide) (fun K hK => ?_); refine gs_ Tryz.func27 #[.int .i64 1, .int .i64 100] ?_; refine mo_ (r3_One.calls 1 100 t132 t133 _ A2.out) ?_; intro w7 hb; replace BK130 := kb_ BK130 hb; replace BK131 := kb_ BK131 hb; replace HB := bs_ HB hb; (try clear hb); refine hk_ hK (fun hHeld => ?_); clear hK K; refine nm_ ?_; refine one_ (i := 2) (N := some 5) #[true, true, true, false] rfl rfl (by kernel_rfl) (by decide) (fun K hK => ?_); refine gs_ Tryz.func14 #[.agg #[.string a0_0, .string a0_1], .agg #[.string t132, .string t133], .int .i64 2] ?_; refine mo_ (r5_Round.calls k a0_0 a0_1 t132 t133 2 t134 t135 _ A3.out) ?_; intro w8 hb; replace BK130 := kb_ BK130 hb; replace BK131 := kb_ BK131 hb; replace HB := bs_ HB hb; (try clear hb); refine hk_ hK (fun hHeld => ?_); clear hK K; refine nm_ ?_; refine one_ (i := 3) (N := none) #[true, true, true, true] rfl rfl (by kernel_rfl) (by decide) (fun K hK => ?_); have hs9 := bc_ BK131 0 rfl; have hfs9 := blk_frozen BK131.out 0; have hns9_0 := NB130_131.out; have hms9_0 := NB131_130.out; have hs10 := bc_ BK131 1 rfl; have hfs10 := blk_frozen BK131.out 1; have hns10_0 := NB130_131.out; have hms10_0 := NB131_130.out; refine skip_ (w1 := ?_) (by rfl) rfl ?_ ?_; rotate_left
 ·go_simp
  rfl
 refine hf_ hK hHeld (fun hHeld => ?_); clear hK K; refine done_ (by kernel_rfl) ?_
 try go_wp2
 refine bodyPost_ret (results_cell_row rfl _ _ gb131 23 #[.string t134, .string t135] (0, 0) _ rfl (rp_ BK131.out) Tryz.underlying23 rfl (by kernel_rfl)) rfl ?_; exact ⟨er_, b_ HB.out⟩
end Go.Proofs.YtmfcpapfikbomaaGreatDoor.Ph
end

section
namespace Go.Proofs.YtmfcpapfikbomaaGreatDoor.Ph
end Go.Proofs.YtmfcpapfikbomaaGreatDoor.Ph
end

section
namespace Go.Proofs.YtmfcpapfikbomaaGreatDoor
theorem intB_two' : (⟨#[50]⟩ : ByteArray) = intB 2 := by kernel_rfl
theorem intB_one' : (⟨#[49]⟩ : ByteArray) = intB 1 := by rw [← natB_one]; exact (intB_nat 1).symm
theorem rT_int (w : Int) : rT (w : Rat) = (intB w, ⟨#[49]⟩) := by
 unfold rT
 rw [Rat.num_intCast, Rat.den_intCast, natB_one]
theorem list_one : ((⟨#[49]⟩ : ByteArray)).toList = [49] := by rw [ByteArray.toList_eq]
theorem r5up {q : Rat} {w : Int} (hw : w = q.floor) (m : Int) : gW q m = if upQ w (q - (w : Rat)) m = true then w + 1 else w := by
 subst hw
 rfl
theorem r5whole_f {x : BB} (hx : x.1.size + x.2.size ≤ 980) (m : Int) (k : Nat) : Ph.r5_Whole.f (k + 2) x.1 x.2 m = some (gwholeS x m) := by
 unfold Ph.r5_Whole.f gwholeS
 have em : r3_May.f x.1 x.2 = some (mayR x) := by
  unfold r3_May.f
  rw [if_pos (show smR (x.1, x.2) = true from smR_of (x := x) (by omega))]
 rw [em, Option.bind_some]
 have hj : Ph.r5_Whole.j0 (k + 2) m true x.1 x.2 = some noB := by
  show Ph.r5_Whole.j0 (k + 1 + 1) m true x.1 x.2 = some noB
  simp only [Ph.r5_Whole.j0]
  rfl
 by_cases hm : mayR x = true
 ·rw [if_pos hm, hm, Bool.true_and]
  by_cases m0 : m < 0
  ·rw [if_pos m0, hj, if_neg]
   unfold modeOk
   rw [decide_eq_true_eq]
   omega
  ·rw [if_neg m0]
   by_cases m3 : m > 2
   ·rw [decide_eq_true m3, hj, if_neg]
    unfold modeOk
    rw [decide_eq_true_eq]
    omega
   ·rw [decide_eq_false m3, if_pos (show modeOk m = true from decide_eq_true (by omega))]
    obtain ⟨q, rfl⟩ := of_mayR hm
    have hq : szR q ≤ 980 := hx
    have s1 := szI_floor q
    have l1 := fl1 q
    have l2 := fl2 q
    have sp : r3_Split.f (rT q).1 (rT q).2 = some (intB q.floor, (rT (q - (q.floor : Rat))).1, (rT (q - (q.floor : Rat))).2) := by
     unfold r3_Split.f rsplitS
     rw [if_pos (smR_rT (by omega)), if_pos (mayR_rT q), ratR_rT]
    have eW := r5up (q := q) rfl m
    rw [ratR_rT, eW]
    show Ph.r5_Whole.j0 (k + 1 + 1) m false _ _ = _
    simp only [Ph.r5_Whole.j0]
    have s0 := szI_add q.floor 1
    rw [szI_one] at s0
    rw [if_neg (by decide), sp, Option.bind_some, intB_one', qAdd (by omega) (Nat.le_trans (szI_64 (by decide) (by decide)) (by decide)), Option.bind_some]
    generalize hw : q.floor = w at *
    have hv1 : ∀ (b : Bool), Ph.r5_Whole.j1 (k + 1) m (intB w) (intB (w + 1)) true (rT q).1 (rT q).2 (intB w) (intB 1) (intB (w + 1)) (intB 1) = some (intB w) := by
     intro b
     simp only [Ph.r5_Whole.j1]
     rfl
    by_cases z0 : m = 0
    ·rw [if_pos z0, hv1 true]
     have : upQ w (q - (w : Rat)) m = false := by
      unfold upQ
      rw [if_neg (by omega), if_neg (by omega)]
     rw [this]
     rfl
    ·rw [if_neg z0]
     have ef : ((intB w).toList == (rT q).1.toList && (([49] : List UInt8) == (rT q).2.toList)) = decide ((w : Rat) = q) := by
      have h := rT_beq (w : Rat) q
      rw [rT_int w] at h
      rw [← h, list_one]
     rw [ef]
     by_cases hlo : (w : Rat) = q
     ·rw [decide_eq_true hlo, hv1 true]
      have hf : q - (w : Rat) = 0 := by rw [hlo]; exact Rat.sub_self
      have : upQ w (q - (w : Rat)) m = false := by
       rw [hf]
       unfold upQ
       by_cases m1 : m = 1
       ·rw [if_pos m1, decide_eq_false (show ¬ (0 : Rat) < 0 from Rat.lt_irrefl), Bool.and_false]
       ·rw [if_neg m1]
        by_cases m2 : m = 2
        ·rw [if_pos m2, decide_eq_false (by grind : ¬ (1 : Rat) < 0 + 0), decide_eq_false (by grind : ¬ (0 : Rat) + 0 = 1)]
         rfl
        ·rw [if_neg m2]
      rw [this]
      rfl
     ·rw [decide_eq_false hlo]
      have f0 : 0 < q - (w : Rat) := by grind
      simp only [Ph.r5_Whole.j1]
      rw [if_neg (by decide)]
      by_cases m1 : m = 1
      ·rw [if_pos m1, kSign (by omega), Option.bind_some]
       have eu : upQ w (q - (w : Rat)) m = decide (w < 0) := by
        unfold upQ
        rw [if_pos m1, decide_eq_true f0, Bool.and_true]
       rw [eu]
       have hs : cmpQ q 0 < 0 ↔ w < 0 := by
        rw [cmpQ_lt]
        constructor
        ·intro h
         have : (w : Rat) < ((0 : Int) : Rat) := by
          have e0 : ((0 : Int) : Rat) = 0 := rfl
          rw [e0]
          grind
         exact castlt.1 this
        ·intro h
         have : ((w + 1 : Int) : Rat) ≤ ((0 : Int) : Rat) := castle.2 (by omega)
         rw [cast1] at this
         have e0 : ((0 : Int) : Rat) = 0 := rfl
         rw [e0] at this
         grind
       by_cases hw0 : w < 0
       ·rw [if_pos (hs.2 hw0), decide_eq_true hw0]
        rfl
       ·rw [if_neg (fun z => hw0 (hs.1 z)), decide_eq_false hw0]
        rfl
      ·rw [if_neg m1]
       have m2 : m = 2 := by omega
       subst m2
       have sw := szR_int w
       have sw1 := szR_int (w + 1)
       have t1 := szR_sub q (w : Rat)
       have t2 := szR_sub ((w + 1 : Int) : Rat) q
       have ea : r3_Sub.f (rT q).1 (rT q).2 (intB w) (intB 1) = some (rT (q - (w : Rat))) := by
        have h := kSub (p := q) (q := (w : Rat)) (by omega) (by omega)
        rw [rT_int w, intB_one'] at h
        exact h
       have eb : r3_Sub.f (intB (w + 1)) (intB 1) (rT q).1 (rT q).2 = some (rT (((w + 1 : Int) : Rat) - q)) := by
        have h := kSub (p := ((w + 1 : Int) : Rat)) (q := q) (by omega) (by omega)
        rw [rT_int (w + 1), intB_one'] at h
        exact h
       rw [ea, Option.bind_some, eb, Option.bind_some, kCmp (by omega) (by omega), Option.bind_some, intB_two', qDiv (by omega) (Nat.le_trans (szI_64 (by decide) (by decide)) (by decide)) (by decide), Option.bind_some, upQ_two]
       rw [cast1]
       generalize hf : q - (w : Rat) = f at *
       have e3 : (w : Rat) + 1 - q = 1 - f := by rw [← hf]; grind
       rw [e3]
       have hodd : (intB (w % 2)).toList = ([48] : List UInt8) ↔ ¬ w % 2 = 1 := by
        rw [intB_toList_zero]
        omega
       rcases cmpQ_cases' f (1 - f) with ⟨h1, h4⟩ | ⟨h1, h4⟩ | ⟨h1, h4⟩
       ·rw [h4, if_pos (by decide), decide_eq_false (by grind : ¬ 1 < f + f), decide_eq_false (by grind : ¬ f + f = 1)]
        rfl
       ·rw [h4, if_neg (by decide), if_pos rfl, decide_eq_false (by grind : ¬ 1 < f + f), decide_eq_true (by grind : f + f = 1)]
        by_cases ho : w % 2 = 1
        ·rw [if_neg (fun z => hodd.1 z ho), decide_eq_true ho]
         rfl
        ·rw [if_pos (hodd.2 ho), decide_eq_false ho]
         rfl
       ·rw [h4, if_neg (by decide), if_neg (by decide), decide_eq_true (by grind : 1 < f + f)]
        rfl
 ·rw [if_neg hm, hj, (Bool.not_eq_true _).mp hm]
  rfl
def smH (x : BB) : Bool := decide (x.1.size + x.2.size ≤ 450)
def smH2 (x y : BB) : Bool := smH x && smH y
theorem smH2_le {x y : BB} (h : smH2 x y = true) : x.1.size + x.2.size ≤ 450 ∧ y.1.size + y.2.size ≤ 450 := by
 unfold smH2 smH at h
 rw [Bool.and_eq_true, decide_eq_true_eq, decide_eq_true_eq] at h
 exact h
theorem noB_nil : noB.toList = ([] : List UInt8) := by rw [ByteArray.toList_eq]; rfl
theorem no2_may' : mayR no2 = false := by decide
theorem r5round_f {x g : BB} (h : smH2 x g = true) (m : Int) (k : Nat) : Ph.r5_Round.f (k + 2) x.1 x.2 g.1 g.2 m = some (groundS x g m) := by
 obtain ⟨h1, h2⟩ := smH2_le h
 unfold Ph.r5_Round.f groundS
 have es : r3_Sign.f g.1 g.2 = some (rsignS g) := by
  unfold r3_Sign.f
  rw [if_pos (show smR (g.1, g.2) = true from smR_of (x := g) (by omega))]
 rw [es, Option.bind_some]
 unfold rsignS
 by_cases hg : mayR g = true
 ·rw [if_pos hg]
  obtain ⟨b, rfl⟩ := of_mayR hg
  rw [ratR_rT]
  by_cases hp : 0 < b
  ·rw [if_neg (fun z => absurd ((cmpQ_le b 0).1 z) (Rat.not_le.2 hp)), decide_eq_true hp, Bool.and_true]
   have hne : b ≠ 0 := by intro e; rw [e] at hp; exact Rat.lt_irrefl hp
   have hb : szR b ≤ 450 := h2
   by_cases hx : mayR x = true
   ·obtain ⟨a, rfl⟩ := of_mayR hx
    have ha : szR a ≤ 450 := h1
    have sq := szR_div a hne
    rw [kDiv (by omega) (by omega) hne, Option.bind_some, r5whole_f (x := rT (a / b)) (show szR (a / b) ≤ 980 by omega), Option.bind_some, may2R_rT, Bool.true_and]
    unfold gwholeS
    rw [show mayR ((rT (a / b)).1, (rT (a / b)).2) = true from mayR_rT _, Bool.true_and, show ratR ((rT (a / b)).1, (rT (a / b)).2) = a / b from ratR_rT _]
    by_cases hm : modeOk m = true
    ·have s1 := szI_gW (a / b) m
     have s2 := szR_int (gW (a / b) m)
     rw [if_pos hm, if_pos hm, if_neg (intB_ne_nil _), ratR_rT]
     have hk := kMul (p := ((gW (a / b) m : Int) : Rat)) (q := b) (by omega) (by omega)
     rw [rT_int] at hk
     rw [hk]
     rfl
    ·rw [if_neg hm, if_neg hm, if_pos noB_nil]
     rfl
   ·have ed : r3_Div.f x.1 x.2 (rT b).1 (rT b).2 = some (noB, noB, false) := by
     unfold r3_Div.f rdivS
     rw [if_pos (show smR2 (x.1, x.2) ((rT b).1, (rT b).2) = true from smR2_of (x := x) (y := rT b) (by omega) (show szR b ≤ 3900 by omega)), show may2R (x.1, x.2) ((rT b).1, (rT b).2) = false by unfold may2R; rw [show mayR (x.1, x.2) = false from (Bool.not_eq_true _).mp hx]; rfl]
     rfl
    rw [ed, Option.bind_some, show may2R x (rT b) = false by unfold may2R; rw [(Bool.not_eq_true _).mp hx]; rfl]
    have ew := r5whole_f (x := no2) (by decide) m k
    rw [show gwholeS no2 m = noB by unfold gwholeS; rw [no2_may']; rfl] at ew
    show ((Ph.r5_Whole.f (k + 2) no2.1 no2.2 m).bind fun t => _) = _
    rw [ew, Option.bind_some, if_pos noB_nil]
    rfl
  ·rw [if_pos ((cmpQ_le b 0).2 (Rat.not_lt.1 hp)), decide_eq_false hp, Bool.and_false, Bool.and_false]
   rfl
 ·rw [if_neg hg, if_pos (by decide), show may2R x g = false by unfold may2R; rw [(Bool.not_eq_true _).mp hg, Bool.and_false]]
  rfl
theorem smH_cent {x : BB} (h : smH x = true) : smH2 x (rT centQ) = true := by
 unfold smH2
 rw [h, show rT centQ = (⟨#[49]⟩, ⟨#[49, 48, 48]⟩) by kernel_rfl]
 rfl
theorem r5cents_f {x : BB} (h : smH x = true) (k : Nat) : Ph.r5_Cents.f (k + 2) x.1 x.2 = some (groundS x (rT centQ) 2) := by
 unfold Ph.r5_Cents.f r3_One.f
 rw [if_pos (by decide), if_neg (by decide), Option.bind_some]
 show ((Ph.r5_Round.f (k + 2) x.1 x.2 (rT centQ).1 (rT centQ).2 2).bind fun t => some (t.1, t.2)) = _
 rw [r5round_f (smH_cent h) 2 k, Option.bind_some]
def r5_Whole.f (a0_0 a0_1 : ByteArray) (a1 : Int) : Option ByteArray := if smH (a0_0, a0_1) = true then some (gwholeS (a0_0, a0_1) a1) else none
theorem r5_Whole.calls (a0_0 a0_1 : ByteArray) (a1 : Int) (r : ByteArray) (w : World) (h : r5_Whole.f a0_0 a0_1 a1 = some r) :
  Calls Tryz.prog 12 #[.agg #[.string a0_0, .string a0_1], .int .i64 a1] w fun e w' => e = .returned (.string r) ∧ Below w.heap.size w w' := by
 unfold r5_Whole.f at h
 split at h
 ·rename_i hp
  have hs : a0_0.size + a0_1.size ≤ 450 := of_decide_eq_true hp
  rw [← r5whole_f (x := (a0_0, a0_1)) (show a0_0.size + a0_1.size ≤ 980 by omega) a1 0] at h
  exact Ph.r5_Whole.calls _ a0_0 a0_1 a1 r w h
 ·cases h
def r5_Round.f (a0_0 a0_1 a1_0 a1_1 : ByteArray) (a2 : Int) : Option BB := if smH2 (a0_0, a0_1) (a1_0, a1_1) = true then some (groundS (a0_0, a0_1) (a1_0, a1_1) a2) else none
theorem r5_Round.calls (a0_0 a0_1 a1_0 a1_1 : ByteArray) (a2 : Int) (r1 r2 : ByteArray) (w : World) (h : r5_Round.f a0_0 a0_1 a1_0 a1_1 a2 = some (r1, r2)) :
  Calls Tryz.prog 14 #[.agg #[.string a0_0, .string a0_1], .agg #[.string a1_0, .string a1_1], .int .i64 a2] w fun e w' => e = .returned (.agg #[.string r1, .string r2]) ∧ Below w.heap.size w w' := by
 unfold r5_Round.f at h
 split at h
 ·rename_i hp
  rw [← r5round_f hp a2 0] at h
  exact Ph.r5_Round.calls _ a0_0 a0_1 a1_0 a1_1 a2 r1 r2 w h
 ·cases h
def r5_Cents.f (a0_0 a0_1 : ByteArray) : Option BB := if smH (a0_0, a0_1) = true then some (groundS (a0_0, a0_1) (rT centQ) 2) else none
theorem r5_Cents.calls (a0_0 a0_1 : ByteArray) (r1 r2 : ByteArray) (w : World) (h : r5_Cents.f a0_0 a0_1 = some (r1, r2)) :
  Calls Tryz.prog 16 #[.agg #[.string a0_0, .string a0_1]] w fun e w' => e = .returned (.agg #[.string r1, .string r2]) ∧ Below w.heap.size w w' := by
 unfold r5_Cents.f at h
 split at h
 ·rename_i hp
  rw [← r5cents_f hp 0] at h
  exact Ph.r5_Cents.calls _ a0_0 a0_1 r1 r2 w h
 ·cases h
end Go.Proofs.YtmfcpapfikbomaaGreatDoor
end

section
namespace Go.Proofs.YtmfcpapfikbomaaGreatDoor.Pf5
def errW : Option Int → Value
 | none => .nilIface
 | some c => .iface 0 (.int .i64 c)
theorem errW_none : errW none = .nilIface := rfl
theorem errW_some (c : Int) : errW (some c) = .iface 0 (.int .i64 c) := rfl
end Go.Proofs.YtmfcpapfikbomaaGreatDoor.Pf5
end

section
namespace Go.Proofs.YtmfcpapfikbomaaGreatDoor.Pf5
theorem eqA23 (d : Nat) (w : World) (x0 y0 : ByteArray) (x1 y1 : ByteArray) :
  (Op.equalIn (d + 2) 23 (.agg #[.string x0, .string x1]) (.agg #[.string y0, .string y1])).run Tryz.prog w = .ok (x0.toList == y0.toList && (x1.toList == y1.toList)) w := by
 refine eqA_of Tryz.underlying23 (by kernel_rfl) ?_; refine eqf_cons (by rfl) (by go_simp; rfl) (by go_simp; rfl) (by go_simp) ?_; exact eqf_last (by rfl) (by go_simp; rfl) (by go_simp; rfl) (by go_simp)
end Go.Proofs.YtmfcpapfikbomaaGreatDoor.Pf5
end
