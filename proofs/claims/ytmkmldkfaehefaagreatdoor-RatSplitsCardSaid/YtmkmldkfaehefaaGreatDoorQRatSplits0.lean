/-
The law RatSplits holds at every input that its row lets in: the row's walk and its plain law, tied to the program's text. Conditions: none beyond the given row's own.
Parts of the proof, in build order: LRatSplits0, LRatSplits1, LRatSplits2, LRatSplits3, LRatSplits, PuRatSplits, RowRatSplits.
-/
import Derived.Test.YtmkmldkfaehefaaGreatDoorC4
import Derived.Test.YtmkmldkfaehefaaGreatDoorProg
import Derived.Below
import Derived.Deep.Draws
import Derived.Deep.AppendLies
import Derived.Maps.AppendAt
import Derived.OwnWalk
import Derived.Laws.BytesArg
import Derived.Laws.MakeOwn
import Derived.Laws.OwnMore
import Derived.Deep.OwnRows
import Derived.Tactics
import Derived.Lib.ConvBytes
import Derived.Laws.Slices
import Derived.WalkKit
import Derived.KernelRfl
import Derived.RowKit3
import Derived.Deep.LoopGhost
import Derived.Deep.QuietTactic
import Derived.BigQuiet
import Derived.WideLaws
import Derived.Deep.DeepCutAuto
import Derived.Deep.CutBlock
import Derived.Deep.RegionHeld3
import Derived.Laws.Rows
import Derived.Lib.AppendStr
import Derived.ArgAppend
import Derived.Laws.IdiomCopy
import Derived.OrdersHeld
import Derived.Laws.BitsLemmas
import Derived.RowKit
import Derived.Test.YtmkmldkfaehefaaGreatDoorC0
import Derived.Test.YtmkmldkfaehefaaGreatDoorC5
import Derived.Test.YtmkmldkfaehefaaGreatDoorC2
import Derived.Test.YtmkmldkfaehefaaGreatDoorTie
import Derived.Test.YtmkmldkfaehefaaGreatDoorCards
import Derived.SevenTiedAt
set_option linter.unusedVariables false
set_option linter.unusedSimpArgs false
open Go.RowKit Go.Proofs.YtmkmldkfaehefaaGreatDoorW.PrintWords Go.Proofs.YtmkmldkfaehefaaGreatDoorW.PrintLast Go.Proofs.YtmkmldkfaehefaaGreatDoorW.PrintMore
attribute [local go_sem] max2_int min2_int max_two min_two max_three min_three max_four min_four   -- for this text's walks alone
section
namespace Go.Proofs.YtmkmldkfaehefaaGreatDoor.LRatSplits
def errW : Option Int → Value
 | none => .nilIface
 | some c => .iface 0 (.int .i64 c)
theorem errW_none : errW none = .nilIface := rfl
theorem errW_some (c : Int) : errW (some c) = .iface 0 (.int .i64 c) := rfl
theorem info35 : (Tryz.prog.info? 35).map (fun i => (i.zero, i.size, i.bytes)) = some (some (.agg #[(.string ⟨#[]⟩), (.string ⟨#[]⟩)]), 2, 32) := by kernel_rfl
end Go.Proofs.YtmkmldkfaehefaaGreatDoor.LRatSplits
end

section
namespace Go.Proofs.YtmkmldkfaehefaaGreatDoor.LRatSplits
theorem eqA35 (d : Nat) (w : World) (x0 y0 : ByteArray) (x1 y1 : ByteArray) :
  (Op.equalIn (d + 2) 35 (.agg #[.string x0, .string x1]) (.agg #[.string y0, .string y1])).run Tryz.prog w = .ok (x0.toList == y0.toList && (x1.toList == y1.toList)) w := by
 refine eqA_of Tryz.underlying35 (by kernel_rfl) ?_; refine eqf_cons (by rfl) (by go_simp; rfl) (by go_simp; rfl) (by go_simp) ?_; exact eqf_last (by rfl) (by go_simp; rfl) (by go_simp; rfl) (by go_simp)
end Go.Proofs.YtmkmldkfaehefaaGreatDoor.LRatSplits
end

section
namespace Go.Proofs.YtmkmldkfaehefaaGreatDoor.LRatSplits
end Go.Proofs.YtmkmldkfaehefaaGreatDoor.LRatSplits
end

section
namespace Go.Proofs.YtmkmldkfaehefaaGreatDoor.LRatSplits
open Go.Proofs.YtmkmldkfaehefaaGreatDoor.Pz (S35 k35 k35_mkM)
attribute [local go_sem high] eqA35
def dl3_RatSplits.j0 : Nat → Bool → ByteArray → ByteArray → Option (Bool)
 | 0, _, _, _ => none
 | k + 1, x14, x102000, x102001 => if x14 = true then ((dl3_fixed.f).bind fun t107 => (some t107)) else ((rat_Split.f x102000 x102001).bind fun bt108 => ((rat_Make.f bt108.1 (⟨#[49]⟩ : ByteArray)).bind fun bt112 => (if bt112.2.2 = true then ((r2_May.f bt108.1).bind fun t116 => (if t116 = true then ((rat_Add.f bt112.1 bt112.2.1 bt108.2.1 bt108.2.2).bind fun bt117 => (if (bt117.1.toList == x102000.toList && (bt117.2.toList == x102001.toList)) = true then ((rat_Sign.f bt108.2.1 bt108.2.2).bind fun t119 => (if t119 ≥ 0 then ((rat_Of.f 1).bind fun bt120 => ((rat_Cmp.f bt108.2.1 bt108.2.2 bt120.1 bt120.2).bind fun t122 => (some (t122 == (-1))))) else (some false))) else (some false))) else (some false))) else (some false))))
def dl3_RatSplits.f (k : Nat) (a0_0 : ByteArray) (a0_1 : ByteArray) : Option (Bool) := (dl3_fixed.f).bind fun t102 => (if t102 = true then ((r3_Good.f (([(⟨a0_0, a0_1⟩ : S35)] : List (S35)))).bind fun t106 => (dl3_RatSplits.j0 k (!t106) a0_0 a0_1)) else (dl3_RatSplits.j0 k true a0_0 a0_1))
def dl3_RatSplits.T5 : Bool × List (List Nat × List Nat) := (true, [([], []), ([0], [0]), ([1], [1]), ([2, 1, 1], [1, 2]), ([1, 3], [1, 3]), ([4, 3], [4]), ([5], [5]), ([5], [5]), ([6, 7, 5, 5], [5, 6, 7]), ([5], [5]), ([8, 9, 5], [5, 8, 9]), ([5, 10], [5, 10]), ([11, 8], [11]), ([12], [12]), ([13, 12, 12], [12, 13]), ([14, 12], [12, 14]), ([12, 15], [12, 15]), ([16, 14], [16]), ([17], [17]), ([17, 17], [17]), ([18, 19, 19, 17], [17, 18, 19]), ([20, 17], [17, 20]), ([17, 21], [17, 21]), ([22, 20, 0, 1, 2, 3, 4, 5, 6, 7, 8, 9, 10, 11, 12, 13, 14, 15, 16, 17, 18, 19, 20, 21, 22], [22])])
def dl3_RatSplits.B5 : List Nat := [0, 1, 3, 7, 15, 31, 63, 63, 255, 63, 1023, 2047, 4095, 8191, 16383, 32767, 65535, 131071, 262143, 262143, 1048575, 2097151, 4194303, 8388607]
theorem dl3_RatSplits.tab5 : rtab .any (opsOf Tryz.f7 5) = dl3_RatSplits.T5 := by kernel_rfl
theorem dl3_RatSplits.bits5 : waitsOk dl3_RatSplits.T5.2 dl3_RatSplits.B5 = true := by kernel_rfl
set_option maxHeartbeats 8000000 in
set_option maxRecDepth 100000 in
theorem dl3_RatSplits.calls (k : Nat) (a0_0 : ByteArray) (a0_1 : ByteArray) (r : Bool) (w : World) (hL_ : Laid w) (hr_ : Aside0 (r = true)) (h : dl3_RatSplits.f k a0_0 a0_1 = some r) :
  Calls Tryz.prog 7 #[.agg #[.string a0_0, .string a0_1]] w fun e w' => e = .returned (.bool r) ∧ Below w.heap.size w w' := by
 have hu35 := Tryz.underlying35; have HLD := Aside0.mk hL_; clear hL_; have HB := Aside0.mk (Below.refl w.heap.size w); have H := h; unfold dl3_RatSplits.f at H; clear h; have HC2 := Aside0.mk H; clear H; go_enter Tryz.func7, Tryz.ntmps7
 go_upto_region 1 with (first | ((with_reducible refine gate_dst (N := 1) rfl ?_); (try (refine gate_guard (by rfl) ?_; dsimp only)); refine be_ 1 #[.string a0_0, .string a0_1] 35 ?_; intro gb101 hg w3 hbox hb; have BK101 := Aside0.mk (hbox); have GW101 := ge_ HB hg; have GE101 := ge_ HB hg; replace HB := bs_ HB hb; clear hb hbox hg))
 (try simp only [Act.put, List.setIfInBounds_toArray, List.set_cons_zero, List.set_cons_succ])
 go_cut [14] (fun v14 wc => ∃ (kq : Nat) (x14_1 : Bool), v14 = .bool x14_1 ∧ Aside0 (dl3_RatSplits.j0 kq x14_1 a0_0 a0_1 = some r) ∧ Aside0 (kq ≤ k) ∧ Aside0 (wc.heap[gb101]? = some (.cells #[.string a0_0, .string a0_1] 35 (0, 0))) ∧ Aside0 (Below w.heap.size w wc))
 case first =>
  have H := HC2.out; clear HC2; obtain ⟨t102, A4, H⟩ := bi_ H; by_cases c5 : t102 = true
  ·subst c5; rw [if_pos rfl] at H; obtain ⟨y103, hy103⟩ : ∃ y_ : List (S35), y_ = (([(⟨a0_0, a0_1⟩ : S35)] : List (S35))) := ⟨_, rfl⟩
   replace H : ((r3_Good.f y103).bind fun t106 => (dl3_RatSplits.j0 k (!t106) a0_0 a0_1)) = some r := by first | (rw [hy103]; with_reducible exact H) | (have H2_ := (Option.bind_some _ _).symm.trans H; rw [hy103]; with_reducible exact H2_) | (have H2_ := (Option.bind_some _ _).symm.trans H; with_reducible exact H2_) | with_reducible exact H | (rw [hy103]; exact H) | exact H
   have Ny103 := Aside0.mk hy103; clear hy103; obtain ⟨t106, A6, H⟩ := bi_ H; have H' := Aside0.mk H; clear H
   go_wp2_with (first | (refine gl_ 7 Tryz.func32 #[] ?_; refine mo_ (dl3_fixed.calls  true _ (lb_ HLD HB) A4.out) ?_; intro w7 hb; replace BK101 := kb_ BK101 hb; replace HB := bs_ HB hb; (try clear hb); (try clear hb2); (try clear hk); (try clear hi); have hcz8_0 := bc_ BK101 0 rfl; have hcz8_1 := bc_ BK101 1 rfl; have hfz8_0 := blk_frozen BK101.out 0; have hfz8_1 := blk_frozen BK101.out 1) | ((with_reducible refine gate_dst (N := 11) rfl ?_); (try (refine gate_guard (by rfl) ?_; dsimp only)); refine Kd.R_lit k35 _ 35 ?hg (N := 11) ?hd (xs := ([(⟨a0_0, a0_1⟩ : S35)] : List (S35))) (inner := [.string a0_0, .string a0_1]) (ok := fun _ => True) (okp := fun _ => True) ?hr ?hp (fun _ hk => hk) trivial (Below.refl _ _) (Nat.le_refl _) (by simp) ?_; (case hd => rfl); (case hg => rfl); (case hr => first | (go_simp; done) | (go_simp; rfl)); (case hp => exact (Reps.c2 (show Kd.M k35 _ _ _ (⟨a0_0, a0_1⟩ : S35) [.string a0_0, .string a0_1] from (k35_mkM _ _ _ (⟨a0_0, a0_1⟩ : S35) )) (Reps.none _ _))); intro v104 w9 ho10 hb hg_ hnew_; clear hg_ hnew_; (first | rw [← Ny103.out] at ho10 | (simp only [Int.reduceToNat] at ho10; rw [← Ny103.out] at ho10)); have HO105 := Aside0.mk (Kd.R_lower (Kd.R_newB ho10 (g := gb101) (o := .cells #[.string a0_0, .string a0_1] 35 (0, 0)) (k_ BK101.out)) (below_size (b_ HB.out))); replace BK101 := kb_ BK101 hb; replace HB := bs_ HB hb; clear hb ho10; obtain ⟨Ao11, co11, eo11⟩ := Kd.R_slice HO105.out; subst eo11) | (go_at_call 53; (with_reducible refine (r3_Good.calls _ _ y103 t106 _ ?side1 ?side2 A6.out).mono ?_); (case side1 => exact c_ (Kd.R_reads' HO105.out).2.2); (case side2 => exact (Kd.R_reads' HO105.out).2.1); rintro e w12 ⟨rfl, hb⟩; replace HO105 := Aside0.mk (Kd.R_below (w_ HO105.out) hb); replace BK101 := kb_ BK101 hb; replace HB := bs_ HB hb; (try clear hb); (try clear hb2); (try clear hk); (try clear hi)))
   go_meet
   case rel => exact ⟨_, (!t106), rl_, H', ⟨by first | omega | exact Nat.le_refl _⟩, ⟨k_ BK101.out⟩, ⟨b_ HB.out⟩⟩
  ·replace c5 := Bool.eq_false_iff.mpr c5; subst c5; rw [if_neg nf_] at H; have H' := Aside0.mk H; clear H
   go_wp2_with (first | (refine gl_ 7 Tryz.func32 #[] ?_; refine mo_ (dl3_fixed.calls  false _ (lb_ HLD HB) A4.out) ?_; intro w13 hb; replace BK101 := kb_ BK101 hb; replace HB := bs_ HB hb; (try clear hb); (try clear hb2); (try clear hk); (try clear hi)))
   go_meet
   case rel => exact ⟨_, (true), rl_, H', ⟨by first | omega | exact Nat.le_refl _⟩, ⟨k_ BK101.out⟩, ⟨b_ HB.out⟩⟩
 case rest =>
  clear HC2; (try clear c2); (try clear p2); (try clear c3); (try clear c5); (try clear c7); (try clear hcz8_0); (try clear hcz8_1); (try clear hfz8_0); (try clear hfz8_1); obtain ⟨kq, x14_1, rfl, HA, HJ1, BK101, HB⟩ := hcut
  cases kq with
  | zero => exact absurd HA.out (by simp [dl3_RatSplits.j0])
  | succ kj1 =>
   have H := HA.out; clear HA; simp only [dl3_RatSplits.j0] at H; by_cases c14 : x14_1 = true
   ·subst c14; rw [if_pos rfl] at H; obtain ⟨t107, A15, H⟩ := bi_ H; obtain rfl := Option.some.inj H
    go_wp2_with (first | (refine gl_ 15 Tryz.func32 #[] ?_; refine mo_ (dl3_fixed.calls  t107 _ (lb_ HLD HB) A15.out) ?_; intro w16 hb; replace BK101 := kb_ BK101 hb; replace HB := bs_ HB hb; (try clear hb); (try clear hb2); (try clear hk); (try clear hi)))
    go_ret
    exact ⟨er_, b_ HB.out⟩
   ·replace c14 := Bool.eq_false_iff.mpr c14; subst c14; rw [if_neg nf_] at H; obtain ⟨⟨t108, t109, t110⟩, A17, H⟩ := bi_ H; (try dsimp only at H); obtain ⟨⟨t112, t113, t114⟩, A18, H⟩ := bi_ H; (try dsimp only at H); by_cases c19 : t114 = true
    ·subst c19; rw [if_pos rfl] at H; obtain ⟨t116, A20, H⟩ := bi_ H; by_cases c21 : t116 = true
     ·subst c21; rw [if_pos rfl] at H; obtain ⟨⟨t117, t118⟩, A22, H⟩ := bi_ H; (try dsimp only at H); by_cases c23 : (t117.toList == a0_0.toList && (t118.toList == a0_1.toList)) = true
      ·rw [if_pos c23] at H; have c23b0 : (t117.toList == a0_0.toList && (t118.toList == a0_1.toList)) = true := c23; (try (have c23b1 : decide (t117.toList = a0_0.toList && (t118.toList == a0_1.toList)) = true := by simpa using c23)); (try (have c23b2 : (t117.toList == a0_0.toList && (t118.toList == a0_1.toList)) = true := by simpa using c23)); clear c23; obtain ⟨t119, A24, H⟩ := bi_ H; by_cases c25 : t119 ≥ 0
       ·rw [if_pos c25] at H; have c25b0 : decide (0 ≤ t119) = true := decide_eq_true c25; clear c25; obtain ⟨⟨t120, t121⟩, A26, H⟩ := bi_ H; (try dsimp only at H); obtain ⟨t122, A27, H⟩ := bi_ H; obtain rfl := Option.some.inj H; have hcz28_0 := bc_ BK101 0 rfl; have hcz28_1 := bc_ BK101 1 rfl; have hfz28_0 := blk_frozen BK101.out 0; have hfz28_1 := blk_frozen BK101.out 1
        try go_wp2_with (first | (refine gl_ 18 Tryz.func37 #[.agg #[.string a0_0, .string a0_1]] ?_; refine mo_ (rat_Split.calls a0_0 a0_1 t108 t109 t110 _ (lb_ HLD HB) A17.out) ?_; intro w29 hb; replace BK101 := kb_ BK101 hb; replace HB := bs_ HB hb; (try clear hb); (try clear hb2); (try clear hk); (try clear hi)) | ((with_reducible refine gate_dst (N := 4) rfl ?_); (try (refine gate_guard (by rfl) ?_; dsimp only)); refine be_ 4 #[.string (⟨#[]⟩ : ByteArray), .string (⟨#[]⟩ : ByteArray)] 35 ?_; intro gb111 hg w30 hbox hb; have BK111 := Aside0.mk (hbox); have GW111 := ge_ HB hg; have GE111 := ge_ HB hg; have NB101_111 := nl_ BK101 hg; have NB111_101 := ng_ BK101 hg; replace BK101 := kb_ BK101 hb; replace HB := bs_ HB hb; clear hb hbox hg; have hnb31 := NB111_101.out; have hnc31 := NB101_111.out; have hcz32_0 := bc_ BK111 0 rfl; have hcz32_1 := bc_ BK111 1 rfl; have hfz32_0 := blk_frozen BK111.out 0; have hfz32_1 := blk_frozen BK111.out 1) | (refine gl_ 23 Tryz.func33 #[.string t108, .string (⟨#[49]⟩ : ByteArray)] ?_; refine mo_ (rat_Make.calls t108 (⟨#[49]⟩ : ByteArray) t112 t113 true _ (lb_ HLD HB) A18.out) ?_; intro w33 hb; replace BK101 := Aside0.mk (blk_below (g := gb101) (o := .cells #[.string a0_0, .string a0_1] 35 (0, 0)) (fr_ BK101.out) hb); replace BK111 := Aside0.mk (blk_below (g := gb111) (o := .cells #[.string t109, .string t110] 35 (0, 0)) (rp_ BK111.out) hb); replace HB := bs_ HB hb; (try clear hb); (try clear hb2); (try clear hk); (try clear hi)) | ((with_reducible refine gate_dst (N := 5) rfl ?_); (try (refine gate_guard (by rfl) ?_; dsimp only)); refine be_ 5 #[.string (⟨#[]⟩ : ByteArray), .string (⟨#[]⟩ : ByteArray)] 35 ?_; intro gb115 hg w34 hbox hb; have BK115 := Aside0.mk (hbox); have GW115 := ge_ HB hg; have GE115 := ge_ HB hg; have NB101_115 := nl_ BK101 hg; have NB115_101 := ng_ BK101 hg; have NB111_115 := nl_ BK111 hg; have NB115_111 := ng_ BK111 hg; replace BK101 := kb_ BK101 hb; replace BK111 := kb_ BK111 hb; replace HB := bs_ HB hb; clear hb hbox hg; have hnb35 := NB115_101.out; have hnc35 := NB101_115.out; have hnb36 := NB115_111.out; have hnc36 := NB111_115.out; have hcz37_0 := bc_ BK115 0 rfl; have hcz37_1 := bc_ BK115 1 rfl; have hfz37_0 := blk_frozen BK115.out 0; have hfz37_1 := blk_frozen BK115.out 1))
        have n0_ : Aside0 (((w34.setCell ⟨gb115, 0, none⟩ (.string t112)).setCell ⟨gb115, 1, none⟩ (.string t113)).heap[gb101]? = some (.cells #[.string a0_0, .string a0_1] 35 (0, 0))) := ⟨fr_ BK101.out⟩; have n1_ : Aside0 (((w34.setCell ⟨gb115, 0, none⟩ (.string t112)).setCell ⟨gb115, 1, none⟩ (.string t113)).heap[gb111]? = some (.cells #[.string t109, .string t110] 35 (0, 0))) := ⟨fr_ BK111.out⟩; have n2_ : Aside0 (((w34.setCell ⟨gb115, 0, none⟩ (.string t112)).setCell ⟨gb115, 1, none⟩ (.string t113)).heap[gb115]? = some (.cells #[.string t112, .string t113] 35 (0, 0))) := ⟨rp_ BK115.out⟩; have n3_ : Aside0 (Below w.heap.size w ((w34.setCell ⟨gb115, 0, none⟩ (.string t112)).setCell ⟨gb115, 1, none⟩ (.string t113))) := ⟨b_ HB.out⟩; (try clear BK101); (try clear BK111); (try clear BK115); (try clear HB); generalize ((w34.setCell ⟨gb115, 0, none⟩ (.string t112)).setCell ⟨gb115, 1, none⟩ (.string t113)) = w38 at n0_ n1_ n2_ n3_ ⊢; have BK101 := n0_; have BK111 := n1_; have BK115 := n2_; have HB := n3_; clear n0_ n1_ n2_ n3_; replace BK101 := Aside0.mk (blk_drew BK101.out); replace BK111 := Aside0.mk (blk_drew BK111.out); replace BK115 := Aside0.mk (blk_drew BK115.out); replace HB := Aside0.mk (below_drew1 HB.out); refine sa_ 24 (fun w' => w'.cell? ⟨gb115, 0, none⟩ = some (.string t112) ∧ w'.cell? ⟨gb115, 1, none⟩ = some (.string t113) ∧ w'.cell? ⟨gb111, 0, none⟩ = some (.string t109) ∧ w'.cell? ⟨gb111, 1, none⟩ = some (.string t110) ∧ w'.cell? ⟨gb101, 0, none⟩ = some (.string a0_0) ∧ w'.cell? ⟨gb101, 1, none⟩ = some (.string a0_1)) (fun hHeld => ?_); refine with_tabW dl3_RatSplits.tab5 dl3_RatSplits.bits5 (fun HT_ HW_ => ?_); generalize w38.drew = w39 at BK101 BK111 BK115 HB hHeld ⊢; refine pu_ 0 26 rfl rfl HT_ ?_; refine pu_ 1 27 rfl rfl HT_ ?_; refine pu_ 2 28 rfl rfl HT_ ?_; refine on_ 3 (some 29) rfl rfl HT_ (fun K hK => ?_); refine gs_ Tryz.func14 #[.string t108] ?_; refine mo_ (r2_May.calls t108 true _ A20.out) ?_; intro w40 hb; replace BK101 := kb_ BK101 hb; replace BK111 := kb_ BK111 hb; replace BK115 := kb_ BK115 hb; replace HB := bs_ HB hb; (try clear hb); refine hk_ hK (fun hHeld => ?_); clear hK K; refine nm_ ?_; refine pu_ 4 30 rfl rfl HT_ ?_; refine pu_ 5 31 rfl rfl HT_ ?_; refine t6_ 6 32 rfl rfl HT_ HW_ hHeld ?_; refine t6_ 7 33 rfl rfl HT_ HW_ hHeld ?_; refine t6_ 9 35 rfl rfl HT_ HW_ hHeld ?_; refine on_ 8 (some 34) rfl rfl HT_ (fun K hK => ?_); refine gs_ Tryz.func47 #[.agg #[.string t112, .string t113], .agg #[.string t109, .string t110]] ?_; refine mo_ (rat_Add.calls t112 t113 t109 t110 t117 t118 _ (lb_ HLD HB) A22.out) ?_; intro w41 hb; replace BK101 := kb_ BK101 hb; replace BK111 := kb_ BK111 hb; replace BK115 := kb_ BK115 hb; replace HB := bs_ HB hb; (try clear hb); refine hk_ hK (fun hHeld => ?_); clear hK K; refine nm_ ?_; refine pu_ 10 36 rfl rfl HT_ ?_; refine pu_ 11 37 rfl rfl HT_ ?_; refine pu_ 12 38 rfl rfl HT_ ?_; refine t6_ 13 39 rfl rfl HT_ HW_ hHeld ?_; refine on_ 14 (some 40) rfl rfl HT_ (fun K hK => ?_); refine gs_ Tryz.func41 #[.agg #[.string t109, .string t110]] ?_; refine mo_ (rat_Sign.calls t109 t110 t119 _ (lb_ HLD HB) A24.out) ?_; intro w42 hb; replace BK101 := kb_ BK101 hb; replace BK111 := kb_ BK111 hb; replace BK115 := kb_ BK115 hb; replace HB := bs_ HB hb; (try clear hb); refine hk_ hK (fun hHeld => ?_); clear hK K; refine nm_ ?_; refine pu_ 15 41 rfl rfl HT_ ?_; refine pu_ 16 42 rfl rfl HT_ ?_; refine pu_ 17 43 rfl rfl HT_ ?_; refine t6_ 18 44 rfl rfl HT_ HW_ hHeld ?_; refine on_ 19 (some 45) rfl rfl HT_ (fun K hK => ?_); refine gs_ Tryz.func54 #[.int .i64 1] ?_; refine mo_ (rat_Of.calls 1 t120 t121 _ (lb_ HLD HB) A26.out) ?_; intro w43 hb; replace BK101 := kb_ BK101 hb; replace BK111 := kb_ BK111 hb; replace BK115 := kb_ BK115 hb; replace HB := bs_ HB hb; (try clear hb); refine hk_ hK (fun hHeld => ?_); clear hK K; refine nm_ ?_; refine on_ 20 (some 46) rfl rfl HT_ (fun K hK => ?_); refine gs_ Tryz.func45 #[.agg #[.string t109, .string t110], .agg #[.string t120, .string t121]] ?_; refine mo_ (rat_Cmp.calls t109 t110 t120 t121 t122 _ (lb_ HLD HB) A27.out) ?_; intro w44 hb; replace BK101 := kb_ BK101 hb; replace BK111 := kb_ BK111 hb; replace BK115 := kb_ BK115 hb; replace HB := bs_ HB hb; (try clear hb); refine hk_ hK (fun hHeld => ?_); clear hK K; refine nm_ ?_; refine pu_ 21 47 rfl rfl HT_ ?_; refine pu_ 22 48 rfl rfl HT_ ?_; refine pu_ 23 2 rfl rfl HT_ ?_; refine done_ (done_of HT_.out (by kernel_rfl)) ?_
        try go_wp2
        go_ret
        exact ⟨er_, b_ HB.out⟩
       ·rw [if_neg c25] at H; exact absurd (H.trans (congrArg some hr_.out)) (by decide)
      ·rw [if_neg c23] at H; exact absurd (H.trans (congrArg some hr_.out)) (by decide)
     ·replace c21 := Bool.eq_false_iff.mpr c21; subst c21
      have H1 : (some false) = some r := by rw [if_neg (show ¬ (false = true) by decide)] at H; exact H
      exact absurd (H1.trans (congrArg some hr_.out)) (by decide)
    ·replace c19 := Bool.eq_false_iff.mpr c19; subst c19
     have H1 : (some false) = some r := by rw [if_neg (show ¬ (false = true) by decide)] at H; exact H
     exact absurd (H1.trans (congrArg some hr_.out)) (by decide)
end Go.Proofs.YtmkmldkfaehefaaGreatDoor.LRatSplits
end

section
namespace Go.Proofs.YtmkmldkfaehefaaGreatDoor.LRatSplits
end Go.Proofs.YtmkmldkfaehefaaGreatDoor.LRatSplits
end

section
namespace Go.Proofs.YtmkmldkfaehefaaGreatDoor
theorem pureRatSplits (a0_0 a0_1 : ByteArray) : ∃ k, LRatSplits.dl3_RatSplits.f k a0_0 a0_1 = some true := by
 refine ⟨3, ?_⟩
 unfold LRatSplits.dl3_RatSplits.f dl3_fixed.f
 have hj : LRatSplits.dl3_RatSplits.j0 3 true a0_0 a0_1 = some true := by
  simp only [LRatSplits.dl3_RatSplits.j0]
  rfl
 rw [Option.bind_some, if_pos rfl, goods1, Option.bind_some]
 cases h0 : goodR ⟨a0_0, a0_1⟩
 ·exact hj
 obtain ⟨x, rfl, rfl, sx⟩ := of_good h0
 have s1 := szI_floor x
 have s2 := szR_frac x
 have s3 := szR_int x.floor
 have l1 := Rat.floor_le x
 have l2 := @Rat.lt_floor x
 have e1 : (x.floor : Rat) + (x - (x.floor : Rat)) = x := by grind
 generalize hf : x - (x.floor : Rat) = f at *
 have f0 : 0 ≤ f := by grind
 have f1 : f < 1 := by grind
 have c0 : cmpQ f 0 ≥ 0 := by
  rcases cmpQ_cases f 0 with ⟨h1, h2, h3, h4⟩ | ⟨h1, h2, h3, h4⟩ | ⟨h1, h2, h3, h4⟩
  ·exact absurd h1 (by grind)
  ·rw [h4]; decide
  ·rw [h4]; decide
 have c1 : cmpQ f ((1 : Int) : Rat) = -1 := by
  unfold cmpQ
  rw [if_pos (show f < ((1 : Int) : Rat) from f1)]
 show LRatSplits.dl3_RatSplits.j0 (2 + 1) false _ _ = _
 simp only [LRatSplits.dl3_RatSplits.j0]
 rw [if_neg (by decide), hSplit (by omega), hf, Option.bind_some, hMake1 (by omega), Option.bind_some, if_pos rfl, rMay2 (show szI x.floor ≤ 50000 by omega), Option.bind_some, if_pos (mayW_int _), hAdd (by omega) (by omega), Option.bind_some, rT_beq, if_pos (decide_eq_true e1), hSign (by omega), Option.bind_some, if_pos c0, hOf (by decide) (by decide), Option.bind_some, hCmp (by omega) (Nat.le_trans (szR_small (by decide) (by decide)) (by decide)), Option.bind_some, c1]
 rfl
end Go.Proofs.YtmkmldkfaehefaaGreatDoor
end

section
namespace Go.Proofs.YtmkmldkfaehefaaGreatDoor.ratSplits
open Go.ChangeShapes Go.WideShapes Go.ChangeAt Go.RowKit
set_option maxRecDepth 100000 in
theorem lifted (os : Os) (started : os.Started) (H : Type) (enc : TypeId × Value → H) :
  ReturnsInHanded {} Tryz.checked os 7 .any (fun w args => (Rows.ratSplitsSpec.pre enc Tryz.prog Tryz.f7 Rows.ratSplitsRow.domain false w args ∧ laidMetH Tryz.prog laidL w) ∧ sizedMet enc Tryz.prog Tryz.f7 (OpenSpec.ofChange Rows.ratSplitsSpec) false w args)
   (Rows.ratSplitsSpec.post enc Tryz.prog Tryz.f7 false true false false) := by
 refine returnsInHanded_of_change_and (C := Tryz.checked) (X := fun w _ => laidMetH Tryz.prog laidL w) (fun _ _ _ hh h => h.of_heap hh) own started (by kernel_rfl) Tryz.func7
  (ChangeSpec.witness_shaped (enc := enc) (C := Tryz.checked) (os := os) (X := fun w _ => laidMetH Tryz.prog laidL w) false (World.doorLaid Tryz.prog 4000 os) #[.agg #[.string ByteArray.empty, .string ByteArray.empty]] 8 rfl (World.shaped_of_RefB (by kernel_rfl) (by kernel_rfl)) (by kernel_rfl) (by kernel_rfl) (by kernel_rfl) (door_met os _)) ?_
 intro W base args ds gs before hval0 hW _ hsz0 hL _
 have hsz : (DataW.weightsEach Tryz.prog (Tryz.f7.params.toList ++ Rows.ratSplitsSpec.plain.varTypes Tryz.prog) (ds ++ gs)).all (· ≤ reachBytes) = true := hsz0
 have hval : ∀ (j : Nat) t v, Tryz.f7.params[j]? = some t → args[j]? = some v → Value.okWide Tryz.prog W .any base t v := hval0
 have hW' := hW
 obtain ⟨p, q, hA0, hV, rfl, hfz, hnd⟩ := hW
 have hA : DataW.TrodAll enc Tryz.prog W 0 (fun _ => true) true Tryz.f7.params.toList args.toList ds p := hA0
 rw [Tryz.params7] at hA hval hsz
 obtain ⟨v0, vs0, d0, ds0, p0, q0, hargs, rfl, rfl, h0, r0⟩ := trodAll_cons hA
 obtain ⟨rfl, rfl, rfl⟩ := trodAll_nil r0
 obtain rfl : args = #[v0] := by cases args; simp_all
 obtain ⟨rfl, rfl⟩ := trodVars_none hV
 obtain ⟨a0_0, a0_1, rfl, rfl, rfl, y0_0, y0_1⟩ := open_s2 Tryz.underlying35 Tryz.underlying9 Tryz.underlying9 (by kernel_rfl) (by kernel_rfl : Tryz.prog.cellsOf 35 = 2) (hval 0 35 v0 rfl rfl) h0
 clear hA0 hval0 hsz0 hsz
 obtain ⟨k, hf⟩ := pureRatSplits a0_0 a0_1 
 refine (LRatSplits.dl3_RatSplits.calls k a0_0 a0_1 true W (laid_of hL) ⟨rfl⟩ hf).mono fun e W' ⟨he, bel⟩ => ?_
 subst he
 exact ⟨_, rfl, _, _, _, [], _, [], hW', trodAll_mk1 (shut_bool Tryz.underlying4 _), (trodAll_cons_mk (shut_s2 Tryz.underlying35 Tryz.underlying9 Tryz.underlying9 (by kernel_rfl) (by kernel_rfl : Tryz.prog.cellsOf 35 = 2) y0_0 y0_1) trodAll_mk0), rfl, bel.frame _, fun h => by cases h⟩
theorem over : Rows.RatSplitsSaid :=
 OpenClaim.holds_of_wide 7 Tryz.f7 rfl rfl rfl rfl rfl rfl rfl ⟨rfl, rfl, rfl, rfl, rfl⟩ rfl rfl rfl rfl rfl (by kernel_rfl) Tryz.func7 (by kernel_rfl)
  (of_decide_eq_true (by kernel_rfl)) (by unfold Func.isWrapper; first | (rw [if_pos (by decide +kernel)]; kernel_rfl) | (rw [if_neg (by decide +kernel)]; exact ⟨rfl, rfl⟩))
  (fun os started H enc _ => lifted os started H enc)
theorem proved : Rows.RatSplitsCardSaid :=
 Claim7.holds_tied_plain_at .later [] [.data, .data, .data, .sentinel, .sentinel] true (true, "bdbd4e5b09325eccd875a060e8c411f452cabddbb7ed0d3b3fcf22eeff5f72e7") true
  over (fun _ h => by cases h) (by kernel_rfl) (fun _ h => by cases h) ratSplits_row_tie rfl ⟨rfl, rfl⟩ (by kernel_rfl) rfl
  (fun f fn hf hfn => by
   obtain rfl : f = 7 := Option.some.inj ((show Tryz.prog.funcNamed "debenture/debenturelaw03.RatSplits" = some 7 by kernel_rfl).symm.trans hf) |>.symm
   obtain rfl : fn = Tryz.f7 := (Option.some.inj (Tryz.func7.symm.trans hfn)).symm
   exact ⟨by kernel_rfl, fun j t ht => by
    rw [Tryz.params7] at ht
    have hm : t ∈ [35] := by simpa using Array.mem_of_getElem? ht
    have hall : ([35].all fun u => !Tryz.prog.wantsStandIn u) = true := by kernel_rfl
    exact (show Tryz.prog.wantsStandIn t = false by simpa using List.all_eq_true.1 hall t hm)⟩)
  (by kernel_rfl)
end Go.Proofs.YtmkmldkfaehefaaGreatDoor.ratSplits
namespace Go.Proofs.YtmkmldkfaehefaaGreatDoor
theorem ratSplits_holds : Rows.RatSplitsCardSaid := ratSplits.proved
#print axioms ratSplits_holds
end Go.Proofs.YtmkmldkfaehefaaGreatDoor
end
