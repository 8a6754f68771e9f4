/-
The law WholeTells holds at every input that its row lets in: the row's walk and its plain law, tied to the program's text. Conditions: none beyond the given row's own.
Parts of the proof, in build order: LWholeTells0, LWholeTells1, LWholeTells, PuWholeTells, RowWholeTells.
-/
import Derived.Test.YtmkmldkfaehefaaGreatDoorProg
import Derived.Below
import Derived.Deep.Draws
import Derived.Deep.AppendLies
import Derived.Maps.AppendAt
import Derived.OwnWalk
import Derived.Laws.BytesArg
import Derived.Laws.MakeOwn
import Derived.Laws.OwnMore
import Derived.Deep.OwnRows
import Derived.Tactics
import Derived.Lib.ConvBytes
import Derived.Laws.Slices
import Derived.WalkKit
import Derived.KernelRfl
import Derived.RowKit3
import Derived.Deep.LoopGhost
import Derived.Deep.QuietTactic
import Derived.BigQuiet
import Derived.WideLaws
import Derived.Deep.DeepCutAuto
import Derived.Deep.CutBlock
import Derived.Deep.RegionHeld3
import Derived.Laws.Rows
import Derived.Lib.AppendStr
import Derived.ArgAppend
import Derived.Laws.IdiomCopy
import Derived.OrdersHeld
import Derived.Laws.BitsLemmas
import Derived.RowKit
import Derived.Test.YtmkmldkfaehefaaGreatDoorD0
import Derived.Test.YtmkmldkfaehefaaGreatDoorD3
import Derived.Test.YtmkmldkfaehefaaGreatDoorD4
import Derived.Test.YtmkmldkfaehefaaGreatDoorD2
import Derived.Test.YtmkmldkfaehefaaGreatDoorTie
import Derived.Test.YtmkmldkfaehefaaGreatDoorCards
import Derived.SevenTiedAt
set_option linter.unusedVariables false
set_option linter.unusedSimpArgs false
open Go.RowKit Go.Proofs.YtmkmldkfaehefaaGreatDoorW.PrintWords Go.Proofs.YtmkmldkfaehefaaGreatDoorW.PrintLast Go.Proofs.YtmkmldkfaehefaaGreatDoorW.PrintMore
attribute [local go_sem] max2_int min2_int max_two min_two max_three min_three max_four min_four   -- for this text's walks alone
section
namespace Go.Proofs.YtmkmldkfaehefaaGreatDoor.LWholeTells
def errW : Option Int → Value
 | none => .nilIface
 | some c => .iface 0 (.int .i64 c)
theorem errW_none : errW none = .nilIface := rfl
theorem errW_some (c : Int) : errW (some c) = .iface 0 (.int .i64 c) := rfl
end Go.Proofs.YtmkmldkfaehefaaGreatDoor.LWholeTells
end

section
namespace Go.Proofs.YtmkmldkfaehefaaGreatDoor.LWholeTells
def dl2_WholeTells.j0 : Nat → ByteArray → ByteArray → Bool → Option (Bool)
 | 0, _, _, _ => none
 | k + 1, x0, x1, x80 => if x80 = true then (some false) else ((dl2_fixed.f).bind fun t122 => (if t122 = true then ((whole_Cmp.f x0 x1).bind fun t123 => ((r2_Cmp.f x0 x1).bind fun t124 => (if t123 = t124 then ((whole_Add.f x0 x1).bind fun t125 => ((r2_Add.f x0 x1).bind fun t126 => (if t125.toList = t126.toList then ((whole_Sub.f x0 x1).bind fun t127 => ((r2_Sub.f x0 x1).bind fun t128 => (if t127.toList = t128.toList then ((whole_Mul.f x0 x1).bind fun t129 => ((r2_Mul.f x0 x1).bind fun t130 => (some (t129.toList == t130.toList)))) else (some false)))) else (some false)))) else (some false)))) else (some false)))
def dl2_WholeTells.f (k : Nat) (a0 : ByteArray) (a1 : ByteArray) (a2 : Int) : Option (Bool) := (r1_Short.f (([a0, a1] : List ByteArray))).bind fun t104 => (if t104 = true then ((whole_Div.f a0 a1).bind fun bt106 => ((r2_Div.f a0 a1).bind fun bt109 => (if bt106.1.toList = bt109.1.toList then (if bt106.2.1.toList = bt109.2.1.toList then (if (bt106.2.2 != bt109.2.2) = true then (dl2_WholeTells.j0 k a0 a1 true) else ((whole_May.f a0).bind fun t112 => ((r2_May.f a0).bind fun t113 => (if (t112 != t113) = true then (dl2_WholeTells.j0 k a0 a1 true) else ((whole_Of.f a2).bind fun t114 => ((r2_Of.f a2).bind fun t115 => (if t114.toList = t115.toList then ((whole_Sign.f a0).bind fun t116 => ((r2_Sign.f a0).bind fun t117 => (if t116 = t117 then ((whole_Abs.f a0).bind fun t118 => ((r2_Abs.f a0).bind fun t119 => (if t118.toList = t119.toList then ((whole_Neg.f a0).bind fun t120 => ((r2_Neg.f a0).bind fun t121 => (dl2_WholeTells.j0 k a0 a1 (t120.toList != t121.toList)))) else (dl2_WholeTells.j0 k a0 a1 true)))) else (dl2_WholeTells.j0 k a0 a1 true)))) else (dl2_WholeTells.j0 k a0 a1 true)))))))) else (dl2_WholeTells.j0 k a0 a1 true)) else (dl2_WholeTells.j0 k a0 a1 true)))) else ((dl2_fixed.f).bind fun t105 => (some t105)))
set_option maxHeartbeats 8000000 in
set_option maxRecDepth 100000 in
theorem dl2_WholeTells.calls (k : Nat) (a0 : ByteArray) (a1 : ByteArray) (a2 : Int) (r : Bool) (w : World) (hL_ : Laid w) (hr_ : Aside0 (r = true)) (h : dl2_WholeTells.f k a0 a1 a2 = some r) :
  Calls Tryz.prog 3 #[.string a0, .string a1, .int .i64 a2] w fun e w' => e = .returned (.bool r) ∧ Below w.heap.size w w' := by
 have HLD := Aside0.mk hL_; clear hL_; have HB := Aside0.mk (Below.refl w.heap.size w); have H := h; unfold dl2_WholeTells.f at H; clear h; obtain ⟨y101, hy101⟩ : ∃ y_ : List ByteArray, y_ = (([a0, a1] : List ByteArray)) := ⟨_, rfl⟩
 replace H : ((r1_Short.f y101).bind fun t104 => (if t104 = true then ((whole_Div.f a0 a1).bind fun bt106 => ((r2_Div.f a0 a1).bind fun bt109 => (if bt106.1.toList = bt109.1.toList then (if bt106.2.1.toList = bt109.2.1.toList then (if (bt106.2.2 != bt109.2.2) = true then (dl2_WholeTells.j0 k a0 a1 true) else ((whole_May.f a0).bind fun t112 => ((r2_May.f a0).bind fun t113 => (if (t112 != t113) = true then (dl2_WholeTells.j0 k a0 a1 true) else ((whole_Of.f a2).bind fun t114 => ((r2_Of.f a2).bind fun t115 => (if t114.toList = t115.toList then ((whole_Sign.f a0).bind fun t116 => ((r2_Sign.f a0).bind fun t117 => (if t116 = t117 then ((whole_Abs.f a0).bind fun t118 => ((r2_Abs.f a0).bind fun t119 => (if t118.toList = t119.toList then ((whole_Neg.f a0).bind fun t120 => ((r2_Neg.f a0).bind fun t121 => (dl2_WholeTells.j0 k a0 a1 (t120.toList != t121.toList)))) else (dl2_WholeTells.j0 k a0 a1 true)))) else (dl2_WholeTells.j0 k a0 a1 true)))) else (dl2_WholeTells.j0 k a0 a1 true)))))))) else (dl2_WholeTells.j0 k a0 a1 true)) else (dl2_WholeTells.j0 k a0 a1 true)))) else ((dl2_fixed.f).bind fun t105 => (some t105)))) = some r := by first | (rw [hy101]; with_reducible exact H) | (have H2_ := (Option.bind_some _ _).symm.trans H; rw [hy101]; with_reducible exact H2_) | (have H2_ := (Option.bind_some _ _).symm.trans H; with_reducible exact H2_) | with_reducible exact H | (rw [hy101]; exact H) | exact H
 have Ny101 := Aside0.mk hy101; clear hy101; obtain ⟨t104, A4, H⟩ := bi_ H; by_cases c5 : t104 = true
 ·subst c5; rw [if_pos rfl] at H; obtain ⟨⟨t106, t107, t108⟩, A6, H⟩ := bi_ H; (try dsimp only at H); obtain ⟨⟨t109, t110, t111⟩, A7, H⟩ := bi_ H; (try dsimp only at H); have HC8 := Aside0.mk H; clear H; go_enter Tryz.func3, Tryz.ntmps3
  go_upto_region 5 with (first | ((with_reducible refine gate_dst (N := 15) rfl ?_); refine Kd.R_lit Kd.string _ 9 ?hg (N := 15) ?hd (xs := ([a0, a1] : List ByteArray)) (inner := [.string a0, .string a1]) (ok := fun _ => True) (okp := fun _ => True) ?hr ?hp (fun _ hk => hk) trivial (Below.refl _ _) (Nat.le_refl _) (by simp) ?_; (case hd => rfl); (case hg => rfl); (case hr => first | (go_simp; done) | (go_simp; rfl)); (case hp => exact (Reps.one (show Kd.M Kd.string _ _ _ a0 [.string a0] from rfl) (Reps.one (show Kd.M Kd.string _ _ _ a1 [.string a1] from rfl) (Reps.none _ _)))); intro v102 w9 ho10 hb hg_ hnew_; clear hg_ hnew_; (first | rw [← Ny101.out] at ho10 | (simp only [Int.reduceToNat] at ho10; rw [← Ny101.out] at ho10)); have HO103 := Aside0.mk (Kd.R_lower ho10 (below_size (b_ HB.out))); replace HB := bs_ HB hb; clear hb ho10; obtain ⟨Ao11, co11, eo11⟩ := Kd.R_slice HO103.out; subst eo11) | (refine gl_ 16 Tryz.func9 #[.slice Ao11 y101.length co11] ?_; refine mo_ (r1_Short.calls _ _ y101 true _ (c_ (Kd.R_reads' HO103.out).2.2) ((Kd.R_reads' HO103.out).2.1) A4.out) ?_; intro w12 hb; replace HO103 := Aside0.mk (Kd.R_below (w_ HO103.out) hb); replace HB := bs_ HB hb; (try clear hb); (try clear hb2); (try clear hk); (try clear hi)) | (refine gl_ 22 Tryz.func11 #[.string a0, .string a1] ?_; refine mo_ (whole_Div.calls a0 a1 t106 t107 t108 _ (lb_ HLD HB) A6.out) ?_; intro w13 hb; replace HO103 := Aside0.mk (Kd.R_below (w_ HO103.out) hb); replace HB := bs_ HB hb; (try clear hb); (try clear hb2); (try clear hk); (try clear hi)) | (refine gl_ 29 Tryz.func12 #[.string a0, .string a1] ?_; refine mo_ (r2_Div.calls a0 a1 t109 t110 t111 _ A7.out) ?_; intro w14 hb; replace HO103 := Aside0.mk (Kd.R_below (w_ HO103.out) hb); replace HB := bs_ HB hb; (try clear hb); (try clear hb2); (try clear hk); (try clear hi)))
  (try simp only [Act.put, List.setIfInBounds_toArray, List.set_cons_zero, List.set_cons_succ])
  go_cut [80] (fun v80 wc => ∃ (kq : Nat) (x80_7 : Bool), v80 = .bool x80_7 ∧ Aside0 (dl2_WholeTells.j0 kq a0 a1 x80_7 = some r) ∧ Aside0 (kq ≤ k) ∧ Aside0 (Below w.heap.size w wc))
  case first =>
   have H := HC8.out; clear HC8; by_cases c15 : t106.toList = t109.toList
   ·rw [if_pos c15] at H; have c15b0 : (t106.toList == t109.toList) = true := beq_iff_eq.mpr c15; have c15b1 : (t106.toList != t109.toList) = false := bne_eq_false_iff_eq.mpr c15; clear c15; (first | rw [c15b0] | (simp only [i64_w, i32_w]; rw [c15b0]) | skip); by_cases c16 : t107.toList = t110.toList
    ·rw [if_pos c16] at H; have c16b0 : (t107.toList == t110.toList) = true := beq_iff_eq.mpr c16; have c16b1 : (t107.toList != t110.toList) = false := bne_eq_false_iff_eq.mpr c16; clear c16; by_cases c17 : (t108 != t111) = true
     ·rw [if_pos c17] at H; exact absurd (H.trans (congrArg some hr_.out)) (by generalize k = q_; rcases q_ with _ | _ | _ | q_ <;> simp [dl2_WholeTells.j0])
     ·rw [if_neg c17] at H
      have c17b0 : (t108 != t111) = false := by simpa using c17
      (try (have c17b1 : decide (t108 = t111) = true := by simpa using c17)); (try (have c17b2 : (t108 == t111) = true := by simpa using c17)); clear c17; obtain ⟨t112, A18, H⟩ := bi_ H; obtain ⟨t113, A19, H⟩ := bi_ H; by_cases c20 : (t112 != t113) = true
      ·rw [if_pos c20] at H; exact absurd (H.trans (congrArg some hr_.out)) (by generalize k = q_; rcases q_ with _ | _ | _ | q_ <;> simp [dl2_WholeTells.j0])
      ·rw [if_neg c20] at H
       have c20b0 : (t112 != t113) = false := by simpa using c20
       (try (have c20b1 : decide (t112 = t113) = true := by simpa using c20)); (try (have c20b2 : (t112 == t113) = true := by simpa using c20)); clear c20; obtain ⟨t114, A23, H⟩ := bi_ H; obtain ⟨t115, A24, H⟩ := bi_ H; by_cases c25 : t114.toList = t115.toList
       ·rw [if_pos c25] at H; have c25b0 : (t114.toList == t115.toList) = true := beq_iff_eq.mpr c25; have c25b1 : (t114.toList != t115.toList) = false := bne_eq_false_iff_eq.mpr c25; clear c25; obtain ⟨t116, A26, H⟩ := bi_ H; obtain ⟨t117, A27, H⟩ := bi_ H; by_cases c28 : t116 = t117
        ·rw [if_pos c28] at H; have c28b0 : (t116 == t117) = true := beq_iff_eq.mpr c28; have c28b1 : (t116 != t117) = false := bne_eq_false_iff_eq.mpr c28; clear c28; obtain ⟨t118, A29, H⟩ := bi_ H; obtain ⟨t119, A30, H⟩ := bi_ H; by_cases c31 : t118.toList = t119.toList
         ·rw [if_pos c31] at H; have c31b0 : (t118.toList == t119.toList) = true := beq_iff_eq.mpr c31; have c31b1 : (t118.toList != t119.toList) = false := bne_eq_false_iff_eq.mpr c31; clear c31; obtain ⟨t120, A32, H⟩ := bi_ H; obtain ⟨t121, A33, H⟩ := bi_ H; have H' := Aside0.mk H; clear H
          go_wp2_with (first | (go_at_call 13; (with_reducible refine (whole_May.calls a0 t112 _ A18.out).mono ?_); rintro e w34 ⟨rfl, hb⟩; replace HO103 := Aside0.mk (Kd.R_below (w_ HO103.out) hb); replace HB := bs_ HB hb; (try clear hb); (try clear hb2); (try clear hk); (try clear hi)) | (go_at_call 14; (with_reducible refine (r2_May.calls a0 t113 _ A19.out).mono ?_); rintro e w35 ⟨rfl, hb⟩; replace HO103 := Aside0.mk (Kd.R_below (w_ HO103.out) hb); replace HB := bs_ HB hb; (try clear hb); (try clear hb2); (try clear hk); (try clear hi)) | (go_at_call 15; (with_reducible refine (whole_Of.calls a2 t114 _ ?side1 A23.out).mono ?_); (case side1 => exact lb_ HLD HB); rintro e w36 ⟨rfl, hb⟩; replace HO103 := Aside0.mk (Kd.R_below (w_ HO103.out) hb); replace HB := bs_ HB hb; (try clear hb); (try clear hb2); (try clear hk); (try clear hi)) | (go_at_call 16; (with_reducible refine (r2_Of.calls a2 t115 _ A24.out).mono ?_); rintro e w37 ⟨rfl, hb⟩; replace HO103 := Aside0.mk (Kd.R_below (w_ HO103.out) hb); replace HB := bs_ HB hb; (try clear hb); (try clear hb2); (try clear hk); (try clear hi)) | (go_at_call 17; (with_reducible refine (whole_Sign.calls a0 t116 _ A26.out).mono ?_); rintro e w38 ⟨rfl, hb⟩; replace HO103 := Aside0.mk (Kd.R_below (w_ HO103.out) hb); replace HB := bs_ HB hb; (try clear hb); (try clear hb2); (try clear hk); (try clear hi)) | (go_at_call 18; (with_reducible refine (r2_Sign.calls a0 t117 _ A27.out).mono ?_); rintro e w39 ⟨rfl, hb⟩; replace HO103 := Aside0.mk (Kd.R_below (w_ HO103.out) hb); replace HB := bs_ HB hb; (try clear hb); (try clear hb2); (try clear hk); (try clear hi)) | (go_at_call 19; (with_reducible refine (whole_Abs.calls a0 t118 _ A29.out).mono ?_); rintro e w40 ⟨rfl, hb⟩; replace HO103 := Aside0.mk (Kd.R_below (w_ HO103.out) hb); replace HB := bs_ HB hb; (try clear hb); (try clear hb2); (try clear hk); (try clear hi)) | (go_at_call 20; (with_reducible refine (r2_Abs.calls a0 t119 _ A30.out).mono ?_); rintro e w41 ⟨rfl, hb⟩; replace HO103 := Aside0.mk (Kd.R_below (w_ HO103.out) hb); replace HB := bs_ HB hb; (try clear hb); (try clear hb2); (try clear hk); (try clear hi)) | (go_at_call 21; (with_reducible refine (whole_Neg.calls a0 t120 _ A32.out).mono ?_); rintro e w42 ⟨rfl, hb⟩; replace HO103 := Aside0.mk (Kd.R_below (w_ HO103.out) hb); replace HB := bs_ HB hb; (try clear hb); (try clear hb2); (try clear hk); (try clear hi)) | (go_at_call 22; (with_reducible refine (r2_Neg.calls a0 t121 _ A33.out).mono ?_); rintro e w43 ⟨rfl, hb⟩; replace HO103 := Aside0.mk (Kd.R_below (w_ HO103.out) hb); replace HB := bs_ HB hb; (try clear hb); (try clear hb2); (try clear hk); (try clear hi)))
          go_meet
          case rel => exact ⟨_, ((t120.toList != t121.toList)), rl_, H', ⟨by first | omega | exact Nat.le_refl _⟩, ⟨b_ HB.out⟩⟩
         ·rw [if_neg c31] at H; exact absurd (H.trans (congrArg some hr_.out)) (by generalize k = q_; rcases q_ with _ | _ | _ | q_ <;> simp [dl2_WholeTells.j0])
        ·rw [if_neg c28] at H; exact absurd (H.trans (congrArg some hr_.out)) (by generalize k = q_; rcases q_ with _ | _ | _ | q_ <;> simp [dl2_WholeTells.j0])
       ·rw [if_neg c25] at H; exact absurd (H.trans (congrArg some hr_.out)) (by generalize k = q_; rcases q_ with _ | _ | _ | q_ <;> simp [dl2_WholeTells.j0])
    ·rw [if_neg c16] at H; exact absurd (H.trans (congrArg some hr_.out)) (by generalize k = q_; rcases q_ with _ | _ | _ | q_ <;> simp [dl2_WholeTells.j0])
   ·rw [if_neg c15] at H; exact absurd (H.trans (congrArg some hr_.out)) (by generalize k = q_; rcases q_ with _ | _ | _ | q_ <;> simp [dl2_WholeTells.j0])
  case rest =>
   clear HC8; (try clear c1); (try clear c2); (try clear p2); (try clear c3); (try clear c5); (try clear c9); (try clear c11); (try clear c12); (try clear c15); (try clear c15b0); (try clear c15b1); (try clear c16); (try clear c16b0); (try clear c16b1); (try clear c17); (try clear c17b0); (try clear c17b1); (try clear c17b2); (try clear c20); (try clear c20b0); (try clear c20b1); (try clear c20b2); (try clear c25); (try clear c25b0); (try clear c25b1); (try clear c28); (try clear c28b0); (try clear c28b1); (try clear c31); (try clear c31b0); (try clear c31b1); obtain ⟨kq, x80_7, rfl, HA, HJ7, HB⟩ := hcut
   cases kq with
   | zero => exact absurd HA.out (by simp [dl2_WholeTells.j0])
   | succ kj7 =>
    have H := HA.out; clear HA; simp only [dl2_WholeTells.j0] at H; by_cases c62 : x80_7 = true
    ·subst c62
     have H1 : (some false) = some r := by rw [if_pos rfl] at H; exact H
     exact absurd (H1.trans (congrArg some hr_.out)) (by decide)
    ·replace c62 := Bool.eq_false_iff.mpr c62; subst c62; rw [if_neg nf_] at H; obtain ⟨t122, A63, H⟩ := bi_ H; by_cases c64 : t122 = true
     ·subst c64; rw [if_pos rfl] at H; obtain ⟨t123, A65, H⟩ := bi_ H; obtain ⟨t124, A66, H⟩ := bi_ H; by_cases c67 : t123 = t124
      ·rw [if_pos c67] at H; have c67b0 : (t123 == t124) = true := beq_iff_eq.mpr c67; have c67b1 : (t123 != t124) = false := bne_eq_false_iff_eq.mpr c67; clear c67; obtain ⟨t125, A68, H⟩ := bi_ H; obtain ⟨t126, A69, H⟩ := bi_ H; by_cases c70 : t125.toList = t126.toList
       ·rw [if_pos c70] at H; have c70b0 : (t125.toList == t126.toList) = true := beq_iff_eq.mpr c70; have c70b1 : (t125.toList != t126.toList) = false := bne_eq_false_iff_eq.mpr c70; clear c70; obtain ⟨t127, A71, H⟩ := bi_ H; obtain ⟨t128, A72, H⟩ := bi_ H; by_cases c73 : t127.toList = t128.toList
        ·rw [if_pos c73] at H; have c73b0 : (t127.toList == t128.toList) = true := beq_iff_eq.mpr c73; have c73b1 : (t127.toList != t128.toList) = false := bne_eq_false_iff_eq.mpr c73; clear c73; obtain ⟨t129, A74, H⟩ := bi_ H; obtain ⟨t130, A75, H⟩ := bi_ H; obtain rfl := Option.some.inj H
         go_wp2_with (first | (refine gl_ 81 Tryz.func10 #[] ?_; refine mo_ (dl2_fixed.calls  true _ (lb_ HLD HB) A63.out) ?_; intro w76 hb; replace HB := bs_ HB hb; (try clear hb); (try clear hb2); (try clear hk); (try clear hi)) | (go_at_call 23; (with_reducible refine (whole_Cmp.calls a0 a1 t123 _ A65.out).mono ?_); rintro e w77 ⟨rfl, hb⟩; replace HB := bs_ HB hb; (try clear hb); (try clear hb2); (try clear hk); (try clear hi)) | (go_at_call 24; (with_reducible refine (r2_Cmp.calls a0 a1 t124 _ A66.out).mono ?_); rintro e w78 ⟨rfl, hb⟩; replace HB := bs_ HB hb; (try clear hb); (try clear hb2); (try clear hk); (try clear hi)) | (go_at_call 25; (with_reducible refine (whole_Add.calls a0 a1 t125 _ ?side1 A68.out).mono ?_); (case side1 => exact lb_ HLD HB); rintro e w79 ⟨rfl, hb⟩; replace HB := bs_ HB hb; (try clear hb); (try clear hb2); (try clear hk); (try clear hi)) | (go_at_call 26; (with_reducible refine (r2_Add.calls a0 a1 t126 _ A69.out).mono ?_); rintro e w80 ⟨rfl, hb⟩; replace HB := bs_ HB hb; (try clear hb); (try clear hb2); (try clear hk); (try clear hi)) | (go_at_call 27; (with_reducible refine (whole_Sub.calls a0 a1 t127 _ ?side1 A71.out).mono ?_); (case side1 => exact lb_ HLD HB); rintro e w81 ⟨rfl, hb⟩; replace HB := bs_ HB hb; (try clear hb); (try clear hb2); (try clear hk); (try clear hi)) | (go_at_call 28; (with_reducible refine (r2_Sub.calls a0 a1 t128 _ A72.out).mono ?_); rintro e w82 ⟨rfl, hb⟩; replace HB := bs_ HB hb; (try clear hb); (try clear hb2); (try clear hk); (try clear hi)) | (go_at_call 29; (with_reducible refine (whole_Mul.calls a0 a1 t129 _ ?side1 A74.out).mono ?_); (case side1 => exact lb_ HLD HB); rintro e w83 ⟨rfl, hb⟩; replace HB := bs_ HB hb; (try clear hb); (try clear hb2); (try clear hk); (try clear hi)) | (go_at_call 30; (with_reducible refine (r2_Mul.calls a0 a1 t130 _ A75.out).mono ?_); rintro e w84 ⟨rfl, hb⟩; replace HB := bs_ HB hb; (try clear hb); (try clear hb2); (try clear hk); (try clear hi)))
         go_ret
         exact ⟨er_, b_ HB.out⟩
        ·rw [if_neg c73] at H; exact absurd (H.trans (congrArg some hr_.out)) (by decide)
       ·rw [if_neg c70] at H; exact absurd (H.trans (congrArg some hr_.out)) (by decide)
      ·rw [if_neg c67] at H; exact absurd (H.trans (congrArg some hr_.out)) (by decide)
     ·replace c64 := Bool.eq_false_iff.mpr c64; subst c64
      have H1 : (some false) = some r := by rw [if_neg (show ¬ (false = true) by decide)] at H; exact H
      exact absurd (H1.trans (congrArg some hr_.out)) (by decide)
 ·replace c5 := Bool.eq_false_iff.mpr c5; subst c5; rw [if_neg nf_] at H; obtain ⟨t105, A101, H⟩ := bi_ H; obtain rfl := Option.some.inj H; go_enter Tryz.func3, Tryz.ntmps3
  go_wp2_with (first | ((with_reducible refine gate_dst (N := 15) rfl ?_); refine Kd.R_lit Kd.string _ 9 ?hg (N := 15) ?hd (xs := ([a0, a1] : List ByteArray)) (inner := [.string a0, .string a1]) (ok := fun _ => True) (okp := fun _ => True) ?hr ?hp (fun _ hk => hk) trivial (Below.refl _ _) (Nat.le_refl _) (by simp) ?_; (case hd => rfl); (case hg => rfl); (case hr => first | (go_simp; done) | (go_simp; rfl)); (case hp => exact (Reps.one (show Kd.M Kd.string _ _ _ a0 [.string a0] from rfl) (Reps.one (show Kd.M Kd.string _ _ _ a1 [.string a1] from rfl) (Reps.none _ _)))); intro v102 w102 ho103 hb hg_ hnew_; clear hg_ hnew_; (first | rw [← Ny101.out] at ho103 | (simp only [Int.reduceToNat] at ho103; rw [← Ny101.out] at ho103)); have HO103 := Aside0.mk (Kd.R_lower ho103 (below_size (b_ HB.out))); replace HB := bs_ HB hb; clear hb ho103; obtain ⟨Ao104, co104, eo104⟩ := Kd.R_slice HO103.out; subst eo104) | (refine gl_ 16 Tryz.func9 #[.slice Ao104 y101.length co104] ?_; refine mo_ (r1_Short.calls _ _ y101 false _ (c_ (Kd.R_reads' HO103.out).2.2) ((Kd.R_reads' HO103.out).2.1) A4.out) ?_; intro w105 hb; replace HO103 := Aside0.mk (Kd.R_below (w_ HO103.out) hb); replace HB := bs_ HB hb; (try clear hb); (try clear hb2); (try clear hk); (try clear hi)) | (refine gl_ 18 Tryz.func10 #[] ?_; refine mo_ (dl2_fixed.calls  t105 _ (lb_ HLD HB) A101.out) ?_; intro w106 hb; replace HO103 := Aside0.mk (Kd.R_below (w_ HO103.out) hb); replace HB := bs_ HB hb; (try clear hb); (try clear hb2); (try clear hk); (try clear hi)))
  go_ret
  exact ⟨er_, b_ HB.out⟩
end Go.Proofs.YtmkmldkfaehefaaGreatDoor.LWholeTells
end

section
namespace Go.Proofs.YtmkmldkfaehefaaGreatDoor.LWholeTells
end Go.Proofs.YtmkmldkfaehefaaGreatDoor.LWholeTells
end

section
namespace Go.Proofs.YtmkmldkfaehefaaGreatDoor
theorem pureWholeTells (a0 a1 : ByteArray) (a2 : Int) (w0 : a0.size ≤ 140737488351232) (w1 : a1.size ≤ 140737488351232) (w2 : (Lit.int .i64 a2).wf = true) : ∃ k, LWholeTells.dl2_WholeTells.f k a0 a1 a2 = some true := by
 refine ⟨3, ?_⟩
 unfold LWholeTells.dl2_WholeTells.f dl2_fixed.f
 have hz := wf_i64 w2
 rw [shorts2, Option.bind_some]
 cases h0 : shortT a0 <;> cases h1 : shortT a1
 all_goals first | rfl | skip
 have z0 := shortT_le h0
 have z1 := shortT_le h1
 have sx : smw a0 = true := decide_eq_true (by omega)
 have s2 : smw2 a0 a1 = true := by unfold smw2; rw [sx, Bool.true_and]; exact decide_eq_true (by omega)
 have rx : smr a0 = true := decide_eq_true (by omega)
 have r2 : smr2 a0 a1 = true := by unfold smr2; rw [rx, Bool.true_and]; exact decide_eq_true (by omega)
 have hd : ∃ m, whole_Div.f a0 a1 = some m ∧ r2_Div.f a0 a1 = some m := ⟨_, if_pos s2, if_pos r2⟩
 have hy : whole_May.f a0 = some (mayW a0) ∧ r2_May.f a0 = some (mayW a0) := ⟨if_pos sx, rMay2 (by omega)⟩
 have ho : ∃ m, whole_Of.f a2 = some m ∧ r2_Of.f a2 = some m := ⟨_, if_pos hz, if_pos hz⟩
 have hg : ∃ m, whole_Sign.f a0 = some m ∧ r2_Sign.f a0 = some m := ⟨_, if_pos sx, if_pos rx⟩
 have ha : ∃ m, whole_Abs.f a0 = some m ∧ r2_Abs.f a0 = some m := ⟨_, if_pos sx, if_pos rx⟩
 have hn : ∃ m, whole_Neg.f a0 = some m ∧ r2_Neg.f a0 = some m := ⟨_, if_pos sx, if_pos rx⟩
 have hc : ∃ m, whole_Cmp.f a0 a1 = some m ∧ r2_Cmp.f a0 a1 = some m := ⟨_, if_pos s2, if_pos r2⟩
 have hu : ∃ m, whole_Add.f a0 a1 = some m ∧ r2_Add.f a0 a1 = some m := ⟨_, if_pos s2, if_pos r2⟩
 have hv : ∃ m, whole_Sub.f a0 a1 = some m ∧ r2_Sub.f a0 a1 = some m := ⟨_, if_pos s2, if_pos r2⟩
 have hw : ∃ m, whole_Mul.f a0 a1 = some m ∧ r2_Mul.f a0 a1 = some m := ⟨_, if_pos s2, if_pos r2⟩
 obtain ⟨⟨d1, d2, d3⟩, hd, hd'⟩ := hd
 obtain ⟨o, ho, ho'⟩ := ho
 obtain ⟨g, hg, hg'⟩ := hg
 obtain ⟨b, ha, ha'⟩ := ha
 obtain ⟨n, hn, hn'⟩ := hn
 obtain ⟨c, hc, hc'⟩ := hc
 obtain ⟨u, hu, hu'⟩ := hu
 obtain ⟨v, hv, hv'⟩ := hv
 obtain ⟨m, hw, hw'⟩ := hw
 have last : LWholeTells.dl2_WholeTells.j0 3 a0 a1 false = some true := by
  show LWholeTells.dl2_WholeTells.j0 (2 + 1) _ _ false = _
  simp only [LWholeTells.dl2_WholeTells.j0]
  unfold dl2_fixed.f
  rw [if_neg (by decide), Option.bind_some, if_pos rfl, hc, Option.bind_some, hc', Option.bind_some, if_pos rfl, hu, Option.bind_some, hu', Option.bind_some, if_pos rfl, hv, Option.bind_some, hv', Option.bind_some, if_pos rfl, hw, Option.bind_some, hw', Option.bind_some, beq_self_eq_true]
 rw [if_pos (by rfl), hd, Option.bind_some, hd', Option.bind_some, if_pos rfl, if_pos rfl, if_neg (bne_same _), hy.1, Option.bind_some, hy.2, Option.bind_some, if_neg (bne_same _), ho, Option.bind_some, ho', Option.bind_some, if_pos rfl, hg, Option.bind_some, hg', Option.bind_some, if_pos rfl, ha, Option.bind_some, ha', Option.bind_some, if_pos rfl, hn, Option.bind_some, hn', Option.bind_some, bne_self_eq_false]
 exact last
end Go.Proofs.YtmkmldkfaehefaaGreatDoor
end

section
namespace Go.Proofs.YtmkmldkfaehefaaGreatDoor.wholeTells
open Go.ChangeShapes Go.WideShapes Go.ChangeAt Go.RowKit
open Go.ChangeMaps (open_string shut_string)
set_option maxRecDepth 100000 in
theorem lifted (os : Os) (started : os.Started) (H : Type) (enc : TypeId × Value → H) :
  ReturnsInHanded {} Tryz.checked os 3 .any (fun w args => (Rows.wholeTellsSpec.pre enc Tryz.prog Tryz.f3 Rows.wholeTellsRow.domain false w args ∧ laidMetH Tryz.prog laidL w) ∧ sizedMet enc Tryz.prog Tryz.f3 (OpenSpec.ofChange Rows.wholeTellsSpec) false w args)
   (Rows.wholeTellsSpec.post enc Tryz.prog Tryz.f3 false true false false) := by
 refine returnsInHanded_of_change_and (C := Tryz.checked) (X := fun w _ => laidMetH Tryz.prog laidL w) (fun _ _ _ hh h => h.of_heap hh) own started (by kernel_rfl) Tryz.func3
  (ChangeSpec.witness_shaped (enc := enc) (C := Tryz.checked) (os := os) (X := fun w _ => laidMetH Tryz.prog laidL w) false (World.doorLaid Tryz.prog 4000 os) #[.string ByteArray.empty, .string ByteArray.empty, .int .i64 0] 8 rfl (World.shaped_of_RefB (by kernel_rfl) (by kernel_rfl)) (by kernel_rfl) (by kernel_rfl) (by kernel_rfl) (door_met os _)) ?_
 intro W base args ds gs before hval0 hW _ hsz0 hL _
 have hsz : (DataW.weightsEach Tryz.prog (Tryz.f3.params.toList ++ Rows.wholeTellsSpec.plain.varTypes Tryz.prog) (ds ++ gs)).all (· ≤ reachBytes) = true := hsz0
 have hval : ∀ (j : Nat) t v, Tryz.f3.params[j]? = some t → args[j]? = some v → Value.okWide Tryz.prog W .any base t v := hval0
 have hW' := hW
 obtain ⟨p, q, hA0, hV, rfl, hfz, hnd⟩ := hW
 have hA : DataW.TrodAll enc Tryz.prog W 0 (fun _ => true) true Tryz.f3.params.toList args.toList ds p := hA0
 rw [Tryz.params3] at hA hval hsz
 obtain ⟨v0, vs0, d0, ds0, p0, q0, hargs, rfl, rfl, h0, r0⟩ := trodAll_cons hA
 obtain ⟨v1, vs1, d1, ds1, p1, q1, rfl, rfl, rfl, h1, r1⟩ := trodAll_cons r0
 obtain ⟨v2, vs2, d2, ds2, p2, q2, rfl, rfl, rfl, h2, r2⟩ := trodAll_cons r1
 obtain ⟨rfl, rfl, rfl⟩ := trodAll_nil r2
 obtain rfl : args = #[v0, v1, v2] := by cases args; simp_all
 obtain ⟨rfl, rfl⟩ := trodVars_none hV
 obtain ⟨a0, rfl, rfl, rfl, y0⟩ := open_string Tryz.underlying9 (hval 0 9 v0 rfl rfl) h0
 have w0 : a0.size ≤ 140737488351232 := by
  have z := sized_string hsz (j := 0) (t := 9) rfl rfl
  rw [Array.length_toList] at z
  exact z
 obtain ⟨a1, rfl, rfl, rfl, y1⟩ := open_string Tryz.underlying9 (hval 1 9 v1 rfl rfl) h1
 have w1 : a1.size ≤ 140737488351232 := by
  have z := sized_string hsz (j := 1) (t := 9) rfl rfl
  rw [Array.length_toList] at z
  exact z
 obtain ⟨a2, rfl, rfl, rfl, w2⟩ := open_int Tryz.underlying3 (hval 2 3 v2 rfl rfl) h2
 clear hA0 hval0 hsz0 hsz
 obtain ⟨k, hf⟩ := pureWholeTells a0 a1 a2 w0 w1 w2
 refine (LWholeTells.dl2_WholeTells.calls k a0 a1 a2 true W (laid_of hL) ⟨rfl⟩ hf).mono fun e W' ⟨he, bel⟩ => ?_
 subst he
 exact ⟨_, rfl, _, _, _, [], _, [], hW', trodAll_mk1 (shut_bool Tryz.underlying4 _), (trodAll_cons_mk (shut_string Tryz.underlying9 y0) (trodAll_cons_mk (shut_string Tryz.underlying9 y1) (trodAll_cons_mk (shut_int Tryz.underlying3 w2) trodAll_mk0))), rfl, bel.frame _, fun h => by cases h⟩
theorem over : Rows.WholeTellsSaid :=
 OpenClaim.holds_of_wide 3 Tryz.f3 rfl rfl rfl rfl rfl rfl rfl ⟨rfl, rfl, rfl, rfl, rfl⟩ rfl rfl rfl rfl rfl (by kernel_rfl) Tryz.func3 (by kernel_rfl)
  (of_decide_eq_true (by kernel_rfl)) (by unfold Func.isWrapper; first | (rw [if_pos (by decide +kernel)]; kernel_rfl) | (rw [if_neg (by decide +kernel)]; exact ⟨rfl, rfl⟩))
  (fun os started H enc _ => lifted os started H enc)
theorem proved : Rows.WholeTellsCardSaid :=
 Claim7.holds_tied_plain_at .later [] [.data, .data, .data, .sentinel, .sentinel] true (true, "bdbd4e5b09325eccd875a060e8c411f452cabddbb7ed0d3b3fcf22eeff5f72e7") true
  over (fun _ h => by cases h) (by kernel_rfl) (fun _ h => by cases h) wholeTells_row_tie rfl ⟨rfl, rfl⟩ (by kernel_rfl) rfl
  (fun f fn hf hfn => by
   obtain rfl : f = 3 := Option.some.inj ((show Tryz.prog.funcNamed "debenture/debenturelaw02.WholeTells" = some 3 by kernel_rfl).symm.trans hf) |>.symm
   obtain rfl : fn = Tryz.f3 := (Option.some.inj (Tryz.func3.symm.trans hfn)).symm
   exact ⟨by kernel_rfl, fun j t ht => by
    rw [Tryz.params3] at ht
    have hm : t ∈ [9, 9, 3] := by simpa using Array.mem_of_getElem? ht
    have hall : ([9, 9, 3].all fun u => !Tryz.prog.wantsStandIn u) = true := by kernel_rfl
    exact (show Tryz.prog.wantsStandIn t = false by simpa using List.all_eq_true.1 hall t hm)⟩)
  (by kernel_rfl)
end Go.Proofs.YtmkmldkfaehefaaGreatDoor.wholeTells
namespace Go.Proofs.YtmkmldkfaehefaaGreatDoor
theorem wholeTells_holds : Rows.WholeTellsCardSaid := wholeTells.proved
#print axioms wholeTells_holds
end Go.Proofs.YtmkmldkfaehefaaGreatDoor
end
