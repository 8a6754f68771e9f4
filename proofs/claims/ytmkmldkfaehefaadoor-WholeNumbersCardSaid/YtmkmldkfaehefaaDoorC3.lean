/-
Parts of the proof, in build order: Pt2, Pt, Dig, Lim, NatLaw, TakeLaw, ShortLaw, Knuth.
-/
import Derived.Test.YtmkmldkfaehefaaDoorC1
import Derived.Test.YtmkmldkfaehefaaDoorC2
import Derived.Lib.ItoaNum
import Derived.Lib.AtoiAllCases
import Derived.Lib.Hide
-- Written by wip/pp.py of this place (over the kit's print) out of the translation.
section
namespace Go.Proofs.YtmkmldkfaehefaaDoor.Pt
open Go.RowKit Go.Proofs.YtmkmldkfaehefaaDoor.Pm Go.Proofs.YtmkmldkfaehefaaDoorW.PrintWords Go.Proofs.YtmkmldkfaehefaaDoorW.PrintLast Go.Proofs.YtmkmldkfaehefaaDoorW.PrintMore
attribute [local go_sem] max2_int min2_int max_two min_two max_three min_three max_four min_four   -- for this text's walks alone
set_option linter.unusedVariables false
set_option linter.unusedSimpArgs false

mutual
def nat_div.l0 : Nat → List Int → List Int → List Int → Int → List Int → Int → Option (List Int × List Int)
 | 0, _, _, _, _, _, _ => none
 | k + 1, x6, x7, x8, x9, x10, x11 => if x11 ≥ 0 then (if 0 ≤ (wrap64 (x11 + x9)) then (if (wrap64 (x11 + x9)) < (x7.length : Int) then (if 0 ≤ (wrap64 ((wrap64 (x11 + x9)) - 1)) then (if (wrap64 ((wrap64 (x11 + x9)) - 1)) < (x7.length : Int) then (if 0 ≤ (wrap64 (x9 - 1)) then (if (wrap64 (x9 - 1)) < (x8.length : Int) then (if (rd x8 (wrap64 (x9 - 1))) = 0 then (none) else (nat_div.l1 k x6 x7 x8 x9 x10 x11 (wrap64 (Int.tdiv (wrap64 ((wrap64 ((rd x7 (wrap64 (x11 + x9))) * 10000)) + (rd x7 (wrap64 ((wrap64 (x11 + x9)) - 1))))) (rd x8 (wrap64 (x9 - 1))))) (Int.tmod (wrap64 ((wrap64 ((rd x7 (wrap64 (x11 + x9))) * 10000)) + (rd x7 (wrap64 ((wrap64 (x11 + x9)) - 1))))) (rd x8 (wrap64 (x9 - 1)))))) else (none)) else (none)) else (none)) else (none)) else (none)) else (none)) else ((nat_limbs_trim.f k x7).bind fun t142 => (if 0 < (x6.length : Int) then ((nat_short.f t142 (rd x6 0)).bind fun bt146 => ((nat_limbs_trim.f k x10).bind fun t152 => (some (t152, bt146.1)))) else (none)))
def nat_div.l1 : Nat → List Int → List Int → List Int → Int → List Int → Int → Int → Int → Option (List Int × List Int)
 | 0, _, _, _, _, _, _, _, _ => none
 | k + 1, x6, x7, x8, x9, x10, x11, x13, x14 => if x13 ≥ 10000 then (nat_div.j2 k x6 x7 x8 x9 x10 x11 x13 x14 true) else (if 0 ≤ (wrap64 (x9 - 2)) then (if (wrap64 (x9 - 2)) < (x8.length : Int) then (if 0 ≤ (wrap64 ((wrap64 (x11 + x9)) - 2)) then (if (wrap64 ((wrap64 (x11 + x9)) - 2)) < (x7.length : Int) then (nat_div.j2 k x6 x7 x8 x9 x10 x11 x13 x14 (decide ((wrap64 (x13 * (rd x8 (wrap64 (x9 - 2))))) > (wrap64 ((wrap64 (x14 * 10000)) + (rd x7 (wrap64 ((wrap64 (x11 + x9)) - 2)))))))) else (none)) else (none)) else (none)) else (none))
def nat_div.j2 : Nat → List Int → List Int → List Int → Int → List Int → Int → Int → Int → Bool → Option (List Int × List Int)
 | 0, _, _, _, _, _, _, _, _, _ => none
 | k + 1, x6, x7, x8, x9, x10, x11, x13, x14, x115 => if x115 = true then (if 0 ≤ (wrap64 (x9 - 1)) then (if (wrap64 (x9 - 1)) < (x8.length : Int) then (if (wrap64 (x14 + (rd x8 (wrap64 (x9 - 1))))) < 10000 then (nat_div.l1 k x6 x7 x8 x9 x10 x11 (wrap64 (x13 - 1)) (wrap64 (x14 + (rd x8 (wrap64 (x9 - 1)))))) else (nat_div.j3 k x6 x7 x8 x9 x10 x11 (wrap64 (x13 - 1)))) else (none)) else (none)) else (nat_div.j3 k x6 x7 x8 x9 x10 x11 x13)
def nat_div.j3 : Nat → List Int → List Int → List Int → Int → List Int → Int → Int → Option (List Int × List Int)
 | 0, _, _, _, _, _, _, _ => none
 | k + 1, x6, x7, x8, x9, x10, x11, x13 => (nat_take.f k x7 x8 x11 x13).bind fun bt162 => (if bt162.1 < 0 then ((nat_give.f k bt162.2 x8 x11).bind fun t164 => (if 0 ≤ x11 then (if x11 < (x10.length : Int) then (nat_div.l0 k x6 t164 x8 x9 (x10.set (x11 : Int).toNat (wrap64 (x13 - 1))) (wrap64 (x11 - 1))) else (none)) else (none))) else (if 0 ≤ x11 then (if x11 < (x10.length : Int) then (nat_div.l0 k x6 bt162.2 x8 x9 (x10.set (x11 : Int).toNat x13) (wrap64 (x11 - 1))) else (none)) else (none)))
end
def nat_div.f (k : Nat) (l0 : List Int) (l1 : List Int) : Option (List Int × List Int) := (nat_compare.f l0 l1).bind fun t115 => (if t115 < 0 then (some (([] : List Int), l0)) else (if (l1.length : Int) = 1 then (if 0 < (l1.length : Int) then ((nat_short.f l0 (rd l1 0)).bind fun bt117 => (some (bt117.1, bt117.2))) else (none)) else (if 0 ≤ (wrap64 ((l1.length : Int) - 1)) then (if (wrap64 ((l1.length : Int) - 1)) < (l1.length : Int) then (if (wrap64 ((rd l1 (wrap64 ((l1.length : Int) - 1))) + 1)) = 0 then (none) else ((some (([wrap64 (Int.tdiv (10000 : Int) (wrap64 ((rd l1 (wrap64 ((l1.length : Int) - 1))) + 1)))] : List Int) : List Int)).bind fun y124 => ((nat_mul.f k l0 y124).bind fun t127 => ((some (([0, 0] : List Int) : List Int)).bind fun y130 => (if t127.length + y130.length < 17592186044416 then ((some (t127 ++ y130 : List Int)).bind fun y133 => ((nat_mul.f k l1 y124).bind fun t136 => (if 0 ≤ (wrap64 ((y133.length : Int) - (t136.length : Int))) then (if (wrap64 ((y133.length : Int) - (t136.length : Int)) : Int).toNat ≤ 35184372088832 then (nat_div.l0 k y124 y133 t136 (t136.length : Int) (List.replicate (wrap64 ((y133.length : Int) - (t136.length : Int)) : Int).toNat 0) (wrap64 ((wrap64 ((y133.length : Int) - (t136.length : Int))) - 1))) else (none)) else (none)))) else (none)))))) else (none)) else (none))))
def nat_div.T12 : Bool × List (List Nat × List Nat) := (true, [([], []), ([], []), ([], []), ([1, 2], [1, 2]), ([0, 3], [0, 3]), ([4], [4]), ([5], [5]), ([], []), ([], []), ([], []), ([8, 9], [8, 9]), ([10], [10]), ([7, 11], [7, 11]), ([12], [12]), ([6, 13], [6, 13]), ([14, 0, 1, 2, 3, 4, 5, 6, 7, 8, 9, 10, 11, 12, 13, 14], [14])])
def nat_div.B12 : List Nat := [0, 0, 0, 6, 15, 31, 63, 0, 0, 0, 768, 1792, 3968, 8064, 16383, 32767]
theorem nat_div.tab12 : rtab .any (opsOf Tryd.f38 12) = nat_div.T12 := by kernel_rfl
theorem nat_div.bits12 : waitsOk nat_div.T12.2 nat_div.B12 = true := by kernel_rfl
def nat_div.T13 : Bool × List (List Nat × List Nat) := (true, [([], []), ([], []), ([], []), ([2], [2]), ([1, 3], [1, 3]), ([4], [4]), ([0, 5], [0, 5]), ([], []), ([], []), ([], []), ([9], [9]), ([8, 10], [8, 10]), ([11], [11]), ([7, 12], [7, 12]), ([6, 0, 1, 2, 3, 4, 5, 6], [6]), ([13, 14, 0, 1, 2, 3, 4, 5, 6, 7, 8, 9, 10, 11, 12, 13, 14], [13])])
def nat_div.B13 : List Nat := [0, 0, 0, 4, 14, 30, 63, 0, 0, 0, 512, 1792, 3840, 8064, 127, 32767]
theorem nat_div.tab13 : rtab .any (opsOf Tryd.f38 13) = nat_div.T13 := by kernel_rfl
theorem nat_div.bits13 : waitsOk nat_div.T13.2 nat_div.B13 = true := by kernel_rfl
def nat_div.T14 : Bool × List (List Nat × List Nat) := (true, [([], []), ([0], [0]), ([1], [1]), ([2], [2]), ([2], [2]), ([2], [2]), ([5, 2], [2, 5]), ([4, 6, 2], [2, 4, 6]), ([7, 2], [2, 7]), ([3, 8, 2], [2, 3, 8]), ([2], [2]), ([10, 2], [2, 10]), ([2], [2]), ([2], [2]), ([2], [2]), ([13, 14, 2], [2, 13, 14]), ([15, 2], [2, 15]), ([12, 16, 2], [2, 12, 16]), ([17, 2], [2, 17]), ([11, 18, 2], [2, 11, 18]), ([9, 19, 2], [2, 9, 19]), ([2, 20], [2, 20])])
def nat_div.B14 : List Nat := [0, 1, 3, 7, 7, 7, 39, 119, 247, 511, 7, 1031, 7, 7, 7, 24583, 57351, 126983, 258055, 523271, 1048575, 2097151]
theorem nat_div.tab14 : rtab .any (opsOf Tryd.f38 14) = nat_div.T14 := by kernel_rfl
theorem nat_div.bits14 : waitsOk nat_div.T14.2 nat_div.B14 = true := by kernel_rfl
def nat_div.T22 : Bool × List (List Nat × List Nat) := (true, [([], []), ([0], [0]), ([], []), ([2], [2]), ([3], [3]), ([1, 4, 1], [1, 4]), ([5], [5]), ([6], [6]), ([6], [6]), ([7, 5, 0, 1, 2, 3, 4, 5, 6, 7], [7]), ([8, 9, 0, 1, 2, 3, 4, 5, 6, 7, 8, 9], [8])])
def nat_div.B22 : List Nat := [0, 1, 0, 4, 12, 31, 63, 127, 127, 255, 1023]
theorem nat_div.tab22 : rtab .any (opsOf Tryd.f38 22) = nat_div.T22 := by kernel_rfl
theorem nat_div.bits22 : waitsOk nat_div.T22.2 nat_div.B22 = true := by kernel_rfl
set_option maxHeartbeats 8000000 in
set_option maxRecDepth 100000 in
theorem nat_div.calls (k : Nat) (P0_ : Nat → Prop) (A0 : Option Addr) (c0 : Nat) (l0 : List Int) (A1 : Option Addr) (c1 : Nat) (l1 : List Int) (r1 : List Int) (r2 : List Int) (w : World) (hs0 : Kd.V (Kd.int .i64) 3 w w.heap.size (fun k_ => P0_ k_) (.slice A0 l0.length c0) l0) (hr1 : Kd.C (Kd.int .i64) w A1 l1.length l1) (hc1 : l1.length ≤ c1) (h : nat_div.f k l0 l1 = some (r1, r2)) :
  Calls Tryd.prog 38 #[.slice A0 l0.length c0, .slice A1 l1.length c1] w fun e w' => ∃ v0_ v1_ : Value, e = .returned (.tuple #[v0_, v1_]) ∧ Kd.V (Kd.int .i64) 3 w' w.heap.size (fun k_ => (P0_ k_ ∨ w.heap.size ≤ k_)) v0_ r1 ∧ Kd.V (Kd.int .i64) 3 w' w.heap.size (fun k_ => (P0_ k_ ∨ w.heap.size ≤ k_)) v1_ r2 ∧ Below w.heap.size w w' := by
 have HO0 := Aside0.mk (show Kd.V (Kd.int .i64) 3 w w.heap.size (fun k_ => (P0_ k_ ∨ w.heap.size ≤ k_)) (.slice A0 l0.length c0) l0 from Kd.V_mono hs0 (fun k_ hk => .inl hk))
 have HR1 := Aside0.mk hr1
 have HC1 := Aside0.mk hc1
 clear hr1 hc1
 have HB := Aside0.mk (Below.refl w.heap.size w)
 have H : ((nat_compare.f l0 l1).bind fun t115 => (if t115 < 0 then (some (([] : List Int), l0)) else (if (l1.length : Int) = 1 then (if 0 < (l1.length : Int) then ((nat_short.f l0 (rd l1 0)).bind fun bt117 => (some (bt117.1, bt117.2))) else (none)) else (if 0 ≤ (wrap64 ((l1.length : Int) - 1)) then (if (wrap64 ((l1.length : Int) - 1)) < (l1.length : Int) then (if (wrap64 ((rd l1 (wrap64 ((l1.length : Int) - 1))) + 1)) = 0 then (none) else ((some (([wrap64 (Int.tdiv (10000 : Int) (wrap64 ((rd l1 (wrap64 ((l1.length : Int) - 1))) + 1)))] : List Int) : List Int)).bind fun y124 => ((nat_mul.f k l0 y124).bind fun t127 => ((some (([0, 0] : List Int) : List Int)).bind fun y130 => (if t127.length + y130.length < 17592186044416 then ((some (t127 ++ y130 : List Int)).bind fun y133 => ((nat_mul.f k l1 y124).bind fun t136 => (if 0 ≤ (wrap64 ((y133.length : Int) - (t136.length : Int))) then (if (wrap64 ((y133.length : Int) - (t136.length : Int)) : Int).toNat ≤ 35184372088832 then (nat_div.l0 k y124 y133 t136 (t136.length : Int) (List.replicate (wrap64 ((y133.length : Int) - (t136.length : Int)) : Int).toNat 0) (wrap64 ((wrap64 ((y133.length : Int) - (t136.length : Int))) - 1))) else (none)) else (none)))) else (none)))))) else (none)) else (none))))) = some (r1, r2) := h
 clear h
 replace H := Option.bind_eq_some_iff.mp H
 obtain ⟨t115, A30, H⟩ := H
 replace H : (if t115 < 0 then (some (([] : List Int), l0)) else (if (l1.length : Int) = 1 then (if 0 < (l1.length : Int) then ((nat_short.f l0 (rd l1 0)).bind fun bt117 => (some (bt117.1, bt117.2))) else (none)) else (if 0 ≤ (wrap64 ((l1.length : Int) - 1)) then (if (wrap64 ((l1.length : Int) - 1)) < (l1.length : Int) then (if (wrap64 ((rd l1 (wrap64 ((l1.length : Int) - 1))) + 1)) = 0 then (none) else ((some (([wrap64 (Int.tdiv (10000 : Int) (wrap64 ((rd l1 (wrap64 ((l1.length : Int) - 1))) + 1)))] : List Int) : List Int)).bind fun y124 => ((nat_mul.f k l0 y124).bind fun t127 => ((some (([0, 0] : List Int) : List Int)).bind fun y130 => (if t127.length + y130.length < 17592186044416 then ((some (t127 ++ y130 : List Int)).bind fun y133 => ((nat_mul.f k l1 y124).bind fun t136 => (if 0 ≤ (wrap64 ((y133.length : Int) - (t136.length : Int))) then (if (wrap64 ((y133.length : Int) - (t136.length : Int)) : Int).toNat ≤ 35184372088832 then (nat_div.l0 k y124 y133 t136 (t136.length : Int) (List.replicate (wrap64 ((y133.length : Int) - (t136.length : Int)) : Int).toNat 0) (wrap64 ((wrap64 ((y133.length : Int) - (t136.length : Int))) - 1))) else (none)) else (none)))) else (none)))))) else (none)) else (none)))) = some (r1, r2) := H
 have A3 := Aside0.mk A30
 clear A30
 by_cases c4 : t115 < 0
 ·rw [if_pos c4] at H
  have c4b0 : decide (t115 < 0) = true := decide_eq_true c4
  clear c4
  simp only [Option.some.injEq, Prod.mk.injEq] at H
  obtain ⟨rfl, rfl⟩ := H
  go_enter Tryd.func38, Tryd.ntmps38
  go_wp2_with (first | (first | (with_reducible refine Exit.only_intro ?_) | ((with_reducible refine wp_scope_redo (rest := ?rest_) 0 ?hf_ ?_); (case hf_ => exact rfl)) | (with_reducible apply wp_goto)) | ((with_reducible refine gate_callee (f := 40) rfl ?_); refine goesL_ (some 19) rfl rfl Tryd.func40 (by kernel_rfl) rfl #[.slice A0 l0.length c0, .slice A1 l1.length c1] rfl (by (try simp only [List.map_toArray, List.map_cons, List.map_nil]); first | done | rfl | (simp only [List.length_drop, List.length_take]; rfl)) ?_; (with_reducible refine (nat_compare.calls _ _ l0 _ _ l1 t115 _ ?side1 ?side2 ?side3 ?side4 A3.out).mono ?_); (case side1 => repeat (first | exact (Kd.V_reads' HO0.out).2.2 | (with_reducible refine Kd.C_alloc ?_ _) | (with_reducible refine Kd.C_drewN ?_ _) | (with_reducible refine Kd.C_drew ?_))); (case side2 => exact (Kd.V_reads' HO0.out).2.1); (case side3 => repeat (first | exact HR1.out | (with_reducible refine Kd.C_alloc ?_ _) | (with_reducible refine Kd.C_drewN ?_ _) | (with_reducible refine Kd.C_drew ?_))); (case side4 => exact HC1.out); rintro e w5 ⟨rfl, hb⟩; refine ⟨_, rfl, ?_⟩; have n0_ := Aside0.mk (Kd.V_below (by (with_reducible repeat (first | apply Kd.V_alloc | apply Kd.V_drewN | apply Kd.V_drew)); exact HO0.out) hb); have n1_ := Aside0.mk (below_step (by repeat (first | (with_reducible first | exact HB.out | apply below_alloc | apply pw_below_drewN | apply below_drew1) | exact HB.out)) hb); clear HO0; clear HB; have HO0 := n0_; have HB := n1_; clear n0_ n1_; (try clear hb); (try clear hb2); (try clear hk); (try clear hi)))
  go_ret2
  exact ⟨(.slice none 0 0), _, by first | rfl | (simp [errW_none, errW_some] <;> rfl) | (simp [*, errW_none, errW_some] <;> rfl), Kd.V_mono (Kd.V_nil _ _ _ _ _) (fun k_ hk => by first | exact ⟨(.inr (hk.1)), hk.2⟩ | exact (.inr (hk))), by (with_reducible repeat (first | apply Kd.V_alloc | apply Kd.V_drewN | apply Kd.V_drew)); exact HO0.out, by repeat (first | (with_reducible first | exact HB.out | apply below_alloc | apply pw_below_drewN | apply below_drew1) | exact HB.out)⟩
 ·rw [if_neg c4] at H
  have c4b0 : decide (t115 < 0) = false := decide_eq_false c4
  clear c4
  by_cases c6 : (l1.length : Int) = 1
  ·rw [if_pos c6] at H
   have c6b0 : ((l1.length : Int) == 1) = true := beq_iff_eq.mpr c6
   have c6b1 : ((l1.length : Int) != 1) = false := bne_eq_false_iff_eq.mpr c6
   clear c6
   by_cases c7 : 0 < (l1.length : Int)
   ·rw [if_pos c7] at H
    have c7b0 : decide (0 < (l1.length : Int)) = true := decide_eq_true c7
    have c7b1 : decide (0 < l1.length) = true := decide_eq_true (by omega)
    clear c7
    replace H := Option.bind_eq_some_iff.mp H
    obtain ⟨⟨t117, t120⟩, A80, H⟩ := H
    replace H : (some (t117, t120)) = some (r1, r2) := H
    have A8 := Aside0.mk A80
    clear A80
    simp only [Option.some.injEq, Prod.mk.injEq] at H
    obtain ⟨rfl, rfl⟩ := H
    go_enter Tryd.func38, Tryd.ntmps38
    go_wp2_with (first | (first | (with_reducible refine Exit.only_intro ?_) | ((with_reducible refine wp_scope_redo (rest := ?rest_) 0 ?hf_ ?_); (case hf_ => exact rfl)) | (with_reducible apply wp_goto)) | ((with_reducible refine gate_callee (f := 40) rfl ?_); refine goesL_ (some 19) rfl rfl Tryd.func40 (by kernel_rfl) rfl #[.slice A0 l0.length c0, .slice A1 l1.length c1] rfl (by (try simp only [List.map_toArray, List.map_cons, List.map_nil]); first | done | rfl | (simp only [List.length_drop, List.length_take]; rfl)) ?_; (with_reducible refine (nat_compare.calls _ _ l0 _ _ l1 t115 _ ?side1 ?side2 ?side3 ?side4 A3.out).mono ?_); (case side1 => repeat (first | exact (Kd.V_reads' HO0.out).2.2 | (with_reducible refine Kd.C_alloc ?_ _) | (with_reducible refine Kd.C_drewN ?_ _) | (with_reducible refine Kd.C_drew ?_))); (case side2 => exact (Kd.V_reads' HO0.out).2.1); (case side3 => repeat (first | exact HR1.out | (with_reducible refine Kd.C_alloc ?_ _) | (with_reducible refine Kd.C_drewN ?_ _) | (with_reducible refine Kd.C_drew ?_))); (case side4 => exact HC1.out); rintro e w9 ⟨rfl, hb⟩; refine ⟨_, rfl, ?_⟩; have n0_ := Aside0.mk (Kd.V_below (by (with_reducible repeat (first | apply Kd.V_alloc | apply Kd.V_drewN | apply Kd.V_drew)); exact HO0.out) hb); have n1_ := Aside0.mk (below_step (by repeat (first | (with_reducible first | exact HB.out | apply below_alloc | apply pw_below_drewN | apply below_drew1) | exact HB.out)) hb); clear HO0; clear HB; have HO0 := n0_; have HB := n1_; clear n0_ n1_; (try clear hb); (try clear hb2); (try clear hk); (try clear hi); have p116 : 0 ≤ (0 : Int) := (by omega); have q116 : 0 < (l1.length : Int) := of_decide_eq_true (by first | (with_reducible assumption) | assumption); obtain ⟨ad116, e116, hx116_0⟩ := Kd.at_int HR1.out 0 p116 q116; cases e116; have qi116 : (0 < l1.length) = True := eq_true (by omega); (try rw [show ((0 : Int)).toNat = 0 from rfl] at hx116_0); (try rw [Addr.add_zero'] at hx116_0); replace hx116_0 := (HB.out.cell (World.block_lt_of_cell? w _ hx116_0)).trans hx116_0; replace p116 := eq_true p116; replace q116 := eq_true q116) | ((with_reducible refine gate_callee (f := 50) rfl ?_); refine goesL_ (some 29) rfl rfl Tryd.func50 (by kernel_rfl) rfl #[.slice A0 l0.length c0, .int .i64 (rd l1 0)] rfl (by (try simp only [List.map_toArray, List.map_cons, List.map_nil]); first | done | rfl | (simp only [List.length_drop, List.length_take]; rfl)) ?_; (with_reducible refine (nat_short.calls _ _ l0 (rd l1 0) t117 t120 _ ?side1 ?side2 A8.out).mono ?_); (case side1 => repeat (first | exact (Kd.V_reads' HO0.out).2.2 | (with_reducible refine Kd.C_alloc ?_ _) | (with_reducible refine Kd.C_drewN ?_ _) | (with_reducible refine Kd.C_drew ?_))); (case side2 => exact (Kd.V_reads' HO0.out).2.1); rintro e w10 ⟨v118, v121, rfl, ho0, ho1, hb⟩; refine ⟨_, rfl, ?_⟩; have n0_ := Aside0.mk (Kd.V_below (by (with_reducible repeat (first | apply Kd.V_alloc | apply Kd.V_drewN | apply Kd.V_drew)); exact HO0.out) hb); have n1_ := Aside0.mk (Kd.V_lower (Kd.V_mono (ok' := fun k_ => (P0_ k_ ∨ w.heap.size ≤ k_)) ho0 (fun k_ hk_ => (.inr (Nat.le_trans (below_size (by repeat (first | (with_reducible first | exact HB.out | apply below_alloc | apply pw_below_drewN | apply below_drew1) | exact HB.out))) hk_)))) (below_size (by repeat (first | (with_reducible first | exact HB.out | apply below_alloc | apply pw_below_drewN | apply below_drew1) | exact HB.out)))); have n2_ := Aside0.mk (Kd.V_lower (Kd.V_mono (ok' := fun k_ => (P0_ k_ ∨ w.heap.size ≤ k_)) ho1 (fun k_ hk_ => (.inr (Nat.le_trans (below_size (by repeat (first | (with_reducible first | exact HB.out | apply below_alloc | apply pw_below_drewN | apply below_drew1) | exact HB.out))) hk_)))) (below_size (by repeat (first | (with_reducible first | exact HB.out | apply below_alloc | apply pw_below_drewN | apply below_drew1) | exact HB.out)))); have n3_ := Aside0.mk (below_step (by repeat (first | (with_reducible first | exact HB.out | apply below_alloc | apply pw_below_drewN | apply below_drew1) | exact HB.out)) hb); clear HO0; clear HB; have HO0 := n0_; have HO119 := n1_; have HO122 := n2_; have HB := n3_; clear n0_ n1_ n2_ n3_; (try clear hb); (try clear hb2); (try clear hk); (try clear hi); (try clear ho0); (try clear ho1)))
    go_ret2
    exact ⟨_, _, by first | rfl | (simp [errW_none, errW_some] <;> rfl) | (simp [*, errW_none, errW_some] <;> rfl), by (with_reducible repeat (first | apply Kd.V_alloc | apply Kd.V_drewN | apply Kd.V_drew)); exact HO119.out, by (with_reducible repeat (first | apply Kd.V_alloc | apply Kd.V_drewN | apply Kd.V_drew)); exact HO122.out, by repeat (first | (with_reducible first | exact HB.out | apply below_alloc | apply pw_below_drewN | apply below_drew1) | exact HB.out)⟩
   ·rw [if_neg c7] at H
    exact absurd H (by simp)
  ·rw [if_neg c6] at H
   have c6b0 : ((l1.length : Int) == 1) = false := beq_eq_false_iff_ne.mpr c6
   have c6b1 : ((l1.length : Int) != 1) = true := bne_iff_ne.mpr c6
   obtain ⟨ji11, hji11⟩ : ∃ j_ : Int, (wrap64 ((l1.length : Int) - 1)) = j_ := ⟨_, rfl⟩
   replace H : (if 0 ≤ (ji11) then (if (ji11) < (l1.length : Int) then (if (wrap64 ((rd l1 (ji11)) + 1)) = 0 then (none) else ((some (([wrap64 (Int.tdiv (10000 : Int) (wrap64 ((rd l1 (ji11)) + 1)))] : List Int) : List Int)).bind fun y124 => ((nat_mul.f k l0 y124).bind fun t127 => ((some (([0, 0] : List Int) : List Int)).bind fun y130 => (if t127.length + y130.length < 17592186044416 then ((some (t127 ++ y130 : List Int)).bind fun y133 => ((nat_mul.f k l1 y124).bind fun t136 => (if 0 ≤ (wrap64 ((y133.length : Int) - (t136.length : Int))) then (if (wrap64 ((y133.length : Int) - (t136.length : Int)) : Int).toNat ≤ 35184372088832 then (nat_div.l0 k y124 y133 t136 (t136.length : Int) (List.replicate (wrap64 ((y133.length : Int) - (t136.length : Int)) : Int).toNat 0) (wrap64 ((wrap64 ((y133.length : Int) - (t136.length : Int))) - 1))) else (none)) else (none)))) else (none)))))) else (none)) else (none)) = some (r1, r2) := by first | (rw [hji11] at H; exact H) | (simp only [hji11] at H ⊢; exact H)
   (try rw [hji11] at A3)
   have hji11w : (IntKind.i64.wrap ((l1.length : Int) - 1)) = ji11 := (i64_w _).trans hji11
   by_cases c12 : 0 ≤ (ji11)
   ·rw [if_pos c12] at H
    have c12b0 : decide (0 ≤ (ji11)) = true := decide_eq_true c12
    clear c12
    by_cases c13 : (ji11) < (l1.length : Int)
    ·rw [if_pos c13] at H
     have c13b0 : decide ((ji11) < (l1.length : Int)) = true := decide_eq_true c13
     clear c13
     by_cases c14 : (wrap64 ((rd l1 (ji11)) + 1)) = 0
     ·rw [if_pos c14] at H
      exact absurd H (by simp)
     ·rw [if_neg c14] at H
      have c14b0 : ((wrap64 ((rd l1 (ji11)) + 1)) == 0) = false := beq_eq_false_iff_ne.mpr c14
      have c14b1 : ((wrap64 ((rd l1 (ji11)) + 1)) != 0) = true := bne_iff_ne.mpr c14
      obtain ⟨y124, hy124⟩ : ∃ y_ : List Int, y_ = (([wrap64 (Int.tdiv (10000 : Int) (wrap64 ((rd l1 (ji11)) + 1)))] : List Int)) := ⟨_, rfl⟩
      replace H : ((nat_mul.f k l0 y124).bind fun t127 => ((some (([0, 0] : List Int) : List Int)).bind fun y130 => (if t127.length + y130.length < 17592186044416 then ((some (t127 ++ y130 : List Int)).bind fun y133 => ((nat_mul.f k l1 y124).bind fun t136 => (if 0 ≤ (wrap64 ((y133.length : Int) - (t136.length : Int))) then (if (wrap64 ((y133.length : Int) - (t136.length : Int)) : Int).toNat ≤ 35184372088832 then (nat_div.l0 k y124 y133 t136 (t136.length : Int) (List.replicate (wrap64 ((y133.length : Int) - (t136.length : Int)) : Int).toNat 0) (wrap64 ((wrap64 ((y133.length : Int) - (t136.length : Int))) - 1))) else (none)) else (none)))) else (none)))) = some (r1, r2) := by first | (rw [hy124]; with_reducible exact H) | (have H2_ := (Option.bind_some _ _).symm.trans H; rw [hy124]; with_reducible exact H2_) | (have H2_ := (Option.bind_some _ _).symm.trans H; with_reducible exact H2_) | with_reducible exact H | (rw [hy124]; exact H) | exact H
      have Ny124 := Aside0.mk hy124
      clear hy124
      replace H := Option.bind_eq_some_iff.mp H
      obtain ⟨t127, A150, H⟩ := H
      replace H : ((some (([0, 0] : List Int) : List Int)).bind fun y130 => (if t127.length + y130.length < 17592186044416 then ((some (t127 ++ y130 : List Int)).bind fun y133 => ((nat_mul.f k l1 y124).bind fun t136 => (if 0 ≤ (wrap64 ((y133.length : Int) - (t136.length : Int))) then (if (wrap64 ((y133.length : Int) - (t136.length : Int)) : Int).toNat ≤ 35184372088832 then (nat_div.l0 k y124 y133 t136 (t136.length : Int) (List.replicate (wrap64 ((y133.length : Int) - (t136.length : Int)) : Int).toNat 0) (wrap64 ((wrap64 ((y133.length : Int) - (t136.length : Int))) - 1))) else (none)) else (none)))) else (none))) = some (r1, r2) := H
      have A15 := Aside0.mk A150
      clear A150
      obtain ⟨y130, hy130⟩ : ∃ y_ : List Int, y_ = (([0, 0] : List Int)) := ⟨_, rfl⟩
      replace H : (if t127.length + y130.length < 17592186044416 then ((some (t127 ++ y130 : List Int)).bind fun y133 => ((nat_mul.f k l1 y124).bind fun t136 => (if 0 ≤ (wrap64 ((y133.length : Int) - (t136.length : Int))) then (if (wrap64 ((y133.length : Int) - (t136.length : Int)) : Int).toNat ≤ 35184372088832 then (nat_div.l0 k y124 y133 t136 (t136.length : Int) (List.replicate (wrap64 ((y133.length : Int) - (t136.length : Int)) : Int).toNat 0) (wrap64 ((wrap64 ((y133.length : Int) - (t136.length : Int))) - 1))) else (none)) else (none)))) else (none)) = some (r1, r2) := by first | (rw [hy130]; with_reducible exact H) | (have H2_ := (Option.bind_some _ _).symm.trans H; rw [hy130]; with_reducible exact H2_) | (have H2_ := (Option.bind_some _ _).symm.trans H; with_reducible exact H2_) | with_reducible exact H | (rw [hy130]; exact H) | exact H
      have Ny130 := Aside0.mk hy130
      clear hy130
      by_cases c16 : t127.length + y130.length < 17592186044416
      ·rw [if_pos c16] at H
       have LMc16 := Aside0.mk c16
       clear c16
       obtain ⟨y133, hy133⟩ : ∃ y_ : List Int, y_ = (t127 ++ y130) := ⟨_, rfl⟩
       replace H : ((nat_mul.f k l1 y124).bind fun t136 => (if 0 ≤ (wrap64 ((y133.length : Int) - (t136.length : Int))) then (if (wrap64 ((y133.length : Int) - (t136.length : Int)) : Int).toNat ≤ 35184372088832 then (nat_div.l0 k y124 y133 t136 (t136.length : Int) (List.replicate (wrap64 ((y133.length : Int) - (t136.length : Int)) : Int).toNat 0) (wrap64 ((wrap64 ((y133.length : Int) - (t136.length : Int))) - 1))) else (none)) else (none))) = some (r1, r2) := by first | (rw [hy133]; with_reducible exact H) | (have H2_ := (Option.bind_some _ _).symm.trans H; rw [hy133]; with_reducible exact H2_) | (have H2_ := (Option.bind_some _ _).symm.trans H; with_reducible exact H2_) | with_reducible exact H | (rw [hy133]; exact H) | exact H
       have Ny133 := Aside0.mk hy133
       clear hy133
       replace H := Option.bind_eq_some_iff.mp H
       obtain ⟨t136, A170, H⟩ := H
       replace H : (if 0 ≤ (wrap64 ((y133.length : Int) - (t136.length : Int))) then (if (wrap64 ((y133.length : Int) - (t136.length : Int)) : Int).toNat ≤ 35184372088832 then (nat_div.l0 k y124 y133 t136 (t136.length : Int) (List.replicate (wrap64 ((y133.length : Int) - (t136.length : Int)) : Int).toNat 0) (wrap64 ((wrap64 ((y133.length : Int) - (t136.length : Int))) - 1))) else (none)) else (none)) = some (r1, r2) := H
       have A17 := Aside0.mk A170
       clear A170
       obtain ⟨ji18, hji18⟩ : ∃ j_ : Int, (wrap64 ((y133.length : Int) - (t136.length : Int))) = j_ := ⟨_, rfl⟩
       replace H : (if 0 ≤ (ji18) then (if (ji18 : Int).toNat ≤ 35184372088832 then (nat_div.l0 k y124 y133 t136 (t136.length : Int) (List.replicate (ji18 : Int).toNat 0) (wrap64 ((ji18) - 1))) else (none)) else (none)) = some (r1, r2) := by first | (rw [hji18] at H; exact H) | (simp only [hji18] at H ⊢; exact H)
       (try rw [hji18] at A3)
       (try rw [hji18] at A15)
       (try rw [hji18] at A17)
       have hji18w : (IntKind.i64.wrap ((y133.length : Int) - (t136.length : Int))) = ji18 := (i64_w _).trans hji18
       by_cases c19 : 0 ≤ (ji18)
       ·rw [if_pos c19] at H
        have c19b0 := eq_true c19
        have c19b1 : decide (0 ≤ (ji18)) = true := decide_eq_true c19
        clear c19
        by_cases c20 : (ji18 : Int).toNat ≤ 35184372088832
        ·rw [if_pos c20] at H
         have c20b0 := eq_true c20
         have c20b1 : decide ((ji18 : Int).toNat ≤ 35184372088832) = true := decide_eq_true c20
         clear c20
         obtain ⟨y139, hy139⟩ : ∃ y_ : List Int, y_ = (List.replicate (ji18 : Int).toNat 0) := ⟨_, rfl⟩
         replace H : (nat_div.l0 k y124 y133 t136 (t136.length : Int) y139 (wrap64 ((ji18) - 1))) = some (r1, r2) := by first | (rw [hy139]; with_reducible exact H) | (have H2_ := (Option.bind_some _ _).symm.trans H; rw [hy139]; with_reducible exact H2_) | (have H2_ := (Option.bind_some _ _).symm.trans H; with_reducible exact H2_) | with_reducible exact H | (rw [hy139]; exact H) | exact H
         have Ny139 := Aside0.mk hy139
         clear hy139
         have H' := Aside0.mk H
         clear H
         go_enter Tryd.func38, Tryd.ntmps38
         go_wp2_with (first | (first | (with_reducible refine Exit.only_intro ?_) | ((with_reducible refine wp_scope_redo (rest := ?rest_) 0 ?hf_ ?_); (case hf_ => exact rfl)) | (with_reducible apply wp_goto)) | ((with_reducible refine gate_callee (f := 40) rfl ?_); refine goesL_ (some 19) rfl rfl Tryd.func40 (by kernel_rfl) rfl #[.slice A0 l0.length c0, .slice A1 l1.length c1] rfl (by (try simp only [List.map_toArray, List.map_cons, List.map_nil]); first | done | rfl | (simp only [List.length_drop, List.length_take]; rfl)) ?_; (with_reducible refine (nat_compare.calls _ _ l0 _ _ l1 t115 _ ?side1 ?side2 ?side3 ?side4 A3.out).mono ?_); (case side1 => repeat (first | exact (Kd.V_reads' HO0.out).2.2 | (with_reducible refine Kd.C_alloc ?_ _) | (with_reducible refine Kd.C_drewN ?_ _) | (with_reducible refine Kd.C_drew ?_))); (case side2 => exact (Kd.V_reads' HO0.out).2.1); (case side3 => repeat (first | exact HR1.out | (with_reducible refine Kd.C_alloc ?_ _) | (with_reducible refine Kd.C_drewN ?_ _) | (with_reducible refine Kd.C_drew ?_))); (case side4 => exact HC1.out); rintro e w21 ⟨rfl, hb⟩; refine ⟨_, rfl, ?_⟩; have n0_ := Aside0.mk (Kd.V_below (by (with_reducible repeat (first | apply Kd.V_alloc | apply Kd.V_drewN | apply Kd.V_drew)); exact HO0.out) hb); have n1_ := Aside0.mk (below_step (by repeat (first | (with_reducible first | exact HB.out | apply below_alloc | apply pw_below_drewN | apply below_drew1) | exact HB.out)) hb); clear HO0; clear HB; have HO0 := n0_; have HB := n1_; clear n0_ n1_; (try clear hb); (try clear hb2); (try clear hk); (try clear hi); have p123 : 0 ≤ ((ji11) : Int) := of_decide_eq_true (by first | (with_reducible assumption) | assumption); have q123 : (ji11) < (l1.length : Int) := of_decide_eq_true (by first | (with_reducible assumption) | assumption); obtain ⟨ad123, e123, hx123_0⟩ := Kd.at_int HR1.out (ji11) p123 q123; cases e123; replace hx123_0 := (HB.out.cell (World.block_lt_of_cell? w _ hx123_0)).trans hx123_0; replace p123 := eq_true p123; replace q123 := eq_true q123) | ((with_reducible refine gate_dst (N := 40) rfl ?_); refine Kd.R_lit (Kd.int .i64) _ 3 ?hg (N := 40) ?hd (xs := ([wrap64 (Int.tdiv (10000 : Int) (wrap64 ((rd l1 (ji11)) + 1)))] : List Int)) (inner := [.int .i64 (wrap64 (Int.tdiv (10000 : Int) (wrap64 ((rd l1 (ji11)) + 1))))]) (ok := fun _ => True) (okp := fun _ => True) ?hr ?hp (fun _ hk => hk) trivial (Below.refl _ _) (Nat.le_refl _) (by simp) ?_; (case hd => rfl); (case hg => rfl); (case hr => first | (go_simp; done) | (go_simp; rfl)); (case hp => exact (Reps.one (show Kd.M (Kd.int .i64) _ _ _ (wrap64 (Int.tdiv (10000 : Int) (wrap64 ((rd l1 (ji11)) + 1)))) [.int .i64 (wrap64 (Int.tdiv (10000 : Int) (wrap64 ((rd l1 (ji11)) + 1))))] from rfl) (Reps.none _ _))); intro v125 w22 ho23 hb hg_ hnew_; clear hg_ hnew_; (first | rw [← Ny124.out] at ho23 | (simp only [Int.reduceToNat] at ho23; rw [← Ny124.out] at ho23)); have n0_ := Aside0.mk (Kd.V_elder' (by (with_reducible repeat (first | apply Kd.V_alloc | apply Kd.V_drewN | apply Kd.V_drew)); exact HO0.out) (Kd.R_base ho23) hb); have n1_ := Aside0.mk (Kd.R_lower (Kd.R_newM (M := fun k_ => (w.heap.size ≤ k_)) ho23 (below_size (by repeat (first | (with_reducible first | exact HB.out | apply below_alloc | apply pw_below_drewN | apply below_drew1) | exact HB.out))) (fun k_ h_ => h_)) (below_size (by repeat (first | (with_reducible first | exact HB.out | apply below_alloc | apply pw_below_drewN | apply below_drew1) | exact HB.out)))); have n2_ := Aside0.mk (below_step (by repeat (first | (with_reducible first | exact HB.out | apply below_alloc | apply pw_below_drewN | apply below_drew1) | exact HB.out)) hb); clear HO0; clear HB; have HO0 := n0_; have HO126 := n1_; have HB := n2_; clear n0_ n1_ n2_; clear hb ho23; obtain ⟨Ao24, co24, eo24⟩ := Kd.R_slice HO126.out; subst eo24) | ((with_reducible refine gate_callee (f := 34) rfl ?_); refine goesL_ (some 43) rfl rfl Tryd.func34 (by kernel_rfl) rfl #[.slice A0 l0.length c0, .slice Ao24 y124.length co24] rfl (by (try simp only [List.map_toArray, List.map_cons, List.map_nil]); first | done | rfl | (simp only [List.length_drop, List.length_take]; rfl)) ?_; (with_reducible refine (nat_mul.calls k _ _ l0 _ _ y124 t127 _ ?side1 ?side2 ?side3 ?side4 A15.out).mono ?_); (case side1 => repeat (first | exact (Kd.V_reads' HO0.out).2.2 | (with_reducible refine Kd.C_alloc ?_ _) | (with_reducible refine Kd.C_drewN ?_ _) | (with_reducible refine Kd.C_drew ?_))); (case side2 => exact (Kd.V_reads' HO0.out).2.1); (case side3 => repeat (first | exact (Kd.R_reads' HO126.out).2.2 | (with_reducible refine Kd.C_alloc ?_ _) | (with_reducible refine Kd.C_drewN ?_ _) | (with_reducible refine Kd.C_drew ?_))); (case side4 => exact (Kd.R_reads' HO126.out).2.1); rintro e w25 ⟨v128, rfl, ho0, hb⟩; refine ⟨_, rfl, ?_⟩; have n0_ := Aside0.mk (Kd.V_elder' (by (with_reducible repeat (first | apply Kd.V_alloc | apply Kd.V_drewN | apply Kd.V_drew)); exact HO0.out) (Kd.R_base ho0) hb); have n1_ := Aside0.mk (Kd.R_elder' (by (with_reducible repeat (first | apply Kd.R_alloc | apply Kd.R_drewN | apply Kd.R_drew)); exact HO126.out) (Kd.R_base ho0) hb); have n2_ := Aside0.mk (Kd.R_lower (Kd.R_new' (Kd.R_newM (M := fun k_ => (w.heap.size ≤ k_)) ho0 (below_size (by repeat (first | (with_reducible first | exact HB.out | apply below_alloc | apply pw_below_drewN | apply below_drew1) | exact HB.out))) (fun k_ h_ => h_)) (Kd.R_lt (by (with_reducible repeat (first | apply Kd.R_alloc | apply Kd.R_drewN | apply Kd.R_drew)); exact HO126.out))) (below_size (by repeat (first | (with_reducible first | exact HB.out | apply below_alloc | apply pw_below_drewN | apply below_drew1) | exact HB.out)))); have n3_ := Aside0.mk (below_step (by repeat (first | (with_reducible first | exact HB.out | apply below_alloc | apply pw_below_drewN | apply below_drew1) | exact HB.out)) hb); clear HO0; clear HO126; clear HB; have HO0 := n0_; have HO126 := n1_; have HO129 := n2_; have HB := n3_; clear n0_ n1_ n2_ n3_; (try clear hb); (try clear hb2); (try clear hk); (try clear hi); (try clear ho0)) | ((with_reducible refine gate_dst (N := 44) rfl ?_); refine Kd.R_lit (Kd.int .i64) _ 3 ?hg (N := 44) ?hd (xs := ([0, 0] : List Int)) (inner := [.int .i64 0, .int .i64 0]) (ok := fun _ => True) (okp := fun _ => True) ?hr ?hp (fun _ hk => hk) trivial (Below.refl _ _) (Nat.le_refl _) (by simp) ?_; (case hd => rfl); (case hg => rfl); (case hr => first | (go_simp; done) | (go_simp; rfl)); (case hp => exact (Reps.one (show Kd.M (Kd.int .i64) _ _ _ 0 [.int .i64 0] from rfl) (Reps.one (show Kd.M (Kd.int .i64) _ _ _ 0 [.int .i64 0] from rfl) (Reps.none _ _)))); intro v131 w26 ho27 hb hg_ hnew_; clear hg_ hnew_; (first | rw [← Ny130.out] at ho27 | (simp only [Int.reduceToNat] at ho27; rw [← Ny130.out] at ho27)); have n0_ := Aside0.mk (Kd.V_elder' (by (with_reducible repeat (first | apply Kd.V_alloc | apply Kd.V_drewN | apply Kd.V_drew)); exact HO0.out) (Kd.R_base ho27) hb); have n1_ := Aside0.mk (Kd.R_elder' (by (with_reducible repeat (first | apply Kd.R_alloc | apply Kd.R_drewN | apply Kd.R_drew)); exact HO126.out) (Kd.R_base ho27) hb); have n2_ := Aside0.mk (Kd.R_elder' (by (with_reducible repeat (first | apply Kd.R_alloc | apply Kd.R_drewN | apply Kd.R_drew)); exact HO129.out) (Kd.R_base ho27) hb); have n3_ := Aside0.mk (Kd.R_lower (Kd.R_new' (Kd.R_new' (Kd.R_newM (M := fun k_ => (w.heap.size ≤ k_)) ho27 (below_size (by repeat (first | (with_reducible first | exact HB.out | apply below_alloc | apply pw_below_drewN | apply below_drew1) | exact HB.out))) (fun k_ h_ => h_)) (Kd.R_lt (by (with_reducible repeat (first | apply Kd.R_alloc | apply Kd.R_drewN | apply Kd.R_drew)); exact HO126.out))) (Kd.R_lt (by (with_reducible repeat (first | apply Kd.R_alloc | apply Kd.R_drewN | apply Kd.R_drew)); exact HO129.out))) (below_size (by repeat (first | (with_reducible first | exact HB.out | apply below_alloc | apply pw_below_drewN | apply below_drew1) | exact HB.out)))); have n4_ := Aside0.mk (below_step (by repeat (first | (with_reducible first | exact HB.out | apply below_alloc | apply pw_below_drewN | apply below_drew1) | exact HB.out)) hb); clear HO0; clear HO126; clear HO129; clear HB; have HO0 := n0_; have HO126 := n1_; have HO129 := n2_; have HO132 := n3_; have HB := n4_; clear n0_ n1_ n2_ n3_ n4_; clear hb ho27; obtain ⟨Ao29, co29, eo29⟩ := Kd.R_slice HO132.out; subst eo29) | ((with_reducible refine gate_builtin (b := .append) (xs := #[.tmp 43, .tmp 44]) rfl ?_); at_builtin; refine Kd.R_append_rows (Kd.int .i64) (w0 := w) w.heap.size rfl (.tmp 43) (.tmp 44) 48 3 (.int .i64 0) 8 rfl Tryd.underlying48 info3 rfl (by decide) (by omega) v128 t127 y130 _ _ _ (fun k_ => (w.heap.size ≤ k_) ∧ some k_ ≠ (.slice Ao24 y124.length co24 : Value).ownBlock ∧ some k_ ≠ (.slice Ao29 y130.length co29 : Value).ownBlock) (fun _ => False) rfl rfl ?aO ?aR (fun _ _ h => h) (fun _ h => h.elim) ?aF ?aB ?aS ?aL ?_; (case aR => repeat (first | exact (Kd.R_reads' HO132.out).2.2 | (with_reducible refine Kd.C_alloc ?_ _) | (with_reducible refine Kd.C_drewN ?_ _) | (with_reducible refine Kd.C_drew ?_))); (case aB => exact (by repeat (first | (with_reducible first | exact HB.out | apply below_alloc | apply pw_below_drewN | apply below_drew1) | exact HB.out))); (case aF => exact (fun k_ hk => ⟨(Nat.le_trans (below_size (by repeat (first | (with_reducible first | exact HB.out | apply below_alloc | apply pw_below_drewN | apply below_drew1) | exact HB.out))) hk), Kd.fresh' (Kd.R_lt (by (with_reducible repeat (first | apply Kd.R_alloc | apply Kd.R_drewN | apply Kd.R_drew)); exact HO126.out)) k_ hk, Kd.fresh' (Kd.R_lt (by (with_reducible repeat (first | apply Kd.R_alloc | apply Kd.R_drewN | apply Kd.R_drew)); exact HO132.out)) k_ hk⟩)); (case aO => exact (by (with_reducible repeat (first | apply Kd.R_alloc | apply Kd.R_drewN | apply Kd.R_drew)); exact Kd.R_mono HO129.out (fun _ hk => ⟨hk.1.1.1, ⟨hk.1.2, hk.2⟩⟩))); (case aS => exact (below_size (by repeat (first | (with_reducible first | exact HB.out | apply below_alloc | apply pw_below_drewN | apply below_drew1) | exact HB.out)))); (case aL => have := LMc16.out; omega); intro v134 w28 ho hb hg hat; rw [← Ny133.out] at ho; have n0_ := Aside0.mk (Kd.V_afterv (ok := (fun k_ => (P0_ k_ ∨ w.heap.size ≤ k_) ∧ some k_ ≠ (.slice Ao24 y124.length co24 : Value).ownBlock ∧ some k_ ≠ (.slice Ao29 y130.length co29 : Value).ownBlock)) (by (with_reducible repeat (first | apply Kd.V_alloc | apply Kd.V_drewN | apply Kd.V_drew)); exact Kd.V_mono HO0.out (fun _ hk => ⟨⟨hk.1.1.1, ⟨hk.1.1.2, hk.2⟩⟩, hk.1.2⟩)) hg hat); have n1_ := Aside0.mk (Kd.R_after (ok := (fun k_ => (w.heap.size ≤ k_) ∧ some k_ ≠ (.slice Ao29 y130.length co29 : Value).ownBlock)) (by (with_reducible repeat (first | apply Kd.R_alloc | apply Kd.R_drewN | apply Kd.R_drew)); exact Kd.R_mono HO126.out (fun _ hk => ⟨⟨hk.1.1.1, hk.2⟩, hk.1.2⟩)) hg hat); have n2_ := Aside0.mk (Kd.R_after (ok := (fun k_ => (w.heap.size ≤ k_) ∧ some k_ ≠ (.slice Ao24 y124.length co24 : Value).ownBlock)) (by (with_reducible repeat (first | apply Kd.R_alloc | apply Kd.R_drewN | apply Kd.R_drew)); exact Kd.R_mono HO132.out (fun _ hk => ⟨⟨hk.1.1.1, hk.1.2⟩, hk.2⟩)) hg hat); have n3_ := Aside0.mk (hb); have n4_ := Aside0.mk (ho); clear HO0; clear HO126; clear HO132; clear HB; clear HO129; have HO0 := n0_; have HO126 := n1_; have HO132 := n2_; have HB := n3_; have HO135 := n4_; clear n0_ n1_ n2_ n3_ n4_; clear ho hb hg hat) | ((with_reducible refine gate_callee (f := 34) rfl ?_); refine goesL_ (some 48) rfl rfl Tryd.func34 (by kernel_rfl) rfl #[.slice (some ad123) l1.length c1, .slice Ao24 y124.length co24] rfl (by (try simp only [List.map_toArray, List.map_cons, List.map_nil]); first | done | rfl | (simp only [List.length_drop, List.length_take]; rfl)) ?_; (with_reducible refine (nat_mul.calls k _ _ l1 _ _ y124 t136 _ ?side1 ?side2 ?side3 ?side4 A17.out).mono ?_); (case side1 => repeat (first | exact (Kd.C_below HR1.out HB.out) | (with_reducible refine Kd.C_alloc ?_ _) | (with_reducible refine Kd.C_drewN ?_ _) | (with_reducible refine Kd.C_drew ?_))); (case side2 => exact HC1.out); (case side3 => repeat (first | exact (Kd.R_reads' HO126.out).2.2 | (with_reducible refine Kd.C_alloc ?_ _) | (with_reducible refine Kd.C_drewN ?_ _) | (with_reducible refine Kd.C_drew ?_))); (case side4 => exact (Kd.R_reads' HO126.out).2.1); rintro e w30 ⟨v137, rfl, ho0, hb⟩; refine ⟨_, rfl, ?_⟩; have n0_ := Aside0.mk (Kd.V_elder' (by (with_reducible repeat (first | apply Kd.V_alloc | apply Kd.V_drewN | apply Kd.V_drew)); exact HO0.out) (Kd.R_base ho0) hb); have n1_ := Aside0.mk (Kd.R_elder' (by (with_reducible repeat (first | apply Kd.R_alloc | apply Kd.R_drewN | apply Kd.R_drew)); exact HO126.out) (Kd.R_base ho0) hb); have n2_ := Aside0.mk (Kd.R_elder' (by (with_reducible repeat (first | apply Kd.R_alloc | apply Kd.R_drewN | apply Kd.R_drew)); exact HO132.out) (Kd.R_base ho0) hb); have n3_ := Aside0.mk (Kd.R_elder' (by (with_reducible repeat (first | apply Kd.R_alloc | apply Kd.R_drewN | apply Kd.R_drew)); exact HO135.out) (Kd.R_base ho0) hb); have n4_ := Aside0.mk (Kd.R_lower (Kd.R_new' (Kd.R_new' (Kd.R_new' (Kd.R_newM (M := fun k_ => (w.heap.size ≤ k_)) ho0 (below_size (by repeat (first | (with_reducible first | exact HB.out | apply below_alloc | apply pw_below_drewN | apply below_drew1) | exact HB.out))) (fun k_ h_ => h_)) (Kd.R_lt (by (with_reducible repeat (first | apply Kd.R_alloc | apply Kd.R_drewN | apply Kd.R_drew)); exact HO126.out))) (Kd.R_lt (by (with_reducible repeat (first | apply Kd.R_alloc | apply Kd.R_drewN | apply Kd.R_drew)); exact HO132.out))) (Kd.R_lt (by (with_reducible repeat (first | apply Kd.R_alloc | apply Kd.R_drewN | apply Kd.R_drew)); exact HO135.out))) (below_size (by repeat (first | (with_reducible first | exact HB.out | apply below_alloc | apply pw_below_drewN | apply below_drew1) | exact HB.out)))); have n5_ := Aside0.mk (below_step (by repeat (first | (with_reducible first | exact HB.out | apply below_alloc | apply pw_below_drewN | apply below_drew1) | exact HB.out)) hb); clear HO0; clear HO126; clear HO132; clear HO135; clear HB; have HO0 := n0_; have HO126 := n1_; have HO132 := n2_; have HO135 := n3_; have HO138 := n4_; have HB := n5_; clear n0_ n1_ n2_ n3_ n4_ n5_; (try clear hb); (try clear hb2); (try clear hk); (try clear hi); (try clear ho0); obtain ⟨Ao31, co31, eo31⟩ := Kd.R_slice HO138.out; subst eo31; obtain ⟨Ao32, co32, eo32⟩ := Kd.R_slice HO135.out; subst eo32) | ((with_reducible refine gate_dst (N := 55) rfl ?_); refine Kd.R_make (Kd.int .i64) _ 3 rfl (N := 55) rfl 48 _ _ rfl ji18 (by first | rfl | (rw [← hji18]; rfl)) (by first | rfl | (rw [← hji18]; rfl)) Tryd.underlying48 (.int .i64 0) 8 info3 rfl (by decide) (by omega) 0 (ok := fun _ => True) (okp := fun _ => True) rfl (fun _ hk => hk) trivial (of_decide_eq_true (by first | (with_reducible assumption) | assumption)) (by have h_ := (of_decide_eq_true (by first | (with_reducible assumption) | assumption) : ji18.toNat ≤ 35184372088832); omega) (Below.refl _ _) (Nat.le_refl _) ?_; intro v140 w33 ho34 hb hg_ hnew_; clear hg_ hnew_; (first | rw [← Ny139.out] at ho34 | (simp only [Int.reduceToNat] at ho34; rw [← Ny139.out] at ho34)); have n0_ := Aside0.mk (Kd.V_elder' (by (with_reducible repeat (first | apply Kd.V_alloc | apply Kd.V_drewN | apply Kd.V_drew)); exact HO0.out) (Kd.R_base ho34) hb); have n1_ := Aside0.mk (Kd.R_elder' (by (with_reducible repeat (first | apply Kd.R_alloc | apply Kd.R_drewN | apply Kd.R_drew)); exact HO126.out) (Kd.R_base ho34) hb); have n2_ := Aside0.mk (Kd.R_elder' (by (with_reducible repeat (first | apply Kd.R_alloc | apply Kd.R_drewN | apply Kd.R_drew)); exact HO132.out) (Kd.R_base ho34) hb); have n3_ := Aside0.mk (Kd.R_elder' (by (with_reducible repeat (first | apply Kd.R_alloc | apply Kd.R_drewN | apply Kd.R_drew)); exact HO135.out) (Kd.R_base ho34) hb); have n4_ := Aside0.mk (Kd.R_elder' (by (with_reducible repeat (first | apply Kd.R_alloc | apply Kd.R_drewN | apply Kd.R_drew)); exact HO138.out) (Kd.R_base ho34) hb); have n5_ := Aside0.mk (Kd.R_lower (Kd.R_new' (Kd.R_new' (Kd.R_new' (Kd.R_new' (Kd.R_newM (M := fun k_ => (w.heap.size ≤ k_)) ho34 (below_size (by repeat (first | (with_reducible first | exact HB.out | apply below_alloc | apply pw_below_drewN | apply below_drew1) | exact HB.out))) (fun k_ h_ => h_)) (Kd.R_lt (by (with_reducible repeat (first | apply Kd.R_alloc | apply Kd.R_drewN | apply Kd.R_drew)); exact HO126.out))) (Kd.R_lt (by (with_reducible repeat (first | apply Kd.R_alloc | apply Kd.R_drewN | apply Kd.R_drew)); exact HO132.out))) (Kd.R_lt (by (with_reducible repeat (first | apply Kd.R_alloc | apply Kd.R_drewN | apply Kd.R_drew)); exact HO135.out))) (Kd.R_lt (by (with_reducible repeat (first | apply Kd.R_alloc | apply Kd.R_drewN | apply Kd.R_drew)); exact HO138.out))) (below_size (by repeat (first | (with_reducible first | exact HB.out | apply below_alloc | apply pw_below_drewN | apply below_drew1) | exact HB.out)))); have n6_ := Aside0.mk (below_step (by repeat (first | (with_reducible first | exact HB.out | apply below_alloc | apply pw_below_drewN | apply below_drew1) | exact HB.out)) hb); clear HO0; clear HO126; clear HO132; clear HO135; clear HO138; clear HB; have HO0 := n0_; have HO126 := n1_; have HO132 := n2_; have HO135 := n3_; have HO138 := n4_; have HO141 := n5_; have HB := n6_; clear n0_ n1_ n2_ n3_ n4_ n5_ n6_; clear hb ho34))
         go_loopg [11] k (fun kq v11 w' => ∃ (x7_1 : List Int) (x10_1 : List Int) (x11_1 : Int), v11 = .int .i64 x11_1 ∧ Aside0 (nat_div.l0 kq y124 x7_1 t136 (t136.length : Int) x10_1 x11_1 = some (r1, r2)) ∧ Aside0 (kq ≤ k) ∧ Aside0 (Kd.R (Kd.int .i64) 3 w' w.heap.size (fun k_ => (w.heap.size ≤ k_) ∧ some k_ ≠ ((.slice Ao32 y133.length co32) : Value).ownBlock ∧ some k_ ≠ ((.slice Ao31 t136.length co31) : Value).ownBlock ∧ some k_ ≠ (v140 : Value).ownBlock) (.slice Ao24 y124.length co24) y124) ∧ Aside0 (Kd.R (Kd.int .i64) 3 w' w.heap.size (fun k_ => (w.heap.size ≤ k_) ∧ some k_ ≠ ((.slice Ao24 y124.length co24) : Value).ownBlock ∧ some k_ ≠ ((.slice Ao31 t136.length co31) : Value).ownBlock ∧ some k_ ≠ (v140 : Value).ownBlock) (.slice Ao32 y133.length co32) x7_1) ∧ Aside0 (Kd.R (Kd.int .i64) 3 w' w.heap.size (fun k_ => (w.heap.size ≤ k_) ∧ some k_ ≠ ((.slice Ao24 y124.length co24) : Value).ownBlock ∧ some k_ ≠ ((.slice Ao32 y133.length co32) : Value).ownBlock ∧ some k_ ≠ (v140 : Value).ownBlock) (.slice Ao31 t136.length co31) t136) ∧ Aside0 (Kd.R (Kd.int .i64) 3 w' w.heap.size (fun k_ => (w.heap.size ≤ k_) ∧ some k_ ≠ ((.slice Ao24 y124.length co24) : Value).ownBlock ∧ some k_ ≠ ((.slice Ao32 y133.length co32) : Value).ownBlock ∧ some k_ ≠ ((.slice Ao31 t136.length co31) : Value).ownBlock) v140 x10_1) ∧ Aside0 (Below w.heap.size w w'))
         case atStart => exact ⟨(y133), (y139), (wrap64 ((ji18) - 1)), (by first | rfl | (simp; done) | (simp only [← hji18] <;> (first | rfl | simp)) | (simp [*]; done)), H', ⟨Nat.le_refl _⟩, ⟨by (with_reducible repeat (first | apply Kd.R_alloc | apply Kd.R_drewN | apply Kd.R_drew)); exact Kd.R_mono HO126.out (fun _ hk => ⟨hk.1.1.1.1, ⟨hk.1.1.2, ⟨hk.1.2, hk.2⟩⟩⟩)⟩, ⟨by (with_reducible repeat (first | apply Kd.R_alloc | apply Kd.R_drewN | apply Kd.R_drew)); exact Kd.R_mono HO135.out (fun _ hk => ⟨hk.1.1.1, ⟨hk.1.1.2.1, ⟨hk.1.2, hk.2⟩⟩⟩)⟩, ⟨by (with_reducible repeat (first | apply Kd.R_alloc | apply Kd.R_drewN | apply Kd.R_drew)); exact Kd.R_mono HO138.out (fun _ hk => ⟨hk.1.1.1.1.1, ⟨hk.1.1.1.2, ⟨hk.1.2, hk.2⟩⟩⟩)⟩, ⟨by (with_reducible repeat (first | apply Kd.R_alloc | apply Kd.R_drewN | apply Kd.R_drew)); exact Kd.R_mono HO141.out (fun _ hk => ⟨hk.1.1.1.1.1, ⟨hk.1.1.1.2, ⟨hk.1.2, hk.2⟩⟩⟩)⟩, ⟨by repeat (first | (with_reducible first | exact HB.out | apply below_alloc | apply pw_below_drewN | apply below_drew1) | exact HB.out)⟩⟩
         case round =>
          clear H'
          try clear c1
          try clear p1
          try clear q1
          try clear hx1
          try clear qi1
          try clear c2
          try clear p2
          try clear c3
          try clear c4
          try clear c4b0
          try clear c5
          try clear c6
          try clear c6b0
          try clear c6b1
          try clear p6
          try clear c7
          try clear c7b0
          try clear c7b1
          try clear p11
          try clear q11
          try clear hx11
          try clear qi11
          try clear c12
          try clear c12b0
          try clear p12
          try clear q12
          try clear hx12
          try clear c13
          try clear c13b0
          try clear c14
          try clear c14b0
          try clear c14b1
          try clear c16
          try clear c19
          try clear c19b0
          try clear c19b1
          try clear c20
          try clear c20b0
          try clear c20b1
          try clear c34
          try clear hx116_0
          try clear hx123_0
          try clear p116
          try clear p123
          try clear q116
          try clear q123
          obtain ⟨x7_1, x10_1, x11_1, rfl, HA, HK1, HO_6, HO_7, HO_8, HO_10, HB⟩ := hrel
          have hl7_1 := (Kd.R_reads' HO_7.out).1
          rw [hl7_1] at HO_7
          (try simp only [hl7_1])
          (try simp only [hl7_1] at HO_6)
          (try simp only [hl7_1] at HO_8)
          (try simp only [hl7_1] at HO_10)
          cases gk with
          | zero => exact absurd HA.out (by simp [nat_div.l0])
          | succ k1 =>
           have H := HA.out
           clear HA
           simp only [nat_div.l0] at H
           by_cases c35 : x11_1 ≥ 0
           ·rw [if_pos c35] at H
            have c35b0 : decide (0 ≤ x11_1) = true := decide_eq_true c35
            clear c35
            obtain ⟨ji36, hji36⟩ : ∃ j_ : Int, (wrap64 (x11_1 + (t136.length : Int))) = j_ := ⟨_, rfl⟩
            replace H : (if 0 ≤ (ji36) then (if (ji36) < (x7_1.length : Int) then (if 0 ≤ (wrap64 ((ji36) - 1)) then (if (wrap64 ((ji36) - 1)) < (x7_1.length : Int) then (if 0 ≤ (wrap64 ((t136.length : Int) - 1)) then (if (wrap64 ((t136.length : Int) - 1)) < (t136.length : Int) then (if (rd t136 (wrap64 ((t136.length : Int) - 1))) = 0 then (none) else (nat_div.l1 k1 y124 x7_1 t136 (t136.length : Int) x10_1 x11_1 (wrap64 (Int.tdiv (wrap64 ((wrap64 ((rd x7_1 (ji36)) * 10000)) + (rd x7_1 (wrap64 ((ji36) - 1))))) (rd t136 (wrap64 ((t136.length : Int) - 1))))) (Int.tmod (wrap64 ((wrap64 ((rd x7_1 (ji36)) * 10000)) + (rd x7_1 (wrap64 ((ji36) - 1))))) (rd t136 (wrap64 ((t136.length : Int) - 1)))))) else (none)) else (none)) else (none)) else (none)) else (none)) else (none)) = some (r1, r2) := by first | (rw [hji36] at H; exact H) | (simp only [hji36] at H ⊢; exact H)
            have hji36w : (IntKind.i64.wrap (x11_1 + (t136.length : Int))) = ji36 := (i64_w _).trans hji36
            by_cases c37 : 0 ≤ (ji36)
            ·rw [if_pos c37] at H
             have c37b0 : decide (0 ≤ (ji36)) = true := decide_eq_true c37
             clear c37
             by_cases c38 : (ji36) < (x7_1.length : Int)
             ·rw [if_pos c38] at H
              have c38b0 : decide ((ji36) < (x7_1.length : Int)) = true := decide_eq_true c38
              clear c38
              obtain ⟨ji39, hji39⟩ : ∃ j_ : Int, (wrap64 ((ji36) - 1)) = j_ := ⟨_, rfl⟩
              replace H : (if 0 ≤ (ji39) then (if (ji39) < (x7_1.length : Int) then (if 0 ≤ (wrap64 ((t136.length : Int) - 1)) then (if (wrap64 ((t136.length : Int) - 1)) < (t136.length : Int) then (if (rd t136 (wrap64 ((t136.length : Int) - 1))) = 0 then (none) else (nat_div.l1 k1 y124 x7_1 t136 (t136.length : Int) x10_1 x11_1 (wrap64 (Int.tdiv (wrap64 ((wrap64 ((rd x7_1 (ji36)) * 10000)) + (rd x7_1 (ji39)))) (rd t136 (wrap64 ((t136.length : Int) - 1))))) (Int.tmod (wrap64 ((wrap64 ((rd x7_1 (ji36)) * 10000)) + (rd x7_1 (ji39)))) (rd t136 (wrap64 ((t136.length : Int) - 1)))))) else (none)) else (none)) else (none)) else (none)) = some (r1, r2) := by first | (rw [hji39] at H; exact H) | (simp only [hji39] at H ⊢; exact H)
              have hji39w : (IntKind.i64.wrap ((ji36) - 1)) = ji39 := (i64_w _).trans hji39
              by_cases c40 : 0 ≤ (ji39)
              ·rw [if_pos c40] at H
               have c40b0 : decide (0 ≤ (ji39)) = true := decide_eq_true c40
               clear c40
               by_cases c41 : (ji39) < (x7_1.length : Int)
               ·rw [if_pos c41] at H
                have c41b0 : decide ((ji39) < (x7_1.length : Int)) = true := decide_eq_true c41
                clear c41
                obtain ⟨ji42, hji42⟩ : ∃ j_ : Int, (wrap64 ((t136.length : Int) - 1)) = j_ := ⟨_, rfl⟩
                replace H : (if 0 ≤ (ji42) then (if (ji42) < (t136.length : Int) then (if (rd t136 (ji42)) = 0 then (none) else (nat_div.l1 k1 y124 x7_1 t136 (t136.length : Int) x10_1 x11_1 (wrap64 (Int.tdiv (wrap64 ((wrap64 ((rd x7_1 (ji36)) * 10000)) + (rd x7_1 (ji39)))) (rd t136 (ji42)))) (Int.tmod (wrap64 ((wrap64 ((rd x7_1 (ji36)) * 10000)) + (rd x7_1 (ji39)))) (rd t136 (ji42))))) else (none)) else (none)) = some (r1, r2) := by first | (rw [hji42] at H; exact H) | (simp only [hji42] at H ⊢; exact H)
                have hji42w : (IntKind.i64.wrap ((t136.length : Int) - 1)) = ji42 := (i64_w _).trans hji42
                by_cases c43 : 0 ≤ (ji42)
                ·rw [if_pos c43] at H
                 have c43b0 : decide (0 ≤ (ji42)) = true := decide_eq_true c43
                 clear c43
                 by_cases c44 : (ji42) < (t136.length : Int)
                 ·rw [if_pos c44] at H
                  have c44b0 : decide ((ji42) < (t136.length : Int)) = true := decide_eq_true c44
                  clear c44
                  by_cases c45 : (rd t136 (ji42)) = 0
                  ·rw [if_pos c45] at H
                   exact absurd H (by simp)
                  ·rw [if_neg c45] at H
                   have c45b0 : ((rd t136 (ji42)) == 0) = false := beq_eq_false_iff_ne.mpr c45
                   have c45b1 : ((rd t136 (ji42)) != 0) = true := bne_iff_ne.mpr c45
                   have H' := Aside0.mk H
                   clear H
                   try go_wp2_with (first | (with_reducible refine Exit.only_intro ?_) | ((with_reducible refine wp_scope_redo (rest := ?rest_) 0 ?hf_ ?_); (case hf_ => exact rfl)) | (with_reducible apply wp_goto))
                   have n0_ := Aside0.mk (Kd.R_drew HO_6.out)
                   have n1_ := Aside0.mk (Kd.R_drew HO_7.out)
                   have n2_ := Aside0.mk (Kd.R_drew HO_8.out)
                   have n3_ := Aside0.mk (Kd.R_drew HO_10.out)
                   have n4_ := Aside0.mk (below_drew1 HB.out)
                   clear HO_6
                   clear HO_7
                   clear HO_8
                   clear HO_10
                   clear HB
                   have HO_6 := n0_
                   have HO_7 := n1_
                   have HO_8 := n2_
                   have HO_10 := n3_
                   have HB := n4_
                   clear n0_ n1_ n2_ n3_ n4_
                   have p155 : 0 ≤ ((ji36) : Int) := of_decide_eq_true (by first | (with_reducible assumption) | assumption)
                   have q155 : (ji36) < (x7_1.length : Int) := of_decide_eq_true (by first | (with_reducible assumption) | assumption)
                   obtain ⟨ad155, e155, hx155_0⟩ := Kd.at_int (Kd.R_reads' HO_7.out).2.2 (ji36) p155 q155
                   cases e155
                   replace p155 := eq_true p155
                   replace q155 := eq_true q155
                   have p156 : 0 ≤ ((ji39) : Int) := of_decide_eq_true (by first | (with_reducible assumption) | assumption)
                   have q156 : (ji39) < (x7_1.length : Int) := of_decide_eq_true (by first | (with_reducible assumption) | assumption)
                   obtain ⟨ad156, e156, hx156_0⟩ := Kd.at_int (Kd.R_reads' HO_7.out).2.2 (ji39) p156 q156
                   obtain rfl : ad155 = ad156 := (by injection e156)
                   replace p156 := eq_true p156
                   replace q156 := eq_true q156
                   refine start_ (n := 16) (S := fun w' => w'.cell? (ad155.add ((ji36)).toNat) = some (.int .i64 (rd x7_1 (ji36))) ∧ w'.cell? (ad155.add ((ji39)).toNat) = some (.int .i64 (rd x7_1 (ji39)))) (ds := []) #[false, false, false, false, false, false, false, false, false, false, false, false, false, false, false, false] (by kernel_rfl) rfl rfl ⟨hx155_0, hx156_0⟩ (fun hHeld => ?_); refine with_tabW nat_div.tab12 nat_div.bits12 (fun HT_ HW_ => ?_)
                   generalize wr.drew = w46 at HO_6 HO_7 HO_8 HO_10 HB hx155_0 hx156_0 hHeld ⊢
                   refine pure_ (i := 0) (N := some 65) (v := ?_) (a' := ?_) #[true, false, false, false, false, false, false, false, false, false, false, false, false, false, false, false] rfl rfl (any_of HT_.out (by kernel_rfl)) (fun _ _ _ h => h) (Or.inl ⟨by rfl, ?_⟩) ?_ ?_
                   rotate_left
                   ·intro w'
                    go_simp
                    with_reducible rfl
                   rotate_left
                   ·simp only [Act.put, List.setIfInBounds_toArray, List.set_cons_zero, List.set_cons_succ, i64_w, i32_w]
                    rfl
                   refine pure_ (i := 1) (N := some 66) (v := ?_) (a' := ?_) #[true, true, false, false, false, false, false, false, false, false, false, false, false, false, false, false] rfl rfl (any_of HT_.out (by kernel_rfl)) (fun _ _ _ h => h) (Or.inl ⟨by rfl, ?_⟩) ?_ ?_
                   rotate_left
                   ·intro w'
                    go_simp
                    with_reducible rfl
                   rotate_left
                   ·simp only [Act.put, List.setIfInBounds_toArray, List.set_cons_zero, List.set_cons_succ, i64_w, i32_w]
                    rfl
                   refine pure_ (i := 2) (N := some 67) (v := ?_) (a' := ?_) #[true, true, true, false, false, false, false, false, false, false, false, false, false, false, false, false] rfl rfl (any_of HT_.out (by kernel_rfl)) (fun _ _ _ h => h) (Or.inl ⟨by rfl, ?_⟩) ?_ ?_
                   rotate_left
                   ·intro w'
                    go_simp
                    with_reducible rfl
                   rotate_left
                   ·simp only [Act.put, List.setIfInBounds_toArray, List.set_cons_zero, List.set_cons_succ, i64_w, i32_w]
                    rfl
                   refine pure_ (i := 3) (N := some 68) (v := ?_) (a' := ?_) #[true, true, true, true, false, false, false, false, false, false, false, false, false, false, false, false] rfl rfl (any_of HT_.out (by kernel_rfl)) (fun _ _ _ h => h) (Or.inl ⟨by rfl, ?_⟩) ?_ ?_
                   rotate_left
                   ·intro w'
                    go_simp
                    with_reducible rfl
                   rotate_left
                   ·simp only [Act.put, List.setIfInBounds_toArray, List.set_cons_zero, List.set_cons_succ, i64_w, i32_w]
                    rfl
                   refine pure_ (i := 4) (N := some 69) (v := ?_) (a' := ?_) #[true, true, true, true, true, false, false, false, false, false, false, false, false, false, false, false] rfl rfl (any_of HT_.out (by kernel_rfl)) (fun _ _ _ h => h) (Or.inl ⟨by rfl, ?_⟩) ?_ ?_
                   rotate_left
                   ·intro w'
                    go_simp
                    with_reducible rfl
                   rotate_left
                   ·simp only [Act.put, List.setIfInBounds_toArray, List.set_cons_zero, List.set_cons_succ, i64_w, i32_w]
                    rfl
                   refine pure_ (i := 7) (N := some 72) (v := ?_) (a' := ?_) #[true, true, true, true, true, false, false, true, false, false, false, false, false, false, false, false] rfl rfl (any_of HT_.out (by kernel_rfl)) (fun _ _ _ h => h) (Or.inl ⟨by rfl, ?_⟩) ?_ ?_
                   rotate_left
                   ·intro w'
                    go_simp
                    with_reducible rfl
                   rotate_left
                   ·simp only [Act.put, List.setIfInBounds_toArray, List.set_cons_zero, List.set_cons_succ, i64_w, i32_w]
                    rfl
                   refine pure_ (i := 8) (N := some 73) (v := ?_) (a' := ?_) #[true, true, true, true, true, false, false, true, true, false, false, false, false, false, false, false] rfl rfl (any_of HT_.out (by kernel_rfl)) (fun _ _ _ h => h) (Or.inl ⟨by rfl, ?_⟩) ?_ ?_
                   rotate_left
                   ·intro w'
                    go_simp
                    with_reducible rfl
                   rotate_left
                   ·simp only [Act.put, List.setIfInBounds_toArray, List.set_cons_zero, List.set_cons_succ, i64_w, i32_w]
                    rfl
                   refine pure_ (i := 9) (N := some 74) (v := ?_) (a' := ?_) #[true, true, true, true, true, false, false, true, true, true, false, false, false, false, false, false] rfl rfl (any_of HT_.out (by kernel_rfl)) (fun _ _ _ h => h) (Or.inl ⟨by rfl, ?_⟩) ?_ ?_
                   rotate_left
                   ·intro w'
                    go_simp
                    with_reducible rfl
                   rotate_left
                   ·simp only [Act.put, List.setIfInBounds_toArray, List.set_cons_zero, List.set_cons_succ, i64_w, i32_w]
                    rfl
                   refine pure_ (i := 10) (N := some 75) (v := ?_) (a' := ?_) #[true, true, true, true, true, false, false, true, true, true, true, false, false, false, false, false] rfl rfl (any_of HT_.out (by kernel_rfl)) (fun _ _ _ h => h) (Or.inl ⟨by rfl, ?_⟩) ?_ ?_
                   rotate_left
                   ·intro w'
                    go_simp
                    with_reducible rfl
                   rotate_left
                   ·simp only [Act.put, List.setIfInBounds_toArray, List.set_cons_zero, List.set_cons_succ, i64_w, i32_w]
                    rfl
                   refine pure_ (i := 11) (N := some 76) (v := ?_) (a' := ?_) #[true, true, true, true, true, false, false, true, true, true, true, true, false, false, false, false] rfl rfl (any_of HT_.out (by kernel_rfl)) (fun _ _ _ h => h) (Or.inl ⟨by rfl, ?_⟩) ?_ ?_
                   rotate_left
                   ·intro w'
                    go_simp
                    with_reducible rfl
                   rotate_left
                   ·simp only [Act.put, List.setIfInBounds_toArray, List.set_cons_zero, List.set_cons_succ, i64_w, i32_w]
                    rfl
                   refine pure_ (i := 12) (N := some 77) (v := ?_) (a' := ?_) #[true, true, true, true, true, false, false, true, true, true, true, true, true, false, false, false] rfl rfl (any_of HT_.out (by kernel_rfl)) (fun _ _ _ h => h) (Or.inl ⟨by rfl, ?_⟩) ?_ ?_
                   rotate_left
                   ·intro w'
                    go_simp
                    with_reducible rfl
                   rotate_left
                   ·simp only [Act.put, List.setIfInBounds_toArray, List.set_cons_zero, List.set_cons_succ, i64_w, i32_w]
                    rfl
                   refine take_ (i := 5) (N := some 70) (v := ?_) (a' := ?_) #[true, true, true, true, true, true, false, true, true, true, true, true, true, false, false, false] rfl rfl (take_ofW HT_.out HW_.out (by kernel_rfl)) (fun _ _ _ h => h) (Or.inl ⟨by rfl, ?_⟩) hHeld ?_ ?_
                   rotate_left
                   ·rintro w' ⟨s0, s1⟩
                    go_simp
                    with_reducible rfl
                   rotate_left
                   ·simp only [Act.put, List.setIfInBounds_toArray, List.set_cons_zero, List.set_cons_succ, i64_w, i32_w]
                    rfl
                   refine pure_ (i := 6) (N := some 71) (v := ?_) (a' := ?_) #[true, true, true, true, true, true, true, true, true, true, true, true, true, false, false, false] rfl rfl (any_of HT_.out (by kernel_rfl)) (fun _ _ _ h => h) (Or.inl ⟨by rfl, ?_⟩) ?_ ?_
                   rotate_left
                   ·intro w'
                    go_simp
                    with_reducible rfl
                   rotate_left
                   ·simp only [Act.put, List.setIfInBounds_toArray, List.set_cons_zero, List.set_cons_succ, i64_w, i32_w]
                    rfl
                   refine take_ (i := 13) (N := some 78) (v := ?_) (a' := ?_) #[true, true, true, true, true, true, true, true, true, true, true, true, true, true, false, false] rfl rfl (take_ofW HT_.out HW_.out (by kernel_rfl)) (fun _ _ _ h => h) (Or.inl ⟨by rfl, ?_⟩) hHeld ?_ ?_
                   rotate_left
                   ·rintro w' ⟨s0, s1⟩
                    go_simp
                    with_reducible rfl
                   rotate_left
                   ·simp only [Act.put, List.setIfInBounds_toArray, List.set_cons_zero, List.set_cons_succ, i64_w, i32_w]
                    rfl
                   refine pure_ (i := 14) (N := some 79) (v := ?_) (a' := ?_) #[true, true, true, true, true, true, true, true, true, true, true, true, true, true, true, false] rfl rfl (any_of HT_.out (by kernel_rfl)) (fun _ _ _ h => h) (Or.inl ⟨by rfl, ?_⟩) ?_ ?_
                   rotate_left
                   ·intro w'
                    go_simp
                    with_reducible rfl
                   rotate_left
                   ·simp only [Act.put, List.setIfInBounds_toArray, List.set_cons_zero, List.set_cons_succ, i64_w, i32_w]
                    rfl
                   refine pure_ (i := 15) (N := some 12) (v := ?_) (a' := ?_) #[true, true, true, true, true, true, true, true, true, true, true, true, true, true, true, true] rfl rfl (any_of HT_.out (by kernel_rfl)) (fun _ _ _ h => h) (Or.inl ⟨by rfl, ?_⟩) ?_ ?_
                   rotate_left
                   ·intro w'
                    go_simp
                    with_reducible rfl
                   rotate_left
                   ·simp only [Act.put, List.setIfInBounds_toArray, List.set_cons_zero, List.set_cons_succ, i64_w, i32_w]
                    rfl
                   refine done_ (done_of HT_.out (by kernel_rfl)) ?_
                   try go_wp2_with (first | (with_reducible refine Exit.only_intro ?_) | ((with_reducible refine wp_scope_redo (rest := ?rest_) 0 ?hf_ ?_); (case hf_ => exact rfl)) | (with_reducible apply wp_goto))
                   have n0_ := Aside0.mk (Kd.R_drew HO_6.out)
                   have n1_ := Aside0.mk (Kd.R_drew HO_7.out)
                   have n2_ := Aside0.mk (Kd.R_drew HO_8.out)
                   have n3_ := Aside0.mk (Kd.R_drew HO_10.out)
                   have n4_ := Aside0.mk (below_drew1 HB.out)
                   clear HO_6
                   clear HO_7
                   clear HO_8
                   clear HO_10
                   clear HB
                   have HO_6 := n0_
                   have HO_7 := n1_
                   have HO_8 := n2_
                   have HO_10 := n3_
                   have HB := n4_
                   clear n0_ n1_ n2_ n3_ n4_
                   have p157 : 0 ≤ ((ji42) : Int) := of_decide_eq_true (by first | (with_reducible assumption) | assumption)
                   have q157 : (ji42) < (t136.length : Int) := of_decide_eq_true (by first | (with_reducible assumption) | assumption)
                   obtain ⟨ad157, e157, hx157_0⟩ := Kd.at_int (Kd.R_reads' HO_8.out).2.2 (ji42) p157 q157
                   cases e157
                   replace p157 := eq_true p157
                   replace q157 := eq_true q157
                   have p158 : 0 ≤ ((ji42) : Int) := of_decide_eq_true (by first | (with_reducible assumption) | assumption)
                   have q158 : (ji42) < (t136.length : Int) := of_decide_eq_true (by first | (with_reducible assumption) | assumption)
                   obtain ⟨ad158, e158, hx158_0⟩ := Kd.at_int (Kd.R_reads' HO_8.out).2.2 (ji42) p158 q158
                   obtain rfl : ad157 = ad158 := (by injection e158)
                   replace p158 := eq_true p158
                   replace q158 := eq_true q158
                   refine start_ (n := 16) (S := fun w' => w'.cell? (ad157.add ((ji42)).toNat) = some (.int .i64 (rd t136 (ji42))) ∧ w'.cell? (ad157.add ((ji42)).toNat) = some (.int .i64 (rd t136 (ji42)))) (ds := []) #[false, false, false, false, false, false, false, false, false, false, false, false, false, false, false, false] (by kernel_rfl) rfl rfl ⟨hx157_0, hx158_0⟩ (fun hHeld => ?_); refine with_tabW nat_div.tab13 nat_div.bits13 (fun HT_ HW_ => ?_)
                   generalize w46.drew = w47 at HO_6 HO_7 HO_8 HO_10 HB hx157_0 hx158_0 hHeld ⊢
                   refine pure_ (i := 0) (N := some 80) (v := ?_) (a' := ?_) #[true, false, false, false, false, false, false, false, false, false, false, false, false, false, false, false] rfl rfl (any_of HT_.out (by kernel_rfl)) (fun _ _ _ h => h) (Or.inl ⟨by rfl, ?_⟩) ?_ ?_
                   rotate_left
                   ·intro w'
                    go_simp
                    with_reducible rfl
                   rotate_left
                   ·simp only [Act.put, List.setIfInBounds_toArray, List.set_cons_zero, List.set_cons_succ, i64_w, i32_w]
                    rfl
                   refine pure_ (i := 1) (N := some 81) (v := ?_) (a' := ?_) #[true, true, false, false, false, false, false, false, false, false, false, false, false, false, false, false] rfl rfl (any_of HT_.out (by kernel_rfl)) (fun _ _ _ h => h) (Or.inl ⟨by rfl, ?_⟩) ?_ ?_
                   rotate_left
                   ·intro w'
                    go_simp
                    with_reducible rfl
                   rotate_left
                   ·simp only [Act.put, List.setIfInBounds_toArray, List.set_cons_zero, List.set_cons_succ, i64_w, i32_w]
                    rfl
                   refine pure_ (i := 2) (N := some 82) (v := ?_) (a' := ?_) #[true, true, true, false, false, false, false, false, false, false, false, false, false, false, false, false] rfl rfl (any_of HT_.out (by kernel_rfl)) (fun _ _ _ h => h) (Or.inl ⟨by rfl, ?_⟩) ?_ ?_
                   rotate_left
                   ·intro w'
                    go_simp
                    with_reducible rfl
                   rotate_left
                   ·simp only [Act.put, List.setIfInBounds_toArray, List.set_cons_zero, List.set_cons_succ, i64_w, i32_w]
                    rfl
                   refine pure_ (i := 3) (N := some 83) (v := ?_) (a' := ?_) #[true, true, true, true, false, false, false, false, false, false, false, false, false, false, false, false] rfl rfl (any_of HT_.out (by kernel_rfl)) (fun _ _ _ h => h) (Or.inl ⟨by rfl, ?_⟩) ?_ ?_
                   rotate_left
                   ·intro w'
                    go_simp
                    with_reducible rfl
                   rotate_left
                   ·simp only [Act.put, List.setIfInBounds_toArray, List.set_cons_zero, List.set_cons_succ, i64_w, i32_w]
                    rfl
                   refine pure_ (i := 4) (N := some 84) (v := ?_) (a' := ?_) #[true, true, true, true, true, false, false, false, false, false, false, false, false, false, false, false] rfl rfl (any_of HT_.out (by kernel_rfl)) (fun _ _ _ h => h) (Or.inl ⟨by rfl, ?_⟩) ?_ ?_
                   rotate_left
                   ·intro w'
                    go_simp
                    with_reducible rfl
                   rotate_left
                   ·simp only [Act.put, List.setIfInBounds_toArray, List.set_cons_zero, List.set_cons_succ, i64_w, i32_w]
                    rfl
                   refine pure_ (i := 7) (N := some 87) (v := ?_) (a' := ?_) #[true, true, true, true, true, false, false, true, false, false, false, false, false, false, false, false] rfl rfl (any_of HT_.out (by kernel_rfl)) (fun _ _ _ h => h) (Or.inl ⟨by rfl, ?_⟩) ?_ ?_
                   rotate_left
                   ·intro w'
                    go_simp
                    with_reducible rfl
                   rotate_left
                   ·simp only [Act.put, List.setIfInBounds_toArray, List.set_cons_zero, List.set_cons_succ, i64_w, i32_w]
                    rfl
                   refine pure_ (i := 8) (N := some 88) (v := ?_) (a' := ?_) #[true, true, true, true, true, false, false, true, true, false, false, false, false, false, false, false] rfl rfl (any_of HT_.out (by kernel_rfl)) (fun _ _ _ h => h) (Or.inl ⟨by rfl, ?_⟩) ?_ ?_
                   rotate_left
                   ·intro w'
                    go_simp
                    with_reducible rfl
                   rotate_left
                   ·simp only [Act.put, List.setIfInBounds_toArray, List.set_cons_zero, List.set_cons_succ, i64_w, i32_w]
                    rfl
                   refine pure_ (i := 9) (N := some 89) (v := ?_) (a' := ?_) #[true, true, true, true, true, false, false, true, true, true, false, false, false, false, false, false] rfl rfl (any_of HT_.out (by kernel_rfl)) (fun _ _ _ h => h) (Or.inl ⟨by rfl, ?_⟩) ?_ ?_
                   rotate_left
                   ·intro w'
                    go_simp
                    with_reducible rfl
                   rotate_left
                   ·simp only [Act.put, List.setIfInBounds_toArray, List.set_cons_zero, List.set_cons_succ, i64_w, i32_w]
                    rfl
                   refine pure_ (i := 10) (N := some 90) (v := ?_) (a' := ?_) #[true, true, true, true, true, false, false, true, true, true, true, false, false, false, false, false] rfl rfl (any_of HT_.out (by kernel_rfl)) (fun _ _ _ h => h) (Or.inl ⟨by rfl, ?_⟩) ?_ ?_
                   rotate_left
                   ·intro w'
                    go_simp
                    with_reducible rfl
                   rotate_left
                   ·simp only [Act.put, List.setIfInBounds_toArray, List.set_cons_zero, List.set_cons_succ, i64_w, i32_w]
                    rfl
                   refine pure_ (i := 11) (N := some 91) (v := ?_) (a' := ?_) #[true, true, true, true, true, false, false, true, true, true, true, true, false, false, false, false] rfl rfl (any_of HT_.out (by kernel_rfl)) (fun _ _ _ h => h) (Or.inl ⟨by rfl, ?_⟩) ?_ ?_
                   rotate_left
                   ·intro w'
                    go_simp
                    with_reducible rfl
                   rotate_left
                   ·simp only [Act.put, List.setIfInBounds_toArray, List.set_cons_zero, List.set_cons_succ, i64_w, i32_w]
                    rfl
                   refine take_ (i := 5) (N := some 85) (v := ?_) (a' := ?_) #[true, true, true, true, true, true, false, true, true, true, true, true, false, false, false, false] rfl rfl (take_ofW HT_.out HW_.out (by kernel_rfl)) (fun _ _ _ h => h) (Or.inl ⟨by rfl, ?_⟩) hHeld ?_ ?_
                   rotate_left
                   ·rintro w' ⟨s0, s1⟩
                    go_simp
                    with_reducible rfl
                   rotate_left
                   ·simp only [Act.put, List.setIfInBounds_toArray, List.set_cons_zero, List.set_cons_succ, i64_w, i32_w]
                    rfl
                   refine pure_ (i := 6) (N := some 86) (v := ?_) (a' := ?_) #[true, true, true, true, true, true, true, true, true, true, true, true, false, false, false, false] rfl rfl (any_of HT_.out (by kernel_rfl)) (fun _ _ _ h => h) (Or.inl ⟨by rfl, ?_⟩) ?_ ?_
                   rotate_left
                   ·intro w'
                    go_simp
                    with_reducible rfl
                   rotate_left
                   ·simp only [Act.put, List.setIfInBounds_toArray, List.set_cons_zero, List.set_cons_succ, i64_w, i32_w]
                    rfl
                   refine pure_ (i := 14) (N := some 13) (v := ?_) (a' := ?_) #[true, true, true, true, true, true, true, true, true, true, true, true, false, false, true, false] rfl rfl (any_of HT_.out (by kernel_rfl)) (fun _ _ _ h => h) (Or.inl ⟨by rfl, ?_⟩) ?_ ?_
                   rotate_left
                   ·intro w'
                    go_simp
                    with_reducible rfl
                   rotate_left
                   ·simp only [Act.put, List.setIfInBounds_toArray, List.set_cons_zero, List.set_cons_succ, i64_w, i32_w]
                    rfl
                   refine take_ (i := 12) (N := some 92) (v := ?_) (a' := ?_) #[true, true, true, true, true, true, true, true, true, true, true, true, true, false, true, false] rfl rfl (take_ofW HT_.out HW_.out (by kernel_rfl)) (fun _ _ _ h => h) (Or.inl ⟨by rfl, ?_⟩) hHeld ?_ ?_
                   rotate_left
                   ·rintro w' ⟨s0, s1⟩
                    go_simp
                    with_reducible rfl
                   rotate_left
                   ·simp only [Act.put, List.setIfInBounds_toArray, List.set_cons_zero, List.set_cons_succ, i64_w, i32_w]
                    rfl
                   refine pure_ (i := 13) (N := some 93) (v := ?_) (a' := ?_) #[true, true, true, true, true, true, true, true, true, true, true, true, true, true, true, false] rfl rfl (any_of HT_.out (by kernel_rfl)) (fun _ _ _ h => h) (Or.inl ⟨by rfl, ?_⟩) ?_ ?_
                   rotate_left
                   ·intro w'
                    go_simp
                    with_reducible rfl
                   rotate_left
                   ·simp only [Act.put, List.setIfInBounds_toArray, List.set_cons_zero, List.set_cons_succ, i64_w, i32_w]
                    rfl
                   refine pure_ (i := 15) (N := some 14) (v := ?_) (a' := ?_) #[true, true, true, true, true, true, true, true, true, true, true, true, true, true, true, true] rfl rfl (any_of HT_.out (by kernel_rfl)) (fun _ _ _ h => h) (Or.inl ⟨by rfl, ?_⟩) ?_ ?_
                   rotate_left
                   ·intro w'
                    go_simp
                    with_reducible rfl
                   rotate_left
                   ·simp only [Act.put, List.setIfInBounds_toArray, List.set_cons_zero, List.set_cons_succ, i64_w, i32_w]
                    rfl
                   refine done_ (done_of HT_.out (by kernel_rfl)) ?_
                   try go_wp2_with (first | (with_reducible refine Exit.only_intro ?_) | ((with_reducible refine wp_scope_redo (rest := ?rest_) 0 ?hf_ ?_); (case hf_ => exact rfl)) | (with_reducible apply wp_goto))
                   (refine wp_label ?_; simp only [Exit.then]; go_step)
                   refine wp_label_ghost_k (fun (kq : Nat) (a' : Act) (w' : World) => ∃ u13 u14 u94 u95 u96 u97 u98 u99 u100 u101 u102 u103 u104 u105 u106 u107 u108 u109 u110 u111 u112 u113 u114 u115 u116 u117 u118 u119 u120 u121 u122 u123 u124 u125 u126 u127 u128 u129 u130 u131 u132 u133 u134 u135 u136 u137 u138 u139 u140 u141 u142 : Value, (∃ (x7_2 : List Int) (x10_2 : List Int) (x13_2 : Int) (x14_2 : Int), u13 = .int .i64 x13_2 ∧ u14 = .int .i64 x14_2 ∧ Aside0 (nat_div.l1 kq y124 x7_2 t136 (t136.length : Int) x10_2 x11_1 x13_2 x14_2 = some (r1, r2)) ∧ Aside0 (kq ≤ k1) ∧ Aside0 (Kd.R (Kd.int .i64) 3 w' w.heap.size (fun k_ => (w.heap.size ≤ k_) ∧ some k_ ≠ ((.slice (some ad155) x7_1.length co32) : Value).ownBlock ∧ some k_ ≠ ((.slice (some ad157) t136.length co31) : Value).ownBlock ∧ some k_ ≠ (v140 : Value).ownBlock) (.slice Ao24 y124.length co24) y124) ∧ Aside0 (Kd.R (Kd.int .i64) 3 w' w.heap.size (fun k_ => (w.heap.size ≤ k_) ∧ some k_ ≠ ((.slice Ao24 y124.length co24) : Value).ownBlock ∧ some k_ ≠ ((.slice (some ad157) t136.length co31) : Value).ownBlock ∧ some k_ ≠ (v140 : Value).ownBlock) (.slice (some ad155) x7_1.length co32) x7_2) ∧ Aside0 (Kd.R (Kd.int .i64) 3 w' w.heap.size (fun k_ => (w.heap.size ≤ k_) ∧ some k_ ≠ ((.slice Ao24 y124.length co24) : Value).ownBlock ∧ some k_ ≠ ((.slice (some ad155) x7_1.length co32) : Value).ownBlock ∧ some k_ ≠ (v140 : Value).ownBlock) (.slice (some ad157) t136.length co31) t136) ∧ Aside0 (Kd.R (Kd.int .i64) 3 w' w.heap.size (fun k_ => (w.heap.size ≤ k_) ∧ some k_ ≠ ((.slice Ao24 y124.length co24) : Value).ownBlock ∧ some k_ ≠ ((.slice (some ad155) x7_1.length co32) : Value).ownBlock ∧ some k_ ≠ ((.slice (some ad157) t136.length co31) : Value).ownBlock) v140 x10_2) ∧ Aside0 (Below w.heap.size w w')) ∧ a' = ⟨#[Value.slice A0 l0.length c0, Value.slice (some ad123) l1.length c1, undef, undef, Value.slice none 0 0, Value.slice none 0 0, Value.slice Ao24 y124.length co24, Value.slice (some ad155) x7_1.length co32, Value.slice (some ad157) t136.length co31, Value.int IntKind.i64 ↑t136.length, v140, Value.int IntKind.i64 x11_1, Value.int IntKind.i64 (wrap64 (wrap64 (rd x7_1 ji36 * 10000) + rd x7_1 ji39)), u13, u14, undef, undef, Value.slice A0 l0.length c0, Value.slice (some ad123) l1.length c1, Value.int IntKind.i64 t115, Value.bool false, undef, Value.slice (some ad123) l1.length c1, Value.int IntKind.i64 ↑l1.length, Value.bool false, undef, undef, undef, undef, undef, undef, undef, Value.slice (some ad123) l1.length c1, Value.slice (some ad123) l1.length c1, Value.int IntKind.i64 ↑l1.length, Value.int IntKind.i64 ji11, Value.pointer (some (ad123.add ji11.toNat)), Value.int IntKind.i64 (rd l1 ji11), Value.int IntKind.i64 (wrap64 (rd l1 ji11 + 1)), Value.int IntKind.i64 (wrap64 (Int.tdiv 10000 (wrap64 (rd l1 ji11 + 1)))), Value.slice Ao24 y124.length co24, Value.slice A0 l0.length c0, Value.slice Ao24 y124.length co24, v128, Value.slice Ao29 y130.length co29, Value.slice (some ad155) x7_1.length co32, Value.slice (some ad123) l1.length c1, Value.slice Ao24 y124.length co24, Value.slice (some ad157) t136.length co31, Value.slice (some ad157) t136.length co31, Value.int IntKind.i64 ↑t136.length, Value.slice (some ad155) x7_1.length co32, Value.int IntKind.i64 ↑x7_1.length, Value.int IntKind.i64 ↑t136.length, Value.int IntKind.i64 ji18, v140, Value.slice (some ad155) x7_1.length co32, Value.int IntKind.i64 ↑x7_1.length, Value.int IntKind.i64 ↑t136.length, Value.int IntKind.i64 ji18, Value.int IntKind.i64 (wrap64 (ji18 - 1)), Value.int IntKind.i64 x11_1, Value.bool true, u63, u64, Value.slice (some ad155) x7_1.length co32, Value.int IntKind.i64 x11_1, Value.int IntKind.i64 ↑t136.length, Value.int IntKind.i64 ji36, Value.pointer (some (ad155.add ji36.toNat)), Value.int IntKind.i64 (rd x7_1 ji36), Value.int IntKind.i64 (wrap64 (rd x7_1 ji36 * 10000)), Value.slice (some ad155) x7_1.length co32, Value.int IntKind.i64 x11_1, Value.int IntKind.i64 ↑t136.length, Value.int IntKind.i64 ji36, Value.int IntKind.i64 ji39, Value.pointer (some (ad155.add ji39.toNat)), Value.int IntKind.i64 (rd x7_1 ji39), Value.int IntKind.i64 (wrap64 (wrap64 (rd x7_1 ji36 * 10000) + rd x7_1 ji39)), Value.int IntKind.i64 (wrap64 (wrap64 (rd x7_1 ji36 * 10000) + rd x7_1 ji39)), Value.slice (some ad157) t136.length co31, Value.int IntKind.i64 ↑t136.length, Value.int IntKind.i64 ji42, Value.pointer (some (ad157.add ji42.toNat)), Value.int IntKind.i64 (rd t136 ji42), Value.int IntKind.i64 (wrap64 ((wrap64 (wrap64 (rd x7_1 ji36 * 10000) + rd x7_1 ji39)).tdiv (rd t136 ji42))), Value.int IntKind.i64 (wrap64 (wrap64 (rd x7_1 ji36 * 10000) + rd x7_1 ji39)), Value.slice (some ad157) t136.length co31, Value.int IntKind.i64 ↑t136.length, Value.int IntKind.i64 ji42, Value.pointer (some (ad157.add ji42.toNat)), Value.int IntKind.i64 (rd t136 ji42), Value.int IntKind.i64 ((wrap64 (wrap64 (rd x7_1 ji36 * 10000) + rd x7_1 ji39)).tmod (rd t136 ji42)), u94, u95, u96, u97, u98, u99, u100, u101, u102, u103, u104, u105, u106, u107, u108, u109, u110, u111, u112, u113, u114, u115, u116, u117, u118, u119, u120, u121, u122, u123, u124, u125, u126, u127, u128, u129, u130, u131, u132, u133, u134, u135, u136, u137, u138, u139, u140, u141, u142, undef, undef, undef, undef, undef, undef, undef, undef, undef, undef, undef, undef], []⟩) k1 ?atStart ?round
                   case atStart =>
                    (repeat apply Exists.intro)
                    refine ⟨?_, rfl⟩
                    exact ⟨(x7_1), (x10_1), (wrap64 (Int.tdiv (wrap64 ((wrap64 ((rd x7_1 (ji36)) * 10000)) + (rd x7_1 (ji39)))) (rd t136 (ji42)))), (Int.tmod (wrap64 ((wrap64 ((rd x7_1 (ji36)) * 10000)) + (rd x7_1 (ji39)))) (rd t136 (ji42))), (by first | rfl | (simp; done) | (simp only [← hji36, ← hji39, ← hji42] <;> (first | rfl | simp)) | (simp [*]; done)), (by first | rfl | (simp; done) | (simp only [← hji36, ← hji39, ← hji42] <;> (first | rfl | simp)) | (simp [*]; done)), H', ⟨Nat.le_refl _⟩, ⟨by (try simp only [hl7_1]); (with_reducible repeat (first | apply Kd.R_alloc | apply Kd.R_drewN | apply Kd.R_drew)); exact HO_6.out⟩, ⟨by (try simp only [hl7_1]); (with_reducible repeat (first | apply Kd.R_alloc | apply Kd.R_drewN | apply Kd.R_drew)); exact HO_7.out⟩, ⟨by (try simp only [hl7_1]); (with_reducible repeat (first | apply Kd.R_alloc | apply Kd.R_drewN | apply Kd.R_drew)); exact HO_8.out⟩, ⟨by (try simp only [hl7_1]); (with_reducible repeat (first | apply Kd.R_alloc | apply Kd.R_drewN | apply Kd.R_drew)); exact HO_10.out⟩, ⟨by repeat (first | (with_reducible first | exact HB.out | apply below_alloc | apply pw_below_drewN | apply below_drew1) | exact HB.out)⟩⟩
                   case round =>
                    intro gk _ wr hinv
                    obtain ⟨u13, u14, u94, u95, u96, u97, u98, u99, u100, u101, u102, u103, u104, u105, u106, u107, u108, u109, u110, u111, u112, u113, u114, u115, u116, u117, u118, u119, u120, u121, u122, u123, u124, u125, u126, u127, u128, u129, u130, u131, u132, u133, u134, u135, u136, u137, u138, u139, u140, u141, u142, hrel, ha⟩ := hinv
                    subst ha
                    try dsimp only
                    intro _ _ _ _ _ _
                    clear H'
                    try clear c1
                    try clear p1
                    try clear q1
                    try clear hx1
                    try clear qi1
                    try clear c2
                    try clear p2
                    try clear c3
                    try clear c4
                    try clear c4b0
                    try clear c5
                    try clear c6
                    try clear c6b0
                    try clear c6b1
                    try clear p6
                    try clear c7
                    try clear c7b0
                    try clear c7b1
                    try clear p11
                    try clear q11
                    try clear hx11
                    try clear qi11
                    try clear c12
                    try clear c12b0
                    try clear p12
                    try clear q12
                    try clear hx12
                    try clear c13
                    try clear c13b0
                    try clear c14
                    try clear c14b0
                    try clear c14b1
                    try clear p15
                    try clear q15
                    try clear hx15
                    try clear c16
                    try clear c19
                    try clear c19b0
                    try clear c19b1
                    try clear c20
                    try clear c20b0
                    try clear c20b1
                    try clear c34
                    try clear c35
                    try clear c35b0
                    try clear c37
                    try clear c37b0
                    try clear c38
                    try clear c38b0
                    try clear c40
                    try clear c40b0
                    try clear c41
                    try clear c41b0
                    try clear c43
                    try clear c43b0
                    try clear c44
                    try clear c44b0
                    try clear c45
                    try clear c45b0
                    try clear c45b1
                    try clear hx116_0
                    try clear hx123_0
                    try clear hx155_0
                    try clear hx156_0
                    try clear hx157_0
                    try clear hx158_0
                    try clear p1
                    try clear p11
                    try clear p116
                    try clear p12
                    try clear p123
                    try clear p155
                    try clear p156
                    try clear p157
                    try clear p158
                    try clear p2
                    try clear p6
                    try clear q1
                    try clear q11
                    try clear q116
                    try clear q12
                    try clear q123
                    try clear q155
                    try clear q156
                    try clear q157
                    try clear q158
                    obtain ⟨x7_2, x10_2, x13_2, x14_2, rfl, rfl, HA, HK2, HO_6, HO_7, HO_8, HO_10, HB⟩ := hrel
                    have hl7_2 := (Kd.R_reads' HO_7.out).1
                    rw [hl7_2] at HO_7
                    (try simp only [hl7_2])
                    (try simp only [hl7_2] at HO_6)
                    (try simp only [hl7_2] at HO_8)
                    (try simp only [hl7_2] at HO_10)
                    cases gk with
                    | zero => exact absurd HA.out (by simp [nat_div.l1])
                    | succ k2 =>
                     have H := HA.out
                     clear HA
                     simp only [nat_div.l1] at H
                     have HC48 := Aside0.mk H
                     clear H
                     go_upto_region 14 with (fail)
                     go_cut [115] from 94 to 126 (fun v115 wc => ∃ (kq : Nat) (x115_47 : Bool), v115 = .bool x115_47 ∧ Aside0 (nat_div.j2 kq y124 x7_2 t136 (t136.length : Int) x10_2 x11_1 x13_2 x14_2 x115_47 = some (r1, r2)) ∧ Aside0 (kq ≤ k2) ∧ Aside0 (Kd.R (Kd.int .i64) 3 wc w.heap.size (fun k_ => (w.heap.size ≤ k_) ∧ some k_ ≠ ((.slice (some ad155) x7_2.length co32) : Value).ownBlock ∧ some k_ ≠ ((.slice (some ad157) t136.length co31) : Value).ownBlock ∧ some k_ ≠ (v140 : Value).ownBlock) (.slice Ao24 y124.length co24) y124) ∧ Aside0 (Kd.R (Kd.int .i64) 3 wc w.heap.size (fun k_ => (w.heap.size ≤ k_) ∧ some k_ ≠ ((.slice Ao24 y124.length co24) : Value).ownBlock ∧ some k_ ≠ ((.slice (some ad157) t136.length co31) : Value).ownBlock ∧ some k_ ≠ (v140 : Value).ownBlock) (.slice (some ad155) x7_2.length co32) x7_2) ∧ Aside0 (Kd.R (Kd.int .i64) 3 wc w.heap.size (fun k_ => (w.heap.size ≤ k_) ∧ some k_ ≠ ((.slice Ao24 y124.length co24) : Value).ownBlock ∧ some k_ ≠ ((.slice (some ad155) x7_2.length co32) : Value).ownBlock ∧ some k_ ≠ (v140 : Value).ownBlock) (.slice (some ad157) t136.length co31) t136) ∧ Aside0 (Kd.R (Kd.int .i64) 3 wc w.heap.size (fun k_ => (w.heap.size ≤ k_) ∧ some k_ ≠ ((.slice Ao24 y124.length co24) : Value).ownBlock ∧ some k_ ≠ ((.slice (some ad155) x7_2.length co32) : Value).ownBlock ∧ some k_ ≠ ((.slice (some ad157) t136.length co31) : Value).ownBlock) v140 x10_2) ∧ Aside0 (Below w.heap.size w wc))
                     case first =>
                      have H := HC48.out
                      clear HC48
                      by_cases c49 : x13_2 ≥ 10000
                      ·rw [if_pos c49] at H
                       have c49b0 : decide (10000 ≤ x13_2) = true := decide_eq_true c49
                       clear c49
                       (first | rw [c49b0] | (simp only [i64_w, i32_w]; rw [c49b0]) | skip)
                       have H' := Aside0.mk H
                       clear H
                       try go_wp2_with (first | (with_reducible refine Exit.only_intro ?_) | ((with_reducible refine wp_scope_redo (rest := ?rest_) 0 ?hf_ ?_); (case hf_ => exact rfl)) | (with_reducible apply wp_goto))
                       have n0_ := Aside0.mk (Kd.R_drew HO_6.out)
                       have n1_ := Aside0.mk (Kd.R_drew HO_7.out)
                       have n2_ := Aside0.mk (Kd.R_drew HO_8.out)
                       have n3_ := Aside0.mk (Kd.R_drew HO_10.out)
                       have n4_ := Aside0.mk (below_drew1 HB.out)
                       clear HO_6
                       clear HO_7
                       clear HO_8
                       clear HO_10
                       clear HB
                       have HO_6 := n0_
                       have HO_7 := n1_
                       have HO_8 := n2_
                       have HO_10 := n3_
                       have HB := n4_
                       clear n0_ n1_ n2_ n3_ n4_
                       refine start_ (n := 22) (S := fun w' => True) (ds := []) #[false, false, false, false, false, false, false, false, false, false, false, false, false, false, false, false, false, false, false, false, false, false] (by kernel_rfl) rfl rfl trivial (fun hHeld => ?_); refine with_tabW nat_div.tab14 nat_div.bits14 (fun HT_ HW_ => ?_)
                       generalize wr.drew = w50 at HO_6 HO_7 HO_8 HO_10 HB hHeld ⊢
                       refine pure_ (i := 0) (N := some 94) (v := ?_) (a' := ?_) #[true, false, false, false, false, false, false, false, false, false, false, false, false, false, false, false, false, false, false, false, false, false] rfl rfl (any_of HT_.out (by kernel_rfl)) (fun _ _ _ h => h) (Or.inl ⟨by rfl, ?_⟩) ?_ ?_
                       rotate_left
                       ·intro w'
                        go_simp
                        with_reducible rfl
                       rotate_left
                       ·simp only [Act.put, List.setIfInBounds_toArray, List.set_cons_zero, List.set_cons_succ, i64_w, i32_w]
                        rfl
                       refine pure_ (i := 1) (N := some 95) (v := ?_) (a' := ?_) #[true, true, false, false, false, false, false, false, false, false, false, false, false, false, false, false, false, false, false, false, false, false] rfl rfl (any_of HT_.out (by kernel_rfl)) (fun _ _ _ h => h) (Or.inl ⟨by rfl, ?_⟩) ?_ ?_
                       rotate_left
                       ·intro w'
                        go_simp
                        with_reducible rfl
                       rotate_left
                       ·simp only [Act.put, List.setIfInBounds_toArray, List.set_cons_zero, List.set_cons_succ, i64_w, i32_w]
                        rfl
                       refine pure_ (i := 2) (N := some 96) (v := ?_) (a' := ?_) #[true, true, true, false, false, false, false, false, false, false, false, false, false, false, false, false, false, false, false, false, false, false] rfl rfl (any_of HT_.out (by kernel_rfl)) (fun _ _ _ h => h) (Or.inl ⟨by rfl, ?_⟩) ?_ ?_
                       rotate_left
                       ·intro w'
                        go_simp
                        with_reducible rfl
                       rotate_left
                       ·simp only [Act.put, List.setIfInBounds_toArray, List.set_cons_zero, List.set_cons_succ, i64_w, i32_w]
                        rfl
                       refine pure_ (i := 3) (N := some 97) (v := undef) (a' := ?_) #[true, true, true, true, false, false, false, false, false, false, false, false, false, false, false, false, false, false, false, false, false, false] rfl rfl (any_of HT_.out (by kernel_rfl)) (fun _ _ _ h => h) (Or.inr ⟨by rfl, rfl⟩) ?_ ?_
                       rotate_left
                       ·simp only [Act.put, List.setIfInBounds_toArray, List.set_cons_zero, List.set_cons_succ, i64_w, i32_w]
                        rfl
                       refine pure_ (i := 4) (N := some 98) (v := undef) (a' := ?_) #[true, true, true, true, true, false, false, false, false, false, false, false, false, false, false, false, false, false, false, false, false, false] rfl rfl (any_of HT_.out (by kernel_rfl)) (fun _ _ _ h => h) (Or.inr ⟨by rfl, rfl⟩) ?_ ?_
                       rotate_left
                       ·simp only [Act.put, List.setIfInBounds_toArray, List.set_cons_zero, List.set_cons_succ, i64_w, i32_w]
                        rfl
                       refine pure_ (i := 5) (N := some 99) (v := undef) (a' := ?_) #[true, true, true, true, true, true, false, false, false, false, false, false, false, false, false, false, false, false, false, false, false, false] rfl rfl (any_of HT_.out (by kernel_rfl)) (fun _ _ _ h => h) (Or.inr ⟨by rfl, rfl⟩) ?_ ?_
                       rotate_left
                       ·simp only [Act.put, List.setIfInBounds_toArray, List.set_cons_zero, List.set_cons_succ, i64_w, i32_w]
                        rfl
                       refine pure_ (i := 6) (N := some 100) (v := undef) (a' := ?_) #[true, true, true, true, true, true, true, false, false, false, false, false, false, false, false, false, false, false, false, false, false, false] rfl rfl (any_of HT_.out (by kernel_rfl)) (fun _ _ _ h => h) (Or.inr ⟨by rfl, rfl⟩) ?_ ?_
                       rotate_left
                       ·simp only [Act.put, List.setIfInBounds_toArray, List.set_cons_zero, List.set_cons_succ, i64_w, i32_w]
                        rfl
                       refine pure_ (i := 7) (N := some 101) (v := undef) (a' := ?_) #[true, true, true, true, true, true, true, true, false, false, false, false, false, false, false, false, false, false, false, false, false, false] rfl rfl (any_of HT_.out (by kernel_rfl)) (fun _ _ _ h => h) (Or.inr ⟨by rfl, rfl⟩) ?_ ?_
                       rotate_left
                       ·simp only [Act.put, List.setIfInBounds_toArray, List.set_cons_zero, List.set_cons_succ, i64_w, i32_w]
                        rfl
                       refine pure_ (i := 8) (N := some 102) (v := undef) (a' := ?_) #[true, true, true, true, true, true, true, true, true, false, false, false, false, false, false, false, false, false, false, false, false, false] rfl rfl (any_of HT_.out (by kernel_rfl)) (fun _ _ _ h => h) (Or.inr ⟨by rfl, rfl⟩) ?_ ?_
                       rotate_left
                       ·simp only [Act.put, List.setIfInBounds_toArray, List.set_cons_zero, List.set_cons_succ, i64_w, i32_w]
                        rfl
                       refine pure_ (i := 9) (N := some 103) (v := undef) (a' := ?_) #[true, true, true, true, true, true, true, true, true, true, false, false, false, false, false, false, false, false, false, false, false, false] rfl rfl (any_of HT_.out (by kernel_rfl)) (fun _ _ _ h => h) (Or.inr ⟨by rfl, rfl⟩) ?_ ?_
                       rotate_left
                       ·simp only [Act.put, List.setIfInBounds_toArray, List.set_cons_zero, List.set_cons_succ, i64_w, i32_w]
                        rfl
                       refine pure_ (i := 10) (N := some 104) (v := undef) (a' := ?_) #[true, true, true, true, true, true, true, true, true, true, true, false, false, false, false, false, false, false, false, false, false, false] rfl rfl (any_of HT_.out (by kernel_rfl)) (fun _ _ _ h => h) (Or.inr ⟨by rfl, rfl⟩) ?_ ?_
                       rotate_left
                       ·simp only [Act.put, List.setIfInBounds_toArray, List.set_cons_zero, List.set_cons_succ, i64_w, i32_w]
                        rfl
                       refine pure_ (i := 11) (N := some 105) (v := undef) (a' := ?_) #[true, true, true, true, true, true, true, true, true, true, true, true, false, false, false, false, false, false, false, false, false, false] rfl rfl (any_of HT_.out (by kernel_rfl)) (fun _ _ _ h => h) (Or.inr ⟨by rfl, rfl⟩) ?_ ?_
                       rotate_left
                       ·simp only [Act.put, List.setIfInBounds_toArray, List.set_cons_zero, List.set_cons_succ, i64_w, i32_w]
                        rfl
                       refine pure_ (i := 12) (N := some 106) (v := undef) (a' := ?_) #[true, true, true, true, true, true, true, true, true, true, true, true, true, false, false, false, false, false, false, false, false, false] rfl rfl (any_of HT_.out (by kernel_rfl)) (fun _ _ _ h => h) (Or.inr ⟨by rfl, rfl⟩) ?_ ?_
                       rotate_left
                       ·simp only [Act.put, List.setIfInBounds_toArray, List.set_cons_zero, List.set_cons_succ, i64_w, i32_w]
                        rfl
                       refine pure_ (i := 13) (N := some 107) (v := undef) (a' := ?_) #[true, true, true, true, true, true, true, true, true, true, true, true, true, true, false, false, false, false, false, false, false, false] rfl rfl (any_of HT_.out (by kernel_rfl)) (fun _ _ _ h => h) (Or.inr ⟨by rfl, rfl⟩) ?_ ?_
                       rotate_left
                       ·simp only [Act.put, List.setIfInBounds_toArray, List.set_cons_zero, List.set_cons_succ, i64_w, i32_w]
                        rfl
                       refine pure_ (i := 14) (N := some 108) (v := undef) (a' := ?_) #[true, true, true, true, true, true, true, true, true, true, true, true, true, true, true, false, false, false, false, false, false, false] rfl rfl (any_of HT_.out (by kernel_rfl)) (fun _ _ _ h => h) (Or.inr ⟨by rfl, rfl⟩) ?_ ?_
                       rotate_left
                       ·simp only [Act.put, List.setIfInBounds_toArray, List.set_cons_zero, List.set_cons_succ, i64_w, i32_w]
                        rfl
                       refine pure_ (i := 15) (N := some 109) (v := undef) (a' := ?_) #[true, true, true, true, true, true, true, true, true, true, true, true, true, true, true, true, false, false, false, false, false, false] rfl rfl (any_of HT_.out (by kernel_rfl)) (fun _ _ _ h => h) (Or.inr ⟨by rfl, rfl⟩) ?_ ?_
                       rotate_left
                       ·simp only [Act.put, List.setIfInBounds_toArray, List.set_cons_zero, List.set_cons_succ, i64_w, i32_w]
                        rfl
                       refine pure_ (i := 16) (N := some 110) (v := undef) (a' := ?_) #[true, true, true, true, true, true, true, true, true, true, true, true, true, true, true, true, true, false, false, false, false, false] rfl rfl (any_of HT_.out (by kernel_rfl)) (fun _ _ _ h => h) (Or.inr ⟨by rfl, rfl⟩) ?_ ?_
                       rotate_left
                       ·simp only [Act.put, List.setIfInBounds_toArray, List.set_cons_zero, List.set_cons_succ, i64_w, i32_w]
                        rfl
                       refine pure_ (i := 17) (N := some 111) (v := undef) (a' := ?_) #[true, true, true, true, true, true, true, true, true, true, true, true, true, true, true, true, true, true, false, false, false, false] rfl rfl (any_of HT_.out (by kernel_rfl)) (fun _ _ _ h => h) (Or.inr ⟨by rfl, rfl⟩) ?_ ?_
                       rotate_left
                       ·simp only [Act.put, List.setIfInBounds_toArray, List.set_cons_zero, List.set_cons_succ, i64_w, i32_w]
                        rfl
                       refine pure_ (i := 18) (N := some 112) (v := undef) (a' := ?_) #[true, true, true, true, true, true, true, true, true, true, true, true, true, true, true, true, true, true, true, false, false, false] rfl rfl (any_of HT_.out (by kernel_rfl)) (fun _ _ _ h => h) (Or.inr ⟨by rfl, rfl⟩) ?_ ?_
                       rotate_left
                       ·simp only [Act.put, List.setIfInBounds_toArray, List.set_cons_zero, List.set_cons_succ, i64_w, i32_w]
                        rfl
                       refine pure_ (i := 19) (N := some 113) (v := undef) (a' := ?_) #[true, true, true, true, true, true, true, true, true, true, true, true, true, true, true, true, true, true, true, true, false, false] rfl rfl (any_of HT_.out (by kernel_rfl)) (fun _ _ _ h => h) (Or.inr ⟨by rfl, rfl⟩) ?_ ?_
                       rotate_left
                       ·simp only [Act.put, List.setIfInBounds_toArray, List.set_cons_zero, List.set_cons_succ, i64_w, i32_w]
                        rfl
                       refine pure_ (i := 20) (N := some 114) (v := undef) (a' := ?_) #[true, true, true, true, true, true, true, true, true, true, true, true, true, true, true, true, true, true, true, true, true, false] rfl rfl (any_of HT_.out (by kernel_rfl)) (fun _ _ _ h => h) (Or.inr ⟨by rfl, rfl⟩) ?_ ?_
                       rotate_left
                       ·simp only [Act.put, List.setIfInBounds_toArray, List.set_cons_zero, List.set_cons_succ, i64_w, i32_w]
                        rfl
                       refine pure_ (i := 21) (N := some 115) (v := ?_) (a' := ?_) #[true, true, true, true, true, true, true, true, true, true, true, true, true, true, true, true, true, true, true, true, true, true] rfl rfl (any_of HT_.out (by kernel_rfl)) (fun _ _ _ h => h) (Or.inl ⟨by rfl, ?_⟩) ?_ ?_
                       rotate_left
                       ·intro w'
                        go_simp
                        with_reducible rfl
                       rotate_left
                       ·simp only [Act.put, List.setIfInBounds_toArray, List.set_cons_zero, List.set_cons_succ, i64_w, i32_w]
                        rfl
                       refine done_ (done_of HT_.out (by kernel_rfl)) ?_
                       try go_wp2_with (first | (with_reducible refine Exit.only_intro ?_) | ((with_reducible refine wp_scope_redo (rest := ?rest_) 0 ?hf_ ?_); (case hf_ => exact rfl)) | (with_reducible apply wp_goto))
                       go_meet
                       case rel => exact ⟨_, (true), (by first | rfl | (simp; done) | (simp [*]; done)), H', ⟨by have := HK1.out; have := HK2.out; first | omega | exact Nat.le_refl _⟩, ⟨by (try simp only [hl7_1]); (try simp only [hl7_2]); (with_reducible repeat (first | apply Kd.R_alloc | apply Kd.R_drewN | apply Kd.R_drew)); exact HO_6.out⟩, ⟨by (try simp only [hl7_1]); (try simp only [hl7_2]); (with_reducible repeat (first | apply Kd.R_alloc | apply Kd.R_drewN | apply Kd.R_drew)); exact HO_7.out⟩, ⟨by (try simp only [hl7_1]); (try simp only [hl7_2]); (with_reducible repeat (first | apply Kd.R_alloc | apply Kd.R_drewN | apply Kd.R_drew)); exact HO_8.out⟩, ⟨by (try simp only [hl7_1]); (try simp only [hl7_2]); (with_reducible repeat (first | apply Kd.R_alloc | apply Kd.R_drewN | apply Kd.R_drew)); exact HO_10.out⟩, ⟨by repeat (first | (with_reducible first | exact HB.out | apply below_alloc | apply pw_below_drewN | apply below_drew1) | exact HB.out)⟩⟩
                      ·rw [if_neg c49] at H
                       have c49b0 : decide (10000 ≤ x13_2) = false := decide_eq_false c49
                       clear c49
                       (first | rw [c49b0] | (simp only [i64_w, i32_w]; rw [c49b0]) | skip)
                       obtain ⟨ji51, hji51⟩ : ∃ j_ : Int, (wrap64 ((t136.length : Int) - 2)) = j_ := ⟨_, rfl⟩
                       replace H : (if 0 ≤ (ji51) then (if (ji51) < (t136.length : Int) then (if 0 ≤ (wrap64 ((wrap64 (x11_1 + (t136.length : Int))) - 2)) then (if (wrap64 ((wrap64 (x11_1 + (t136.length : Int))) - 2)) < (x7_2.length : Int) then (nat_div.j2 k2 y124 x7_2 t136 (t136.length : Int) x10_2 x11_1 x13_2 x14_2 (decide ((wrap64 (x13_2 * (rd t136 (ji51)))) > (wrap64 ((wrap64 (x14_2 * 10000)) + (rd x7_2 (wrap64 ((wrap64 (x11_1 + (t136.length : Int))) - 2)))))))) else (none)) else (none)) else (none)) else (none)) = some (r1, r2) := by first | (rw [hji51] at H; exact H) | (simp only [hji51] at H ⊢; exact H)
                       have hji51w : (IntKind.i64.wrap ((t136.length : Int) - 2)) = ji51 := (i64_w _).trans hji51
                       by_cases c52 : 0 ≤ (ji51)
                       ·rw [if_pos c52] at H
                        have c52b0 : decide (0 ≤ (ji51)) = true := decide_eq_true c52
                        clear c52
                        by_cases c53 : (ji51) < (t136.length : Int)
                        ·rw [if_pos c53] at H
                         have c53b0 : decide ((ji51) < (t136.length : Int)) = true := decide_eq_true c53
                         clear c53
                         obtain ⟨ji54, hji54⟩ : ∃ j_ : Int, (wrap64 ((wrap64 (x11_1 + (t136.length : Int))) - 2)) = j_ := ⟨_, rfl⟩
                         replace H : (if 0 ≤ (ji54) then (if (ji54) < (x7_2.length : Int) then (nat_div.j2 k2 y124 x7_2 t136 (t136.length : Int) x10_2 x11_1 x13_2 x14_2 (decide ((wrap64 (x13_2 * (rd t136 (ji51)))) > (wrap64 ((wrap64 (x14_2 * 10000)) + (rd x7_2 (ji54))))))) else (none)) else (none)) = some (r1, r2) := by first | (rw [hji54] at H; exact H) | (simp only [hji54] at H ⊢; exact H)
                         have hji54w : (IntKind.i64.wrap ((wrap64 (x11_1 + (t136.length : Int))) - 2)) = ji54 := (i64_w _).trans hji54
                         (try have hji54ji36 : (IntKind.i64.wrap ((ji36) - 2)) = ji54 := by rw [← hji36]; exact hji54w)
                         (try have hji54ji36_ : (wrap64 ((ji36) - 2)) = ji54 := by rw [← hji36]; exact hji54)
                         by_cases c55 : 0 ≤ (ji54)
                         ·rw [if_pos c55] at H
                          have c55b0 : decide (0 ≤ (ji54)) = true := decide_eq_true c55
                          clear c55
                          by_cases c56 : (ji54) < (x7_2.length : Int)
                          ·rw [if_pos c56] at H
                           have c56b0 : decide ((ji54) < (x7_2.length : Int)) = true := decide_eq_true c56
                           clear c56
                           have H' := Aside0.mk H
                           clear H
                           try go_wp2_with (first | (with_reducible refine Exit.only_intro ?_) | ((with_reducible refine wp_scope_redo (rest := ?rest_) 0 ?hf_ ?_); (case hf_ => exact rfl)) | (with_reducible apply wp_goto))
                           have n0_ := Aside0.mk (Kd.R_drew HO_6.out)
                           have n1_ := Aside0.mk (Kd.R_drew HO_7.out)
                           have n2_ := Aside0.mk (Kd.R_drew HO_8.out)
                           have n3_ := Aside0.mk (Kd.R_drew HO_10.out)
                           have n4_ := Aside0.mk (below_drew1 HB.out)
                           clear HO_6
                           clear HO_7
                           clear HO_8
                           clear HO_10
                           clear HB
                           have HO_6 := n0_
                           have HO_7 := n1_
                           have HO_8 := n2_
                           have HO_10 := n3_
                           have HB := n4_
                           clear n0_ n1_ n2_ n3_ n4_
                           have p159 : 0 ≤ ((ji51) : Int) := of_decide_eq_true (by first | (with_reducible assumption) | assumption)
                           have q159 : (ji51) < (t136.length : Int) := of_decide_eq_true (by first | (with_reducible assumption) | assumption)
                           obtain ⟨ad159, e159, hx159_0⟩ := Kd.at_int (Kd.R_reads' HO_8.out).2.2 (ji51) p159 q159
                           obtain rfl : ad157 = ad159 := (by injection e159)
                           replace p159 := eq_true p159
                           replace q159 := eq_true q159
                           have p160 : 0 ≤ ((ji54) : Int) := of_decide_eq_true (by first | (with_reducible assumption) | assumption)
                           have q160 : (ji54) < (x7_2.length : Int) := of_decide_eq_true (by first | (with_reducible assumption) | assumption)
                           obtain ⟨ad160, e160, hx160_0⟩ := Kd.at_int (Kd.R_reads' HO_7.out).2.2 (ji54) p160 q160
                           obtain rfl : ad155 = ad160 := (by injection e160)
                           replace p160 := eq_true p160
                           replace q160 := eq_true q160
                           refine start_ (n := 22) (S := fun w' => w'.cell? (ad157.add ((ji51)).toNat) = some (.int .i64 (rd t136 (ji51))) ∧ w'.cell? (ad155.add ((ji54)).toNat) = some (.int .i64 (rd x7_2 (ji54)))) (ds := []) #[false, false, false, false, false, false, false, false, false, false, false, false, false, false, false, false, false, false, false, false, false, false] (by kernel_rfl) rfl rfl ⟨hx159_0, hx160_0⟩ (fun hHeld => ?_); refine with_tabW nat_div.tab14 nat_div.bits14 (fun HT_ HW_ => ?_)
                           generalize wr.drew = w57 at HO_6 HO_7 HO_8 HO_10 HB hx159_0 hx160_0 hHeld ⊢
                           refine pure_ (i := 0) (N := some 94) (v := ?_) (a' := ?_) #[true, false, false, false, false, false, false, false, false, false, false, false, false, false, false, false, false, false, false, false, false, false] rfl rfl (any_of HT_.out (by kernel_rfl)) (fun _ _ _ h => h) (Or.inl ⟨by rfl, ?_⟩) ?_ ?_
                           rotate_left
                           ·intro w'
                            go_simp
                            with_reducible rfl
                           rotate_left
                           ·simp only [Act.put, List.setIfInBounds_toArray, List.set_cons_zero, List.set_cons_succ, i64_w, i32_w]
                            rfl
                           refine pure_ (i := 1) (N := some 95) (v := ?_) (a' := ?_) #[true, true, false, false, false, false, false, false, false, false, false, false, false, false, false, false, false, false, false, false, false, false] rfl rfl (any_of HT_.out (by kernel_rfl)) (fun _ _ _ h => h) (Or.inl ⟨by rfl, ?_⟩) ?_ ?_
                           rotate_left
                           ·intro w'
                            go_simp
                            with_reducible rfl
                           rotate_left
                           ·simp only [Act.put, List.setIfInBounds_toArray, List.set_cons_zero, List.set_cons_succ, i64_w, i32_w]
                            rfl
                           refine pure_ (i := 2) (N := some 96) (v := ?_) (a' := ?_) #[true, true, true, false, false, false, false, false, false, false, false, false, false, false, false, false, false, false, false, false, false, false] rfl rfl (any_of HT_.out (by kernel_rfl)) (fun _ _ _ h => h) (Or.inl ⟨by rfl, ?_⟩) ?_ ?_
                           rotate_left
                           ·intro w'
                            go_simp
                            with_reducible rfl
                           rotate_left
                           ·simp only [Act.put, List.setIfInBounds_toArray, List.set_cons_zero, List.set_cons_succ, i64_w, i32_w]
                            rfl
                           refine pure_ (i := 3) (N := some 97) (v := ?_) (a' := ?_) #[true, true, true, true, false, false, false, false, false, false, false, false, false, false, false, false, false, false, false, false, false, false] rfl rfl (any_of HT_.out (by kernel_rfl)) (fun _ _ _ h => h) (Or.inl ⟨by rfl, ?_⟩) ?_ ?_
                           rotate_left
                           ·intro w'
                            go_simp
                            with_reducible rfl
                           rotate_left
                           ·simp only [Act.put, List.setIfInBounds_toArray, List.set_cons_zero, List.set_cons_succ, i64_w, i32_w]
                            rfl
                           refine pure_ (i := 4) (N := some 98) (v := ?_) (a' := ?_) #[true, true, true, true, true, false, false, false, false, false, false, false, false, false, false, false, false, false, false, false, false, false] rfl rfl (any_of HT_.out (by kernel_rfl)) (fun _ _ _ h => h) (Or.inl ⟨by rfl, ?_⟩) ?_ ?_
                           rotate_left
                           ·intro w'
                            go_simp
                            with_reducible rfl
                           rotate_left
                           ·simp only [Act.put, List.setIfInBounds_toArray, List.set_cons_zero, List.set_cons_succ, i64_w, i32_w]
                            rfl
                           refine pure_ (i := 5) (N := some 99) (v := ?_) (a' := ?_) #[true, true, true, true, true, true, false, false, false, false, false, false, false, false, false, false, false, false, false, false, false, false] rfl rfl (any_of HT_.out (by kernel_rfl)) (fun _ _ _ h => h) (Or.inl ⟨by rfl, ?_⟩) ?_ ?_
                           rotate_left
                           ·intro w'
                            go_simp
                            with_reducible rfl
                           rotate_left
                           ·simp only [Act.put, List.setIfInBounds_toArray, List.set_cons_zero, List.set_cons_succ, i64_w, i32_w]
                            rfl
                           refine pure_ (i := 6) (N := some 100) (v := ?_) (a' := ?_) #[true, true, true, true, true, true, true, false, false, false, false, false, false, false, false, false, false, false, false, false, false, false] rfl rfl (any_of HT_.out (by kernel_rfl)) (fun _ _ _ h => h) (Or.inl ⟨by rfl, ?_⟩) ?_ ?_
                           rotate_left
                           ·intro w'
                            go_simp
                            with_reducible rfl
                           rotate_left
                           ·simp only [Act.put, List.setIfInBounds_toArray, List.set_cons_zero, List.set_cons_succ, i64_w, i32_w]
                            rfl
                           refine pure_ (i := 7) (N := some 101) (v := ?_) (a' := ?_) #[true, true, true, true, true, true, true, true, false, false, false, false, false, false, false, false, false, false, false, false, false, false] rfl rfl (any_of HT_.out (by kernel_rfl)) (fun _ _ _ h => h) (Or.inl ⟨by rfl, ?_⟩) ?_ ?_
                           rotate_left
                           ·intro w'
                            go_simp
                            with_reducible rfl
                           rotate_left
                           ·simp only [Act.put, List.setIfInBounds_toArray, List.set_cons_zero, List.set_cons_succ, i64_w, i32_w]
                            rfl
                           refine pure_ (i := 10) (N := some 104) (v := ?_) (a' := ?_) #[true, true, true, true, true, true, true, true, false, false, true, false, false, false, false, false, false, false, false, false, false, false] rfl rfl (any_of HT_.out (by kernel_rfl)) (fun _ _ _ h => h) (Or.inl ⟨by rfl, ?_⟩) ?_ ?_
                           rotate_left
                           ·intro w'
                            go_simp
                            with_reducible rfl
                           rotate_left
                           ·simp only [Act.put, List.setIfInBounds_toArray, List.set_cons_zero, List.set_cons_succ, i64_w, i32_w]
                            rfl
                           refine pure_ (i := 11) (N := some 105) (v := ?_) (a' := ?_) #[true, true, true, true, true, true, true, true, false, false, true, true, false, false, false, false, false, false, false, false, false, false] rfl rfl (any_of HT_.out (by kernel_rfl)) (fun _ _ _ h => h) (Or.inl ⟨by rfl, ?_⟩) ?_ ?_
                           rotate_left
                           ·intro w'
                            go_simp
                            with_reducible rfl
                           rotate_left
                           ·simp only [Act.put, List.setIfInBounds_toArray, List.set_cons_zero, List.set_cons_succ, i64_w, i32_w]
                            rfl
                           refine pure_ (i := 12) (N := some 106) (v := ?_) (a' := ?_) #[true, true, true, true, true, true, true, true, false, false, true, true, true, false, false, false, false, false, false, false, false, false] rfl rfl (any_of HT_.out (by kernel_rfl)) (fun _ _ _ h => h) (Or.inl ⟨by rfl, ?_⟩) ?_ ?_
                           rotate_left
                           ·intro w'
                            go_simp
                            with_reducible rfl
                           rotate_left
                           ·simp only [Act.put, List.setIfInBounds_toArray, List.set_cons_zero, List.set_cons_succ, i64_w, i32_w]
                            rfl
                           refine pure_ (i := 13) (N := some 107) (v := ?_) (a' := ?_) #[true, true, true, true, true, true, true, true, false, false, true, true, true, true, false, false, false, false, false, false, false, false] rfl rfl (any_of HT_.out (by kernel_rfl)) (fun _ _ _ h => h) (Or.inl ⟨by rfl, ?_⟩) ?_ ?_
                           rotate_left
                           ·intro w'
                            go_simp
                            with_reducible rfl
                           rotate_left
                           ·simp only [Act.put, List.setIfInBounds_toArray, List.set_cons_zero, List.set_cons_succ, i64_w, i32_w]
                            rfl
                           refine pure_ (i := 14) (N := some 108) (v := ?_) (a' := ?_) #[true, true, true, true, true, true, true, true, false, false, true, true, true, true, true, false, false, false, false, false, false, false] rfl rfl (any_of HT_.out (by kernel_rfl)) (fun _ _ _ h => h) (Or.inl ⟨by rfl, ?_⟩) ?_ ?_
                           rotate_left
                           ·intro w'
                            go_simp
                            with_reducible rfl
                           rotate_left
                           ·simp only [Act.put, List.setIfInBounds_toArray, List.set_cons_zero, List.set_cons_succ, i64_w, i32_w]
                            rfl
                           refine pure_ (i := 15) (N := some 109) (v := ?_) (a' := ?_) #[true, true, true, true, true, true, true, true, false, false, true, true, true, true, true, true, false, false, false, false, false, false] rfl rfl (any_of HT_.out (by kernel_rfl)) (fun _ _ _ h => h) (Or.inl ⟨by rfl, ?_⟩) ?_ ?_
                           rotate_left
                           ·intro w'
                            go_simp
                            with_reducible rfl
                           rotate_left
                           ·simp only [Act.put, List.setIfInBounds_toArray, List.set_cons_zero, List.set_cons_succ, i64_w, i32_w]
                            rfl
                           refine pure_ (i := 16) (N := some 110) (v := ?_) (a' := ?_) #[true, true, true, true, true, true, true, true, false, false, true, true, true, true, true, true, true, false, false, false, false, false] rfl rfl (any_of HT_.out (by kernel_rfl)) (fun _ _ _ h => h) (Or.inl ⟨by rfl, ?_⟩) ?_ ?_
                           rotate_left
                           ·intro w'
                            go_simp
                            with_reducible rfl
                           rotate_left
                           ·simp only [Act.put, List.setIfInBounds_toArray, List.set_cons_zero, List.set_cons_succ, i64_w, i32_w]
                            rfl
                           refine pure_ (i := 17) (N := some 111) (v := ?_) (a' := ?_) #[true, true, true, true, true, true, true, true, false, false, true, true, true, true, true, true, true, true, false, false, false, false] rfl rfl (any_of HT_.out (by kernel_rfl)) (fun _ _ _ h => h) (Or.inl ⟨by rfl, ?_⟩) ?_ ?_
                           rotate_left
                           ·intro w'
                            go_simp
                            with_reducible rfl
                           rotate_left
                           ·simp only [Act.put, List.setIfInBounds_toArray, List.set_cons_zero, List.set_cons_succ, i64_w, i32_w]
                            rfl
                           refine take_ (i := 8) (N := some 102) (v := ?_) (a' := ?_) #[true, true, true, true, true, true, true, true, true, false, true, true, true, true, true, true, true, true, false, false, false, false] rfl rfl (take_ofW HT_.out HW_.out (by kernel_rfl)) (fun _ _ _ h => h) (Or.inl ⟨by rfl, ?_⟩) hHeld ?_ ?_
                           rotate_left
                           ·rintro w' ⟨s0, s1⟩
                            go_simp
                            with_reducible rfl
                           rotate_left
                           ·simp only [Act.put, List.setIfInBounds_toArray, List.set_cons_zero, List.set_cons_succ, i64_w, i32_w]
                            rfl
                           refine pure_ (i := 9) (N := some 103) (v := ?_) (a' := ?_) #[true, true, true, true, true, true, true, true, true, true, true, true, true, true, true, true, true, true, false, false, false, false] rfl rfl (any_of HT_.out (by kernel_rfl)) (fun _ _ _ h => h) (Or.inl ⟨by rfl, ?_⟩) ?_ ?_
                           rotate_left
                           ·intro w'
                            go_simp
                            with_reducible rfl
                           rotate_left
                           ·simp only [Act.put, List.setIfInBounds_toArray, List.set_cons_zero, List.set_cons_succ, i64_w, i32_w]
                            rfl
                           refine take_ (i := 18) (N := some 112) (v := ?_) (a' := ?_) #[true, true, true, true, true, true, true, true, true, true, true, true, true, true, true, true, true, true, true, false, false, false] rfl rfl (take_ofW HT_.out HW_.out (by kernel_rfl)) (fun _ _ _ h => h) (Or.inl ⟨by rfl, ?_⟩) hHeld ?_ ?_
                           rotate_left
                           ·rintro w' ⟨s0, s1⟩
                            go_simp
                            with_reducible rfl
                           rotate_left
                           ·simp only [Act.put, List.setIfInBounds_toArray, List.set_cons_zero, List.set_cons_succ, i64_w, i32_w]
                            rfl
                           refine pure_ (i := 19) (N := some 113) (v := ?_) (a' := ?_) #[true, true, true, true, true, true, true, true, true, true, true, true, true, true, true, true, true, true, true, true, false, false] rfl rfl (any_of HT_.out (by kernel_rfl)) (fun _ _ _ h => h) (Or.inl ⟨by rfl, ?_⟩) ?_ ?_
                           rotate_left
                           ·intro w'
                            go_simp
                            with_reducible rfl
                           rotate_left
                           ·simp only [Act.put, List.setIfInBounds_toArray, List.set_cons_zero, List.set_cons_succ, i64_w, i32_w]
                            rfl
                           refine pure_ (i := 20) (N := some 114) (v := ?_) (a' := ?_) #[true, true, true, true, true, true, true, true, true, true, true, true, true, true, true, true, true, true, true, true, true, false] rfl rfl (any_of HT_.out (by kernel_rfl)) (fun _ _ _ h => h) (Or.inl ⟨by rfl, ?_⟩) ?_ ?_
                           rotate_left
                           ·intro w'
                            go_simp
                            with_reducible rfl
                           rotate_left
                           ·simp only [Act.put, List.setIfInBounds_toArray, List.set_cons_zero, List.set_cons_succ, i64_w, i32_w]
                            rfl
                           refine pure_ (i := 21) (N := some 115) (v := ?_) (a' := ?_) #[true, true, true, true, true, true, true, true, true, true, true, true, true, true, true, true, true, true, true, true, true, true] rfl rfl (any_of HT_.out (by kernel_rfl)) (fun _ _ _ h => h) (Or.inl ⟨by rfl, ?_⟩) ?_ ?_
                           rotate_left
                           ·intro w'
                            go_simp
                            with_reducible rfl
                           rotate_left
                           ·simp only [Act.put, List.setIfInBounds_toArray, List.set_cons_zero, List.set_cons_succ, i64_w, i32_w]
                            rfl
                           refine done_ (done_of HT_.out (by kernel_rfl)) ?_
                           try go_wp2_with (first | (with_reducible refine Exit.only_intro ?_) | ((with_reducible refine wp_scope_redo (rest := ?rest_) 0 ?hf_ ?_); (case hf_ => exact rfl)) | (with_reducible apply wp_goto))
                           go_meet
                           case rel => exact ⟨_, (decide ((wrap64 (x13_2 * (rd t136 (ji51)))) > (wrap64 ((wrap64 (x14_2 * 10000)) + (rd x7_2 (ji54)))))), (by first | rfl | (simp; done) | (simp only [← hji51, ← hji54] <;> (first | rfl | simp)) | (simp [*]; done)), H', ⟨by have := HK1.out; have := HK2.out; first | omega | exact Nat.le_refl _⟩, ⟨by (try simp only [hl7_1]); (try simp only [hl7_2]); (with_reducible repeat (first | apply Kd.R_alloc | apply Kd.R_drewN | apply Kd.R_drew)); exact HO_6.out⟩, ⟨by (try simp only [hl7_1]); (try simp only [hl7_2]); (with_reducible repeat (first | apply Kd.R_alloc | apply Kd.R_drewN | apply Kd.R_drew)); exact HO_7.out⟩, ⟨by (try simp only [hl7_1]); (try simp only [hl7_2]); (with_reducible repeat (first | apply Kd.R_alloc | apply Kd.R_drewN | apply Kd.R_drew)); exact HO_8.out⟩, ⟨by (try simp only [hl7_1]); (try simp only [hl7_2]); (with_reducible repeat (first | apply Kd.R_alloc | apply Kd.R_drewN | apply Kd.R_drew)); exact HO_10.out⟩, ⟨by repeat (first | (with_reducible first | exact HB.out | apply below_alloc | apply pw_below_drewN | apply below_drew1) | exact HB.out)⟩⟩
                          ·rw [if_neg c56] at H
                           exact absurd H (by simp)
                         ·rw [if_neg c55] at H
                          exact absurd H (by simp)
                        ·rw [if_neg c53] at H
                         exact absurd H (by simp)
                       ·rw [if_neg c52] at H
                        exact absurd H (by simp)
                     case rest =>
                      clear HC48
                      try clear c1
                      try clear p1
                      try clear q1
                      try clear hx1
                      try clear qi1
                      try clear c2
                      try clear p2
                      try clear c3
                      try clear c4
                      try clear c4b0
                      try clear c5
                      try clear c6
                      try clear c6b0
                      try clear c6b1
                      try clear p6
                      try clear c7
                      try clear c7b0
                      try clear c7b1
                      try clear p11
                      try clear q11
                      try clear hx11
                      try clear qi11
                      try clear c12
                      try clear c12b0
                      try clear p12
                      try clear q12
                      try clear hx12
                      try clear c13
                      try clear c13b0
                      try clear c14
                      try clear c14b0
                      try clear c14b1
                      try clear p15
                      try clear q15
                      try clear hx15
                      try clear c16
                      try clear p16
                      try clear q16
                      try clear hx16
                      try clear c19
                      try clear c19b0
                      try clear c19b1
                      try clear c20
                      try clear c20b0
                      try clear c20b1
                      try clear c34
                      try clear c35
                      try clear c35b0
                      try clear c37
                      try clear c37b0
                      try clear c38
                      try clear c38b0
                      try clear c40
                      try clear c40b0
                      try clear c41
                      try clear c41b0
                      try clear c43
                      try clear c43b0
                      try clear c44
                      try clear c44b0
                      try clear c45
                      try clear c45b0
                      try clear c45b1
                      try clear c49
                      try clear c49b0
                      try clear c52
                      try clear c52b0
                      try clear c53
                      try clear c53b0
                      try clear c55
                      try clear c55b0
                      try clear c56
                      try clear c56b0
                      try clear hx116_0
                      try clear hx123_0
                      try clear hx155_0
                      try clear hx156_0
                      try clear hx157_0
                      try clear hx158_0
                      try clear hx159_0
                      try clear hx160_0
                      try clear p1
                      try clear p11
                      try clear p116
                      try clear p12
                      try clear p123
                      try clear p15
                      try clear p155
                      try clear p156
                      try clear p157
                      try clear p158
                      try clear p159
                      try clear p160
                      try clear p2
                      try clear p6
                      try clear q1
                      try clear q11
                      try clear q116
                      try clear q12
                      try clear q123
                      try clear q15
                      try clear q155
                      try clear q156
                      try clear q157
                      try clear q158
                      try clear q159
                      try clear q160
                      obtain ⟨kq, x115_47, rfl, HA, HJ47, HO_6, HO_7, HO_8, HO_10, HB⟩ := hcut
                      cases kq with
                      | zero => exact absurd HA.out (by simp [nat_div.j2])
                      | succ kj47 =>
                       have H := HA.out
                       clear HA
                       simp only [nat_div.j2] at H
                       have HC58 := Aside0.mk H
                       clear H
                       go_upto_if 115 with (fail)
                       go_cut [13] from 94 to 126 (fun v13 wc => ∃ (kq : Nat) (x13_57 : Int), v13 = .int .i64 x13_57 ∧ Aside0 (nat_div.j3 kq y124 x7_2 t136 (t136.length : Int) x10_2 x11_1 x13_57 = some (r1, r2)) ∧ Aside0 (kq ≤ kj47) ∧ Aside0 (Kd.R (Kd.int .i64) 3 wc w.heap.size (fun k_ => (w.heap.size ≤ k_) ∧ some k_ ≠ ((.slice (some ad155) x7_2.length co32) : Value).ownBlock ∧ some k_ ≠ ((.slice (some ad157) t136.length co31) : Value).ownBlock ∧ some k_ ≠ (v140 : Value).ownBlock) (.slice Ao24 y124.length co24) y124) ∧ Aside0 (Kd.R (Kd.int .i64) 3 wc w.heap.size (fun k_ => (w.heap.size ≤ k_) ∧ some k_ ≠ ((.slice Ao24 y124.length co24) : Value).ownBlock ∧ some k_ ≠ ((.slice (some ad157) t136.length co31) : Value).ownBlock ∧ some k_ ≠ (v140 : Value).ownBlock) (.slice (some ad155) x7_2.length co32) x7_2) ∧ Aside0 (Kd.R (Kd.int .i64) 3 wc w.heap.size (fun k_ => (w.heap.size ≤ k_) ∧ some k_ ≠ ((.slice Ao24 y124.length co24) : Value).ownBlock ∧ some k_ ≠ ((.slice (some ad155) x7_2.length co32) : Value).ownBlock ∧ some k_ ≠ (v140 : Value).ownBlock) (.slice (some ad157) t136.length co31) t136) ∧ Aside0 (Kd.R (Kd.int .i64) 3 wc w.heap.size (fun k_ => (w.heap.size ≤ k_) ∧ some k_ ≠ ((.slice Ao24 y124.length co24) : Value).ownBlock ∧ some k_ ≠ ((.slice (some ad155) x7_2.length co32) : Value).ownBlock ∧ some k_ ≠ ((.slice (some ad157) t136.length co31) : Value).ownBlock) v140 x10_2) ∧ Aside0 (Below w.heap.size w wc))
                       case first =>
                        have H := HC58.out
                        clear HC58
                        by_cases c59 : x115_47 = true
                        ·subst c59
                         have H1 : (if 0 ≤ (wrap64 ((t136.length : Int) - 1)) then (if (wrap64 ((t136.length : Int) - 1)) < (t136.length : Int) then (if (wrap64 (x14_2 + (rd t136 (wrap64 ((t136.length : Int) - 1))))) < 10000 then (nat_div.l1 kj47 y124 x7_2 t136 (t136.length : Int) x10_2 x11_1 (wrap64 (x13_2 - 1)) (wrap64 (x14_2 + (rd t136 (wrap64 ((t136.length : Int) - 1)))))) else (nat_div.j3 kj47 y124 x7_2 t136 (t136.length : Int) x10_2 x11_1 (wrap64 (x13_2 - 1)))) else (none)) else (none)) = some (r1, r2) := by rw [if_pos rfl] at H; exact H
                         clear H
                         have H := H1
                         clear H1
                         obtain ⟨ji60, hji60⟩ : ∃ j_ : Int, (wrap64 ((t136.length : Int) - 1)) = j_ := ⟨_, rfl⟩
                         replace H : (if 0 ≤ (ji60) then (if (ji60) < (t136.length : Int) then (if (wrap64 (x14_2 + (rd t136 (ji60)))) < 10000 then (nat_div.l1 kj47 y124 x7_2 t136 (t136.length : Int) x10_2 x11_1 (wrap64 (x13_2 - 1)) (wrap64 (x14_2 + (rd t136 (ji60))))) else (nat_div.j3 kj47 y124 x7_2 t136 (t136.length : Int) x10_2 x11_1 (wrap64 (x13_2 - 1)))) else (none)) else (none)) = some (r1, r2) := by first | (rw [hji60] at H; exact H) | (simp only [hji60] at H ⊢; exact H)
                         have hji60w : (IntKind.i64.wrap ((t136.length : Int) - 1)) = ji60 := (i64_w _).trans hji60
                         (try have hji60ji42 : ji42 = ji60 := hji42.symm.trans hji60)
                         by_cases c61 : 0 ≤ (ji60)
                         ·rw [if_pos c61] at H
                          have c61b0 : decide (0 ≤ (ji60)) = true := decide_eq_true c61
                          clear c61
                          (first | rw [c61b0] | (simp only [i64_w, i32_w]; rw [c61b0]) | skip)
                          by_cases c62 : (ji60) < (t136.length : Int)
                          ·rw [if_pos c62] at H
                           have c62b0 : decide ((ji60) < (t136.length : Int)) = true := decide_eq_true c62
                           clear c62
                           by_cases c63 : (wrap64 (x14_2 + (rd t136 (ji60)))) < 10000
                           ·rw [if_pos c63] at H
                            have c63b0 : decide ((wrap64 (x14_2 + (rd t136 (ji60)))) < 10000) = true := decide_eq_true c63
                            have c63b0w : decide ((IntKind.i64.wrap (x14_2 + (rd t136 (ji60)))) < 10000) = true := by simp only [i64_w]; exact c63b0
                            clear c63
                            have H' := Aside0.mk H
                            clear H
                            have p161 : 0 ≤ ((ji60) : Int) := of_decide_eq_true (by first | (with_reducible assumption) | assumption)
                            have q161 : (ji60) < (t136.length : Int) := of_decide_eq_true (by first | (with_reducible assumption) | assumption)
                            obtain ⟨ad161, e161, hx161_0⟩ := Kd.at_int (Kd.R_reads' HO_8.out).2.2 (ji60) p161 q161
                            obtain rfl : ad157 = ad161 := (by injection e161)
                            replace p161 := eq_true p161
                            replace q161 := eq_true q161
                            go_wp2_with (first | (with_reducible refine Exit.only_intro ?_) | ((with_reducible refine wp_scope_redo (rest := ?rest_) 0 ?hf_ ?_); (case hf_ => exact rfl)) | (with_reducible apply wp_goto))
                            (try simp only [← hl7_2])
                            (try simp only [← hji60ji42])
                            go_roundg kj47
                            case measure => have := HK1.out; have := HK2.out; have := HJ47.out; omega
                            case rel => exact ⟨(x7_2), (x10_2), (wrap64 (x13_2 - 1)), (wrap64 (x14_2 + (rd t136 (ji60)))), (by first | rfl | (simp only [hji60ji42]; done) | (simp; done) | (simp [*]; done)), (by first | rfl | (simp only [hji60ji42]; done) | (simp; done) | (simp only [← hji60] <;> (first | rfl | simp)) | (simp [*]; done)), H', ⟨by have := HK1.out; have := HK2.out; have := HJ47.out; omega⟩, ⟨by (try simp only [hl7_1]); (try simp only [hl7_2]); (with_reducible repeat (first | apply Kd.R_alloc | apply Kd.R_drewN | apply Kd.R_drew)); exact HO_6.out⟩, ⟨by (try simp only [hl7_1]); (try simp only [hl7_2]); (with_reducible repeat (first | apply Kd.R_alloc | apply Kd.R_drewN | apply Kd.R_drew)); exact HO_7.out⟩, ⟨by (try simp only [hl7_1]); (try simp only [hl7_2]); (with_reducible repeat (first | apply Kd.R_alloc | apply Kd.R_drewN | apply Kd.R_drew)); exact HO_8.out⟩, ⟨by (try simp only [hl7_1]); (try simp only [hl7_2]); (with_reducible repeat (first | apply Kd.R_alloc | apply Kd.R_drewN | apply Kd.R_drew)); exact HO_10.out⟩, ⟨by repeat (first | (with_reducible first | exact HB.out | apply below_alloc | apply pw_below_drewN | apply below_drew1) | exact HB.out)⟩⟩
                           ·rw [if_neg c63] at H
                            have c63b0 : decide ((wrap64 (x14_2 + (rd t136 (ji60)))) < 10000) = false := decide_eq_false c63
                            have c63b0w : decide ((IntKind.i64.wrap (x14_2 + (rd t136 (ji60)))) < 10000) = false := by simp only [i64_w]; exact c63b0
                            clear c63
                            have H' := Aside0.mk H
                            clear H
                            have p161 : 0 ≤ ((ji60) : Int) := of_decide_eq_true (by first | (with_reducible assumption) | assumption)
                            have q161 : (ji60) < (t136.length : Int) := of_decide_eq_true (by first | (with_reducible assumption) | assumption)
                            obtain ⟨ad161, e161, hx161_0⟩ := Kd.at_int (Kd.R_reads' HO_8.out).2.2 (ji60) p161 q161
                            obtain rfl : ad157 = ad161 := (by injection e161)
                            replace p161 := eq_true p161
                            replace q161 := eq_true q161
                            go_wp2_with (first | (with_reducible refine Exit.only_intro ?_) | ((with_reducible refine wp_scope_redo (rest := ?rest_) 0 ?hf_ ?_); (case hf_ => exact rfl)) | (with_reducible apply wp_goto))
                            (try simp only [← hji60ji42])
                            go_meet
                            case rel => exact ⟨_, (wrap64 (x13_2 - 1)), (by first | rfl | (simp only [hji60ji42]; done) | (simp; done) | (simp [*]; done)), H', ⟨by have := HK1.out; have := HK2.out; have := HJ47.out; first | omega | exact Nat.le_refl _⟩, ⟨by (try simp only [hl7_1]); (try simp only [hl7_2]); (with_reducible repeat (first | apply Kd.R_alloc | apply Kd.R_drewN | apply Kd.R_drew)); exact HO_6.out⟩, ⟨by (try simp only [hl7_1]); (try simp only [hl7_2]); (with_reducible repeat (first | apply Kd.R_alloc | apply Kd.R_drewN | apply Kd.R_drew)); exact HO_7.out⟩, ⟨by (try simp only [hl7_1]); (try simp only [hl7_2]); (with_reducible repeat (first | apply Kd.R_alloc | apply Kd.R_drewN | apply Kd.R_drew)); exact HO_8.out⟩, ⟨by (try simp only [hl7_1]); (try simp only [hl7_2]); (with_reducible repeat (first | apply Kd.R_alloc | apply Kd.R_drewN | apply Kd.R_drew)); exact HO_10.out⟩, ⟨by repeat (first | (with_reducible first | exact HB.out | apply below_alloc | apply pw_below_drewN | apply below_drew1) | exact HB.out)⟩⟩
                          ·rw [if_neg c62] at H
                           exact absurd H (by simp)
                         ·rw [if_neg c61] at H
                          exact absurd H (by simp)
                        ·replace c59 := Bool.eq_false_iff.mpr c59
                         subst c59
                         have H1 : (nat_div.j3 kj47 y124 x7_2 t136 (t136.length : Int) x10_2 x11_1 x13_2) = some (r1, r2) := by rw [if_neg (show ¬ (false = true) by decide)] at H; exact H
                         clear H
                         have H := H1
                         clear H1
                         have H' := Aside0.mk H
                         clear H
                         go_wp2_with (first | (with_reducible refine Exit.only_intro ?_) | ((with_reducible refine wp_scope_redo (rest := ?rest_) 0 ?hf_ ?_); (case hf_ => exact rfl)) | (with_reducible apply wp_goto))
                         go_meet
                         case rel => exact ⟨_, (x13_2), (by first | rfl | (simp; done) | (simp [*]; done)), H', ⟨by have := HK1.out; have := HK2.out; have := HJ47.out; first | omega | exact Nat.le_refl _⟩, ⟨by (try simp only [hl7_1]); (try simp only [hl7_2]); (with_reducible repeat (first | apply Kd.R_alloc | apply Kd.R_drewN | apply Kd.R_drew)); exact HO_6.out⟩, ⟨by (try simp only [hl7_1]); (try simp only [hl7_2]); (with_reducible repeat (first | apply Kd.R_alloc | apply Kd.R_drewN | apply Kd.R_drew)); exact HO_7.out⟩, ⟨by (try simp only [hl7_1]); (try simp only [hl7_2]); (with_reducible repeat (first | apply Kd.R_alloc | apply Kd.R_drewN | apply Kd.R_drew)); exact HO_8.out⟩, ⟨by (try simp only [hl7_1]); (try simp only [hl7_2]); (with_reducible repeat (first | apply Kd.R_alloc | apply Kd.R_drewN | apply Kd.R_drew)); exact HO_10.out⟩, ⟨by repeat (first | (with_reducible first | exact HB.out | apply below_alloc | apply pw_below_drewN | apply below_drew1) | exact HB.out)⟩⟩
                       case rest =>
                        clear HC58
                        try clear c1
                        try clear p1
                        try clear q1
                        try clear hx1
                        try clear qi1
                        try clear c2
                        try clear p2
                        try clear c3
                        try clear c4
                        try clear c4b0
                        try clear c5
                        try clear c6
                        try clear c6b0
                        try clear c6b1
                        try clear p6
                        try clear c7
                        try clear c7b0
                        try clear c7b1
                        try clear p11
                        try clear q11
                        try clear hx11
                        try clear qi11
                        try clear c12
                        try clear c12b0
                        try clear p12
                        try clear q12
                        try clear hx12
                        try clear c13
                        try clear c13b0
                        try clear c14
                        try clear c14b0
                        try clear c14b1
                        try clear p15
                        try clear q15
                        try clear hx15
                        try clear c16
                        try clear p16
                        try clear q16
                        try clear hx16
                        try clear c19
                        try clear c19b0
                        try clear c19b1
                        try clear c20
                        try clear c20b0
                        try clear c20b1
                        try clear c34
                        try clear c35
                        try clear c35b0
                        try clear c37
                        try clear c37b0
                        try clear c38
                        try clear c38b0
                        try clear c40
                        try clear c40b0
                        try clear c41
                        try clear c41b0
                        try clear c43
                        try clear c43b0
                        try clear c44
                        try clear c44b0
                        try clear c45
                        try clear c45b0
                        try clear c45b1
                        try clear c49
                        try clear c49b0
                        try clear c52
                        try clear c52b0
                        try clear c53
                        try clear c53b0
                        try clear c55
                        try clear c55b0
                        try clear c56
                        try clear c56b0
                        try clear c59
                        try clear c61
                        try clear c61b0
                        try clear c62
                        try clear c62b0
                        try clear c63
                        try clear c63b0
                        try clear hx116_0
                        try clear hx123_0
                        try clear hx155_0
                        try clear hx156_0
                        try clear hx157_0
                        try clear hx158_0
                        try clear hx159_0
                        try clear hx160_0
                        try clear hx161_0
                        try clear p1
                        try clear p11
                        try clear p116
                        try clear p12
                        try clear p123
                        try clear p15
                        try clear p155
                        try clear p156
                        try clear p157
                        try clear p158
                        try clear p159
                        try clear p16
                        try clear p160
                        try clear p161
                        try clear p2
                        try clear p6
                        try clear q1
                        try clear q11
                        try clear q116
                        try clear q12
                        try clear q123
                        try clear q15
                        try clear q155
                        try clear q156
                        try clear q157
                        try clear q158
                        try clear q159
                        try clear q16
                        try clear q160
                        try clear q161
                        obtain ⟨kq, x13_57, rfl, HA, HJ57, HO_6, HO_7, HO_8, HO_10, HB⟩ := hcut
                        cases kq with
                        | zero => exact absurd HA.out (by simp [nat_div.j3])
                        | succ kj57 =>
                         have H := HA.out
                         clear HA
                         simp only [nat_div.j3] at H
                         replace H := Option.bind_eq_some_iff.mp H
                         obtain ⟨⟨t162, t163⟩, A640, H⟩ := H
                         replace H : (if t162 < 0 then ((nat_give.f kj57 t163 t136 x11_1).bind fun t164 => (if 0 ≤ x11_1 then (if x11_1 < (x10_2.length : Int) then (nat_div.l0 kj57 y124 t164 t136 (t136.length : Int) (x10_2.set (x11_1 : Int).toNat (wrap64 (x13_57 - 1))) (wrap64 (x11_1 - 1))) else (none)) else (none))) else (if 0 ≤ x11_1 then (if x11_1 < (x10_2.length : Int) then (nat_div.l0 kj57 y124 t163 t136 (t136.length : Int) (x10_2.set (x11_1 : Int).toNat x13_57) (wrap64 (x11_1 - 1))) else (none)) else (none))) = some (r1, r2) := H
                         have A64 := Aside0.mk A640
                         clear A640
                         by_cases c65 : t162 < 0
                         ·rw [if_pos c65] at H
                          have c65b0 : decide (t162 < 0) = true := decide_eq_true c65
                          clear c65
                          replace H := Option.bind_eq_some_iff.mp H
                          obtain ⟨t164, A660, H⟩ := H
                          replace H : (if 0 ≤ x11_1 then (if x11_1 < (x10_2.length : Int) then (nat_div.l0 kj57 y124 t164 t136 (t136.length : Int) (x10_2.set (x11_1 : Int).toNat (wrap64 (x13_57 - 1))) (wrap64 (x11_1 - 1))) else (none)) else (none)) = some (r1, r2) := H
                          have A66 := Aside0.mk A660
                          clear A660
                          by_cases c67 : 0 ≤ x11_1
                          ·rw [if_pos c67] at H
                           have c67b0 : decide (0 ≤ x11_1) = true := decide_eq_true c67
                           clear c67
                           by_cases c68 : x11_1 < (x10_2.length : Int)
                           ·rw [if_pos c68] at H
                            have c68b0 : decide (x11_1 < (x10_2.length : Int)) = true := decide_eq_true c68
                            clear c68
                            obtain ⟨y165, hy165⟩ : ∃ y_ : List Int, y_ = (x10_2.set (x11_1 : Int).toNat (wrap64 (x13_57 - 1))) := ⟨_, rfl⟩
                            replace H : (nat_div.l0 kj57 y124 t164 t136 (t136.length : Int) y165 (wrap64 (x11_1 - 1))) = some (r1, r2) := by first | (rw [hy165]; with_reducible exact H) | (have H2_ := (Option.bind_some _ _).symm.trans H; rw [hy165]; with_reducible exact H2_) | (have H2_ := (Option.bind_some _ _).symm.trans H; with_reducible exact H2_) | with_reducible exact H | (rw [hy165]; exact H) | exact H
                            have Ny165 := Aside0.mk hy165
                            clear hy165
                            have H' := Aside0.mk H
                            clear H
                            go_wp2_with (first | (first | (with_reducible refine Exit.only_intro ?_) | ((with_reducible refine wp_scope_redo (rest := ?rest_) 0 ?hf_ ?_); (case hf_ => exact rfl)) | (with_reducible apply wp_goto)) | ((with_reducible refine gate_callee (f := 51) rfl ?_); refine goesL_ (some 131) rfl rfl Tryd.func51 (by kernel_rfl) rfl #[.slice (some ad155) x7_2.length co32, .slice (some ad157) t136.length co31, .int .i64 x11_1, .int .i64 x13_57] rfl (by (try simp only [List.map_toArray, List.map_cons, List.map_nil]); first | done | rfl | (simp only [List.length_drop, List.length_take]; rfl)) ?_; (with_reducible refine (nat_take.calls kj57 (fun k_ => some k_ = (.slice (some ad155) x7_2.length co32 : Value).ownBlock) (.slice (some ad155) x7_2.length co32) x7_2 _ _ t136 x11_1 x13_57 t162 t163 w _ ?side1 ?side2 ?side3 ?side4 A64.out).mono ?_); (case side1 => repeat (first | (with_reducible first | exact HB.out | apply below_alloc | apply pw_below_drewN | apply below_drew1) | exact HB.out)); (case side2 => exact Kd.R_tight rfl HO_7.out); (case side3 => exact Kd.C_kept_own (HO_8.out) (fun k_ hk_ hs_ => (hk_.2.2.1) hs_)); (case side4 => exact (Kd.R_reads' HO_8.out).2.1); rintro e w70 ⟨rfl, hy0, hb, hkp⟩; refine ⟨_, rfl, ?_⟩; have n0_ := Aside0.mk (Kd.R_mono (ok' := fun k_ => (w.heap.size ≤ k_) ∧ some k_ ≠ (.slice (some ad155) x7_2.length co32 : Value).ownBlock ∧ some k_ ≠ (.slice (some ad157) t136.length co31 : Value).ownBlock ∧ some k_ ≠ (v140 : Value).ownBlock) (Kd.R_keptB (HO_6.out) hkp (fun k_ hk_ hs_ => (hk_.2.1) hs_)) (fun k_ hk_ => ⟨hk_.1.1, hk_.1.2.1, hk_.1.2.2.1, hk_.1.2.2.2⟩)); have n1_ := Aside0.mk (Kd.R_reok rfl hy0 (fun k_ e_ => HO_7.out.1 k_ e_)); have n2_ := Aside0.mk (Kd.R_mono (ok' := fun k_ => (w.heap.size ≤ k_) ∧ some k_ ≠ (.slice Ao24 y124.length co24 : Value).ownBlock ∧ some k_ ≠ (.slice (some ad155) x7_2.length co32 : Value).ownBlock ∧ some k_ ≠ (v140 : Value).ownBlock) (Kd.R_keptB (HO_8.out) hkp (fun k_ hk_ hs_ => (hk_.2.2.1) hs_)) (fun k_ hk_ => ⟨hk_.1.1, hk_.1.2.1, hk_.1.2.2.1, hk_.1.2.2.2⟩)); have n3_ := Aside0.mk (Kd.R_mono (ok' := fun k_ => (w.heap.size ≤ k_) ∧ some k_ ≠ (.slice Ao24 y124.length co24 : Value).ownBlock ∧ some k_ ≠ (.slice (some ad155) x7_2.length co32 : Value).ownBlock ∧ some k_ ≠ (.slice (some ad157) t136.length co31 : Value).ownBlock) (Kd.R_keptB (HO_10.out) hkp (fun k_ hk_ hs_ => (hk_.2.2.1) hs_)) (fun k_ hk_ => ⟨hk_.1.1, hk_.1.2.1, hk_.1.2.2.1, hk_.1.2.2.2⟩)); have n4_ := Aside0.mk (hb); clear HO_6; clear HO_7; clear HO_8; clear HO_10; clear HB; have HO_6 := n0_; have HO_7 := n1_; have HO_8 := n2_; have HO_10 := n3_; have HB := n4_; clear n0_ n1_ n2_ n3_ n4_; (try clear hb); (try clear hkp); (try clear hy0)) | ((with_reducible refine gate_callee (f := 52) rfl ?_); refine goesL_ (some 138) rfl rfl Tryd.func52 (by kernel_rfl) rfl #[.slice (some ad155) x7_2.length co32, .slice (some ad157) t136.length co31, .int .i64 x11_1] rfl (by (try simp only [List.map_toArray, List.map_cons, List.map_nil]); first | done | rfl | (simp only [List.length_drop, List.length_take]; rfl)) ?_; (with_reducible refine (nat_give.calls kj57 (fun k_ => some k_ = (.slice (some ad155) x7_2.length co32 : Value).ownBlock) (.slice (some ad155) x7_2.length co32) t163 _ _ t136 x11_1 t164 w _ ?side1 ?side2 ?side3 ?side4 A66.out).mono ?_); (case side1 => repeat (first | (with_reducible first | exact HB.out | apply below_alloc | apply pw_below_drewN | apply below_drew1) | exact HB.out)); (case side2 => exact Kd.R_tight rfl HO_7.out); (case side3 => exact Kd.C_kept_own (HO_8.out) (fun k_ hk_ hs_ => (hk_.2.2.1) hs_)); (case side4 => exact (Kd.R_reads' HO_8.out).2.1); rintro e w71 ⟨rfl, hy0, hb, hkp⟩; refine ⟨_, rfl, ?_⟩; have n0_ := Aside0.mk (Kd.R_mono (ok' := fun k_ => (w.heap.size ≤ k_) ∧ some k_ ≠ (.slice (some ad155) x7_2.length co32 : Value).ownBlock ∧ some k_ ≠ (.slice (some ad157) t136.length co31 : Value).ownBlock ∧ some k_ ≠ (v140 : Value).ownBlock) (Kd.R_keptB (HO_6.out) hkp (fun k_ hk_ hs_ => (hk_.2.1) hs_)) (fun k_ hk_ => ⟨hk_.1.1, hk_.1.2.1, hk_.1.2.2.1, hk_.1.2.2.2⟩)); have n1_ := Aside0.mk (Kd.R_reok rfl hy0 (fun k_ e_ => HO_7.out.1 k_ e_)); have n2_ := Aside0.mk (Kd.R_mono (ok' := fun k_ => (w.heap.size ≤ k_) ∧ some k_ ≠ (.slice Ao24 y124.length co24 : Value).ownBlock ∧ some k_ ≠ (.slice (some ad155) x7_2.length co32 : Value).ownBlock ∧ some k_ ≠ (v140 : Value).ownBlock) (Kd.R_keptB (HO_8.out) hkp (fun k_ hk_ hs_ => (hk_.2.2.1) hs_)) (fun k_ hk_ => ⟨hk_.1.1, hk_.1.2.1, hk_.1.2.2.1, hk_.1.2.2.2⟩)); have n3_ := Aside0.mk (Kd.R_mono (ok' := fun k_ => (w.heap.size ≤ k_) ∧ some k_ ≠ (.slice Ao24 y124.length co24 : Value).ownBlock ∧ some k_ ≠ (.slice (some ad155) x7_2.length co32 : Value).ownBlock ∧ some k_ ≠ (.slice (some ad157) t136.length co31 : Value).ownBlock) (Kd.R_keptB (HO_10.out) hkp (fun k_ hk_ hs_ => (hk_.2.2.1) hs_)) (fun k_ hk_ => ⟨hk_.1.1, hk_.1.2.1, hk_.1.2.2.1, hk_.1.2.2.2⟩)); have n4_ := Aside0.mk (hb); clear HO_6; clear HO_7; clear HO_8; clear HO_10; clear HB; have HO_6 := n0_; have HO_7 := n1_; have HO_8 := n2_; have HO_10 := n3_; have HB := n4_; clear n0_ n1_ n2_ n3_ n4_; (try clear hb); (try clear hkp); (try clear hy0); have p69 : 0 ≤ (x11_1 : Int) := of_decide_eq_true (by first | (with_reducible assumption) | assumption); have q69 : (x11_1 : Int) < ((x10_2.length : Int) : Int) := of_decide_eq_true (by first | (with_reducible assumption) | assumption); obtain ⟨go69, co69, eo69, gb69, gl69, cl69, HG69⟩ := Kd.R_form HO_10.out (by omega); (first | cases eo69 | (injection eo69 with ea_ en_ ec_; (first | subst ea_ | (injection ea_ with ea_; subst ea_)); subst ec_; clear en_)); have GB69 := Aside0.mk gb69; have GG69 := Aside0.mk HG69; clear gb69 gl69 HG69; obtain ⟨hx69_0, hf69_0⟩ := Kd.R_celln 0 HO_10.out (x11_1 : Int) p69 q69; replace p69 := eq_true p69; replace q69 := eq_true q69; obtain ⟨hy72_, hz72_⟩ := Kd.R_celln 0 HO_10.out (x11_1 : Int) (of_decide_eq_true (by first | (with_reducible assumption) | assumption)) (of_decide_eq_true (by first | (with_reducible assumption) | assumption)); have HP72 := Kd.R_putg HO_10.out (x11_1 : Int) (wrap64 (x13_57 - 1))) | ((with_reducible refine gate_store (t := 3) (p := 142) rfl ?_); refine store_event (t := 3) (p := 142) (v := ?vo_w73) (w1 := (w71.setCell ⟨go69, (x11_1 : Int).toNat, none⟩ (.int .i64 (wrap64 (x13_57 - 1))))) ?hg ?ho ?hn ?hr ?_; (case ho => rfl); (case hg => rfl); (case hn => rfl); (case hr => first | (go_simp; done) | (go_simp; rfl)); intro w73 hw; have hg : w71.grownBy w73 (some go69) := (by rw [hw]; exact HP72.2); have hp_ : Kd.R (Kd.int .i64) 3 w73 w.heap.size (fun k_ => (w.heap.size ≤ k_) ∧ some k_ ≠ (.slice Ao24 y124.length co24 : Value).ownBlock ∧ some k_ ≠ (.slice (some ad155) x7_2.length co32 : Value).ownBlock ∧ some k_ ≠ (.slice (some ad157) t136.length co31 : Value).ownBlock) (.slice (some ⟨go69, 0, none⟩) x10_2.length co69) y165 := (by rw [hw, Ny165.out]; exact HP72.1); clear HP72; have n0_ := Aside0.mk (Kd.R_after (v := (.slice (some ⟨go69, 0, none⟩) x10_2.length co69)) (v1 := (.slice (some ⟨go69, 0, none⟩) x10_2.length co69)) (ok := (fun k_ => (w.heap.size ≤ k_) ∧ some k_ ≠ (.slice (some ad155) x7_2.length co32 : Value).ownBlock ∧ some k_ ≠ (.slice (some ad157) t136.length co31 : Value).ownBlock)) (by (with_reducible repeat (first | apply Kd.R_alloc | apply Kd.R_drewN | apply Kd.R_drew)); exact Kd.R_mono HO_6.out (fun _ hk => ⟨⟨hk.1, ⟨hk.2.1, hk.2.2.1⟩⟩, hk.2.2.2⟩)) hg (.inl rfl)); have n1_ := Aside0.mk (Kd.R_after (v := (.slice (some ⟨go69, 0, none⟩) x10_2.length co69)) (v1 := (.slice (some ⟨go69, 0, none⟩) x10_2.length co69)) (ok := (fun k_ => (w.heap.size ≤ k_) ∧ some k_ ≠ (.slice Ao24 y124.length co24 : Value).ownBlock ∧ some k_ ≠ (.slice (some ad157) t136.length co31 : Value).ownBlock)) (by (with_reducible repeat (first | apply Kd.R_alloc | apply Kd.R_drewN | apply Kd.R_drew)); exact Kd.R_mono HO_7.out (fun _ hk => ⟨⟨hk.1, ⟨hk.2.1, hk.2.2.1⟩⟩, hk.2.2.2⟩)) hg (.inl rfl)); have n2_ := Aside0.mk (Kd.R_after (v := (.slice (some ⟨go69, 0, none⟩) x10_2.length co69)) (v1 := (.slice (some ⟨go69, 0, none⟩) x10_2.length co69)) (ok := (fun k_ => (w.heap.size ≤ k_) ∧ some k_ ≠ (.slice Ao24 y124.length co24 : Value).ownBlock ∧ some k_ ≠ (.slice (some ad155) x7_2.length co32 : Value).ownBlock)) (by (with_reducible repeat (first | apply Kd.R_alloc | apply Kd.R_drewN | apply Kd.R_drew)); exact Kd.R_mono HO_8.out (fun _ hk => ⟨⟨hk.1, ⟨hk.2.1, hk.2.2.1⟩⟩, hk.2.2.2⟩)) hg (.inl rfl)); have n3_ := Aside0.mk (hp_); have n4_ := Aside0.mk ((by rw [hw]; exact below_set (HB.out) GB69.out : Below w.heap.size w w73)); clear HO_6; clear HO_7; clear HO_8; clear HO_10; clear HB; have HO_6 := n0_; have HO_7 := n1_; have HO_8 := n2_; have HO_10 := n3_; have HB := n4_; clear n0_ n1_ n2_ n3_ n4_; clear hg hw hp_))
                            (try simp only [← hl7_1, ← hl7_2])
                            go_roundg kj57
                            case measure => have := HK1.out; have := HK2.out; have := HJ47.out; have := HJ57.out; omega
                            case rel => exact ⟨(t164), (y165), (wrap64 (x11_1 - 1)), (by first | rfl | (simp; done) | (simp [*]; done)), H', ⟨by have := HK1.out; have := HK2.out; have := HJ47.out; have := HJ57.out; omega⟩, ⟨by (try simp only [hl7_1]); (try simp only [hl7_2]); (with_reducible repeat (first | apply Kd.R_alloc | apply Kd.R_drewN | apply Kd.R_drew)); exact Kd.R_mono HO_6.out (fun _ hk => ⟨hk.1.1, ⟨hk.1.2.1, ⟨hk.1.2.2, hk.2⟩⟩⟩)⟩, ⟨by (try simp only [hl7_1]); (try simp only [hl7_2]); (with_reducible repeat (first | apply Kd.R_alloc | apply Kd.R_drewN | apply Kd.R_drew)); exact Kd.R_mono HO_7.out (fun _ hk => ⟨hk.1.1, ⟨hk.1.2.1, ⟨hk.1.2.2, hk.2⟩⟩⟩)⟩, ⟨by (try simp only [hl7_1]); (try simp only [hl7_2]); (with_reducible repeat (first | apply Kd.R_alloc | apply Kd.R_drewN | apply Kd.R_drew)); exact Kd.R_mono HO_8.out (fun _ hk => ⟨hk.1.1, ⟨hk.1.2.1, ⟨hk.1.2.2, hk.2⟩⟩⟩)⟩, ⟨by (try simp only [hl7_1]); (try simp only [hl7_2]); (with_reducible repeat (first | apply Kd.R_alloc | apply Kd.R_drewN | apply Kd.R_drew)); exact HO_10.out⟩, ⟨by repeat (first | (with_reducible first | exact HB.out | apply below_alloc | apply pw_below_drewN | apply below_drew1) | exact HB.out)⟩⟩
                           ·rw [if_neg c68] at H
                            exact absurd H (by simp)
                          ·rw [if_neg c67] at H
                           exact absurd H (by simp)
                         ·rw [if_neg c65] at H
                          have c65b0 : decide (t162 < 0) = false := decide_eq_false c65
                          clear c65
                          by_cases c74 : 0 ≤ x11_1
                          ·rw [if_pos c74] at H
                           have c74b0 : decide (0 ≤ x11_1) = true := decide_eq_true c74
                           clear c74
                           by_cases c75 : x11_1 < (x10_2.length : Int)
                           ·rw [if_pos c75] at H
                            have c75b0 : decide (x11_1 < (x10_2.length : Int)) = true := decide_eq_true c75
                            clear c75
                            obtain ⟨y166, hy166⟩ : ∃ y_ : List Int, y_ = (x10_2.set (x11_1 : Int).toNat x13_57) := ⟨_, rfl⟩
                            replace H : (nat_div.l0 kj57 y124 t163 t136 (t136.length : Int) y166 (wrap64 (x11_1 - 1))) = some (r1, r2) := by first | (rw [hy166]; with_reducible exact H) | (have H2_ := (Option.bind_some _ _).symm.trans H; rw [hy166]; with_reducible exact H2_) | (have H2_ := (Option.bind_some _ _).symm.trans H; with_reducible exact H2_) | with_reducible exact H | (rw [hy166]; exact H) | exact H
                            have Ny166 := Aside0.mk hy166
                            clear hy166
                            have H' := Aside0.mk H
                            clear H
                            go_wp2_with (first | (first | (with_reducible refine Exit.only_intro ?_) | ((with_reducible refine wp_scope_redo (rest := ?rest_) 0 ?hf_ ?_); (case hf_ => exact rfl)) | (with_reducible apply wp_goto)) | ((with_reducible refine gate_callee (f := 51) rfl ?_); refine goesL_ (some 131) rfl rfl Tryd.func51 (by kernel_rfl) rfl #[.slice (some ad155) x7_2.length co32, .slice (some ad157) t136.length co31, .int .i64 x11_1, .int .i64 x13_57] rfl (by (try simp only [List.map_toArray, List.map_cons, List.map_nil]); first | done | rfl | (simp only [List.length_drop, List.length_take]; rfl)) ?_; (with_reducible refine (nat_take.calls kj57 (fun k_ => some k_ = (.slice (some ad155) x7_2.length co32 : Value).ownBlock) (.slice (some ad155) x7_2.length co32) x7_2 _ _ t136 x11_1 x13_57 t162 t163 w _ ?side1 ?side2 ?side3 ?side4 A64.out).mono ?_); (case side1 => repeat (first | (with_reducible first | exact HB.out | apply below_alloc | apply pw_below_drewN | apply below_drew1) | exact HB.out)); (case side2 => exact Kd.R_tight rfl HO_7.out); (case side3 => exact Kd.C_kept_own (HO_8.out) (fun k_ hk_ hs_ => (hk_.2.2.1) hs_)); (case side4 => exact (Kd.R_reads' HO_8.out).2.1); rintro e w77 ⟨rfl, hy0, hb, hkp⟩; refine ⟨_, rfl, ?_⟩; have n0_ := Aside0.mk (Kd.R_mono (ok' := fun k_ => (w.heap.size ≤ k_) ∧ some k_ ≠ (.slice (some ad155) x7_2.length co32 : Value).ownBlock ∧ some k_ ≠ (.slice (some ad157) t136.length co31 : Value).ownBlock ∧ some k_ ≠ (v140 : Value).ownBlock) (Kd.R_keptB (HO_6.out) hkp (fun k_ hk_ hs_ => (hk_.2.1) hs_)) (fun k_ hk_ => ⟨hk_.1.1, hk_.1.2.1, hk_.1.2.2.1, hk_.1.2.2.2⟩)); have n1_ := Aside0.mk (Kd.R_reok rfl hy0 (fun k_ e_ => HO_7.out.1 k_ e_)); have n2_ := Aside0.mk (Kd.R_mono (ok' := fun k_ => (w.heap.size ≤ k_) ∧ some k_ ≠ (.slice Ao24 y124.length co24 : Value).ownBlock ∧ some k_ ≠ (.slice (some ad155) x7_2.length co32 : Value).ownBlock ∧ some k_ ≠ (v140 : Value).ownBlock) (Kd.R_keptB (HO_8.out) hkp (fun k_ hk_ hs_ => (hk_.2.2.1) hs_)) (fun k_ hk_ => ⟨hk_.1.1, hk_.1.2.1, hk_.1.2.2.1, hk_.1.2.2.2⟩)); have n3_ := Aside0.mk (Kd.R_mono (ok' := fun k_ => (w.heap.size ≤ k_) ∧ some k_ ≠ (.slice Ao24 y124.length co24 : Value).ownBlock ∧ some k_ ≠ (.slice (some ad155) x7_2.length co32 : Value).ownBlock ∧ some k_ ≠ (.slice (some ad157) t136.length co31 : Value).ownBlock) (Kd.R_keptB (HO_10.out) hkp (fun k_ hk_ hs_ => (hk_.2.2.1) hs_)) (fun k_ hk_ => ⟨hk_.1.1, hk_.1.2.1, hk_.1.2.2.1, hk_.1.2.2.2⟩)); have n4_ := Aside0.mk (hb); clear HO_6; clear HO_7; clear HO_8; clear HO_10; clear HB; have HO_6 := n0_; have HO_7 := n1_; have HO_8 := n2_; have HO_10 := n3_; have HB := n4_; clear n0_ n1_ n2_ n3_ n4_; (try clear hb); (try clear hkp); (try clear hy0); have p76 : 0 ≤ (x11_1 : Int) := of_decide_eq_true (by first | (with_reducible assumption) | assumption); have q76 : (x11_1 : Int) < ((x10_2.length : Int) : Int) := of_decide_eq_true (by first | (with_reducible assumption) | assumption); obtain ⟨go76, co76, eo76, gb76, gl76, cl76, HG76⟩ := Kd.R_form HO_10.out (by omega); (first | cases eo76 | (injection eo76 with ea_ en_ ec_; (first | subst ea_ | (injection ea_ with ea_; subst ea_)); subst ec_; clear en_)); have GB76 := Aside0.mk gb76; have GG76 := Aside0.mk HG76; clear gb76 gl76 HG76; obtain ⟨hx76_0, hf76_0⟩ := Kd.R_celln 0 HO_10.out (x11_1 : Int) p76 q76; replace p76 := eq_true p76; replace q76 := eq_true q76; obtain ⟨hy78_, hz78_⟩ := Kd.R_celln 0 HO_10.out (x11_1 : Int) (of_decide_eq_true (by first | (with_reducible assumption) | assumption)) (of_decide_eq_true (by first | (with_reducible assumption) | assumption)); have HP78 := Kd.R_putg HO_10.out (x11_1 : Int) x13_57) | ((with_reducible refine gate_store (t := 3) (p := 142) rfl ?_); refine store_event (t := 3) (p := 142) (v := ?vo_w79) (w1 := (w77.setCell ⟨go76, (x11_1 : Int).toNat, none⟩ (.int .i64 x13_57))) ?hg ?ho ?hn ?hr ?_; (case ho => rfl); (case hg => rfl); (case hn => rfl); (case hr => first | (go_simp; done) | (go_simp; rfl)); intro w79 hw; have hg : w77.grownBy w79 (some go76) := (by rw [hw]; exact HP78.2); have hp_ : Kd.R (Kd.int .i64) 3 w79 w.heap.size (fun k_ => (w.heap.size ≤ k_) ∧ some k_ ≠ (.slice Ao24 y124.length co24 : Value).ownBlock ∧ some k_ ≠ (.slice (some ad155) x7_2.length co32 : Value).ownBlock ∧ some k_ ≠ (.slice (some ad157) t136.length co31 : Value).ownBlock) (.slice (some ⟨go76, 0, none⟩) x10_2.length co76) y166 := (by rw [hw, Ny166.out]; exact HP78.1); clear HP78; have n0_ := Aside0.mk (Kd.R_after (v := (.slice (some ⟨go76, 0, none⟩) x10_2.length co76)) (v1 := (.slice (some ⟨go76, 0, none⟩) x10_2.length co76)) (ok := (fun k_ => (w.heap.size ≤ k_) ∧ some k_ ≠ (.slice (some ad155) x7_2.length co32 : Value).ownBlock ∧ some k_ ≠ (.slice (some ad157) t136.length co31 : Value).ownBlock)) (by (with_reducible repeat (first | apply Kd.R_alloc | apply Kd.R_drewN | apply Kd.R_drew)); exact Kd.R_mono HO_6.out (fun _ hk => ⟨⟨hk.1, ⟨hk.2.1, hk.2.2.1⟩⟩, hk.2.2.2⟩)) hg (.inl rfl)); have n1_ := Aside0.mk (Kd.R_after (v := (.slice (some ⟨go76, 0, none⟩) x10_2.length co76)) (v1 := (.slice (some ⟨go76, 0, none⟩) x10_2.length co76)) (ok := (fun k_ => (w.heap.size ≤ k_) ∧ some k_ ≠ (.slice Ao24 y124.length co24 : Value).ownBlock ∧ some k_ ≠ (.slice (some ad157) t136.length co31 : Value).ownBlock)) (by (with_reducible repeat (first | apply Kd.R_alloc | apply Kd.R_drewN | apply Kd.R_drew)); exact Kd.R_mono HO_7.out (fun _ hk => ⟨⟨hk.1, ⟨hk.2.1, hk.2.2.1⟩⟩, hk.2.2.2⟩)) hg (.inl rfl)); have n2_ := Aside0.mk (Kd.R_after (v := (.slice (some ⟨go76, 0, none⟩) x10_2.length co76)) (v1 := (.slice (some ⟨go76, 0, none⟩) x10_2.length co76)) (ok := (fun k_ => (w.heap.size ≤ k_) ∧ some k_ ≠ (.slice Ao24 y124.length co24 : Value).ownBlock ∧ some k_ ≠ (.slice (some ad155) x7_2.length co32 : Value).ownBlock)) (by (with_reducible repeat (first | apply Kd.R_alloc | apply Kd.R_drewN | apply Kd.R_drew)); exact Kd.R_mono HO_8.out (fun _ hk => ⟨⟨hk.1, ⟨hk.2.1, hk.2.2.1⟩⟩, hk.2.2.2⟩)) hg (.inl rfl)); have n3_ := Aside0.mk (hp_); have n4_ := Aside0.mk ((by rw [hw]; exact below_set (HB.out) GB76.out : Below w.heap.size w w79)); clear HO_6; clear HO_7; clear HO_8; clear HO_10; clear HB; have HO_6 := n0_; have HO_7 := n1_; have HO_8 := n2_; have HO_10 := n3_; have HB := n4_; clear n0_ n1_ n2_ n3_ n4_; clear hg hw hp_))
                            (try simp only [← hl7_1, ← hl7_2])
                            go_roundg kj57
                            case measure => have := HK1.out; have := HK2.out; have := HJ47.out; have := HJ57.out; omega
                            case rel => exact ⟨(t163), (y166), (wrap64 (x11_1 - 1)), (by first | rfl | (simp; done) | (simp [*]; done)), H', ⟨by have := HK1.out; have := HK2.out; have := HJ47.out; have := HJ57.out; omega⟩, ⟨by (try simp only [hl7_1]); (try simp only [hl7_2]); (with_reducible repeat (first | apply Kd.R_alloc | apply Kd.R_drewN | apply Kd.R_drew)); exact Kd.R_mono HO_6.out (fun _ hk => ⟨hk.1.1, ⟨hk.1.2.1, ⟨hk.1.2.2, hk.2⟩⟩⟩)⟩, ⟨by (try simp only [hl7_1]); (try simp only [hl7_2]); (with_reducible repeat (first | apply Kd.R_alloc | apply Kd.R_drewN | apply Kd.R_drew)); exact Kd.R_mono HO_7.out (fun _ hk => ⟨hk.1.1, ⟨hk.1.2.1, ⟨hk.1.2.2, hk.2⟩⟩⟩)⟩, ⟨by (try simp only [hl7_1]); (try simp only [hl7_2]); (with_reducible repeat (first | apply Kd.R_alloc | apply Kd.R_drewN | apply Kd.R_drew)); exact Kd.R_mono HO_8.out (fun _ hk => ⟨hk.1.1, ⟨hk.1.2.1, ⟨hk.1.2.2, hk.2⟩⟩⟩)⟩, ⟨by (try simp only [hl7_1]); (try simp only [hl7_2]); (with_reducible repeat (first | apply Kd.R_alloc | apply Kd.R_drewN | apply Kd.R_drew)); exact HO_10.out⟩, ⟨by repeat (first | (with_reducible first | exact HB.out | apply below_alloc | apply pw_below_drewN | apply below_drew1) | exact HB.out)⟩⟩
                           ·rw [if_neg c75] at H
                            exact absurd H (by simp)
                          ·rw [if_neg c74] at H
                           exact absurd H (by simp)
                 ·rw [if_neg c44] at H
                  exact absurd H (by simp)
                ·rw [if_neg c43] at H
                 exact absurd H (by simp)
               ·rw [if_neg c41] at H
                exact absurd H (by simp)
              ·rw [if_neg c40] at H
               exact absurd H (by simp)
             ·rw [if_neg c38] at H
              exact absurd H (by simp)
            ·rw [if_neg c37] at H
             exact absurd H (by simp)
           ·rw [if_neg c35] at H
            have c35b0 : decide (0 ≤ x11_1) = false := decide_eq_false c35
            clear c35
            replace H := Option.bind_eq_some_iff.mp H
            obtain ⟨t142, A800, H⟩ := H
            replace H : (if 0 < (y124.length : Int) then ((nat_short.f t142 (rd y124 0)).bind fun bt146 => ((nat_limbs_trim.f k1 x10_1).bind fun t152 => (some (t152, bt146.1)))) else (none)) = some (r1, r2) := H
            have A80 := Aside0.mk A800
            clear A800
            by_cases c81 : 0 < (y124.length : Int)
            ·rw [if_pos c81] at H
             have c81b0 : decide (0 < (y124.length : Int)) = true := decide_eq_true c81
             have c81b1 : decide (0 < y124.length) = true := decide_eq_true (by omega)
             clear c81
             replace H := Option.bind_eq_some_iff.mp H
             obtain ⟨⟨t146, t149⟩, A820, H⟩ := H
             replace H : ((nat_limbs_trim.f k1 x10_1).bind fun t152 => (some (t152, t146))) = some (r1, r2) := H
             have A82 := Aside0.mk A820
             clear A820
             replace H := Option.bind_eq_some_iff.mp H
             obtain ⟨t152, A830, H⟩ := H
             replace H : (some (t152, t146)) = some (r1, r2) := H
             have A83 := Aside0.mk A830
             clear A830
             simp only [Option.some.injEq, Prod.mk.injEq] at H
             obtain ⟨rfl, rfl⟩ := H
             try go_wp2_with (first | (with_reducible refine Exit.only_intro ?_) | ((with_reducible refine wp_scope_redo (rest := ?rest_) 0 ?hf_ ?_); (case hf_ => exact rfl)) | (with_reducible apply wp_goto))
             have n0_ := Aside0.mk (Kd.R_drew HO_6.out)
             have n1_ := Aside0.mk (Kd.R_drew HO_7.out)
             have n2_ := Aside0.mk (Kd.R_drew HO_8.out)
             have n3_ := Aside0.mk (Kd.R_drew HO_10.out)
             have n4_ := Aside0.mk (below_drew1 HB.out)
             clear HO_6
             clear HO_7
             clear HO_8
             clear HO_10
             clear HB
             have HO_6 := n0_
             have HO_7 := n1_
             have HO_8 := n2_
             have HO_10 := n3_
             have HB := n4_
             clear n0_ n1_ n2_ n3_ n4_
             have p145 : 0 ≤ (0 : Int) := (by omega)
             have q145 : 0 < (y124.length : Int) := of_decide_eq_true (by first | (with_reducible assumption) | assumption)
             obtain ⟨ad145, e145, hx145_0⟩ := Kd.at_int (Kd.R_reads' HO_6.out).2.2 0 p145 q145
             cases e145
             have qi145 : (0 < y124.length) = True := eq_true (by omega)
             (try rw [show ((0 : Int)).toNat = 0 from rfl] at hx145_0)
             (try rw [Addr.add_zero'] at hx145_0)
             replace p145 := eq_true p145
             replace q145 := eq_true q145
             refine start_ (n := 11) (S := fun w' => w'.cell? ad145 = some (.int .i64 (rd y124 0))) (ds := []) #[false, false, false, false, false, false, false, false, false, false, false] (by kernel_rfl) rfl rfl (hx145_0) (fun hHeld => ?_); refine with_tabW nat_div.tab22 nat_div.bits22 (fun HT_ HW_ => ?_)
             generalize wr.drew = w84 at HO_6 HO_7 HO_8 HO_10 HB hx145_0 hHeld ⊢
             refine pure_ (i := 0) (N := some 144) (v := ?_) (a' := ?_) #[true, false, false, false, false, false, false, false, false, false, false] rfl rfl (any_of HT_.out (by kernel_rfl)) (fun _ _ _ h => h) (Or.inl ⟨by rfl, ?_⟩) ?_ ?_
             rotate_left
             ·intro w'
              go_simp
              with_reducible rfl
             rotate_left
             ·simp only [Act.put, List.setIfInBounds_toArray, List.set_cons_zero, List.set_cons_succ, i64_w, i32_w]
              rfl
             refine pure_ (i := 2) (N := some 146) (v := ?_) (a' := ?_) #[true, false, true, false, false, false, false, false, false, false, false] rfl rfl (any_of HT_.out (by kernel_rfl)) (fun _ _ _ h => h) (Or.inl ⟨by rfl, ?_⟩) ?_ ?_
             rotate_left
             ·intro w'
              go_simp
              with_reducible rfl
             rotate_left
             ·simp only [Act.put, List.setIfInBounds_toArray, List.set_cons_zero, List.set_cons_succ, i64_w, i32_w]
              rfl
             refine pure_ (i := 3) (N := some 147) (v := ?_) (a' := ?_) #[true, false, true, true, false, false, false, false, false, false, false] rfl rfl (any_of HT_.out (by kernel_rfl)) (fun _ _ _ h => h) (Or.inl ⟨by rfl, ?_⟩) ?_ ?_
             rotate_left
             ·intro w'
              go_simp
              with_reducible rfl
             rotate_left
             ·simp only [Act.put, List.setIfInBounds_toArray, List.set_cons_zero, List.set_cons_succ, i64_w, i32_w]
              rfl
             refine take_ (i := 4) (N := some 148) (v := ?_) (a' := ?_) #[true, false, true, true, true, false, false, false, false, false, false] rfl rfl (take_ofW HT_.out HW_.out (by kernel_rfl)) (fun _ _ _ h => h) (Or.inl ⟨by rfl, ?_⟩) hHeld ?_ ?_
             rotate_left
             ·intro w' s0
              go_simp
              with_reducible rfl
             rotate_left
             ·simp only [Act.put, List.setIfInBounds_toArray, List.set_cons_zero, List.set_cons_succ, i64_w, i32_w]
              rfl
             refine one_ (i := 1) (N := some 145) #[true, true, true, true, true, false, false, false, false, false, false] rfl rfl (one_of HT_.out (by kernel_rfl)) (by decide) (fun K hK => ?_)
             refine goes_ Tryd.func44 (by kernel_rfl) rfl #[.slice Ao32 x7_1.length co32] (by rfl) rfl rfl (by (try simp only [List.map_toArray, List.map_cons, List.map_nil]); first | done | rfl | (simp only [List.length_drop, List.length_take]; rfl)) ?_
             with_reducible refine (nat_limbs_trim.calls k1 (fun k_ => some k_ = (.slice Ao32 x7_1.length co32 : Value).ownBlock) _ _ x7_1 t142 _ ?side1 A80.out).mono ?_
             (case side1 => exact Kd.R_V (Kd.R_tight rfl (HO_7.out)))
             rintro e w85 ⟨v143, rfl, ho0, hb⟩
             have HS0_ := (hb.cell (World.block_lt_of_cell? _ _ (hHeld))).trans (hHeld)
             refine ⟨_, rfl, ?_⟩
             have n0_ := Aside0.mk (Kd.R_below (by (with_reducible repeat (first | apply Kd.R_alloc | apply Kd.R_drewN | apply Kd.R_drew)); exact HO_6.out) hb)
             have n1_ := Aside0.mk (Kd.R_below (by (with_reducible repeat (first | apply Kd.R_alloc | apply Kd.R_drewN | apply Kd.R_drew)); exact HO_7.out) hb)
             have n2_ := Aside0.mk (Kd.R_below (by (with_reducible repeat (first | apply Kd.R_alloc | apply Kd.R_drewN | apply Kd.R_drew)); exact HO_8.out) hb)
             have n3_ := Aside0.mk (Kd.R_below (by (with_reducible repeat (first | apply Kd.R_alloc | apply Kd.R_drewN | apply Kd.R_drew)); exact HO_10.out) hb)
             have n4_ := Aside0.mk (Kd.V_lower (Kd.V_mono (ok' := fun k_ => (P0_ k_ ∨ w.heap.size ≤ k_) ∧ some k_ ≠ (.slice (some ad145) y124.length co24 : Value).ownBlock ∧ some k_ ≠ (.slice Ao31 t136.length co31 : Value).ownBlock ∧ some k_ ≠ (v140 : Value).ownBlock) ho0 (fun k_ hk_ => ⟨Or.elim hk_ (fun hs_ => (.inr (((HO_7.out).1 k_ hs_.symm).1))) (fun hn_ => (.inr (Nat.le_trans (below_size (by repeat (first | (with_reducible first | exact HB.out | apply below_alloc | apply pw_below_drewN | apply below_drew1) | exact HB.out))) hn_))), Or.elim hk_ (fun hs_ => ((HO_7.out).1 k_ hs_.symm).2.1) (fun hn_ => (Kd.fresh' (Kd.R_lt (by (with_reducible repeat (first | apply Kd.R_alloc | apply Kd.R_drewN | apply Kd.R_drew)); exact HO_6.out)) k_ hn_)), Or.elim hk_ (fun hs_ => ((HO_7.out).1 k_ hs_.symm).2.2.1) (fun hn_ => (Kd.fresh' (Kd.R_lt (by (with_reducible repeat (first | apply Kd.R_alloc | apply Kd.R_drewN | apply Kd.R_drew)); exact HO_8.out)) k_ hn_)), Or.elim hk_ (fun hs_ => ((HO_7.out).1 k_ hs_.symm).2.2.2) (fun hn_ => (Kd.fresh' (Kd.R_lt (by (with_reducible repeat (first | apply Kd.R_alloc | apply Kd.R_drewN | apply Kd.R_drew)); exact HO_10.out)) k_ hn_))⟩)) (below_size (by repeat (first | (with_reducible first | exact HB.out | apply below_alloc | apply pw_below_drewN | apply below_drew1) | exact HB.out))))
             have n5_ := Aside0.mk (below_step (by repeat (first | (with_reducible first | exact HB.out | apply below_alloc | apply pw_below_drewN | apply below_drew1) | exact HB.out)) hb)
             clear HO_6
             clear HO_7
             clear HO_8
             clear HO_10
             clear HB
             have HO_6 := n0_
             have HO_7 := n1_
             have HO_8 := n2_
             have HO_10 := n3_
             have HO144 := n4_
             have HB := n5_
             clear n0_ n1_ n2_ n3_ n4_ n5_
             (try clear hb)
             (try clear hb2)
             (try clear hk)
             (try clear hi)
             (try clear ho0)
             obtain ⟨Ao86, co86, eo86⟩ := Kd.V_slice HO144.out
             (first | subst eo86 | (injection eo86 with f1_ f2_ f3_; have f4_ := f1_.symm; have f5_ := f3_.symm; clear f1_ f2_ f3_; subst f4_; subst f5_))
             refine hK.out _ _ (HS0_) (fun hHeld => ?_)
             clear hK K
             refine norm_ (a' := ?_) ?_ ?_
             rotate_left
             ·show Act.put _ (some 145) _ = _
              simp only [Act.put, List.setIfInBounds_toArray, List.set_cons_zero, List.set_cons_succ, i64_w, i32_w]
              rfl
             refine one_ (i := 5) (N := some 149) #[true, true, true, true, true, true, false, false, false, false, false] rfl rfl (one_of HT_.out (by kernel_rfl)) (by decide) (fun K hK => ?_)
             refine goes_ Tryd.func50 (by kernel_rfl) rfl #[.slice Ao86 t142.length co86, .int .i64 (rd y124 0)] (by rfl) rfl rfl (by (try simp only [List.map_toArray, List.map_cons, List.map_nil]); first | done | rfl | (simp only [List.length_drop, List.length_take]; rfl)) ?_
             with_reducible refine (nat_short.calls _ _ t142 (rd y124 0) t146 t149 _ ?side1 ?side2 A82.out).mono ?_
             (case side1 => repeat (first | exact (Kd.V_reads' HO144.out).2.2 | (with_reducible refine Kd.C_alloc ?_ _) | (with_reducible refine Kd.C_drewN ?_ _) | (with_reducible refine Kd.C_drew ?_)))
             (case side2 => exact (Kd.V_reads' HO144.out).2.1)
             rintro e w87 ⟨v147, v150, rfl, ho0, ho1, hb⟩
             have HS0_ := (hb.cell (World.block_lt_of_cell? _ _ (hHeld))).trans (hHeld)
             refine ⟨_, rfl, ?_⟩
             have n0_ := Aside0.mk (Kd.R_below (by (with_reducible repeat (first | apply Kd.R_alloc | apply Kd.R_drewN | apply Kd.R_drew)); exact HO_6.out) hb)
             have n1_ := Aside0.mk (Kd.R_below (by (with_reducible repeat (first | apply Kd.R_alloc | apply Kd.R_drewN | apply Kd.R_drew)); exact HO_7.out) hb)
             have n2_ := Aside0.mk (Kd.R_below (by (with_reducible repeat (first | apply Kd.R_alloc | apply Kd.R_drewN | apply Kd.R_drew)); exact HO_8.out) hb)
             have n3_ := Aside0.mk (Kd.R_below (by (with_reducible repeat (first | apply Kd.R_alloc | apply Kd.R_drewN | apply Kd.R_drew)); exact HO_10.out) hb)
             have n4_ := Aside0.mk (Kd.V_below (by (with_reducible repeat (first | apply Kd.V_alloc | apply Kd.V_drewN | apply Kd.V_drew)); exact HO144.out) hb)
             have n5_ := Aside0.mk (Kd.V_lower (Kd.V_mono (ok' := fun k_ => (P0_ k_ ∨ w.heap.size ≤ k_) ∧ some k_ ≠ (.slice (some ad145) y124.length co24 : Value).ownBlock ∧ some k_ ≠ (.slice Ao32 x7_1.length co32 : Value).ownBlock ∧ some k_ ≠ (.slice Ao31 t136.length co31 : Value).ownBlock ∧ some k_ ≠ (v140 : Value).ownBlock) ho0 (fun k_ hk_ => ⟨(.inr (Nat.le_trans (below_size (by repeat (first | (with_reducible first | exact HB.out | apply below_alloc | apply pw_below_drewN | apply below_drew1) | exact HB.out))) hk_)), (Kd.fresh' (Kd.R_lt (by (with_reducible repeat (first | apply Kd.R_alloc | apply Kd.R_drewN | apply Kd.R_drew)); exact HO_6.out)) k_ hk_), (Kd.fresh' (Kd.R_lt (by (with_reducible repeat (first | apply Kd.R_alloc | apply Kd.R_drewN | apply Kd.R_drew)); exact HO_7.out)) k_ hk_), (Kd.fresh' (Kd.R_lt (by (with_reducible repeat (first | apply Kd.R_alloc | apply Kd.R_drewN | apply Kd.R_drew)); exact HO_8.out)) k_ hk_), (Kd.fresh' (Kd.R_lt (by (with_reducible repeat (first | apply Kd.R_alloc | apply Kd.R_drewN | apply Kd.R_drew)); exact HO_10.out)) k_ hk_)⟩)) (below_size (by repeat (first | (with_reducible first | exact HB.out | apply below_alloc | apply pw_below_drewN | apply below_drew1) | exact HB.out))))
             have n6_ := Aside0.mk (Kd.V_lower (Kd.V_mono (ok' := fun k_ => (P0_ k_ ∨ w.heap.size ≤ k_) ∧ some k_ ≠ (.slice (some ad145) y124.length co24 : Value).ownBlock ∧ some k_ ≠ (.slice Ao32 x7_1.length co32 : Value).ownBlock ∧ some k_ ≠ (.slice Ao31 t136.length co31 : Value).ownBlock ∧ some k_ ≠ (v140 : Value).ownBlock) ho1 (fun k_ hk_ => ⟨(.inr (Nat.le_trans (below_size (by repeat (first | (with_reducible first | exact HB.out | apply below_alloc | apply pw_below_drewN | apply below_drew1) | exact HB.out))) hk_)), (Kd.fresh' (Kd.R_lt (by (with_reducible repeat (first | apply Kd.R_alloc | apply Kd.R_drewN | apply Kd.R_drew)); exact HO_6.out)) k_ hk_), (Kd.fresh' (Kd.R_lt (by (with_reducible repeat (first | apply Kd.R_alloc | apply Kd.R_drewN | apply Kd.R_drew)); exact HO_7.out)) k_ hk_), (Kd.fresh' (Kd.R_lt (by (with_reducible repeat (first | apply Kd.R_alloc | apply Kd.R_drewN | apply Kd.R_drew)); exact HO_8.out)) k_ hk_), (Kd.fresh' (Kd.R_lt (by (with_reducible repeat (first | apply Kd.R_alloc | apply Kd.R_drewN | apply Kd.R_drew)); exact HO_10.out)) k_ hk_)⟩)) (below_size (by repeat (first | (with_reducible first | exact HB.out | apply below_alloc | apply pw_below_drewN | apply below_drew1) | exact HB.out))))
             have n7_ := Aside0.mk (below_step (by repeat (first | (with_reducible first | exact HB.out | apply below_alloc | apply pw_below_drewN | apply below_drew1) | exact HB.out)) hb)
             clear HO_6
             clear HO_7
             clear HO_8
             clear HO_10
             clear HO144
             clear HB
             have HO_6 := n0_
             have HO_7 := n1_
             have HO_8 := n2_
             have HO_10 := n3_
             have HO144 := n4_
             have HO148 := n5_
             have HO151 := n6_
             have HB := n7_
             clear n0_ n1_ n2_ n3_ n4_ n5_ n6_ n7_
             (try clear hb)
             (try clear hb2)
             (try clear hk)
             (try clear hi)
             (try clear ho0)
             (try clear ho1)
             refine hK.out _ _ (HS0_) (fun hHeld => ?_)
             clear hK K
             refine norm_ (a' := ?_) ?_ ?_
             rotate_left
             ·show Act.put _ (some 149) _ = _
              simp only [Act.put, List.setIfInBounds_toArray, List.set_cons_zero, List.set_cons_succ, i64_w, i32_w]
              rfl
             refine pure_ (i := 6) (N := some 143) (v := ?_) (a' := ?_) #[true, true, true, true, true, true, true, false, false, false, false] rfl rfl (any_of HT_.out (by kernel_rfl)) (fun _ _ _ h => h) (Or.inl ⟨by rfl, ?_⟩) ?_ ?_
             rotate_left
             ·intro w'
              go_simp
              with_reducible rfl
             rotate_left
             ·simp only [Act.put, List.setIfInBounds_toArray, List.set_cons_zero, List.set_cons_succ, i64_w, i32_w]
              rfl
             refine pure_ (i := 7) (N := some 150) (v := ?_) (a' := ?_) #[true, true, true, true, true, true, true, true, false, false, false] rfl rfl (any_of HT_.out (by kernel_rfl)) (fun _ _ _ h => h) (Or.inl ⟨by rfl, ?_⟩) ?_ ?_
             rotate_left
             ·intro w'
              go_simp
              with_reducible rfl
             rotate_left
             ·simp only [Act.put, List.setIfInBounds_toArray, List.set_cons_zero, List.set_cons_succ, i64_w, i32_w]
              rfl
             refine pure_ (i := 8) (N := some 151) (v := ?_) (a' := ?_) #[true, true, true, true, true, true, true, true, true, false, false] rfl rfl (any_of HT_.out (by kernel_rfl)) (fun _ _ _ h => h) (Or.inl ⟨by rfl, ?_⟩) ?_ ?_
             rotate_left
             ·intro w'
              go_simp
              with_reducible rfl
             rotate_left
             ·simp only [Act.put, List.setIfInBounds_toArray, List.set_cons_zero, List.set_cons_succ, i64_w, i32_w]
              rfl
             refine pure_ (i := 9) (N := some 15) (v := ?_) (a' := ?_) #[true, true, true, true, true, true, true, true, true, true, false] rfl rfl (any_of HT_.out (by kernel_rfl)) (fun _ _ _ h => h) (Or.inl ⟨by rfl, ?_⟩) ?_ ?_
             rotate_left
             ·intro w'
              go_simp
              with_reducible rfl
             rotate_left
             ·simp only [Act.put, List.setIfInBounds_toArray, List.set_cons_zero, List.set_cons_succ, i64_w, i32_w]
              rfl
             refine pure_ (i := 10) (N := some 16) (v := ?_) (a' := ?_) #[true, true, true, true, true, true, true, true, true, true, true] rfl rfl (any_of HT_.out (by kernel_rfl)) (fun _ _ _ h => h) (Or.inl ⟨by rfl, ?_⟩) ?_ ?_
             rotate_left
             ·intro w'
              go_simp
              with_reducible rfl
             rotate_left
             ·simp only [Act.put, List.setIfInBounds_toArray, List.set_cons_zero, List.set_cons_succ, i64_w, i32_w]
              rfl
             refine done_ (done_of HT_.out (by kernel_rfl)) ?_
             obtain ⟨Ao88, co88, eo88⟩ := Kd.R_slice HO_10.out
             subst eo88
             try go_wp2_with (first | (first | (with_reducible refine Exit.only_intro ?_) | ((with_reducible refine wp_scope_redo (rest := ?rest_) 0 ?hf_ ?_); (case hf_ => exact rfl)) | (with_reducible apply wp_goto)) | ((with_reducible refine gate_callee (f := 44) rfl ?_); refine goesL_ (some 153) rfl rfl Tryd.func44 (by kernel_rfl) rfl #[.slice Ao88 x10_1.length co88] rfl (by (try simp only [List.map_toArray, List.map_cons, List.map_nil]); first | done | rfl | (simp only [List.length_drop, List.length_take]; rfl)) ?_; (with_reducible refine (nat_limbs_trim.calls k1 (fun k_ => some k_ = (.slice Ao88 x10_1.length co88 : Value).ownBlock) _ _ x10_1 t152 _ ?side1 A83.out).mono ?_); (case side1 => exact Kd.R_V (Kd.R_tight rfl (HO_10.out))); rintro e w89 ⟨v153, rfl, ho0, hb⟩; refine ⟨_, rfl, ?_⟩; have n0_ := Aside0.mk (Kd.R_below (by (with_reducible repeat (first | apply Kd.R_alloc | apply Kd.R_drewN | apply Kd.R_drew)); exact HO_6.out) hb); have n1_ := Aside0.mk (Kd.R_below (by (with_reducible repeat (first | apply Kd.R_alloc | apply Kd.R_drewN | apply Kd.R_drew)); exact HO_7.out) hb); have n2_ := Aside0.mk (Kd.R_below (by (with_reducible repeat (first | apply Kd.R_alloc | apply Kd.R_drewN | apply Kd.R_drew)); exact HO_8.out) hb); have n3_ := Aside0.mk (Kd.R_below (by (with_reducible repeat (first | apply Kd.R_alloc | apply Kd.R_drewN | apply Kd.R_drew)); exact HO_10.out) hb); have n4_ := Aside0.mk (Kd.V_below (by (with_reducible repeat (first | apply Kd.V_alloc | apply Kd.V_drewN | apply Kd.V_drew)); exact HO144.out) hb); have n5_ := Aside0.mk (Kd.V_below (by (with_reducible repeat (first | apply Kd.V_alloc | apply Kd.V_drewN | apply Kd.V_drew)); exact HO148.out) hb); have n6_ := Aside0.mk (Kd.V_below (by (with_reducible repeat (first | apply Kd.V_alloc | apply Kd.V_drewN | apply Kd.V_drew)); exact HO151.out) hb); have n7_ := Aside0.mk (Kd.V_lower (Kd.V_mono (ok' := fun k_ => (P0_ k_ ∨ w.heap.size ≤ k_) ∧ some k_ ≠ (.slice (some ad145) y124.length co24 : Value).ownBlock ∧ some k_ ≠ (.slice Ao32 x7_1.length co32 : Value).ownBlock ∧ some k_ ≠ (.slice Ao31 t136.length co31 : Value).ownBlock) ho0 (fun k_ hk_ => ⟨Or.elim hk_ (fun hs_ => (.inr (((HO_10.out).1 k_ hs_.symm).1))) (fun hn_ => (.inr (Nat.le_trans (below_size (by repeat (first | (with_reducible first | exact HB.out | apply below_alloc | apply pw_below_drewN | apply below_drew1) | exact HB.out))) hn_))), Or.elim hk_ (fun hs_ => ((HO_10.out).1 k_ hs_.symm).2.1) (fun hn_ => (Kd.fresh' (Kd.R_lt (by (with_reducible repeat (first | apply Kd.R_alloc | apply Kd.R_drewN | apply Kd.R_drew)); exact HO_6.out)) k_ hn_)), Or.elim hk_ (fun hs_ => ((HO_10.out).1 k_ hs_.symm).2.2.1) (fun hn_ => (Kd.fresh' (Kd.R_lt (by (with_reducible repeat (first | apply Kd.R_alloc | apply Kd.R_drewN | apply Kd.R_drew)); exact HO_7.out)) k_ hn_)), Or.elim hk_ (fun hs_ => ((HO_10.out).1 k_ hs_.symm).2.2.2) (fun hn_ => (Kd.fresh' (Kd.R_lt (by (with_reducible repeat (first | apply Kd.R_alloc | apply Kd.R_drewN | apply Kd.R_drew)); exact HO_8.out)) k_ hn_))⟩)) (below_size (by repeat (first | (with_reducible first | exact HB.out | apply below_alloc | apply pw_below_drewN | apply below_drew1) | exact HB.out)))); have n8_ := Aside0.mk (below_step (by repeat (first | (with_reducible first | exact HB.out | apply below_alloc | apply pw_below_drewN | apply below_drew1) | exact HB.out)) hb); clear HO_6; clear HO_7; clear HO_8; clear HO_10; clear HO144; clear HO148; clear HO151; clear HB; have HO_6 := n0_; have HO_7 := n1_; have HO_8 := n2_; have HO_10 := n3_; have HO144 := n4_; have HO148 := n5_; have HO151 := n6_; have HO154 := n7_; have HB := n8_; clear n0_ n1_ n2_ n3_ n4_ n5_ n6_ n7_ n8_; (try clear hb); (try clear hb2); (try clear hk); (try clear hi); (try clear ho0)))
             go_ret2
             exact ⟨_, _, by first | rfl | (simp [errW_none, errW_some] <;> rfl) | (simp only [← hji11, ← hji18]; first | rfl | (simp [errW_none, errW_some] <;> rfl)) | (simp [*, errW_none, errW_some] <;> rfl), by (with_reducible repeat (first | apply Kd.V_alloc | apply Kd.V_drewN | apply Kd.V_drew)); exact Kd.V_mono HO154.out (fun _ hk => hk.1), by (with_reducible repeat (first | apply Kd.V_alloc | apply Kd.V_drewN | apply Kd.V_drew)); exact Kd.V_mono HO148.out (fun _ hk => hk.1), by repeat (first | (with_reducible first | exact HB.out | apply below_alloc | apply pw_below_drewN | apply below_drew1) | exact HB.out)⟩
            ·rw [if_neg c81] at H
             exact absurd H (by simp)
        ·rw [if_neg c20] at H
         exact absurd H (by simp)
       ·rw [if_neg c19] at H
        exact absurd H (by simp)
      ·rw [if_neg c16] at H
       exact absurd H (by simp)
    ·rw [if_neg c13] at H
     exact absurd H (by simp)
   ·rw [if_neg c12] at H
    exact absurd H (by simp)

end Go.Proofs.YtmkmldkfaehefaaDoor.Pt

end

-- Written by wip/pp.py of this place (over the kit's print) out of the translation.
section
namespace Go.Proofs.YtmkmldkfaehefaaDoor.Pt
open Go.RowKit Go.Proofs.YtmkmldkfaehefaaDoor.Pm Go.Proofs.YtmkmldkfaehefaaDoorW.PrintWords Go.Proofs.YtmkmldkfaehefaaDoorW.PrintLast Go.Proofs.YtmkmldkfaehefaaDoorW.PrintMore
attribute [local go_sem] max2_int min2_int max_two min_two max_three min_three max_four min_four   -- for this text's walks alone
set_option linter.unusedVariables false
set_option linter.unusedSimpArgs false

end Go.Proofs.YtmkmldkfaehefaaDoor.Pt

end

section
set_option linter.unusedVariables false
namespace Go.Proofs.YtmkmldkfaehefaaDoor
open Go.Lib (decDigits)

/-- A byte that is a digit. -/
def isDig (c : UInt8) : Bool := decide (48 ≤ c.toNat ∧ c.toNat ≤ 57)
/-- The number that digits tell. -/
def num (l : List UInt8) : Nat := l.foldl (fun n c => n * 10 + (c.toNat - 48)) 0
/-- Is a text a natural? -/
def mayL (l : List UInt8) : Bool := decide (l ≠ []) && l.all isDig && (decide (l = [48]) || decide (l.head? ≠ some 48))

theorem num_nil : num [] = 0 := rfl
theorem num_snoc (l : List UInt8) (c : UInt8) : num (l ++ [c]) = num l * 10 + (c.toNat - 48) := by simp [num]
theorem foldl_num (l : List UInt8) (a : Nat) : l.foldl (fun n c => n * 10 + (c.toNat - 48)) a = a * 10 ^ l.length + num l := by
  induction l generalizing a with
  | nil => simp [num]
  | cons c r ih =>
    have h := ih (a * 10 + (c.toNat - 48))
    have h2 := ih (0 * 10 + (c.toNat - 48))
    simp only [num, List.foldl_cons, List.length_cons] at h h2 ⊢
    rw [h, h2, Nat.pow_succ]
    grind
theorem num_append (l r : List UInt8) : num (l ++ r) = num l * 10 ^ r.length + num r := by
  unfold num
  rw [List.foldl_append, foldl_num]
  rfl
theorem num_cons (c : UInt8) (r : List UInt8) : num (c :: r) = (c.toNat - 48) * 10 ^ r.length + num r := by
  have h := num_append [c] r
  simpa [num] using h
theorem num_lt {l : List UInt8} (h : l.all isDig = true) : num l < 10 ^ l.length := by
  induction l with
  | nil => simp [num]
  | cons c r ih =>
    simp only [List.all_cons, Bool.and_eq_true] at h
    have hc : c.toNat ≤ 57 := by have := h.1; simp [isDig] at this; exact this.2
    have := ih h.2
    rw [num_cons, List.length_cons, Nat.pow_succ]
    have h2 : (c.toNat - 48) * 10 ^ r.length ≤ 9 * 10 ^ r.length := Nat.mul_le_mul_right _ (by omega)
    omega

theorem ofNat_dig {d : Nat} (h : d < 10) : (UInt8.ofNat (48 + d)).toNat = 48 + d := by
  simp [UInt8.toNat_ofNat]
  omega
theorem isDig_ofNat {d : Nat} (h : d < 10) : isDig (UInt8.ofNat (48 + d)) = true := by
  unfold isDig
  rw [ofNat_dig h]
  simp
  omega
theorem dig_small {n : Nat} (h : n < 10) : decDigits n = [UInt8.ofNat (48 + n)] := by rw [decDigits, dif_pos h]
theorem dig_big {n : Nat} (h : ¬ n < 10) : decDigits n = decDigits (n / 10) ++ [UInt8.ofNat (48 + n % 10)] := by rw [decDigits, dif_neg h]
theorem dig_ne (n : Nat) : decDigits n ≠ [] := by
  by_cases h : n < 10
  · rw [dig_small h]; simp
  · rw [dig_big h]; simp
theorem num_dig (n : Nat) : num (decDigits n) = n := by
  induction n using Nat.strongRecOn with
  | _ n ih =>
    by_cases h : n < 10
    · rw [dig_small h]
      have := ofNat_dig h
      simp [num] at this ⊢
      omega
    · rw [dig_big h, num_snoc, ih (n / 10) (by omega), ofNat_dig (by omega)]
      omega
theorem dig_all (n : Nat) : (decDigits n).all isDig = true := by
  induction n using Nat.strongRecOn with
  | _ n ih =>
    by_cases h : n < 10
    · rw [dig_small h, List.all_cons, isDig_ofNat h]; rfl
    · rw [dig_big h, List.all_append, ih (n / 10) (by omega), List.all_cons, isDig_ofNat (show n % 10 < 10 by omega)]
      rfl
theorem dig_head {n : Nat} (h : n ≠ 0) : (decDigits n).head? ≠ some 48 := by
  induction n using Nat.strongRecOn with
  | _ n ih =>
    by_cases h10 : n < 10
    · rw [dig_small h10]
      intro e
      have e2 : UInt8.ofNat (48 + n) = 48 := by simpa using e
      have := ofNat_dig h10
      rw [e2] at this
      simp at this
      omega
    · rw [dig_big h10, List.head?_append]
      have h2 := ih (n / 10) (by omega) (by omega)
      cases hh : (decDigits (n / 10)).head? with
      | none => exact absurd (List.head?_eq_none_iff.1 hh) (dig_ne _)
      | some c => rw [hh] at h2; simpa using h2
theorem may_dig (n : Nat) : mayL (decDigits n) = true := by
  unfold mayL
  rw [dig_all]
  simp only [Bool.and_true, Bool.and_eq_true, Bool.or_eq_true, decide_eq_true_eq]
  refine ⟨dig_ne n, ?_⟩
  by_cases h : n = 0
  · left; subst h; rw [dig_small (by omega)]; rfl
  · right; exact dig_head h

theorem mayL_all {l : List UInt8} (h : mayL l = true) : l.all isDig = true := by
  unfold mayL at h
  simp only [Bool.and_eq_true] at h
  exact h.1.2
theorem mayL_ne {l : List UInt8} (h : mayL l = true) : l ≠ [] := by
  unfold mayL at h
  simp only [Bool.and_eq_true, decide_eq_true_eq] at h
  exact h.1.1
theorem mayL_head {l : List UInt8} (h : mayL l = true) : l = [48] ∨ l.head? ≠ some 48 := by
  unfold mayL at h
  simp only [Bool.and_eq_true, Bool.or_eq_true, decide_eq_true_eq] at h
  exact h.2
theorem isDig_bounds {c : UInt8} (h : isDig c = true) : 48 ≤ c.toNat ∧ c.toNat ≤ 57 := by simpa [isDig] using h
theorem dig_of_byte {c : UInt8} (h : isDig c = true) : UInt8.ofNat (48 + (c.toNat - 48)) = c := by
  have := isDig_bounds h
  have e : 48 + (c.toNat - 48) = c.toNat := by omega
  rw [e]
  simp
theorem num_pos {l : List UInt8} (h : l.all isDig = true) (h1 : l ≠ []) (h2 : l.head? ≠ some 48) : 10 ^ (l.length - 1) ≤ num l := by
  cases l with
  | nil => exact absurd rfl h1
  | cons c r =>
    simp only [List.all_cons, Bool.and_eq_true] at h
    have hb := isDig_bounds h.1
    have hc : c.toNat ≠ 48 := by
      intro e
      apply h2
      have : c = 48 := UInt8.toNat_inj.1 (by rw [e]; rfl)
      simp [this]
    rw [num_cons]
    simp only [List.length_cons, Nat.add_sub_cancel]
    have : 1 * 10 ^ r.length ≤ (c.toNat - 48) * 10 ^ r.length := Nat.mul_le_mul_right _ (by omega)
    omega
theorem dig_num {l : List UInt8} (h : mayL l = true) : decDigits (num l) = l := by
  rcases mayL_head h with rfl | hh
  · rw [dig_small (by decide)]; rfl
  · have ha := mayL_all h
    have hn := mayL_ne h
    clear h
    obtain ⟨m, hm⟩ : ∃ m, l.length = m := ⟨_, rfl⟩
    induction m generalizing l with
    | zero => exact absurd (List.length_eq_zero_iff.1 hm) hn
    | succ m ih =>
      rcases List.eq_nil_or_concat l with rfl | ⟨r, c, rfl⟩
      · exact absurd rfl hn
      · rw [List.concat_eq_append] at *
        simp only [List.all_append, List.all_cons, List.all_nil, Bool.and_true, Bool.and_eq_true] at ha
        have hb := isDig_bounds ha.2
        rw [num_snoc]
        by_cases hr : r = []
        · subst hr
          rw [num_nil, dig_small (by omega)]
          simp only [Nat.zero_mul, Nat.zero_add, List.nil_append]
          rw [dig_of_byte ha.2]
        · have hh' : r.head? ≠ some 48 := by
            rw [List.head?_append] at hh
            cases hx : r.head? with
            | none => exact absurd (List.head?_eq_none_iff.1 hx) hr
            | some x => rw [hx] at hh; simpa using hh
          have h1 := num_pos ha.1 hr hh'
          have h0 : 1 ≤ 10 ^ (r.length - 1) := Nat.one_le_pow _ _ (by omega)
          rw [dig_big (by omega)]
          have e1 : (num r * 10 + (c.toNat - 48)) / 10 = num r := by omega
          have e2 : (num r * 10 + (c.toNat - 48)) % 10 = c.toNat - 48 := by omega
          rw [e1, e2, dig_of_byte ha.2, ih hh' ha.1 hr (by simpa using hm)]
/-- A natural's text is told by its number. -/
theorem num_inj {l r : List UInt8} (hl : mayL l = true) (hr : mayL r = true) (h : num l = num r) : l = r := by
  rw [← dig_num hl, ← dig_num hr, h]

/-- Digits as strconv reads them. -/
theorem parse_digits : ∀ (l : List UInt8) (a : Nat), l.all isDig = true → l.foldl (fun n c => n * 10 + (c.toNat - 48)) a < 18446744073709551616 → Lib.parseUint10 a l = .ok (l.foldl (fun n c => n * 10 + (c.toNat - 48)) a)
  | [], a, _, _ => rfl
  | c :: r, a, h, hn => by
    simp only [List.all_cons, Bool.and_eq_true] at h
    have hb := isDig_bounds h.1
    simp only [List.foldl_cons] at hn ⊢
    have hge : a * 10 + (c.toNat - 48) ≤ r.foldl (fun n c => n * 10 + (c.toNat - 48)) (a * 10 + (c.toNat - 48)) := by
      rw [foldl_num]
      have : 1 ≤ 10 ^ r.length := Nat.one_le_pow _ _ (by omega)
      have := Nat.le_mul_of_pos_right (a * 10 + (c.toNat - 48)) this
      omega
    rw [Lib.parseUint10, if_pos hb, if_neg (by omega), if_neg (by omega)]
    exact parse_digits r _ h.2 hn
theorem parse_range : ∀ (l : List UInt8) (a : Nat), a < 18446744073709551616 → l.all isDig = true → 18446744073709551616 ≤ l.foldl (fun n c => n * 10 + (c.toNat - 48)) a → Lib.parseUint10 a l = .range
  | [], a, ha, _, hn => by simp at hn; omega
  | c :: r, a, ha, h, hn => by
    simp only [List.all_cons, Bool.and_eq_true] at h
    have hb := isDig_bounds h.1
    simp only [List.foldl_cons] at hn
    rw [Lib.parseUint10, if_pos hb]
    by_cases h1 : 1844674407370955162 ≤ a
    · rw [if_pos h1]
    · rw [if_neg h1]
      by_cases h2 : 18446744073709551616 ≤ a * 10 + (c.toNat - 48)
      · rw [if_pos h2]
      · rw [if_neg h2]
        exact parse_range r _ (by omega) h.2 hn
/-- Atoi of digits: their number, or out of range. -/
theorem atoi_digits {l : List UInt8} (h1 : l ≠ []) (h : l.all isDig = true) : Lib.atoiAll l = if num l < 9223372036854775808 then .ok (num l : Int) else .range := by
  cases l with
  | nil => exact absurd rfl h1
  | cons c r =>
    have hb := isDig_bounds (by simp only [List.all_cons, Bool.and_eq_true] at h; exact h.1 : isDig c = true)
    rw [Lib.atoiAll_plain c r (by omega) (by omega)]
    unfold Lib.parseMag
    rw [if_neg (by simp)]
    by_cases hn : num (c :: r) < 18446744073709551616
    · rw [parse_digits _ 0 h hn]
      show Lib.signless (.ok (num (c :: r))) = _
      unfold Lib.signless
      by_cases h2 : num (c :: r) < 9223372036854775808
      · rw [if_pos h2]; simp; omega
      · rw [if_neg h2]; simp; omega
    · rw [parse_range _ 0 (by omega) h (by exact Nat.le_of_not_lt hn), if_neg (by omega)]
      rfl
end Go.Proofs.YtmkmldkfaehefaaDoor

end

section
set_option linter.unusedVariables false
namespace Go.Proofs.YtmkmldkfaehefaaDoor
open Go.Proofs.YtmkmldkfaehefaaDoorW.PrintWords Go.Proofs.YtmkmldkfaehefaaDoorW.PrintMore

/-- The number that limbs tell. -/
def val : List Int → Int
  | [] => 0
  | x :: r => x + 10000 * val r
/-- Each limb from 0 on, below 10000. -/
def Ok (l : List Int) : Prop := ∀ x ∈ l, 0 ≤ x ∧ x < 10000
/-- A number's limbs, the lowest one first, none above that is 0. -/
def lim (n : Nat) : List Int := if h : n = 0 then [] else ((n % 10000 : Nat) : Int) :: lim (n / 10000)
  termination_by n
  decreasing_by omega

theorem lim_zero : lim 0 = [] := by rw [lim, dif_pos rfl]
theorem lim_pos {n : Nat} (h : n ≠ 0) : lim n = ((n % 10000 : Nat) : Int) :: lim (n / 10000) := by rw [lim, dif_neg h]
theorem lim_nil {n : Nat} : lim n = [] ↔ n = 0 := by
  constructor
  · intro h
    by_cases h0 : n = 0
    · exact h0
    · rw [lim_pos h0] at h; cases h
  · rintro rfl; exact lim_zero
theorem ok_nil : Ok [] := by intro x h; cases h
theorem ok_cons {x : Int} {r : List Int} : Ok (x :: r) ↔ (0 ≤ x ∧ x < 10000) ∧ Ok r := by simp [Ok]
theorem ok_append {l r : List Int} : Ok (l ++ r) ↔ Ok l ∧ Ok r := by
  simp only [Ok, List.mem_append]
  constructor
  · exact fun h => ⟨fun x hx => h x (.inl hx), fun x hx => h x (.inr hx)⟩
  · rintro ⟨h1, h2⟩ x (hx | hx)
    · exact h1 x hx
    · exact h2 x hx
theorem ok_snoc {l : List Int} {x : Int} (h : Ok l) (h0 : 0 ≤ x) (h1 : x < 10000) : Ok (l ++ [x]) := ok_append.2 ⟨h, ok_cons.2 ⟨⟨h0, h1⟩, ok_nil⟩⟩
theorem ok_take {l : List Int} (h : Ok l) (k : Nat) : Ok (l.take k) := fun x hx => h x (List.mem_of_mem_take hx)
theorem ok_set {l : List Int} (h : Ok l) (j : Nat) {v : Int} (h0 : 0 ≤ v) (h1 : v < 10000) : Ok (l.set j v) := by
  intro x hx
  rcases List.mem_or_eq_of_mem_set hx with hx | rfl
  · exact h x hx
  · exact ⟨h0, h1⟩
theorem ok_replicate (n : Nat) : Ok (List.replicate n 0) := by
  intro x hx
  rw [List.eq_of_mem_replicate hx]
  decide
theorem ok_lim (n : Nat) : Ok (lim n) := by
  induction n using Nat.strongRecOn with
  | _ n ih =>
    by_cases h : n = 0
    · subst h; rw [lim_zero]; exact ok_nil
    · rw [lim_pos h]; exact ok_cons.2 ⟨by omega, ih _ (by omega)⟩
theorem limb_ok {l : List Int} (h : Ok l) (i : Nat) : 0 ≤ limb l i ∧ limb l i < 10000 := by
  unfold limb
  rw [List.getD_eq_getElem?_getD]
  cases hx : l[i]? with
  | none => simp
  | some x => exact h x (List.mem_of_getElem? hx)
theorem limbsOk_of {l : List Int} (h : Ok l) : limbsOk l = true := by
  unfold limbsOk
  rw [List.all_eq_true]
  intro x hx
  have := h x hx
  simp; omega
theorem limb_out {l : List Int} {i : Nat} (h : l.length ≤ i) : limb l i = 0 := by simp [limb, h]
theorem rd_limb (l : List Int) (i : Nat) : rd l (i : Int) = limb l i := by simp [rd, limb]

theorem val_append (a b : List Int) : val (a ++ b) = val a + 10000 ^ a.length * val b := by
  induction a with
  | nil => simp [val]
  | cons x r ih => simp only [List.cons_append, val, ih, List.length_cons]; grind
theorem val_snoc (a : List Int) (x : Int) : val (a ++ [x]) = val a + 10000 ^ a.length * x := by rw [val_append]; simp [val]
theorem val_lim (n : Nat) : val (lim n) = n := by
  induction n using Nat.strongRecOn with
  | _ n ih =>
    by_cases h : n = 0
    · subst h; rw [lim_zero]; rfl
    · rw [lim_pos h, val, ih _ (by omega)]; omega
theorem pow_pos' (k : Nat) : (0 : Int) < 10000 ^ k := Int.pow_pos (by decide)
theorem val_bounds {l : List Int} (h : Ok l) : 0 ≤ val l ∧ val l < 10000 ^ l.length := by
  induction l with
  | nil => simp [val]
  | cons x r ih =>
    have ⟨h1, h2⟩ := ok_cons.1 h
    have ⟨h3, h4⟩ := ih h2
    simp only [val, List.length_cons]
    rw [Int.pow_succ]
    omega
theorem val_replicate (n : Nat) : val (List.replicate n 0) = 0 := by
  induction n with
  | zero => rfl
  | succ n ih => rw [List.replicate_succ, val, ih]; rfl
theorem val_take_succ (l : List Int) (i : Nat) : val (l.take (i + 1)) = val (l.take i) + 10000 ^ i * limb l i := by
  by_cases h : i < l.length
  · rw [take_step l i h, val_snoc, List.length_take, Nat.min_eq_left (by omega)]
  · rw [List.take_of_length_le (by omega), List.take_of_length_le (by omega), limb_out (by omega)]; omega
theorem val_set {l : List Int} {j : Nat} (h : j < l.length) (v : Int) : val (l.set j v) = val l + 10000 ^ j * (v - limb l j) := by
  induction l generalizing j with
  | nil => simp at h
  | cons x r ih =>
    cases j with
    | zero => simp [val, limb]; omega
    | succ j =>
      simp only [List.set_cons_succ, val]
      rw [ih (by simpa using h)]
      have : limb (x :: r) (j + 1) = limb r j := by simp [limb]
      rw [this]
      grind
theorem limb_set (l : List Int) (j i : Nat) (v : Int) (h : j < l.length) : limb (l.set j v) i = if i = j then v else limb l i := by
  unfold limb
  simp only [List.getD_eq_getElem?_getD, List.getElem?_set]
  by_cases e : j = i
  · subst e; simp [h]
  · rw [if_neg e, if_neg (Ne.symm e)]
theorem limb_val {l : List Int} (h : Ok l) (i : Nat) : 10000 ^ i * limb l i ≤ val l := by
  have h1 := val_take_succ l i
  have h2 := (val_bounds (ok_take h i)).1
  have h3 : val (l.take (i + 1)) ≤ val l := by
    have e := val_append (l.take (i + 1)) (l.drop (i + 1))
    rw [List.take_append_drop] at e
    have h4 := (val_bounds (l := l.drop (i + 1)) (fun x hx => h x (List.mem_of_mem_drop hx))).1
    have := Int.mul_nonneg (Int.le_of_lt (pow_pos' (l.take (i + 1)).length)) h4
    omega
  omega

theorem trimL_cons (x : Int) (r : List Int) : trimL (x :: r) = if trimL r = [] then (if x = 0 then [] else [x]) else x :: trimL r := by
  simp only [trimL, List.reverse_cons, List.dropWhile_append]
  by_cases h : (r.reverse.dropWhile (· == 0)) = []
  · simp only [h, List.isEmpty_nil, if_true, List.reverse_nil]
    by_cases hx : x = 0 <;> simp [hx]
  · simp [h]
theorem trimL_lim {l : List Int} (h : Ok l) : trimL l = lim (val l).toNat := by
  induction l with
  | nil => rw [val]; simp [lim_zero, trimL]
  | cons x r ih =>
    have ⟨h1, h2⟩ := ok_cons.1 h
    have hv := (val_bounds h2).1
    rw [trimL_cons, ih h2, val]
    by_cases hz : val r = 0
    · rw [hz]
      simp only [Int.toNat_zero, lim_zero, if_true, Int.mul_zero, Int.add_zero]
      by_cases hx : x = 0
      · subst hx; simp [lim_zero]
      · rw [if_neg hx, lim_pos (by omega), show x.toNat / 10000 = 0 by omega, lim_zero]
        congr 1
        omega
    · have e1 : (val r).toNat ≠ 0 := by omega
      rw [if_neg (fun e => e1 (lim_nil.1 e)), lim_pos (show (x + 10000 * val r).toNat ≠ 0 by omega)]
      have e2 : (x + 10000 * val r).toNat / 10000 = (val r).toNat := by omega
      rw [e2]
      congr 1
      omega
theorem trimL_of_lim (n : Nat) : trimL (lim n) = lim n := by
  rw [trimL_lim (ok_lim n), val_lim]
  rfl
theorem lim_top {n : Nat} (h : n ≠ 0) : ∃ r x, lim n = r ++ [x] ∧ x ≠ 0 := by
  rcases List.eq_nil_or_concat (lim n) with e | ⟨r, x, e⟩
  · exact absurd (lim_nil.1 e) h
  · rw [List.concat_eq_append] at e
    refine ⟨r, x, e, ?_⟩
    rintro rfl
    have h1 := trimL_of_lim n
    rw [e, trimL_zero] at h1
    have h2 := congrArg List.length h1
    have h3 := congrArg List.length (trimL_prefix r)
    rw [List.length_take] at h3
    simp only [List.length_append, List.length_cons, List.length_nil] at h2
    omega
theorem lim_low {n : Nat} (h : n ≠ 0) : (10000 : Int) ^ ((lim n).length - 1) ≤ n := by
  obtain ⟨r, x, e, hx⟩ := lim_top h
  have h1 := val_lim n
  have ho := ok_lim n
  rw [e] at h1 ho ⊢
  rw [val_snoc] at h1
  have ⟨h2, h3⟩ := ok_append.1 ho
  have h4 := (ok_cons.1 h3).1
  have h5 := (val_bounds h2).1
  simp only [List.length_append, List.length_cons, List.length_nil, Nat.add_sub_cancel]
  have h6 : (10000 : Int) ^ r.length * 1 ≤ 10000 ^ r.length * x := Int.mul_le_mul_of_nonneg_left (by omega) (Int.le_of_lt (pow_pos' _))
  omega
theorem lim_high (n : Nat) : (n : Int) < 10000 ^ (lim n).length := by
  have := (val_bounds (ok_lim n)).2
  rw [val_lim] at this
  exact this
theorem pow_mono' {a b : Nat} (h : a ≤ b) : (10000 : Int) ^ a ≤ 10000 ^ b := by
  obtain ⟨d, rfl⟩ : ∃ d, b = a + d := ⟨b - a, by omega⟩
  rw [Int.pow_add]
  have h1 := pow_pos' a
  have h2 := pow_pos' d
  have := Int.mul_le_mul_of_nonneg_left (show (1 : Int) ≤ 10000 ^ d by omega) (Int.le_of_lt h1)
  omega
theorem lim_len {n k : Nat} (h : (n : Int) < 10000 ^ k) : (lim n).length ≤ k := by
  by_cases h0 : n = 0
  · subst h0; rw [lim_zero]; simp
  · have h1 := lim_low h0
    rcases Nat.lt_or_ge k (lim n).length with hk | hk
    · have := pow_mono' (a := k) (b := (lim n).length - 1) (by omega)
      omega
    · exact hk

theorem cmp_lt' {x y : Int} (h : x < y) : Lib.compareInt x y = -1 := by unfold Lib.compareInt; rw [if_pos h]
theorem cmp_gt' {x y : Int} (h : y < x) : Lib.compareInt x y = 1 := by unfold Lib.compareInt; rw [if_neg (by omega), if_pos h]
theorem cmp_eq' {x y : Int} (h : x = y) : Lib.compareInt x y = 0 := by unfold Lib.compareInt; rw [if_neg (by omega), if_neg (by omega)]
theorem cmpK_val {a b : List Int} (ha : Ok a) (hb : Ok b) : ∀ k, cmpK a b k = Lib.compareInt (val (a.take k)) (val (b.take k))
  | 0 => rfl
  | k + 1 => by
    rw [cmpK, val_take_succ, val_take_succ, cmpK_val ha hb k]
    have h1 := val_bounds (ok_take ha k)
    have h2 := val_bounds (ok_take hb k)
    have hk : ∀ l : List Int, (10000 : Int) ^ (l.take k).length ≤ 10000 ^ k := fun l => pow_mono' (by rw [List.length_take]; omega)
    have h3 := hk a
    have h4 := hk b
    have hp := pow_pos' k
    generalize (10000 : Int) ^ k = p at *
    by_cases e : limb a k = limb b k
    · rw [if_pos e, e]
      unfold Lib.compareInt
      repeat' split
      all_goals first | rfl | omega
    · rw [if_neg e]
      rcases Int.lt_or_gt_of_ne e with hl | hl
      · have := Int.mul_le_mul_of_nonneg_left (show limb a k + 1 ≤ limb b k by omega) (Int.le_of_lt hp)
        rw [Int.mul_add, Int.mul_one] at this
        rw [cmp_lt' hl, cmp_lt' (by omega)]
      · have := Int.mul_le_mul_of_nonneg_left (show limb b k + 1 ≤ limb a k by omega) (Int.le_of_lt hp)
        rw [Int.mul_add, Int.mul_one] at this
        rw [cmp_gt' hl, cmp_gt' (by omega)]
theorem cmpL_lim (m n : Nat) : cmpL (lim m) (lim n) = Lib.compareInt m n := by
  unfold cmpL
  by_cases h : (lim m).length = (lim n).length
  · rw [if_pos h, cmpK_val (ok_lim m) (ok_lim n), List.take_of_length_le (Nat.le_refl _), h, List.take_of_length_le (Nat.le_refl _), val_lim, val_lim]
  · rw [if_neg h]
    have key : ∀ m n : Nat, (lim m).length < (lim n).length → (m : Int) < n := by
      intro m n hl
      have h0 : n ≠ 0 := by rintro rfl; rw [lim_zero] at hl; simp at hl
      have h1 := lim_high m
      have h2 := lim_low h0
      have := pow_mono' (a := (lim m).length) (b := (lim n).length - 1) (by omega)
      omega
    rcases Nat.lt_or_gt_of_ne h with hl | hl
    · rw [cmp_lt' (by omega), cmp_lt' (key m n hl)]
    · rw [cmp_gt' (by omega), cmp_gt' (key n m hl)]
end Go.Proofs.YtmkmldkfaehefaaDoor

end

section
set_option linter.unusedVariables false
namespace Go.Proofs.YtmkmldkfaehefaaDoor
open Go.RowKit Go.Proofs.YtmkmldkfaehefaaDoor.Pn Go.Proofs.YtmkmldkfaehefaaDoorW.PrintWords Go.Proofs.YtmkmldkfaehefaaDoorW.PrintLast Go.Proofs.YtmkmldkfaehefaaDoorW.PrintMore

theorem w64 {x : Int} (h0 : -9223372036854775808 ≤ x) (h1 : x < 9223372036854775808) : wrap64 x = x := by unfold wrap64; omega

theorem trim_lim {l : List Int} {k : Nat} (ho : Ok l) (hl : l.length ≤ 9223372036854775807) (hk : l.length < k) : nat_limbs_trim.f k l = some (lim (val l).toNat) := by
  rw [trim_tells l.length l rfl hl k hk, trimL_lim ho]
theorem at_limb (l : List Int) (i : Nat) : nat_limbs_at.f l (i : Int) = some (limb l i) := by
  unfold nat_limbs_at.f
  by_cases h : i < l.length
  · rw [if_pos (by omega), if_pos (by omega), rd_limb]
  · rw [if_neg (by omega), limb_out (by omega)]

theorem add_loop {a b : List Int} {s : Int} (hs : s = 1 ∨ s = -1) (ha : Ok a) (hb : Ok b) {N : Nat} (hN : N ≤ 1000000000) (hal : a.length ≤ N) (hbl : b.length ≤ N)
    (h0 : 0 ≤ val a + s * val b) (h1 : val a + s * val b < 10000 ^ N) :
    ∀ (d i : Nat), i + d = N → ∀ (out : List Int) (c : Int) (k : Nat), d + N + 2 ≤ k → Ok out → out.length = i → -1 ≤ c → c ≤ 1 →
      val out + c * 10000 ^ i = val (a.take i) + s * val (b.take i) → nat_add.l0 k a b s out c (N : Int) (i : Int) = some (lim (val a + s * val b).toNat)
  | 0, i, hi, out, c, k, hk, ho, hol, hc0, hc1, hv => by
    obtain rfl : i = N := by omega
    obtain ⟨k, rfl⟩ : ∃ m, k = m + 1 := ⟨k - 1, by omega⟩
    simp only [nat_add.l0]
    rw [if_neg (by omega), trim_lim ho (by omega) (by omega)]
    rw [List.take_of_length_le hal, List.take_of_length_le hbl] at hv
    have ⟨h2, h3⟩ := val_bounds ho
    rw [hol] at h3
    have hp := pow_pos' i
    have hc : c = 0 := by
      rcases (by omega : c = -1 ∨ c = 0 ∨ c = 1) with rfl | rfl | rfl <;> omega
    subst hc
    rw [Int.zero_mul, Int.add_zero] at hv
    rw [hv]
    rfl
  | d + 1, i, hi, out, c, k, hk, ho, hol, hc0, hc1, hv => by
    obtain ⟨k, rfl⟩ : ∃ m, k = m + 1 := ⟨k - 1, by omega⟩
    simp only [nat_add.l0]
    rw [if_pos (by omega), at_limb, at_limb]
    simp only [Option.bind_some]
    have hta := val_take_succ a i
    have htb := val_take_succ b i
    have hx := limb_ok ha i
    have hy := limb_ok hb i
    generalize limb a i = x at *
    generalize limb b i = y at *
    have hsy : -9999 ≤ s * y ∧ s * y ≤ 9999 := by rcases hs with rfl | rfl <;> omega
    rw [w64 (x := s * y) (by omega) (by omega), w64 (x := x + s * y) (by omega) (by omega), w64 (x := x + s * y + c) (by omega) (by omega)]
    have key : ∀ (v c' : Int), 0 ≤ v → v < 10000 → -1 ≤ c' → c' ≤ 1 → v + 10000 * c' = x + s * y + c → nat_add.l0 k a b s (out ++ [v]) c' (N : Int) (wrap64 ((i : Int) + 1)) = some (lim (val a + s * val b).toNat) := by
      intro v c' hv0 hv1 hc0' hc1' he
      rw [w64 (by omega) (by omega)]
      refine add_loop hs ha hb hN hal hbl h0 h1 d (i + 1) (by omega) _ c' k (by omega) (ok_snoc ho hv0 hv1) (by simp [hol]) hc0' hc1' ?_
      rw [val_snoc, hol, hta, htb, Int.pow_succ]
      generalize (10000 : Int) ^ i = p at *
      have e : v = x + s * y + c - 10000 * c' := by omega
      subst e
      grind
    by_cases hn : x + s * y + c < 0
    · rw [if_pos hn, w64 (x := x + s * y + c + 10000) (by omega) (by omega), if_neg (by omega), if_pos (by omega)]
      exact key _ (-1) (by omega) (by omega) (by omega) (by omega) (by omega)
    · rw [if_neg hn]
      by_cases hn2 : x + s * y + c ≥ 10000
      · rw [if_pos hn2, if_pos (by omega), w64 (x := x + s * y + c - 10000) (by omega) (by omega)]
        exact key _ 1 (by omega) (by omega) (by omega) (by omega) (by omega)
      · rw [if_neg hn2, if_pos (by omega)]
        exact key _ 0 (by omega) (by omega) (by omega) (by omega) (by omega)
theorem mx_nat (m n : Nat) : mx (m : Int) (n : Int) = ((max m n : Nat) : Int) := by unfold mx; split <;> omega
theorem add_tells {a b : List Int} {s : Int} (hs : s = 1 ∨ s = -1) (ha : Ok a) (hb : Ok b) (hal : a.length ≤ 100000000) (hbl : b.length ≤ 100000000) (h0 : 0 ≤ val a + s * val b) (k : Nat) (hk : 300000000 ≤ k) :
    nat_add.f k a b s = some (lim (val a + s * val b).toNat) := by
  unfold nat_add.f
  have hN : wrap64 (mx (a.length : Int) (b.length : Int) + 1) = ((max a.length b.length + 1 : Nat) : Int) := by
    rw [mx_nat, w64 (by omega) (by omega)]
    omega
  rw [hN, if_pos (by omega), if_pos (by omega)]
  have hva := (val_bounds ha).2
  have hvb := (val_bounds hb).2
  have hvb0 := (val_bounds hb).1
  have p1 := pow_mono' (a := a.length) (b := max a.length b.length) (by omega)
  have p2 := pow_mono' (a := b.length) (b := max a.length b.length) (by omega)
  refine add_loop hs ha hb (by omega) (by omega) (by omega) h0 ?_ (max a.length b.length + 1) 0 (by omega) [] 0 k (by omega) ok_nil rfl (by omega) (by omega) (by simp [val])
  rw [Int.pow_succ]
  rcases hs with rfl | rfl <;> omega

theorem mul_alg {p r u q c x n y V B0 T t : Int} (hv : V + c * (p * r) = B0 + n * T * p) (hq : c + (x + n * y) = q) (ht : t = q - 10000 * u) : V + p * r * (t - x) + u * (p * r * 10000) = B0 + n * (T + r * y) * p := by
  subst ht
  subst hq
  have e : V = B0 + n * T * p - c * (p * r) := by omega
  subst e
  grind
theorem mul_inner {a b : List Int} {n : Int} {i L : Nat} {R : Option (List Int)} (hb : Ok b) (hn : 0 ≤ n ∧ n < 10000) (hL : L ≤ 1000000000) (hi : i + b.length + 1 ≤ L) {B0 : Int} {need : Nat}
    (H : ∀ (out : List Int) (k : Nat) (c : Int), need ≤ k → Ok out → out.length = L → 0 ≤ c → val out + c * 10000 ^ (i + b.length + 1) = B0 + n * val b * 10000 ^ i → nat_mul.l0 k b out a (a.length : Int) ((i : Int) + 1) = R) :
    ∀ (d j : Nat), j + d = b.length + 1 → ∀ (out : List Int) (c : Int) (k : Nat), d + 1 + need ≤ k → Ok out → out.length = L → 0 ≤ c → c < 10000 →
      val out + c * 10000 ^ (i + j) = B0 + n * val (b.take j) * 10000 ^ i → nat_mul.l1 k b out (i : Int) n c a (a.length : Int) (i : Int) ((b.length : Int) + 1) (j : Int) = R
  | 0, j, hj, out, c, k, hk, ho, hol, hc0, hc1, hv => by
    obtain rfl : j = b.length + 1 := by omega
    obtain ⟨k, rfl⟩ : ∃ m, k = m + 1 := ⟨k - 1, by omega⟩
    simp only [nat_mul.l1]
    rw [if_neg (by omega), w64 (by omega) (by omega)]
    rw [List.take_of_length_le (by omega)] at hv
    exact H out k c (by omega) ho hol hc0 hv
  | d + 1, j, hj, out, c, k, hk, ho, hol, hc0, hc1, hv => by
    have HV := Lib.hid hv
    clear hv
    obtain ⟨k, rfl⟩ : ∃ m, k = m + 1 := ⟨k - 1, by omega⟩
    have hij : wrap64 ((i : Int) + (j : Int)) = ((i + j : Nat) : Int) := by rw [w64 (by omega) (by omega)]; omega
    simp only [nat_mul.l1]
    rw [hij]
    clear hij
    have g1 : (j : Int) < (b.length : Int) + 1 := by omega
    have g2 : (0 : Int) ≤ ((i + j : Nat) : Int) := by omega
    have g3 : ((i + j : Nat) : Int) < (out.length : Int) := by omega
    rw [if_pos g1]
    rw [if_pos g2]
    rw [if_pos g3]
    rw [at_limb, rd_limb, Int.toNat_natCast]
    simp only [Option.bind_some]
    have htb := val_take_succ b j
    have hy := limb_ok hb j
    have hx := limb_ok ho (i + j)
    have hset := fun v => val_set (l := out) (j := i + j) (by omega) v
    generalize limb b j = y at *
    generalize limb out (i + j) = x at *
    have hny0 : 0 ≤ n * y := Int.mul_nonneg hn.1 hy.1
    have hny1 : n * y ≤ 9999 * 9999 := by
      have h1 := Int.mul_le_mul (show n ≤ 9999 by omega) (show y ≤ 9999 by omega) hy.1 (by omega : (0 : Int) ≤ 9999)
      exact h1
    rw [w64 (x := n * y) (by omega) (by omega), w64 (x := x + n * y) (by omega) (by omega), w64 (x := c + (x + n * y)) (by omega) (by omega)]
    generalize hq : c + (x + n * y) = q at *
    have hq0 : 0 ≤ q := by omega
    rw [Int.tmod_eq_emod_of_nonneg hq0, Int.tdiv_eq_ediv_of_nonneg hq0, w64 (x := q / 10000) (by omega) (by omega), w64 (by omega) (by omega)]
    refine mul_inner hb hn hL hi H d (j + 1) (by omega) _ _ k (by omega) (ok_set ho _ (by omega) (by omega)) (by simp [hol]) (by omega) (by omega) ?_
    rw [hset, htb, show i + (j + 1) = (i + j) + 1 by omega, Int.pow_succ, Int.pow_add]
    have hv := HV.out
    rw [Int.pow_add] at hv
    have e := Int.mul_ediv_add_emod q 10000
    exact mul_alg hv hq (by omega)
theorem mul_outer {a b : List Int} (ha : Ok a) (hb : Ok b) {L : Nat} (hL : L ≤ 1000000000) (hab : a.length + b.length + 1 = L) :
    ∀ (d i : Nat), i + d = a.length → ∀ (out : List Int) (k : Nat), d * (b.length + 4) + L + 2 ≤ k → Ok out → out.length = L → val out = val (a.take i) * val b → nat_mul.l0 k b out a (a.length : Int) (i : Int) = some (lim (val a * val b).toNat)
  | 0, i, hi, out, k, hk, ho, hol, hv => by
    obtain rfl : i = a.length := by omega
    obtain ⟨k, rfl⟩ : ∃ m, k = m + 1 := ⟨k - 1, by omega⟩
    simp only [nat_mul.l0]
    rw [if_neg (by omega), trim_lim ho (by omega) (by omega)]
    rw [List.take_of_length_le (by omega)] at hv
    rw [hv]
    rfl
  | d + 1, i, hi, out, k, hk, ho, hol, hv => by
    obtain ⟨k, rfl⟩ : ∃ m, k = m + 1 := ⟨k - 1, by omega⟩
    simp only [nat_mul.l0]
    rw [if_pos (by omega), if_pos (by omega), if_pos (by omega), rd_limb, w64 (x := (b.length : Int) + 1) (by omega) (by omega)]
    rw [Nat.add_mul] at hk
    have hx := limb_ok ha i
    have hta := val_take_succ a i
    refine mul_inner (B0 := val out) (need := d * (b.length + 4) + L + 2) hb hx hL (by omega) ?_ (b.length + 1) 0 (by omega) out 0 k (by omega) ho hol (by omega) (by omega) (by simp [val])
    intro out' k' c hk' ho' hol' hc0 hv'
    have hvb := val_bounds hb
    have hva := val_bounds (ok_take ha (i + 1))
    have hlen : (a.take (i + 1)).length = i + 1 := by rw [List.length_take]; omega
    rw [hlen] at hva
    have hval : val out' + c * 10000 ^ (i + b.length + 1) = val (a.take (i + 1)) * val b := by
      rw [hv', hv, hta]
      grind
    have hc : c = 0 := by
      have h1 : val (a.take (i + 1)) * val b < 10000 ^ (i + b.length + 1) := by
        have h2 : val (a.take (i + 1)) * val b ≤ val (a.take (i + 1)) * 10000 ^ b.length := Int.mul_le_mul_of_nonneg_left (by omega) hva.1
        have h3 : val (a.take (i + 1)) * 10000 ^ b.length < 10000 ^ (i + 1) * 10000 ^ b.length := Int.mul_lt_mul_of_pos_right hva.2 (pow_pos' _)
        rw [← Int.pow_add, show i + 1 + b.length = i + b.length + 1 by omega] at h3
        omega
      have h2 := (val_bounds ho').1
      rcases Int.lt_or_le 0 c with hp | hp
      · have := Int.mul_le_mul_of_nonneg_right (show 1 ≤ c by omega) (Int.le_of_lt (pow_pos' (i + b.length + 1)))
        omega
      · omega
    subst hc
    rw [Int.zero_mul, Int.add_zero] at hval
    have := mul_outer ha hb hL hab d (i + 1) (by omega) out' k' hk' ho' hol' hval
    rw [show ((i : Int) + 1) = ((i + 1 : Nat) : Int) by omega]
    exact this
theorem mul_tells {a b : List Int} (ha : Ok a) (hb : Ok b) (hal : a.length ≤ 100000000) (hbl : b.length ≤ 100000000) (k : Nat) (hk : a.length * (b.length + 4) + a.length + b.length + 3 ≤ k) : nat_mul.f k a b = some (lim (val a * val b).toNat) := by
  unfold nat_mul.f
  have hN : wrap64 (wrap64 ((a.length : Int) + (b.length : Int)) + 1) = ((a.length + b.length + 1 : Nat) : Int) := by
    rw [w64 (x := (a.length : Int) + (b.length : Int)) (by omega) (by omega), w64 (by omega) (by omega)]
    omega
  rw [hN, if_pos (by omega), if_pos (by omega), Int.toNat_natCast]
  exact mul_outer ha hb (L := a.length + b.length + 1) (by omega) rfl a.length 0 (by omega) _ k (by omega) (ok_replicate _) (by simp) (by simp [val_replicate, val])
end Go.Proofs.YtmkmldkfaehefaaDoor

end

section
set_option linter.unusedVariables false
namespace Go.Proofs.YtmkmldkfaehefaaDoor
open Go.RowKit Go.Proofs.YtmkmldkfaehefaaDoor.Pt Go.Proofs.YtmkmldkfaehefaaDoorW.PrintWords Go.Proofs.YtmkmldkfaehefaaDoorW.PrintLast Go.Proofs.YtmkmldkfaehefaaDoorW.PrintMore

theorem at_limb' (l : List Int) (i : Nat) : Pt.nat_limbs_at.f l (i : Int) = some (limb l i) := at_limb l i
theorem step_alg {p r u q c x B0 T t e : Int} (hv : x + c * (p * r) = B0 + T * p) (hq : e + c = q) (ht : t + 10000 * u = q) (L : Int) : x + p * r * (L + t - L) + u * (p * r * 10000) = B0 + (T + r * e) * p := by
  have e1 : t = e + c - 10000 * u := by omega
  subst e1
  have e2 : x = B0 + T * p - c * (p * r) := by omega
  subst e2
  grind

theorem take_loop {v : List Int} {q : Int} {at_ : Nat} (hv : Ok v) (hq : 0 ≤ q ∧ q ≤ 10000) {L : Nat} (hL : L ≤ 1000000000) (hL2 : at_ + v.length + 1 ≤ L) {B0 : Int} {u0 : List Int} :
    ∀ (d j : Nat), j + d = v.length + 1 → ∀ (u : List Int) (c : Int) (k : Nat), d + 1 ≤ k → Ok u → u.length = L → -10001 ≤ c → c ≤ 0 → (∀ i, at_ + v.length + 1 ≤ i → limb u i = limb u0 i) →
      val u + c * 10000 ^ (at_ + j) = B0 + (-q * val (v.take j)) * 10000 ^ at_ →
      ∃ u' c', nat_take.l0 k u v (at_ : Int) q c ((v.length : Int) + 1) (j : Int) = some (c', u') ∧ Ok u' ∧ u'.length = L ∧ -10001 ≤ c' ∧ c' ≤ 0 ∧ (∀ i, at_ + v.length + 1 ≤ i → limb u' i = limb u0 i) ∧
        val u' + c' * 10000 ^ (at_ + v.length + 1) = B0 + (-q * val v) * 10000 ^ at_
  | 0, j, hj, u, c, k, hk, ho, hol, hc0, hc1, hsame, hval => by
    obtain rfl : j = v.length + 1 := by omega
    obtain ⟨k, rfl⟩ : ∃ m, k = m + 1 := ⟨k - 1, by omega⟩
    simp only [nat_take.l0]
    have g1 : ¬ ((v.length + 1 : Nat) : Int) < (v.length : Int) + 1 := by omega
    rw [if_neg g1]
    rw [List.take_of_length_le (by omega)] at hval
    exact ⟨u, c, rfl, ho, hol, hc0, hc1, hsame, hval⟩
  | d + 1, j, hj, u, c, k, hk, ho, hol, hc0, hc1, hsame, hval => by
    have HV := Lib.hid hval
    clear hval
    obtain ⟨k, rfl⟩ : ∃ m, k = m + 1 := ⟨k - 1, by omega⟩
    have hij : wrap64 ((at_ : Int) + (j : Int)) = ((at_ + j : Nat) : Int) := by rw [w64 (by omega) (by omega)]; omega
    simp only [nat_take.l0]
    rw [hij]
    clear hij
    have g1 : (j : Int) < (v.length : Int) + 1 := by omega
    have g2 : (0 : Int) ≤ ((at_ + j : Nat) : Int) := by omega
    have g3 : ((at_ + j : Nat) : Int) < (u.length : Int) := by omega
    rw [if_pos g1]
    rw [if_pos g2]
    rw [if_pos g3]
    rw [at_limb', rd_limb, Int.toNat_natCast]
    simp only [Option.bind_some]
    have htb := val_take_succ v j
    have hy := limb_ok hv j
    have hx := limb_ok ho (at_ + j)
    have hset := fun z => val_set (l := u) (j := at_ + j) (by omega) z
    have hlset := fun z i => limb_set u (at_ + j) i z (by omega)
    generalize limb v j = y at *
    generalize limb u (at_ + j) = x at *
    have hqy0 : 0 ≤ q * y := Int.mul_nonneg hq.1 hy.1
    have hqy1 : q * y ≤ 10000 * 9999 := by
      have h1 := Int.mul_le_mul (show q ≤ 10000 by omega) (show y ≤ 9999 by omega) hy.1 (by omega : (0 : Int) ≤ 10000)
      exact h1
    rw [w64 (x := q * y) (by omega) (by omega), w64 (x := x - q * y) (by omega) (by omega), w64 (x := x - q * y + c) (by omega) (by omega)]
    generalize hn : x - q * y + c = n at *
    have hn0 : -100020000 ≤ n := by omega
    have hn1 : n ≤ 9999 := by omega
    have key : ∀ c' t : Int, -10001 ≤ c' → c' ≤ 0 → 0 ≤ t → t < 10000 → t + 10000 * c' = n → ∃ u' c'', nat_take.l0 k (u.set (at_ + j) t) v (at_ : Int) q c' ((v.length : Int) + 1) ((j + 1 : Nat) : Int) = some (c'', u') ∧ Ok u' ∧ u'.length = L ∧ -10001 ≤ c'' ∧ c'' ≤ 0 ∧ (∀ i, at_ + v.length + 1 ≤ i → limb u' i = limb u0 i) ∧ val u' + c'' * 10000 ^ (at_ + v.length + 1) = B0 + (-q * val v) * 10000 ^ at_ := by
      intro c' t h1 h2 h3 h4 h5
      refine take_loop hv hq hL hL2 d (j + 1) (by omega) _ c' k (by omega) (ok_set ho _ h3 h4) (by simp [hol]) h1 h2 ?_ ?_
      · intro i hi
        rw [hlset, if_neg (by omega)]
        exact hsame i hi
      · rw [hset, htb, show at_ + (j + 1) = (at_ + j) + 1 by omega, Int.pow_succ, Int.pow_add]
        have hval := HV.out
        rw [Int.pow_add] at hval
        have h6 := step_alg (e := x - q * y) hval hn h5 x
        generalize (10000 : Int) ^ at_ = p at *
        generalize (10000 : Int) ^ j = r at *
        subst hn
        have h7 : t = x - q * y + c - 10000 * c' := by omega
        subst h7
        have h8 : val u = B0 + -q * val (v.take j) * p - c * (p * r) := by omega
        rw [h8]
        grind
    have hj1 : wrap64 ((j : Int) + 1) = ((j + 1 : Nat) : Int) := by rw [w64 (by omega) (by omega)]; omega
    rw [hj1]
    clear hj1
    by_cases hneg : n < 0
    · rw [if_pos hneg, w64 (x := -n) (by omega) (by omega), w64 (x := -n + 10000) (by omega) (by omega), w64 (x := -n + 10000 - 1) (by omega) (by omega), Int.tdiv_eq_ediv_of_nonneg (by omega), w64 (x := (-n + 10000 - 1) / 10000) (by omega) (by omega), w64 (x := -((-n + 10000 - 1) / 10000)) (by omega) (by omega), w64 (x := -((-n + 10000 - 1) / 10000) * 10000) (by omega) (by omega), w64 (x := n - -((-n + 10000 - 1) / 10000) * 10000) (by omega) (by omega)]
      exact key _ _ (by omega) (by omega) (by omega) (by omega) (by omega)
    · rw [if_neg hneg, w64 (x := n - 0 * 10000) (by omega) (by omega)]
      exact key _ _ (by omega) (by omega) (by omega) (by omega) (by omega)

theorem give_loop {v : List Int} {at_ : Nat} (hv : Ok v) {L : Nat} (hL : L ≤ 1000000000) (hL2 : at_ + v.length + 1 ≤ L) {B0 : Int} {u0 : List Int} :
    ∀ (d j : Nat), j + d = v.length + 1 → ∀ (u : List Int) (c : Int) (k : Nat), d + 1 ≤ k → Ok u → u.length = L → 0 ≤ c → c ≤ 1 → (∀ i, at_ + v.length + 1 ≤ i → limb u i = limb u0 i) →
      val u + c * 10000 ^ (at_ + j) = B0 + val (v.take j) * 10000 ^ at_ →
      ∃ u' c', nat_give.l0 k u v (at_ : Int) c ((v.length : Int) + 1) (j : Int) = some u' ∧ Ok u' ∧ u'.length = L ∧ 0 ≤ c' ∧ c' ≤ 1 ∧ (∀ i, at_ + v.length + 1 ≤ i → limb u' i = limb u0 i) ∧
        val u' + c' * 10000 ^ (at_ + v.length + 1) = B0 + val v * 10000 ^ at_
  | 0, j, hj, u, c, k, hk, ho, hol, hc0, hc1, hsame, hval => by
    obtain rfl : j = v.length + 1 := by omega
    obtain ⟨k, rfl⟩ : ∃ m, k = m + 1 := ⟨k - 1, by omega⟩
    simp only [nat_give.l0]
    have g1 : ¬ ((v.length + 1 : Nat) : Int) < (v.length : Int) + 1 := by omega
    rw [if_neg g1]
    rw [List.take_of_length_le (by omega)] at hval
    exact ⟨u, c, rfl, ho, hol, hc0, hc1, hsame, hval⟩
  | d + 1, j, hj, u, c, k, hk, ho, hol, hc0, hc1, hsame, hval => by
    have HV := Lib.hid hval
    clear hval
    obtain ⟨k, rfl⟩ : ∃ m, k = m + 1 := ⟨k - 1, by omega⟩
    have hij : wrap64 ((at_ : Int) + (j : Int)) = ((at_ + j : Nat) : Int) := by rw [w64 (by omega) (by omega)]; omega
    simp only [nat_give.l0]
    rw [hij]
    clear hij
    have g1 : (j : Int) < (v.length : Int) + 1 := by omega
    have g2 : (0 : Int) ≤ ((at_ + j : Nat) : Int) := by omega
    have g3 : ((at_ + j : Nat) : Int) < (u.length : Int) := by omega
    rw [if_pos g1]
    rw [if_pos g2]
    rw [if_pos g3]
    rw [at_limb', rd_limb, Int.toNat_natCast]
    simp only [Option.bind_some]
    have htb := val_take_succ v j
    have hy := limb_ok hv j
    have hx := limb_ok ho (at_ + j)
    have hset := fun z => val_set (l := u) (j := at_ + j) (by omega) z
    have hlset := fun z i => limb_set u (at_ + j) i z (by omega)
    generalize limb v j = y at *
    generalize limb u (at_ + j) = x at *
    have hj1 : wrap64 ((j : Int) + 1) = ((j + 1 : Nat) : Int) := by rw [w64 (by omega) (by omega)]; omega
    rw [hj1]
    clear hj1
    rw [w64 (x := x + y) (by omega) (by omega), w64 (x := x + y + c) (by omega) (by omega)]
    generalize hn : x + y + c = n at *
    have hn0 : 0 ≤ n := by omega
    rw [Int.tmod_eq_emod_of_nonneg hn0, Int.tdiv_eq_ediv_of_nonneg hn0, w64 (x := n / 10000) (by omega) (by omega)]
    have h5 : n % 10000 + 10000 * (n / 10000) = n := by omega
    have h1 : 0 ≤ n / 10000 := by omega
    have h2 : n / 10000 ≤ 1 := by omega
    have h3 : 0 ≤ n % 10000 := by omega
    have h4 : n % 10000 < 10000 := by omega
    generalize n % 10000 = t at *
    generalize n / 10000 = c' at *
    refine give_loop hv hL hL2 d (j + 1) (by omega) _ c' k (by omega) (ok_set ho _ h3 h4) (by simp [hol]) h1 h2 ?_ ?_
    · intro i hi
      rw [hlset, if_neg (by omega)]
      exact hsame i hi
    · rw [hset, htb, show at_ + (j + 1) = (at_ + j) + 1 by omega, Int.pow_succ, Int.pow_add]
      have hval := HV.out
      rw [Int.pow_add] at hval
      generalize (10000 : Int) ^ at_ = p at *
      generalize (10000 : Int) ^ j = r at *
      have h7 : t = x + y + c - 10000 * c' := by omega
      subst h7
      have h8 : val u = B0 + val (v.take j) * p - c * (p * r) := by omega
      rw [h8]
      grind
theorem take_tells {u v : List Int} {q : Int} {at_ : Nat} (hu : Ok u) (hv : Ok v) (hq : 0 ≤ q ∧ q ≤ 10000) (hL : u.length ≤ 1000000000) (hL2 : at_ + v.length + 1 ≤ u.length) (k : Nat) (hk : v.length + 2 ≤ k) :
    ∃ u' c', nat_take.f k u v (at_ : Int) q = some (c', u') ∧ Ok u' ∧ u'.length = u.length ∧ -10001 ≤ c' ∧ c' ≤ 0 ∧ (∀ i, at_ + v.length + 1 ≤ i → limb u' i = limb u i) ∧
        val u' + c' * 10000 ^ (at_ + v.length + 1) = val u + (-q * val v) * 10000 ^ at_ := by
  unfold nat_take.f
  rw [w64 (by omega) (by omega)]
  exact take_loop (B0 := val u) (u0 := u) hv hq hL hL2 (v.length + 1) 0 (by omega) u 0 k (by omega) hu rfl (by omega) (by omega) (fun _ _ => rfl) (by simp [val])
theorem give_tells {u v : List Int} {at_ : Nat} (hu : Ok u) (hv : Ok v) (hL : u.length ≤ 1000000000) (hL2 : at_ + v.length + 1 ≤ u.length) (k : Nat) (hk : v.length + 2 ≤ k) :
    ∃ u' c', nat_give.f k u v (at_ : Int) = some u' ∧ Ok u' ∧ u'.length = u.length ∧ 0 ≤ c' ∧ c' ≤ 1 ∧ (∀ i, at_ + v.length + 1 ≤ i → limb u' i = limb u i) ∧
        val u' + c' * 10000 ^ (at_ + v.length + 1) = val u + val v * 10000 ^ at_ := by
  unfold nat_give.f
  rw [w64 (by omega) (by omega)]
  exact give_loop (B0 := val u) (u0 := u) hv hL hL2 (v.length + 1) 0 (by omega) u 0 k (by omega) hu rfl (by omega) (by omega) (fun _ _ => rfl) (by simp [val])
end Go.Proofs.YtmkmldkfaehefaaDoor

end

section
set_option linter.unusedVariables false
namespace Go.Proofs.YtmkmldkfaehefaaDoor
theorem val_drop {l : List Int} {i : Nat} (h : i < l.length) : val (l.drop i) = limb l i + 10000 * val (l.drop (i + 1)) := by
  rw [List.drop_eq_getElem_cons h, val]
  simp [limb, h]
structure ShortInv (l : List Int) (n : Int) (k : Nat) (s : List Int × Int) : Prop where
  len : s.1.length = l.length
  ok : Ok s.1
  low : ∀ i, i < l.length - k → limb s.1 i = 0
  quo : val s.1 = 10000 ^ (l.length - k) * (val (l.drop (l.length - k)) / n)
  rest : s.2 = val (l.drop (l.length - k)) % n
theorem short_inv {l : List Int} {n : Int} (hl : Ok l) (hn : 0 < n) : ∀ k, k ≤ l.length → ShortInv l n k ((upto l.length k).foldl (sstep l n) (List.replicate l.length 0, 0))
  | 0, _ => by
    refine ⟨by simp [upto], by simpa [upto] using ok_replicate _, ?_, ?_, ?_⟩
    · intro i hi
      simp only [upto, List.range_zero, List.map_nil, List.foldl_nil, limb, List.getD_eq_getElem?_getD, List.getElem?_replicate]
      split <;> rfl
    · simp [upto, val_replicate, val]
    · simp [upto, val]
  | k + 1, hk => by
    have ⟨h1, h2, h3, h4, h5⟩ := short_inv hl hn k (by omega)
    rw [upto_succ, List.foldl_append]
    generalize (upto l.length k).foldl (sstep l n) (List.replicate l.length 0, 0) = s at h1 h2 h3 h4 h5 ⊢
    obtain ⟨o, r⟩ := s
    dsimp only at h1 h2 h3 h4 h5
    simp only [List.foldl_cons, List.foldl_nil, sstep]
    obtain ⟨i, hi⟩ : ∃ i, l.length - 1 - k = i := ⟨_, rfl⟩
    have hi1 : l.length - k = i + 1 := by omega
    have hi2 : l.length - (k + 1) = i := by omega
    rw [hi1] at h3 h4 h5
    rw [hi]
    have hil : i < l.length := by omega
    have hd := val_drop hil
    generalize val (l.drop (i + 1)) = v at *
    have hx := limb_ok hl i
    generalize limb l i = x at *
    have hr0 := Int.emod_nonneg v (show n ≠ 0 by omega)
    have hr1 := Int.emod_lt_of_pos v hn
    have hdm := Int.mul_ediv_add_emod v n
    rw [← h5] at hr0 hr1 hdm
    generalize hQ : v / n = Q at *
    have e1 : x + 10000 * v = (r * 10000 + x) + n * (10000 * Q) := by rw [← hdm]; grind
    have e2 : (x + 10000 * v) / n = (r * 10000 + x) / n + 10000 * Q := by rw [e1, Int.add_mul_ediv_left _ _ (by omega)]
    have e3 : (x + 10000 * v) % n = (r * 10000 + x) % n := by rw [e1, Int.add_mul_emod_self_left]
    have hq0 : 0 ≤ (r * 10000 + x) / n := Int.ediv_nonneg (by omega) (by omega)
    have hq1 : (r * 10000 + x) / n < 10000 := by
      apply Int.ediv_lt_of_lt_mul hn
      have := Int.mul_le_mul_of_nonneg_left (show r + 1 ≤ n by omega) (show (0 : Int) ≤ 10000 by omega)
      omega
    refine ⟨by simp [h1], ok_set h2 _ hq0 hq1, ?_, ?_, ?_⟩
    · intro j hj
      rw [hi2] at hj
      rw [limb_set _ _ _ _ (by omega), if_neg (by omega)]
      exact h3 j (by omega)
    · dsimp only
      rw [hi2, val_set (by omega), h4, h3 i (by omega), hd, e2, Int.pow_succ]
      grind
    · rw [hi2, hd, e3]
theorem short_law {l : List Int} {n : Int} (hl : Ok l) (hn : 0 < n) (hn2 : n ≤ 10000) : trimL (shortL l n).1 = lim (val l / n).toNat ∧ trimL [(shortL l n).2] = lim (val l % n).toNat := by
  have ⟨h1, h2, h3, h4, h5⟩ := short_inv hl hn l.length (Nat.le_refl _)
  have e : (upto l.length l.length).foldl (sstep l n) (List.replicate l.length 0, 0) = shortL l n := rfl
  rw [e] at h1 h2 h3 h4 h5
  rw [Nat.sub_self] at h4 h5
  simp only [Int.pow_zero, Int.one_mul, List.drop_zero] at h4 h5
  refine ⟨?_, ?_⟩
  · rw [trimL_lim h2, h4]
  · have hr0 := Int.emod_nonneg (val l) (show n ≠ 0 by omega)
    have hr1 := Int.emod_lt_of_pos (val l) hn
    rw [trimL_lim (ok_cons.2 ⟨⟨by omega, by omega⟩, ok_nil⟩), val, val, h5]
    simp
end Go.Proofs.YtmkmldkfaehefaaDoor

end

section
set_option linter.unusedVariables false
namespace Go.Proofs.YtmkmldkfaehefaaDoor
theorem kn_upper {t V S U Q W H : Int} (hS : 0 < S) (hQ : 0 < Q) (ht0 : 0 ≤ t) (h1 : t * V * S ≤ U) (h2 : U < S * Q * (H + 1)) (h3 : Q * W ≤ V) : t * W ≤ H := by
  have h4 : t * (Q * W) ≤ t * V := Int.mul_le_mul_of_nonneg_left h3 ht0
  have h5 : t * (Q * W) * S ≤ t * V * S := Int.mul_le_mul_of_nonneg_right h4 (Int.le_of_lt hS)
  have hSQ : 0 < S * Q := Int.mul_pos hS hQ
  have h6 : S * Q * (t * W) < S * Q * (H + 1) := by
    have e : S * Q * (t * W) = t * (Q * W) * S := by grind
    omega
  have := Int.lt_of_mul_lt_mul_left h6 (Int.le_of_lt hSQ)
  omega
theorem kn_lower {q t V S U Q W H : Int} (hS : 0 < S) (hQ : 0 < Q) (hV : 0 < V) (hq0 : 0 ≤ q) (hqW : q ≤ W) (h1 : U < (t + 1) * V * S) (h2 : S * Q * H ≤ U) (h3 : Q * W ≤ V) (h4 : V ≤ Q * W + Q) (h5 : q * W ≤ H) : q ≤ t + 1 := by
  have h6 : q * V ≤ q * (Q * W + Q) := Int.mul_le_mul_of_nonneg_left h4 hq0
  have h7 : Q * (q * W) ≤ Q * H := Int.mul_le_mul_of_nonneg_left h5 (Int.le_of_lt hQ)
  have h8 : Q * q ≤ Q * W := Int.mul_le_mul_of_nonneg_left hqW (Int.le_of_lt hQ)
  have h9 : (q - 1) * V ≤ Q * H := by
    have e1 : q * (Q * W + Q) = Q * (q * W) + Q * q := by grind
    have e2 : (q - 1) * V = q * V - V := by grind
    omega
  have h10 : (q - 1) * V * S ≤ Q * H * S := Int.mul_le_mul_of_nonneg_right h9 (Int.le_of_lt hS)
  have h11 : (q - 1) * (V * S) < (t + 1) * (V * S) := by
    have e1 : (q - 1) * (V * S) = (q - 1) * V * S := by grind
    have e2 : (t + 1) * (V * S) = (t + 1) * V * S := by grind
    have e3 : Q * H * S = S * Q * H := by grind
    omega
  have := Int.lt_of_mul_lt_mul_right h11 (Int.le_of_lt (Int.mul_pos hV hS))
  omega
theorem kn_top {U V S Q u3 u2 u1 v1 v2 : Int} (hS : 0 < S) (hQ : 0 < Q) (h1 : U < V * S * 10000) (h2 : S * Q * (u1 + 10000 * (u2 + 10000 * u3)) ≤ U) (h4 : V ≤ Q * (v2 + 10000 * v1) + Q) (hu2 : 0 ≤ u2) (hu1 : 0 ≤ u1) (hv2 : v2 < 10000) : u3 ≤ v1 := by
  have hSQ : 0 < S * Q := Int.mul_pos hS hQ
  have h5 : V * (S * 10000) ≤ (Q * (v2 + 10000 * v1) + Q) * (S * 10000) := Int.mul_le_mul_of_nonneg_right h4 (by omega)
  have h6 : S * Q * (u1 + 10000 * (u2 + 10000 * u3)) < S * Q * ((v2 + 10000 * v1 + 1) * 10000) := by
    have e1 : V * S * 10000 = V * (S * 10000) := by grind
    have e2 : (Q * (v2 + 10000 * v1) + Q) * (S * 10000) = S * Q * ((v2 + 10000 * v1 + 1) * 10000) := by grind
    omega
  have := Int.lt_of_mul_lt_mul_left h6 (Int.le_of_lt hSQ)
  omega
end Go.Proofs.YtmkmldkfaehefaaDoor

end
