/-
Parts of the proof, in build order: Back, Shelf, Base, Extra, Pq0, Pq1, Pq2, Pq4, Compare, Text, Trim2, Short, Jump, Atoi, Pn0.
-/
import Derived.RangeFuncBox
import Derived.RangeFuncLeaves
import Derived.RangeFuncNested
import Derived.RangeFuncBound
import Derived.RangeFuncCalls
import Derived.Shelf.Abstract
import Derived.WalkKit
import Derived.OwnWalkIn
import Derived.TacticsInMore
import Derived.LoopNIn
import Derived.LoopIn
import Derived.Lib.Hide
import Derived.Test.YtmcpiejgneegjaaDoorProg
import Derived.Shelf.Strings.Builder1
import Derived.Shelf.Strings.Builder2
import Derived.Shelf.Small.Wraps
import Derived.Shelf.Strings.BuilderF
import Derived.Shelf.Strings.BuilderK
import Derived.Shelf.Strconv.Atoi
import Derived.Shelf.Strconv.Itoa0
import Derived.Shelf.Strconv.Itoa1
import Derived.Shelf.LaysM
import Derived.Shelf.Strconv.Itoa2
import Derived.Shelf.Strconv.Itoa3
import Derived.Shelf.Strconv.AtoiErrFast
import Derived.Shelf.Strconv.ParseIntEmpty
import Derived.Shelf.Strconv.AtoiFail
import Derived.Shelf.Strconv.Clone
import Derived.Shelf.Strconv.SyntaxError
import Derived.Shelf.LaysC
import Derived.Shelf.Strconv.ToError
import Derived.Shelf.Strconv.Lower
import Derived.Shelf.Strconv.ParseUint10
import Derived.Shelf.Strconv.ParseUint10Empty
import Derived.Shelf.Strconv.ParseUint10Any
import Derived.Shelf.Strconv.ParseInt10
import Derived.Shelf.Strconv.AtoiLong
import Derived.Shelf.Strconv.AtoiInnerAll
import Derived.Shelf.Strconv.RangeError
import Derived.Shelf.Strconv.ToErrorRange
import Derived.Shelf.Strconv.AtoiAll
import Derived.Shelf.Strconv.ErrVarAll
import Derived.Shelf.Strings.Prefix
import Derived.Shelf.Bits.Mul64
import Derived.Shelf.Strings.Repeat
import Derived.Test.YtmcpiejgneegjaaDoorC0
import Derived.Lib.LaidTab
import Derived.Below
import Derived.Deep.Draws
import Derived.Deep.AppendLies
import Derived.Maps.AppendAt
import Derived.OwnWalk
import Derived.Laws.BytesArg
import Derived.Laws.MakeOwn
import Derived.Laws.OwnMore
import Derived.Deep.OwnRows
import Derived.Tactics
import Derived.Lib.ConvBytes
import Derived.Laws.Slices
import Derived.KernelRfl
import Derived.RowKit3
import Derived.Deep.LoopGhost
import Derived.Deep.QuietTactic
import Derived.BigQuiet
import Derived.WideLaws
import Derived.Deep.DeepCutAuto
import Derived.Deep.CutBlock
import Derived.Deep.RegionHeld3
import Derived.Laws.Rows
import Derived.Lib.AppendStr
import Derived.ArgAppend
import Derived.Laws.IdiomCopy
import Derived.OrdersHeld
import Derived.Laws.BitsLemmas
import Derived.RowKit
import Derived.Shelf.RegionOpen
import Derived.RegionIn
import Derived.ScopeJumps
import Derived.Tactics2
/-
slices.Backward at nat's limbs: its closure hands the limbs, the last one first, with their indices, to every loop body that keeps what lay below n0.
-/
section
namespace Go.Proofs.YtmcpiejgneegjaaDoor
open Go.RowKit Go.Shelf

attribute [local go_sem] Oper.semAt_some

/-- The indices that have come when k rounds are over. -/
def upto (n k : Nat) : List Nat := (List.range k).map fun j => n - 1 - j
theorem upto_succ (n k : Nat) : upto n (k + 1) = upto n k ++ [n - 1 - k] := by simp [upto, List.range_succ]
theorem upto_length (n k : Nat) : (upto n k).length = k := by simp [upto]

/-- What stands at an index. -/
def limb (zs : List Int) (i : Nat) : Int := zs.getD i 0

theorem blk_add (ad : Addr) (j : Nat) : (ad.add j).block = ad.block := by unfold Addr.add; split <;> rfl
/-- The slice value sv holds the ints zs, in a block below n0 (if there are any). -/
def IntsAt (n₀ : Nat) (W : World) (sv : Value) (zs : List Int) : Prop :=
  ∃ A cap, sv = .slice A zs.length cap ∧ (0 < zs.length → ∃ ad, A = some ad ∧ ad.block < n₀ ∧ ∀ j, j < zs.length → W.cell? (ad.add j) = some (.int .i64 (limb zs j)))
theorem IntsAt.below {n₀ : Nat} {A B : World} (h : Below n₀ A B) {sv : Value} {zs : List Int} : IntsAt n₀ A sv zs → IntsAt n₀ B sv zs
  | ⟨q, cap, e, hc⟩ => ⟨q, cap, e, fun h0 => by
      obtain ⟨ad, e1, hb, hc⟩ := hc h0
      exact ⟨ad, e1, hb, fun j hj => (h.cell (p := ad.add j) (by rw [blk_add]; exact hb)).trans (hc j hj)⟩⟩

/-- What a round keeps: what lay below n0, and the block of the iterator's own variable. -/
structure KeepB (n₀ Bs : Nat) (W W' : World) : Prop where
  low : Below n₀ W W'
  box : W'.heap[Bs]? = W.heap[Bs]?
theorem KeepB.refl (n₀ Bs : Nat) (W : World) : KeepB n₀ Bs W W := ⟨Below.refl _ _, rfl⟩
theorem KeepB.trans {n₀ Bs : Nat} {A B C : World} (h : KeepB n₀ Bs A B) (k : KeepB n₀ Bs B C) : KeepB n₀ Bs A C := ⟨h.low.trans k.low, k.box.trans h.box⟩
theorem KeepB.putObj {n₀ Bs : Nat} {w : World} (hn : n₀ ≤ w.heap.size) (hB : Bs < w.heap.size) (W : World) (l : Nat) (o o' : Obj) (hl : w.heap.size ≤ l) (h : W.heap[l]? = some o) (hc : o.isCells = false) (hw : o.isWalk = false) : KeepB n₀ Bs W (W.putObj l o') :=
  ⟨belowK_b hn W l o o' hl h hc hw, World.putObj_heap_other (by omega)⟩

/-- What the loop's two variables are handed in a round. -/
def item (zs : List Int) (x : Fin zs.length) : Array Value := #[.int .i64 (x.val : Int), .int .i64 (limb zs x.val)]

set_option maxRecDepth 100000 in
set_option maxHeartbeats 2000000 in
theorem back1_in (F : Fence) (n : Nat) (hf : F.fn 55) (hro : F.round = none) (hn : 1 ≤ n) (l Bs n₀ : Nat) (ad : Addr) (cap : Nat) (zs : List Int) (hreach : zs.length ≤ 9223372036854775807) (hb : ad.block < n₀) (J Jx : List (Fin zs.length) → World → Prop)
    (hY : ∀ pre x W, J pre W → pre.length < zs.length → YieldAt F (n - 1) Tryd.prog l (item zs x) W fun e W' =>
      (e = .returned (.bool true) ∧ J (pre ++ [x]) W' ∧ KeepB n₀ Bs W W') ∨ (e = .returned (.bool false) ∧ Jx (pre ++ [x]) W'))
    (W : World) (hBs : W.cell? ⟨Bs, 0, none⟩ = some (.slice (some ad) zs.length cap)) (hc : ∀ j, j < zs.length → W.cell? (ad.add j) = some (.int .i64 (limb zs j))) (h0 : J [] W) :
    CallsIn F n Tryd.prog 55 #[.func (.yield l) #[] #[], .pointer (some ⟨Bs, 0, none⟩)] W fun e W' => (∃ v, e = .returned v) ∧
      ((∃ ys, ys.map Fin.val = upto zs.length zs.length ∧ J ys W') ∨ (∃ pre, (∃ k, k ≤ zs.length ∧ pre.map Fin.val = upto zs.length k) ∧ Jx pre W')) := by
  refine callsIn_of_wp Tryd.func55 rfl hf ?_ hro
  simp only [Tryd.ntmps55, List.size_toArray, List.length_cons, List.length_nil, Nat.reduceAdd, Nat.reduceSub, Array.replicate_succ, Array.replicate_zero, List.push_toArray, List.append_toArray, List.nil_append, List.cons_append]
  gi_wp2
  gi_loopw [3] (fun i wr => ∃ (k : Nat) (pre : List (Fin zs.length)), k ≤ zs.length ∧ pre.map Fin.val = upto zs.length k ∧ i = .int .i64 ((zs.length : Int) - 1 - k) ∧ J pre wr ∧ KeepB n₀ Bs W wr)
    (fun i _ => (intOf i + 1).toNat)
  case atStart => exact ⟨0, [], Nat.zero_le _, rfl, by simp, h0, KeepB.refl _ _ _⟩
  case round =>
    obtain ⟨k, pre, hk, hpre, rfl, hJs, hnx⟩ := hrel
    have HP := Lib.hid hpre
    have hpl : pre.length = k := by have := congrArg List.length hpre; rw [upto_length, List.length_map] at this; exact this
    have HL := Lib.hid hpl
    clear hpre hpl
    have hBs' : wr.cell? ⟨Bs, 0, none⟩ = some (.slice (some ad) zs.length cap) := (World.cell?_of_block (w := W) hnx.box).trans hBs
    by_cases hlt : k < zs.length
    · obtain ⟨q, hq⟩ : ∃ q : Nat, zs.length - 1 - k = q := ⟨_, rfl⟩
      have hcast : ((zs.length : Int) - 1 - k) = (q : Int) := by omega
      have hql : q < zs.length := by omega
      have hcx : wr.cell? (ad.add q) = some (.int .i64 (limb zs q)) := (hnx.low.cell (p := ad.add q) (by rw [blk_add]; exact hb)).trans (hc q hql)
      obtain ⟨fn, tmps, assign, body, hy, hR⟩ := hY pre ⟨q, hql⟩ wr hJs (by rw [HL.out]; exact hlt)
      dsimp only [item] at hy
      rw [hcast]
      have hkq := Lib.hid hq
      have HC := Lib.hid hcast
      clear hq hcast
      gi_wp2
      refine hR.mono ?_
      rintro e W3 (⟨rfl, hJ3, hk3⟩ | ⟨rfl, hJx3⟩)
      · gi_wp2
        go_roundw
        case rel => exact ⟨k + 1, pre ++ [⟨q, hql⟩], by omega, by rw [List.map_append, HP.out, upto_succ, hkq.out]; rfl, by have := hkq.out; congr 1; omega, hJ3, hnx.trans hk3⟩
        case measure => simp [intOf] <;> omega
      · gi_wp2
        refine bodyPost_ret (results_none rfl _ _ _) rfl ?_
        exact ⟨⟨_, rfl⟩, .inr ⟨_, ⟨k + 1, by omega, by rw [List.map_append, HP.out, upto_succ, hkq.out]; rfl⟩, hJx3⟩⟩
    · obtain rfl : k = zs.length := by omega
      have hz : ((zs.length : Int) - 1 - (zs.length : Int)) = -1 := by omega
      rw [hz]
      clear hz
      gi_wp2
      go_end0
      exact ⟨⟨_, rfl⟩, .inl ⟨pre, HP.out, hJs⟩⟩

set_option maxRecDepth 100000 in
set_option maxHeartbeats 1000000 in
theorem back1_nil_in {α : Type} (A : Option Addr) (F : Fence) (n : Nat) (hf : F.fn 55) (hro : F.round = none) (l Bs c : Nat) (J : List α → World → Prop) (W : World) (hBs : W.cell? ⟨Bs, 0, none⟩ = some (.slice A 0 c)) (h0 : J [] W) :
    CallsIn F n Tryd.prog 55 #[.func (.yield l) #[] #[], .pointer (some ⟨Bs, 0, none⟩)] W fun e W' => (∃ v, e = .returned v) ∧ J [] W' := by
  refine callsIn_of_wp Tryd.func55 rfl hf ?_ hro
  simp only [Tryd.ntmps55, List.size_toArray, List.length_cons, List.length_nil, Nat.reduceAdd, Nat.reduceSub, Array.replicate_succ, Array.replicate_zero, List.push_toArray, List.append_toArray, List.nil_append, List.cons_append]
  gi_wp2
  gi_loopw [3] (fun i wr => i = .int .i64 (-1) ∧ J [] wr) (fun _ _ => 0)
  case atStart => exact ⟨rfl, h0⟩
  case round =>
    obtain ⟨rfl, hJs⟩ := hrel
    gi_wp2
    go_end0
    exact ⟨⟨_, rfl⟩, hJs⟩

set_option maxHeartbeats 1000000 in
/-- slices.Backward(s): the slice value is boxed; the function value captures the box. -/
theorem backward_in (F : Fence) (n : Nat) (hf : F.fn 42) (hro : F.round = none) (a : Option Addr) (len cap : Nat) (w : World) :
    CallsIn F n Tryd.prog 42 #[.slice a len cap] w fun e w' => e = .returned (.func (.func 55) #[] #[.pointer (some ⟨w.heap.size, 0, none⟩)]) ∧ w' = w.alloc (.cells #[.slice a len cap] 41) := by
  refine callsIn_of_wp Tryd.func42 rfl hf ?_ hro
  simp only [Tryd.ntmps42, List.size_toArray, List.length_cons, List.length_nil, Nat.reduceAdd, Nat.reduceSub, Array.replicate_succ, Array.replicate_zero, List.push_toArray, List.append_toArray, List.nil_append, List.cons_append]
  gi_wp2
  go_ret
  exact ⟨rfl, rfl⟩

/-- What it hands back stops as it should: all, from behind; or the first k of them. -/
theorem back_stops (F : Fence) (n : Nat) (hf : F.fn 55) (hro : F.round = none) (hn : 1 ≤ n) (Bs n₀ : Nat) (sv : Value) (zs : List Int) (hreach : zs.length ≤ 9223372036854775807) (w : World) (hBs : Bs < w.heap.size) (hn₀ : n₀ ≤ w.heap.size)
    (hc : w.cell? ⟨Bs, 0, none⟩ = some sv) (hI : IntsAt n₀ w sv zs) :
    SeqStopsK F n Tryd.prog 55 #[.pointer (some ⟨Bs, 0, none⟩)] (item zs) (KeepB n₀ Bs) (fun ys => ys.map Fin.val = upto zs.length zs.length)
      (fun pre => ∃ k, k ≤ zs.length ∧ pre.map Fin.val = upto zs.length k) zs.length w := fun l J Jx W hW _ _ hY h0 => by
  have hc' := (hW.cell (p := ⟨Bs, 0, none⟩) hBs).trans hc
  obtain ⟨A, cap, rfl, hI'⟩ := hI.below (hW.mono hn₀)
  by_cases h00 : 0 < zs.length
  · obtain ⟨ad, rfl, hb, hcs⟩ := hI' h00
    exact back1_in F n hf hro hn l Bs n₀ ad cap zs hreach hb J Jx hY W hc' hcs h0
  · have hz : zs.length = 0 := by omega
    have hc'' := hc'
    rw [hz] at hc''
    exact (back1_nil_in A F n hf hro l Bs cap J W hc'' h0).mono fun e W' ⟨he, hj⟩ => ⟨he, .inl ⟨_, by rw [hz]; rfl, hj⟩⟩
end Go.Proofs.YtmcpiejgneegjaaDoor

end

/-
Contracts of Go's library at this translation: laid off the kit's shelf in plain words; the numbers by name.
-/
section
namespace Go.Proofs
open Go.Shelf
def Tryd.lays169_ren : Go.Shelf.Ren := ⟨fun | 169 => 47 | n => n, fun | 70 => 64 | 9 => 9 | 0 => 0 | 72 => 66 | 37 => 47 | 127 => 78 | 3 => 3 | 5 => 5 | n => n, fun | n => n⟩
theorem Tryd.lays169 : Go.Proofs.Lays.n169 Tryd.prog Tryd.lays169_ren := {
  mixed := by kernel_rfl
  f169 := Tryd.func47.trans (congrArg some (by kernel_rfl))
  t0 := Tryd.underlying0
  a0 := Tryd.isAgg0
  z0 := Tryd.sizeOf0
  v0 := Tryd.zeroValue0
  t3 := Tryd.underlying3
  a3 := Tryd.isAgg3
  z3 := Tryd.sizeOf3
  v3 := Tryd.zeroValue3
  t9 := Tryd.underlying9
  a9 := Tryd.isAgg9
  z9 := Tryd.sizeOf9
  v9 := Tryd.zeroValue9
  t37 := Tryd.underlying47
  a37 := Tryd.isAgg47
  z37 := Tryd.sizeOf47
  v37 := Tryd.zeroValue47
  t70 := Tryd.underlying64
  a70 := Tryd.isAgg64
  z70 := Tryd.sizeOf64
  v70 := Tryd.zeroValue64
  t72 := Tryd.underlying66
  a72 := Tryd.isAgg66
  z72 := Tryd.sizeOf66
  v72 := Tryd.zeroValue66
  t127 := Tryd.underlying78
  a127 := Tryd.isAgg78
  z127 := Tryd.sizeOf78
  v127 := Tryd.zeroValue78 }
theorem Tryd.Builder_Extra_169 : Builder.Extra Tryd.prog Tryd.lays169_ren := {
  sizeBuilder := by kernel_rfl
  liesBuilder := by kernel_rfl
  t5 := Tryd.underlying5
  a5 := Tryd.isAgg5
  z5 := Tryd.sizeOf5
  v5 := Tryd.zeroValue5
  infoByte := by kernel_rfl
  cellsByte := by kernel_rfl
  sizeByte := by kernel_rfl
  neB5 := by decide }
def Tryd.lays122_ren : Go.Shelf.Ren := ⟨fun | 122 => 41 | 215 => 54 | n => n, fun | 3 => 3 | 4 => 4 | n => n, fun | n => n⟩
theorem Tryd.lays122 : Go.Proofs.Lays.n122 Tryd.prog Tryd.lays122_ren := {
  mixed := by kernel_rfl
  f122 := Tryd.func41.trans (congrArg some (by kernel_rfl))
  f215 := Tryd.func54.trans (congrArg some (by kernel_rfl))
  t3 := Tryd.underlying3
  a3 := Tryd.isAgg3
  z3 := Tryd.sizeOf3
  v3 := Tryd.zeroValue3
  t4 := Tryd.underlying4
  a4 := Tryd.isAgg4
  z4 := Tryd.sizeOf4
  v4 := Tryd.zeroValue4 }
open Go.RowKit in
theorem Tryd.cmp_Compare_int (x y : Int) (w : World) :
    Calls Tryd.prog 41 #[.int .i64 x, .int .i64 y] w fun e w' => e = .returned (.int .i64 (Lib.compareInt x y)) ∧ w' = w := Any.cmp_Compare_int Tryd.lays122 x y w
open Go.RowKit in
theorem Tryd.Builder_String_any_k (B b : Nat) (l : List UInt8) (w : World) (h : Lib.IsBuilderF 66 5 B b (Lib.byteCells l) w) (hBw : B ≤ w.heap.size) :
    Calls Tryd.prog 47 #[.pointer (some ⟨b, 0, none⟩)] w fun e w' => e = .returned (.string ⟨l.toArray⟩) ∧ (Lib.IsBuilderF 66 5 B b (Lib.byteCells l) w' ∧ Below B w w' ∧ Lib.OthersKept 5 (some b) w w') := Any.Builder_String_any_k Tryd.lays169 Tryd.Builder_Extra_169 B b l w h hBw
def Tryd.laysM171_ren : Go.Shelf.Ren := ⟨fun | 171 => 38 | 243 => 53 | 246 => 66 | 283 => 75 | 284 => 76 | 285 => 77 | 286 => 78 | 129 => 83 | 317 => 82 | 318 => 84 | 319 => 85 | 320 => 86 | 337 => 87 | 338 => 88 | n => n, fun | 3 => 3 | 9 => 9 | 2 => 2 | 4 => 4 | 171 => 99 | 0 => 0 | 53 => 91 | 37 => 47 | 5 => 5 | 173 => 102 | 212 => 110 | 51 => 88 | 20 => 20 | 213 => 111 | 46 => 73 | 232 => 114 | 233 => 115 | n => n, fun | 17 => 2 | 18 => 4 | 19 => 5 | n => n⟩
theorem Tryd.laysM171 : Go.Proofs.LaysM.n171 Tryd.prog Tryd.laysM171_ren := {
  mixed := by kernel_rfl
  f129 := Tryd.func83.trans (congrArg some (by kernel_rfl))
  f171 := Tryd.func38.trans (congrArg some (by kernel_rfl))
  f243 := Tryd.func53.trans (congrArg some (by kernel_rfl))
  f246 := Tryd.func66.trans (congrArg some (by kernel_rfl))
  f283 := Tryd.func75.trans (congrArg some (by kernel_rfl))
  f284 := Tryd.func76.trans (congrArg some (by kernel_rfl))
  f285 := Tryd.func77.trans (congrArg some (by kernel_rfl))
  f286 := Tryd.func78.trans (congrArg some (by kernel_rfl))
  f317 := Tryd.func82.trans (congrArg some (by kernel_rfl))
  f318 := Tryd.func84.trans (congrArg some (by kernel_rfl))
  f319 := Tryd.func85.trans (congrArg some (by kernel_rfl))
  f320 := Tryd.func86.trans (congrArg some (by kernel_rfl))
  f337 := Tryd.func87.trans (congrArg some (by kernel_rfl))
  f338 := Tryd.func88.trans (congrArg some (by kernel_rfl))
  t0 := Tryd.underlying0
  a0 := Tryd.isAgg0
  z0 := Tryd.sizeOf0
  v0 := Tryd.zeroValue0
  t2 := Tryd.underlying2
  a2 := Tryd.isAgg2
  z2 := Tryd.sizeOf2
  v2 := Tryd.zeroValue2
  t3 := Tryd.underlying3
  a3 := Tryd.isAgg3
  z3 := Tryd.sizeOf3
  v3 := Tryd.zeroValue3
  t4 := Tryd.underlying4
  a4 := Tryd.isAgg4
  z4 := Tryd.sizeOf4
  v4 := Tryd.zeroValue4
  t5 := Tryd.underlying5
  a5 := Tryd.isAgg5
  z5 := Tryd.sizeOf5
  v5 := Tryd.zeroValue5
  t9 := Tryd.underlying9
  a9 := Tryd.isAgg9
  z9 := Tryd.sizeOf9
  v9 := Tryd.zeroValue9
  t20 := Tryd.underlying20
  a20 := Tryd.isAgg20
  z20 := Tryd.sizeOf20
  v20 := Tryd.zeroValue20
  t37 := Tryd.underlying47
  a37 := Tryd.isAgg47
  z37 := Tryd.sizeOf47
  v37 := Tryd.zeroValue47
  t46 := Tryd.underlying73
  a46 := Tryd.isAgg73
  z46 := Tryd.sizeOf73
  v46 := Tryd.zeroValue73
  t51 := Tryd.underlying88
  a51 := Tryd.isAgg88
  z51 := Tryd.sizeOf88
  v51 := Tryd.zeroValue88
  t53 := Tryd.underlying91
  a53 := Tryd.isAgg91
  z53 := Tryd.sizeOf91
  v53 := Tryd.zeroValue91
  t171 := Tryd.underlying99
  a171 := Tryd.isAgg99
  z171 := Tryd.sizeOf99
  v171 := Tryd.zeroValue99
  t173 := Tryd.underlying102
  a173 := Tryd.isAgg102
  z173 := Tryd.sizeOf102
  v173 := Tryd.zeroValue102
  t212 := Tryd.underlying110
  a212 := Tryd.isAgg110
  z212 := Tryd.sizeOf110
  v212 := Tryd.zeroValue110
  t213 := Tryd.underlying111
  a213 := Tryd.isAgg111
  z213 := Tryd.sizeOf111
  t232 := Tryd.underlying114
  a232 := Tryd.isAgg114
  z232 := Tryd.sizeOf114
  v232 := Tryd.zeroValue114
  t233 := Tryd.underlying115
  a233 := Tryd.isAgg115
  z233 := Tryd.sizeOf115
  v233 := Tryd.zeroValue115
  g17 := by kernel_rfl
  g18 := by kernel_rfl
  g19 := by kernel_rfl
  i0 := by kernel_rfl
  i2 := by kernel_rfl
  i3 := by kernel_rfl
  i4 := by kernel_rfl
  i5 := by kernel_rfl
  i9 := by kernel_rfl
  i20 := by kernel_rfl
  i37 := by kernel_rfl
  i46 := by kernel_rfl
  i51 := by kernel_rfl
  i53 := by kernel_rfl
  i171 := by kernel_rfl
  i173 := by kernel_rfl
  i212 := by kernel_rfl
  i232 := by kernel_rfl
  i233 := by kernel_rfl
  m17 := by kernel_rfl
  m18 := by kernel_rfl
  m19 := by kernel_rfl }
open Go.RowKit Go.Sort Go.Lib in
theorem Tryd.strconv_Itoa (n : Int) (h0 : -9223372036854775808 ≤ n) (h1 : n ≤ 9223372036854775807) (w : World) (htab : Lib.TabIs Tryd.prog w "internal/strconv.uint64pow10" .u64 Lib.pow10Tab) :
    Calls Tryd.prog 38 #[.int .i64 n] w fun e w' => e = .returned (.string ⟨(Lib.itoa n).toArray⟩) ∧ ∃ k os, w' = grow (w.drewN k) os := Any.strconv_Itoa Tryd.laysM171 n h0 h1 w htab
def Tryd.laysC172_ren : Go.Shelf.Ren := ⟨fun | 172 => 37 | 244 => 51 | 245 => 52 | 247 => 61 | 279 => 62 | 280 => 63 | 281 => 64 | 282 => 65 | 287 => 72 | 316 => 73 | 171 => 38 | 205 => 74 | 321 => 80 | 322 => 81 | 243 => 53 | 246 => 66 | 283 => 75 | 284 => 76 | 285 => 77 | 286 => 78 | 129 => 83 | 317 => 82 | 318 => 84 | 319 => 85 | 320 => 86 | 337 => 87 | 338 => 88 | n => n, fun | 9 => 9 | 3 => 3 | 75 => 53 | 76 => 54 | 4 => 4 | 5 => 5 | 167 => 79 | 37 => 47 | 0 => 0 | 85 => 80 | 2 => 2 | 168 => 82 | 53 => 91 | 175 => 94 | 46 => 73 | 210 => 97 | 127 => 78 | 145 => 108 | 143 => 106 | 21 => 21 | 171 => 99 | 173 => 102 | 212 => 110 | 51 => 88 | 20 => 20 | 213 => 111 | 232 => 114 | 233 => 115 | 80 => 46 | n => n, fun | 15 => 0 | 16 => 1 | 17 => 2 | 18 => 4 | 19 => 5 | n => n⟩
theorem Tryd.laysC172 : Go.Proofs.LaysC.n172 Tryd.prog Tryd.laysC172_ren := {
  mixed := by kernel_rfl
  f129 := Tryd.func83.trans (congrArg some (by kernel_rfl))
  f171 := Tryd.func38.trans (congrArg some (by kernel_rfl))
  f172 := Tryd.func37.trans (congrArg some (by kernel_rfl))
  f205 := Tryd.func74.trans (congrArg some (by kernel_rfl))
  f243 := Tryd.func53.trans (congrArg some (by kernel_rfl))
  f244 := Tryd.func51.trans (congrArg some (by kernel_rfl))
  f245 := Tryd.func52.trans (congrArg some (by kernel_rfl))
  f246 := Tryd.func66.trans (congrArg some (by kernel_rfl))
  f247 := Tryd.func61.trans (congrArg some (by kernel_rfl))
  f279 := Tryd.func62.trans (congrArg some (by kernel_rfl))
  f280 := Tryd.func63.trans (congrArg some (by kernel_rfl))
  f281 := Tryd.func64.trans (congrArg some (by kernel_rfl))
  f282 := Tryd.func65.trans (congrArg some (by kernel_rfl))
  f283 := Tryd.func75.trans (congrArg some (by kernel_rfl))
  f284 := Tryd.func76.trans (congrArg some (by kernel_rfl))
  f285 := Tryd.func77.trans (congrArg some (by kernel_rfl))
  f286 := Tryd.func78.trans (congrArg some (by kernel_rfl))
  f287 := Tryd.func72.trans (congrArg some (by kernel_rfl))
  f316 := Tryd.func73.trans (congrArg some (by kernel_rfl))
  f317 := Tryd.func82.trans (congrArg some (by kernel_rfl))
  f318 := Tryd.func84.trans (congrArg some (by kernel_rfl))
  f319 := Tryd.func85.trans (congrArg some (by kernel_rfl))
  f320 := Tryd.func86.trans (congrArg some (by kernel_rfl))
  f321 := Tryd.func80.trans (congrArg some (by kernel_rfl))
  f322 := Tryd.func81.trans (congrArg some (by kernel_rfl))
  f337 := Tryd.func87.trans (congrArg some (by kernel_rfl))
  f338 := Tryd.func88.trans (congrArg some (by kernel_rfl))
  t0 := Tryd.underlying0
  a0 := Tryd.isAgg0
  z0 := Tryd.sizeOf0
  v0 := Tryd.zeroValue0
  t2 := Tryd.underlying2
  a2 := Tryd.isAgg2
  z2 := Tryd.sizeOf2
  v2 := Tryd.zeroValue2
  t3 := Tryd.underlying3
  a3 := Tryd.isAgg3
  z3 := Tryd.sizeOf3
  v3 := Tryd.zeroValue3
  t4 := Tryd.underlying4
  a4 := Tryd.isAgg4
  z4 := Tryd.sizeOf4
  v4 := Tryd.zeroValue4
  t5 := Tryd.underlying5
  a5 := Tryd.isAgg5
  z5 := Tryd.sizeOf5
  v5 := Tryd.zeroValue5
  t9 := Tryd.underlying9
  a9 := Tryd.isAgg9
  z9 := Tryd.sizeOf9
  v9 := Tryd.zeroValue9
  t20 := Tryd.underlying20
  a20 := Tryd.isAgg20
  z20 := Tryd.sizeOf20
  v20 := Tryd.zeroValue20
  t21 := Tryd.underlying21
  a21 := Tryd.isAgg21
  z21 := Tryd.sizeOf21
  v21 := Tryd.zeroValue21
  t37 := Tryd.underlying47
  a37 := Tryd.isAgg47
  z37 := Tryd.sizeOf47
  v37 := Tryd.zeroValue47
  t46 := Tryd.underlying73
  a46 := Tryd.isAgg73
  z46 := Tryd.sizeOf73
  v46 := Tryd.zeroValue73
  t51 := Tryd.underlying88
  a51 := Tryd.isAgg88
  z51 := Tryd.sizeOf88
  v51 := Tryd.zeroValue88
  t53 := Tryd.underlying91
  a53 := Tryd.isAgg91
  z53 := Tryd.sizeOf91
  v53 := Tryd.zeroValue91
  t75 := Tryd.underlying53
  a75 := Tryd.isAgg53
  z75 := Tryd.sizeOf53
  v75 := Tryd.zeroValue53
  t76 := Tryd.underlying54
  a76 := Tryd.isAgg54
  z76 := Tryd.sizeOf54
  v76 := Tryd.zeroValue54
  t85 := Tryd.underlying80
  a85 := Tryd.isAgg80
  z85 := Tryd.sizeOf80
  v85 := Tryd.zeroValue80
  t127 := Tryd.underlying78
  a127 := Tryd.isAgg78
  z127 := Tryd.sizeOf78
  v127 := Tryd.zeroValue78
  t143 := Tryd.underlying106
  a143 := Tryd.isAgg106
  z143 := Tryd.sizeOf106
  v143 := Tryd.zeroValue106
  t145 := Tryd.underlying108
  a145 := Tryd.isAgg108
  z145 := Tryd.sizeOf108
  v145 := Tryd.zeroValue108
  t167 := Tryd.underlying79
  a167 := Tryd.isAgg79
  z167 := Tryd.sizeOf79
  v167 := Tryd.zeroValue79
  t168 := Tryd.underlying82
  a168 := Tryd.isAgg82
  z168 := Tryd.sizeOf82
  v168 := Tryd.zeroValue82
  t171 := Tryd.underlying99
  a171 := Tryd.isAgg99
  z171 := Tryd.sizeOf99
  v171 := Tryd.zeroValue99
  t173 := Tryd.underlying102
  a173 := Tryd.isAgg102
  z173 := Tryd.sizeOf102
  v173 := Tryd.zeroValue102
  t175 := Tryd.underlying94
  a175 := Tryd.isAgg94
  z175 := Tryd.sizeOf94
  v175 := Tryd.zeroValue94
  t210 := Tryd.underlying97
  a210 := Tryd.isAgg97
  z210 := Tryd.sizeOf97
  v210 := Tryd.zeroValue97
  t212 := Tryd.underlying110
  a212 := Tryd.isAgg110
  z212 := Tryd.sizeOf110
  v212 := Tryd.zeroValue110
  t213 := Tryd.underlying111
  a213 := Tryd.isAgg111
  z213 := Tryd.sizeOf111
  t232 := Tryd.underlying114
  a232 := Tryd.isAgg114
  z232 := Tryd.sizeOf114
  v232 := Tryd.zeroValue114
  t233 := Tryd.underlying115
  a233 := Tryd.isAgg115
  z233 := Tryd.sizeOf115
  v233 := Tryd.zeroValue115
  g15 := by kernel_rfl
  g16 := by kernel_rfl
  g17 := by kernel_rfl
  g18 := by kernel_rfl
  g19 := by kernel_rfl
  t80 := Tryd.underlying46
  a80 := Tryd.isAgg46
  z80 := Tryd.sizeOf46
  v80 := Tryd.zeroValue46
  i0 := by kernel_rfl
  i2 := by kernel_rfl
  i3 := by kernel_rfl
  i4 := by kernel_rfl
  i5 := by kernel_rfl
  i9 := by kernel_rfl
  i20 := by kernel_rfl
  i21 := by kernel_rfl
  i37 := by kernel_rfl
  i46 := by kernel_rfl
  i51 := by kernel_rfl
  i53 := by kernel_rfl
  i75 := by kernel_rfl
  i76 := by kernel_rfl
  i80 := by kernel_rfl
  i85 := by kernel_rfl
  i127 := by kernel_rfl
  i143 := by kernel_rfl
  i145 := by kernel_rfl
  i167 := by kernel_rfl
  i168 := by kernel_rfl
  i171 := by kernel_rfl
  i173 := by kernel_rfl
  i175 := by kernel_rfl
  i210 := by kernel_rfl
  i212 := by kernel_rfl
  i232 := by kernel_rfl
  i233 := by kernel_rfl
  m15 := by kernel_rfl
  m16 := by kernel_rfl
  m17 := by kernel_rfl
  m18 := by kernel_rfl
  m19 := by kernel_rfl
  c0 := by kernel_rfl
  c2 := by kernel_rfl
  c3 := by kernel_rfl
  c4 := by kernel_rfl
  c5 := by kernel_rfl
  c9 := by kernel_rfl
  c20 := by kernel_rfl
  c21 := by kernel_rfl
  c37 := by kernel_rfl
  c46 := by kernel_rfl
  c51 := by kernel_rfl
  c53 := by kernel_rfl
  c75 := by kernel_rfl
  c76 := by kernel_rfl
  c80 := by kernel_rfl
  c85 := by kernel_rfl
  c127 := by kernel_rfl
  c143 := by kernel_rfl
  c145 := by kernel_rfl
  c167 := by kernel_rfl
  c168 := by kernel_rfl
  c171 := by kernel_rfl
  c173 := by kernel_rfl
  c175 := by kernel_rfl
  c210 := by kernel_rfl
  c212 := by kernel_rfl
  c213 := by kernel_rfl
  c232 := by kernel_rfl
  c233 := by kernel_rfl }
open Go.RowKit in
theorem Tryd.strconv_Atoi_ok (s : ByteArray) (hmax : s.size ≤ 9223372036854775806) (v : Int) (h : Lib.atoiAll s.data.toList = .ok v) (w : World) :
    Calls Tryd.prog 37 #[.string s] w fun e w' => e = .returned (.tuple #[.int .i64 v, .nilIface]) ∧ (w' = w ∨ ∃ t, w' = Lib.bytesWorld w 5 t) := Any.strconv_Atoi_ok Tryd.laysC172 s hmax v h w
open Go.RowKit in
theorem Tryd.strconv_Atoi_range_var (s : ByteArray) (hlim : s.size ≤ 281474976710656) (h : Lib.atoiAll s.data.toList = .range) (tp : TypeId) (p : Value) (w : World) (hvar : w.var? Tryd.prog "strconv.ErrRange" = some #[.iface tp p]) :
    Calls Tryd.prog 37 #[.string s] w fun e w' => ∃ N, e = .returned (.tuple #[.int .i64 (Lib.atoiSat s.data.toList), .iface 82 (.pointer (some ⟨N, 0, none⟩))]) ∧ w.heap.size ≤ N ∧ w'.heap[N]? = some (.cells #[.string ⟨#[65, 116, 111, 105]⟩, .string s, .iface tp p] 97 (0, 0)) ∧ Below w.heap.size w w' := Any.strconv_Atoi_range_var Tryd.laysC172 s hlim h tp p w hvar
def Tryd.lays105_ren : Go.Shelf.Ren := ⟨fun | 105 => 46 | 212 => 57 | 99 => 58 | 165 => 59 | 166 => 45 | 170 => 60 | 169 => 47 | 263 => 68 | 264 => 69 | 206 => 70 | 240 => 56 | 241 => 71 | 276 => 67 | 277 => 79 | n => n, fun | 9 => 9 | 3 => 3 | 4 => 4 | 20 => 20 | 0 => 0 | 46 => 73 | 109 => 74 | 5 => 5 | 72 => 66 | 76 => 54 | 51 => 88 | 146 => 89 | 53 => 91 | 148 => 92 | 70 => 64 | 37 => 47 | 75 => 53 | 127 => 78 | 164 => 86 | 80 => 46 | n => n, fun | n => n⟩
theorem Tryd.lays105 : Go.Proofs.Lays.n105 Tryd.prog Tryd.lays105_ren := {
  mixed := by kernel_rfl
  f99 := Tryd.func58.trans (congrArg some (by kernel_rfl))
  f105 := Tryd.func46.trans (congrArg some (by kernel_rfl))
  f165 := Tryd.func59.trans (congrArg some (by kernel_rfl))
  f166 := Tryd.func45.trans (congrArg some (by kernel_rfl))
  f169 := Tryd.func47.trans (congrArg some (by kernel_rfl))
  f170 := Tryd.func60.trans (congrArg some (by kernel_rfl))
  f206 := Tryd.func70.trans (congrArg some (by kernel_rfl))
  f212 := Tryd.func57.trans (congrArg some (by kernel_rfl))
  f240 := Tryd.func56.trans (congrArg some (by kernel_rfl))
  f241 := Tryd.func71.trans (congrArg some (by kernel_rfl))
  f263 := Tryd.func68.trans (congrArg some (by kernel_rfl))
  f264 := Tryd.func69.trans (congrArg some (by kernel_rfl))
  f276 := Tryd.func67.trans (congrArg some (by kernel_rfl))
  f277 := Tryd.func79.trans (congrArg some (by kernel_rfl))
  t0 := Tryd.underlying0
  a0 := Tryd.isAgg0
  z0 := Tryd.sizeOf0
  v0 := Tryd.zeroValue0
  t3 := Tryd.underlying3
  a3 := Tryd.isAgg3
  z3 := Tryd.sizeOf3
  v3 := Tryd.zeroValue3
  t4 := Tryd.underlying4
  a4 := Tryd.isAgg4
  z4 := Tryd.sizeOf4
  v4 := Tryd.zeroValue4
  t5 := Tryd.underlying5
  a5 := Tryd.isAgg5
  z5 := Tryd.sizeOf5
  v5 := Tryd.zeroValue5
  t9 := Tryd.underlying9
  a9 := Tryd.isAgg9
  z9 := Tryd.sizeOf9
  v9 := Tryd.zeroValue9
  t20 := Tryd.underlying20
  a20 := Tryd.isAgg20
  z20 := Tryd.sizeOf20
  v20 := Tryd.zeroValue20
  t37 := Tryd.underlying47
  a37 := Tryd.isAgg47
  z37 := Tryd.sizeOf47
  v37 := Tryd.zeroValue47
  t46 := Tryd.underlying73
  a46 := Tryd.isAgg73
  z46 := Tryd.sizeOf73
  v46 := Tryd.zeroValue73
  t51 := Tryd.underlying88
  a51 := Tryd.isAgg88
  z51 := Tryd.sizeOf88
  v51 := Tryd.zeroValue88
  t53 := Tryd.underlying91
  a53 := Tryd.isAgg91
  z53 := Tryd.sizeOf91
  v53 := Tryd.zeroValue91
  t70 := Tryd.underlying64
  a70 := Tryd.isAgg64
  z70 := Tryd.sizeOf64
  v70 := Tryd.zeroValue64
  t72 := Tryd.underlying66
  a72 := Tryd.isAgg66
  z72 := Tryd.sizeOf66
  v72 := Tryd.zeroValue66
  t75 := Tryd.underlying53
  a75 := Tryd.isAgg53
  z75 := Tryd.sizeOf53
  v75 := Tryd.zeroValue53
  t76 := Tryd.underlying54
  a76 := Tryd.isAgg54
  z76 := Tryd.sizeOf54
  v76 := Tryd.zeroValue54
  t109 := Tryd.underlying74
  a109 := Tryd.isAgg74
  z109 := Tryd.sizeOf74
  v109 := Tryd.zeroValue74
  t127 := Tryd.underlying78
  a127 := Tryd.isAgg78
  z127 := Tryd.sizeOf78
  v127 := Tryd.zeroValue78
  t146 := Tryd.underlying89
  a146 := Tryd.isAgg89
  z146 := Tryd.sizeOf89
  v146 := Tryd.zeroValue89
  t148 := Tryd.underlying92
  a148 := Tryd.isAgg92
  z148 := Tryd.sizeOf92
  v148 := Tryd.zeroValue92
  t164 := Tryd.underlying86
  a164 := Tryd.isAgg86
  z164 := Tryd.sizeOf86
  v164 := Tryd.zeroValue86 }
theorem Tryd.Builder_Extra_105 : Builder.Extra Tryd.prog Tryd.lays105_ren := {
  sizeBuilder := by kernel_rfl
  liesBuilder := by kernel_rfl
  t5 := Tryd.underlying5
  a5 := Tryd.isAgg5
  z5 := Tryd.sizeOf5
  v5 := Tryd.zeroValue5
  infoByte := by kernel_rfl
  cellsByte := by kernel_rfl
  sizeByte := by kernel_rfl
  neB5 := by decide }
open Go.RowKit Go.Lib in
theorem Tryd.strings_Repeat (s : ByteArray) (c : Nat) (w : World) (hc : c ≤ 9223372036854775807) (hlen : s.size * c ≤ 140737488355328) :
    Calls Tryd.prog 46 #[.string s, .int .i64 c] w fun e w' => e = .returned (.string ⟨(Lib.repeatL s.data.toList c).toArray⟩) ∧ Below w.heap.size w w' := Any.strings_Repeat Tryd.lays105 Tryd.Builder_Extra_105 s c w hc hlen

def Tryd.lays166_ren : Go.Shelf.Ren := ⟨fun | 166 => 45 | 240 => 56 | 276 => 67 | n => n, fun | 0 => 0 | 3 => 3 | 4 => 4 | 9 => 9 | 20 => 20 | 37 => 47 | 70 => 64 | 72 => 66 | 75 => 53 | 164 => 86 | 5 => 5 | 80 => 46 | n => n, fun | n => n⟩
theorem Tryd.lays166 : Go.Proofs.Lays.n166 Tryd.prog Tryd.lays166_ren := {
  mixed := by kernel_rfl
  f166 := Tryd.func45.trans (congrArg some (by kernel_rfl))
  f240 := Tryd.func56.trans (congrArg some (by kernel_rfl))
  f276 := Tryd.func67.trans (congrArg some (by kernel_rfl))
  t0 := Tryd.underlying0
  a0 := Tryd.isAgg0
  z0 := Tryd.sizeOf0
  v0 := Tryd.zeroValue0
  t3 := Tryd.underlying3
  a3 := Tryd.isAgg3
  z3 := Tryd.sizeOf3
  v3 := Tryd.zeroValue3
  t4 := Tryd.underlying4
  a4 := Tryd.isAgg4
  z4 := Tryd.sizeOf4
  v4 := Tryd.zeroValue4
  t9 := Tryd.underlying9
  a9 := Tryd.isAgg9
  z9 := Tryd.sizeOf9
  v9 := Tryd.zeroValue9
  t20 := Tryd.underlying20
  a20 := Tryd.isAgg20
  z20 := Tryd.sizeOf20
  v20 := Tryd.zeroValue20
  t37 := Tryd.underlying47
  a37 := Tryd.isAgg47
  z37 := Tryd.sizeOf47
  v37 := Tryd.zeroValue47
  t70 := Tryd.underlying64
  a70 := Tryd.isAgg64
  z70 := Tryd.sizeOf64
  v70 := Tryd.zeroValue64
  t72 := Tryd.underlying66
  a72 := Tryd.isAgg66
  z72 := Tryd.sizeOf66
  v72 := Tryd.zeroValue66
  t75 := Tryd.underlying53
  a75 := Tryd.isAgg53
  z75 := Tryd.sizeOf53
  v75 := Tryd.zeroValue53
  t164 := Tryd.underlying86
  a164 := Tryd.isAgg86
  z164 := Tryd.sizeOf86
  v164 := Tryd.zeroValue86 }
theorem Tryd.Builder_Extra_166 : Builder.Extra Tryd.prog Tryd.lays166_ren := {
  sizeBuilder := by kernel_rfl
  liesBuilder := by kernel_rfl
  t5 := Tryd.underlying5
  a5 := Tryd.isAgg5
  z5 := Tryd.sizeOf5
  v5 := Tryd.zeroValue5
  infoByte := by kernel_rfl
  cellsByte := by kernel_rfl
  sizeByte := by kernel_rfl
  neB5 := by decide }
open Go.RowKit in
theorem Tryd.Builder_WriteString_k (B b : Nat) (bs : List Value) (s : ByteArray) (w : World) (h : Lib.IsBuilderF 66 5 B b bs w) (hlen : bs.length + s.size ≤ 140737488355328) (hBw : B ≤ w.heap.size) :
    Calls Tryd.prog 45 #[.pointer (some ⟨b, 0, none⟩), .string s] w fun e w' => e = .returned (.tuple #[.int .i64 s.size, .nilIface]) ∧ (Lib.BuilderAtF 66 5 B b (.pointer (some ⟨b, 0, none⟩)) (bs ++ Lib.strCells s) w' ∧ Below B w w' ∧ Lib.OthersKept 5 (some b) w w') := Any.Builder_WriteString_k Tryd.lays166 Tryd.Builder_Extra_166 B b bs s w h hlen hBw
end Go.Proofs

end

/-
What every walk of this seat stands on: the library's two variables as they are laid, a row that is read as a list, and how both are kept.
-/
section
namespace Go.Proofs.YtmcpiejgneegjaaDoor
open Go.RowKit Go.Proofs.YtmcpiejgneegjaaDoorW.PrintWords Go.Proofs.YtmcpiejgneegjaaDoorW.PrintLast Go.Proofs.YtmcpiejgneegjaaDoorW.PrintMore

theorem gTab : Tryd.prog.globalNamed "internal/strconv.uint64pow10" = some 2 := by kernel_rfl
theorem gRng : Tryd.prog.globalNamed "strconv.ErrRange" = some 1 := by kernel_rfl

/-- The table of powers, and the error of what is out of range, are as the library lays them. -/
structure Laid (w : World) : Prop where
  tab : Lib.TabIs Tryd.prog w "internal/strconv.uint64pow10" .u64 Lib.pow10Tab
  rng : ∃ tp p, w.var? Tryd.prog "strconv.ErrRange" = some #[.iface tp p]

theorem var_below {n : String} {g : Nat} {cs : Array Value} {w w' : World} (hg : Tryd.prog.globalNamed n = some g) (h : w.var? Tryd.prog n = some cs) (hb : Below w.heap.size w w') : w'.var? Tryd.prog n = some cs := by
  unfold World.var? at h ⊢
  rw [hg] at h ⊢
  simp only [Option.bind_some] at h ⊢
  have hlt : g < w.heap.size := by
    rcases Nat.lt_or_ge g w.heap.size with h' | h'
    · exact h'
    · rw [Array.getElem?_eq_none h'] at h; cases h
  rw [hb.block g hlt]
  exact h

theorem Laid.below {w w' : World} (h : Laid w) (hb : Below w.heap.size w w') : Laid w' :=
  ⟨var_below gTab h.tab hb, by obtain ⟨tp, p, hv⟩ := h.rng; exact ⟨tp, p, var_below gRng hv hb⟩⟩
theorem Laid.drewN {w : World} (h : Laid w) (n : Nat) : Laid (w.drewN n) := h.below (pw_below_drewN (Below.refl _ _) n)

/-- A row that is read, as the iterator wants it. -/
theorem intsAt_of_C {w : World} {A : Option Addr} {c : Nat} {zs : List Int} (h : Kd.C (Kd.int .i64) w A zs.length zs) : IntsAt w.heap.size w (.slice A zs.length c) zs := by
  refine ⟨A, c, rfl, fun h0 => ?_⟩
  obtain ⟨ad, rfl, hc⟩ := h.2.2 h0
  have hall : ∀ j, j < zs.length → w.cell? (ad.add j) = some (.int .i64 (limb zs j)) := by
    intro j hj
    obtain ⟨cs, _, hk, hcell⟩ := hc j (zs[j]) (by simp [hj])
    have e : cs = [.int .i64 (zs[j])] := hk
    subst e
    have h1 := hcell 0 _ rfl
    have e1 : j * (Kd.int .i64).sz + 0 = j := by
      show j * 1 + 0 = j
      omega
    rw [e1] at h1
    rw [h1]
    simp [limb, hj]
  refine ⟨ad, rfl, ?_, hall⟩
  have h1 := World.block_lt_of_cell? w _ (hall 0 h0)
  rw [blk_add] at h1
  exact h1

end Go.Proofs.YtmcpiejgneegjaaDoor

end

/-
A slice made with room of its own and nothing in it, as an event of a walk.
-/
section
set_option linter.unusedVariables false
namespace Go.Proofs.YtmcpiejgneegjaaDoorW.PrintWords
open Go.RowKit
namespace Kd
section
variable {P : Program} {ops : Array Oper} {Q : Exit → Act → World → Prop} {rest : List Oper} {o : Oper} {a : Act} {α : Type}
/-- make([]T, 0, n): nothing in it, room for n. -/
theorem R_make0 (d : Kd α) {w0 W : World} (base e : Nat) (hgd : o.guard = none) {N : Tmp} (hd : o.dst = some N) (t : TypeId) (x y : Operand) (ho : o.op = .makeSlice t x y) (n : Int) (hx : a.eval x = .int .i64 0) (hy : a.eval y = .int .i64 n)
    (ht : P.underlying t = some (.slice e)) (z : Value) (bytes : Nat) (hinfo : (P.info? e).map (fun i => (i.zero, i.size, i.bytes)) = some (some z, d.sz, bytes)) (hz : z.cells.size = d.sz) (hs0 : 0 < d.sz) (hb0 : 0 < bytes)
    (z0 : α) {ok okp : Nat → Prop} (hzero : d.M W base okp z0 z.cells.toList) (hok : ∀ k, okp k → ok k) (hfresh : ok W.heap.size) (h0 : 0 ≤ n) (hl : n.toNat * bytes ≤ 281474976710656) (HB : Below base w0 W) (hbase : base ≤ W.heap.size)
    (h : ∀ v1 w1, d.R e w1 base ok v1 ([] : List α) → Below base w0 w1 → W.grownBy w1 none → (∃ b, v1.ownBlock = some b ∧ W.heap.size ≤ b) → wpList P ops Q rest (a.put o.dst v1) w1) : wpList P ops Q (o :: rest) a W := by
  obtain ⟨m, rfl⟩ := Int.eq_ofNat_of_zero_le h0
  simp only [Int.toNat_natCast] at hl
  obtain ⟨i0, hi, hzz⟩ := Option.map_eq_some_iff.1 hinfo
  simp only [Prod.mk.injEq] at hzz
  obtain ⟨hz0, hz1, hz2⟩ := hzz
  have hm : m ≤ 281474976710656 := Nat.le_trans (Nat.le_mul_of_pos_right _ hb0) hl
  obtain ⟨w1, hr, hown, hg⟩ := run_make_own (P := P) W base t e i0 z d.sz ht hi hz0 hz1 .i64 .i64 m (by rw [hz2, Nat.mul_comm]; exact hl) (by unfold maxLen; omega) hbase
  refine event_run hgd (by simp [execOp, ho, hx, hy, hr]) (h _ _ ⟨fun k hk => ?_, [], hown, Reps.none _ _⟩ (HB.grown hg hbase (fun k e => by cases e)) hg ⟨W.heap.size, by simp [Value.ownBlock], Nat.le_refl _⟩)
  have : W.heap.size = k := by simpa [Value.ownBlock] using hk
  subst this
  exact hfresh
end
end Kd
end Go.Proofs.YtmcpiejgneegjaaDoorW.PrintWords

end

-- Written by wip/pp.py of this place (over the kit's print) out of the translation.
section
namespace Go.Proofs.YtmcpiejgneegjaaDoor.Pq
open Go.RowKit Go.Proofs.YtmcpiejgneegjaaDoorW.PrintWords Go.Proofs.YtmcpiejgneegjaaDoorW.PrintLast Go.Proofs.YtmcpiejgneegjaaDoorW.PrintMore
attribute [local go_sem] max2_int min2_int max_two min_two max_three min_three max_four min_four   -- for this text's walks alone
set_option linter.unusedVariables false
set_option linter.unusedSimpArgs false



def errW : Option Int → Value
  | none => .nilIface
  | some c => .iface 0 (.int .i64 c)
theorem errW_none : errW none = .nilIface := rfl
theorem errW_some (c : Int) : errW (some c) = .iface 0 (.int .i64 c) := rfl

theorem info3 : (Tryd.prog.info? 3).map (fun i => (i.zero, i.size, i.bytes)) = some (some (.int .i64 0), 1, 8) := by kernel_rfl
theorem info5 : (Tryd.prog.info? 5).map (fun i => (i.zero, i.size, i.bytes)) = some (some (.int .u8 0), 1, 1) := by kernel_rfl
-- the values' own types

end Go.Proofs.YtmcpiejgneegjaaDoor.Pq

end

-- Written by wip/pp.py of this place (over the kit's print) out of the translation.
section
namespace Go.Proofs.YtmcpiejgneegjaaDoor.Pq
open Go.RowKit Go.Proofs.YtmcpiejgneegjaaDoorW.PrintWords Go.Proofs.YtmcpiejgneegjaaDoorW.PrintLast Go.Proofs.YtmcpiejgneegjaaDoorW.PrintMore
attribute [local go_sem] max2_int min2_int max_two min_two max_three min_three max_four min_four   -- for this text's walks alone
set_option linter.unusedVariables false
set_option linter.unusedSimpArgs false

/-! ### debentureref01_May: function 19 -/
def debentureref01_May.l0 : Nat → ByteArray → Int → Option (Bool)
  | 0, _, _ => none
  | k + 1, x0, x3 => if x3 < (x0.size : Int) then (if 0 ≤ x3 then (if (bt x0 x3) < 48 then (some false) else (if (bt x0 x3) > 57 then (some false) else (debentureref01_May.l0 k x0 (wrap64 (x3 + 1))))) else (none)) else (if (x0.size : Int) > 0 then (if x0.toList = ([48] : List UInt8) then (some true) else (if 0 < (x0.size : Int) then (some ((bt x0 0) != 48)) else (none))) else (some false))
def debentureref01_May.f (k : Nat) (a0 : ByteArray) : Option (Bool) := debentureref01_May.l0 k a0 0
theorem debentureref01_May.mono_l : ∀ k, (∀ y0 y1, LeO (debentureref01_May.l0 k y0 y1) (debentureref01_May.l0 (k + 1) y0 y1))
  | 0 => fun _ _ r h => by simp [debentureref01_May.l0] at h
  | k + 1 => by
    have ih0 := debentureref01_May.mono_l k
    · intro y0 y1
      unfold debentureref01_May.l0
      repeat' first
      | (with_reducible exact ih0 _ _)
      | (with_reducible exact LeO.refl _)
      | (with_reducible exact LeO.none _)
      | (with_reducible refine LeO.ite ?_ ?_)
      | (with_reducible refine LeO.bind ?_ (fun _ => ?_))
      | exact ih0 _ _
      | exact LeO.none _
      | refine LeO.ite ?_ ?_
      | refine LeO.bind ?_ (fun _ => ?_)
theorem debentureref01_May.mono : ∀ a0 k, LeO (debentureref01_May.f k a0) (debentureref01_May.f (k + 1) a0) := by
  intro a0 k
  have ih0 := debentureref01_May.mono_l k
  unfold debentureref01_May.f
  repeat' first
      | (with_reducible exact ih0 _ _)
      | (with_reducible exact LeO.refl _)
      | (with_reducible exact LeO.none _)
      | (with_reducible refine LeO.ite ?_ ?_)
      | (with_reducible refine LeO.bind ?_ (fun _ => ?_))
      | exact ih0 _ _
      | exact LeO.none _
      | refine LeO.ite ?_ ?_
      | refine LeO.bind ?_ (fun _ => ?_)
set_option maxHeartbeats 8000000 in
set_option maxRecDepth 100000 in
theorem debentureref01_May.calls (k : Nat) (a0 : ByteArray) (r : Bool) (w : World) (h : debentureref01_May.f k a0 = some r) :
    Calls Tryd.prog 19 #[.string a0] w fun e w' => e = .returned (.bool r) ∧ Drawn0 w w' := by
  have H : (debentureref01_May.l0 k a0 0) = some r := h
  clear h
  have H' := Aside0.mk H
  clear H
  go_enter Tryd.func19, Tryd.ntmps19
  go_wp2
  go_loopg [3] k (fun kq v3 w' => ∃ (x3_1 : Int), v3 = .int .i64 x3_1 ∧ Aside0 (debentureref01_May.l0 kq a0 x3_1 = some r) ∧ Aside0 (kq ≤ k) ∧ Drawn0 w w')
  case atStart => exact ⟨(0), (by first | rfl | (simp; done) | (simp [*]; done)), H', ⟨Nat.le_refl _⟩, by repeat (first | exact Drawn0.refl _ | apply Drawn0.step)⟩
  case round =>
    clear H'
    try clear c1
    obtain ⟨x3_1, rfl, HA, HK1, ⟨m1, rfl⟩⟩ := hrel
    cases gk with
    | zero => exact absurd HA.out (by simp [debentureref01_May.l0])
    | succ k1 =>
      have H := HA.out
      clear HA
      simp only [debentureref01_May.l0] at H
      by_cases c2 : x3_1 < (a0.size : Int)
      · rw [if_pos c2] at H
        have c2b0 : decide (x3_1 < (a0.size : Int)) = true := decide_eq_true c2
        clear c2
        by_cases c3 : 0 ≤ x3_1
        · rw [if_pos c3] at H
          have c3b0 : decide (0 ≤ x3_1) = true := decide_eq_true c3
          clear c3
          by_cases c5 : (bt a0 x3_1) < 48
          · rw [if_pos c5] at H
            have c5b0 : decide ((bt a0 x3_1) < 48) = true := decide_eq_true c5
            clear c5
            obtain rfl := Option.some.inj H
            have p4 : 0 ≤ (x3_1 : Int) := of_decide_eq_true (by first | (with_reducible assumption) | assumption)
            have q4 : x3_1 < (a0.size : Int) := of_decide_eq_true (by first | (with_reducible assumption) | assumption)
            have hx4 := bt_at a0 x3_1
            replace p4 := eq_true p4
            replace q4 := eq_true q4
            go_wp2
            go_ret
            exact ⟨by first | rfl | (simp; done) | (simp [*]; done), by repeat (first | exact Drawn0.refl _ | apply Drawn0.step)⟩
          · rw [if_neg c5] at H
            have c5b0 : decide ((bt a0 x3_1) < 48) = false := decide_eq_false c5
            clear c5
            by_cases c7 : (bt a0 x3_1) > 57
            · rw [if_pos c7] at H
              have c7b0 : decide (57 < (bt a0 x3_1)) = true := decide_eq_true c7
              clear c7
              obtain rfl := Option.some.inj H
              have p4 : 0 ≤ (x3_1 : Int) := of_decide_eq_true (by first | (with_reducible assumption) | assumption)
              have q4 : x3_1 < (a0.size : Int) := of_decide_eq_true (by first | (with_reducible assumption) | assumption)
              have hx4 := bt_at a0 x3_1
              replace p4 := eq_true p4
              replace q4 := eq_true q4
              have p6 : 0 ≤ (x3_1 : Int) := of_decide_eq_true (by first | (with_reducible assumption) | assumption)
              have q6 : x3_1 < (a0.size : Int) := of_decide_eq_true (by first | (with_reducible assumption) | assumption)
              have hx6 := bt_at a0 x3_1
              replace p6 := eq_true p6
              replace q6 := eq_true q6
              go_wp2
              go_ret
              exact ⟨by first | rfl | (simp; done) | (simp [*]; done), by repeat (first | exact Drawn0.refl _ | apply Drawn0.step)⟩
            · rw [if_neg c7] at H
              have c7b0 : decide (57 < (bt a0 x3_1)) = false := decide_eq_false c7
              clear c7
              have H' := Aside0.mk H
              clear H
              have p4 : 0 ≤ (x3_1 : Int) := of_decide_eq_true (by first | (with_reducible assumption) | assumption)
              have q4 : x3_1 < (a0.size : Int) := of_decide_eq_true (by first | (with_reducible assumption) | assumption)
              have hx4 := bt_at a0 x3_1
              replace p4 := eq_true p4
              replace q4 := eq_true q4
              have p6 : 0 ≤ (x3_1 : Int) := of_decide_eq_true (by first | (with_reducible assumption) | assumption)
              have q6 : x3_1 < (a0.size : Int) := of_decide_eq_true (by first | (with_reducible assumption) | assumption)
              have hx6 := bt_at a0 x3_1
              replace p6 := eq_true p6
              replace q6 := eq_true q6
              go_wp2
              go_roundg k1
              case measure => have := HK1.out; omega
              case rel => exact ⟨(wrap64 (x3_1 + 1)), (by first | rfl | (simp; done) | (simp [*]; done)), H', ⟨by have := HK1.out; omega⟩, by repeat (first | exact Drawn0.refl _ | apply Drawn0.step)⟩
        · rw [if_neg c3] at H
          exact absurd H (by simp)
      · rw [if_neg c2] at H
        have c2b0 : decide (x3_1 < (a0.size : Int)) = false := decide_eq_false c2
        clear c2
        by_cases c8 : (a0.size : Int) > 0
        · rw [if_pos c8] at H
          have c8b0 : decide (0 < (a0.size : Int)) = true := decide_eq_true c8
          have c8b1 : decide (0 < a0.size) = true := decide_eq_true (by omega)
          clear c8
          by_cases c9 : a0.toList = ([48] : List UInt8)
          · rw [if_pos c9] at H
            have c9b0 : (a0.toList == ([48] : List UInt8)) = true := beq_iff_eq.mpr c9
            have c9b1 : (a0.toList != ([48] : List UInt8)) = false := bne_eq_false_iff_eq.mpr c9
            clear c9
            obtain rfl := Option.some.inj H
            go_wp2
            go_ret
            exact ⟨by first | rfl | (simp; done) | (simp [*]; done), by repeat (first | exact Drawn0.refl _ | apply Drawn0.step)⟩
          · rw [if_neg c9] at H
            have c9b0 : (a0.toList == ([48] : List UInt8)) = false := beq_eq_false_iff_ne.mpr c9
            have c9b1 : (a0.toList != ([48] : List UInt8)) = true := bne_iff_ne.mpr c9
            by_cases c10 : 0 < (a0.size : Int)
            · rw [if_pos c10] at H
              have c10b0 : decide (0 < (a0.size : Int)) = true := decide_eq_true c10
              have c10b1 : decide (0 < a0.size) = true := decide_eq_true (by omega)
              clear c10
              obtain rfl := Option.some.inj H
              have p11 : 0 ≤ (0 : Int) := (by omega)
              have q11 : 0 < a0.size := (by have : (0 : Int) < (a0.size : Int) := of_decide_eq_true (by first | (with_reducible assumption) | assumption); omega)
              have hx11 : ∀ h : 0 < a0.size, ((a0[0]'h).toNat : Int) = bt a0 0 := bt_at a0 0
              clear p11
              have qi11 : (0 < (a0.size : Int)) = True := eq_true (of_decide_eq_true (by first | (with_reducible assumption) | assumption))
              replace q11 := eq_true q11
              go_wp2
              go_ret
              exact ⟨by first | rfl | (simp; done) | (simp [*]; done), by repeat (first | exact Drawn0.refl _ | apply Drawn0.step)⟩
            · rw [if_neg c10] at H
              exact absurd H (by simp)
        · rw [if_neg c8] at H
          have c8b0 : decide (0 < (a0.size : Int)) = false := decide_eq_false c8
          have c8b1 : decide (0 < a0.size) = false := decide_eq_false (by omega)
          clear c8
          obtain rfl := Option.some.inj H
          go_wp2
          go_ret
          exact ⟨by first | rfl | (simp; done) | (simp [*]; done), by repeat (first | exact Drawn0.refl _ | apply Drawn0.step)⟩

/-! ### debentureref01_Of: function 21 -/
def debentureref01_Of.l0 : Nat → Int → ByteArray → Option (ByteArray)
  | 0, _, _ => none
  | k + 1, x0, x3 => if x0 > 9 then (if 0 ≤ (Int.tmod x0 10) then (if (Int.tmod x0 10) ≤ (wrap64 ((Int.tmod x0 10) + 1)) then (if (wrap64 ((Int.tmod x0 10) + 1)) ≤ 10 then (if ((⟨#[48, 49, 50, 51, 52, 53, 54, 55, 56, 57]⟩ : ByteArray).extract ((Int.tmod x0 10) : Int).toNat ((wrap64 ((Int.tmod x0 10) + 1)) : Int).toNat).size + x3.size ≤ 9223372036854775807 then (debentureref01_Of.l0 k (wrap64 (Int.tdiv x0 10)) (((⟨#[48, 49, 50, 51, 52, 53, 54, 55, 56, 57]⟩ : ByteArray).extract ((Int.tmod x0 10) : Int).toNat ((wrap64 ((Int.tmod x0 10) + 1)) : Int).toNat) ++ x3)) else (none)) else (none)) else (none)) else (none)) else (if 0 ≤ x0 then (if x0 ≤ (wrap64 (x0 + 1)) then (if (wrap64 (x0 + 1)) ≤ 10 then (if ((⟨#[48, 49, 50, 51, 52, 53, 54, 55, 56, 57]⟩ : ByteArray).extract (x0 : Int).toNat ((wrap64 (x0 + 1)) : Int).toNat).size + x3.size ≤ 9223372036854775807 then (some (((⟨#[48, 49, 50, 51, 52, 53, 54, 55, 56, 57]⟩ : ByteArray).extract (x0 : Int).toNat ((wrap64 (x0 + 1)) : Int).toNat) ++ x3)) else (none)) else (none)) else (none)) else (none))
def debentureref01_Of.f (k : Nat) (a0 : Int) : Option (ByteArray) := if a0 < 0 then (some (⟨#[]⟩ : ByteArray)) else (debentureref01_Of.l0 k a0 (⟨#[]⟩ : ByteArray))
theorem debentureref01_Of.mono_l : ∀ k, (∀ y0 y1, LeO (debentureref01_Of.l0 k y0 y1) (debentureref01_Of.l0 (k + 1) y0 y1))
  | 0 => fun _ _ r h => by simp [debentureref01_Of.l0] at h
  | k + 1 => by
    have ih0 := debentureref01_Of.mono_l k
    · intro y0 y1
      unfold debentureref01_Of.l0
      repeat' first
      | (with_reducible exact ih0 _ _)
      | (with_reducible exact LeO.refl _)
      | (with_reducible exact LeO.none _)
      | (with_reducible refine LeO.ite ?_ ?_)
      | (with_reducible refine LeO.bind ?_ (fun _ => ?_))
      | exact ih0 _ _
      | exact LeO.none _
      | refine LeO.ite ?_ ?_
      | refine LeO.bind ?_ (fun _ => ?_)
theorem debentureref01_Of.mono : ∀ a0 k, LeO (debentureref01_Of.f k a0) (debentureref01_Of.f (k + 1) a0) := by
  intro a0 k
  have ih0 := debentureref01_Of.mono_l k
  unfold debentureref01_Of.f
  repeat' first
      | (with_reducible exact ih0 _ _)
      | (with_reducible exact LeO.refl _)
      | (with_reducible exact LeO.none _)
      | (with_reducible refine LeO.ite ?_ ?_)
      | (with_reducible refine LeO.bind ?_ (fun _ => ?_))
      | exact ih0 _ _
      | exact LeO.none _
      | refine LeO.ite ?_ ?_
      | refine LeO.bind ?_ (fun _ => ?_)
set_option maxHeartbeats 8000000 in
set_option maxRecDepth 100000 in
theorem debentureref01_Of.calls (k : Nat) (a0 : Int) (r : ByteArray) (w : World) (h : debentureref01_Of.f k a0 = some r) :
    Calls Tryd.prog 21 #[.int .i64 a0] w fun e w' => e = .returned (.string r) ∧ Drawn0 w w' := by
  have H : (if a0 < 0 then (some (⟨#[]⟩ : ByteArray)) else (debentureref01_Of.l0 k a0 (⟨#[]⟩ : ByteArray))) = some r := h
  clear h
  by_cases c2 : a0 < 0
  · rw [if_pos c2] at H
    have c2b0 : decide (a0 < 0) = true := decide_eq_true c2
    clear c2
    obtain rfl := Option.some.inj H
    go_enter Tryd.func21, Tryd.ntmps21
    go_wp2
    go_ret
    exact ⟨by first | rfl | (simp; done) | (simp [*]; done), by repeat (first | exact Drawn0.refl _ | apply Drawn0.step)⟩
  · rw [if_neg c2] at H
    have c2b0 : decide (a0 < 0) = false := decide_eq_false c2
    clear c2
    have H' := Aside0.mk H
    clear H
    go_enter Tryd.func21, Tryd.ntmps21
    go_wp2
    go_loopg [0, 3] k (fun kq v0 v3 w' => ∃ (x0_1 : Int) (x3_1 : ByteArray), v0 = .int .i64 x0_1 ∧ v3 = .string x3_1 ∧ Aside0 (debentureref01_Of.l0 kq x0_1 x3_1 = some r) ∧ Aside0 (kq ≤ k) ∧ Drawn0 w w')
    case atStart => exact ⟨(a0), ((⟨#[]⟩ : ByteArray)), (by first | rfl | (simp; done) | (simp [*]; done)), (by first | rfl | (simp; done) | (simp [*]; done)), H', ⟨Nat.le_refl _⟩, by repeat (first | exact Drawn0.refl _ | apply Drawn0.step)⟩
    case round =>
      clear H'
      try clear c2
      try clear c2b0
      try clear p2
      obtain ⟨x0_1, x3_1, rfl, rfl, HA, HK1, ⟨m1, rfl⟩⟩ := hrel
      cases gk with
      | zero => exact absurd HA.out (by simp [debentureref01_Of.l0])
      | succ k1 =>
        have H := HA.out
        clear HA
        simp only [debentureref01_Of.l0] at H
        by_cases c3 : x0_1 > 9
        · rw [if_pos c3] at H
          have c3b0 : decide (9 < x0_1) = true := decide_eq_true c3
          clear c3
          obtain ⟨ji4, hji4⟩ : ∃ j_ : Int, (Int.tmod x0_1 10) = j_ := ⟨_, rfl⟩
          replace H : (if 0 ≤ (ji4) then (if (ji4) ≤ (wrap64 ((ji4) + 1)) then (if (wrap64 ((ji4) + 1)) ≤ 10 then (if ((⟨#[48, 49, 50, 51, 52, 53, 54, 55, 56, 57]⟩ : ByteArray).extract ((ji4) : Int).toNat ((wrap64 ((ji4) + 1)) : Int).toNat).size + x3_1.size ≤ 9223372036854775807 then (debentureref01_Of.l0 k1 (wrap64 (Int.tdiv x0_1 10)) (((⟨#[48, 49, 50, 51, 52, 53, 54, 55, 56, 57]⟩ : ByteArray).extract ((ji4) : Int).toNat ((wrap64 ((ji4) + 1)) : Int).toNat) ++ x3_1)) else (none)) else (none)) else (none)) else (none)) = some r := by first | (rw [hji4] at H; exact H) | (simp only [hji4] at H ⊢; exact H)
          by_cases c5 : 0 ≤ (ji4)
          · rw [if_pos c5] at H
            have c5b0 := eq_true c5
            have c5b1 : decide (0 ≤ (ji4)) = true := decide_eq_true c5
            clear c5
            by_cases c6 : (ji4) ≤ (wrap64 ((ji4) + 1))
            · rw [if_pos c6] at H
              have c6b0 := eq_true c6
              have c6b1 : decide ((ji4) ≤ (wrap64 ((ji4) + 1))) = true := decide_eq_true c6
              have c6b1w : decide ((ji4) ≤ (IntKind.i64.wrap ((ji4) + 1))) = true := by simp only [i64_w]; exact c6b1
              by_cases c7 : (wrap64 ((ji4) + 1)) ≤ 10
              · rw [if_pos c7] at H
                have c7b0 := eq_true c7
                have c7b1 : decide ((wrap64 ((ji4) + 1)) ≤ 10) = true := decide_eq_true c7
                have c7b1w : decide ((IntKind.i64.wrap ((ji4) + 1)) ≤ 10) = true := by simp only [i64_w]; exact c7b1
                by_cases c8 : ((⟨#[48, 49, 50, 51, 52, 53, 54, 55, 56, 57]⟩ : ByteArray).extract ((ji4) : Int).toNat ((wrap64 ((ji4) + 1)) : Int).toNat).size + x3_1.size ≤ 9223372036854775807
                · rw [if_pos c8] at H
                  have c8b0 := eq_true c8
                  have c8b1 : decide (((⟨#[48, 49, 50, 51, 52, 53, 54, 55, 56, 57]⟩ : ByteArray).extract ((ji4) : Int).toNat ((wrap64 ((ji4) + 1)) : Int).toNat).size + x3_1.size ≤ 9223372036854775807) = true := decide_eq_true c8
                  have c8b1w : decide (((⟨#[48, 49, 50, 51, 52, 53, 54, 55, 56, 57]⟩ : ByteArray).extract ((ji4) : Int).toNat ((IntKind.i64.wrap ((ji4) + 1)) : Int).toNat).size + x3_1.size ≤ 9223372036854775807) = true := by simp only [i64_w]; exact c8b1
                  try have c8b2 : (9223372036854775807 < ((⟨#[48, 49, 50, 51, 52, 53, 54, 55, 56, 57]⟩ : ByteArray).extract ((ji4) : Int).toNat ((wrap64 ((ji4) + 1)) : Int).toNat).size + x3_1.size) = False := eq_false (Nat.not_lt.2 c8)
                  have H' := Aside0.mk H
                  clear H
                  go_wp2
                  go_roundg k1
                  case measure => have := HK1.out; omega
                  case rel => exact ⟨(wrap64 (Int.tdiv x0_1 10)), (((⟨#[48, 49, 50, 51, 52, 53, 54, 55, 56, 57]⟩ : ByteArray).extract ((ji4) : Int).toNat ((wrap64 ((ji4) + 1)) : Int).toNat) ++ x3_1), (by first | rfl | (simp; done) | (simp [*]; done)), (by first | rfl | (simp; done) | (simp only [← hji4] <;> (first | rfl | simp)) | (simp [*]; done)), H', ⟨by have := HK1.out; omega⟩, by repeat (first | exact Drawn0.refl _ | apply Drawn0.step)⟩
                · rw [if_neg c8] at H
                  exact absurd H (by simp)
              · rw [if_neg c7] at H
                exact absurd H (by simp)
            · rw [if_neg c6] at H
              exact absurd H (by simp)
          · rw [if_neg c5] at H
            exact absurd H (by simp)
        · rw [if_neg c3] at H
          have c3b0 : decide (9 < x0_1) = false := decide_eq_false c3
          clear c3
          by_cases c9 : 0 ≤ x0_1
          · rw [if_pos c9] at H
            have c9b0 := eq_true c9
            have c9b1 : decide (0 ≤ x0_1) = true := decide_eq_true c9
            clear c9
            by_cases c10 : x0_1 ≤ (wrap64 (x0_1 + 1))
            · rw [if_pos c10] at H
              have c10b0 := eq_true c10
              have c10b1 : decide (x0_1 ≤ (wrap64 (x0_1 + 1))) = true := decide_eq_true c10
              have c10b1w : decide (x0_1 ≤ (IntKind.i64.wrap (x0_1 + 1))) = true := by simp only [i64_w]; exact c10b1
              by_cases c11 : (wrap64 (x0_1 + 1)) ≤ 10
              · rw [if_pos c11] at H
                have c11b0 := eq_true c11
                have c11b1 : decide ((wrap64 (x0_1 + 1)) ≤ 10) = true := decide_eq_true c11
                have c11b1w : decide ((IntKind.i64.wrap (x0_1 + 1)) ≤ 10) = true := by simp only [i64_w]; exact c11b1
                by_cases c12 : ((⟨#[48, 49, 50, 51, 52, 53, 54, 55, 56, 57]⟩ : ByteArray).extract (x0_1 : Int).toNat ((wrap64 (x0_1 + 1)) : Int).toNat).size + x3_1.size ≤ 9223372036854775807
                · rw [if_pos c12] at H
                  have c12b0 := eq_true c12
                  have c12b1 : decide (((⟨#[48, 49, 50, 51, 52, 53, 54, 55, 56, 57]⟩ : ByteArray).extract (x0_1 : Int).toNat ((wrap64 (x0_1 + 1)) : Int).toNat).size + x3_1.size ≤ 9223372036854775807) = true := decide_eq_true c12
                  have c12b1w : decide (((⟨#[48, 49, 50, 51, 52, 53, 54, 55, 56, 57]⟩ : ByteArray).extract (x0_1 : Int).toNat ((IntKind.i64.wrap (x0_1 + 1)) : Int).toNat).size + x3_1.size ≤ 9223372036854775807) = true := by simp only [i64_w]; exact c12b1
                  try have c12b2 : (9223372036854775807 < ((⟨#[48, 49, 50, 51, 52, 53, 54, 55, 56, 57]⟩ : ByteArray).extract (x0_1 : Int).toNat ((wrap64 (x0_1 + 1)) : Int).toNat).size + x3_1.size) = False := eq_false (Nat.not_lt.2 c12)
                  obtain rfl := Option.some.inj H
                  go_wp2
                  go_ret
                  exact ⟨by first | rfl | (simp; done) | (simp [*]; done), by repeat (first | exact Drawn0.refl _ | apply Drawn0.step)⟩
                · rw [if_neg c12] at H
                  exact absurd H (by simp)
              · rw [if_neg c11] at H
                exact absurd H (by simp)
            · rw [if_neg c10] at H
              exact absurd H (by simp)
          · rw [if_neg c9] at H
            exact absurd H (by simp)

/-! ### debentureref01_Cmp: function 23 -/
def debentureref01_Cmp.j0 : Nat → ByteArray → ByteArray → Bool → Option (Int)
  | 0, _, _, _ => none
  | k + 1, x0, x1, x17 => if x17 = true then (some 0) else (if (x0.size : Int) < (x1.size : Int) then (some (-1)) else (if (x0.size : Int) = (x1.size : Int) then (if (Op.bytesLess x0.toList x1.toList) = true then (some (-1)) else (some 1)) else (some 1)))
def debentureref01_Cmp.f (k : Nat) (a0 : ByteArray) (a1 : ByteArray) : Option (Int) := (debentureref01_May.f k a0).bind fun t101 => (if t101 = true then ((debentureref01_May.f k a1).bind fun t102 => (if t102 = true then (debentureref01_Cmp.j0 k a0 a1 (a0.toList == a1.toList)) else (debentureref01_Cmp.j0 k a0 a1 true))) else (debentureref01_Cmp.j0 k a0 a1 true))
theorem debentureref01_Cmp.mono_l : ∀ k, (∀ y0 y1 y2, LeO (debentureref01_Cmp.j0 k y0 y1 y2) (debentureref01_Cmp.j0 (k + 1) y0 y1 y2))
  | 0 => fun _ _ _ r h => by simp [debentureref01_Cmp.j0] at h
  | k + 1 => by
    have ih0 := debentureref01_Cmp.mono_l k
    · intro y0 y1 y2
      unfold debentureref01_Cmp.j0
      repeat' first
      | (with_reducible exact ih0 _ _ _)
      | (with_reducible exact debentureref01_May.mono _ _)
      | (with_reducible exact LeO.refl _)
      | (with_reducible exact LeO.none _)
      | (with_reducible refine LeO.ite ?_ ?_)
      | (with_reducible refine LeO.bind ?_ (fun _ => ?_))
      | exact ih0 _ _ _
      | exact debentureref01_May.mono _ _
      | exact LeO.none _
      | refine LeO.ite ?_ ?_
      | refine LeO.bind ?_ (fun _ => ?_)
theorem debentureref01_Cmp.mono : ∀ a0 a1 k, LeO (debentureref01_Cmp.f k a0 a1) (debentureref01_Cmp.f (k + 1) a0 a1) := by
  intro a0 a1 k
  have ih0 := debentureref01_Cmp.mono_l k
  unfold debentureref01_Cmp.f
  repeat' first
      | (with_reducible exact ih0 _ _ _)
      | (with_reducible exact debentureref01_May.mono _ _)
      | (with_reducible exact LeO.refl _)
      | (with_reducible exact LeO.none _)
      | (with_reducible refine LeO.ite ?_ ?_)
      | (with_reducible refine LeO.bind ?_ (fun _ => ?_))
      | exact ih0 _ _ _
      | exact debentureref01_May.mono _ _
      | exact LeO.none _
      | refine LeO.ite ?_ ?_
      | refine LeO.bind ?_ (fun _ => ?_)
set_option maxHeartbeats 8000000 in
set_option maxRecDepth 100000 in
theorem debentureref01_Cmp.calls (k : Nat) (a0 : ByteArray) (a1 : ByteArray) (r : Int) (w : World) (h : debentureref01_Cmp.f k a0 a1 = some r) :
    Calls Tryd.prog 23 #[.string a0, .string a1] w fun e w' => e = .returned (.int .i64 r) ∧ Drawn0 w w' := by
  have H : ((debentureref01_May.f k a0).bind fun t101 => (if t101 = true then ((debentureref01_May.f k a1).bind fun t102 => (if t102 = true then (debentureref01_Cmp.j0 k a0 a1 (a0.toList == a1.toList)) else (debentureref01_Cmp.j0 k a0 a1 true))) else (debentureref01_Cmp.j0 k a0 a1 true))) = some r := h
  clear h
  have HC3 := Aside0.mk H
  clear H
  go_enter Tryd.func23, Tryd.ntmps23
  go_upto_region 1 with (fail)
  go_cut [17] (fun v17 wc => ∃ (kq : Nat) (x17_2 : Bool), v17 = .bool x17_2 ∧ Aside0 (debentureref01_Cmp.j0 kq a0 a1 x17_2 = some r) ∧ Aside0 (kq ≤ k) ∧ Drawn0 w wc)
  case first =>
    have H := HC3.out
    clear HC3
    replace H := Option.bind_eq_some_iff.mp H
    obtain ⟨t101, A40, H⟩ := H
    replace H : (if t101 = true then ((debentureref01_May.f k a1).bind fun t102 => (if t102 = true then (debentureref01_Cmp.j0 k a0 a1 (a0.toList == a1.toList)) else (debentureref01_Cmp.j0 k a0 a1 true))) else (debentureref01_Cmp.j0 k a0 a1 true)) = some r := H
    have A4 := Aside0.mk A40
    clear A40
    by_cases c5 : t101 = true
    · subst c5
      have H1 : ((debentureref01_May.f k a1).bind fun t102 => (if t102 = true then (debentureref01_Cmp.j0 k a0 a1 (a0.toList == a1.toList)) else (debentureref01_Cmp.j0 k a0 a1 true))) = some r := by rw [if_pos rfl] at H; exact H
      clear H
      have H := H1
      clear H1
      replace H := Option.bind_eq_some_iff.mp H
      obtain ⟨t102, A60, H⟩ := H
      replace H : (if t102 = true then (debentureref01_Cmp.j0 k a0 a1 (a0.toList == a1.toList)) else (debentureref01_Cmp.j0 k a0 a1 true)) = some r := H
      have A6 := Aside0.mk A60
      clear A60
      by_cases c7 : t102 = true
      · subst c7
        have H1 : (debentureref01_Cmp.j0 k a0 a1 (a0.toList == a1.toList)) = some r := by rw [if_pos rfl] at H; exact H
        clear H
        have H := H1
        clear H1
        have H' := Aside0.mk H
        clear H
        go_wp2_with (first | ((with_reducible refine gate_callee (f := 19) rfl ?_); refine goesL_ (some 6) rfl rfl Tryd.func19 (by kernel_rfl) rfl #[.string a0] rfl (by (try simp only [List.map_toArray, List.map_cons, List.map_nil]); first | done | rfl | (simp only [List.length_drop, List.length_take]; rfl)) ?_; (with_reducible refine (debentureref01_May.calls k a0 true _ A4.out).mono ?_); rintro e w' ⟨rfl, ⟨nd, rfl⟩⟩; refine ⟨_, rfl, ?_⟩) | (go_at_call 19; (with_reducible refine (debentureref01_May.calls k a1 true _ A6.out).mono ?_); rintro e w' ⟨rfl, ⟨nd, rfl⟩⟩))
        go_meet
        case rel => exact ⟨_, ((a0.toList == a1.toList)), (by first | rfl | (simp; done) | (simp [*]; done)), H', ⟨by first | omega | exact Nat.le_refl _⟩, by repeat (first | exact Drawn0.refl _ | apply Drawn0.step)⟩
      · replace c7 := Bool.eq_false_iff.mpr c7
        subst c7
        have H1 : (debentureref01_Cmp.j0 k a0 a1 true) = some r := by rw [if_neg (show ¬ (false = true) by decide)] at H; exact H
        clear H
        have H := H1
        clear H1
        have H' := Aside0.mk H
        clear H
        go_wp2_with (first | ((with_reducible refine gate_callee (f := 19) rfl ?_); refine goesL_ (some 6) rfl rfl Tryd.func19 (by kernel_rfl) rfl #[.string a0] rfl (by (try simp only [List.map_toArray, List.map_cons, List.map_nil]); first | done | rfl | (simp only [List.length_drop, List.length_take]; rfl)) ?_; (with_reducible refine (debentureref01_May.calls k a0 true _ A4.out).mono ?_); rintro e w' ⟨rfl, ⟨nd, rfl⟩⟩; refine ⟨_, rfl, ?_⟩) | (go_at_call 19; (with_reducible refine (debentureref01_May.calls k a1 false _ A6.out).mono ?_); rintro e w' ⟨rfl, ⟨nd, rfl⟩⟩))
        go_meet
        case rel => exact ⟨_, (true), (by first | rfl | (simp; done) | (simp [*]; done)), H', ⟨by first | omega | exact Nat.le_refl _⟩, by repeat (first | exact Drawn0.refl _ | apply Drawn0.step)⟩
    · replace c5 := Bool.eq_false_iff.mpr c5
      subst c5
      have H1 : (debentureref01_Cmp.j0 k a0 a1 true) = some r := by rw [if_neg (show ¬ (false = true) by decide)] at H; exact H
      clear H
      have H := H1
      clear H1
      have H' := Aside0.mk H
      clear H
      go_wp2_with (first | ((with_reducible refine gate_callee (f := 19) rfl ?_); refine goesL_ (some 6) rfl rfl Tryd.func19 (by kernel_rfl) rfl #[.string a0] rfl (by (try simp only [List.map_toArray, List.map_cons, List.map_nil]); first | done | rfl | (simp only [List.length_drop, List.length_take]; rfl)) ?_; (with_reducible refine (debentureref01_May.calls k a0 false _ A4.out).mono ?_); rintro e w' ⟨rfl, ⟨nd, rfl⟩⟩; refine ⟨_, rfl, ?_⟩))
      go_meet
      case rel => exact ⟨_, (true), (by first | rfl | (simp; done) | (simp [*]; done)), H', ⟨by first | omega | exact Nat.le_refl _⟩, by repeat (first | exact Drawn0.refl _ | apply Drawn0.step)⟩
  case rest =>
    clear HC3
    try clear c1
    try clear c2
    try clear p2
    try clear c5
    try clear c7
    obtain ⟨kq, x17_2, rfl, HA, HJ2, ⟨mc2, rfl⟩⟩ := hcut
    cases kq with
    | zero => exact absurd HA.out (by simp [debentureref01_Cmp.j0])
    | succ kj2 =>
      have H := HA.out
      clear HA
      simp only [debentureref01_Cmp.j0] at H
      by_cases c8 : x17_2 = true
      · subst c8
        have H1 : (some 0) = some r := by rw [if_pos rfl] at H; exact H
        clear H
        have H := H1
        clear H1
        obtain rfl := Option.some.inj H
        go_wp2
        go_ret
        exact ⟨by first | rfl | (simp; done) | (simp [*]; done), by repeat (first | exact Drawn0.refl _ | apply Drawn0.step)⟩
      · replace c8 := Bool.eq_false_iff.mpr c8
        subst c8
        have H1 : (if (a0.size : Int) < (a1.size : Int) then (some (-1)) else (if (a0.size : Int) = (a1.size : Int) then (if (Op.bytesLess a0.toList a1.toList) = true then (some (-1)) else (some 1)) else (some 1))) = some r := by rw [if_neg (show ¬ (false = true) by decide)] at H; exact H
        clear H
        have H := H1
        clear H1
        by_cases c9 : (a0.size : Int) < (a1.size : Int)
        · rw [if_pos c9] at H
          have c9b0 : decide ((a0.size : Int) < (a1.size : Int)) = true := decide_eq_true c9
          have c9b1 : decide (a0.size < a1.size) = true := decide_eq_true (Int.ofNat_lt.mp c9)
          clear c9
          obtain rfl := Option.some.inj H
          go_wp2
          go_ret
          exact ⟨by first | rfl | (simp; done) | (simp [*]; done), by repeat (first | exact Drawn0.refl _ | apply Drawn0.step)⟩
        · rw [if_neg c9] at H
          have c9b0 : decide ((a0.size : Int) < (a1.size : Int)) = false := decide_eq_false c9
          have c9b1 : decide (a0.size < a1.size) = false := decide_eq_false (fun h => c9 (Int.ofNat_lt.mpr h))
          clear c9
          by_cases c10 : (a0.size : Int) = (a1.size : Int)
          · rw [if_pos c10] at H
            have c10b0 : ((a0.size : Int) == (a1.size : Int)) = true := beq_iff_eq.mpr c10
            have c10b1 : ((a0.size : Int) != (a1.size : Int)) = false := bne_eq_false_iff_eq.mpr c10
            have c10b2 : (a0.size == a1.size) = true := by first | simpa using c10 | (simp at c10 ⊢; omega)
            clear c10
            by_cases c11 : (Op.bytesLess a0.toList a1.toList) = true
            · rw [if_pos c11] at H
              have c11b0 : (Op.bytesLess a0.toList a1.toList) = true := c11
              clear c11
              obtain rfl := Option.some.inj H
              go_wp2
              go_ret
              exact ⟨by first | rfl | (simp; done) | (simp [*]; done), by repeat (first | exact Drawn0.refl _ | apply Drawn0.step)⟩
            · rw [if_neg c11] at H
              have c11b0 : (Op.bytesLess a0.toList a1.toList) = false := by simpa using c11
              clear c11
              obtain rfl := Option.some.inj H
              go_wp2
              go_ret
              exact ⟨by first | rfl | (simp; done) | (simp [*]; done), by repeat (first | exact Drawn0.refl _ | apply Drawn0.step)⟩
          · rw [if_neg c10] at H
            have c10b0 : ((a0.size : Int) == (a1.size : Int)) = false := beq_eq_false_iff_ne.mpr c10
            have c10b1 : ((a0.size : Int) != (a1.size : Int)) = true := bne_iff_ne.mpr c10
            have c10b2 : (a0.size == a1.size) = false := by first | simpa using c10 | (simp at c10 ⊢; omega)
            obtain rfl := Option.some.inj H
            go_wp2
            go_ret
            exact ⟨by first | rfl | (simp; done) | (simp [*]; done), by repeat (first | exact Drawn0.refl _ | apply Drawn0.step)⟩

/-! ### debentureref01_Small: function 17 -/
mutual
def debentureref01_Small.j0 : Nat → ByteArray → Bool → Option (Int × Bool)
  | 0, _, _ => none
  | k + 1, x0, x13 => if x13 = true then (some (0, false)) else (debentureref01_Small.l0 k x0 0 0)
def debentureref01_Small.l0 : Nat → ByteArray → Int → Int → Option (Int × Bool)
  | 0, _, _, _ => none
  | k + 1, x0, x4, x5 => if x5 < (x0.size : Int) then (if 0 ≤ x5 then (debentureref01_Small.l0 k x0 (wrap64 ((wrap64 (10 * x4)) + (((bt x0 x5) - 48) % 256))) (wrap64 (x5 + 1))) else (none)) else (some (x4, true))
end
def debentureref01_Small.f (k : Nat) (a0 : ByteArray) : Option (Int × Bool) := (debentureref01_May.f k a0).bind fun t103 => (if t103 = true then ((debentureref01_Cmp.f k a0 (⟨#[57, 50, 50, 51, 51, 55, 50, 48, 51, 54, 56, 53, 52, 55, 55, 53, 56, 48, 55]⟩ : ByteArray)).bind fun t104 => (debentureref01_Small.j0 k a0 (decide (t104 > 0)))) else (debentureref01_Small.j0 k a0 true))
theorem debentureref01_Small.mono_l : ∀ k, (∀ y0 y1, LeO (debentureref01_Small.j0 k y0 y1) (debentureref01_Small.j0 (k + 1) y0 y1)) ∧ (∀ y0 y1 y2, LeO (debentureref01_Small.l0 k y0 y1 y2) (debentureref01_Small.l0 (k + 1) y0 y1 y2))
  | 0 => ⟨fun _ _ r h => by simp [debentureref01_Small.j0] at h, fun _ _ _ r h => by simp [debentureref01_Small.l0] at h⟩
  | k + 1 => by
    obtain ⟨ih0, ih1⟩ := debentureref01_Small.mono_l k
    refine ⟨?_, ?_⟩
    · intro y0 y1
      unfold debentureref01_Small.j0
      repeat' first
      | (with_reducible exact ih0 _ _)
      | (with_reducible exact ih1 _ _ _)
      | (with_reducible exact debentureref01_Cmp.mono _ _ _)
      | (with_reducible exact debentureref01_May.mono _ _)
      | (with_reducible exact LeO.refl _)
      | (with_reducible exact LeO.none _)
      | (with_reducible refine LeO.ite ?_ ?_)
      | (with_reducible refine LeO.bind ?_ (fun _ => ?_))
      | exact ih0 _ _
      | exact ih1 _ _ _
      | exact debentureref01_Cmp.mono _ _ _
      | exact debentureref01_May.mono _ _
      | exact LeO.none _
      | refine LeO.ite ?_ ?_
      | refine LeO.bind ?_ (fun _ => ?_)
    · intro y0 y1 y2
      unfold debentureref01_Small.l0
      repeat' first
      | (with_reducible exact ih0 _ _)
      | (with_reducible exact ih1 _ _ _)
      | (with_reducible exact debentureref01_Cmp.mono _ _ _)
      | (with_reducible exact debentureref01_May.mono _ _)
      | (with_reducible exact LeO.refl _)
      | (with_reducible exact LeO.none _)
      | (with_reducible refine LeO.ite ?_ ?_)
      | (with_reducible refine LeO.bind ?_ (fun _ => ?_))
      | exact ih0 _ _
      | exact ih1 _ _ _
      | exact debentureref01_Cmp.mono _ _ _
      | exact debentureref01_May.mono _ _
      | exact LeO.none _
      | refine LeO.ite ?_ ?_
      | refine LeO.bind ?_ (fun _ => ?_)
theorem debentureref01_Small.mono : ∀ a0 k, LeO (debentureref01_Small.f k a0) (debentureref01_Small.f (k + 1) a0) := by
  intro a0 k
  obtain ⟨ih0, ih1⟩ := debentureref01_Small.mono_l k
  unfold debentureref01_Small.f
  repeat' first
      | (with_reducible exact ih0 _ _)
      | (with_reducible exact ih1 _ _ _)
      | (with_reducible exact debentureref01_Cmp.mono _ _ _)
      | (with_reducible exact debentureref01_May.mono _ _)
      | (with_reducible exact LeO.refl _)
      | (with_reducible exact LeO.none _)
      | (with_reducible refine LeO.ite ?_ ?_)
      | (with_reducible refine LeO.bind ?_ (fun _ => ?_))
      | exact ih0 _ _
      | exact ih1 _ _ _
      | exact debentureref01_Cmp.mono _ _ _
      | exact debentureref01_May.mono _ _
      | exact LeO.none _
      | refine LeO.ite ?_ ?_
      | refine LeO.bind ?_ (fun _ => ?_)
set_option maxHeartbeats 8000000 in
set_option maxRecDepth 100000 in
theorem debentureref01_Small.calls (k : Nat) (a0 : ByteArray) (r1 : Int) (r2 : Bool) (w : World) (h : debentureref01_Small.f k a0 = some (r1, r2)) :
    Calls Tryd.prog 17 #[.string a0] w fun e w' => e = .returned (.tuple #[.int .i64 r1, .bool r2]) ∧ Drawn0 w w' := by
  have H : ((debentureref01_May.f k a0).bind fun t103 => (if t103 = true then ((debentureref01_Cmp.f k a0 (⟨#[57, 50, 50, 51, 51, 55, 50, 48, 51, 54, 56, 53, 52, 55, 55, 53, 56, 48, 55]⟩ : ByteArray)).bind fun t104 => (debentureref01_Small.j0 k a0 (decide (t104 > 0)))) else (debentureref01_Small.j0 k a0 true))) = some (r1, r2) := h
  clear h
  have HC2 := Aside0.mk H
  clear H
  go_enter Tryd.func17, Tryd.ntmps17
  go_upto_region 1 with (fail)
  go_cut [13] (fun v13 wc => ∃ (kq : Nat) (x13_1 : Bool), v13 = .bool x13_1 ∧ Aside0 (debentureref01_Small.j0 kq a0 x13_1 = some (r1, r2)) ∧ Aside0 (kq ≤ k) ∧ Drawn0 w wc)
  case first =>
    have H := HC2.out
    clear HC2
    replace H := Option.bind_eq_some_iff.mp H
    obtain ⟨t103, A30, H⟩ := H
    replace H : (if t103 = true then ((debentureref01_Cmp.f k a0 (⟨#[57, 50, 50, 51, 51, 55, 50, 48, 51, 54, 56, 53, 52, 55, 55, 53, 56, 48, 55]⟩ : ByteArray)).bind fun t104 => (debentureref01_Small.j0 k a0 (decide (t104 > 0)))) else (debentureref01_Small.j0 k a0 true)) = some (r1, r2) := H
    have A3 := Aside0.mk A30
    clear A30
    by_cases c4 : t103 = true
    · subst c4
      have H1 : ((debentureref01_Cmp.f k a0 (⟨#[57, 50, 50, 51, 51, 55, 50, 48, 51, 54, 56, 53, 52, 55, 55, 53, 56, 48, 55]⟩ : ByteArray)).bind fun t104 => (debentureref01_Small.j0 k a0 (decide (t104 > 0)))) = some (r1, r2) := by rw [if_pos rfl] at H; exact H
      clear H
      have H := H1
      clear H1
      replace H := Option.bind_eq_some_iff.mp H
      obtain ⟨t104, A50, H⟩ := H
      replace H : (debentureref01_Small.j0 k a0 (decide (t104 > 0))) = some (r1, r2) := H
      have A5 := Aside0.mk A50
      clear A50
      have H' := Aside0.mk H
      clear H
      go_wp2_with (first | ((with_reducible refine gate_callee (f := 19) rfl ?_); refine goesL_ (some 7) rfl rfl Tryd.func19 (by kernel_rfl) rfl #[.string a0] rfl (by (try simp only [List.map_toArray, List.map_cons, List.map_nil]); first | done | rfl | (simp only [List.length_drop, List.length_take]; rfl)) ?_; (with_reducible refine (debentureref01_May.calls k a0 true _ A3.out).mono ?_); rintro e w' ⟨rfl, ⟨nd, rfl⟩⟩; refine ⟨_, rfl, ?_⟩) | (go_at_call 23; (with_reducible refine (debentureref01_Cmp.calls k a0 (⟨#[57, 50, 50, 51, 51, 55, 50, 48, 51, 54, 56, 53, 52, 55, 55, 53, 56, 48, 55]⟩ : ByteArray) t104 _ A5.out).mono ?_); rintro e w' ⟨rfl, ⟨nd, rfl⟩⟩))
      go_meet
      case rel => exact ⟨_, (decide (t104 > 0)), (by first | rfl | (simp; done) | (simp [*]; done)), H', ⟨by first | omega | exact Nat.le_refl _⟩, by repeat (first | exact Drawn0.refl _ | apply Drawn0.step)⟩
    · replace c4 := Bool.eq_false_iff.mpr c4
      subst c4
      have H1 : (debentureref01_Small.j0 k a0 true) = some (r1, r2) := by rw [if_neg (show ¬ (false = true) by decide)] at H; exact H
      clear H
      have H := H1
      clear H1
      have H' := Aside0.mk H
      clear H
      go_wp2_with (first | ((with_reducible refine gate_callee (f := 19) rfl ?_); refine goesL_ (some 7) rfl rfl Tryd.func19 (by kernel_rfl) rfl #[.string a0] rfl (by (try simp only [List.map_toArray, List.map_cons, List.map_nil]); first | done | rfl | (simp only [List.length_drop, List.length_take]; rfl)) ?_; (with_reducible refine (debentureref01_May.calls k a0 false _ A3.out).mono ?_); rintro e w' ⟨rfl, ⟨nd, rfl⟩⟩; refine ⟨_, rfl, ?_⟩))
      go_meet
      case rel => exact ⟨_, (true), (by first | rfl | (simp; done) | (simp [*]; done)), H', ⟨by first | omega | exact Nat.le_refl _⟩, by repeat (first | exact Drawn0.refl _ | apply Drawn0.step)⟩
  case rest =>
    clear HC2
    try clear c1
    try clear p2
    try clear c4
    obtain ⟨kq, x13_1, rfl, HA, HJ1, ⟨mc1, rfl⟩⟩ := hcut
    cases kq with
    | zero => exact absurd HA.out (by simp [debentureref01_Small.j0])
    | succ kj1 =>
      have H := HA.out
      clear HA
      simp only [debentureref01_Small.j0] at H
      by_cases c6 : x13_1 = true
      · subst c6
        have H1 : (some (0, false)) = some (r1, r2) := by rw [if_pos rfl] at H; exact H
        clear H
        have H := H1
        clear H1
        simp only [Option.some.injEq, Prod.mk.injEq] at H
        obtain ⟨rfl, rfl⟩ := H
        go_wp2
        go_ret2
        exact ⟨by first | rfl | (simp; done) | (simp [*]; done), by repeat (first | exact Drawn0.refl _ | apply Drawn0.step)⟩
      · replace c6 := Bool.eq_false_iff.mpr c6
        subst c6
        have H1 : (debentureref01_Small.l0 kj1 a0 0 0) = some (r1, r2) := by rw [if_neg (show ¬ (false = true) by decide)] at H; exact H
        clear H
        have H := H1
        clear H1
        have H' := Aside0.mk H
        clear H
        go_wp2
        go_loopg [4, 5] kj1 (fun kq v4 v5 w' => ∃ (x4_2 : Int) (x5_2 : Int), v4 = .int .i64 x4_2 ∧ v5 = .int .i64 x5_2 ∧ Aside0 (debentureref01_Small.l0 kq a0 x4_2 x5_2 = some (r1, r2)) ∧ Aside0 (kq ≤ kj1) ∧ Drawn0 w w')
        case atStart => exact ⟨(0), (0), (by first | rfl | (simp; done) | (simp [*]; done)), (by first | rfl | (simp; done) | (simp [*]; done)), H', ⟨Nat.le_refl _⟩, by repeat (first | exact Drawn0.refl _ | apply Drawn0.step)⟩
        case round =>
          clear H'
          try clear c1
          try clear p2
          try clear c4
          try clear c6
          try clear p2
          obtain ⟨x4_2, x5_2, rfl, rfl, HA, HK2, ⟨m2, rfl⟩⟩ := hrel
          cases gk with
          | zero => exact absurd HA.out (by simp [debentureref01_Small.l0])
          | succ k2 =>
            have H := HA.out
            clear HA
            simp only [debentureref01_Small.l0] at H
            by_cases c7 : x5_2 < (a0.size : Int)
            · rw [if_pos c7] at H
              have c7b0 : decide (x5_2 < (a0.size : Int)) = true := decide_eq_true c7
              clear c7
              by_cases c8 : 0 ≤ x5_2
              · rw [if_pos c8] at H
                have c8b0 : decide (0 ≤ x5_2) = true := decide_eq_true c8
                clear c8
                have H' := Aside0.mk H
                clear H
                have p9 : 0 ≤ (x5_2 : Int) := of_decide_eq_true (by first | (with_reducible assumption) | assumption)
                have q9 : x5_2 < (a0.size : Int) := of_decide_eq_true (by first | (with_reducible assumption) | assumption)
                have hx9 := bt_at a0 x5_2
                replace p9 := eq_true p9
                replace q9 := eq_true q9
                go_wp2
                go_roundg k2
                case measure => have := HJ1.out; have := HK2.out; omega
                case rel => exact ⟨(wrap64 ((wrap64 (10 * x4_2)) + (((bt a0 x5_2) - 48) % 256))), (wrap64 (x5_2 + 1)), (by first | rfl | (simp; done) | (simp [*]; done)), (by first | rfl | (simp; done) | (simp [*]; done)), H', ⟨by have := HJ1.out; have := HK2.out; omega⟩, by repeat (first | exact Drawn0.refl _ | apply Drawn0.step)⟩
              · rw [if_neg c8] at H
                exact absurd H (by simp)
            · rw [if_neg c7] at H
              have c7b0 : decide (x5_2 < (a0.size : Int)) = false := decide_eq_false c7
              clear c7
              simp only [Option.some.injEq, Prod.mk.injEq] at H
              obtain ⟨rfl, rfl⟩ := H
              go_wp2
              go_ret2
              exact ⟨by first | rfl | (simp; done) | (simp [*]; done), by repeat (first | exact Drawn0.refl _ | apply Drawn0.step)⟩

/-! ### debentureref01_at: function 34 -/
def debentureref01_at.f (a0 : ByteArray) (a1 : Int) : Option (Int) := if a1 ≥ (a0.size : Int) then (some 0) else (if 0 ≤ (wrap64 ((wrap64 ((a0.size : Int) - 1)) - a1)) then (if (wrap64 ((wrap64 ((a0.size : Int) - 1)) - a1)) < (a0.size : Int) then (some (((bt a0 (wrap64 ((wrap64 ((a0.size : Int) - 1)) - a1))) - 48) % 256)) else (none)) else (none))
set_option maxHeartbeats 8000000 in
set_option maxRecDepth 100000 in
theorem debentureref01_at.calls (a0 : ByteArray) (a1 : Int) (r : Int) (w : World) (h : debentureref01_at.f a0 a1 = some r) :
    Calls Tryd.prog 34 #[.string a0, .int .i64 a1] w fun e w' => e = .returned (.int .i64 r) ∧ Drawn0 w w' := by
  have H : (if a1 ≥ (a0.size : Int) then (some 0) else (if 0 ≤ (wrap64 ((wrap64 ((a0.size : Int) - 1)) - a1)) then (if (wrap64 ((wrap64 ((a0.size : Int) - 1)) - a1)) < (a0.size : Int) then (some (((bt a0 (wrap64 ((wrap64 ((a0.size : Int) - 1)) - a1))) - 48) % 256)) else (none)) else (none))) = some r := h
  clear h
  by_cases c3 : a1 ≥ (a0.size : Int)
  · rw [if_pos c3] at H
    have c3b0 : decide ((a0.size : Int) ≤ a1) = true := decide_eq_true c3
    clear c3
    obtain rfl := Option.some.inj H
    go_enter Tryd.func34, Tryd.ntmps34
    go_wp2
    go_ret
    exact ⟨by first | rfl | (simp; done) | (simp [*]; done), by repeat (first | exact Drawn0.refl _ | apply Drawn0.step)⟩
  · rw [if_neg c3] at H
    have c3b0 : decide ((a0.size : Int) ≤ a1) = false := decide_eq_false c3
    clear c3
    obtain ⟨ji4, hji4⟩ : ∃ j_ : Int, (wrap64 ((wrap64 ((a0.size : Int) - 1)) - a1)) = j_ := ⟨_, rfl⟩
    replace H : (if 0 ≤ (ji4) then (if (ji4) < (a0.size : Int) then (some (((bt a0 (ji4)) - 48) % 256)) else (none)) else (none)) = some r := by first | (rw [hji4] at H; exact H) | (simp only [hji4] at H ⊢; exact H)
    have hji4w : (IntKind.i64.wrap ((wrap64 ((a0.size : Int) - 1)) - a1)) = ji4 := (i64_w _).trans hji4
    by_cases c5 : 0 ≤ (ji4)
    · rw [if_pos c5] at H
      have c5b0 : decide (0 ≤ (ji4)) = true := decide_eq_true c5
      clear c5
      by_cases c6 : (ji4) < (a0.size : Int)
      · rw [if_pos c6] at H
        have c6b0 : decide ((ji4) < (a0.size : Int)) = true := decide_eq_true c6
        clear c6
        obtain rfl := Option.some.inj H
        have p7 : 0 ≤ ((ji4) : Int) := of_decide_eq_true (by first | (with_reducible assumption) | assumption)
        have q7 : (ji4) < (a0.size : Int) := of_decide_eq_true (by first | (with_reducible assumption) | assumption)
        have hx7 := bt_at a0 (ji4)
        replace p7 := eq_true p7
        replace q7 := eq_true q7
        go_enter Tryd.func34, Tryd.ntmps34
        go_wp2
        go_ret
        exact ⟨by first | rfl | (simp; done) | (simp only [← hji4] <;> (first | rfl | simp)) | (simp [*]; done), by repeat (first | exact Drawn0.refl _ | apply Drawn0.step)⟩
      · rw [if_neg c6] at H
        exact absurd H (by simp)
    · rw [if_neg c5] at H
      exact absurd H (by simp)

/-! ### debentureref01_trim: function 35 -/
def debentureref01_trim.l0 : Nat → ByteArray → Int → Option (ByteArray)
  | 0, _, _ => none
  | k + 1, x0, x3 => if (wrap64 (x3 + 1)) < (x0.size : Int) then (if 0 ≤ x3 then (if x3 < (x0.size : Int) then (if (bt x0 x3) = 48 then (debentureref01_trim.l0 k x0 (wrap64 (x3 + 1))) else (if x3 ≤ (x0.size : Int) then (some (x0.extract (x3 : Int).toNat x0.size)) else (none))) else (none)) else (none)) else (if 0 ≤ x3 then (if x3 ≤ (x0.size : Int) then (some (x0.extract (x3 : Int).toNat x0.size)) else (none)) else (none))
def debentureref01_trim.f (k : Nat) (a0 : ByteArray) : Option (ByteArray) := debentureref01_trim.l0 k a0 0
theorem debentureref01_trim.mono_l : ∀ k, (∀ y0 y1, LeO (debentureref01_trim.l0 k y0 y1) (debentureref01_trim.l0 (k + 1) y0 y1))
  | 0 => fun _ _ r h => by simp [debentureref01_trim.l0] at h
  | k + 1 => by
    have ih0 := debentureref01_trim.mono_l k
    · intro y0 y1
      unfold debentureref01_trim.l0
      repeat' first
      | (with_reducible exact ih0 _ _)
      | (with_reducible exact LeO.refl _)
      | (with_reducible exact LeO.none _)
      | (with_reducible refine LeO.ite ?_ ?_)
      | (with_reducible refine LeO.bind ?_ (fun _ => ?_))
      | exact ih0 _ _
      | exact LeO.none _
      | refine LeO.ite ?_ ?_
      | refine LeO.bind ?_ (fun _ => ?_)
theorem debentureref01_trim.mono : ∀ a0 k, LeO (debentureref01_trim.f k a0) (debentureref01_trim.f (k + 1) a0) := by
  intro a0 k
  have ih0 := debentureref01_trim.mono_l k
  unfold debentureref01_trim.f
  repeat' first
      | (with_reducible exact ih0 _ _)
      | (with_reducible exact LeO.refl _)
      | (with_reducible exact LeO.none _)
      | (with_reducible refine LeO.ite ?_ ?_)
      | (with_reducible refine LeO.bind ?_ (fun _ => ?_))
      | exact ih0 _ _
      | exact LeO.none _
      | refine LeO.ite ?_ ?_
      | refine LeO.bind ?_ (fun _ => ?_)
set_option maxHeartbeats 8000000 in
set_option maxRecDepth 100000 in
theorem debentureref01_trim.calls (k : Nat) (a0 : ByteArray) (r : ByteArray) (w : World) (h : debentureref01_trim.f k a0 = some r) :
    Calls Tryd.prog 35 #[.string a0] w fun e w' => e = .returned (.string r) ∧ Drawn0 w w' := by
  have H : (debentureref01_trim.l0 k a0 0) = some r := h
  clear h
  have H' := Aside0.mk H
  clear H
  go_enter Tryd.func35, Tryd.ntmps35
  go_wp2
  go_loopg [3] k (fun kq v3 w' => ∃ (x3_1 : Int), v3 = .int .i64 x3_1 ∧ Aside0 (debentureref01_trim.l0 kq a0 x3_1 = some r) ∧ Aside0 (kq ≤ k) ∧ Drawn0 w w')
  case atStart => exact ⟨(0), (by first | rfl | (simp; done) | (simp [*]; done)), H', ⟨Nat.le_refl _⟩, by repeat (first | exact Drawn0.refl _ | apply Drawn0.step)⟩
  case round =>
    clear H'
    obtain ⟨x3_1, rfl, HA, HK1, ⟨m1, rfl⟩⟩ := hrel
    cases gk with
    | zero => exact absurd HA.out (by simp [debentureref01_trim.l0])
    | succ k1 =>
      have H := HA.out
      clear HA
      simp only [debentureref01_trim.l0] at H
      by_cases c2 : (wrap64 (x3_1 + 1)) < (a0.size : Int)
      · rw [if_pos c2] at H
        have c2b0 : decide ((wrap64 (x3_1 + 1)) < (a0.size : Int)) = true := decide_eq_true c2
        have c2b0w : decide ((IntKind.i64.wrap (x3_1 + 1)) < (a0.size : Int)) = true := by simp only [i64_w]; exact c2b0
        clear c2
        by_cases c3 : 0 ≤ x3_1
        · rw [if_pos c3] at H
          have c3b0 : decide (0 ≤ x3_1) = true := decide_eq_true c3
          clear c3
          by_cases c4 : x3_1 < (a0.size : Int)
          · rw [if_pos c4] at H
            have c4b0 : decide (x3_1 < (a0.size : Int)) = true := decide_eq_true c4
            clear c4
            by_cases c6 : (bt a0 x3_1) = 48
            · rw [if_pos c6] at H
              have c6b0 : ((bt a0 x3_1) == 48) = true := beq_iff_eq.mpr c6
              have c6b1 : ((bt a0 x3_1) != 48) = false := bne_eq_false_iff_eq.mpr c6
              clear c6
              have H' := Aside0.mk H
              clear H
              have p5 : 0 ≤ (x3_1 : Int) := of_decide_eq_true (by first | (with_reducible assumption) | assumption)
              have q5 : x3_1 < (a0.size : Int) := of_decide_eq_true (by first | (with_reducible assumption) | assumption)
              have hx5 := bt_at a0 x3_1
              replace p5 := eq_true p5
              replace q5 := eq_true q5
              go_wp2
              go_roundg k1
              case measure => have := HK1.out; omega
              case rel => exact ⟨(wrap64 (x3_1 + 1)), (by first | rfl | (simp; done) | (simp [*]; done)), H', ⟨by have := HK1.out; omega⟩, by repeat (first | exact Drawn0.refl _ | apply Drawn0.step)⟩
            · rw [if_neg c6] at H
              have c6b0 : ((bt a0 x3_1) == 48) = false := beq_eq_false_iff_ne.mpr c6
              have c6b1 : ((bt a0 x3_1) != 48) = true := bne_iff_ne.mpr c6
              have c7b0 := eq_true (of_decide_eq_true (by first | (with_reducible assumption) | assumption) : 0 ≤ x3_1)
              by_cases c8 : x3_1 ≤ (a0.size : Int)
              · rw [if_pos c8] at H
                have c8b0 := eq_true c8
                have c8b1 : decide (x3_1 ≤ (a0.size : Int)) = true := decide_eq_true c8
                clear c8
                obtain rfl := Option.some.inj H
                have p5 : 0 ≤ (x3_1 : Int) := of_decide_eq_true (by first | (with_reducible assumption) | assumption)
                have q5 : x3_1 < (a0.size : Int) := of_decide_eq_true (by first | (with_reducible assumption) | assumption)
                have hx5 := bt_at a0 x3_1
                replace p5 := eq_true p5
                replace q5 := eq_true q5
                go_wp2
                go_ret
                exact ⟨by first | rfl | (simp; done) | (simp [*]; done), by repeat (first | exact Drawn0.refl _ | apply Drawn0.step)⟩
              · rw [if_neg c8] at H
                exact absurd H (by simp)
          · rw [if_neg c4] at H
            exact absurd H (by simp)
        · rw [if_neg c3] at H
          exact absurd H (by simp)
      · rw [if_neg c2] at H
        have c2b0 : decide ((wrap64 (x3_1 + 1)) < (a0.size : Int)) = false := decide_eq_false c2
        have c2b0w : decide ((IntKind.i64.wrap (x3_1 + 1)) < (a0.size : Int)) = false := by simp only [i64_w]; exact c2b0
        clear c2
        by_cases c9 : 0 ≤ x3_1
        · rw [if_pos c9] at H
          have c9b0 := eq_true c9
          have c9b1 : decide (0 ≤ x3_1) = true := decide_eq_true c9
          clear c9
          by_cases c10 : x3_1 ≤ (a0.size : Int)
          · rw [if_pos c10] at H
            have c10b0 := eq_true c10
            have c10b1 : decide (x3_1 ≤ (a0.size : Int)) = true := decide_eq_true c10
            clear c10
            obtain rfl := Option.some.inj H
            go_wp2
            go_ret
            exact ⟨by first | rfl | (simp; done) | (simp [*]; done), by repeat (first | exact Drawn0.refl _ | apply Drawn0.step)⟩
          · rw [if_neg c10] at H
            exact absurd H (by simp)
        · rw [if_neg c9] at H
          exact absurd H (by simp)

end Go.Proofs.YtmcpiejgneegjaaDoor.Pq

end

-- Written by wip/pp.py of this place (over the kit's print) out of the translation.
section
namespace Go.Proofs.YtmcpiejgneegjaaDoor.Pq
open Go.RowKit Go.Proofs.YtmcpiejgneegjaaDoorW.PrintWords Go.Proofs.YtmcpiejgneegjaaDoorW.PrintLast Go.Proofs.YtmcpiejgneegjaaDoorW.PrintMore
attribute [local go_sem] max2_int min2_int max_two min_two max_three min_three max_four min_four   -- for this text's walks alone
set_option linter.unusedVariables false
set_option linter.unusedSimpArgs false

/-! ### debentureref01_Add: function 25 -/
mutual
def debentureref01_Add.j0 : Nat → ByteArray → ByteArray → Bool → Option (ByteArray)
  | 0, _, _, _ => none
  | k + 1, x0, x1, x17 => if x17 = true then (some (⟨#[]⟩ : ByteArray)) else (if 0 ≤ (wrap64 ((mx (x0.size : Int) (x1.size : Int)) + 1)) then (if (wrap64 ((mx (x0.size : Int) (x1.size : Int)) + 1) : Int).toNat ≤ 281474976710656 then (debentureref01_Add.l0 k x0 x1 (wrap64 ((mx (x0.size : Int) (x1.size : Int)) + 1)) (List.replicate (wrap64 ((mx (x0.size : Int) (x1.size : Int)) + 1) : Int).toNat 0) 0 0) else (none)) else (none))
def debentureref01_Add.l0 : Nat → ByteArray → ByteArray → Int → List Int → Int → Int → Option (ByteArray)
  | 0, _, _, _, _, _, _ => none
  | k + 1, x0, x1, x5, x6, x7, x8 => if x8 < x5 then ((debentureref01_at.f x0 x8).bind fun t110 => ((debentureref01_at.f x1 x8).bind fun t111 => (if 0 ≤ (wrap64 ((wrap64 (x5 - 1)) - x8)) then (if (wrap64 ((wrap64 (x5 - 1)) - x8)) < (x6.length : Int) then (debentureref01_Add.l0 k x0 x1 x5 (x6.set ((wrap64 ((wrap64 (x5 - 1)) - x8)) : Int).toNat ((wrap64 (48 + (Int.tmod (wrap64 ((wrap64 (t110 + t111)) + x7)) 10))) % 256)) (wrap64 (Int.tdiv (wrap64 ((wrap64 (t110 + t111)) + x7)) 10)) (wrap64 (x8 + 1))) else (none)) else (none)))) else ((debentureref01_trim.f k (strOfNums x6)).bind fun t113 => (some t113))
end
def debentureref01_Add.f (k : Nat) (a0 : ByteArray) (a1 : ByteArray) : Option (ByteArray) := (debentureref01_May.f k a0).bind fun t105 => (if t105 = true then ((debentureref01_May.f k a1).bind fun t106 => (debentureref01_Add.j0 k a0 a1 (!t106))) else (debentureref01_Add.j0 k a0 a1 true))
theorem debentureref01_Add.mono_l : ∀ k, (∀ y0 y1 y2, LeO (debentureref01_Add.j0 k y0 y1 y2) (debentureref01_Add.j0 (k + 1) y0 y1 y2)) ∧ (∀ y0 y1 y2 y3 y4 y5, LeO (debentureref01_Add.l0 k y0 y1 y2 y3 y4 y5) (debentureref01_Add.l0 (k + 1) y0 y1 y2 y3 y4 y5))
  | 0 => ⟨fun _ _ _ r h => by simp [debentureref01_Add.j0] at h, fun _ _ _ _ _ _ r h => by simp [debentureref01_Add.l0] at h⟩
  | k + 1 => by
    obtain ⟨ih0, ih1⟩ := debentureref01_Add.mono_l k
    refine ⟨?_, ?_⟩
    · intro y0 y1 y2
      unfold debentureref01_Add.j0
      repeat' first
      | (with_reducible exact ih0 _ _ _)
      | (with_reducible exact ih1 _ _ _ _ _ _)
      | (with_reducible exact debentureref01_May.mono _ _)
      | (with_reducible exact debentureref01_trim.mono _ _)
      | (with_reducible exact LeO.refl _)
      | (with_reducible exact LeO.none _)
      | (with_reducible refine LeO.ite ?_ ?_)
      | (with_reducible refine LeO.bind ?_ (fun _ => ?_))
      | exact ih0 _ _ _
      | exact ih1 _ _ _ _ _ _
      | exact debentureref01_May.mono _ _
      | exact debentureref01_trim.mono _ _
      | exact LeO.none _
      | refine LeO.ite ?_ ?_
      | refine LeO.bind ?_ (fun _ => ?_)
    · intro y0 y1 y2 y3 y4 y5
      unfold debentureref01_Add.l0
      repeat' first
      | (with_reducible exact ih0 _ _ _)
      | (with_reducible exact ih1 _ _ _ _ _ _)
      | (with_reducible exact debentureref01_May.mono _ _)
      | (with_reducible exact debentureref01_trim.mono _ _)
      | (with_reducible exact LeO.refl _)
      | (with_reducible exact LeO.none _)
      | (with_reducible refine LeO.ite ?_ ?_)
      | (with_reducible refine LeO.bind ?_ (fun _ => ?_))
      | exact ih0 _ _ _
      | exact ih1 _ _ _ _ _ _
      | exact debentureref01_May.mono _ _
      | exact debentureref01_trim.mono _ _
      | exact LeO.none _
      | refine LeO.ite ?_ ?_
      | refine LeO.bind ?_ (fun _ => ?_)
theorem debentureref01_Add.mono : ∀ a0 a1 k, LeO (debentureref01_Add.f k a0 a1) (debentureref01_Add.f (k + 1) a0 a1) := by
  intro a0 a1 k
  obtain ⟨ih0, ih1⟩ := debentureref01_Add.mono_l k
  unfold debentureref01_Add.f
  repeat' first
      | (with_reducible exact ih0 _ _ _)
      | (with_reducible exact ih1 _ _ _ _ _ _)
      | (with_reducible exact debentureref01_May.mono _ _)
      | (with_reducible exact debentureref01_trim.mono _ _)
      | (with_reducible exact LeO.refl _)
      | (with_reducible exact LeO.none _)
      | (with_reducible refine LeO.ite ?_ ?_)
      | (with_reducible refine LeO.bind ?_ (fun _ => ?_))
      | exact ih0 _ _ _
      | exact ih1 _ _ _ _ _ _
      | exact debentureref01_May.mono _ _
      | exact debentureref01_trim.mono _ _
      | exact LeO.none _
      | refine LeO.ite ?_ ?_
      | refine LeO.bind ?_ (fun _ => ?_)
set_option maxHeartbeats 8000000 in
set_option maxRecDepth 100000 in
theorem debentureref01_Add.calls (k : Nat) (a0 : ByteArray) (a1 : ByteArray) (r : ByteArray) (w : World) (h : debentureref01_Add.f k a0 a1 = some r) :
    Calls Tryd.prog 25 #[.string a0, .string a1] w fun e w' => e = .returned (.string r) ∧ Below w.heap.size w w' := by
  have HB := Aside0.mk (Below.refl w.heap.size w)
  have H : ((debentureref01_May.f k a0).bind fun t105 => (if t105 = true then ((debentureref01_May.f k a1).bind fun t106 => (debentureref01_Add.j0 k a0 a1 (!t106))) else (debentureref01_Add.j0 k a0 a1 true))) = some r := h
  clear h
  have HC3 := Aside0.mk H
  clear H
  go_enter Tryd.func25, Tryd.ntmps25
  go_upto_region 1 with (fail)
  go_cut [17] (fun v17 wc => ∃ (kq : Nat) (x17_2 : Bool), v17 = .bool x17_2 ∧ Aside0 (debentureref01_Add.j0 kq a0 a1 x17_2 = some r) ∧ Aside0 (kq ≤ k) ∧ Aside0 (Below w.heap.size w wc))
  case first =>
    have H := HC3.out
    clear HC3
    replace H := Option.bind_eq_some_iff.mp H
    obtain ⟨t105, A40, H⟩ := H
    replace H : (if t105 = true then ((debentureref01_May.f k a1).bind fun t106 => (debentureref01_Add.j0 k a0 a1 (!t106))) else (debentureref01_Add.j0 k a0 a1 true)) = some r := H
    have A4 := Aside0.mk A40
    clear A40
    by_cases c5 : t105 = true
    · subst c5
      have H1 : ((debentureref01_May.f k a1).bind fun t106 => (debentureref01_Add.j0 k a0 a1 (!t106))) = some r := by rw [if_pos rfl] at H; exact H
      clear H
      have H := H1
      clear H1
      replace H := Option.bind_eq_some_iff.mp H
      obtain ⟨t106, A60, H⟩ := H
      replace H : (debentureref01_Add.j0 k a0 a1 (!t106)) = some r := H
      have A6 := Aside0.mk A60
      clear A60
      have H' := Aside0.mk H
      clear H
      go_wp2_with (first | ((with_reducible refine gate_callee (f := 19) rfl ?_); refine goesL_ (some 11) rfl rfl Tryd.func19 (by kernel_rfl) rfl #[.string a0] rfl (by (try simp only [List.map_toArray, List.map_cons, List.map_nil]); first | done | rfl | (simp only [List.length_drop, List.length_take]; rfl)) ?_; (with_reducible refine (debentureref01_May.calls k a0 true _ A4.out).mono ?_); rintro e w' ⟨rfl, ⟨nd, rfl⟩⟩; refine ⟨_, rfl, ?_⟩) | (go_at_call 19; (with_reducible refine (debentureref01_May.calls k a1 t106 _ A6.out).mono ?_); rintro e w' ⟨rfl, ⟨nd, rfl⟩⟩))
      go_meet
      case rel => exact ⟨_, (!t106), (by first | rfl | (simp; done) | (simp [*]; done)), H', ⟨by first | omega | exact Nat.le_refl _⟩, ⟨by repeat (first | (with_reducible first | exact HB.out | apply below_alloc | apply pw_below_drewN | apply below_drew1) | exact HB.out)⟩⟩
    · replace c5 := Bool.eq_false_iff.mpr c5
      subst c5
      have H1 : (debentureref01_Add.j0 k a0 a1 true) = some r := by rw [if_neg (show ¬ (false = true) by decide)] at H; exact H
      clear H
      have H := H1
      clear H1
      have H' := Aside0.mk H
      clear H
      go_wp2_with (first | ((with_reducible refine gate_callee (f := 19) rfl ?_); refine goesL_ (some 11) rfl rfl Tryd.func19 (by kernel_rfl) rfl #[.string a0] rfl (by (try simp only [List.map_toArray, List.map_cons, List.map_nil]); first | done | rfl | (simp only [List.length_drop, List.length_take]; rfl)) ?_; (with_reducible refine (debentureref01_May.calls k a0 false _ A4.out).mono ?_); rintro e w' ⟨rfl, ⟨nd, rfl⟩⟩; refine ⟨_, rfl, ?_⟩))
      go_meet
      case rel => exact ⟨_, (true), (by first | rfl | (simp; done) | (simp [*]; done)), H', ⟨by first | omega | exact Nat.le_refl _⟩, ⟨by repeat (first | (with_reducible first | exact HB.out | apply below_alloc | apply pw_below_drewN | apply below_drew1) | exact HB.out)⟩⟩
  case rest =>
    clear HC3
    try clear c1
    try clear c2
    try clear p2
    try clear c5
    obtain ⟨kq, x17_2, rfl, HA, HJ2, HB⟩ := hcut
    cases kq with
    | zero => exact absurd HA.out (by simp [debentureref01_Add.j0])
    | succ kj2 =>
      have H := HA.out
      clear HA
      simp only [debentureref01_Add.j0] at H
      by_cases c7 : x17_2 = true
      · subst c7
        have H1 : (some (⟨#[]⟩ : ByteArray)) = some r := by rw [if_pos rfl] at H; exact H
        clear H
        have H := H1
        clear H1
        obtain rfl := Option.some.inj H
        go_wp2
        go_ret
        exact ⟨by first | rfl | (simp [errW_none, errW_some] <;> rfl) | (simp [*, errW_none, errW_some] <;> rfl), by repeat (first | (with_reducible first | exact HB.out | apply below_alloc | apply pw_below_drewN | apply below_drew1) | exact HB.out)⟩
      · replace c7 := Bool.eq_false_iff.mpr c7
        subst c7
        have H1 : (if 0 ≤ (wrap64 ((mx (a0.size : Int) (a1.size : Int)) + 1)) then (if (wrap64 ((mx (a0.size : Int) (a1.size : Int)) + 1) : Int).toNat ≤ 281474976710656 then (debentureref01_Add.l0 kj2 a0 a1 (wrap64 ((mx (a0.size : Int) (a1.size : Int)) + 1)) (List.replicate (wrap64 ((mx (a0.size : Int) (a1.size : Int)) + 1) : Int).toNat 0) 0 0) else (none)) else (none)) = some r := by rw [if_neg (show ¬ (false = true) by decide)] at H; exact H
        clear H
        have H := H1
        clear H1
        obtain ⟨ji8, hji8⟩ : ∃ j_ : Int, (mx (a0.size : Int) (a1.size : Int)) = j_ := ⟨_, rfl⟩
        replace H : (if 0 ≤ (wrap64 ((ji8) + 1)) then (if (wrap64 ((ji8) + 1) : Int).toNat ≤ 281474976710656 then (debentureref01_Add.l0 kj2 a0 a1 (wrap64 ((ji8) + 1)) (List.replicate (wrap64 ((ji8) + 1) : Int).toNat 0) 0 0) else (none)) else (none)) = some r := by first | (rw [hji8] at H; exact H) | (simp only [hji8] at H ⊢; exact H)
        have hji8_ : (if (a0.size : Int) < (a1.size : Int) then (a1.size : Int) else (a0.size : Int)) = ji8 := hji8
        have hji8_n : (if a0.size < a1.size then (a1.size : Int) else (a0.size : Int)) = ji8 := (ite_congr (propext Int.ofNat_lt.symm) (fun _ => rfl) (fun _ => rfl)).trans hji8_
        obtain ⟨ji9, hji9⟩ : ∃ j_ : Int, (wrap64 ((ji8) + 1)) = j_ := ⟨_, rfl⟩
        replace H : (if 0 ≤ (ji9) then (if (ji9 : Int).toNat ≤ 281474976710656 then (debentureref01_Add.l0 kj2 a0 a1 ji9 (List.replicate (ji9 : Int).toNat 0) 0 0) else (none)) else (none)) = some r := by first | (rw [hji9] at H; exact H) | (simp only [hji9] at H ⊢; exact H)
        have hji9w : (IntKind.i64.wrap ((ji8) + 1)) = ji9 := (i64_w _).trans hji9
        by_cases c10 : 0 ≤ (ji9)
        · rw [if_pos c10] at H
          have c10b0 := eq_true c10
          have c10b1 : decide (0 ≤ (ji9)) = true := decide_eq_true c10
          clear c10
          by_cases c11 : (ji9 : Int).toNat ≤ 281474976710656
          · rw [if_pos c11] at H
            have c11b0 := eq_true c11
            have c11b1 : decide ((ji9 : Int).toNat ≤ 281474976710656) = true := decide_eq_true c11
            clear c11
            obtain ⟨y107, hy107⟩ : ∃ y_ : List Int, y_ = (List.replicate (ji9 : Int).toNat 0) := ⟨_, rfl⟩
            replace H : (debentureref01_Add.l0 kj2 a0 a1 ji9 y107 0 0) = some r := by first | (rw [hy107]; with_reducible exact H) | (have H2_ := (Option.bind_some _ _).symm.trans H; rw [hy107]; with_reducible exact H2_) | (have H2_ := (Option.bind_some _ _).symm.trans H; with_reducible exact H2_) | with_reducible exact H | (rw [hy107]; exact H) | exact H
            have Ny107 := Aside0.mk hy107
            clear hy107
            have H' := Aside0.mk H
            clear H
            go_wp2_with (first | ((with_reducible refine gate_dst (N := 25) rfl ?_); refine Kd.R_make (Kd.int .u8) _ 5 rfl (N := 25) rfl 47 _ _ rfl ji9 (by first | rfl | (rw [← hji9]; rfl)) (by first | rfl | (rw [← hji9]; rfl)) Tryd.underlying47 (.int .u8 0) 1 info5 rfl (by decide) (by omega) 0 (ok := fun _ => True) (okp := fun _ => True) rfl (fun _ hk => hk) trivial (of_decide_eq_true (by first | (with_reducible assumption) | assumption)) (by have h_ := (of_decide_eq_true (by first | (with_reducible assumption) | assumption) : ji9.toNat ≤ 281474976710656); omega) (Below.refl _ _) (Nat.le_refl _) ?_; intro v108 w12 ho13 hb hg_ hnew_; clear hg_ hnew_; (first | rw [← Ny107.out] at ho13 | (simp only [Int.reduceToNat] at ho13; rw [← Ny107.out] at ho13)); have n0_ := Aside0.mk (Kd.R_lower ho13 (below_size (by repeat (first | (with_reducible first | exact HB.out | apply below_alloc | apply pw_below_drewN | apply below_drew1) | exact HB.out)))); have n1_ := Aside0.mk (below_step (by repeat (first | (with_reducible first | exact HB.out | apply below_alloc | apply pw_below_drewN | apply below_drew1) | exact HB.out)) hb); clear HB; have HO109 := n0_; have HB := n1_; clear n0_ n1_; clear hb ho13))
            go_loopg [7, 8] kj2 (fun kq v7 v8 w' => ∃ (x6_2 : List Int) (x7_2 : Int) (x8_2 : Int), v7 = .int .i64 x7_2 ∧ v8 = .int .i64 x8_2 ∧ Aside0 (debentureref01_Add.l0 kq a0 a1 ji9 x6_2 x7_2 x8_2 = some r) ∧ Aside0 (kq ≤ kj2) ∧ Aside0 (Kd.R (Kd.int .u8) 5 w' w.heap.size (fun _ => True) v108 x6_2) ∧ Aside0 (Below w.heap.size w w'))
            case atStart => exact ⟨(y107), (0), (0), (by first | rfl | (simp; done) | (simp [*]; done)), (by first | rfl | (simp; done) | (simp [*]; done)), H', ⟨Nat.le_refl _⟩, ⟨by (with_reducible repeat (first | apply Kd.R_alloc | apply Kd.R_drewN | apply Kd.R_drew)); exact HO109.out⟩, ⟨by repeat (first | (with_reducible first | exact HB.out | apply below_alloc | apply pw_below_drewN | apply below_drew1) | exact HB.out)⟩⟩
            case round =>
              clear H'
              try clear c1
              try clear c2
              try clear p2
              try clear c5
              try clear p6
              try clear c7
              try clear c10
              try clear c10b0
              try clear c10b1
              try clear c11
              try clear c11b0
              try clear c11b1
              try clear p2
              obtain ⟨x6_2, x7_2, x8_2, rfl, rfl, HA, HK2, HO_6, HB⟩ := hrel
              cases gk with
              | zero => exact absurd HA.out (by simp [debentureref01_Add.l0])
              | succ k2 =>
                have H := HA.out
                clear HA
                simp only [debentureref01_Add.l0] at H
                by_cases c14 : x8_2 < ji9
                · rw [if_pos c14] at H
                  have c14b0 : decide (x8_2 < ji9) = true := decide_eq_true c14
                  clear c14
                  replace H := Option.bind_eq_some_iff.mp H
                  obtain ⟨t110, A150, H⟩ := H
                  replace H : ((debentureref01_at.f a1 x8_2).bind fun t111 => (if 0 ≤ (wrap64 ((wrap64 (ji9 - 1)) - x8_2)) then (if (wrap64 ((wrap64 (ji9 - 1)) - x8_2)) < (x6_2.length : Int) then (debentureref01_Add.l0 k2 a0 a1 ji9 (x6_2.set ((wrap64 ((wrap64 (ji9 - 1)) - x8_2)) : Int).toNat ((wrap64 (48 + (Int.tmod (wrap64 ((wrap64 (t110 + t111)) + x7_2)) 10))) % 256)) (wrap64 (Int.tdiv (wrap64 ((wrap64 (t110 + t111)) + x7_2)) 10)) (wrap64 (x8_2 + 1))) else (none)) else (none))) = some r := H
                  have A15 := Aside0.mk A150
                  clear A150
                  replace H := Option.bind_eq_some_iff.mp H
                  obtain ⟨t111, A160, H⟩ := H
                  replace H : (if 0 ≤ (wrap64 ((wrap64 (ji9 - 1)) - x8_2)) then (if (wrap64 ((wrap64 (ji9 - 1)) - x8_2)) < (x6_2.length : Int) then (debentureref01_Add.l0 k2 a0 a1 ji9 (x6_2.set ((wrap64 ((wrap64 (ji9 - 1)) - x8_2)) : Int).toNat ((wrap64 (48 + (Int.tmod (wrap64 ((wrap64 (t110 + t111)) + x7_2)) 10))) % 256)) (wrap64 (Int.tdiv (wrap64 ((wrap64 (t110 + t111)) + x7_2)) 10)) (wrap64 (x8_2 + 1))) else (none)) else (none)) = some r := H
                  have A16 := Aside0.mk A160
                  clear A160
                  obtain ⟨ji17, hji17⟩ : ∃ j_ : Int, (wrap64 ((wrap64 (ji9 - 1)) - x8_2)) = j_ := ⟨_, rfl⟩
                  replace H : (if 0 ≤ (ji17) then (if (ji17) < (x6_2.length : Int) then (debentureref01_Add.l0 k2 a0 a1 ji9 (x6_2.set ((ji17) : Int).toNat ((wrap64 (48 + (Int.tmod (wrap64 ((wrap64 (t110 + t111)) + x7_2)) 10))) % 256)) (wrap64 (Int.tdiv (wrap64 ((wrap64 (t110 + t111)) + x7_2)) 10)) (wrap64 (x8_2 + 1))) else (none)) else (none)) = some r := by first | (rw [hji17] at H; exact H) | (simp only [hji17] at H ⊢; exact H)
                  (try rw [hji17] at A15)
                  (try rw [hji17] at A16)
                  have hji17w : (IntKind.i64.wrap ((wrap64 (ji9 - 1)) - x8_2)) = ji17 := (i64_w _).trans hji17
                  by_cases c18 : 0 ≤ (ji17)
                  · rw [if_pos c18] at H
                    have c18b0 : decide (0 ≤ (ji17)) = true := decide_eq_true c18
                    clear c18
                    by_cases c19 : (ji17) < (x6_2.length : Int)
                    · rw [if_pos c19] at H
                      have c19b0 : decide ((ji17) < (x6_2.length : Int)) = true := decide_eq_true c19
                      clear c19
                      obtain ⟨y112, hy112⟩ : ∃ y_ : List Int, y_ = (x6_2.set ((ji17) : Int).toNat ((wrap64 (48 + (Int.tmod (wrap64 ((wrap64 (t110 + t111)) + x7_2)) 10))) % 256)) := ⟨_, rfl⟩
                      replace H : (debentureref01_Add.l0 k2 a0 a1 ji9 y112 (wrap64 (Int.tdiv (wrap64 ((wrap64 (t110 + t111)) + x7_2)) 10)) (wrap64 (x8_2 + 1))) = some r := by first | (rw [hy112]; with_reducible exact H) | (have H2_ := (Option.bind_some _ _).symm.trans H; rw [hy112]; with_reducible exact H2_) | (have H2_ := (Option.bind_some _ _).symm.trans H; with_reducible exact H2_) | with_reducible exact H | (rw [hy112]; exact H) | exact H
                      have Ny112 := Aside0.mk hy112
                      clear hy112
                      have H' := Aside0.mk H
                      clear H
                      go_wp2_with (first | ((with_reducible refine gate_callee (f := 34) rfl ?_); refine goesL_ (some 33) rfl rfl Tryd.func34 (by kernel_rfl) rfl #[.string a0, .int .i64 x8_2] rfl (by (try simp only [List.map_toArray, List.map_cons, List.map_nil]); first | done | rfl | (simp only [List.length_drop, List.length_take]; rfl)) ?_; (with_reducible refine (debentureref01_at.calls a0 x8_2 t110 _ A15.out).mono ?_); rintro e w' ⟨rfl, ⟨nd, rfl⟩⟩; refine ⟨_, rfl, ?_⟩; (try (rw [drewN_self wr]; generalize hq_ : World.drewN wr _ = wr; have n0_ : Aside0 (Kd.R (Kd.int .u8) 5 wr w.heap.size (fun _ => True) v108 x6_2) := ⟨by rw [← hq_]; exact (by (with_reducible repeat (first | apply Kd.R_alloc | apply Kd.R_drewN | apply Kd.R_drew)); exact HO_6.out)⟩; have n1_ : Aside0 (Below w.heap.size w wr) := ⟨by rw [← hq_]; exact (by repeat (first | (with_reducible first | exact HB.out | apply below_alloc | apply pw_below_drewN | apply below_drew1) | exact HB.out))⟩; clear HO_6 HB hq_; have HO_6 := n0_; have HB := n1_; clear n0_ n1_))) | ((with_reducible refine gate_callee (f := 34) rfl ?_); refine goesL_ (some 36) rfl rfl Tryd.func34 (by kernel_rfl) rfl #[.string a1, .int .i64 x8_2] rfl (by (try simp only [List.map_toArray, List.map_cons, List.map_nil]); first | done | rfl | (simp only [List.length_drop, List.length_take]; rfl)) ?_; (with_reducible refine (debentureref01_at.calls a1 x8_2 t111 _ A16.out).mono ?_); rintro e w' ⟨rfl, ⟨nd, rfl⟩⟩; refine ⟨_, rfl, ?_⟩; (try (rw [drewN_self wr]; generalize hq_ : World.drewN wr _ = wr; have n0_ : Aside0 (Kd.R (Kd.int .u8) 5 wr w.heap.size (fun _ => True) v108 x6_2) := ⟨by rw [← hq_]; exact (by (with_reducible repeat (first | apply Kd.R_alloc | apply Kd.R_drewN | apply Kd.R_drew)); exact HO_6.out)⟩; have n1_ : Aside0 (Below w.heap.size w wr) := ⟨by rw [← hq_]; exact (by repeat (first | (with_reducible first | exact HB.out | apply below_alloc | apply pw_below_drewN | apply below_drew1) | exact HB.out))⟩; clear HO_6 HB hq_; have HO_6 := n0_; have HB := n1_; clear n0_ n1_)); have p20 : 0 ≤ ((ji17) : Int) := of_decide_eq_true (by first | (with_reducible assumption) | assumption); have q20 : ((ji17) : Int) < ((x6_2.length : Int) : Int) := of_decide_eq_true (by first | (with_reducible assumption) | assumption); obtain ⟨go20, co20, eo20, gb20, gl20, cl20, HG20⟩ := Kd.R_form HO_6.out (by omega); (first | cases eo20 | (injection eo20 with ea_ en_ ec_; (first | subst ea_ | (injection ea_ with ea_; subst ea_)); subst ec_; clear en_)); have GB20 := Aside0.mk gb20; have GG20 := Aside0.mk HG20; clear gb20 gl20 HG20; obtain ⟨hx20_0, hf20_0⟩ := Kd.R_celln 0 HO_6.out ((ji17) : Int) p20 q20; replace p20 := eq_true p20; replace q20 := eq_true q20; obtain ⟨hy21_, hz21_⟩ := Kd.R_celln 0 HO_6.out ((ji17) : Int) (of_decide_eq_true (by first | (with_reducible assumption) | assumption)) (of_decide_eq_true (by first | (with_reducible assumption) | assumption)); have HP21 := Kd.R_putg HO_6.out ((ji17) : Int) ((wrap64 (48 + (Int.tmod (wrap64 ((wrap64 (t110 + t111)) + x7_2)) 10))) % 256)) | ((with_reducible refine gate_store (t := 5) (p := 49) rfl ?_); refine store_event (t := 5) (p := 49) (v := ?vo_w22) (w1 := (wr.setCell ⟨go20, ((ji17) : Int).toNat, none⟩ (.int .u8 ((wrap64 (48 + (Int.tmod (wrap64 ((wrap64 (t110 + t111)) + x7_2)) 10))) % 256)))) ?hg ?ho ?hn ?hr ?_; (case ho => rfl); (case hg => rfl); (case hn => rfl); (case hr => first | (go_simp; done) | (go_simp; rfl)); intro w22 hw; have hg : wr.grownBy w22 (some go20) := (by rw [hw]; exact HP21.2); have hp_ : Kd.R (Kd.int .u8) 5 w22 w.heap.size (fun _ => True) (.slice (some ⟨go20, 0, none⟩) x6_2.length co20) y112 := (by rw [hw, Ny112.out]; exact HP21.1); clear HP21; have n0_ := Aside0.mk (hp_); have n1_ := Aside0.mk ((by rw [hw]; exact below_set (HB.out) GB20.out : Below w.heap.size w w22)); clear HO_6; clear HB; have HO_6 := n0_; have HB := n1_; clear n0_ n1_; clear hg hw hp_))
                      go_roundg k2
                      case measure => have := HJ2.out; have := HK2.out; omega
                      case rel => exact ⟨(y112), (wrap64 (Int.tdiv (wrap64 ((wrap64 (t110 + t111)) + x7_2)) 10)), (wrap64 (x8_2 + 1)), (by first | rfl | (simp; done) | (simp [*]; done)), (by first | rfl | (simp; done) | (simp [*]; done)), H', ⟨by have := HJ2.out; have := HK2.out; omega⟩, ⟨by (with_reducible repeat (first | apply Kd.R_alloc | apply Kd.R_drewN | apply Kd.R_drew)); exact HO_6.out⟩, ⟨by repeat (first | (with_reducible first | exact HB.out | apply below_alloc | apply pw_below_drewN | apply below_drew1) | exact HB.out)⟩⟩
                    · rw [if_neg c19] at H
                      exact absurd H (by simp)
                  · rw [if_neg c18] at H
                    exact absurd H (by simp)
                · rw [if_neg c14] at H
                  have c14b0 : decide (x8_2 < ji9) = false := decide_eq_false c14
                  clear c14
                  replace H := Option.bind_eq_some_iff.mp H
                  obtain ⟨t113, A230, H⟩ := H
                  replace H : (some t113) = some r := H
                  have A23 := Aside0.mk A230
                  clear A230
                  obtain rfl := Option.some.inj H
                  have hcv24 := own_string (P := Tryd.prog) Tryd.underlying47 Tryd.underlying5 Tryd.underlying9 (Kd.own_of_R HO_6.out)
                  go_wp2_with (first | ((with_reducible refine gate_callee (f := 35) rfl ?_); refine goesL_ (some 54) rfl rfl Tryd.func35 (by kernel_rfl) rfl #[.string (strOfNums x6_2)] rfl (by (try simp only [List.map_toArray, List.map_cons, List.map_nil]); first | done | rfl | (simp only [List.length_drop, List.length_take]; rfl)) ?_; (with_reducible refine (debentureref01_trim.calls k2 (strOfNums x6_2) t113 _ A23.out).mono ?_); rintro e w' ⟨rfl, ⟨nd, rfl⟩⟩; refine ⟨_, rfl, ?_⟩))
                  go_ret
                  exact ⟨by first | rfl | (simp [errW_none, errW_some] <;> rfl) | (simp only [← hji8, ← hji9]; first | rfl | (simp [errW_none, errW_some] <;> rfl)) | (simp [*, errW_none, errW_some] <;> rfl), by repeat (first | (with_reducible first | exact HB.out | apply below_alloc | apply pw_below_drewN | apply below_drew1) | exact HB.out)⟩
          · rw [if_neg c11] at H
            exact absurd H (by simp)
        · rw [if_neg c10] at H
          exact absurd H (by simp)

/-! ### debentureref01_Sub: function 13 -/
mutual
def debentureref01_Sub.j0 : Nat → ByteArray → ByteArray → Bool → Option (ByteArray × Bool)
  | 0, _, _, _ => none
  | k + 1, x0, x1, x23 => if x23 = true then (some ((⟨#[]⟩ : ByteArray), false)) else (if 0 ≤ (x0.size : Int) then (if ((x0.size : Int) : Int).toNat ≤ 281474976710656 then (debentureref01_Sub.l0 k x0 x1 (List.replicate ((x0.size : Int) : Int).toNat 0) 0 0) else (none)) else (none))
def debentureref01_Sub.l0 : Nat → ByteArray → ByteArray → List Int → Int → Int → Option (ByteArray × Bool)
  | 0, _, _, _, _, _ => none
  | k + 1, x0, x1, x6, x7, x8 => if x8 < (x0.size : Int) then ((debentureref01_at.f x0 x8).bind fun t121 => ((debentureref01_at.f x1 x8).bind fun t122 => (if (wrap64 ((wrap64 (t121 - t122)) - x7)) < 0 then (if 0 ≤ (wrap64 ((wrap64 ((x0.size : Int) - 1)) - x8)) then (if (wrap64 ((wrap64 ((x0.size : Int) - 1)) - x8)) < (x6.length : Int) then (debentureref01_Sub.l0 k x0 x1 (x6.set ((wrap64 ((wrap64 ((x0.size : Int) - 1)) - x8)) : Int).toNat ((wrap64 (48 + (wrap64 ((wrap64 ((wrap64 (t121 - t122)) - x7)) + 10)))) % 256)) 1 (wrap64 (x8 + 1))) else (none)) else (none)) else (if 0 ≤ (wrap64 ((wrap64 ((x0.size : Int) - 1)) - x8)) then (if (wrap64 ((wrap64 ((x0.size : Int) - 1)) - x8)) < (x6.length : Int) then (debentureref01_Sub.l0 k x0 x1 (x6.set ((wrap64 ((wrap64 ((x0.size : Int) - 1)) - x8)) : Int).toNat ((wrap64 (48 + (wrap64 ((wrap64 (t121 - t122)) - x7)))) % 256)) 0 (wrap64 (x8 + 1))) else (none)) else (none))))) else ((debentureref01_trim.f k (strOfNums x6)).bind fun t120 => (some (t120, true)))
end
def debentureref01_Sub.f (k : Nat) (a0 : ByteArray) (a1 : ByteArray) : Option (ByteArray × Bool) := (debentureref01_May.f k a0).bind fun t114 => (if t114 = true then ((debentureref01_May.f k a1).bind fun t115 => (if t115 = true then ((debentureref01_Cmp.f k a0 a1).bind fun t116 => (debentureref01_Sub.j0 k a0 a1 (decide (t116 < 0)))) else (debentureref01_Sub.j0 k a0 a1 true))) else (debentureref01_Sub.j0 k a0 a1 true))
theorem debentureref01_Sub.mono_l : ∀ k, (∀ y0 y1 y2, LeO (debentureref01_Sub.j0 k y0 y1 y2) (debentureref01_Sub.j0 (k + 1) y0 y1 y2)) ∧ (∀ y0 y1 y2 y3 y4, LeO (debentureref01_Sub.l0 k y0 y1 y2 y3 y4) (debentureref01_Sub.l0 (k + 1) y0 y1 y2 y3 y4))
  | 0 => ⟨fun _ _ _ r h => by simp [debentureref01_Sub.j0] at h, fun _ _ _ _ _ r h => by simp [debentureref01_Sub.l0] at h⟩
  | k + 1 => by
    obtain ⟨ih0, ih1⟩ := debentureref01_Sub.mono_l k
    refine ⟨?_, ?_⟩
    · intro y0 y1 y2
      unfold debentureref01_Sub.j0
      repeat' first
      | (with_reducible exact ih0 _ _ _)
      | (with_reducible exact ih1 _ _ _ _ _)
      | (with_reducible exact debentureref01_Cmp.mono _ _ _)
      | (with_reducible exact debentureref01_May.mono _ _)
      | (with_reducible exact debentureref01_trim.mono _ _)
      | (with_reducible exact LeO.refl _)
      | (with_reducible exact LeO.none _)
      | (with_reducible refine LeO.ite ?_ ?_)
      | (with_reducible refine LeO.bind ?_ (fun _ => ?_))
      | exact ih0 _ _ _
      | exact ih1 _ _ _ _ _
      | exact debentureref01_Cmp.mono _ _ _
      | exact debentureref01_May.mono _ _
      | exact debentureref01_trim.mono _ _
      | exact LeO.none _
      | refine LeO.ite ?_ ?_
      | refine LeO.bind ?_ (fun _ => ?_)
    · intro y0 y1 y2 y3 y4
      unfold debentureref01_Sub.l0
      repeat' first
      | (with_reducible exact ih0 _ _ _)
      | (with_reducible exact ih1 _ _ _ _ _)
      | (with_reducible exact debentureref01_Cmp.mono _ _ _)
      | (with_reducible exact debentureref01_May.mono _ _)
      | (with_reducible exact debentureref01_trim.mono _ _)
      | (with_reducible exact LeO.refl _)
      | (with_reducible exact LeO.none _)
      | (with_reducible refine LeO.ite ?_ ?_)
      | (with_reducible refine LeO.bind ?_ (fun _ => ?_))
      | exact ih0 _ _ _
      | exact ih1 _ _ _ _ _
      | exact debentureref01_Cmp.mono _ _ _
      | exact debentureref01_May.mono _ _
      | exact debentureref01_trim.mono _ _
      | exact LeO.none _
      | refine LeO.ite ?_ ?_
      | refine LeO.bind ?_ (fun _ => ?_)
theorem debentureref01_Sub.mono : ∀ a0 a1 k, LeO (debentureref01_Sub.f k a0 a1) (debentureref01_Sub.f (k + 1) a0 a1) := by
  intro a0 a1 k
  obtain ⟨ih0, ih1⟩ := debentureref01_Sub.mono_l k
  unfold debentureref01_Sub.f
  repeat' first
      | (with_reducible exact ih0 _ _ _)
      | (with_reducible exact ih1 _ _ _ _ _)
      | (with_reducible exact debentureref01_Cmp.mono _ _ _)
      | (with_reducible exact debentureref01_May.mono _ _)
      | (with_reducible exact debentureref01_trim.mono _ _)
      | (with_reducible exact LeO.refl _)
      | (with_reducible exact LeO.none _)
      | (with_reducible refine LeO.ite ?_ ?_)
      | (with_reducible refine LeO.bind ?_ (fun _ => ?_))
      | exact ih0 _ _ _
      | exact ih1 _ _ _ _ _
      | exact debentureref01_Cmp.mono _ _ _
      | exact debentureref01_May.mono _ _
      | exact debentureref01_trim.mono _ _
      | exact LeO.none _
      | refine LeO.ite ?_ ?_
      | refine LeO.bind ?_ (fun _ => ?_)
set_option maxHeartbeats 8000000 in
set_option maxRecDepth 100000 in
theorem debentureref01_Sub.calls (k : Nat) (a0 : ByteArray) (a1 : ByteArray) (r1 : ByteArray) (r2 : Bool) (w : World) (h : debentureref01_Sub.f k a0 a1 = some (r1, r2)) :
    Calls Tryd.prog 13 #[.string a0, .string a1] w fun e w' => e = .returned (.tuple #[.string r1, .bool r2]) ∧ Below w.heap.size w w' := by
  have HB := Aside0.mk (Below.refl w.heap.size w)
  have H : ((debentureref01_May.f k a0).bind fun t114 => (if t114 = true then ((debentureref01_May.f k a1).bind fun t115 => (if t115 = true then ((debentureref01_Cmp.f k a0 a1).bind fun t116 => (debentureref01_Sub.j0 k a0 a1 (decide (t116 < 0)))) else (debentureref01_Sub.j0 k a0 a1 true))) else (debentureref01_Sub.j0 k a0 a1 true))) = some (r1, r2) := h
  clear h
  have HC3 := Aside0.mk H
  clear H
  go_enter Tryd.func13, Tryd.ntmps13
  go_upto_region 1 with (fail)
  go_cut [23] (fun v23 wc => ∃ (kq : Nat) (x23_2 : Bool), v23 = .bool x23_2 ∧ Aside0 (debentureref01_Sub.j0 kq a0 a1 x23_2 = some (r1, r2)) ∧ Aside0 (kq ≤ k) ∧ Aside0 (Below w.heap.size w wc))
  case first =>
    have H := HC3.out
    clear HC3
    replace H := Option.bind_eq_some_iff.mp H
    obtain ⟨t114, A40, H⟩ := H
    replace H : (if t114 = true then ((debentureref01_May.f k a1).bind fun t115 => (if t115 = true then ((debentureref01_Cmp.f k a0 a1).bind fun t116 => (debentureref01_Sub.j0 k a0 a1 (decide (t116 < 0)))) else (debentureref01_Sub.j0 k a0 a1 true))) else (debentureref01_Sub.j0 k a0 a1 true)) = some (r1, r2) := H
    have A4 := Aside0.mk A40
    clear A40
    by_cases c5 : t114 = true
    · subst c5
      have H1 : ((debentureref01_May.f k a1).bind fun t115 => (if t115 = true then ((debentureref01_Cmp.f k a0 a1).bind fun t116 => (debentureref01_Sub.j0 k a0 a1 (decide (t116 < 0)))) else (debentureref01_Sub.j0 k a0 a1 true))) = some (r1, r2) := by rw [if_pos rfl] at H; exact H
      clear H
      have H := H1
      clear H1
      replace H := Option.bind_eq_some_iff.mp H
      obtain ⟨t115, A60, H⟩ := H
      replace H : (if t115 = true then ((debentureref01_Cmp.f k a0 a1).bind fun t116 => (debentureref01_Sub.j0 k a0 a1 (decide (t116 < 0)))) else (debentureref01_Sub.j0 k a0 a1 true)) = some (r1, r2) := H
      have A6 := Aside0.mk A60
      clear A60
      by_cases c7 : t115 = true
      · subst c7
        have H1 : ((debentureref01_Cmp.f k a0 a1).bind fun t116 => (debentureref01_Sub.j0 k a0 a1 (decide (t116 < 0)))) = some (r1, r2) := by rw [if_pos rfl] at H; exact H
        clear H
        have H := H1
        clear H1
        replace H := Option.bind_eq_some_iff.mp H
        obtain ⟨t116, A80, H⟩ := H
        replace H : (debentureref01_Sub.j0 k a0 a1 (decide (t116 < 0))) = some (r1, r2) := H
        have A8 := Aside0.mk A80
        clear A80
        have H' := Aside0.mk H
        clear H
        go_wp2_with (first | ((with_reducible refine gate_callee (f := 19) rfl ?_); refine goesL_ (some 11) rfl rfl Tryd.func19 (by kernel_rfl) rfl #[.string a0] rfl (by (try simp only [List.map_toArray, List.map_cons, List.map_nil]); first | done | rfl | (simp only [List.length_drop, List.length_take]; rfl)) ?_; (with_reducible refine (debentureref01_May.calls k a0 true _ A4.out).mono ?_); rintro e w' ⟨rfl, ⟨nd, rfl⟩⟩; refine ⟨_, rfl, ?_⟩) | (go_at_call 19; (with_reducible refine (debentureref01_May.calls k a1 true _ A6.out).mono ?_); rintro e w' ⟨rfl, ⟨nd, rfl⟩⟩) | (go_at_call 23; (with_reducible refine (debentureref01_Cmp.calls k a0 a1 t116 _ A8.out).mono ?_); rintro e w' ⟨rfl, ⟨nd, rfl⟩⟩))
        go_meet
        case rel => exact ⟨_, (decide (t116 < 0)), (by first | rfl | (simp; done) | (simp [*]; done)), H', ⟨by first | omega | exact Nat.le_refl _⟩, ⟨by repeat (first | (with_reducible first | exact HB.out | apply below_alloc | apply pw_below_drewN | apply below_drew1) | exact HB.out)⟩⟩
      · replace c7 := Bool.eq_false_iff.mpr c7
        subst c7
        have H1 : (debentureref01_Sub.j0 k a0 a1 true) = some (r1, r2) := by rw [if_neg (show ¬ (false = true) by decide)] at H; exact H
        clear H
        have H := H1
        clear H1
        have H' := Aside0.mk H
        clear H
        go_wp2_with (first | ((with_reducible refine gate_callee (f := 19) rfl ?_); refine goesL_ (some 11) rfl rfl Tryd.func19 (by kernel_rfl) rfl #[.string a0] rfl (by (try simp only [List.map_toArray, List.map_cons, List.map_nil]); first | done | rfl | (simp only [List.length_drop, List.length_take]; rfl)) ?_; (with_reducible refine (debentureref01_May.calls k a0 true _ A4.out).mono ?_); rintro e w' ⟨rfl, ⟨nd, rfl⟩⟩; refine ⟨_, rfl, ?_⟩) | (go_at_call 19; (with_reducible refine (debentureref01_May.calls k a1 false _ A6.out).mono ?_); rintro e w' ⟨rfl, ⟨nd, rfl⟩⟩))
        go_meet
        case rel => exact ⟨_, (true), (by first | rfl | (simp; done) | (simp [*]; done)), H', ⟨by first | omega | exact Nat.le_refl _⟩, ⟨by repeat (first | (with_reducible first | exact HB.out | apply below_alloc | apply pw_below_drewN | apply below_drew1) | exact HB.out)⟩⟩
    · replace c5 := Bool.eq_false_iff.mpr c5
      subst c5
      have H1 : (debentureref01_Sub.j0 k a0 a1 true) = some (r1, r2) := by rw [if_neg (show ¬ (false = true) by decide)] at H; exact H
      clear H
      have H := H1
      clear H1
      have H' := Aside0.mk H
      clear H
      go_wp2_with (first | ((with_reducible refine gate_callee (f := 19) rfl ?_); refine goesL_ (some 11) rfl rfl Tryd.func19 (by kernel_rfl) rfl #[.string a0] rfl (by (try simp only [List.map_toArray, List.map_cons, List.map_nil]); first | done | rfl | (simp only [List.length_drop, List.length_take]; rfl)) ?_; (with_reducible refine (debentureref01_May.calls k a0 false _ A4.out).mono ?_); rintro e w' ⟨rfl, ⟨nd, rfl⟩⟩; refine ⟨_, rfl, ?_⟩))
      go_meet
      case rel => exact ⟨_, (true), (by first | rfl | (simp; done) | (simp [*]; done)), H', ⟨by first | omega | exact Nat.le_refl _⟩, ⟨by repeat (first | (with_reducible first | exact HB.out | apply below_alloc | apply pw_below_drewN | apply below_drew1) | exact HB.out)⟩⟩
  case rest =>
    clear HC3
    try clear c1
    try clear p2
    try clear c5
    try clear c7
    obtain ⟨kq, x23_2, rfl, HA, HJ2, HB⟩ := hcut
    cases kq with
    | zero => exact absurd HA.out (by simp [debentureref01_Sub.j0])
    | succ kj2 =>
      have H := HA.out
      clear HA
      simp only [debentureref01_Sub.j0] at H
      by_cases c9 : x23_2 = true
      · subst c9
        have H1 : (some ((⟨#[]⟩ : ByteArray), false)) = some (r1, r2) := by rw [if_pos rfl] at H; exact H
        clear H
        have H := H1
        clear H1
        simp only [Option.some.injEq, Prod.mk.injEq] at H
        obtain ⟨rfl, rfl⟩ := H
        go_wp2
        go_ret2
        exact ⟨by first | rfl | (simp [errW_none, errW_some] <;> rfl) | (simp [*, errW_none, errW_some] <;> rfl), by repeat (first | (with_reducible first | exact HB.out | apply below_alloc | apply pw_below_drewN | apply below_drew1) | exact HB.out)⟩
      · replace c9 := Bool.eq_false_iff.mpr c9
        subst c9
        have H1 : (if 0 ≤ (a0.size : Int) then (if ((a0.size : Int) : Int).toNat ≤ 281474976710656 then (debentureref01_Sub.l0 kj2 a0 a1 (List.replicate ((a0.size : Int) : Int).toNat 0) 0 0) else (none)) else (none)) = some (r1, r2) := by rw [if_neg (show ¬ (false = true) by decide)] at H; exact H
        clear H
        have H := H1
        clear H1
        by_cases c10 : 0 ≤ (a0.size : Int)
        · rw [if_pos c10] at H
          have c10b0 := eq_true c10
          have c10b1 : decide (0 ≤ (a0.size : Int)) = true := decide_eq_true c10
          clear c10
          by_cases c11 : ((a0.size : Int) : Int).toNat ≤ 281474976710656
          · rw [if_pos c11] at H
            have c11b0 := eq_true c11
            have c11b1 : decide (((a0.size : Int) : Int).toNat ≤ 281474976710656) = true := decide_eq_true c11
            clear c11
            obtain ⟨y117, hy117⟩ : ∃ y_ : List Int, y_ = (List.replicate ((a0.size : Int) : Int).toNat 0) := ⟨_, rfl⟩
            replace H : (debentureref01_Sub.l0 kj2 a0 a1 y117 0 0) = some (r1, r2) := by first | (rw [hy117]; with_reducible exact H) | (have H2_ := (Option.bind_some _ _).symm.trans H; rw [hy117]; with_reducible exact H2_) | (have H2_ := (Option.bind_some _ _).symm.trans H; with_reducible exact H2_) | with_reducible exact H | (rw [hy117]; exact H) | exact H
            have Ny117 := Aside0.mk hy117
            clear hy117
            have H' := Aside0.mk H
            clear H
            go_wp2_with (first | ((with_reducible refine gate_dst (N := 26) rfl ?_); refine Kd.R_make (Kd.int .u8) _ 5 rfl (N := 26) rfl 47 _ _ rfl (a0.size : Int) rfl rfl Tryd.underlying47 (.int .u8 0) 1 info5 rfl (by decide) (by omega) 0 (ok := fun _ => True) (okp := fun _ => True) rfl (fun _ hk => hk) trivial (of_decide_eq_true (by first | (with_reducible assumption) | assumption)) (by have h_ := (of_decide_eq_true (by first | (with_reducible assumption) | assumption) : (a0.size : Int).toNat ≤ 281474976710656); omega) (Below.refl _ _) (Nat.le_refl _) ?_; intro v118 w12 ho13 hb hg_ hnew_; clear hg_ hnew_; (first | rw [← Ny117.out] at ho13 | (simp only [Int.reduceToNat] at ho13; rw [← Ny117.out] at ho13)); have n0_ := Aside0.mk (Kd.R_lower ho13 (below_size (by repeat (first | (with_reducible first | exact HB.out | apply below_alloc | apply pw_below_drewN | apply below_drew1) | exact HB.out)))); have n1_ := Aside0.mk (below_step (by repeat (first | (with_reducible first | exact HB.out | apply below_alloc | apply pw_below_drewN | apply below_drew1) | exact HB.out)) hb); clear HB; have HO119 := n0_; have HB := n1_; clear n0_ n1_; clear hb ho13))
            go_loopg [7, 8] kj2 (fun kq v7 v8 w' => ∃ (x6_2 : List Int) (x7_2 : Int) (x8_2 : Int), v7 = .int .i64 x7_2 ∧ v8 = .int .i64 x8_2 ∧ Aside0 (debentureref01_Sub.l0 kq a0 a1 x6_2 x7_2 x8_2 = some (r1, r2)) ∧ Aside0 (kq ≤ kj2) ∧ Aside0 (Kd.R (Kd.int .u8) 5 w' w.heap.size (fun _ => True) v118 x6_2) ∧ Aside0 (Below w.heap.size w w'))
            case atStart => exact ⟨(y117), (0), (0), (by first | rfl | (simp; done) | (simp [*]; done)), (by first | rfl | (simp; done) | (simp [*]; done)), H', ⟨Nat.le_refl _⟩, ⟨by (with_reducible repeat (first | apply Kd.R_alloc | apply Kd.R_drewN | apply Kd.R_drew)); exact HO119.out⟩, ⟨by repeat (first | (with_reducible first | exact HB.out | apply below_alloc | apply pw_below_drewN | apply below_drew1) | exact HB.out)⟩⟩
            case round =>
              clear H'
              try clear c1
              try clear p2
              try clear c5
              try clear c7
              try clear c9
              try clear c10
              try clear c10b0
              try clear c10b1
              try clear c11
              try clear c11b0
              try clear c11b1
              try clear c13
              try clear p2
              obtain ⟨x6_2, x7_2, x8_2, rfl, rfl, HA, HK2, HO_6, HB⟩ := hrel
              cases gk with
              | zero => exact absurd HA.out (by simp [debentureref01_Sub.l0])
              | succ k2 =>
                have H := HA.out
                clear HA
                simp only [debentureref01_Sub.l0] at H
                by_cases c14 : x8_2 < (a0.size : Int)
                · rw [if_pos c14] at H
                  have c14b0 : decide (x8_2 < (a0.size : Int)) = true := decide_eq_true c14
                  clear c14
                  replace H := Option.bind_eq_some_iff.mp H
                  obtain ⟨t121, A150, H⟩ := H
                  replace H : ((debentureref01_at.f a1 x8_2).bind fun t122 => (if (wrap64 ((wrap64 (t121 - t122)) - x7_2)) < 0 then (if 0 ≤ (wrap64 ((wrap64 ((a0.size : Int) - 1)) - x8_2)) then (if (wrap64 ((wrap64 ((a0.size : Int) - 1)) - x8_2)) < (x6_2.length : Int) then (debentureref01_Sub.l0 k2 a0 a1 (x6_2.set ((wrap64 ((wrap64 ((a0.size : Int) - 1)) - x8_2)) : Int).toNat ((wrap64 (48 + (wrap64 ((wrap64 ((wrap64 (t121 - t122)) - x7_2)) + 10)))) % 256)) 1 (wrap64 (x8_2 + 1))) else (none)) else (none)) else (if 0 ≤ (wrap64 ((wrap64 ((a0.size : Int) - 1)) - x8_2)) then (if (wrap64 ((wrap64 ((a0.size : Int) - 1)) - x8_2)) < (x6_2.length : Int) then (debentureref01_Sub.l0 k2 a0 a1 (x6_2.set ((wrap64 ((wrap64 ((a0.size : Int) - 1)) - x8_2)) : Int).toNat ((wrap64 (48 + (wrap64 ((wrap64 (t121 - t122)) - x7_2)))) % 256)) 0 (wrap64 (x8_2 + 1))) else (none)) else (none)))) = some (r1, r2) := H
                  have A15 := Aside0.mk A150
                  clear A150
                  replace H := Option.bind_eq_some_iff.mp H
                  obtain ⟨t122, A160, H⟩ := H
                  replace H : (if (wrap64 ((wrap64 (t121 - t122)) - x7_2)) < 0 then (if 0 ≤ (wrap64 ((wrap64 ((a0.size : Int) - 1)) - x8_2)) then (if (wrap64 ((wrap64 ((a0.size : Int) - 1)) - x8_2)) < (x6_2.length : Int) then (debentureref01_Sub.l0 k2 a0 a1 (x6_2.set ((wrap64 ((wrap64 ((a0.size : Int) - 1)) - x8_2)) : Int).toNat ((wrap64 (48 + (wrap64 ((wrap64 ((wrap64 (t121 - t122)) - x7_2)) + 10)))) % 256)) 1 (wrap64 (x8_2 + 1))) else (none)) else (none)) else (if 0 ≤ (wrap64 ((wrap64 ((a0.size : Int) - 1)) - x8_2)) then (if (wrap64 ((wrap64 ((a0.size : Int) - 1)) - x8_2)) < (x6_2.length : Int) then (debentureref01_Sub.l0 k2 a0 a1 (x6_2.set ((wrap64 ((wrap64 ((a0.size : Int) - 1)) - x8_2)) : Int).toNat ((wrap64 (48 + (wrap64 ((wrap64 (t121 - t122)) - x7_2)))) % 256)) 0 (wrap64 (x8_2 + 1))) else (none)) else (none))) = some (r1, r2) := H
                  have A16 := Aside0.mk A160
                  clear A160
                  by_cases c17 : (wrap64 ((wrap64 (t121 - t122)) - x7_2)) < 0
                  · rw [if_pos c17] at H
                    have c17b0 : decide ((wrap64 ((wrap64 (t121 - t122)) - x7_2)) < 0) = true := decide_eq_true c17
                    have c17b0w : decide ((IntKind.i64.wrap ((IntKind.i64.wrap (t121 - t122)) - x7_2)) < 0) = true := by simp only [i64_w]; exact c17b0
                    clear c17
                    obtain ⟨ji18, hji18⟩ : ∃ j_ : Int, (wrap64 ((wrap64 ((a0.size : Int) - 1)) - x8_2)) = j_ := ⟨_, rfl⟩
                    replace H : (if 0 ≤ (ji18) then (if (ji18) < (x6_2.length : Int) then (debentureref01_Sub.l0 k2 a0 a1 (x6_2.set ((ji18) : Int).toNat ((wrap64 (48 + (wrap64 ((wrap64 ((wrap64 (t121 - t122)) - x7_2)) + 10)))) % 256)) 1 (wrap64 (x8_2 + 1))) else (none)) else (none)) = some (r1, r2) := by first | (rw [hji18] at H; exact H) | (simp only [hji18] at H ⊢; exact H)
                    (try rw [hji18] at A15)
                    (try rw [hji18] at A16)
                    have hji18w : (IntKind.i64.wrap ((wrap64 ((a0.size : Int) - 1)) - x8_2)) = ji18 := (i64_w _).trans hji18
                    by_cases c19 : 0 ≤ (ji18)
                    · rw [if_pos c19] at H
                      have c19b0 : decide (0 ≤ (ji18)) = true := decide_eq_true c19
                      clear c19
                      by_cases c20 : (ji18) < (x6_2.length : Int)
                      · rw [if_pos c20] at H
                        have c20b0 : decide ((ji18) < (x6_2.length : Int)) = true := decide_eq_true c20
                        clear c20
                        obtain ⟨y123, hy123⟩ : ∃ y_ : List Int, y_ = (x6_2.set ((ji18) : Int).toNat ((wrap64 (48 + (wrap64 ((wrap64 ((wrap64 (t121 - t122)) - x7_2)) + 10)))) % 256)) := ⟨_, rfl⟩
                        replace H : (debentureref01_Sub.l0 k2 a0 a1 y123 1 (wrap64 (x8_2 + 1))) = some (r1, r2) := by first | (rw [hy123]; with_reducible exact H) | (have H2_ := (Option.bind_some _ _).symm.trans H; rw [hy123]; with_reducible exact H2_) | (have H2_ := (Option.bind_some _ _).symm.trans H; with_reducible exact H2_) | with_reducible exact H | (rw [hy123]; exact H) | exact H
                        have Ny123 := Aside0.mk hy123
                        clear hy123
                        have H' := Aside0.mk H
                        clear H
                        go_wp2_with (first | ((with_reducible refine gate_callee (f := 34) rfl ?_); refine goesL_ (some 35) rfl rfl Tryd.func34 (by kernel_rfl) rfl #[.string a0, .int .i64 x8_2] rfl (by (try simp only [List.map_toArray, List.map_cons, List.map_nil]); first | done | rfl | (simp only [List.length_drop, List.length_take]; rfl)) ?_; (with_reducible refine (debentureref01_at.calls a0 x8_2 t121 _ A15.out).mono ?_); rintro e w' ⟨rfl, ⟨nd, rfl⟩⟩; refine ⟨_, rfl, ?_⟩; (try (rw [drewN_self wr]; generalize hq_ : World.drewN wr _ = wr; have n0_ : Aside0 (Kd.R (Kd.int .u8) 5 wr w.heap.size (fun _ => True) v118 x6_2) := ⟨by rw [← hq_]; exact (by (with_reducible repeat (first | apply Kd.R_alloc | apply Kd.R_drewN | apply Kd.R_drew)); exact HO_6.out)⟩; have n1_ : Aside0 (Below w.heap.size w wr) := ⟨by rw [← hq_]; exact (by repeat (first | (with_reducible first | exact HB.out | apply below_alloc | apply pw_below_drewN | apply below_drew1) | exact HB.out))⟩; clear HO_6 HB hq_; have HO_6 := n0_; have HB := n1_; clear n0_ n1_))) | ((with_reducible refine gate_callee (f := 34) rfl ?_); refine goesL_ (some 38) rfl rfl Tryd.func34 (by kernel_rfl) rfl #[.string a1, .int .i64 x8_2] rfl (by (try simp only [List.map_toArray, List.map_cons, List.map_nil]); first | done | rfl | (simp only [List.length_drop, List.length_take]; rfl)) ?_; (with_reducible refine (debentureref01_at.calls a1 x8_2 t122 _ A16.out).mono ?_); rintro e w' ⟨rfl, ⟨nd, rfl⟩⟩; refine ⟨_, rfl, ?_⟩; (try (rw [drewN_self wr]; generalize hq_ : World.drewN wr _ = wr; have n0_ : Aside0 (Kd.R (Kd.int .u8) 5 wr w.heap.size (fun _ => True) v118 x6_2) := ⟨by rw [← hq_]; exact (by (with_reducible repeat (first | apply Kd.R_alloc | apply Kd.R_drewN | apply Kd.R_drew)); exact HO_6.out)⟩; have n1_ : Aside0 (Below w.heap.size w wr) := ⟨by rw [← hq_]; exact (by repeat (first | (with_reducible first | exact HB.out | apply below_alloc | apply pw_below_drewN | apply below_drew1) | exact HB.out))⟩; clear HO_6 HB hq_; have HO_6 := n0_; have HB := n1_; clear n0_ n1_)); have p21 : 0 ≤ ((ji18) : Int) := of_decide_eq_true (by first | (with_reducible assumption) | assumption); have q21 : ((ji18) : Int) < ((x6_2.length : Int) : Int) := of_decide_eq_true (by first | (with_reducible assumption) | assumption); obtain ⟨go21, co21, eo21, gb21, gl21, cl21, HG21⟩ := Kd.R_form HO_6.out (by omega); (first | cases eo21 | (injection eo21 with ea_ en_ ec_; (first | subst ea_ | (injection ea_ with ea_; subst ea_)); subst ec_; clear en_)); have GB21 := Aside0.mk gb21; have GG21 := Aside0.mk HG21; clear gb21 gl21 HG21; obtain ⟨hx21_0, hf21_0⟩ := Kd.R_celln 0 HO_6.out ((ji18) : Int) p21 q21; replace p21 := eq_true p21; replace q21 := eq_true q21; obtain ⟨hy22_, hz22_⟩ := Kd.R_celln 0 HO_6.out ((ji18) : Int) (of_decide_eq_true (by first | (with_reducible assumption) | assumption)) (of_decide_eq_true (by first | (with_reducible assumption) | assumption)); have HP22 := Kd.R_putg HO_6.out ((ji18) : Int) ((wrap64 (48 + (wrap64 ((wrap64 ((wrap64 (t121 - t122)) - x7_2)) + 10)))) % 256)) | ((with_reducible refine gate_store (t := 5) (p := 55) rfl ?_); refine store_event (t := 5) (p := 55) (v := ?vo_w23) (w1 := (wr.setCell ⟨go21, ((ji18) : Int).toNat, none⟩ (.int .u8 ((wrap64 (48 + (wrap64 ((wrap64 ((wrap64 (t121 - t122)) - x7_2)) + 10)))) % 256)))) ?hg ?ho ?hn ?hr ?_; (case ho => rfl); (case hg => rfl); (case hn => rfl); (case hr => first | (go_simp; done) | (go_simp; rfl)); intro w23 hw; have hg : wr.grownBy w23 (some go21) := (by rw [hw]; exact HP22.2); have hp_ : Kd.R (Kd.int .u8) 5 w23 w.heap.size (fun _ => True) (.slice (some ⟨go21, 0, none⟩) x6_2.length co21) y123 := (by rw [hw, Ny123.out]; exact HP22.1); clear HP22; have n0_ := Aside0.mk (hp_); have n1_ := Aside0.mk ((by rw [hw]; exact below_set (HB.out) GB21.out : Below w.heap.size w w23)); clear HO_6; clear HB; have HO_6 := n0_; have HB := n1_; clear n0_ n1_; clear hg hw hp_))
                        go_roundg k2
                        case measure => have := HJ2.out; have := HK2.out; omega
                        case rel => exact ⟨(y123), (1), (wrap64 (x8_2 + 1)), (by first | rfl | (simp; done) | (simp [*]; done)), (by first | rfl | (simp; done) | (simp [*]; done)), H', ⟨by have := HJ2.out; have := HK2.out; omega⟩, ⟨by (with_reducible repeat (first | apply Kd.R_alloc | apply Kd.R_drewN | apply Kd.R_drew)); exact HO_6.out⟩, ⟨by repeat (first | (with_reducible first | exact HB.out | apply below_alloc | apply pw_below_drewN | apply below_drew1) | exact HB.out)⟩⟩
                      · rw [if_neg c20] at H
                        exact absurd H (by simp)
                    · rw [if_neg c19] at H
                      exact absurd H (by simp)
                  · rw [if_neg c17] at H
                    have c17b0 : decide ((wrap64 ((wrap64 (t121 - t122)) - x7_2)) < 0) = false := decide_eq_false c17
                    have c17b0w : decide ((IntKind.i64.wrap ((IntKind.i64.wrap (t121 - t122)) - x7_2)) < 0) = false := by simp only [i64_w]; exact c17b0
                    clear c17
                    obtain ⟨ji24, hji24⟩ : ∃ j_ : Int, (wrap64 ((wrap64 ((a0.size : Int) - 1)) - x8_2)) = j_ := ⟨_, rfl⟩
                    replace H : (if 0 ≤ (ji24) then (if (ji24) < (x6_2.length : Int) then (debentureref01_Sub.l0 k2 a0 a1 (x6_2.set ((ji24) : Int).toNat ((wrap64 (48 + (wrap64 ((wrap64 (t121 - t122)) - x7_2)))) % 256)) 0 (wrap64 (x8_2 + 1))) else (none)) else (none)) = some (r1, r2) := by first | (rw [hji24] at H; exact H) | (simp only [hji24] at H ⊢; exact H)
                    (try rw [hji24] at A15)
                    (try rw [hji24] at A16)
                    have hji24w : (IntKind.i64.wrap ((wrap64 ((a0.size : Int) - 1)) - x8_2)) = ji24 := (i64_w _).trans hji24
                    by_cases c25 : 0 ≤ (ji24)
                    · rw [if_pos c25] at H
                      have c25b0 : decide (0 ≤ (ji24)) = true := decide_eq_true c25
                      clear c25
                      by_cases c26 : (ji24) < (x6_2.length : Int)
                      · rw [if_pos c26] at H
                        have c26b0 : decide ((ji24) < (x6_2.length : Int)) = true := decide_eq_true c26
                        clear c26
                        obtain ⟨y124, hy124⟩ : ∃ y_ : List Int, y_ = (x6_2.set ((ji24) : Int).toNat ((wrap64 (48 + (wrap64 ((wrap64 (t121 - t122)) - x7_2)))) % 256)) := ⟨_, rfl⟩
                        replace H : (debentureref01_Sub.l0 k2 a0 a1 y124 0 (wrap64 (x8_2 + 1))) = some (r1, r2) := by first | (rw [hy124]; with_reducible exact H) | (have H2_ := (Option.bind_some _ _).symm.trans H; rw [hy124]; with_reducible exact H2_) | (have H2_ := (Option.bind_some _ _).symm.trans H; with_reducible exact H2_) | with_reducible exact H | (rw [hy124]; exact H) | exact H
                        have Ny124 := Aside0.mk hy124
                        clear hy124
                        have H' := Aside0.mk H
                        clear H
                        go_wp2_with (first | ((with_reducible refine gate_callee (f := 34) rfl ?_); refine goesL_ (some 35) rfl rfl Tryd.func34 (by kernel_rfl) rfl #[.string a0, .int .i64 x8_2] rfl (by (try simp only [List.map_toArray, List.map_cons, List.map_nil]); first | done | rfl | (simp only [List.length_drop, List.length_take]; rfl)) ?_; (with_reducible refine (debentureref01_at.calls a0 x8_2 t121 _ A15.out).mono ?_); rintro e w' ⟨rfl, ⟨nd, rfl⟩⟩; refine ⟨_, rfl, ?_⟩; (try (rw [drewN_self wr]; generalize hq_ : World.drewN wr _ = wr; have n0_ : Aside0 (Kd.R (Kd.int .u8) 5 wr w.heap.size (fun _ => True) v118 x6_2) := ⟨by rw [← hq_]; exact (by (with_reducible repeat (first | apply Kd.R_alloc | apply Kd.R_drewN | apply Kd.R_drew)); exact HO_6.out)⟩; have n1_ : Aside0 (Below w.heap.size w wr) := ⟨by rw [← hq_]; exact (by repeat (first | (with_reducible first | exact HB.out | apply below_alloc | apply pw_below_drewN | apply below_drew1) | exact HB.out))⟩; clear HO_6 HB hq_; have HO_6 := n0_; have HB := n1_; clear n0_ n1_))) | ((with_reducible refine gate_callee (f := 34) rfl ?_); refine goesL_ (some 38) rfl rfl Tryd.func34 (by kernel_rfl) rfl #[.string a1, .int .i64 x8_2] rfl (by (try simp only [List.map_toArray, List.map_cons, List.map_nil]); first | done | rfl | (simp only [List.length_drop, List.length_take]; rfl)) ?_; (with_reducible refine (debentureref01_at.calls a1 x8_2 t122 _ A16.out).mono ?_); rintro e w' ⟨rfl, ⟨nd, rfl⟩⟩; refine ⟨_, rfl, ?_⟩; (try (rw [drewN_self wr]; generalize hq_ : World.drewN wr _ = wr; have n0_ : Aside0 (Kd.R (Kd.int .u8) 5 wr w.heap.size (fun _ => True) v118 x6_2) := ⟨by rw [← hq_]; exact (by (with_reducible repeat (first | apply Kd.R_alloc | apply Kd.R_drewN | apply Kd.R_drew)); exact HO_6.out)⟩; have n1_ : Aside0 (Below w.heap.size w wr) := ⟨by rw [← hq_]; exact (by repeat (first | (with_reducible first | exact HB.out | apply below_alloc | apply pw_below_drewN | apply below_drew1) | exact HB.out))⟩; clear HO_6 HB hq_; have HO_6 := n0_; have HB := n1_; clear n0_ n1_)); have p27 : 0 ≤ ((ji24) : Int) := of_decide_eq_true (by first | (with_reducible assumption) | assumption); have q27 : ((ji24) : Int) < ((x6_2.length : Int) : Int) := of_decide_eq_true (by first | (with_reducible assumption) | assumption); obtain ⟨go27, co27, eo27, gb27, gl27, cl27, HG27⟩ := Kd.R_form HO_6.out (by omega); (first | cases eo27 | (injection eo27 with ea_ en_ ec_; (first | subst ea_ | (injection ea_ with ea_; subst ea_)); subst ec_; clear en_)); have GB27 := Aside0.mk gb27; have GG27 := Aside0.mk HG27; clear gb27 gl27 HG27; obtain ⟨hx27_0, hf27_0⟩ := Kd.R_celln 0 HO_6.out ((ji24) : Int) p27 q27; replace p27 := eq_true p27; replace q27 := eq_true q27; obtain ⟨hy28_, hz28_⟩ := Kd.R_celln 0 HO_6.out ((ji24) : Int) (of_decide_eq_true (by first | (with_reducible assumption) | assumption)) (of_decide_eq_true (by first | (with_reducible assumption) | assumption)); have HP28 := Kd.R_putg HO_6.out ((ji24) : Int) ((wrap64 (48 + (wrap64 ((wrap64 (t121 - t122)) - x7_2)))) % 256)) | ((with_reducible refine gate_store (t := 5) (p := 55) rfl ?_); refine store_event (t := 5) (p := 55) (v := ?vo_w29) (w1 := (wr.setCell ⟨go27, ((ji24) : Int).toNat, none⟩ (.int .u8 ((wrap64 (48 + (wrap64 ((wrap64 (t121 - t122)) - x7_2)))) % 256)))) ?hg ?ho ?hn ?hr ?_; (case ho => rfl); (case hg => rfl); (case hn => rfl); (case hr => first | (go_simp; done) | (go_simp; rfl)); intro w29 hw; have hg : wr.grownBy w29 (some go27) := (by rw [hw]; exact HP28.2); have hp_ : Kd.R (Kd.int .u8) 5 w29 w.heap.size (fun _ => True) (.slice (some ⟨go27, 0, none⟩) x6_2.length co27) y124 := (by rw [hw, Ny124.out]; exact HP28.1); clear HP28; have n0_ := Aside0.mk (hp_); have n1_ := Aside0.mk ((by rw [hw]; exact below_set (HB.out) GB27.out : Below w.heap.size w w29)); clear HO_6; clear HB; have HO_6 := n0_; have HB := n1_; clear n0_ n1_; clear hg hw hp_))
                        go_roundg k2
                        case measure => have := HJ2.out; have := HK2.out; omega
                        case rel => exact ⟨(y124), (0), (wrap64 (x8_2 + 1)), (by first | rfl | (simp; done) | (simp [*]; done)), (by first | rfl | (simp; done) | (simp [*]; done)), H', ⟨by have := HJ2.out; have := HK2.out; omega⟩, ⟨by (with_reducible repeat (first | apply Kd.R_alloc | apply Kd.R_drewN | apply Kd.R_drew)); exact HO_6.out⟩, ⟨by repeat (first | (with_reducible first | exact HB.out | apply below_alloc | apply pw_below_drewN | apply below_drew1) | exact HB.out)⟩⟩
                      · rw [if_neg c26] at H
                        exact absurd H (by simp)
                    · rw [if_neg c25] at H
                      exact absurd H (by simp)
                · rw [if_neg c14] at H
                  have c14b0 : decide (x8_2 < (a0.size : Int)) = false := decide_eq_false c14
                  clear c14
                  replace H := Option.bind_eq_some_iff.mp H
                  obtain ⟨t120, A300, H⟩ := H
                  replace H : (some (t120, true)) = some (r1, r2) := H
                  have A30 := Aside0.mk A300
                  clear A300
                  simp only [Option.some.injEq, Prod.mk.injEq] at H
                  obtain ⟨rfl, rfl⟩ := H
                  have hcv31 := own_string (P := Tryd.prog) Tryd.underlying47 Tryd.underlying5 Tryd.underlying9 (Kd.own_of_R HO_6.out)
                  go_wp2_with (first | ((with_reducible refine gate_callee (f := 35) rfl ?_); refine goesL_ (some 58) rfl rfl Tryd.func35 (by kernel_rfl) rfl #[.string (strOfNums x6_2)] rfl (by (try simp only [List.map_toArray, List.map_cons, List.map_nil]); first | done | rfl | (simp only [List.length_drop, List.length_take]; rfl)) ?_; (with_reducible refine (debentureref01_trim.calls k2 (strOfNums x6_2) t120 _ A30.out).mono ?_); rintro e w' ⟨rfl, ⟨nd, rfl⟩⟩; refine ⟨_, rfl, ?_⟩))
                  go_ret2
                  exact ⟨by first | rfl | (simp [errW_none, errW_some] <;> rfl) | (simp [*, errW_none, errW_some] <;> rfl), by repeat (first | (with_reducible first | exact HB.out | apply below_alloc | apply pw_below_drewN | apply below_drew1) | exact HB.out)⟩
          · rw [if_neg c11] at H
            exact absurd H (by simp)
        · rw [if_neg c10] at H
          exact absurd H (by simp)

end Go.Proofs.YtmcpiejgneegjaaDoor.Pq

end

-- Written by wip/pp.py of this place (over the kit's print) out of the translation.
section
namespace Go.Proofs.YtmcpiejgneegjaaDoor.Pq
open Go.RowKit Go.Proofs.YtmcpiejgneegjaaDoorW.PrintWords Go.Proofs.YtmcpiejgneegjaaDoorW.PrintLast Go.Proofs.YtmcpiejgneegjaaDoorW.PrintMore
attribute [local go_sem] max2_int min2_int max_two min_two max_three min_three max_four min_four   -- for this text's walks alone
set_option linter.unusedVariables false
set_option linter.unusedSimpArgs false

/-! ### debentureref01_Div: function 15 -/
mutual
def debentureref01_Div.j0 : Nat → ByteArray → ByteArray → Bool → Option (ByteArray × ByteArray × Bool)
  | 0, _, _, _ => none
  | k + 1, x0, x1, x24 => if x24 = true then (some ((⟨#[]⟩ : ByteArray), (⟨#[]⟩ : ByteArray), false)) else (debentureref01_Div.l0 k x0 x1 (⟨#[]⟩ : ByteArray) (⟨#[48]⟩ : ByteArray) 0)
def debentureref01_Div.l0 : Nat → ByteArray → ByteArray → ByteArray → ByteArray → Int → Option (ByteArray × ByteArray × Bool)
  | 0, _, _, _, _, _ => none
  | k + 1, x0, x1, x7, x8, x9 => if x9 < (x0.size : Int) then (if 0 ≤ x9 then (if x9 ≤ (wrap64 (x9 + 1)) then (if (wrap64 (x9 + 1)) ≤ (x0.size : Int) then (if x8.size + (x0.extract (x9 : Int).toNat ((wrap64 (x9 + 1)) : Int).toNat).size ≤ 9223372036854775807 then ((debentureref01_trim.f k (x8 ++ (x0.extract (x9 : Int).toNat ((wrap64 (x9 + 1)) : Int).toNat))).bind fun t143 => (debentureref01_Div.l1 k x0 x1 x7 t143 x9 0)) else (none)) else (none)) else (none)) else (none)) else ((debentureref01_trim.f k x7).bind fun t142 => (some (t142, x8, true)))
def debentureref01_Div.l1 : Nat → ByteArray → ByteArray → ByteArray → ByteArray → Int → Int → Option (ByteArray × ByteArray × Bool)
  | 0, _, _, _, _, _, _ => none
  | k + 1, x0, x1, x7, x8, x9, x10 => (debentureref01_Cmp.f k x8 x1).bind fun t144 => (if t144 ≥ 0 then ((debentureref01_Sub.f k x8 x1).bind fun bt145 => (debentureref01_Div.l1 k x0 x1 x7 bt145.1 x9 (wrap64 (x10 + 1)))) else (if 0 ≤ x10 then (if x10 ≤ (wrap64 (x10 + 1)) then (if (wrap64 (x10 + 1)) ≤ 10 then (if x7.size + ((⟨#[48, 49, 50, 51, 52, 53, 54, 55, 56, 57]⟩ : ByteArray).extract (x10 : Int).toNat ((wrap64 (x10 + 1)) : Int).toNat).size ≤ 9223372036854775807 then (debentureref01_Div.l0 k x0 x1 (x7 ++ ((⟨#[48, 49, 50, 51, 52, 53, 54, 55, 56, 57]⟩ : ByteArray).extract (x10 : Int).toNat ((wrap64 (x10 + 1)) : Int).toNat)) x8 (wrap64 (x9 + 1))) else (none)) else (none)) else (none)) else (none)))
end
def debentureref01_Div.f (k : Nat) (a0 : ByteArray) (a1 : ByteArray) : Option (ByteArray × ByteArray × Bool) := (debentureref01_May.f k a0).bind fun t140 => (if t140 = true then ((debentureref01_May.f k a1).bind fun t141 => (if t141 = true then (debentureref01_Div.j0 k a0 a1 (a1.toList == ([48] : List UInt8))) else (debentureref01_Div.j0 k a0 a1 true))) else (debentureref01_Div.j0 k a0 a1 true))
theorem debentureref01_Div.mono_l : ∀ k, (∀ y0 y1 y2, LeO (debentureref01_Div.j0 k y0 y1 y2) (debentureref01_Div.j0 (k + 1) y0 y1 y2)) ∧ (∀ y0 y1 y2 y3 y4, LeO (debentureref01_Div.l0 k y0 y1 y2 y3 y4) (debentureref01_Div.l0 (k + 1) y0 y1 y2 y3 y4)) ∧ (∀ y0 y1 y2 y3 y4 y5, LeO (debentureref01_Div.l1 k y0 y1 y2 y3 y4 y5) (debentureref01_Div.l1 (k + 1) y0 y1 y2 y3 y4 y5))
  | 0 => ⟨fun _ _ _ r h => by simp [debentureref01_Div.j0] at h, fun _ _ _ _ _ r h => by simp [debentureref01_Div.l0] at h, fun _ _ _ _ _ _ r h => by simp [debentureref01_Div.l1] at h⟩
  | k + 1 => by
    obtain ⟨ih0, ih1, ih2⟩ := debentureref01_Div.mono_l k
    refine ⟨?_, ?_, ?_⟩
    · intro y0 y1 y2
      unfold debentureref01_Div.j0
      repeat' first
      | (with_reducible exact ih0 _ _ _)
      | (with_reducible exact ih1 _ _ _ _ _)
      | (with_reducible exact ih2 _ _ _ _ _ _)
      | (with_reducible exact debentureref01_Cmp.mono _ _ _)
      | (with_reducible exact debentureref01_May.mono _ _)
      | (with_reducible exact debentureref01_Sub.mono _ _ _)
      | (with_reducible exact debentureref01_trim.mono _ _)
      | (with_reducible exact LeO.refl _)
      | (with_reducible exact LeO.none _)
      | (with_reducible refine LeO.ite ?_ ?_)
      | (with_reducible refine LeO.bind ?_ (fun _ => ?_))
      | exact ih0 _ _ _
      | exact ih1 _ _ _ _ _
      | exact ih2 _ _ _ _ _ _
      | exact debentureref01_Cmp.mono _ _ _
      | exact debentureref01_May.mono _ _
      | exact debentureref01_Sub.mono _ _ _
      | exact debentureref01_trim.mono _ _
      | exact LeO.none _
      | refine LeO.ite ?_ ?_
      | refine LeO.bind ?_ (fun _ => ?_)
    · intro y0 y1 y2 y3 y4
      unfold debentureref01_Div.l0
      repeat' first
      | (with_reducible exact ih0 _ _ _)
      | (with_reducible exact ih1 _ _ _ _ _)
      | (with_reducible exact ih2 _ _ _ _ _ _)
      | (with_reducible exact debentureref01_Cmp.mono _ _ _)
      | (with_reducible exact debentureref01_May.mono _ _)
      | (with_reducible exact debentureref01_Sub.mono _ _ _)
      | (with_reducible exact debentureref01_trim.mono _ _)
      | (with_reducible exact LeO.refl _)
      | (with_reducible exact LeO.none _)
      | (with_reducible refine LeO.ite ?_ ?_)
      | (with_reducible refine LeO.bind ?_ (fun _ => ?_))
      | exact ih0 _ _ _
      | exact ih1 _ _ _ _ _
      | exact ih2 _ _ _ _ _ _
      | exact debentureref01_Cmp.mono _ _ _
      | exact debentureref01_May.mono _ _
      | exact debentureref01_Sub.mono _ _ _
      | exact debentureref01_trim.mono _ _
      | exact LeO.none _
      | refine LeO.ite ?_ ?_
      | refine LeO.bind ?_ (fun _ => ?_)
    · intro y0 y1 y2 y3 y4 y5
      unfold debentureref01_Div.l1
      repeat' first
      | (with_reducible exact ih0 _ _ _)
      | (with_reducible exact ih1 _ _ _ _ _)
      | (with_reducible exact ih2 _ _ _ _ _ _)
      | (with_reducible exact debentureref01_Cmp.mono _ _ _)
      | (with_reducible exact debentureref01_May.mono _ _)
      | (with_reducible exact debentureref01_Sub.mono _ _ _)
      | (with_reducible exact debentureref01_trim.mono _ _)
      | (with_reducible exact LeO.refl _)
      | (with_reducible exact LeO.none _)
      | (with_reducible refine LeO.ite ?_ ?_)
      | (with_reducible refine LeO.bind ?_ (fun _ => ?_))
      | exact ih0 _ _ _
      | exact ih1 _ _ _ _ _
      | exact ih2 _ _ _ _ _ _
      | exact debentureref01_Cmp.mono _ _ _
      | exact debentureref01_May.mono _ _
      | exact debentureref01_Sub.mono _ _ _
      | exact debentureref01_trim.mono _ _
      | exact LeO.none _
      | refine LeO.ite ?_ ?_
      | refine LeO.bind ?_ (fun _ => ?_)
theorem debentureref01_Div.mono : ∀ a0 a1 k, LeO (debentureref01_Div.f k a0 a1) (debentureref01_Div.f (k + 1) a0 a1) := by
  intro a0 a1 k
  obtain ⟨ih0, ih1, ih2⟩ := debentureref01_Div.mono_l k
  unfold debentureref01_Div.f
  repeat' first
      | (with_reducible exact ih0 _ _ _)
      | (with_reducible exact ih1 _ _ _ _ _)
      | (with_reducible exact ih2 _ _ _ _ _ _)
      | (with_reducible exact debentureref01_Cmp.mono _ _ _)
      | (with_reducible exact debentureref01_May.mono _ _)
      | (with_reducible exact debentureref01_Sub.mono _ _ _)
      | (with_reducible exact debentureref01_trim.mono _ _)
      | (with_reducible exact LeO.refl _)
      | (with_reducible exact LeO.none _)
      | (with_reducible refine LeO.ite ?_ ?_)
      | (with_reducible refine LeO.bind ?_ (fun _ => ?_))
      | exact ih0 _ _ _
      | exact ih1 _ _ _ _ _
      | exact ih2 _ _ _ _ _ _
      | exact debentureref01_Cmp.mono _ _ _
      | exact debentureref01_May.mono _ _
      | exact debentureref01_Sub.mono _ _ _
      | exact debentureref01_trim.mono _ _
      | exact LeO.none _
      | refine LeO.ite ?_ ?_
      | refine LeO.bind ?_ (fun _ => ?_)
set_option maxHeartbeats 8000000 in
set_option maxRecDepth 100000 in
theorem debentureref01_Div.calls (k : Nat) (a0 : ByteArray) (a1 : ByteArray) (r1 : ByteArray) (r2 : ByteArray) (r3 : Bool) (w : World) (h : debentureref01_Div.f k a0 a1 = some (r1, r2, r3)) :
    Calls Tryd.prog 15 #[.string a0, .string a1] w fun e w' => e = .returned (.tuple #[.string r1, .string r2, .bool r3]) ∧ Below w.heap.size w w' := by
  have HB := Aside0.mk (Below.refl w.heap.size w)
  have H : ((debentureref01_May.f k a0).bind fun t140 => (if t140 = true then ((debentureref01_May.f k a1).bind fun t141 => (if t141 = true then (debentureref01_Div.j0 k a0 a1 (a1.toList == ([48] : List UInt8))) else (debentureref01_Div.j0 k a0 a1 true))) else (debentureref01_Div.j0 k a0 a1 true))) = some (r1, r2, r3) := h
  clear h
  have HC3 := Aside0.mk H
  clear H
  go_enter Tryd.func15, Tryd.ntmps15
  go_upto_region 1 with (fail)
  go_cut [24] (fun v24 wc => ∃ (kq : Nat) (x24_2 : Bool), v24 = .bool x24_2 ∧ Aside0 (debentureref01_Div.j0 kq a0 a1 x24_2 = some (r1, r2, r3)) ∧ Aside0 (kq ≤ k) ∧ Aside0 (Below w.heap.size w wc))
  case first =>
    have H := HC3.out
    clear HC3
    replace H := Option.bind_eq_some_iff.mp H
    obtain ⟨t140, A40, H⟩ := H
    replace H : (if t140 = true then ((debentureref01_May.f k a1).bind fun t141 => (if t141 = true then (debentureref01_Div.j0 k a0 a1 (a1.toList == ([48] : List UInt8))) else (debentureref01_Div.j0 k a0 a1 true))) else (debentureref01_Div.j0 k a0 a1 true)) = some (r1, r2, r3) := H
    have A4 := Aside0.mk A40
    clear A40
    by_cases c5 : t140 = true
    · subst c5
      have H1 : ((debentureref01_May.f k a1).bind fun t141 => (if t141 = true then (debentureref01_Div.j0 k a0 a1 (a1.toList == ([48] : List UInt8))) else (debentureref01_Div.j0 k a0 a1 true))) = some (r1, r2, r3) := by rw [if_pos rfl] at H; exact H
      clear H
      have H := H1
      clear H1
      replace H := Option.bind_eq_some_iff.mp H
      obtain ⟨t141, A60, H⟩ := H
      replace H : (if t141 = true then (debentureref01_Div.j0 k a0 a1 (a1.toList == ([48] : List UInt8))) else (debentureref01_Div.j0 k a0 a1 true)) = some (r1, r2, r3) := H
      have A6 := Aside0.mk A60
      clear A60
      by_cases c7 : t141 = true
      · subst c7
        have H1 : (debentureref01_Div.j0 k a0 a1 (a1.toList == ([48] : List UInt8))) = some (r1, r2, r3) := by rw [if_pos rfl] at H; exact H
        clear H
        have H := H1
        clear H1
        have H' := Aside0.mk H
        clear H
        go_wp2_with (first | ((with_reducible refine gate_callee (f := 19) rfl ?_); refine goesL_ (some 14) rfl rfl Tryd.func19 (by kernel_rfl) rfl #[.string a0] rfl (by (try simp only [List.map_toArray, List.map_cons, List.map_nil]); first | done | rfl | (simp only [List.length_drop, List.length_take]; rfl)) ?_; (with_reducible refine (debentureref01_May.calls k a0 true _ A4.out).mono ?_); rintro e w' ⟨rfl, ⟨nd, rfl⟩⟩; refine ⟨_, rfl, ?_⟩) | (go_at_call 19; (with_reducible refine (debentureref01_May.calls k a1 true _ A6.out).mono ?_); rintro e w' ⟨rfl, ⟨nd, rfl⟩⟩))
        go_meet
        case rel => exact ⟨_, ((a1.toList == ([48] : List UInt8))), (by first | rfl | (simp; done) | (simp [*]; done)), H', ⟨by first | omega | exact Nat.le_refl _⟩, ⟨by repeat (first | (with_reducible first | exact HB.out | apply below_alloc | apply pw_below_drewN | apply below_drew1) | exact HB.out)⟩⟩
      · replace c7 := Bool.eq_false_iff.mpr c7
        subst c7
        have H1 : (debentureref01_Div.j0 k a0 a1 true) = some (r1, r2, r3) := by rw [if_neg (show ¬ (false = true) by decide)] at H; exact H
        clear H
        have H := H1
        clear H1
        have H' := Aside0.mk H
        clear H
        go_wp2_with (first | ((with_reducible refine gate_callee (f := 19) rfl ?_); refine goesL_ (some 14) rfl rfl Tryd.func19 (by kernel_rfl) rfl #[.string a0] rfl (by (try simp only [List.map_toArray, List.map_cons, List.map_nil]); first | done | rfl | (simp only [List.length_drop, List.length_take]; rfl)) ?_; (with_reducible refine (debentureref01_May.calls k a0 true _ A4.out).mono ?_); rintro e w' ⟨rfl, ⟨nd, rfl⟩⟩; refine ⟨_, rfl, ?_⟩) | (go_at_call 19; (with_reducible refine (debentureref01_May.calls k a1 false _ A6.out).mono ?_); rintro e w' ⟨rfl, ⟨nd, rfl⟩⟩))
        go_meet
        case rel => exact ⟨_, (true), (by first | rfl | (simp; done) | (simp [*]; done)), H', ⟨by first | omega | exact Nat.le_refl _⟩, ⟨by repeat (first | (with_reducible first | exact HB.out | apply below_alloc | apply pw_below_drewN | apply below_drew1) | exact HB.out)⟩⟩
    · replace c5 := Bool.eq_false_iff.mpr c5
      subst c5
      have H1 : (debentureref01_Div.j0 k a0 a1 true) = some (r1, r2, r3) := by rw [if_neg (show ¬ (false = true) by decide)] at H; exact H
      clear H
      have H := H1
      clear H1
      have H' := Aside0.mk H
      clear H
      go_wp2_with (first | ((with_reducible refine gate_callee (f := 19) rfl ?_); refine goesL_ (some 14) rfl rfl Tryd.func19 (by kernel_rfl) rfl #[.string a0] rfl (by (try simp only [List.map_toArray, List.map_cons, List.map_nil]); first | done | rfl | (simp only [List.length_drop, List.length_take]; rfl)) ?_; (with_reducible refine (debentureref01_May.calls k a0 false _ A4.out).mono ?_); rintro e w' ⟨rfl, ⟨nd, rfl⟩⟩; refine ⟨_, rfl, ?_⟩))
      go_meet
      case rel => exact ⟨_, (true), (by first | rfl | (simp; done) | (simp [*]; done)), H', ⟨by first | omega | exact Nat.le_refl _⟩, ⟨by repeat (first | (with_reducible first | exact HB.out | apply below_alloc | apply pw_below_drewN | apply below_drew1) | exact HB.out)⟩⟩
  case rest =>
    clear HC3
    try clear c1
    try clear p2
    try clear c5
    try clear c7
    obtain ⟨kq, x24_2, rfl, HA, HJ2, HB⟩ := hcut
    cases kq with
    | zero => exact absurd HA.out (by simp [debentureref01_Div.j0])
    | succ kj2 =>
      have H := HA.out
      clear HA
      simp only [debentureref01_Div.j0] at H
      by_cases c8 : x24_2 = true
      · subst c8
        have H1 : (some ((⟨#[]⟩ : ByteArray), (⟨#[]⟩ : ByteArray), false)) = some (r1, r2, r3) := by rw [if_pos rfl] at H; exact H
        clear H
        have H := H1
        clear H1
        simp only [Option.some.injEq, Prod.mk.injEq] at H
        obtain ⟨rfl, rfl, rfl⟩ := H
        go_wp2
        go_ret3
        exact ⟨by first | rfl | (simp [errW_none, errW_some] <;> rfl) | (simp [*, errW_none, errW_some] <;> rfl), by repeat (first | (with_reducible first | exact HB.out | apply below_alloc | apply pw_below_drewN | apply below_drew1) | exact HB.out)⟩
      · replace c8 := Bool.eq_false_iff.mpr c8
        subst c8
        have H1 : (debentureref01_Div.l0 kj2 a0 a1 (⟨#[]⟩ : ByteArray) (⟨#[48]⟩ : ByteArray) 0) = some (r1, r2, r3) := by rw [if_neg (show ¬ (false = true) by decide)] at H; exact H
        clear H
        have H := H1
        clear H1
        have H' := Aside0.mk H
        clear H
        go_wp2
        go_loopg [7, 8, 9] kj2 (fun kq v7 v8 v9 w' => ∃ (x7_2 : ByteArray) (x8_2 : ByteArray) (x9_2 : Int), v7 = .string x7_2 ∧ v8 = .string x8_2 ∧ v9 = .int .i64 x9_2 ∧ Aside0 (debentureref01_Div.l0 kq a0 a1 x7_2 x8_2 x9_2 = some (r1, r2, r3)) ∧ Aside0 (kq ≤ kj2) ∧ Aside0 (Below w.heap.size w w'))
        case atStart => exact ⟨((⟨#[]⟩ : ByteArray)), ((⟨#[48]⟩ : ByteArray)), (0), (by first | rfl | (simp; done) | (simp [*]; done)), (by first | rfl | (simp; done) | (simp [*]; done)), (by first | rfl | (simp; done) | (simp [*]; done)), H', ⟨Nat.le_refl _⟩, ⟨by repeat (first | (with_reducible first | exact HB.out | apply below_alloc | apply pw_below_drewN | apply below_drew1) | exact HB.out)⟩⟩
        case round =>
          clear H'
          try clear c1
          try clear p2
          try clear c5
          try clear c7
          try clear c8
          try clear p2
          obtain ⟨x7_2, x8_2, x9_2, rfl, rfl, rfl, HA, HK2, HB⟩ := hrel
          cases gk with
          | zero => exact absurd HA.out (by simp [debentureref01_Div.l0])
          | succ k2 =>
            have H := HA.out
            clear HA
            simp only [debentureref01_Div.l0] at H
            by_cases c9 : x9_2 < (a0.size : Int)
            · rw [if_pos c9] at H
              have c9b0 : decide (x9_2 < (a0.size : Int)) = true := decide_eq_true c9
              clear c9
              by_cases c10 : 0 ≤ x9_2
              · rw [if_pos c10] at H
                have c10b0 := eq_true c10
                have c10b1 : decide (0 ≤ x9_2) = true := decide_eq_true c10
                clear c10
                by_cases c11 : x9_2 ≤ (wrap64 (x9_2 + 1))
                · rw [if_pos c11] at H
                  have c11b0 := eq_true c11
                  have c11b1 : decide (x9_2 ≤ (wrap64 (x9_2 + 1))) = true := decide_eq_true c11
                  have c11b1w : decide (x9_2 ≤ (IntKind.i64.wrap (x9_2 + 1))) = true := by simp only [i64_w]; exact c11b1
                  by_cases c12 : (wrap64 (x9_2 + 1)) ≤ (a0.size : Int)
                  · rw [if_pos c12] at H
                    have c12b0 := eq_true c12
                    have c12b1 : decide ((wrap64 (x9_2 + 1)) ≤ (a0.size : Int)) = true := decide_eq_true c12
                    have c12b1w : decide ((IntKind.i64.wrap (x9_2 + 1)) ≤ (a0.size : Int)) = true := by simp only [i64_w]; exact c12b1
                    by_cases c13 : x8_2.size + (a0.extract (x9_2 : Int).toNat ((wrap64 (x9_2 + 1)) : Int).toNat).size ≤ 9223372036854775807
                    · rw [if_pos c13] at H
                      have c13b0 := eq_true c13
                      have c13b1 : decide (x8_2.size + (a0.extract (x9_2 : Int).toNat ((wrap64 (x9_2 + 1)) : Int).toNat).size ≤ 9223372036854775807) = true := decide_eq_true c13
                      have c13b1w : decide (x8_2.size + (a0.extract (x9_2 : Int).toNat ((IntKind.i64.wrap (x9_2 + 1)) : Int).toNat).size ≤ 9223372036854775807) = true := by simp only [i64_w]; exact c13b1
                      try have c13b2 : (9223372036854775807 < x8_2.size + (a0.extract (x9_2 : Int).toNat ((wrap64 (x9_2 + 1)) : Int).toNat).size) = False := eq_false (Nat.not_lt.2 c13)
                      replace H := Option.bind_eq_some_iff.mp H
                      obtain ⟨t143, A140, H⟩ := H
                      replace H : (debentureref01_Div.l1 k2 a0 a1 x7_2 t143 x9_2 0) = some (r1, r2, r3) := H
                      have A14 := Aside0.mk A140
                      clear A140
                      have H' := Aside0.mk H
                      clear H
                      go_wp2_with (first | ((with_reducible refine gate_callee (f := 35) rfl ?_); refine goesL_ (some 38) rfl rfl Tryd.func35 (by kernel_rfl) rfl #[.string (x8_2 ++ (a0.extract (x9_2 : Int).toNat ((wrap64 (x9_2 + 1)) : Int).toNat))] rfl (by (try simp only [List.map_toArray, List.map_cons, List.map_nil]); first | done | rfl | (simp only [List.length_drop, List.length_take]; rfl)) ?_; (with_reducible refine (debentureref01_trim.calls k2 (x8_2 ++ (a0.extract (x9_2 : Int).toNat ((wrap64 (x9_2 + 1)) : Int).toNat)) t143 _ A14.out).mono ?_); rintro e w' ⟨rfl, ⟨nd, rfl⟩⟩; refine ⟨_, rfl, ?_⟩))
                      go_loopg [8, 10] k2 (fun kq v8 v10 w' => ∃ (x8_3 : ByteArray) (x10_3 : Int), v8 = .string x8_3 ∧ v10 = .int .i64 x10_3 ∧ Aside0 (debentureref01_Div.l1 kq a0 a1 x7_2 x8_3 x9_2 x10_3 = some (r1, r2, r3)) ∧ Aside0 (kq ≤ k2) ∧ Aside0 (Below w.heap.size w w'))
                      case atStart => exact ⟨(t143), (0), (by first | rfl | (simp; done) | (simp [*]; done)), (by first | rfl | (simp; done) | (simp [*]; done)), H', ⟨Nat.le_refl _⟩, ⟨by repeat (first | (with_reducible first | exact HB.out | apply below_alloc | apply pw_below_drewN | apply below_drew1) | exact HB.out)⟩⟩
                      case round =>
                        clear H'
                        try clear c1
                        try clear p2
                        try clear c3
                        try clear c5
                        try clear p6
                        try clear c7
                        try clear c8
                        try clear c9
                        try clear c9b0
                        try clear c10
                        try clear c10b0
                        try clear c10b1
                        try clear c11
                        try clear c11b0
                        try clear c11b1
                        try clear c12
                        try clear c12b0
                        try clear c12b1
                        try clear c13
                        try clear c13b0
                        try clear c13b1
                        try clear c13b2
                        try clear p2
                        obtain ⟨x8_3, x10_3, rfl, rfl, HA, HK3, HB⟩ := hrel
                        cases gk with
                        | zero => exact absurd HA.out (by simp [debentureref01_Div.l1])
                        | succ k3 =>
                          have H := HA.out
                          clear HA
                          simp only [debentureref01_Div.l1] at H
                          replace H := Option.bind_eq_some_iff.mp H
                          obtain ⟨t144, A150, H⟩ := H
                          replace H : (if t144 ≥ 0 then ((debentureref01_Sub.f k3 x8_3 a1).bind fun bt145 => (debentureref01_Div.l1 k3 a0 a1 x7_2 bt145.1 x9_2 (wrap64 (x10_3 + 1)))) else (if 0 ≤ x10_3 then (if x10_3 ≤ (wrap64 (x10_3 + 1)) then (if (wrap64 (x10_3 + 1)) ≤ 10 then (if x7_2.size + ((⟨#[48, 49, 50, 51, 52, 53, 54, 55, 56, 57]⟩ : ByteArray).extract (x10_3 : Int).toNat ((wrap64 (x10_3 + 1)) : Int).toNat).size ≤ 9223372036854775807 then (debentureref01_Div.l0 k3 a0 a1 (x7_2 ++ ((⟨#[48, 49, 50, 51, 52, 53, 54, 55, 56, 57]⟩ : ByteArray).extract (x10_3 : Int).toNat ((wrap64 (x10_3 + 1)) : Int).toNat)) x8_3 (wrap64 (x9_2 + 1))) else (none)) else (none)) else (none)) else (none))) = some (r1, r2, r3) := H
                          have A15 := Aside0.mk A150
                          clear A150
                          by_cases c16 : t144 ≥ 0
                          · rw [if_pos c16] at H
                            have c16b0 : decide (0 ≤ t144) = true := decide_eq_true c16
                            clear c16
                            replace H := Option.bind_eq_some_iff.mp H
                            obtain ⟨⟨t145, t146⟩, A170, H⟩ := H
                            replace H : (debentureref01_Div.l1 k3 a0 a1 x7_2 t145 x9_2 (wrap64 (x10_3 + 1))) = some (r1, r2, r3) := H
                            have A17 := Aside0.mk A170
                            clear A170
                            have H' := Aside0.mk H
                            clear H
                            go_wp2_with (first | ((with_reducible refine gate_callee (f := 23) rfl ?_); refine goesL_ (some 41) rfl rfl Tryd.func23 (by kernel_rfl) rfl #[.string x8_3, .string a1] rfl (by (try simp only [List.map_toArray, List.map_cons, List.map_nil]); first | done | rfl | (simp only [List.length_drop, List.length_take]; rfl)) ?_; (with_reducible refine (debentureref01_Cmp.calls k3 x8_3 a1 t144 _ A15.out).mono ?_); rintro e w' ⟨rfl, ⟨nd, rfl⟩⟩; refine ⟨_, rfl, ?_⟩) | ((with_reducible refine gate_callee (f := 13) rfl ?_); refine goesL_ (some 46) rfl rfl Tryd.func13 (by kernel_rfl) rfl #[.string x8_3, .string a1] rfl (by (try simp only [List.map_toArray, List.map_cons, List.map_nil]); first | done | rfl | (simp only [List.length_drop, List.length_take]; rfl)) ?_; (with_reducible refine (debentureref01_Sub.calls k3 x8_3 a1 t145 t146 _ A17.out).mono ?_); rintro e w18 ⟨rfl, hb⟩; refine ⟨_, rfl, ?_⟩; have n0_ := Aside0.mk (below_step (by repeat (first | (with_reducible first | exact HB.out | apply below_alloc | apply pw_below_drewN | apply below_drew1) | exact HB.out)) hb); clear HB; have HB := n0_; clear n0_; (try clear hb); (try clear hb2); (try clear hk); (try clear hi)))
                            go_roundg k3
                            case measure => have := HJ2.out; have := HK2.out; have := HK3.out; omega
                            case rel => exact ⟨(t145), (wrap64 (x10_3 + 1)), (by first | rfl | (simp; done) | (simp [*]; done)), (by first | rfl | (simp; done) | (simp [*]; done)), H', ⟨by have := HJ2.out; have := HK2.out; have := HK3.out; omega⟩, ⟨by repeat (first | (with_reducible first | exact HB.out | apply below_alloc | apply pw_below_drewN | apply below_drew1) | exact HB.out)⟩⟩
                          · rw [if_neg c16] at H
                            have c16b0 : decide (0 ≤ t144) = false := decide_eq_false c16
                            clear c16
                            by_cases c19 : 0 ≤ x10_3
                            · rw [if_pos c19] at H
                              have c19b0 := eq_true c19
                              have c19b1 : decide (0 ≤ x10_3) = true := decide_eq_true c19
                              clear c19
                              by_cases c20 : x10_3 ≤ (wrap64 (x10_3 + 1))
                              · rw [if_pos c20] at H
                                have c20b0 := eq_true c20
                                have c20b1 : decide (x10_3 ≤ (wrap64 (x10_3 + 1))) = true := decide_eq_true c20
                                have c20b1w : decide (x10_3 ≤ (IntKind.i64.wrap (x10_3 + 1))) = true := by simp only [i64_w]; exact c20b1
                                by_cases c21 : (wrap64 (x10_3 + 1)) ≤ 10
                                · rw [if_pos c21] at H
                                  have c21b0 := eq_true c21
                                  have c21b1 : decide ((wrap64 (x10_3 + 1)) ≤ 10) = true := decide_eq_true c21
                                  have c21b1w : decide ((IntKind.i64.wrap (x10_3 + 1)) ≤ 10) = true := by simp only [i64_w]; exact c21b1
                                  by_cases c22 : x7_2.size + ((⟨#[48, 49, 50, 51, 52, 53, 54, 55, 56, 57]⟩ : ByteArray).extract (x10_3 : Int).toNat ((wrap64 (x10_3 + 1)) : Int).toNat).size ≤ 9223372036854775807
                                  · rw [if_pos c22] at H
                                    have c22b0 := eq_true c22
                                    have c22b1 : decide (x7_2.size + ((⟨#[48, 49, 50, 51, 52, 53, 54, 55, 56, 57]⟩ : ByteArray).extract (x10_3 : Int).toNat ((wrap64 (x10_3 + 1)) : Int).toNat).size ≤ 9223372036854775807) = true := decide_eq_true c22
                                    have c22b1w : decide (x7_2.size + ((⟨#[48, 49, 50, 51, 52, 53, 54, 55, 56, 57]⟩ : ByteArray).extract (x10_3 : Int).toNat ((IntKind.i64.wrap (x10_3 + 1)) : Int).toNat).size ≤ 9223372036854775807) = true := by simp only [i64_w]; exact c22b1
                                    try have c22b2 : (9223372036854775807 < x7_2.size + ((⟨#[48, 49, 50, 51, 52, 53, 54, 55, 56, 57]⟩ : ByteArray).extract (x10_3 : Int).toNat ((wrap64 (x10_3 + 1)) : Int).toNat).size) = False := eq_false (Nat.not_lt.2 c22)
                                    have H' := Aside0.mk H
                                    clear H
                                    go_wp2_with (first | ((with_reducible refine gate_callee (f := 23) rfl ?_); refine goesL_ (some 41) rfl rfl Tryd.func23 (by kernel_rfl) rfl #[.string x8_3, .string a1] rfl (by (try simp only [List.map_toArray, List.map_cons, List.map_nil]); first | done | rfl | (simp only [List.length_drop, List.length_take]; rfl)) ?_; (with_reducible refine (debentureref01_Cmp.calls k3 x8_3 a1 t144 _ A15.out).mono ?_); rintro e w' ⟨rfl, ⟨nd, rfl⟩⟩; refine ⟨_, rfl, ?_⟩))
                                    go_roundg k3
                                    case measure => have := HJ2.out; have := HK2.out; have := HK3.out; omega
                                    case rel => exact ⟨(x7_2 ++ ((⟨#[48, 49, 50, 51, 52, 53, 54, 55, 56, 57]⟩ : ByteArray).extract (x10_3 : Int).toNat ((wrap64 (x10_3 + 1)) : Int).toNat)), (x8_3), (wrap64 (x9_2 + 1)), (by first | rfl | (simp; done) | (simp [*]; done)), (by first | rfl | (simp; done) | (simp [*]; done)), (by first | rfl | (simp; done) | (simp [*]; done)), H', ⟨by have := HJ2.out; have := HK2.out; have := HK3.out; omega⟩, ⟨by repeat (first | (with_reducible first | exact HB.out | apply below_alloc | apply pw_below_drewN | apply below_drew1) | exact HB.out)⟩⟩
                                  · rw [if_neg c22] at H
                                    exact absurd H (by simp)
                                · rw [if_neg c21] at H
                                  exact absurd H (by simp)
                              · rw [if_neg c20] at H
                                exact absurd H (by simp)
                            · rw [if_neg c19] at H
                              exact absurd H (by simp)
                    · rw [if_neg c13] at H
                      exact absurd H (by simp)
                  · rw [if_neg c12] at H
                    exact absurd H (by simp)
                · rw [if_neg c11] at H
                  exact absurd H (by simp)
              · rw [if_neg c10] at H
                exact absurd H (by simp)
            · rw [if_neg c9] at H
              have c9b0 : decide (x9_2 < (a0.size : Int)) = false := decide_eq_false c9
              clear c9
              replace H := Option.bind_eq_some_iff.mp H
              obtain ⟨t142, A230, H⟩ := H
              replace H : (some (t142, x8_2, true)) = some (r1, r2, r3) := H
              have A23 := Aside0.mk A230
              clear A230
              simp only [Option.some.injEq, Prod.mk.injEq] at H
              obtain ⟨rfl, rfl, rfl⟩ := H
              go_wp2_with (first | ((with_reducible refine gate_callee (f := 35) rfl ?_); refine goesL_ (some 59) rfl rfl Tryd.func35 (by kernel_rfl) rfl #[.string x7_2] rfl (by (try simp only [List.map_toArray, List.map_cons, List.map_nil]); first | done | rfl | (simp only [List.length_drop, List.length_take]; rfl)) ?_; (with_reducible refine (debentureref01_trim.calls k2 x7_2 t142 _ A23.out).mono ?_); rintro e w' ⟨rfl, ⟨nd, rfl⟩⟩; refine ⟨_, rfl, ?_⟩))
              go_ret3
              exact ⟨by first | rfl | (simp [errW_none, errW_some] <;> rfl) | (simp [*, errW_none, errW_some] <;> rfl), by repeat (first | (with_reducible first | exact HB.out | apply below_alloc | apply pw_below_drewN | apply below_drew1) | exact HB.out)⟩

/-! ### debentureref01_Gcd: function 29 -/
mutual
def debentureref01_Gcd.j0 : Nat → ByteArray → ByteArray → Bool → Option (ByteArray)
  | 0, _, _, _ => none
  | k + 1, x0, x1, x15 => if x15 = true then (some (⟨#[]⟩ : ByteArray)) else (debentureref01_Gcd.l0 k x0 x1)
def debentureref01_Gcd.l0 : Nat → ByteArray → ByteArray → Option (ByteArray)
  | 0, _, _ => none
  | k + 1, x0, x1 => if x1.toList = ([48] : List UInt8) then (some x0) else ((debentureref01_Div.f k x0 x1).bind fun bt149 => (debentureref01_Gcd.l0 k x1 bt149.2.1))
end
def debentureref01_Gcd.f (k : Nat) (a0 : ByteArray) (a1 : ByteArray) : Option (ByteArray) := (debentureref01_May.f k a0).bind fun t147 => (if t147 = true then ((debentureref01_May.f k a1).bind fun t148 => (debentureref01_Gcd.j0 k a0 a1 (!t148))) else (debentureref01_Gcd.j0 k a0 a1 true))
theorem debentureref01_Gcd.mono_l : ∀ k, (∀ y0 y1 y2, LeO (debentureref01_Gcd.j0 k y0 y1 y2) (debentureref01_Gcd.j0 (k + 1) y0 y1 y2)) ∧ (∀ y0 y1, LeO (debentureref01_Gcd.l0 k y0 y1) (debentureref01_Gcd.l0 (k + 1) y0 y1))
  | 0 => ⟨fun _ _ _ r h => by simp [debentureref01_Gcd.j0] at h, fun _ _ r h => by simp [debentureref01_Gcd.l0] at h⟩
  | k + 1 => by
    obtain ⟨ih0, ih1⟩ := debentureref01_Gcd.mono_l k
    refine ⟨?_, ?_⟩
    · intro y0 y1 y2
      unfold debentureref01_Gcd.j0
      repeat' first
      | (with_reducible exact ih0 _ _ _)
      | (with_reducible exact ih1 _ _)
      | (with_reducible exact debentureref01_Div.mono _ _ _)
      | (with_reducible exact debentureref01_May.mono _ _)
      | (with_reducible exact LeO.refl _)
      | (with_reducible exact LeO.none _)
      | (with_reducible refine LeO.ite ?_ ?_)
      | (with_reducible refine LeO.bind ?_ (fun _ => ?_))
      | exact ih0 _ _ _
      | exact ih1 _ _
      | exact debentureref01_Div.mono _ _ _
      | exact debentureref01_May.mono _ _
      | exact LeO.none _
      | refine LeO.ite ?_ ?_
      | refine LeO.bind ?_ (fun _ => ?_)
    · intro y0 y1
      unfold debentureref01_Gcd.l0
      repeat' first
      | (with_reducible exact ih0 _ _ _)
      | (with_reducible exact ih1 _ _)
      | (with_reducible exact debentureref01_Div.mono _ _ _)
      | (with_reducible exact debentureref01_May.mono _ _)
      | (with_reducible exact LeO.refl _)
      | (with_reducible exact LeO.none _)
      | (with_reducible refine LeO.ite ?_ ?_)
      | (with_reducible refine LeO.bind ?_ (fun _ => ?_))
      | exact ih0 _ _ _
      | exact ih1 _ _
      | exact debentureref01_Div.mono _ _ _
      | exact debentureref01_May.mono _ _
      | exact LeO.none _
      | refine LeO.ite ?_ ?_
      | refine LeO.bind ?_ (fun _ => ?_)
theorem debentureref01_Gcd.mono : ∀ a0 a1 k, LeO (debentureref01_Gcd.f k a0 a1) (debentureref01_Gcd.f (k + 1) a0 a1) := by
  intro a0 a1 k
  obtain ⟨ih0, ih1⟩ := debentureref01_Gcd.mono_l k
  unfold debentureref01_Gcd.f
  repeat' first
      | (with_reducible exact ih0 _ _ _)
      | (with_reducible exact ih1 _ _)
      | (with_reducible exact debentureref01_Div.mono _ _ _)
      | (with_reducible exact debentureref01_May.mono _ _)
      | (with_reducible exact LeO.refl _)
      | (with_reducible exact LeO.none _)
      | (with_reducible refine LeO.ite ?_ ?_)
      | (with_reducible refine LeO.bind ?_ (fun _ => ?_))
      | exact ih0 _ _ _
      | exact ih1 _ _
      | exact debentureref01_Div.mono _ _ _
      | exact debentureref01_May.mono _ _
      | exact LeO.none _
      | refine LeO.ite ?_ ?_
      | refine LeO.bind ?_ (fun _ => ?_)
set_option maxHeartbeats 8000000 in
set_option maxRecDepth 100000 in
theorem debentureref01_Gcd.calls (k : Nat) (a0 : ByteArray) (a1 : ByteArray) (r : ByteArray) (w : World) (h : debentureref01_Gcd.f k a0 a1 = some r) :
    Calls Tryd.prog 29 #[.string a0, .string a1] w fun e w' => e = .returned (.string r) ∧ Below w.heap.size w w' := by
  have HB := Aside0.mk (Below.refl w.heap.size w)
  have H : ((debentureref01_May.f k a0).bind fun t147 => (if t147 = true then ((debentureref01_May.f k a1).bind fun t148 => (debentureref01_Gcd.j0 k a0 a1 (!t148))) else (debentureref01_Gcd.j0 k a0 a1 true))) = some r := h
  clear h
  have HC3 := Aside0.mk H
  clear H
  go_enter Tryd.func29, Tryd.ntmps29
  go_upto_region 1 with (fail)
  go_cut [15] (fun v15 wc => ∃ (kq : Nat) (x15_2 : Bool), v15 = .bool x15_2 ∧ Aside0 (debentureref01_Gcd.j0 kq a0 a1 x15_2 = some r) ∧ Aside0 (kq ≤ k) ∧ Aside0 (Below w.heap.size w wc))
  case first =>
    have H := HC3.out
    clear HC3
    replace H := Option.bind_eq_some_iff.mp H
    obtain ⟨t147, A40, H⟩ := H
    replace H : (if t147 = true then ((debentureref01_May.f k a1).bind fun t148 => (debentureref01_Gcd.j0 k a0 a1 (!t148))) else (debentureref01_Gcd.j0 k a0 a1 true)) = some r := H
    have A4 := Aside0.mk A40
    clear A40
    by_cases c5 : t147 = true
    · subst c5
      have H1 : ((debentureref01_May.f k a1).bind fun t148 => (debentureref01_Gcd.j0 k a0 a1 (!t148))) = some r := by rw [if_pos rfl] at H; exact H
      clear H
      have H := H1
      clear H1
      replace H := Option.bind_eq_some_iff.mp H
      obtain ⟨t148, A60, H⟩ := H
      replace H : (debentureref01_Gcd.j0 k a0 a1 (!t148)) = some r := H
      have A6 := Aside0.mk A60
      clear A60
      have H' := Aside0.mk H
      clear H
      go_wp2_with (first | ((with_reducible refine gate_callee (f := 19) rfl ?_); refine goesL_ (some 9) rfl rfl Tryd.func19 (by kernel_rfl) rfl #[.string a0] rfl (by (try simp only [List.map_toArray, List.map_cons, List.map_nil]); first | done | rfl | (simp only [List.length_drop, List.length_take]; rfl)) ?_; (with_reducible refine (debentureref01_May.calls k a0 true _ A4.out).mono ?_); rintro e w' ⟨rfl, ⟨nd, rfl⟩⟩; refine ⟨_, rfl, ?_⟩) | (go_at_call 19; (with_reducible refine (debentureref01_May.calls k a1 t148 _ A6.out).mono ?_); rintro e w' ⟨rfl, ⟨nd, rfl⟩⟩))
      go_meet
      case rel => exact ⟨_, (!t148), (by first | rfl | (simp; done) | (simp [*]; done)), H', ⟨by first | omega | exact Nat.le_refl _⟩, ⟨by repeat (first | (with_reducible first | exact HB.out | apply below_alloc | apply pw_below_drewN | apply below_drew1) | exact HB.out)⟩⟩
    · replace c5 := Bool.eq_false_iff.mpr c5
      subst c5
      have H1 : (debentureref01_Gcd.j0 k a0 a1 true) = some r := by rw [if_neg (show ¬ (false = true) by decide)] at H; exact H
      clear H
      have H := H1
      clear H1
      have H' := Aside0.mk H
      clear H
      go_wp2_with (first | ((with_reducible refine gate_callee (f := 19) rfl ?_); refine goesL_ (some 9) rfl rfl Tryd.func19 (by kernel_rfl) rfl #[.string a0] rfl (by (try simp only [List.map_toArray, List.map_cons, List.map_nil]); first | done | rfl | (simp only [List.length_drop, List.length_take]; rfl)) ?_; (with_reducible refine (debentureref01_May.calls k a0 false _ A4.out).mono ?_); rintro e w' ⟨rfl, ⟨nd, rfl⟩⟩; refine ⟨_, rfl, ?_⟩))
      go_meet
      case rel => exact ⟨_, (true), (by first | rfl | (simp; done) | (simp [*]; done)), H', ⟨by first | omega | exact Nat.le_refl _⟩, ⟨by repeat (first | (with_reducible first | exact HB.out | apply below_alloc | apply pw_below_drewN | apply below_drew1) | exact HB.out)⟩⟩
  case rest =>
    clear HC3
    try clear c1
    try clear c2
    try clear p2
    try clear c5
    obtain ⟨kq, x15_2, rfl, HA, HJ2, HB⟩ := hcut
    cases kq with
    | zero => exact absurd HA.out (by simp [debentureref01_Gcd.j0])
    | succ kj2 =>
      have H := HA.out
      clear HA
      simp only [debentureref01_Gcd.j0] at H
      by_cases c7 : x15_2 = true
      · subst c7
        have H1 : (some (⟨#[]⟩ : ByteArray)) = some r := by rw [if_pos rfl] at H; exact H
        clear H
        have H := H1
        clear H1
        obtain rfl := Option.some.inj H
        go_wp2
        go_ret
        exact ⟨by first | rfl | (simp [errW_none, errW_some] <;> rfl) | (simp [*, errW_none, errW_some] <;> rfl), by repeat (first | (with_reducible first | exact HB.out | apply below_alloc | apply pw_below_drewN | apply below_drew1) | exact HB.out)⟩
      · replace c7 := Bool.eq_false_iff.mpr c7
        subst c7
        have H1 : (debentureref01_Gcd.l0 kj2 a0 a1) = some r := by rw [if_neg (show ¬ (false = true) by decide)] at H; exact H
        clear H
        have H := H1
        clear H1
        have H' := Aside0.mk H
        clear H
        go_wp2
        go_loopg [0, 1] kj2 (fun kq v0 v1 w' => ∃ (x0_2 : ByteArray) (x1_2 : ByteArray), v0 = .string x0_2 ∧ v1 = .string x1_2 ∧ Aside0 (debentureref01_Gcd.l0 kq x0_2 x1_2 = some r) ∧ Aside0 (kq ≤ kj2) ∧ Aside0 (Below w.heap.size w w'))
        case atStart => exact ⟨(a0), (a1), (by first | rfl | (simp; done) | (simp [*]; done)), (by first | rfl | (simp; done) | (simp [*]; done)), H', ⟨Nat.le_refl _⟩, ⟨by repeat (first | (with_reducible first | exact HB.out | apply below_alloc | apply pw_below_drewN | apply below_drew1) | exact HB.out)⟩⟩
        case round =>
          clear H'
          try clear c1
          try clear c2
          try clear p2
          try clear c5
          try clear c7
          try clear p2
          obtain ⟨x0_2, x1_2, rfl, rfl, HA, HK2, HB⟩ := hrel
          cases gk with
          | zero => exact absurd HA.out (by simp [debentureref01_Gcd.l0])
          | succ k2 =>
            have H := HA.out
            clear HA
            simp only [debentureref01_Gcd.l0] at H
            by_cases c8 : x1_2.toList = ([48] : List UInt8)
            · rw [if_pos c8] at H
              have c8b0 : (x1_2.toList == ([48] : List UInt8)) = true := beq_iff_eq.mpr c8
              have c8b1 : (x1_2.toList != ([48] : List UInt8)) = false := bne_eq_false_iff_eq.mpr c8
              clear c8
              obtain rfl := Option.some.inj H
              go_wp2
              go_ret
              exact ⟨by first | rfl | (simp [errW_none, errW_some] <;> rfl) | (simp [*, errW_none, errW_some] <;> rfl), by repeat (first | (with_reducible first | exact HB.out | apply below_alloc | apply pw_below_drewN | apply below_drew1) | exact HB.out)⟩
            · rw [if_neg c8] at H
              have c8b0 : (x1_2.toList == ([48] : List UInt8)) = false := beq_eq_false_iff_ne.mpr c8
              have c8b1 : (x1_2.toList != ([48] : List UInt8)) = true := bne_iff_ne.mpr c8
              replace H := Option.bind_eq_some_iff.mp H
              obtain ⟨⟨t149, t150, t151⟩, A90, H⟩ := H
              replace H : (debentureref01_Gcd.l0 k2 x1_2 t150) = some r := H
              have A9 := Aside0.mk A90
              clear A90
              have H' := Aside0.mk H
              clear H
              go_wp2_with (first | ((with_reducible refine gate_callee (f := 15) rfl ?_); refine goesL_ (some 21) rfl rfl Tryd.func15 (by kernel_rfl) rfl #[.string x0_2, .string x1_2] rfl (by (try simp only [List.map_toArray, List.map_cons, List.map_nil]); first | done | rfl | (simp only [List.length_drop, List.length_take]; rfl)) ?_; (with_reducible refine (debentureref01_Div.calls k2 x0_2 x1_2 t149 t150 t151 _ A9.out).mono ?_); rintro e w10 ⟨rfl, hb⟩; refine ⟨_, rfl, ?_⟩; have n0_ := Aside0.mk (below_step (by repeat (first | (with_reducible first | exact HB.out | apply below_alloc | apply pw_below_drewN | apply below_drew1) | exact HB.out)) hb); clear HB; have HB := n0_; clear n0_; (try clear hb); (try clear hb2); (try clear hk); (try clear hi)))
              go_roundg k2
              case measure => have := HJ2.out; have := HK2.out; omega
              case rel => exact ⟨(x1_2), (t150), (by first | rfl | (simp; done) | (simp [*]; done)), (by first | rfl | (simp; done) | (simp [*]; done)), H', ⟨by have := HJ2.out; have := HK2.out; omega⟩, ⟨by repeat (first | (with_reducible first | exact HB.out | apply below_alloc | apply pw_below_drewN | apply below_drew1) | exact HB.out)⟩⟩

/-! ### debentureref01_Short: function 10 -/
def debentureref01_Short.l0 : Nat → List ByteArray → Int → Option (Bool)
  | 0, _, _ => none
  | k + 1, x0, x3 => if x3 < (x0.length : Int) then (if 0 ≤ x3 then (if ((rdOf ByteArray.empty x0 x3).size : Int) > 200 then (some false) else (debentureref01_Short.l0 k x0 (wrap64 (x3 + 1)))) else (none)) else (some true)
def debentureref01_Short.f (k : Nat) (l0 : List ByteArray) : Option (Bool) := debentureref01_Short.l0 k l0 0
theorem debentureref01_Short.mono_l : ∀ k, (∀ y0 y1, LeO (debentureref01_Short.l0 k y0 y1) (debentureref01_Short.l0 (k + 1) y0 y1))
  | 0 => fun _ _ r h => by simp [debentureref01_Short.l0] at h
  | k + 1 => by
    have ih0 := debentureref01_Short.mono_l k
    · intro y0 y1
      unfold debentureref01_Short.l0
      repeat' first
      | (with_reducible exact ih0 _ _)
      | (with_reducible exact LeO.refl _)
      | (with_reducible exact LeO.none _)
      | (with_reducible refine LeO.ite ?_ ?_)
      | (with_reducible refine LeO.bind ?_ (fun _ => ?_))
      | exact ih0 _ _
      | exact LeO.none _
      | refine LeO.ite ?_ ?_
      | refine LeO.bind ?_ (fun _ => ?_)
theorem debentureref01_Short.mono : ∀ a0 k, LeO (debentureref01_Short.f k a0) (debentureref01_Short.f (k + 1) a0) := by
  intro a0 k
  have ih0 := debentureref01_Short.mono_l k
  unfold debentureref01_Short.f
  repeat' first
      | (with_reducible exact ih0 _ _)
      | (with_reducible exact LeO.refl _)
      | (with_reducible exact LeO.none _)
      | (with_reducible refine LeO.ite ?_ ?_)
      | (with_reducible refine LeO.bind ?_ (fun _ => ?_))
      | exact ih0 _ _
      | exact LeO.none _
      | refine LeO.ite ?_ ?_
      | refine LeO.bind ?_ (fun _ => ?_)
set_option maxHeartbeats 8000000 in
set_option maxRecDepth 100000 in
theorem debentureref01_Short.calls (k : Nat) (A0 : Option Addr) (c0 : Nat) (l0 : List ByteArray) (r : Bool) (w : World) (hr0 : Kd.C Kd.string w A0 l0.length l0) (hc0 : l0.length ≤ c0) (h : debentureref01_Short.f k l0 = some r) :
    Calls Tryd.prog 10 #[.slice A0 l0.length c0] w fun e w' => e = .returned (.bool r) ∧ Drawn0 w w' := by
  have HR0 := Aside0.mk hr0
  have HC0 := Aside0.mk hc0
  clear hr0 hc0
  have H : (debentureref01_Short.l0 k l0 0) = some r := h
  clear h
  have H' := Aside0.mk H
  clear H
  go_enter Tryd.func10, Tryd.ntmps10
  go_wp2
  go_loopg [3] k (fun kq v3 w' => ∃ (x3_1 : Int), v3 = .int .i64 x3_1 ∧ Aside0 (debentureref01_Short.l0 kq l0 x3_1 = some r) ∧ Aside0 (kq ≤ k) ∧ Drawn0 w w')
  case atStart => exact ⟨(0), (by first | rfl | (simp; done) | (simp [*]; done)), H', ⟨Nat.le_refl _⟩, by repeat (first | exact Drawn0.refl _ | apply Drawn0.step)⟩
  case round =>
    clear H'
    try clear c1
    obtain ⟨x3_1, rfl, HA, HK1, ⟨m1, rfl⟩⟩ := hrel
    cases gk with
    | zero => exact absurd HA.out (by simp [debentureref01_Short.l0])
    | succ k1 =>
      have H := HA.out
      clear HA
      simp only [debentureref01_Short.l0] at H
      by_cases c2 : x3_1 < (l0.length : Int)
      · rw [if_pos c2] at H
        have c2b0 : decide (x3_1 < (l0.length : Int)) = true := decide_eq_true c2
        clear c2
        by_cases c3 : 0 ≤ x3_1
        · rw [if_pos c3] at H
          have c3b0 : decide (0 ≤ x3_1) = true := decide_eq_true c3
          clear c3
          by_cases c4 : ((rdOf ByteArray.empty l0 x3_1).size : Int) > 200
          · rw [if_pos c4] at H
            have c4b0 : decide (200 < ((rdOf ByteArray.empty l0 x3_1).size : Int)) = true := decide_eq_true c4
            have c4b1 : decide (200 < (rdOf ByteArray.empty l0 x3_1).size) = true := decide_eq_true (by omega)
            clear c4
            obtain rfl := Option.some.inj H
            have p152 : 0 ≤ (x3_1 : Int) := of_decide_eq_true (by first | (with_reducible assumption) | assumption)
            have q152 : x3_1 < (l0.length : Int) := of_decide_eq_true (by first | (with_reducible assumption) | assumption)
            obtain ⟨ad152, e152, hx152_0⟩ := Kd.at_string HR0.out x3_1 p152 q152
            cases e152
            replace p152 := eq_true p152
            replace q152 := eq_true q152
            go_wp2
            go_ret
            exact ⟨by first | rfl | (simp; done) | (simp [*]; done), by repeat (first | exact Drawn0.refl _ | apply Drawn0.step)⟩
          · rw [if_neg c4] at H
            have c4b0 : decide (200 < ((rdOf ByteArray.empty l0 x3_1).size : Int)) = false := decide_eq_false c4
            have c4b1 : decide (200 < (rdOf ByteArray.empty l0 x3_1).size) = false := decide_eq_false (by omega)
            clear c4
            have H' := Aside0.mk H
            clear H
            have p152 : 0 ≤ (x3_1 : Int) := of_decide_eq_true (by first | (with_reducible assumption) | assumption)
            have q152 : x3_1 < (l0.length : Int) := of_decide_eq_true (by first | (with_reducible assumption) | assumption)
            obtain ⟨ad152, e152, hx152_0⟩ := Kd.at_string HR0.out x3_1 p152 q152
            cases e152
            replace p152 := eq_true p152
            replace q152 := eq_true q152
            go_wp2
            go_roundg k1
            case measure => have := HK1.out; omega
            case rel => exact ⟨(wrap64 (x3_1 + 1)), (by first | rfl | (simp; done) | (simp [*]; done)), H', ⟨by have := HK1.out; omega⟩, by repeat (first | exact Drawn0.refl _ | apply Drawn0.step)⟩
        · rw [if_neg c3] at H
          exact absurd H (by simp)
      · rw [if_neg c2] at H
        have c2b0 : decide (x3_1 < (l0.length : Int)) = false := decide_eq_false c2
        clear c2
        obtain rfl := Option.some.inj H
        go_wp2
        go_ret
        exact ⟨by first | rfl | (simp; done) | (simp [*]; done), by repeat (first | exact Drawn0.refl _ | apply Drawn0.step)⟩

end Go.Proofs.YtmcpiejgneegjaaDoor.Pq

end

/-
nat.compare: the order of two rows of limbs: by how many they are, then by the highest ones that differ.
-/
section
set_option linter.unusedVariables false
namespace Go.Proofs.YtmcpiejgneegjaaDoor
open Go.RowKit Go.Shelf Go.Proofs.YtmcpiejgneegjaaDoorW.PrintWords Go.Proofs.YtmcpiejgneegjaaDoorW.PrintLast Go.Proofs.YtmcpiejgneegjaaDoorW.PrintMore
attribute [local go_sem] Oper.semAt_some

/-- The order of the first k limbs, the highest ones first. -/
def cmpK (l0 l1 : List Int) : Nat → Int
  | 0 => 0
  | k + 1 => if limb l0 k = limb l1 k then cmpK l0 l1 k else Lib.compareInt (limb l0 k) (limb l1 k)
def cmpL (l0 l1 : List Int) : Int := if l0.length = l1.length then cmpK l0 l1 l0.length else Lib.compareInt l0.length l1.length

theorem cmpK_skip (l0 l1 : List Int) (n k : Nat) (hk : k ≤ n) (h : ∀ j, k ≤ j → j < n → limb l0 j = limb l1 j) : cmpK l0 l1 n = cmpK l0 l1 k := by
  induction n with
  | zero => obtain rfl : k = 0 := by omega
            rfl
  | succ n ih =>
    by_cases e : k = n + 1
    · rw [e]
    · simp only [cmpK]
      rw [if_pos (h n (by omega) (by omega))]
      exact ih (by omega) (fun j h1 h2 => h j h1 (by omega))

theorem upto_mem {n k j : Nat} (h : j ∈ upto n k) : n - k ≤ j := by
  simp only [upto, List.mem_map, List.mem_range] at h
  obtain ⟨a, h1, rfl⟩ := h
  omega
theorem upto_has {n k j : Nat} (h1 : n - k ≤ j) (h2 : j < n) : j ∈ upto n k := by
  simp only [upto, List.mem_map, List.mem_range]
  exact ⟨n - 1 - j, by omega, by omega⟩

/-- All that came is the same: so is the order of all. -/
theorem cmp_done {l0 l1 : List Int} {ys : List (Fin l0.length)} (hlen : l0.length = l1.length) (hy : ys.map Fin.val = upto l0.length l0.length) (h : ∀ x ∈ ys, limb l0 x.val = limb l1 x.val) : cmpL l0 l1 = 0 := by
  unfold cmpL
  rw [if_pos hlen]
  exact cmpK_skip l0 l1 l0.length 0 (by omega) (fun j _ hj => by
    have hm : j ∈ ys.map Fin.val := by rw [hy]; exact upto_has (by omega) hj
    obtain ⟨x, hx, rfl⟩ := List.mem_map.1 hm
    exact h x hx)
/-- The last that came differs. -/
theorem cmp_stop {l0 l1 : List Int} {ini : List (Fin l0.length)} {last : Fin l0.length} {k : Nat} (hlen : l0.length = l1.length) (hk : k ≤ l0.length) (hy : (ini ++ [last]).map Fin.val = upto l0.length k) (h : ∀ x ∈ ini, limb l0 x.val = limb l1 x.val) (hd : limb l0 last.val ≠ limb l1 last.val) :
    cmpL l0 l1 = Lib.compareInt (limb l0 last.val) (limb l1 last.val) := by
  obtain ⟨k', rfl⟩ : ∃ k', k = k' + 1 := by
    cases k with
    | zero => simp [upto] at hy
    | succ k' => exact ⟨k', rfl⟩
  rw [List.map_append, upto_succ] at hy
  obtain ⟨e1, e2⟩ := List.append_inj' hy rfl
  have e3 : last.val = l0.length - 1 - k' := by simpa using e2
  unfold cmpL
  rw [if_pos hlen, cmpK_skip l0 l1 l0.length (last.val + 1) (by omega) (fun j h1 h2 => by
    have hm : j ∈ ini.map Fin.val := by rw [e1]; exact upto_has (by omega) h2
    obtain ⟨x, hx, rfl⟩ := List.mem_map.1 hm
    exact h x hx)]
  simp only [cmpK]
  rw [if_neg hd]

set_option maxRecDepth 100000 in
set_option maxHeartbeats 2000000 in
theorem compare_eq
    (A0 A1 : Option Addr) (c0 c1 : Nat) (l0 l1 : List Int) (hreach : l0.length ≤ 9223372036854775807) (hlen : l0.length = l1.length) (w : World) (hI : IntsAt w.heap.size w (.slice A0 l0.length c0) l0) (hI1 : IntsAt w.heap.size w (.slice A1 l1.length c1) l1) :
    Calls Tryd.prog 31 #[.slice A0 l0.length c0, .slice A1 l1.length c1] w fun e W' => e = .returned (.int .i64 (cmpL l0 l1)) ∧ Below w.heap.size w W' := by
  have hdec : ((l0.length : Int) != (l1.length : Int)) = false := by rw [bne_eq_false_iff_eq]; omega
  have HLEN := Lib.hid hlen
  clear hlen
  refine (callsIn_wide (n := 3)).1 ?_
  refine callsIn_of_wp_marks Tryd.func31 rfl trivial ?_ rfl
  simp only [Tryd.ntmps31, List.size_toArray, List.length_cons, List.length_nil, Nat.reduceAdd, Nat.reduceSub, Array.replicate_succ, Array.replicate_zero, List.push_toArray, List.append_toArray, List.nil_append, List.cons_append]
  gi_wp2_with (refine ⟨trivial, ?_⟩; gi_at_call 42; refine (backward_in Fence.wide _ trivial rfl _ _ _ _).mono ?_; rintro e w' ⟨rfl, rfl⟩)
  have bS := Boxed.new w 41 (.slice A1 l1.length c1)
  have bR := Boxed.new (w.alloc (.cells #[.slice A1 l1.length c1] 41)) 3 (.int .i64 0)
  have bN := Boxed.new ((w.alloc (.cells #[.slice A1 l1.length c1] 41)).alloc (.cells #[.int .i64 0] 3)) 41 (.slice A0 l0.length c0)
  rw [World.size_alloc] at bR
  rw [World.size_alloc, World.size_alloc] at bN
  have hB0 : Below w.heap.size w (((w.alloc (.cells #[.slice A1 l1.length c1] 41)).alloc (.cells #[.int .i64 0] 3)).alloc (.cells #[.slice A0 l0.length c0] 41)) := (((Below.refl _ w).alloc (Nat.le_refl _) _).alloc (by simp) _).alloc (by simp; omega) _
  refine wpIn_rangeFunc_ownG rfl (by omega) (gf := 55) (lb := #[.pointer (some ⟨w.heap.size + 1 + 1, 0, none⟩)]) rfl trivial (enters_of Tryd.func55 (by kernel_rfl) rfl)
    (back_stops Fence.wide _ trivial rfl (by omega) (w.heap.size + 1 + 1) w.heap.size _ l0 hreach _ (by simp) (by simp; omega) bN.cell (hI.below hB0)) KeepB.trans (KeepB.putObj (by simp; omega) (by simp)) (Below.refl _ _) (fun _ => rfl)
    (fun pre W => ((∀ x ∈ pre, limb l0 x.val = limb l1 x.val) ∧ (W.cell? ⟨w.heap.size, 0, none⟩ = some (.slice A1 l1.length c1)) ∧ W.cell? ⟨w.heap.size + 1, 0, none⟩ = some (.int .i64 0) ∧ W.frozen? ⟨w.heap.size + 1, 0, none⟩ = false) ∧ Below w.heap.size w W)
    (fun c pre W => (c = .ret ∧ ∃ ini last, pre = ini ++ [last] ∧ (∀ x ∈ ini, limb l0 x.val = limb l1 x.val) ∧ limb l0 last.val ≠ limb l1 last.val ∧ W.cell? ⟨w.heap.size + 1, 0, none⟩ = some (.int .i64 (Lib.compareInt (limb l0 last.val) (limb l1 last.val)))) ∧ Below w.heap.size w W)
    (OwnFrom.and (Own.from (fun s A B row hs hg hr => ⟨hs.1, cell_kept hs.2.1 hg hr, cell_kept hs.2.2.1 hg hr, (frozen_kept hs.2.2.1 hg hr).trans hs.2.2.2⟩) _) (ownFrom_below (Nat.le_refl _) (by simp; omega)))
    (fun c => OwnFrom.and (Own.from (fun s A B row hs hg hr => by obtain ⟨hc, ini, last, e1, e2, e3, e4⟩ := hs; exact ⟨hc, ini, last, e1, e2, e3, cell_kept e4 hg hr⟩) _) (ownFrom_below (Nat.le_refl _) (by simp; omega)))
    ⟨⟨by simp, ((bS.alloc _).alloc _).cell, (bR.alloc _).cell, (bR.alloc _).frozen⟩, hB0⟩
    (fun x => { tmps := #[.slice A0 l0.length c0, .slice A1 l1.length c1, undef, .pointer (some ⟨w.heap.size, 0, none⟩), .pointer (some ⟨w.heap.size + 1, 0, none⟩), .int .i64 (x.val : Int), .int .i64 (limb l0 x.val), .slice A0 l0.length c0, .int .i64 l0.length, .slice A1 l1.length c1, .int .i64 l1.length, .bool false, undef, undef, undef, undef, undef, .slice A0 l0.length c0, .func (.func 55) #[] #[.pointer (some ⟨w.heap.size + 1 + 1, 0, none⟩)], .int .i64 (x.val : Int), .int .i64 (limb l0 x.val), undef, undef, undef, undef, undef, undef, undef, undef, undef, undef, undef, undef], defers := [] }) ?assign ?body ?done ?stop
  case assign =>
    intro l x W K hK
    dsimp only [item]
    gi_wp2
    exact hK
  case body =>
    rintro l pre x W ⟨⟨hp, hcs, hcr, hfr⟩, hB⟩ _
    obtain ⟨A1', cap1, e1, hI1'⟩ := hI1
    have hx0 := x.isLt
    have hx1 : x.val < l1.length := by have := HLEN.out; omega
    obtain ⟨ad1, rfl, hb1, hc1⟩ := hI1' (by omega)
    injection e1 with e1 _ ec
    subst e1
    subst ec
    have hcx : W.cell? (ad1.add x.val) = some (.int .i64 (limb l1 x.val)) := (hB.cell (p := ad1.add x.val) (by rw [blk_add]; exact hb1)).trans (hc1 x.val hx1)
    clear hI1' hc1 hI
    by_cases hd : limb l0 x.val = limb l1 x.val
    · have hdb : (limb l0 x.val != limb l1 x.val) = false := by rw [bne_eq_false_iff_eq]; exact hd
      have HD := Lib.hid hd
      clear hd
      gi_wp2
      exact ⟨KeepsFrom.refl _ _, KeepB.refl _ _ _, ⟨fun p hp' => (List.mem_append.1 hp').elim (hp p) (fun e => by simp at e; subst e; exact HD.out), hcs, hcr, hfr⟩, hB⟩
    · have hdb : (limb l0 x.val != limb l1 x.val) = true := by rw [bne_iff_ne]; exact hd
      gi_wp2_with (refine ⟨trivial, ?_⟩; gi_at_call 41; refine (CallsIn.inRound l (callsIn_wide.2 (Tryd.cmp_Compare_int _ _ _))).mono ?_; rintro e w' ⟨rfl, rfl⟩)
      exact ⟨(KeepsOthers.setCell _ _ _).from _, ⟨rfl, pre, x, rfl, hp, hd, World.cell?_setCell_same' _ _ _ (by rw [hcr]; rfl)⟩, hB.setCell (p := ⟨w.heap.size + 1, 0, none⟩) (by simp) _⟩
  case done =>
    rintro D ys W hD hys ⟨⟨hne, hcs, hcr, hfr⟩, hB⟩ hK
    gi_wp2
    have hK' := (KeepsOthers.setCell W ⟨w.heap.size + 1, 0, none⟩ (.int .i64 0)).same D _ hK rfl
    refine ⟨by simp, .inl ⟨_, _, rfl, run_takeDeferred hK', ?_⟩⟩
    have hc5 := cell_kept (World.cell?_setCell_same' W ⟨w.heap.size + 1, 0, none⟩ (.int .i64 0) (by rw [hcr]; rfl)) (grownBy_putObj' _ D (.deferred none)) (fun r e => by cases e; exact ⟨_, hK', rfl⟩)
    refine ⟨.int .i64 0, ?_, by rw [cmp_done HLEN.out hys hne], (hB.setCell (p := ⟨w.heap.size + 1, 0, none⟩) (by simp) _).trans (belowK_b (w := w) (Nat.le_refl _) _ D _ _ (by simp at hD; omega) hK' rfl rfl)⟩
    simp [results, Tryd.f31, go_sem, hc5]
  case stop =>
    rintro D c pre W hD ⟨k, hk, hpre⟩ ⟨⟨rfl, ini, last, rfl, e2, e3, hcr⟩, hB⟩ hK
    gi_wp2
    refine ⟨by simp, .inl ⟨_, _, rfl, run_takeDeferred hK, ?_⟩⟩
    have hc5 := cell_kept hcr (grownBy_putObj' _ D (.deferred none)) (fun r e => by cases e; exact ⟨_, hK, rfl⟩)
    refine ⟨.int .i64 (Lib.compareInt (limb l0 last.val) (limb l1 last.val)), ?_, by rw [cmp_stop HLEN.out hk hpre e2 e3], hB.trans (belowK_b (w := w) (Nat.le_refl _) _ D _ _ (by simp at hD; omega) hK rfl rfl)⟩
    simp [results, Tryd.f31, go_sem, hc5]

set_option maxHeartbeats 1000000 in
theorem compare_ne (A0 A1 : Option Addr) (c0 c1 : Nat) (l0 l1 : List Int) (h0 : l0.length ≤ 9223372036854775807) (h1 : l1.length ≤ 9223372036854775807) (hlen : l0.length ≠ l1.length) (w : World) :
    Calls Tryd.prog 31 #[.slice A0 l0.length c0, .slice A1 l1.length c1] w fun e W' => e = .returned (.int .i64 (cmpL l0 l1)) ∧ Below w.heap.size w W' := by
  have hdec : ((l0.length : Int) != (l1.length : Int)) = true := by rw [bne_iff_ne]; omega
  have hres : cmpL l0 l1 = Lib.compareInt l0.length l1.length := by unfold cmpL; rw [if_neg hlen]
  have HR := Lib.hid hres
  clear hres hlen
  go_enter Tryd.func31, Tryd.ntmps31
  go_wp2_with (go_at_call 41; refine (Tryd.cmp_Compare_int _ _ _).mono ?_; rintro e w' ⟨rfl, rfl⟩)
  refine bodyPost_ret (v := .int .i64 (Lib.compareInt l0.length l1.length)) (by simp [results, Tryd.f31, go_sem]) rfl ⟨by rw [HR.out], ?_⟩
  exact (((Below.refl _ w).alloc (Nat.le_refl _) _).alloc (by simp) _)

/-- nat.compare, as the printed callers want it. -/
def nat_compare.f (l0 l1 : List Int) : Option Int := some (cmpL l0 l1)
theorem nat_compare.calls (A0 : Option Addr) (c0 : Nat) (l0 : List Int) (A1 : Option Addr) (c1 : Nat) (l1 : List Int) (r : Int) (w : World) (hr0 : Kd.C (Kd.int .i64) w A0 l0.length l0) (hc0 : l0.length ≤ c0) (hr1 : Kd.C (Kd.int .i64) w A1 l1.length l1) (hc1 : l1.length ≤ c1) (h : nat_compare.f l0 l1 = some r) :
    Calls Tryd.prog 31 #[.slice A0 l0.length c0, .slice A1 l1.length c1] w fun e w' => e = .returned (.int .i64 r) ∧ Below w.heap.size w w' := by
  obtain rfl := Option.some.inj h
  by_cases e : l0.length = l1.length
  · exact compare_eq A0 A1 c0 c1 l0 l1 hr0.2.1 e w (intsAt_of_C hr0) (intsAt_of_C hr1)
  · exact compare_ne A0 A1 c0 c1 l0 l1 hr0.2.1 hr1.2.1 e w
end Go.Proofs.YtmcpiejgneegjaaDoor

end

/-
(nat.limbs).text: the decimal text of a row of limbs that lie in 0 .. 9999.
-/
section
set_option linter.unusedVariables false
namespace Go.Proofs.YtmcpiejgneegjaaDoor
open Go.RowKit Go.Shelf Go.Proofs.YtmcpiejgneegjaaDoorW.PrintWords Go.Proofs.YtmcpiejgneegjaaDoorW.PrintLast Go.Proofs.YtmcpiejgneegjaaDoorW.PrintMore
attribute [local go_sem] Oper.semAt_some

/-- What one limb writes: all but the highest one with zeros ahead. -/
def piece (n i : Nat) (x : Int) : List UInt8 := (if i + 1 < n then List.replicate (4 - (Lib.itoa x).length) 48 else []) ++ Lib.itoa x
/-- What the limbs that came have written. -/
def pieces (l : List Int) (pre : List (Fin l.length)) : List UInt8 := pre.flatMap fun x => piece l.length x.val (limb l x.val)
def textL (l : List Int) : List UInt8 := if l.length = 0 then [48] else (upto l.length l.length).flatMap fun i => piece l.length i (limb l i)

theorem pieces_snoc (l : List Int) (pre : List (Fin l.length)) (x : Fin l.length) : pieces l (pre ++ [x]) = pieces l pre ++ piece l.length x.val (limb l x.val) := by simp [pieces]
theorem pieces_all (l : List Int) (ys : List (Fin l.length)) (h0 : l.length ≠ 0) (h : ys.map Fin.val = upto l.length l.length) : pieces l ys = textL l := by
  unfold textL
  rw [if_neg h0, ← h, List.flatMap_map]
  rfl

theorem itoa_len {n : Int} (h0 : 0 ≤ n) (h1 : n < 10000) : 1 ≤ (Lib.itoa n).length ∧ (Lib.itoa n).length ≤ 4 := by
  unfold Lib.itoa
  rw [if_neg (by omega)]
  obtain ⟨u, rfl⟩ := Int.eq_ofNat_of_zero_le h0
  simp only [Int.toNat_natCast]
  have hu : u < 10000 := by omega
  clear h0 h1
  unfold Lib.decDigits
  by_cases a : u < 10
  · rw [dif_pos a]; simp
  · rw [dif_neg a]
    unfold Lib.decDigits
    by_cases b : u / 10 < 10
    · rw [dif_pos b]; simp
    · rw [dif_neg b]
      unfold Lib.decDigits
      by_cases c : u / 10 / 10 < 10
      · rw [dif_pos c]; simp
      · rw [dif_neg c]
        unfold Lib.decDigits
        have d : u / 10 / 10 / 10 < 10 := by omega
        rw [dif_pos d]; simp

theorem piece_len {n i : Nat} {x : Int} (h0 : 0 ≤ x) (h1 : x < 10000) : (piece n i x).length ≤ 4 := by
  have := itoa_len h0 h1
  unfold piece
  by_cases h : i + 1 < n
  · rw [if_pos h]; simp; omega
  · rw [if_neg h]; simp; omega
theorem pieces_len {l : List Int} (hR : ∀ i, i < l.length → 0 ≤ limb l i ∧ limb l i < 10000) (pre : List (Fin l.length)) : (pieces l pre).length ≤ 4 * pre.length := by
  induction pre with
  | nil => simp [pieces]
  | cons x r ih =>
    have e : pieces l (x :: r) = piece l.length x.val (limb l x.val) ++ pieces l r := by simp [pieces]
    have := piece_len (n := l.length) (i := x.val) (hR x.val x.isLt).1 (hR x.val x.isLt).2
    rw [e, List.length_append, List.length_cons]
    omega

/-- A builder stays one where every block of cells stays. -/
theorem builder_cells {T e : TypeId} {B b : Nat} {bs : List Value} {w w' : World} (h : Lib.IsBuilderF T e B b bs w) (hc : ∀ (k : Nat) c t fz, w.heap[k]? = some (.cells c t fz) → w'.heap[k]? = some (.cells c t fz)) : Lib.IsBuilderF T e B b bs w' := by
  have step : ∀ p, Lib.BuilderAtF T e B b p bs w → Lib.BuilderAtF T e B b p bs w' := by
    rintro p ⟨hB, v, hb, hown, hne⟩
    refine ⟨hB, v, hc _ _ _ _ hb, ⟨hown.1, ?_⟩, hne⟩
    rcases hown.2 with hn | ⟨g, cap, cur, fz, hv, hbg, hg, rest⟩
    · exact .inl hn
    · exact .inr ⟨g, cap, cur, fz, hv, hbg, hc _ _ _ _ hg, rest⟩
  exact h.elim (fun x => .inl (step _ x)) (fun x => .inr (step _ x))
theorem builder_block {T e : TypeId} {B b : Nat} {bs : List Value} {w : World} (h : Lib.IsBuilderF T e B b bs w) : ∃ c t fz, w.heap[b]? = some (.cells c t fz) := by
  rcases h with ⟨_, v, hb, _⟩ | ⟨_, v, hb, _⟩
  · exact ⟨_, _, _, hb⟩
  · exact ⟨_, _, _, hb⟩

theorem heap_of_below {w w' : World} (h : Below w.heap.size w w') {k : Nat} {o : Obj} (hk : w.heap[k]? = some o) : w'.heap[k]? = some o := by
  have hlt : k < w.heap.size := by
    rcases Nat.lt_or_ge k w.heap.size with h' | h'
    · exact h'
    · rw [Array.getElem?_eq_none h'] at hk; cases hk
  rw [h.block k hlt]; exact hk
theorem keepsFrom_of_below {B : Nat} {w w' : World} (h : Below w.heap.size w w') : KeepsFrom B w w' := ⟨h.size, fun k o _ hk _ => heap_of_below h hk⟩
theorem below_grow {w : World} (k : Nat) (os : Array Obj) : Below w.heap.size w (Go.Sort.grow (w.drewN k) os) := by
  refine (pw_below_drewN (Below.refl _ _) k).trans ?_
  refine ⟨rfl, rfl, rfl, by simp [Go.Sort.grow], fun i hi => ?_⟩
  show ((w.drewN k).heap ++ os)[i]? = (w.drewN k).heap[i]?
  rw [Array.getElem?_append_left (by exact hi)]

/-- strconv.Itoa, as a contract that keeps what was there. -/
theorem itoa_calls (n : Int) (h0 : -9223372036854775808 ≤ n) (h1 : n ≤ 9223372036854775807) (w : World) (hL : Laid w) :
    Calls Tryd.prog 38 #[.int .i64 n] w fun e w' => e = .returned (.string ⟨(Lib.itoa n).toArray⟩) ∧ Below w.heap.size w w' := by
  refine (Tryd.strconv_Itoa n h0 h1 w hL.tab).mono ?_
  rintro e w' ⟨rfl, k, os, rfl⟩
  exact ⟨rfl, below_grow k os⟩

theorem repeatL_one (c : Nat) : Lib.repeatL [48] c = List.replicate c 48 := by
  induction c with
  | zero => rfl
  | succ c ih => rw [List.replicate_succ, ← ih]; rfl

/-- A numeral as a string. -/
def itoaB (n : Int) : ByteArray := ⟨(Lib.itoa n).toArray⟩
theorem itoaB_size (n : Int) : (itoaB n).size = (Lib.itoa n).length := by simp [itoaB, ByteArray.size]
theorem itoaB_calls (n : Int) (h0 : -9223372036854775808 ≤ n) (h1 : n ≤ 9223372036854775807) (w : World) (hL : Laid w) :
    Calls Tryd.prog 38 #[.int .i64 n] w fun e w' => e = .returned (.string (itoaB n)) ∧ Below w.heap.size w w' := itoa_calls n h0 h1 w hL
def zerosB (c : Int) : ByteArray := ⟨(List.replicate c.toNat 48).toArray⟩
theorem zerosB_size (c : Int) : (zerosB c).size = c.toNat := by simp [zerosB, ByteArray.size]
theorem zerosB_calls (c : Int) (h0 : 0 ≤ c) (h1 : c ≤ 140737488355328) (w : World) :
    Calls Tryd.prog 46 #[.string ⟨#[48]⟩, .int .i64 c] w fun e w' => e = .returned (.string (zerosB c)) ∧ Below w.heap.size w w' := by
  obtain ⟨u, rfl⟩ := Int.eq_ofNat_of_zero_le h0
  refine (Tryd.strings_Repeat ⟨#[48]⟩ u w (by omega) (by show 1 * u ≤ _; omega)).mono ?_
  rintro e w' ⟨rfl, hb⟩
  refine ⟨?_, hb⟩
  rw [repeatL_one]
  rfl

set_option maxHeartbeats 1000000 in
theorem text_nil (A0 : Option Addr) (c0 : Nat) (l0 : List Int) (h : l0.length = 0) (w : World) :
    Calls Tryd.prog 33 #[.slice A0 l0.length c0] w fun e W' => e = .returned (.string ⟨(textL l0).toArray⟩) ∧ Below w.heap.size w W' := by
  have hres : textL l0 = [48] := by unfold textL; rw [if_pos h]
  rw [hres, h]
  clear h hres
  go_enter Tryd.func33, Tryd.ntmps33
  go_wp2
  go_ret
  exact ⟨rfl, (Below.refl _ w).alloc (Nat.le_refl _) _⟩

set_option maxRecDepth 100000 in
set_option maxHeartbeats 2000000 in
theorem text_some (A0 : Option Addr) (c0 : Nat) (l0 : List Int) (h0 : l0.length ≠ 0) (hreach : l0.length ≤ 17592186044416) (hR : ∀ i, i < l0.length → 0 ≤ limb l0 i ∧ limb l0 i < 10000) (w : World) (hI : IntsAt w.heap.size w (.slice A0 l0.length c0) l0) (hL : Laid w) :
    Calls Tryd.prog 33 #[.slice A0 l0.length c0] w fun e W' => e = .returned (.string ⟨(textL l0).toArray⟩) ∧ Below w.heap.size w W' := by
  have hd : ((l0.length : Int) == 0) = false := by rw [beq_eq_false_iff_ne]; omega
  refine (callsIn_wide (n := 3)).1 ?_
  refine callsIn_of_wp_marks Tryd.func33 rfl trivial ?_ rfl
  simp only [Tryd.ntmps33, List.size_toArray, List.length_cons, List.length_nil, Nat.reduceAdd, Nat.reduceSub, Array.replicate_succ, Array.replicate_zero, List.push_toArray, List.append_toArray, List.nil_append, List.cons_append]
  gi_wp2_with (refine ⟨trivial, ?_⟩; gi_at_call 42; refine (backward_in Fence.wide _ trivial rfl _ _ _ _).mono ?_; rintro e w' ⟨rfl, rfl⟩)
  have bS := Boxed.new w 41 (.slice A0 l0.length c0)
  have bB : (w.alloc (.cells #[.slice A0 l0.length c0] 41)).heap.size = w.heap.size + 1 := by simp
  have hB0 : Below w.heap.size w (((w.alloc (.cells #[.slice A0 l0.length c0] 41)).alloc (.cells #[.pointer none, .slice none 0 0] 66)).alloc (.cells #[.slice A0 l0.length c0] 41)) := (((Below.refl _ w).alloc (Nat.le_refl _) _).alloc (by simp) _).alloc (by simp; omega) _
  have bN := Boxed.new ((w.alloc (.cells #[.slice A0 l0.length c0] 41)).alloc (.cells #[.pointer none, .slice none 0 0] 66)) 41 (.slice A0 l0.length c0)
  rw [World.size_alloc, World.size_alloc] at bN
  have hI0 : Lib.IsBuilderF 66 5 (w.heap.size + 1) (w.heap.size + 1) (Lib.byteCells []) (((w.alloc (.cells #[.slice A0 l0.length c0] 41)).alloc (.cells #[.pointer none, .slice none 0 0] 66)).alloc (.cells #[.slice A0 l0.length c0] 41)) := by
    refine Lib.IsBuilderF.alloc ?_ _
    refine .inl ⟨Nat.le_refl _, .slice none 0 0, ?_, World.ownsRowF_of (World.ownsRow_nil _ _ _ _), by simp [Value.ownBlock]⟩
    rw [← bB]
    exact heap_alloc_new _ _
  refine wpIn_rangeFunc_ownG rfl (by omega) (gf := 55) (lb := #[.pointer (some ⟨w.heap.size + 1 + 1, 0, none⟩)]) rfl trivial (enters_of Tryd.func55 (by kernel_rfl) rfl)
    (back_stops Fence.wide _ trivial rfl (by omega) (w.heap.size + 1 + 1) w.heap.size _ l0 (by omega) _ (by simp) (by simp; omega) bN.cell (hI.below hB0)) KeepB.trans (KeepB.putObj (by simp; omega) (by simp)) (Below.refl _ _) (fun _ => rfl)
    (fun pre W => (W.heap[w.heap.size]? = some (.cells #[.slice A0 l0.length c0] 41 (0, 0)) ∧ W.heap[w.heap.size + 1 + 1]? = some (.cells #[.slice A0 l0.length c0] 41 (0, 0)) ∧ Lib.IsBuilderF 66 5 (w.heap.size + 1) (w.heap.size + 1) (Lib.byteCells (pieces l0 pre)) W) ∧ Below w.heap.size w W)
    (fun _ _ _ => False)
    (OwnFrom.and (Own.from (fun s A B row hs hg hr => by
      have hc : ∀ (k : Nat) c t fz, A.heap[k]? = some (.cells c t fz) → B.heap[k]? = some (.cells c t fz) := by
        intro k c t fz hk
        have hlt : k < A.heap.size := by
          rcases Nat.lt_or_ge k A.heap.size with h' | h'
          · exact h'
          · rw [Array.getElem?_eq_none h'] at hk; cases hk
        rw [hg.block k hlt (fun e => by
          obtain ⟨o, ho, hcell⟩ := hr k e.symm
          rw [hk] at ho
          cases ho
          cases hcell)]
        exact hk
      exact ⟨hc _ _ _ _ hs.1, hc _ _ _ _ hs.2.1, builder_cells hs.2.2 hc⟩) _) (ownFrom_below (Nat.le_refl _) (by simp; omega)))
    (fun _ _ _ _ _ hs _ _ => hs)
    ⟨⟨?st1, ?st2, hI0⟩, hB0⟩
    (fun x => { tmps := #[.slice A0 l0.length c0, .pointer (some ⟨w.heap.size, 0, none⟩), .string ⟨#[]⟩, .pointer (some ⟨w.heap.size + 1, 0, none⟩), .int .i64 (x.val : Int), .int .i64 (limb l0 x.val), undef, .slice A0 l0.length c0, .int .i64 l0.length, .bool false, .slice A0 l0.length c0, .func (.func 55) #[] #[.pointer (some ⟨w.heap.size + 1 + 1, 0, none⟩)], .int .i64 (x.val : Int), .int .i64 (limb l0 x.val), undef, undef, undef, undef, undef, undef, undef, undef, undef, undef, undef, undef, undef, undef, undef], defers := [] }) ?assign ?body ?done ?stop
  case st1 => exact (bS.alloc _).alloc _
  case st2 => exact bN
  case assign =>
    intro l x W K hK
    dsimp only [item]
    gi_wp2
    exact hK
  case body =>
    rintro l pre x W ⟨⟨h1, h2, hI1⟩, hB⟩ hN
    have hx := hR x.val x.isLt
    have hlen := pieces_len hR pre
    have hlx := itoa_len hx.1 hx.2
    have hLW := hL.below hB
    have hcell1 : W.cell? ⟨w.heap.size, 0, none⟩ = some (.slice A0 l0.length c0) := by simp [World.cell?, h1]
    rw [← itoaB_size] at hlx
    have hbl : w.heap.size + 1 + 1 < W.heap.size := by
      rcases Nat.lt_or_ge (w.heap.size + 1 + 1) W.heap.size with h' | h'
      · exact h'
      · rw [Array.getElem?_eq_none h'] at h2; cases h2
    have hpn : pre.length < 17592186044416 := by omega
    obtain ⟨s, hs⟩ : ∃ s, itoaB (limb l0 x.val) = s := ⟨_, rfl⟩
    have hsl : s.data.toList = Lib.itoa (limb l0 x.val) := by rw [← hs]; simp [itoaB]
    rw [hs] at hlx
    have HS := Lib.hid hs
    have HSL := Lib.hid hsl
    obtain ⟨hl1, hl4⟩ := hlx
    obtain ⟨hx0, hx1⟩ := hx
    have keep4 : ∀ {W1 W4 : World}, Below W.heap.size W W1 → Below (w.heap.size + 1) W1 W4 → Lib.OthersKept 5 (some (w.heap.size + 1)) W1 W4 → KeepsFrom (((w.alloc (.cells #[.slice A0 l0.length c0] 41)).alloc (.cells #[.pointer none, .slice none 0 0] 66)).alloc (.cells #[.slice A0 l0.length c0] 41)).heap.size W W4 ∧ KeepB w.heap.size (w.heap.size + 1 + 1) W W4 ∧ W4.heap[w.heap.size]? = some (.cells #[.slice A0 l0.length c0] 41 (0, 0)) ∧ W4.heap[w.heap.size + 1 + 1]? = some (.cells #[.slice A0 l0.length c0] 41 (0, 0)) ∧ Below w.heap.size w W4 := by
      intro W1 W4 hb1 hb4 ho4
      have g2 : W4.heap[w.heap.size + 1 + 1]? = some (.cells #[.slice A0 l0.length c0] 41 (0, 0)) := ho4 _ _ (heap_of_below hb1 h2) (by simp) (by intro c fz e; cases e)
      have g1 : W4.heap[w.heap.size]? = some (.cells #[.slice A0 l0.length c0] 41 (0, 0)) := (hb4.block _ (by omega)).trans (heap_of_below hb1 h1)
      obtain ⟨bc, bt, bf, hbb⟩ := builder_block hI1
      refine ⟨⟨Nat.le_trans hb1.size hb4.size, fun k o hk ho hc => ?_⟩, ⟨(hb1.mono (by omega)).trans (hb4.mono (by omega)), g2.trans h2.symm⟩, g1, g2, hB.trans ((hb1.mono (by omega)).trans (hb4.mono (by omega)))⟩
      refine ho4 k o (heap_of_below hb1 ho) ?_ ?_
      · intro e
        cases e
        rw [hbb] at ho
        cases ho
        cases hc
      · intro c fz e
        rw [e] at hc
        cases hc
    by_cases ht : x.val + 1 < l0.length
    · have hdt : decide ((x.val : Int) < (l0.length : Int) - 1) = true := by simp; omega
      have hpc : piece l0.length x.val (limb l0 x.val) = (zerosB (4 - (s.size : Int))).data.toList ++ s.data.toList := by
        unfold piece
        rw [if_pos ht, HSL.out, ← HS.out, itoaB_size]
        congr 1
        simp [zerosB] <;> omega
      have HP := Lib.hid hpc
      clear hpc hs hsl ht
      gi_wp2_with fail
      refine ⟨trivial, ?_⟩
      gi_at_call 38
      refine (CallsIn.inRound l (callsIn_wide.2 (itoaB_calls _ (by omega) (by omega) _ hLW))).mono ?_
      rintro e W1 ⟨rfl, hb1⟩
      rw [HS.out]
      have hcell2 : W1.cell? ⟨w.heap.size, 0, none⟩ = some (.slice A0 l0.length c0) := (hb1.cell (World.block_lt_of_cell? W _ hcell1)).trans hcell1
      gi_wp2_with fail
      refine ⟨trivial, ?_⟩
      gi_at_call 46
      refine (CallsIn.inRound l (callsIn_wide.2 (zerosB_calls _ (by omega) (by omega) _))).mono ?_
      rintro e W2 ⟨rfl, hb2⟩
      have hb12 := hb1.trans (hb2.mono hb1.size)
      have hI2 := builder_cells hI1 (fun k c t fz hk => heap_of_below hb12 hk)
      have hz := zerosB_size (4 - (s.size : Int))
      gi_wp2_with fail
      refine ⟨trivial, ?_⟩
      gi_at_call 45
      refine (CallsIn.inRound l (callsIn_wide.2 (Tryd.Builder_WriteString_k (w.heap.size + 1) (w.heap.size + 1) _ _ _ hI2 (by rw [Lib.byteCells_length]; omega) (by have := hb12.size; omega)))).mono ?_
      rintro e W3 ⟨rfl, hI3, hb3, ho3⟩
      gi_wp2_with fail
      refine ⟨trivial, ?_⟩
      gi_at_call 45
      refine (CallsIn.inRound l (callsIn_wide.2 (Tryd.Builder_WriteString_k (w.heap.size + 1) (w.heap.size + 1) _ _ _ (.inr hI3) (by rw [List.length_append, Lib.byteCells_length, Lib.strCells_length]; omega) (by have := hb12.size; have := hb3.size; omega)))).mono ?_
      rintro e W4 ⟨rfl, hI4, hb4, ho4⟩
      gi_wp2
      obtain ⟨k1, k2, k3, k4, k5⟩ := keep4 hb12 (hb3.trans hb4) (ho3.trans ho4)
      refine ⟨k1, k2, ⟨k3, k4, ?_⟩, k5⟩
      rw [pieces_snoc, HP.out, Lib.byteCells_append, Lib.byteCells_append, ← List.append_assoc]
      exact .inr hI4
    · have hdt : decide ((x.val : Int) < (l0.length : Int) - 1) = false := by simp; omega
      have hpc : piece l0.length x.val (limb l0 x.val) = s.data.toList := by
        unfold piece
        rw [if_neg ht, HSL.out]
        rfl
      have HP := Lib.hid hpc
      clear hpc hs hsl ht
      gi_wp2_with fail
      refine ⟨trivial, ?_⟩
      gi_at_call 38
      refine (CallsIn.inRound l (callsIn_wide.2 (itoaB_calls _ (by omega) (by omega) _ hLW))).mono ?_
      rintro e W1 ⟨rfl, hb1⟩
      rw [HS.out]
      have hcell2 : W1.cell? ⟨w.heap.size, 0, none⟩ = some (.slice A0 l0.length c0) := (hb1.cell (World.block_lt_of_cell? W _ hcell1)).trans hcell1
      have hI2 := builder_cells hI1 (fun k c t fz hk => heap_of_below hb1 hk)
      gi_wp2_with fail
      refine ⟨trivial, ?_⟩
      gi_at_call 45
      refine (CallsIn.inRound l (callsIn_wide.2 (Tryd.Builder_WriteString_k (w.heap.size + 1) (w.heap.size + 1) _ _ _ hI2 (by rw [Lib.byteCells_length]; omega) (by have := hb1.size; omega)))).mono ?_
      rintro e W4 ⟨rfl, hI4, hb4, ho4⟩
      gi_wp2
      obtain ⟨k1, k2, k3, k4, k5⟩ := keep4 hb1 hb4 ho4
      refine ⟨k1, k2, ⟨k3, k4, ?_⟩, k5⟩
      rw [pieces_snoc, HP.out, Lib.byteCells_append]
      exact .inr hI4
  case done =>
    rintro D ys W hD hys ⟨⟨h1, h2, hI1⟩, hB⟩ hK
    have HY := Lib.hid hys
    clear hys
    have hbl : w.heap.size + 1 + 1 < W.heap.size := by
      rcases Nat.lt_or_ge (w.heap.size + 1 + 1) W.heap.size with h' | h'
      · exact h'
      · rw [Array.getElem?_eq_none h'] at h2; cases h2
    have hD' : w.heap.size + 1 + 1 < D := by simp at hD; omega
    gi_wp2_with fail
    refine ⟨trivial, ?_⟩
    gi_at_call 47
    refine (callsIn_wide.2 (Tryd.Builder_String_any_k (w.heap.size + 1) (w.heap.size + 1) _ _ hI1 (by omega))).mono ?_
    rintro e W2 ⟨rfl, hI2, hb2, ho2⟩
    have hK2 : W2.heap[D]? = some (.deferred (some [])) := ho2 _ _ hK (by intro e; cases e; omega) (by intro c fz e; cases e)
    gi_wp2
    refine ⟨by simp, .inl ⟨_, _, rfl, run_takeDeferred hK2, ?_⟩⟩
    exact ⟨_, results_tmp rfl _ _ _, by rw [pieces_all l0 ys h0 HY.out]; rfl, (hB.trans (hb2.mono (by omega))).trans (belowK_b (w := w) (Nat.le_refl _) W2 D _ _ (by omega) hK2 rfl rfl)⟩
  case stop =>
    rintro D c pre W _ _ h _
    exact h.elim

/-- What the limbs of a row may be. -/
def LimbsIn (l : List Int) : Prop := ∀ i, i < l.length → 0 ≤ limb l i ∧ limb l i < 10000
def limbsOk (l : List Int) : Bool := l.all fun x => decide (0 ≤ x) && decide (x < 10000)
theorem limbsIn_of_ok {l : List Int} (h : limbsOk l = true) : LimbsIn l := by
  intro i hi
  have hm : limb l i ∈ l := by
    unfold limb
    rw [List.getD_eq_getElem?_getD, List.getElem?_eq_getElem hi]
    exact List.getElem_mem hi
  have := List.all_eq_true.1 h _ hm
  simp at this
  exact this
/-- (nat.limbs).text, as the printed callers want it. -/
def nat_limbs_text.f (l : List Int) : Option ByteArray := if limbsOk l = true ∧ l.length ≤ 17592186044416 then some ⟨(textL l).toArray⟩ else none
theorem nat_limbs_text.calls (A0 : Option Addr) (c0 : Nat) (l0 : List Int) (r : ByteArray) (w : World) (hr0 : Kd.C (Kd.int .i64) w A0 l0.length l0) (hc0 : l0.length ≤ c0) (hL_ : Laid w) (h : nat_limbs_text.f l0 = some r) :
    Calls Tryd.prog 33 #[.slice A0 l0.length c0] w fun e w' => e = .returned (.string r) ∧ Below w.heap.size w w' := by
  unfold nat_limbs_text.f at h
  split at h
  · rename_i hp
    obtain rfl := Option.some.inj h
    by_cases e : l0.length = 0
    · exact text_nil A0 c0 l0 e w
    · exact text_some A0 c0 l0 e hp.2 (limbsIn_of_ok hp.1) w (intsAt_of_C hr0) hL_
  · cases h
end Go.Proofs.YtmcpiejgneegjaaDoor

end

/-
(nat.limbs).trim to the letter: the same address, fewer limbs; nothing is turned.
-/
section
set_option linter.unusedVariables false
namespace Go.Proofs.YtmcpiejgneegjaaDoor
open Go.RowKit Go.Shelf Go.Proofs.YtmcpiejgneegjaaDoorW.PrintWords Go.Proofs.YtmcpiejgneegjaaDoorW.PrintLast Go.Proofs.YtmcpiejgneegjaaDoorW.PrintMore

/-- Without the last ones that are 0. -/
def trimL (l : List Int) : List Int := (l.reverse.dropWhile (· == 0)).reverse
theorem trimL_nil : trimL [] = [] := rfl
theorem trimL_zero (l : List Int) : trimL (l ++ [0]) = trimL l := by simp [trimL]
theorem trimL_snoc (l : List Int) (x : Int) (h : x ≠ 0) : trimL (l ++ [x]) = l ++ [x] := by simp [trimL, h]
theorem trimL_prefix (l : List Int) : trimL l = l.take (trimL l).length := by
  have h : trimL l <+: l := by
    have h1 := List.dropWhile_suffix (l := l.reverse) (p := (· == 0))
    have h2 := List.reverse_prefix.2 h1
    simpa [trimL] using h2
  exact List.prefix_iff_eq_take.1 h
theorem take_step (l : List Int) (m : Nat) (h : m < l.length) : l.take (m + 1) = l.take m ++ [limb l m] := by
  rw [List.take_succ_eq_append_getElem h]
  simp [limb, h]

set_option maxRecDepth 100000 in
set_option maxHeartbeats 1000000 in
theorem trim_exact (A0 : Option Addr) (c0 : Nat) (l : List Int) (hm : l.length ≤ 9223372036854775807) (hc0 : l.length ≤ c0) (w : World) (hI : 0 < l.length → ∃ ad, A0 = some ad ∧ ∀ j, j < l.length → w.cell? (ad.add j) = some (.int .i64 (limb l j))) :
    Calls Tryd.prog 44 #[.slice A0 l.length c0] w fun e w' => e = .returned (.slice A0 (trimL l).length c0) ∧ w' = w := by
  go_enter Tryd.func44, Tryd.ntmps44
  go_wp2
  go_loop [0] (fun v => ∃ m : Nat, m ≤ l.length ∧ v = .slice A0 m c0 ∧ trimL (l.take m) = trimL l) (fun v => match v with | .slice _ m _ => m | _ => 0)
  case atStart => exact ⟨l.length, Nat.le_refl _, rfl, by rw [List.take_length]⟩
  case round =>
    obtain ⟨m, hml, rfl, ht⟩ := hrel
    have HT := Lib.hid ht
    clear ht
    cases m with
    | zero =>
      have hl0 : (trimL l).length = 0 := by rw [← HT.out]; rfl
      have HL := Lib.hid hl0
      clear hl0
      go_wp2
      go_ret
      exact ⟨by rw [HL.out]; rfl, rfl⟩
    | succ m =>
      obtain ⟨ad, rfl, hc⟩ := hI (by omega)
      have hcm := hc m (by omega)
      have hst := take_step l m (by omega)
      clear hc hI
      by_cases hz : limb l m = 0
      · rw [hz] at hcm hst
        have HS := Lib.hid hst
        clear hz hst
        go_wp2
        exact ⟨⟨m, by omega, rfl, by rw [← HT.out, HS.out, trimL_zero]⟩, Nat.lt_succ_self m⟩
      · have hzb : (limb l m == 0) = false := by rw [beq_eq_false_iff_ne]; exact hz
        have hl0 : (trimL l).length = m + 1 := by
          rw [← HT.out, hst, trimL_snoc _ _ hz, List.length_append, List.length_take]
          simp
          omega
        have HL := Lib.hid hl0
        clear hz hst hl0
        go_wp2
        go_ret
        exact ⟨by rw [HL.out]; rfl, rfl⟩
theorem trim_at {m_ : Nat} (A0 : Option Addr) (n c0 : Nat) (l : List Int) (hn : n = l.length) (hm : l.length ≤ 9223372036854775807) (hc0 : l.length ≤ c0) (w : World) (hI : 0 < l.length → ∃ ad, A0 = some ad ∧ ∀ j, j < l.length → w.cell? (ad.add j) = some (.int .i64 (limb l j))) :
    CallsIn Fence.wide m_ Tryd.prog 44 #[.slice A0 n c0] w fun e w' => e = .returned (.slice A0 (trimL l).length c0) ∧ w' = w := by
  subst hn
  exact callsIn_wide.2 (trim_exact A0 c0 l hm hc0 w hI)
end Go.Proofs.YtmcpiejgneegjaaDoor

end

/-
nat.short: limbs divided by one limb: the quotient's limbs, and what is left.
-/
section
set_option linter.unusedVariables false
namespace Go.Proofs.YtmcpiejgneegjaaDoor
open Go.RowKit Go.Shelf Go.Proofs.YtmcpiejgneegjaaDoorW.PrintWords Go.Proofs.YtmcpiejgneegjaaDoorW.PrintLast Go.Proofs.YtmcpiejgneegjaaDoorW.PrintMore
attribute [local go_sem] Oper.semAt_some

/-- One round: a limb of the quotient, and what is left. -/
def sstep (l : List Int) (n : Int) (s : List Int × Int) (i : Nat) : List Int × Int := (s.1.set i ((s.2 * 10000 + limb l i) / n), (s.2 * 10000 + limb l i) % n)
/-- What has been written and what is left, when some rounds are over. -/
def sfold (l : List Int) (n : Int) (pre : List (Fin l.length)) : List Int × Int := (pre.map Fin.val).foldl (sstep l n) (List.replicate l.length 0, 0)
theorem sfold_snoc (l : List Int) (n : Int) (pre : List (Fin l.length)) (x : Fin l.length) : sfold l n (pre ++ [x]) = sstep l n (sfold l n pre) x.val := by simp [sfold]
/-- The quotient's limbs, untrimmed, and what is left. -/
def shortL (l : List Int) (n : Int) : List Int × Int := (upto l.length l.length).foldl (sstep l n) (List.replicate l.length 0, 0)

theorem sfold_rest {l : List Int} {n : Int} (hn : 0 < n) (pre : List (Fin l.length)) : 0 ≤ (sfold l n pre).2 ∧ (sfold l n pre).2 < n := by
  rcases List.eq_nil_or_concat pre with rfl | ⟨r, x, rfl⟩
  · simp [sfold]; exact hn
  · rw [List.concat_eq_append, sfold_snoc]
    exact ⟨Int.emod_nonneg _ (by omega), Int.emod_lt_of_pos _ hn⟩
theorem sfold_len {l : List Int} {n : Int} (pre : List (Fin l.length)) : (sfold l n pre).1.length = l.length := by
  unfold sfold
  generalize hs : (List.replicate l.length (0 : Int), (0 : Int)) = s
  have h0 : s.1.length = l.length := by rw [← hs]; simp
  clear hs
  induction pre generalizing s with
  | nil => exact h0
  | cons x r ih => exact ih _ (by simp [sstep, h0])

theorem Boxed_alloc {w : World} {g : Nat} {o o' : Obj} (h : w.heap[g]? = some o) : (w.alloc o').heap[g]? = some o := (Below.heap_alloc w o' g (blk_lt h)).trans h
/-- A row of ints, as cells. -/
def rowOf (o : List Int) : Array Value := (o.map (Value.int .i64)).toArray
theorem rowOf_set (o : List Int) (i : Nat) (v : Int) : (rowOf o).setIfInBounds i (.int .i64 v) = rowOf (o.set i v) := by
  apply Array.toList_inj.1
  simp [rowOf, List.map_set]
theorem rowOf_get (o : List Int) (i : Nat) (h : i < o.length) : (rowOf o)[i]? = some (.int .i64 (limb o i)) := by
  simp [rowOf, limb, h]
theorem V_of_row {W : World} {g base c n : Nat} {ok : Nat → Prop} {o p : List Int} (h : W.heap[g]? = some (.cells (rowOf o) 3 (0, 0))) (hok : ok g) (hp : p = o.take n) (hn : n ≤ o.length) (hc : n ≤ c) (hl : o.length ≤ 9223372036854775807) : Kd.V (Kd.int .i64) 3 W base ok (.slice (some ⟨g, 0, none⟩) n c) p := by
  have hpn : p.length = n := by rw [hp, List.length_take]; omega
  subst hpn
  refine ⟨_, _, rfl, hc, fun W' hW => ?_⟩
  have h' : W'.heap[g]? = some (.cells (rowOf o) 3 (0, 0)) := (hW g hok (blk_lt h)).trans h
  refine ⟨rfl, by omega, fun _ => ⟨_, rfl, fun j q hj => ⟨[.int .i64 q], rfl, rfl, fun i u hu => ?_⟩⟩⟩
  have hjp : j < p.length := (List.getElem?_eq_some_iff.1 hj).1
  have hjl : j < o.length := by omega
  have hi : i = 0 := by
    rcases i with _ | i
    · rfl
    · simp at hu
  subst hi
  obtain rfl : Value.int .i64 q = u := by simpa using hu
  have e1 : (⟨g, 0, none⟩ : Addr).add (j * (Kd.int .i64).sz + 0) = ⟨g, j, none⟩ := by
    have e2 : j * (Kd.int .i64).sz + 0 = j := by show j * 1 + 0 = j; omega
    rw [e2]
    unfold Addr.add
    split
    · rename_i h0; subst h0; rfl
    · simp
  rw [e1, blk_cell h' j, rowOf_get o j hjl]
  have hq : o[j]? = some q := by
    rw [hp, List.getElem?_take_of_lt hjp] at hj
    exact hj
  simp [limb, hq]
theorem row_put {W : World} {g D : Nat} {o x : Obj} (h : W.heap[g]? = some x) (hne : g ≠ D) : (W.putObj D o).heap[g]? = some x := by
  rw [← h]
  simp [World.putObj, Ne.symm hne]
theorem made_row (n : Nat) : madeCells (Value.int .i64 0).cells n = rowOf (List.replicate n 0) := by
  apply Array.toList_inj.1
  have := toList_madeCells_one (.int .i64 0) n
  simpa [rowOf, Value.cells] using this
theorem row_cells {w : World} {g : Nat} {o : List Int} (h : w.heap[g]? = some (.cells (rowOf o) 3 (0, 0))) (j : Nat) (hj : j < o.length) : w.cell? ((⟨g, 0, none⟩ : Addr).add j) = some (.int .i64 (limb o j)) := by
  have e : (⟨g, 0, none⟩ : Addr).add j = ⟨g, j, none⟩ := by
    unfold Addr.add
    split
    · rename_i h0; subst h0; rfl
    · simp
  rw [e]
  exact (blk_cell h _).trans (rowOf_get o _ hj)
theorem one_cell {w : World} {ad : Addr} {r : Int} (h : w.cell? (ad.add 0) = some (.int .i64 r)) (j : Nat) (hj : j < [r].length) : w.cell? (ad.add j) = some (.int .i64 (limb [r] j)) := by
  obtain rfl : j = 0 := by simpa using hj
  exact h
theorem row_far {w : World} {g : Nat} {o : List Int} {ad : Addr} {v : Value} (h : w.heap[g]? = some (.cells (rowOf o) 3 (0, 0))) (hne : g ≠ ad.block) : (w.setCell ad v).heap[g]? = some (.cells (rowOf o) 3 (0, 0)) := blk_far h hne _
theorem row_drew {w : World} {g : Nat} {o : Obj} (h : w.heap[g]? = some o) : w.drew.heap[g]? = some o := h
theorem row_drewN {w : World} {g n : Nat} {o : Obj} (h : w.heap[g]? = some o) : (w.drewN n).heap[g]? = some o := h
/-- A made row of zeros. -/
theorem make_run (n : Nat) (hn : n ≤ 17592186044416) (w : World) : (Instr.makeSlice 41 (.int .i64 (n : Int)) (.int .i64 (n : Int))).run Tryd.prog w = .ok (.slice (some ⟨w.heap.size, 0, none⟩) n n) (w.alloc (.cells (rowOf (List.replicate n 0)) 3)) := by
  have hinfo : (Tryd.prog.info? 3).map (fun i => (i.zero, i.size, i.bytes)) = some (some (.int .i64 0), 1, 8) := by kernel_rfl
  obtain ⟨i0, hi, hz0, hz1, hz2⟩ := info_parts hinfo
  have h := run_make (P := Tryd.prog) w 41 3 i0 (.int .i64 0) Tryd.underlying41 hi hz0 .i64 .i64 n n (by omega) (by omega) (by rw [hz2]; omega) (by omega)
  rw [hz1] at h
  simp only [Int.toNat_natCast, Nat.mul_one] at h
  rw [made_row] at h
  exact h

set_option maxRecDepth 100000 in
set_option maxHeartbeats 4000000 in
theorem short_walk (A0 : Option Addr) (c0 : Nat) (l0 : List Int) (n : Int) (hn0 : 0 < n) (hn1 : n ≤ 10000) (hreach : l0.length ≤ 17592186044416) (hR : ∀ i, i < l0.length → 0 ≤ limb l0 i ∧ limb l0 i < 10000) (w : World) (hI : IntsAt w.heap.size w (.slice A0 l0.length c0) l0) :
    Calls Tryd.prog 48 #[.slice A0 l0.length c0, .int .i64 n] w fun e w' => ∃ v0_ v1_ : Value, e = .returned (.tuple #[v0_, v1_]) ∧ Kd.V (Kd.int .i64) 3 w' w.heap.size (fun k_ => (w.heap.size ≤ k_)) v0_ (trimL (shortL l0 n).1) ∧ Kd.V (Kd.int .i64) 3 w' w.heap.size (fun k_ => (w.heap.size ≤ k_)) v1_ (trimL [(shortL l0 n).2]) ∧ Below w.heap.size w w' := by
  have hmk := make_run l0.length hreach
  refine (callsIn_wide (n := 3)).1 ?_
  refine callsIn_of_wp_marks Tryd.func48 rfl trivial ?_ rfl
  simp only [Tryd.ntmps48, List.size_toArray, List.length_cons, List.length_nil, Nat.reduceAdd, Nat.reduceSub, Array.replicate_succ, Array.replicate_zero, List.push_toArray, List.append_toArray, List.nil_append, List.cons_append]
  gi_wp2_with (refine ⟨trivial, ?_⟩; gi_at_call 42; refine (backward_in Fence.wide _ trivial rfl _ _ _ _).mono ?_; rintro e w' ⟨rfl, rfl⟩)
  have hB0 : Below w.heap.size w (((((w.alloc (.cells #[.int .i64 n] 3)).alloc (.cells (rowOf (List.replicate l0.length 0)) 3)).alloc (.cells #[.slice (some ⟨w.heap.size + 1, 0, none⟩) l0.length l0.length] 41)).alloc (.cells #[.int .i64 0] 3)).alloc (.cells #[.slice A0 l0.length c0] 41)) :=
    (((((Below.refl _ w).alloc (Nat.le_refl _) _).alloc (by simp) _).alloc (by simp; omega) _).alloc (by simp; omega) _).alloc (by simp; omega) _
  have bN : Boxed (((((w.alloc (.cells #[.int .i64 n] 3)).alloc (.cells (rowOf (List.replicate l0.length 0)) 3)).alloc (.cells #[.slice (some ⟨w.heap.size + 1, 0, none⟩) l0.length l0.length] 41)).alloc (.cells #[.int .i64 0] 3)).alloc (.cells #[.slice A0 l0.length c0] 41)) (w.heap.size + 1 + 1 + 1 + 1) 41 (.slice A0 l0.length c0) := by
    have h := Boxed.new ((((w.alloc (.cells #[.int .i64 n] 3)).alloc (.cells (rowOf (List.replicate l0.length 0)) 3)).alloc (.cells #[.slice (some ⟨w.heap.size + 1, 0, none⟩) l0.length l0.length] 41)).alloc (.cells #[.int .i64 0] 3)) 41 (.slice A0 l0.length c0)
    simpa using h
  have hn2 : (n == 0) = false := by rw [beq_eq_false_iff_ne]; omega
  refine wpIn_rangeFunc_ownG rfl (by omega) (gf := 55) (lb := #[.pointer (some ⟨w.heap.size + 1 + 1 + 1 + 1, 0, none⟩)]) rfl trivial (enters_of Tryd.func55 (by kernel_rfl) rfl)
    (back_stops Fence.wide _ trivial rfl (by omega) (w.heap.size + 1 + 1 + 1 + 1) w.heap.size _ l0 (by omega) _ (by simp) (by simp; omega) bN.cell (hI.below hB0)) KeepB.trans (KeepB.putObj (by simp; omega) (by simp)) (Below.refl _ _) (fun _ => rfl)
    (fun pre W => (W.heap[w.heap.size]? = some (.cells #[.int .i64 n] 3 (0, 0)) ∧ W.heap[w.heap.size + 1]? = some (.cells (rowOf (sfold l0 n pre).1) 3 (0, 0)) ∧ W.heap[w.heap.size + 1 + 1]? = some (.cells #[.slice (some ⟨w.heap.size + 1, 0, none⟩) l0.length l0.length] 41 (0, 0)) ∧ W.heap[w.heap.size + 1 + 1 + 1]? = some (.cells #[.int .i64 (sfold l0 n pre).2] 3 (0, 0))) ∧ Below w.heap.size w W)
    (fun _ _ _ => False)
    (OwnFrom.and (Own.from (fun s A B row hs hg hr => by
      have hc : ∀ (k : Nat) c t fz, A.heap[k]? = some (.cells c t fz) → B.heap[k]? = some (.cells c t fz) := by
        intro k c t fz hk
        have hlt : k < A.heap.size := by
          rcases Nat.lt_or_ge k A.heap.size with h' | h'
          · exact h'
          · rw [Array.getElem?_eq_none h'] at hk; cases hk
        rw [hg.block k hlt (fun e => by
          obtain ⟨o, ho, hcell⟩ := hr k e.symm
          rw [hk] at ho
          cases ho
          cases hcell)]
        exact hk
      exact ⟨hc _ _ _ _ hs.1, hc _ _ _ _ hs.2.1, hc _ _ _ _ hs.2.2.1, hc _ _ _ _ hs.2.2.2⟩) _) (ownFrom_below (Nat.le_refl _) (by simp; omega)))
    (fun _ _ _ _ _ hs _ _ => hs)
    ⟨⟨?st0, ?st1, ?st2, ?st3⟩, hB0⟩
    (fun x => { tmps := #[.slice A0 l0.length c0, .int .i64 n, undef, .pointer (some ⟨w.heap.size, 0, none⟩), .slice none 0 0, .slice none 0 0, .pointer (some ⟨w.heap.size + 1 + 1, 0, none⟩), .pointer (some ⟨w.heap.size + 1 + 1 + 1, 0, none⟩), .int .i64 (x.val : Int), .int .i64 (limb l0 x.val), .slice A0 l0.length c0, .int .i64 l0.length, .slice (some ⟨w.heap.size + 1, 0, none⟩) l0.length l0.length, .slice A0 l0.length c0, .func (.func 55) #[] #[.pointer (some ⟨w.heap.size + 1 + 1 + 1 + 1, 0, none⟩)], .int .i64 (x.val : Int), .int .i64 (limb l0 x.val), undef, undef, undef, undef, undef, undef, undef, undef, undef, undef, undef, undef, undef, undef, undef, undef, undef, undef], defers := [] }) ?assign ?body ?done ?stop
  case st0 => exact (((Boxed.new w 3 (.int .i64 n)).alloc _).alloc _).alloc _ |>.alloc _
  case st1 =>
    have h := ((heap_alloc_new (w.alloc (.cells #[.int .i64 n] 3)) (.cells (rowOf (List.replicate l0.length 0)) 3)))
    rw [World.size_alloc] at h
    exact Boxed_alloc (Boxed_alloc (Boxed_alloc h))
  case st2 =>
    have h := Boxed.new ((w.alloc (.cells #[.int .i64 n] 3)).alloc (.cells (rowOf (List.replicate l0.length 0)) 3)) 41 (.slice (some ⟨w.heap.size + 1, 0, none⟩) l0.length l0.length)
    rw [World.size_alloc, World.size_alloc] at h
    exact Boxed_alloc (Boxed_alloc h)
  case st3 =>
    have h := Boxed.new (((w.alloc (.cells #[.int .i64 n] 3)).alloc (.cells (rowOf (List.replicate l0.length 0)) 3)).alloc (.cells #[.slice (some ⟨w.heap.size + 1, 0, none⟩) l0.length l0.length] 41)) 3 (.int .i64 0)
    rw [World.size_alloc, World.size_alloc, World.size_alloc] at h
    exact Boxed_alloc h
  case assign =>
    intro l x W K hK
    dsimp only [item]
    gi_wp2
    exact hK
  case body =>
    rintro l pre x W ⟨⟨h1, h2, h3, h4⟩, hB⟩ hN
    have hx := hR x.val x.isLt
    have hs2 := sfold_rest (l := l0) hn0 pre
    have hs1 := sfold_len (l := l0) (n := n) pre
    have hst := sfold_snoc l0 n pre x
    obtain ⟨o, r, hor⟩ : ∃ o r, sfold l0 n pre = (o, r) := ⟨_, _, rfl⟩
    rw [hor] at h2 h4 hs2 hs1 hst
    dsimp only at h2 h4 hs2 hs1
    obtain ⟨v, hv⟩ : ∃ v, limb l0 x.val = v := ⟨_, rfl⟩
    simp only [sstep, hv] at hst
    rw [hv] at hx ⊢
    have HST := Lib.hid hst
    have HS1 := Lib.hid hs1
    clear hst hor hv hR
    have hxl := x.isLt
    have hlt : x.val < o.length := by rw [hs1]; exact hxl
    clear hs1
    obtain ⟨hx0, hx1⟩ := hx
    obtain ⟨hr0, hr1⟩ := hs2
    have c3 : W.cell? ⟨w.heap.size, 0, none⟩ = some (.int .i64 n) := by simp [World.cell?, h1]
    have c6 : W.cell? ⟨w.heap.size + 1 + 1, 0, none⟩ = some (.slice (some ⟨w.heap.size + 1, 0, none⟩) l0.length l0.length) := by simp [World.cell?, h3]
    have c7 : W.cell? ⟨w.heap.size + 1 + 1 + 1, 0, none⟩ = some (.int .i64 r) := by simp [World.cell?, h4]
    have f7 : W.frozen? ⟨w.heap.size + 1 + 1 + 1, 0, none⟩ = false := by simp [World.frozen?, h4]
    gi_wp2
    obtain ⟨s, hs⟩ : ∃ s, r * 10000 + v = s := ⟨_, rfl⟩
    have hs0 : 0 ≤ s := by omega
    have hs9 : s < 100000000 := by omega
    rw [hs]
    have HSS := Lib.hid hs
    clear hs
    obtain ⟨W1, hW1⟩ : ∃ W1, W.setCell ⟨w.heap.size + 1 + 1 + 1, 0, none⟩ (.int .i64 s) = W1 := ⟨_, rfl⟩
    have g1 : W1.heap[w.heap.size]? = some (.cells #[.int .i64 n] 3 (0, 0)) := by rw [← hW1]; exact blk_far h1 (by simp; omega) _
    have g2 : W1.heap[w.heap.size + 1]? = some (.cells (rowOf o) 3 (0, 0)) := by rw [← hW1]; exact blk_far h2 (by simp) _
    have g3 : W1.heap[w.heap.size + 1 + 1]? = some (.cells #[.slice (some ⟨w.heap.size + 1, 0, none⟩) l0.length l0.length] 41 (0, 0)) := by rw [← hW1]; exact blk_far h3 (by simp) _
    have g4 : W1.heap[w.heap.size + 1 + 1 + 1]? = some (.cells #[.int .i64 s] 3 (0, 0)) := by rw [← hW1]; exact blk_set h4 0 _
    have kB : KeepB w.heap.size (w.heap.size + 1 + 1 + 1 + 1) W W1 := by
      rw [← hW1]
      exact ⟨(Below.refl _ _).setCell (p := ⟨w.heap.size + 1 + 1 + 1, 0, none⟩) (by simp; omega) _, Below.heap_setCell _ _ _ _ (by simp)⟩
    have kF : KeepsFrom (((((w.alloc (.cells #[.int .i64 n] 3)).alloc (.cells (rowOf (List.replicate l0.length 0)) 3)).alloc (.cells #[.slice (some ⟨w.heap.size + 1, 0, none⟩) l0.length l0.length] 41)).alloc (.cells #[.int .i64 0] 3)).alloc (.cells #[.slice A0 l0.length c0] 41)).heap.size W W1 := by
      rw [← hW1]
      exact (KeepsOthers.setCell _ _ _).from _
    rw [hW1]
    clear hW1 h1 h2 h3 h4 c3 c6 c7 f7
    have c3 : W1.cell? ⟨w.heap.size, 0, none⟩ = some (.int .i64 n) := by simp [World.cell?, g1]
    have c6 : W1.cell? ⟨w.heap.size + 1 + 1, 0, none⟩ = some (.slice (some ⟨w.heap.size + 1, 0, none⟩) l0.length l0.length) := by simp [World.cell?, g3]
    have c7 : W1.cell? ⟨w.heap.size + 1 + 1 + 1, 0, none⟩ = some (.int .i64 s) := by simp [World.cell?, g4]
    have c2 : W1.cell? ⟨w.heap.size + 1, x.val, none⟩ = some (.int .i64 (limb o x.val)) := (blk_cell g2 _).trans (rowOf_get o _ hlt)
    have f2 : W1.frozen? ⟨w.heap.size + 1, x.val, none⟩ = false := blk_frozen g2 _
    have HST2 : Hid (sfold l0 n (pre ++ [x]) = (o.set x.val (s / n), s % n)) := by
      have h := HST.out
      rw [HSS.out] at h
      exact h
    obtain ⟨W2, hW2, d3, d7, e7, fin⟩ : ∃ W2, (W1.setCell ⟨w.heap.size + 1, x.val, none⟩ (.int .i64 (s / n))).drew = W2 ∧ W2.cell? ⟨w.heap.size, 0, none⟩ = some (.int .i64 n) ∧ W2.cell? ⟨w.heap.size + 1 + 1 + 1, 0, none⟩ = some (.int .i64 s) ∧ W2.frozen? ⟨w.heap.size + 1 + 1 + 1, 0, none⟩ = false ∧
        (KeepsFrom (((((w.alloc (.cells #[.int .i64 n] 3)).alloc (.cells (rowOf (List.replicate l0.length 0)) 3)).alloc (.cells #[.slice (some ⟨w.heap.size + 1, 0, none⟩) l0.length l0.length] 41)).alloc (.cells #[.int .i64 0] 3)).alloc (.cells #[.slice A0 l0.length c0] 41)).heap.size W (W2.setCell ⟨w.heap.size + 1 + 1 + 1, 0, none⟩ (.int .i64 (s % n))) ∧
          KeepB w.heap.size (w.heap.size + 1 + 1 + 1 + 1) W (W2.setCell ⟨w.heap.size + 1 + 1 + 1, 0, none⟩ (.int .i64 (s % n))) ∧
          ((W2.setCell ⟨w.heap.size + 1 + 1 + 1, 0, none⟩ (.int .i64 (s % n))).heap[w.heap.size]? = some (.cells #[.int .i64 n] 3 (0, 0)) ∧ (W2.setCell ⟨w.heap.size + 1 + 1 + 1, 0, none⟩ (.int .i64 (s % n))).heap[w.heap.size + 1]? = some (.cells (rowOf (sfold l0 n (pre ++ [x])).1) 3 (0, 0)) ∧ (W2.setCell ⟨w.heap.size + 1 + 1 + 1, 0, none⟩ (.int .i64 (s % n))).heap[w.heap.size + 1 + 1]? = some (.cells #[.slice (some ⟨w.heap.size + 1, 0, none⟩) l0.length l0.length] 41 (0, 0)) ∧ (W2.setCell ⟨w.heap.size + 1 + 1 + 1, 0, none⟩ (.int .i64 (s % n))).heap[w.heap.size + 1 + 1 + 1]? = some (.cells #[.int .i64 (sfold l0 n (pre ++ [x])).2] 3 (0, 0))) ∧ Below w.heap.size w (W2.setCell ⟨w.heap.size + 1 + 1 + 1, 0, none⟩ (.int .i64 (s % n)))) := by
      refine ⟨_, rfl, ?_⟩
      have q1 : ((W1.setCell ⟨w.heap.size + 1, x.val, none⟩ (.int .i64 (s / n))).drew).heap[w.heap.size]? = some (.cells #[.int .i64 n] 3 (0, 0)) := blk_far g1 (by simp) _
      have q2 : ((W1.setCell ⟨w.heap.size + 1, x.val, none⟩ (.int .i64 (s / n))).drew).heap[w.heap.size + 1]? = some (.cells (rowOf (o.set x.val (s / n))) 3 (0, 0)) := by
        have h := blk_set g2 x.val (.int .i64 (s / n))
        rw [rowOf_set] at h
        exact h
      have q3 : ((W1.setCell ⟨w.heap.size + 1, x.val, none⟩ (.int .i64 (s / n))).drew).heap[w.heap.size + 1 + 1]? = some (.cells #[.slice (some ⟨w.heap.size + 1, 0, none⟩) l0.length l0.length] 41 (0, 0)) := blk_far g3 (by simp) _
      have q4 : ((W1.setCell ⟨w.heap.size + 1, x.val, none⟩ (.int .i64 (s / n))).drew).heap[w.heap.size + 1 + 1 + 1]? = some (.cells #[.int .i64 s] 3 (0, 0)) := blk_far g4 (by simp; omega) _
      have qB : KeepB w.heap.size (w.heap.size + 1 + 1 + 1 + 1) W1 ((W1.setCell ⟨w.heap.size + 1, x.val, none⟩ (.int .i64 (s / n))).drew) := ⟨((Below.refl _ _).setCell (p := ⟨w.heap.size + 1, x.val, none⟩) (by simp) _).drew, Below.heap_setCell _ _ _ _ (by simp; omega)⟩
      have qF := (KeepsOthers.setCell W1 ⟨w.heap.size + 1, x.val, none⟩ (.int .i64 (s / n))).trans (KeepsOthers.drew _)
      generalize (W1.setCell ⟨w.heap.size + 1, x.val, none⟩ (.int .i64 (s / n))).drew = W2 at q1 q2 q3 q4 qB qF ⊢
      have kB2 : KeepB w.heap.size (w.heap.size + 1 + 1 + 1 + 1) W2 (W2.setCell ⟨w.heap.size + 1 + 1 + 1, 0, none⟩ (.int .i64 (s % n))) := ⟨(Below.refl _ _).setCell (p := ⟨w.heap.size + 1 + 1 + 1, 0, none⟩) (by simp; omega) _, Below.heap_setCell _ _ _ _ (by simp)⟩
      rw [HST2.out]
      exact ⟨by simp [World.cell?, q1], by simp [World.cell?, q4], by simp [World.frozen?, q4], (kF.trans (qF.from _)).trans ((KeepsOthers.setCell _ _ _).from _), (kB.trans qB).trans kB2,
        ⟨blk_far q1 (by simp; omega) _, blk_far q2 (by simp) _, blk_far q3 (by simp) _, blk_set q4 0 _⟩, hB.trans ((kB.low.trans qB.low).trans kB2.low)⟩
    clear g1 g3 g4 g2
    have HW2 := Lib.hid hW2
    clear hW2
    have hne : ¬ n = 0 := by omega
    have mixed : Tryd.prog.follows .mixedOrders = true := by kernel_rfl
    have hq0 : 0 ≤ s / n := Int.ediv_nonneg hs0 (by omega)
    have hq1 : s / n ≤ s := Int.ediv_le_self _ hs0
    have ht1 : s.tdiv n = s / n := Int.tdiv_eq_ediv_of_nonneg hs0
    have ht2 : IntKind.i64.wrap (s / n) = s / n := by rw [IntKind.wrap_i64]; omega
    have ht5 : 0 ≤ s % n := Int.emod_nonneg _ (by omega)
    have ht6 : s % n < n := Int.emod_lt_of_pos _ (by omega)
    have ht3 : s.tmod n = s % n := Int.tmod_eq_emod_of_nonneg hs0
    have ht4 : IntKind.i64.wrap (s % n) = s % n := by rw [IntKind.wrap_i64]; omega
    --REGION
    gi_region_o
    all_goals
      rw [HW2.out]
      gi_wp2
      exact fin
    --END
  case done =>
    rintro D ys W hD hys ⟨⟨h1, h2, h3, h4⟩, hB⟩ hK
    gi_wp2
    have hfold : sfold l0 n ys = shortL l0 n := by unfold sfold shortL; rw [hys]
    have hs2 := sfold_rest (l := l0) hn0 ys
    have hs1 := sfold_len (l := l0) (n := n) ys
    obtain ⟨o, r, hor⟩ : ∃ o r, shortL l0 n = (o, r) := ⟨_, _, rfl⟩
    rw [hfold, hor] at h2 h4 hs1 hs2
    dsimp only at h2 h4 hs1 hs2
    have HS1 := Lib.hid hs1
    have HOR := Lib.hid hor
    clear hfold hor hs1 hys hR hmk hI
    have hD' : w.heap.size + 1 + 1 + 1 + 1 < D := by simp at hD; omega
    have c6 : W.cell? ⟨w.heap.size + 1 + 1, 0, none⟩ = some (.slice (some ⟨w.heap.size + 1, 0, none⟩) l0.length l0.length) := by simp [World.cell?, h3]
    have c7 : W.cell? ⟨w.heap.size + 1 + 1 + 1, 0, none⟩ = some (.int .i64 r) := by simp [World.cell?, h4]
    have hsz := hB.size
    have hlen : o.length ≤ 9223372036854775807 := by rw [HS1.out]; omega
    have hcap : o.length ≤ l0.length := by rw [HS1.out]; exact Nat.le_refl _
    have hlt6 : w.heap.size + 1 + 1 < W.heap.size := blk_lt h3
    have hlt7 : w.heap.size + 1 + 1 + 1 < W.heap.size := blk_lt h4
    have c6a : ∀ o, (W.drew.alloc o).cell? ⟨w.heap.size + 1 + 1, 0, none⟩ = some (.slice (some ⟨w.heap.size + 1, 0, none⟩) l0.length l0.length) := fun o => (World.cell?_alloc_lt _ _ _ hlt6).trans c6
    have c7a : ∀ o, (W.drew.alloc o).cell? ⟨w.heap.size + 1 + 1 + 1, 0, none⟩ = some (.int .i64 r) := fun o => (World.cell?_alloc_lt _ _ _ hlt7).trans c7
    have hr1 : ((W.alloc (.cells #[.int .i64 r] 3)).drew).heap[W.heap.size]? = some (.cells (rowOf [r]) 3 (0, 0)) := Boxed.new W 3 (.int .i64 r)
    clear h1 h3 h4
    have mixed : Tryd.prog.follows .mixedOrders = true := by kernel_rfl
    have tok1 : True := trivial
    first | gi_region_with_o (refine ⟨trivial, ?_⟩; gi_at_call 44; first | (have _t := tok1; clear _t tok1; refine (trim_at _ _ _ o HS1.out.symm hlen hcap _ (fun _ => ⟨_, rfl, row_cells (by with_reducible (repeat (first | exact h2 | refine Boxed_alloc ?_ | refine row_drew ?_ | refine row_drewN ?_ | refine row_far ?_ (by simp; omega))))⟩)).mono ?_; rintro e w' ⟨rfl, rfl⟩) | (refine (trim_at _ _ _ [r] rfl (by simp) (by simp) _ (fun _ => ⟨_, rfl, row_cells hr1⟩)).mono ?_; rintro e w' ⟨rfl, rfl⟩)) | fail
    all_goals
      have hKf : ((W.alloc (.cells #[.int .i64 r] 3)).drew).heap[D]? = some (.deferred (some [])) := Boxed_alloc hK
      have h2f : ((W.alloc (.cells #[.int .i64 r] 3)).drew).heap[w.heap.size + 1]? = some (.cells (rowOf o) 3 (0, 0)) := Boxed_alloc h2
      have hrf : ((W.alloc (.cells #[.int .i64 r] 3)).drew).heap[W.heap.size]? = some (.cells (rowOf [r]) 3 (0, 0)) := Boxed.new W 3 (.int .i64 r)
      have hBf : Below w.heap.size w ((W.alloc (.cells #[.int .i64 r] 3)).drew) := (hB.alloc hsz _).drew
      have hDl : D < W.heap.size := blk_lt hK
      have ht1 : (trimL o).length ≤ o.length := by
        have h := congrArg List.length (trimL_prefix o)
        rw [List.length_take] at h
        omega
      have ht2 : (trimL [r]).length ≤ 1 := by
        have h := congrArg List.length (trimL_prefix [r])
        rw [List.length_take] at h
        simp only [List.length_cons, List.length_nil] at h
        omega
      generalize (W.alloc (.cells #[.int .i64 r] 3)).drew = Wf at hKf h2f hrf hBf ⊢
      gi_wp2
      refine ⟨by simp, .inl ⟨_, _, rfl, run_takeDeferred hKf, ?_⟩⟩
      refine ⟨.tuple #[.slice (some ⟨w.heap.size + 1, 0, none⟩) (trimL o).length l0.length, .slice (some ⟨W.heap.size, 0, none⟩) (trimL [r]).length 1], ?_, .slice (some ⟨w.heap.size + 1, 0, none⟩) (trimL o).length l0.length, .slice (some ⟨W.heap.size, 0, none⟩) (trimL [r]).length 1, rfl, ?_, ?_, hBf.trans (belowK_b (w := w) (Nat.le_refl _) _ D _ _ (by omega) hKf rfl rfl)⟩
      · simp [results, Tryd.f48, go_sem]
      · rw [HOR.out]
        exact V_of_row (row_put h2f (by omega)) (by omega) (trimL_prefix o) ht1 (Nat.le_trans ht1 hcap) hlen
      · rw [HOR.out]
        exact V_of_row (row_put hrf (by omega)) (by omega) (trimL_prefix [r]) ht2 ht2 (by simp)
  case stop =>
    rintro D c pre W _ _ h _
    exact h.elim

/-- nat.short, as the printed callers want it. -/
def nat_short.f (l0 : List Int) (a1 : Int) : Option (List Int × List Int) := if limbsOk l0 = true ∧ l0.length ≤ 17592186044416 ∧ 0 < a1 ∧ a1 ≤ 10000 then some (trimL (shortL l0 a1).1, trimL [(shortL l0 a1).2]) else none
theorem nat_short.calls (A0 : Option Addr) (c0 : Nat) (l0 : List Int) (a1 : Int) (r1 r2 : List Int) (w : World) (hr0 : Kd.C (Kd.int .i64) w A0 l0.length l0) (hc0 : l0.length ≤ c0) (h : nat_short.f l0 a1 = some (r1, r2)) :
    Calls Tryd.prog 48 #[.slice A0 l0.length c0, .int .i64 a1] w fun e w' => ∃ v0_ v1_ : Value, e = .returned (.tuple #[v0_, v1_]) ∧ Kd.V (Kd.int .i64) 3 w' w.heap.size (fun k_ => (w.heap.size ≤ k_)) v0_ r1 ∧ Kd.V (Kd.int .i64) 3 w' w.heap.size (fun k_ => (w.heap.size ≤ k_)) v1_ r2 ∧ Below w.heap.size w w' := by
  unfold nat_short.f at h
  split at h
  · rename_i hp
    cases h
    exact short_walk A0 c0 l0 a1 hp.2.2.1 hp.2.2.2 hp.2.1 (limbsIn_of_ok hp.1) w (intsAt_of_C hr0)
  · cases h
end Go.Proofs.YtmcpiejgneegjaaDoor

end

/-
A label to which a goto leads back, walked as a loop is: an invariant that bears a number.
-/
section
set_option linter.unusedVariables false
namespace Go

/-- From a goto to l the rest, by any number of jumps, comes to Q: the least such. -/
def Redo (P : Program) (l : Nat) (X : Code) (Q : Exit → Act → World → Prop) (a : Act) (w : World) : Prop :=
  ∀ R : Act → World → Prop, (∀ a w, X.wp P (Exit.jump l R Q) a w → R a w) → R a w

theorem Exit.jump_mono {l : Nat} {J J' : Act → World → Prop} {Q : Exit → Act → World → Prop} (h : ∀ a w, J a w → J' a w) : ∀ e a w, Exit.jump l J Q e a w → Exit.jump l J' Q e a w := by
  intro e a w hq
  cases e <;> first | exact hq | exact ⟨hq.1, h _ _ hq.2⟩

theorem Redo.fold {P : Program} {l : Nat} {X : Code} {Q : Exit → Act → World → Prop} {a : Act} {w : World} (h : X.wp P (Exit.jump l (Redo P l X Q) Q) a w) : Redo P l X Q a w :=
  fun R hR => hR a w (Code.wp_mono (Exit.jump_mono fun a w hr => hr R hR) h)

theorem wp_scope_redo {P : Program} {a : Act} {w : World} {Q : Exit → Act → World → Prop} {c rest : Code} (l : Nat) (hf : findLabel c l = some rest)
    (first : c.wp P (Exit.jump l (Redo P l rest Q) Q) a w) : (Code.scope c).wp P Q a w := by
  intro b k cs
  have hg : gotoIn l (.inScope c :: k) = some (.code rest :: .inScope c :: k) := by simp [gotoIn, hf]
  have out : ∀ (s : Machine) (J : Act → World → Prop), (∀ a' w', J a' w' → ∃ e a'' w'', Q e a'' w'' ∧ Arrives P (lone (b.at a' (.code rest :: .inScope c :: k)) cs w') b k cs e a'' w'') →
      ∀ e a₁ w₁, Exit.jump l J Q e a₁ w₁ → Arrives P s b (.inScope c :: k) cs e a₁ w₁ → ∃ e a'' w'', Q e a'' w'' ∧ Arrives P s b k cs e a'' w'' := by
    intro s J hJ e a₁ w₁ hq harr
    cases e with
    | normal => exact ⟨.normal, a₁, w₁, hq, Steps.trans harr (.one step_inScope)⟩
    | exit id => exact ⟨.exit id, a₁, w₁, hq, fun k' hk => harr k' (by simp [exitTo, hk])⟩
    | goto l' =>
      obtain ⟨rfl, hr⟩ := hq
      obtain ⟨e₂, a₂, w₂, hq₂, harr₂⟩ := hJ a₁ w₁ hr
      exact ⟨e₂, a₂, w₂, hq₂, .of_steps (harr _ hg) harr₂⟩
    | ret => exact ⟨_, a₁, w₁, hq, harr⟩
    | panic ch => exact ⟨_, a₁, w₁, hq, harr⟩
    | outgrown => exact ⟨_, a₁, w₁, hq, harr⟩
  obtain ⟨e, a₁, w₁, hq, harr⟩ := first b (.inScope c :: k) cs
  obtain ⟨e₂, a₂, w₂, hq₂, harr₂⟩ := out _ (Redo P l rest Q) (fun a' w' hr => hr (fun a' w' => ∃ e a'' w'', Q e a'' w'' ∧ Arrives P (lone (b.at a' (.code rest :: .inScope c :: k)) cs w') b k cs e a'' w'')
    (fun a₂ w₂ hx => by
      obtain ⟨e, a₃, w₃, hq, harr⟩ := hx b (.inScope c :: k) cs
      exact out _ _ (fun a' w' h => h) e a₃ w₃ hq harr)) e a₁ w₁ hq harr
  exact ⟨e₂, a₂, w₂, hq₂, .of_steps (.one step_scope) harr₂⟩

/-- By a goto to l: K; by no other way. -/
def Exit.only (l : Nat) (K : Act → World → Prop) : Exit → Act → World → Prop
  | .goto l', a, w => l' = l ∧ K a w
  | _, _, _ => False
theorem Exit.only_intro {l : Nat} {K : Act → World → Prop} {a : Act} {w : World} (h : K a w) : Exit.only l K (.goto l) a w := ⟨rfl, h⟩

/-- At the label: the invariant bears a number that every jump lowers. -/
theorem wp_label_ghost_k {P : Program} {Q : Exit → Act → World → Prop} {a : Act} {w : World} {X : Code} {l : Nat} (I : Nat → Act → World → Prop) (n₀ : Nat) (h₀ : I n₀ a w)
    (round : ∀ n a w, I n a w → ∀ (J : Nat → Act → World → Prop) (K G : Act → World → Prop), (∀ k a' w', I k a' w' → J k a' w') → (∀ a' w', Q .normal a' w' → K a' w') → (∀ a' w', Handed J n a' w' → G a' w') → X.wp P (Exit.then K (Exit.only l G)) a w) :
    X.wp P (Exit.jump l (Redo P l (Code.skip.seq X) Q) Q) a w := by
  induction n₀ using Nat.strongRecOn generalizing a w with
  | _ n ih =>
    refine Code.wp_mono ?_ (round n a w h₀ I (Q .normal) (Handed I n) (fun _ _ _ q => q) (fun _ _ q => q) (fun _ _ q => q))
    intro e a' w' hq
    cases e with
    | goto l' =>
      obtain ⟨rfl, k, hk, hI⟩ := hq
      exact ⟨rfl, Redo.fold (wp_seq_k fun K hK => wp_skip (hK _ _ (ih k hk hI)))⟩
    | normal => exact hq
    | exit id => exact hq.elim
    | ret => exact hq.elim
    | panic ch => exact hq.elim
    | outgrown => exact hq.elim

end Go

end

/-
strconv.Atoi at a text that spells an int, as the printed callers want it.
-/
section
set_option linter.unusedVariables false
namespace Go.Proofs.YtmcpiejgneegjaaDoor
open Go.RowKit Go.Proofs.YtmcpiejgneegjaaDoorW.PrintWords Go.Proofs.YtmcpiejgneegjaaDoorW.PrintLast Go.Proofs.YtmcpiejgneegjaaDoorW.PrintMore

def strconv_Atoi.f (a0 : ByteArray) : Option (Int × Option Int) := if a0.size ≤ 9223372036854775806 then (match Lib.atoiAll a0.data.toList with | .ok v => some (v, none) | _ => none) else none
theorem strconv_Atoi.calls (a0 : ByteArray) (r1 : Int) (r2 : Option Int) (w : World) (h : strconv_Atoi.f a0 = some (r1, r2)) :
    Calls Tryd.prog 37 #[.string a0] w fun e w' => e = .returned (.tuple #[.int .i64 r1, .nilIface]) ∧ Below w.heap.size w w' := by
  unfold strconv_Atoi.f at h
  split at h
  · rename_i hs
    split at h
    · rename_i v hv
      cases h
      refine (Tryd.strconv_Atoi_ok a0 hs r1 hv w).mono ?_
      rintro e w' ⟨rfl, h⟩
      refine ⟨rfl, ?_⟩
      rcases h with rfl | ⟨t, rfl⟩
      · exact Below.refl _ _
      · exact bytes_below (Below.refl _ _) (Nat.le_refl _) _ _
    · cases h
  · cases h
end Go.Proofs.YtmcpiejgneegjaaDoor

end

-- Written by wip/pp.py of this place (over the kit's print) out of the translation.
section
namespace Go.Proofs.YtmcpiejgneegjaaDoor.Pn
open Go.RowKit Go.Proofs.YtmcpiejgneegjaaDoorW.PrintWords Go.Proofs.YtmcpiejgneegjaaDoorW.PrintLast Go.Proofs.YtmcpiejgneegjaaDoorW.PrintMore
attribute [local go_sem] max2_int min2_int max_two min_two max_three min_three max_four min_four   -- for this text's walks alone
set_option linter.unusedVariables false
set_option linter.unusedSimpArgs false



def errW : Option Int → Value
  | none => .nilIface
  | some c => .iface 0 (.int .i64 c)
theorem errW_none : errW none = .nilIface := rfl
theorem errW_some (c : Int) : errW (some c) = .iface 0 (.int .i64 c) := rfl

theorem info3 : (Tryd.prog.info? 3).map (fun i => (i.zero, i.size, i.bytes)) = some (some (.int .i64 0), 1, 8) := by kernel_rfl
-- the values' own types

end Go.Proofs.YtmcpiejgneegjaaDoor.Pn

end
